/- Layer 22z's functions as plain Lean functions: K stands for calls that come back, n bounds the rounds of loops. Made by a program. -/
import Derived.Test.YtocgkfoifehcbaaGreatRdGt
namespace Go.Proofs.YtocgkfoifehcbaaGreat
open Go.RowKit
set_option maxRecDepth 20000
set_option linter.all false
noncomputable section
abbrev dn:=List ae
abbrev dO:=List aw
abbrev d6:=List ab
abbrev d7:=List az
abbrev eb:=List aI
abbrev ee:=List aZ
abbrev em:=List bC
abbrev g6:=ab×Int
abbrev h8:=List ce
def Ba(K:Kn)(n:Nat)(a v2:d6)(c:Fv)(b:Int→Option Bool)(v5:Int):Option Bool:=if (decide (v5<(a.length:Int))) then aE (aO v5 a.length) (aE (aO v5 v2.length) ((K.pP c (List.getD a v5.toNat default) (List.getD v2 v5.toNat default)).bind fun v6=>if (!v6) then some false else b (aa (v5+1)))) else some true
def sr(K:Kn)(n:Nat)(a v2:d6)(b:Fv):Nat→Int→Option Bool
 | 0=>fun _=>none
 | m+1=>Ba K n a v2 b (sr K n a v2 b m)
def zP(K:Kn)(n:Nat)(a v2:d6)(b:Fv):Option Bool:=if ((a.length:Int) != (v2.length:Int)) then some false else sr K n a v2 b n 0
def lz(K:Kn)(n:Nat)(v4:Bool):Option Bool:=some v4
def pi(K:Kn)(n:Nat)(a v2:ab):Option Bool:=if (a.Kind == v2.Kind) then if (a.Node == v2.Node) then if (lO a.Style v2.Style) then if (a.Text.toList == v2.Text.toList) then if (a.Rows == v2.Rows) then if (a.Cols == v2.Cols) then (zP K n a.Kids v2.Kids (Fv.fn 27)).bind fun b=>lz K n b else lz K n false else lz K n false else lz K n false else lz K n false else lz K n false else lz K n false
def qJ(K:Kn)(n:Nat)(a:dn):Option dn:=om (List.isEmpty a) (aE (fits (([]:dn).length+a.length) 584) (some (([]:dn)++a)))
def yX(K:Kn)(n:Nat)(b:ae)(v2:dn)(a:Int→dn→Option ae)(v4:Int)(v5:dn):Option ae:=if (decide (v4<(v2.length:Int))) then aE (aO v4 v5.length) ((K.xC (List.getD v5 v4.toNat default)).bind fun v6=>aE (aO v4 v5.length) (a (aa (v4+1)) (List.set v5 v4.toNat v6))) else some ({ b with Kids:=v5 }:ae)
def vx(K:Kn)(n:Nat)(a:ae)(v2:dn):Nat→Int→dn→Option ae
 | 0=>fun _ _=>none
 | m+1=>yX K n a v2 (vx K n a v2 m)
def oJ(K:Kn)(n:Nat)(a:ae):Option ae:=(qJ K n a.Kids).bind fun v2=>vx K n a v2 n 0 v2
def w7(K:Kn)(n:Nat)(f:ab)(v2 e v4:Int)(v5:dO)(c:Int)(d:Int→Option (ae×Bool×Int×Int×dO))(a:Bool):Option (ae×Bool×Int×Int×dO):=if a then (oJ K n ((List.getD v5 c.toNat default).Fragment)).bind fun b=>some (b,true,e,v4,v5) else d (aa (c+1))
def zx(K:Kn)(n:Nat)(b:ab)(v2 d v4:Int)(v5:dO)(e:Int→Option (ae×Bool×Int×Int×dO))(a:Int):Option (ae×Bool×Int×Int×dO):=if (decide (a<(v5.length:Int))) then aE (aO a v5.length) (if (((List.getD v5 a.toNat default).Width) == v2) then (pi K n ((List.getD v5 a.toNat default).Box) b).bind fun c=>w7 K n b v2 d v4 v5 a e c else w7 K n b v2 d v4 v5 a e false) else some (bT,false,d,v4,v5)
def sH(K:Kn)(n:Nat)(a:ab)(v2 b v4:Int)(v5:dO):Nat→Int→Option (ae×Bool×Int×Int×dO)
 | 0=>fun _=>none
 | m+1=>zx K n a v2 b v4 v5 (sH K n a v2 b v4 v5 m)
def Bb(K:Kn)(n:Nat)(a:ab)(v2 b v4:Int)(v5:dO):Option (ae×Bool×Int×Int×dO):=sH K n a v2 b v4 v5 n 0
def B5(K:Kn)(n:Nat)(v6:ae×Bool×Int×Int×dO)(a:Int):Option (ae×Bool×Int×Int×dO):=some (v6.1,v6.2.1,v6.2.2.1,a,v6.2.2.2.2)
def zZ(K:Kn)(n:Nat)(a:ab)(v2 b v4:Int)(v5:dO):Option (ae×Bool×Int×Int×dO):=(Bb K n a v2 b v4 v5).bind fun v6=>if v6.2.1=true then B5 K n v6 (aa (v6.2.2.2.1+1)) else B5 K n v6 v6.2.2.2.1
def yZ(K:Kn)(n:Nat)(a:ab)(v2:Int)(c:ae)(v4 v5:Int)(v6:dO):Option (Int×Int×dO):=(oJ K n c).bind fun b=>aE (fits (v6.length+([(⟨a,v2,b⟩:aw)]:dO).length) 1112) (some ((aa (v4+1)),v5,(v6++[(⟨a,v2,b⟩:aw)])))
def gO(K:Kn)(n:Nat)(a:Int):Option Int:=some (min (max a 0) 1048576)
def su(K:Kn)(n:Nat)(v4:Int):Option (Int×Bool):=some ((min (max v4 (-1048576)) 1048576),true)
def dN(K:Kn)(n:Nat)(a:cB)(v2:Int):Option (Int×Bool):=if (a.Kind == 1) then su K n a.Value else if (a.Kind == 2) then (gO K n v2).bind fun b=>su K n (aa (Int.tdiv (aa (b*(min (max a.Value (-1000000)) 1000000))) 10000)) else some (0,false)
def jA(K:Kn)(n:Nat)(a:aN)(v2 h:Int):Option bW:=(dN K n a.Margin.a0 v2).bind fun v4=>(gO K n a.Border.a0).bind fun v5=>(dN K n a.Padding.a0 v2).bind fun v6=>(dN K n a.Margin.a1 v2).bind fun i=>(gO K n a.Border.a1).bind fun j=>(dN K n a.Padding.a1 v2).bind fun k=>(dN K n a.Margin.a2 v2).bind fun b=>(gO K n a.Border.a2).bind fun c=>(dN K n a.Padding.a2 v2).bind fun d=>(dN K n a.Margin.a3 v2).bind fun e=>(gO K n a.Border.a3).bind fun f=>(dN K n a.Padding.a3 v2).bind fun g=>some (⟨⟨v4.1,i.1,b.1,e.1⟩,⟨v5,j,c,f⟩,⟨(max v6.1 0),(max k.1 0),(max d.1 0),(max g.1 0)⟩,h⟩:bW)
def kH(K:Kn)(n:Nat)(a:bW):Option Int:=some (aa ((aa ((aa ((aa ((aa ((aa (a.Content+a.Margin.a1))+a.Margin.a3))+a.Border.a1))+a.Border.a3))+a.Padding.a1))+a.Padding.a3))
def xV(K:Kn)(n:Nat)(a:Int):Option Int:=some a
def Ao(K:Kn)(n:Nat)(a:aN)(v2 v5:Int):Option Int:=(dN K n a.MinWidth v2).bind fun v6=>if v6.2=true then xV K n (max v5 v6.1) else xV K n v5
def mT(K:Kn)(n:Nat)(a:aN)(v2 b:Int):Option Int:=(dN K n a.MaxWidth v2).bind fun v4=>if v4.2=true then Ao K n a v2 (min (max b 0) (max v4.1 0)) else Ao K n a v2 (max b 0)
def px(K:Kn)(n:Nat)(v4:bW)(b:Int)(a:V4 Int):Option bW:=some ({ v4 with Margin:=a,Content:=b }:bW)
def xE(K:Kn)(n:Nat)(a:Int)(v4:bW)(c b:Int)(d e:Int×Bool)(f:Bool):Option bW:=if f then px K n v4 c ⟨v4.Margin.a0,(aa ((aa (a-b))-(aa (Int.tdiv (aa (a-b)) 2)))),v4.Margin.a2,(aa (Int.tdiv (aa (a-b)) 2))⟩ else if (!d.2) then px K n v4 c ⟨v4.Margin.a0,v4.Margin.a1,v4.Margin.a2,(aa (a-b))⟩ else if (!e.2) then px K n v4 c ⟨v4.Margin.a0,(aa (a-b)),v4.Margin.a2,v4.Margin.a3⟩ else px K n v4 c v4.Margin
def tv(K:Kn)(n:Nat)(e:aN)(c:Int)(v4:bW)(g:Int):Option bW:=(mT K n e c g).bind fun d=>(kH K n ({ v4 with Content:=d }:bW)).bind fun f=>if (decide ((aa (c-f))≤0)) then some ({ v4 with Content:=d }:bW) else (dN K n e.Margin.a3 c).bind fun a=>(dN K n e.Margin.a1 c).bind fun b=>if (!a.2) then xE K n c v4 d f a b (!b.2) else xE K n c v4 d f a b false
def qe(K:Kn)(n:Nat)(b:aN)(v2:Int):Option bW:=(gO K n v2).bind fun a=>(jA K n b a 0).bind fun v4=>(dN K n b.Width a).bind fun v5=>if (!v5.2) then (kH K n v4).bind fun v6=>tv K n b a v4 (aa (a-v6)) else tv K n b a v4 v5.1
def m5(K:Kn)(n:Nat)(a:Int):Option bc:=some (⟨(max a 0),(min a 0)⟩:bc)
def mA(K:Kn)(n:Nat)(a:cB)(v2 b:Int):Option Int:=(dN K n a v2).bind fun v4=>if v4.2=true then some v4.1 else some b
def uB(K:Kn)(n:Nat)(v2 g:Int)(v4:Fv)(c a:Int)(b:ck)(e f:Int→ck→Option ck)(d:Bool):Option ck:=if d then aE (aO (aa (a-1)) b.length) (aE (aO a b.length) (aE (aO a b.length) (aE (aO (aa (a-1)) (List.set b a.toNat (List.getD b ((aa (a-1))).toNat default)).length) (f (aa (a-1)) (List.set (List.set b a.toNat (List.getD b ((aa (a-1))).toNat default)) ((aa (a-1))).toNat (List.getD b a.toNat default)))))) else e (aa (c+1)) b
def yt(K:Kn)(n:Nat)(v2 g:Int)(v4:Fv)(c:Int)(e f:Int→ck→Option ck)(a:Int)(b:ck):Option ck:=if (decide (a>v2)) then aE (aO a b.length) (aE (aO (aa (a-1)) b.length) ((K.rX v4 (List.getD b a.toNat default) (List.getD b ((aa (a-1))).toNat default)).bind fun d=>uB K n v2 g v4 c a b e f (decide (d<0)))) else uB K n v2 g v4 c a b e f false
def uJ(K:Kn)(n:Nat)(v2 c:Int)(v4:Fv)(a:Int)(b:Int→ck→Option ck):Nat→Int→ck→Option ck
 | 0=>fun _ _=>none
 | m+1=>yt K n v2 c v4 a b (uJ K n v2 c v4 a b m)
def t6(K:Kn)(n:Nat)(v2 c:Int)(v4:Fv)(d:Int→ck→Option ck)(a:Int)(b:ck):Option ck:=if (decide (a<c)) then uJ K n v2 c v4 a d n a b else some b
def ou(K:Kn)(n:Nat)(v2 a:Int)(v4:Fv):Nat→Int→ck→Option ck
 | 0=>fun _ _=>none
 | m+1=>t6 K n v2 a v4 (ou K n v2 a v4 m)
def sZ(K:Kn)(n:Nat)(a:ck)(v2 b:Int)(v4:Fv):Option ck:=ou K n v2 b v4 n (aa (v2+1)) a
def Cg(K:Kn)(n:Nat)(v2:Int)(d:Fv)(e:ck)(a:Int)(b:Int→Option ck)(c:Option ck):Option ck:=if (decide ((aa (2*a))≤v2)) then none else if (decide ((aa (0+a))<v2)) then none else b (aa (a*2))
def De(K:Kn)(n:Nat)(v2:Int)(c:Fv)(d:ck)(a:Int)(b:Int→Option ck):Nat→Option ck
 | 0=>none
 | m+1=>Cg K n v2 c d a b (De K n v2 c d a b m)
def yA(K:Kn)(n:Nat)(v2:Int)(d:Fv)(b:ck)(c:Int→Option ck)(a:Int):Option ck:=if (decide (a<v2)) then De K n v2 d b a c n else some b
def xL(K:Kn)(n:Nat)(v2:Int)(a:Fv)(b:ck):Nat→Int→Option ck
 | 0=>fun _=>none
 | m+1=>yA K n v2 a b (xL K n v2 a b m)
def Bf(K:Kn)(n:Nat)(v2:Int)(a:Fv)(c:Int→Int→ck→Option ck)(v5 v6:Int)(b:ck):Option ck:=if (decide (v6≤v2)) then (sZ K n b v5 v6 a).bind fun d=>c v6 (aa (v6+20)) d else (sZ K n b v5 v2 a).bind fun e=>xL K n v2 a e n 20
def yd(K:Kn)(n:Nat)(v2:Int)(a:Fv):Nat→Int→Int→ck→Option ck
 | 0=>fun _ _ _=>none
 | m+1=>Bf K n v2 a (yd K n v2 a m)
def DD(K:Kn)(n:Nat)(a:ck)(v2:Int)(b:Fv):Option ck:=yd K n v2 b n 0 20 a
def lT(K:Kn)(n:Nat)(a:ck)(v2:Fv):Option ck:=(DD K n a (a.length:Int) v2).bind fun b=>some b
def zl(K:Kn)(n:Nat)(v2:Bool):Option Bool:=some v2
def jU(K:Kn)(n:Nat)(a:ab):Option Bool:=if (a.Kind == 3) then zl K n true else zl K n (a.Style.Position != 2)
def wA(K:Kn)(n:Nat)(a:Int):Option Bool:=some (a != a)
def tE(K:Kn)(n:Nat)(a v2:Int):Option Int:=(wA K n a).bind fun b=>(wA K n v2).bind fun v4=>if b then if v4 then some 0 else some (-1) else if v4 then some 1 else if (decide (a<v2)) then some (-1) else if (decide (a>v2)) then some 1 else some 0
def zA(K:Kn)(n:Nat)(b v2:Int)(a:d6):Option Int:=aE (aO b a.length) (aE (aO v2 a.length) ((tE K n (((List.getD a b.toNat default).Style).Order) (((List.getD a v2.toNat default).Style).Order)).bind fun v4=>some v4))
def zH(K:Kn)(n:Nat)(c:d6)(v6:Int)(a:Int→ck→Option ck)(b:ck):Option ck:=a (aa (v6+1)) b
def zT(K:Kn)(n:Nat)(a:d6)(d:Int→ck→Option ck)(v6:Int)(b:ck):Option ck:=if (decide (v6<(a.length:Int))) then aE (aO v6 a.length) ((jU K n (List.getD a v6.toNat default)).bind fun e=>if e then aE (fits (b.length+([v6]:ck).length) 8) (zH K n a v6 d (b++[v6])) else zH K n a v6 d b) else (lT K n b (Fv.c172 a)).bind fun c=>some c
def tY(K:Kn)(n:Nat)(a:d6):Nat→Int→ck→Option ck
 | 0=>fun _ _=>none
 | m+1=>zT K n a (tY K n a m)
def rV(K:Kn)(n:Nat)(a:d6):Option ck:=tY K n a n 0 []
def Ab(K:Kn)(n:Nat)(b:ab)(v2:ck)(c:Int→d6→Option d6)(a:Int)(v4:d6):Option d6:=if (decide (a<(v2.length:Int))) then aE (aO a v2.length) (aE (aO (List.getD v2 a.toNat default) b.Kids.length) (aE (fits (v4.length+([(List.getD b.Kids ((List.getD v2 a.toNat default)).toNat default)]:d6).length) 520) (c (aa (a+1)) (v4++[(List.getD b.Kids ((List.getD v2 a.toNat default)).toNat default)])))) else some v4
def uY(K:Kn)(n:Nat)(a:ab)(v2:ck):Nat→Int→d6→Option d6
 | 0=>fun _ _=>none
 | m+1=>Ab K n a v2 (uY K n a v2 m)
def kU(K:Kn)(n:Nat)(a:ab):Option d6:=(rV K n a.Kids).bind fun v2=>uY K n a v2 n 0 []
def gz(K:Kn)(n:Nat)(a:bc):Option Int:=some (aa (a.Pos+a.Neg))
def wt(K:Kn)(n:Nat)(a:ae):Option Int:=if a.Empty=true then some 0 else (gz K n a.After).bind fun v2=>some v2
def iu(K:Kn)(n:Nat)(a v2:Int):Option Int:=some (min (max a 0) v2)
def AC(K:Kn)(n:Nat)(a:bC):Option bC:=(iu K n a.aB 1048576).bind fun v2=>(iu K n a.Grow 1048576).bind fun b=>(iu K n a.Shrink 1048576).bind fun v4=>(iu K n a.Min 1048576).bind fun v5=>(iu K n a.Max 1048576).bind fun v6=>some (⟨v2,b,v4,v5,(max v6 v5)⟩:bC)
def pN(K:Kn)(n:Nat)(a:bC)(v2:Int):Option Int:=some (min (max v2 a.Min) a.Max)
def wj(K:Kn)(n:Nat)(a:bC):Option Int:=(AC K n a).bind fun v2=>(pN K n v2 v2.aB).bind fun b=>some b
def ye(K:Kn)(n:Nat)(b v2:Int)(a:ck):Option Int:=aE (aO v2 a.length) (aE (aO b a.length) ((tE K n (List.getD a v2.toNat default) (List.getD a b.toNat default)).bind fun v4=>some v4))
def Bg(K:Kn)(n:Nat)(e:ck→Int→Int→ck→Option ck)(b:ck)(d a:Int)(c:ck):Option ck:=if (decide (a<d)) then aE (aO a b.length) (aE (aO (List.getD b a.toNat default) c.length) (aE (aO (List.getD b a.toNat default) c.length) (e b d (aa (a+1)) (List.set c ((List.getD b a.toNat default)).toNat (aa ((List.getD c ((List.getD b a.toNat default)).toNat default)+1)))))) else some c
def ql(K:Kn)(n:Nat):Nat→ck→Int→Int→ck→Option ck
 | 0=>fun _ _ _ _=>none
 | m+1=>Bg K n (ql K n m)
def xp(K:Kn)(n:Nat)(v2:ck)(k i:Int)(l:Int→Int→ck→ck→ck→Option ck)(b a:Int)(c d e:ck):Option ck:=if (decide (a<(v2.length:Int))) then aE (aO a v2.length) ((iu K n (List.getD v2 a.toNat default) 2147483647).bind fun h=>aE ((i != 0)) (aE ((i != 0)) (aE (aO a c.length) (aE (aO a d.length) (aE (aO a e.length) ((some (List.set c a.toNat (aa (Int.tdiv (aa (k*h)) i)))).bind fun f=>(some (List.set d a.toNat (Int.tmod (aa (k*h)) i))).bind fun j=>aE (aO a f.length) (l (aa (b-(List.getD f a.toNat default))) (aa (a+1)) f j (List.set e a.toNat a)))))))) else (lT K n e (Fv.c165 d)).bind fun g=>aE (cF (0:Int) b g.length) (ql K n n (List.drop ((0:Int)).toNat (List.take b.toNat g)) ((List.drop ((0:Int)).toNat (List.take b.toNat g)).length:Int) 0 c)
def qE(K:Kn)(n:Nat)(v2:ck)(a b:Int):Nat→Int→Int→ck→ck→ck→Option ck
 | 0=>fun _ _ _ _ _=>none
 | m+1=>xp K n v2 a b (qE K n v2 a b m)
def A1(K:Kn)(n:Nat)(v2:ck)(d:Int)(v4 v5 v6:ck)(e:Int→Int→Option ck)(c a:Int):Option ck:=if (decide (a<(v2.length:Int))) then aE (aO a v2.length) ((iu K n (List.getD v2 a.toNat default) 2147483647).bind fun b=>e (aa (c+b)) (aa (a+1))) else if (c == 0) then some v4 else qE K n v2 d c n d 0 v4 v5 v6
def s6(K:Kn)(n:Nat)(v2:ck)(a:Int)(v4 v5 v6:ck):Nat→Int→Int→Option ck
 | 0=>fun _ _=>none
 | m+1=>A1 K n v2 a v4 v5 v6 (s6 K n v2 a v4 v5 v6 m)
def yi(K:Kn)(n:Nat)(a:Int)(v2:ck):Option ck:=(iu K n a 2147483647).bind fun b=>aE (fw (v2.length:Int) 8) ((some (List.replicate ((v2.length:Int)).toNat (0:Int))).bind fun v4=>aE (fw (v2.length:Int) 8) ((some (List.replicate ((v2.length:Int)).toNat (0:Int))).bind fun v5=>aE (fw (v2.length:Int) 8) ((some (List.replicate ((v2.length:Int)).toNat (0:Int))).bind fun v6=>s6 K n v2 b v4 v5 v6 n 0 0)))
def xQ(K:Kn)(n:Nat)(g:ee)(h a:Int)(f:Int→Int→Int→ck→ck→Option (Bool×ee))(b c:Int)(d e:ck):Option (Bool×ee):=f b c (aa (a+1)) d e
def xz(K:Kn)(n:Nat)(d:ck)(e:Int)(f:ck)(a:Int)(c:Int→ee→Option (Bool×ee))(b:ee):Option (Bool×ee):=c (aa (a+1)) b
def nE(K:Kn)(n:Nat)(a:ck)(d:Int)(e:ck)(b:Int)(c:ee)(f:Int)(h:Int→ee→Option (Bool×ee))(g:Bool):Option (Bool×ee):=if g then aE (decide (((List.getD a b.toNat default)).toNat<c.length)) (xz K n a d e b h (List.set (List.set c ((List.getD a b.toNat default)).toNat ({ (List.getD c ((List.getD a b.toNat default)).toNat default)with size:=f }:aZ)) ((List.getD a b.toNat default)).toNat ({ (List.getD (List.set c ((List.getD a b.toNat default)).toNat ({ (List.getD c ((List.getD a b.toNat default)).toNat default)with size:=f }:aZ)) ((List.getD a b.toNat default)).toNat default)with fixed:=true }:aZ))) else xz K n a d e b h c
def AK(K:Kn)(n:Nat)(c:ck)(d:Int)(b:ck)(g:Int→ee→Option (Bool×ee))(a:Int)(e:ee):Option (Bool×ee):=if (decide (a<(c.length:Int))) then aE (aO a c.length) (aE (aO (List.getD c a.toNat default) e.length) (aE (aO a b.length) ((pN K n ((List.getD e ((List.getD c a.toNat default)).toNat default).Item) (List.getD b a.toNat default)).bind fun f=>if (d == 0) then nE K n c d b a e f g true else if (decide (d>0)) then aE (aO a b.length) (if (decide (f>(List.getD b a.toNat default))) then nE K n c d b a e f g true else if (decide (d<0)) then aE (aO a b.length) (nE K n c d b a e f g (decide (f<(List.getD b a.toNat default)))) else nE K n c d b a e f g false) else if (decide (d<0)) then aE (aO a b.length) (nE K n c d b a e f g (decide (f<(List.getD b a.toNat default)))) else nE K n c d b a e f g false))) else some (true,e)
def rd(K:Kn)(n:Nat)(a:ck)(b:Int)(c:ck):Nat→Int→ee→Option (Bool×ee)
 | 0=>fun _ _=>none
 | m+1=>AK K n a b c (rd K n a b c m)
def wY(K:Kn)(n:Nat)(e:ee)(i:Int)(b:ck)(h:Int→Int→ck→Option (Bool×ee))(f a:Int)(c:ck):Option (Bool×ee):=if (decide (a<(b.length:Int))) then aE (aO a b.length) (aE (aO (List.getD b a.toNat default) e.length) (aE (aO a c.length) (aE (aO a c.length) ((some (List.set c a.toNat (aa ((((List.getD e ((List.getD b a.toNat default)).toNat default).Item).aB)+(aa (i*(List.getD c a.toNat default))))))).bind fun d=>aE (aO (List.getD b a.toNat default) e.length) (aE (aO a d.length) ((pN K n ((List.getD e ((List.getD b a.toNat default)).toNat default).Item) (List.getD d a.toNat default)).bind fun g=>aE (aO a d.length) (h (aa (f+(aa (g-(List.getD d a.toNat default))))) (aa (a+1)) d))))))) else rd K n b f c n 0 e
def tZ(K:Kn)(n:Nat)(b:ee)(c:Int)(a:ck):Nat→Int→Int→ck→Option (Bool×ee)
 | 0=>fun _ _ _=>none
 | m+1=>wY K n b c a (tZ K n b c a m)
def uu(K:Kn)(n:Nat)(e:ee)(f:Int)(a b:ck)(c:Int):Option (Bool×ee):=(yi K n c b).bind fun d=>tZ K n e f a n 0 0 d
def zk(K:Kn)(n:Nat)(b:ee)(g:Int)(j:Int→Int→Int→ck→ck→Option (Bool×ee))(d e a:Int)(c f:ck):Option (Bool×ee):=if (decide (a<(b.length:Int))) then aE (aO a b.length) (if (List.getD b a.toNat default).fixed=true then xQ K n b g a j (aa (d-((List.getD b a.toNat default).size))) e c f else (some (aa (d-(((List.getD b a.toNat default).Item).aB)))).bind fun h=>(some (aa (e+((List.getD b a.toNat default).factor)))).bind fun i=>aE (fits (c.length+([a]:ck).length) 8) (aE (fits (f.length+([(List.getD b a.toNat default).weight]:ck).length) 8) (xQ K n b g a j h i (c++[a]) (f++[(List.getD b a.toNat default).weight])))) else if ((c.length:Int) == 0) then some (false,b) else if (decide (e<1000)) then uu K n b g c f (aa ((aa ((aa (Int.tdiv (max (aa (d*g)) 0) 1000))*e))+(aa (Int.tdiv (aa ((Int.tmod (max (aa (d*g)) 0) 1000)*e)) 1000)))) else uu K n b g c f (max (aa (d*g)) 0)
def sI(K:Kn)(n:Nat)(a:ee)(b:Int):Nat→Int→Int→Int→ck→ck→Option (Bool×ee)
 | 0=>fun _ _ _ _ _=>none
 | m+1=>zk K n a b (sI K n a b m)
def tQ(K:Kn)(n:Nat)(a:ee)(v2 b:Int):Option (Bool×ee):=sI K n a b n v2 0 0 [] []
def xX(K:Kn)(n:Nat)(f:Int)(d:ee)(e a:Int)(c:Int→ee→Option ck)(b:ee):Option ck:=c (aa (a+1)) b
def Bj(K:Kn)(n:Nat)(f:Int)(c:ee)(d a:Int)(e:Int→ee→Option ck)(b:ee):Option ck:=aE (decide (a.toNat<b.length)) (if (List.getD b a.toNat default).fixed=true then xX K n f c d a e (List.set b a.toNat ({ (List.getD b a.toNat default)with fixed:=true }:aZ)) else xX K n f c d a e (List.set b a.toNat ({ (List.getD b a.toNat default)with fixed:=(((List.getD b a.toNat default).factor) == 0) }:aZ)))
def yl(K:Kn)(n:Nat)(b:Bool×ee)(d:Int→ck→Option ck)(a:Int)(c:ck):Option ck:=if (decide (a<(b.2.length:Int))) then aE (aO a b.2.length) (aE (aO a c.length) (d (aa (a+1)) (List.set c a.toNat ((List.getD b.2 a.toNat default).size)))) else some c
def ul(K:Kn)(n:Nat)(a:Bool×ee):Nat→Int→ck→Option ck
 | 0=>fun _ _=>none
 | m+1=>yl K n a (ul K n a m)
def zg(K:Kn)(n:Nat)(f b:Int)(e:ee→Option ck)(c:ee):Option ck:=(tQ K n c f b).bind fun a=>if a.1=true then e a.2 else aE (fw (a.2.length:Int) 8) ((some (List.replicate ((a.2.length:Int)).toNat (0:Int))).bind fun d=>ul K n a n 0 d)
def rf(K:Kn)(n:Nat)(b a:Int):Nat→ee→Option ck
 | 0=>fun _=>none
 | m+1=>zg K n b a (rf K n b a m)
def xc(K:Kn)(n:Nat)(g:Int)(f:ee)(c:Int)(h:Int→ee→Option ck)(a:Int)(b:ee):Option ck:=if (decide (a<(f.length:Int))) then aE (aO a b.length) (if (decide (c>0)) then (some (List.set (List.set b a.toNat ({ (List.getD b a.toNat default)with factor:=((List.getD b a.toNat default).Item).Grow }:aZ)) a.toNat ({ (List.getD (List.set b a.toNat ({ (List.getD b a.toNat default)with factor:=((List.getD b a.toNat default).Item).Grow }:aZ)) a.toNat default)with weight:=((List.getD b a.toNat default).Item).Grow }:aZ))).bind fun d=>Bj K n g f c a h (List.set d a.toNat ({ (List.getD d a.toNat default)with fixed:=(decide ((((List.getD d a.toNat default).Item).aB)>((List.getD d a.toNat default).size))) }:aZ)) else (some (List.set (List.set b a.toNat ({ (List.getD b a.toNat default)with factor:=((List.getD b a.toNat default).Item).Shrink }:aZ)) a.toNat ({ (List.getD (List.set b a.toNat ({ (List.getD b a.toNat default)with factor:=((List.getD b a.toNat default).Item).Shrink }:aZ)) a.toNat default)with weight:=(aa (Int.tdiv (aa ((((List.getD b a.toNat default).Item).aB)*(((List.getD b a.toNat default).Item).Shrink))) 1000)) }:aZ))).bind fun e=>Bj K n g f c a h (List.set e a.toNat ({ (List.getD e a.toNat default)with fixed:=(decide ((((List.getD e a.toNat default).Item).aB)<((List.getD e a.toNat default).size))) }:aZ))) else rf K n g c n b
def vP(K:Kn)(n:Nat)(c:Int)(a:ee)(b:Int):Nat→Int→ee→Option ck
 | 0=>fun _ _=>none
 | m+1=>xc K n c a b (vP K n c a b m)
def uq(K:Kn)(n:Nat)(c:Int)(a:ee)(b:Int):Option ck:=vP K n c a b n 0 a
def yf(K:Kn)(n:Nat)(d:em)(g:Int)(i:Int→Int→ee→Option ck)(h b:Int)(a:ee):Option ck:=if (decide (b<(d.length:Int))) then aE (aO b d.length) ((AC K n (List.getD d b.toNat default)).bind fun e=>(wj K n (List.getD d b.toNat default)).bind fun f=>aE (aO b a.length) ((some (List.set a b.toNat ({ iL with Item:=e,size:=f }:aZ))).bind fun c=>aE (aO b c.length) (i (aa (h+((List.getD c b.toNat default).size))) (aa (b+1)) c))) else if (decide (h<g)) then uq K n g a 1 else uq K n g a (-1)
def sg(K:Kn)(n:Nat)(a:em)(b:Int):Nat→Int→Int→ee→Option ck
 | 0=>fun _ _ _=>none
 | m+1=>yf K n a b (sg K n a b m)
def jy(K:Kn)(n:Nat)(a:em)(v2:Int):Option ck:=(some (min (max v2 (-1125899906842624)) 1125899906842624)).bind fun b=>aE (fw (a.length:Int) 72) ((some (List.replicate ((a.length:Int)).toNat (iL:aZ))).bind fun v4=>sg K n a b n 0 0 v4)
def oC(K:Kn)(n:Nat)(t:ab)(v2:Int)(u:bz)(v:d6)(o p:Int)(i:ck)(j:em)(k c:ck)(l:dn)(b:ae×Int×Int×dO)(a f g:Int)(s:Int→Int→ck→em→ck→ck→dn→Int→Int→dO→Option (dn×Int×Int×Int×dO))(h:Int):Option (dn×Int×Int×Int×dO):=aE (fits (j.length+([(⟨h,f,g,0,1048576⟩:bC)]:em).length) 40) ((some (j++[(⟨h,f,g,0,1048576⟩:bC)])).bind fun q=>aE (fits (k.length+([a]:ck).length) 8) ((gz K n b.1.Before).bind fun d=>(wt K n b.1).bind fun e=>aE (fits (c.length+([(aa ((aa (d+e))+a))]:ck).length) 8) (aE (aO (aa (((c++[(aa ((aa (d+e))+a))]).length:Int)-1)) (c++[(aa ((aa (d+e))+a))]).length) ((some (aa (o-(List.getD (c++[(aa ((aa (d+e))+a))]) ((aa (((c++[(aa ((aa (d+e))+a))]).length:Int)-1))).toNat default)))).bind fun r=>(wj K n (⟨h,f,g,0,1048576⟩:bC)).bind fun m=>aE (fits (i.length+([m]:ck).length) 8) (aE (fits (l.length+([b.1]:dn).length) 584) (s r (aa (p+1)) (i++[m]) q (k++[a]) (c++[(aa ((aa (d+e))+a))]) (l++[b.1]) b.2.1 b.2.2.1 b.2.2.2))))))
def xG(K:Kn)(n:Nat)(f g:ck)(h:dn)(i j:Int)(k:dO)(c:ck)(o:Int→Int→dn→Option (dn×Int×Int×Int×dO))(e a:Int)(d:dn):Option (dn×Int×Int×Int×dO):=if (decide (a<(h.length:Int))) then aE (aO a c.length) (aE (aO a f.length) (aE (aO a d.length) ((some (List.set d a.toNat ({ (List.getD d a.toNat default)with H:=(aa ((List.getD c a.toNat default)+(List.getD f a.toNat default))) }:ae))).bind fun b=>aE (aO a b.length) ((gz K n ((List.getD b a.toNat default).Before)).bind fun l=>aE (aO a b.length) ((some (List.set b a.toNat ({ (List.getD b a.toNat default)with Y:=(aa (e+l)) }:ae))).bind fun m=>aE (aO a c.length) (aE (aO a g.length) (o (aa (e+(aa ((List.getD c a.toNat default)+(List.getD g a.toNat default))))) (aa (a+1)) m))))))) else some (d,e,i,j,k)
def rU(K:Kn)(n:Nat)(a b:ck)(c:dn)(d e:Int)(f:dO)(g:ck):Nat→Int→Int→dn→Option (dn×Int×Int×Int×dO)
 | 0=>fun _ _ _=>none
 | m+1=>xG K n a b c d e f g (rU K n a b c d e f g m)
def kh(K:Kn)(n:Nat)(b c:ck)(a:dn)(d e:Int)(f:dO)(g:ck):Option (dn×Int×Int×Int×dO):=rU K n b c a d e f g n 0 0 a
def yc(K:Kn)(n:Nat)(r:ab)(v2:Int)(s:bz)(c:d6)(x:Int→Int→ck→em→ck→ck→dn→Int→Int→dO→Option (dn×Int×Int×Int×dO))(g a:Int)(h:ck)(i:em)(d e:ck)(f:dn)(j k:Int)(l:dO):Option (dn×Int×Int×Int×dO):=if (decide (a<(c.length:Int))) then aE (aO a c.length) ((K.dr s.Layout (List.getD c a.toNat default) v2 j k l).bind fun m=>(jA K n ((List.getD c a.toNat default).Style) v2 0).bind fun b=>(some (aa ((aa ((aa (b.Border.a0+b.Border.a2))+b.Padding.a0))+b.Padding.a2))).bind fun o=>(some (((((List.getD c a.toNat default).Style).Basis).Kind) == 1)).bind fun t=>(some (aa (m.1.H-(aa ((aa ((aa (b.Border.a0+b.Border.a2))+b.Padding.a0))+b.Padding.a2))))).bind fun u=>(some (((List.getD c a.toNat default).Style).Grow)).bind fun p=>(some (((List.getD c a.toNat default).Style).Shrink)).bind fun q=>if t then (mA K n (((List.getD c a.toNat default).Style).Basis) 0 0).bind fun v=>oC K n r v2 s c g a h i d e f m o p q x v else oC K n r v2 s c g a h i d e f m o p q x u) else if (r.Style.Height.Kind == 1) then (jy K n i g).bind fun w=>kh K n d e f j k l w else kh K n d e f j k l h
def kJ(K:Kn)(n:Nat)(a:ab)(v2:Int)(b:bz)(c:d6):Nat→Int→Int→ck→em→ck→ck→dn→Int→Int→dO→Option (dn×Int×Int×Int×dO)
 | 0=>fun _ _ _ _ _ _ _ _ _ _=>none
 | m+1=>yc K n a v2 b c (kJ K n a v2 b c m)
def Bh(K:Kn)(n:Nat)(a:ab)(v2:Int)(b:bz)(v4 v5:Int)(v6:dO):Option (dn×Int×Int×Int×dO):=(mA K n a.Style.Height 0 0).bind fun c=>(kU K n a).bind fun d=>kJ K n a v2 b d n (max c 0) 0 [] [] [] [] [] v4 v5 v6
def wb(K:Kn)(n:Nat)(d:ck)(v2 v4:Int)(a:Int→Int→ck→Option ck)(b:Int)(c:ck):Option ck:=a b (aa (v4+1)) c
def vc(K:Kn)(n:Nat)(a:ck)(v2 v4:Int)(v5:ck)(v6:Int)(b:Int→Int→ck→Option ck)(c:Bool):Option ck:=if c then aE (fits (v5.length+([v4]:ck).length) 8) (wb K n a v2 v4 b (List.getD a v4.toNat default) (v5++[v4])) else wb K n a v2 v4 b v6 v5
def tc(K:Kn)(n:Nat)(a:ck)(v2:Int)(b:Int→Int→ck→Option ck)(c v4:Int)(v5:ck):Option ck:=if (decide (v4<(a.length:Int))) then aE (aO v4 a.length) ((some (aa (c+(List.getD a v4.toNat default)))).bind fun v6=>if (v4 == 0) then vc K n a v2 v4 v5 v6 b true else vc K n a v2 v4 v5 v6 b (decide (v6>v2))) else some v5
def rj(K:Kn)(n:Nat)(a:ck)(v2:Int):Nat→Int→Int→ck→Option ck
 | 0=>fun _ _ _=>none
 | m+1=>tc K n a v2 (rj K n a v2 m)
def rh(K:Kn)(n:Nat)(a:ck)(v2:Int):Option ck:=rj K n a v2 n 0 0 []
def yM(K:Kn)(n:Nat)(b:ab)(v2:Int)(a:V4 cB):Option ab:=some ({ b with Style:=({ b.Style with Width:=(⟨1,v2⟩:cB),MinWidth:=ci,MaxWidth:=ci,Margin:=a }:aN) }:ab)
def wF(K:Kn)(n:Nat)(b:ab)(v2:Int)(a:V4 cB):Option ab:=(dN K n b.Style.Margin.a3 0).bind fun c=>if (!c.2) then yM K n b v2 ⟨a.a0,a.a1,a.a2,({ ci with Kind:=1 }:cB)⟩ else yM K n b v2 a
def sT(K:Kn)(n:Nat)(a:ab)(v2:Int)(v6:V4 cB):Option ab:=(dN K n a.Style.Margin.a2 0).bind fun b=>if (!b.2) then wF K n a v2 ⟨v6.a0,v6.a1,({ ci with Kind:=1 }:cB),v6.a3⟩ else wF K n a v2 v6
def vQ(K:Kn)(n:Nat)(a:ab)(v2:Int)(v4:V4 cB):Option ab:=(dN K n a.Style.Margin.a1 0).bind fun v5=>if (!v5.2) then sT K n a v2 ⟨v4.a0,({ ci with Kind:=1 }:cB),v4.a2,v4.a3⟩ else sT K n a v2 v4
def AW(K:Kn)(n:Nat)(a:ab)(v2:Int):Option ab:=(dN K n a.Style.Margin.a0 0).bind fun b=>if (!b.2) then vQ K n a v2 ⟨({ ci with Kind:=1 }:cB),a.Style.Margin.a1,a.Style.Margin.a2,a.Style.Margin.a3⟩ else vQ K n a v2 a.Style.Margin
def wv(K:Kn)(n:Nat)(o:ab)(v2:Int)(p:bz)(v4 v5:Int)(v6:dO)(q:d6)(a:Int)(d:em)(b e:ck)(c f g h i:Int)(m:Int→em→ck→ck→Option (dn×Int×Int×Int×dO))(j:Int):Option (dn×Int×Int×Int×dO):=aE (aO a d.length) ((some (List.set d a.toNat (⟨j,h,i,f,g⟩:bC))).bind fun k=>(wj K n (⟨j,h,i,f,g⟩:bC)).bind fun l=>aE (aO a (List.set b a.toNat c).length) (aE (aO a e.length) (m (aa (a+1)) k (List.set b a.toNat c) (List.set e a.toNat (aa (l+(List.getD (List.set b a.toNat c) a.toNat default)))))))
def Ax(K:Kn)(n:Nat)(s:ab)(v2:Int)(k:bz)(v4 v5:Int)(v6:dO)(j:d6)(a:Int)(b:em)(c d:ck)(e f g h i:Int)(r:Int→em→ck→ck→Option (dn×Int×Int×Int×dO))(l:Int)(m:Bool):Option (dn×Int×Int×Int×dO):=if (!m) then (K.gy k.Widths (List.getD j a.toNat default)).bind fun o=>(jA K n ((List.getD j a.toNat default).Style) 0 0).bind fun p=>(kH K n p).bind fun q=>wv K n s v2 k v4 v5 v6 j a b c d e f g h i r (aa (o.2-q)) else wv K n s v2 k v4 v5 v6 j a b c d e f g h i r l
def xK(K:Kn)(n:Nat)(v2:Int)(y:bz)(u:d6)(x:em)(t h:ck)(e c:Int)(d:ck)(v:Int→Int→dn→Int→Int→dO→Option (dn×Int×Int×Int×dO))(w:Int→Int→Int→dn→Int→Int→dO→Option (dn×Int×Int×Int×dO))(f i b:Int)(g:dn)(j k:Int)(l:dO):Option (dn×Int×Int×Int×dO):=if (decide (b<(d.length:Int))) then aE (aO b d.length) (aE (aO (aa ((List.getD h c.toNat default)+b)) u.length) ((AW K n (List.getD u ((aa ((List.getD h c.toNat default)+b))).toNat default) (List.getD d b.toNat default)).bind fun o=>(K.dr y.Layout o v2 j k l).bind fun a=>(gz K n a.1.Before).bind fun p=>(wt K n a.1).bind fun q=>(some (max i (aa ((aa (p+a.1.H))+q)))).bind fun r=>(gz K n a.1.Before).bind fun m=>aE (aO (aa ((List.getD h c.toNat default)+b)) t.length) ((some (aa (f+(aa ((List.getD d b.toNat default)+(List.getD t ((aa ((List.getD h c.toNat default)+b))).toNat default)))))).bind fun s=>aE (fits (g.length+([({ a.1 with X:=(aa (a.1.X+f)),Y:=(aa (e+m)) }:ae)]:dn).length) 584) (w s r (aa (b+1)) (g++[({ a.1 with X:=(aa (a.1.X+f)),Y:=(aa (e+m)) }:ae)]) a.2.1 a.2.2.1 a.2.2.2)))) else v (aa (e+i)) (aa (c+1)) g j k l
def pC(K:Kn)(n:Nat)(v2:Int)(h:bz)(i:d6)(d:em)(e f:ck)(a b:Int)(c:ck)(g:Int→Int→dn→Int→Int→dO→Option (dn×Int×Int×Int×dO)):Nat→Int→Int→Int→dn→Int→Int→dO→Option (dn×Int×Int×Int×dO)
 | 0=>fun _ _ _ _ _ _ _=>none
 | m+1=>xK K n v2 h i d e f a b c g (pC K n v2 h i d e f a b c g m)
def yo(K:Kn)(n:Nat)(v2:Int)(s:bz)(t:d6)(g:em)(p h:ck)(i b:Int)(j:dn)(k l:Int)(m:dO)(d:Int)(q:Int→Int→dn→Int→Int→dO→Option (dn×Int×Int×Int×dO))(r:Int→ck→Int→Int→Option (dn×Int×Int×Int×dO))(e:Int)(c:ck)(f a:Int):Option (dn×Int×Int×Int×dO):=if (decide (a<f)) then aE (aO a c.length) (r (aa (e-(List.getD c a.toNat default))) c f (aa (a+1))) else aE (cF (List.getD h b.toNat default) d g.length) ((jy K n (List.drop ((List.getD h b.toNat default)).toNat (List.take d.toNat g)) e).bind fun o=>pC K n v2 s t g p h i b o q n 0 0 0 j k l m)
def rD(K:Kn)(n:Nat)(v2:Int)(l:bz)(o:d6)(h:em)(i j:ck)(a b:Int)(c:dn)(d e:Int)(f:dO)(g:Int)(k:Int→Int→dn→Int→Int→dO→Option (dn×Int×Int×Int×dO)):Nat→Int→ck→Int→Int→Option (dn×Int×Int×Int×dO)
 | 0=>fun _ _ _ _=>none
 | m+1=>yo K n v2 l o h i j a b c d e f g k (rD K n v2 l o h i j a b c d e f g k m)
def mY(K:Kn)(n:Nat)(v2:Int)(l:bz)(m:d6)(j:em)(c d:ck)(e a:Int)(f:dn)(g h:Int)(i:dO)(k:Int→Int→dn→Int→Int→dO→Option (dn×Int×Int×Int×dO))(b:Int):Option (dn×Int×Int×Int×dO):=aE (cF (List.getD d a.toNat default) b c.length) (rD K n v2 l m j c d e a f g h i b k n v2 (List.drop ((List.getD d a.toNat default)).toNat (List.take b.toNat c)) ((List.drop ((List.getD d a.toNat default)).toNat (List.take b.toNat c)).length:Int) 0)
def xl(K:Kn)(n:Nat)(v2:Int)(m:bz)(k:d6)(i:em)(j b:ck)(l:Int→Int→dn→Int→Int→dO→Option (dn×Int×Int×Int×dO))(c a:Int)(d:dn)(e f:Int)(g:dO):Option (dn×Int×Int×Int×dO):=if (decide (a<(b.length:Int))) then aE (aO a b.length) ((some (decide ((aa (a+1))<(b.length:Int)))).bind fun h=>if h then aE (aO (aa (a+1)) b.length) (mY K n v2 m k i j b c a d e f g l (List.getD b ((aa (a+1))).toNat default)) else mY K n v2 m k i j b c a d e f g l (k.length:Int)) else some (d,c,e,f,g)
def iZ(K:Kn)(n:Nat)(v2:Int)(d:bz)(e:d6)(a:em)(b c:ck):Nat→Int→Int→dn→Int→Int→dO→Option (dn×Int×Int×Int×dO)
 | 0=>fun _ _ _ _ _ _=>none
 | m+1=>xl K n v2 d e a b c (iZ K n v2 d e a b c m)
def mg(K:Kn)(n:Nat)(v2:Int)(d:bz)(v4 v5:Int)(v6:dO)(e:d6)(a:em)(b c:ck):Option (dn×Int×Int×Int×dO):=iZ K n v2 d e a b c n 0 0 [] v4 v5 v6
def xN(K:Kn)(n:Nat)(o:ab)(v2:Int)(m:bz)(v4 v5:Int)(v6:dO)(b:d6)(r:Int→em→ck→ck→Option (dn×Int×Int×Int×dO))(a:Int)(d:em)(c e:ck):Option (dn×Int×Int×Int×dO):=if (decide (a<(b.length:Int))) then aE (aO a b.length) ((jA K n ((List.getD b a.toNat default).Style) v2 0).bind fun p=>(kH K n p).bind fun g=>aE (aO a c.length) ((mA K n (((List.getD b a.toNat default).Style).MinWidth) v2 0).bind fun h=>(mA K n (((List.getD b a.toNat default).Style).MaxWidth) v2 1048576).bind fun i=>(some (((List.getD b a.toNat default).Style).Grow)).bind fun j=>(some (((List.getD b a.toNat default).Style).Shrink)).bind fun k=>(dN K n (((List.getD b a.toNat default).Style).Basis) v2).bind fun f=>if (!f.2) then (dN K n (((List.getD b a.toNat default).Style).Width) v2).bind fun l=>Ax K n o v2 m v4 v5 v6 b a d c e g h i j k r l.1 l.2 else Ax K n o v2 m v4 v5 v6 b a d c e g h i j k r f.1 f.2)) else if o.Style.Wrap=true then (rh K n e v2).bind fun q=>mg K n v2 m v4 v5 v6 b d c q else mg K n v2 m v4 v5 v6 b d c [0]
def oW(K:Kn)(n:Nat)(a:ab)(v2:Int)(b:bz)(v4 v5:Int)(v6:dO)(c:d6):Nat→Int→em→ck→ck→Option (dn×Int×Int×Int×dO)
 | 0=>fun _ _ _ _=>none
 | m+1=>xN K n a v2 b v4 v5 v6 c (oW K n a v2 b v4 v5 v6 c m)
def Au(K:Kn)(n:Nat)(c:ab)(v2:Int)(d:bz)(v4 v5:Int)(v6:dO):Option (dn×Int×Int×Int×dO):=(kU K n c).bind fun a=>aE (fw (a.length:Int) 40) ((some (List.replicate ((a.length:Int)).toNat (jP:bC))).bind fun e=>aE (fw (a.length:Int) 8) ((some (List.replicate ((a.length:Int)).toNat (0:Int))).bind fun f=>aE (fw (a.length:Int) 8) ((some (List.replicate ((a.length:Int)).toNat (0:Int))).bind fun b=>oW K n c v2 d v4 v5 v6 a n 0 e f b)))
def zw(K:Kn)(n:Nat)(a:ae)(b:Int×Bool)(v5:Int):Option ae:=some ({ a with X:=(aa (a.X+b.1)),Y:=v5 }:ae)
def uK(K:Kn)(n:Nat)(a:ae)(v2:Int):Option ae:=if (a.Style.Position != 1) then some a else (dN K n a.Style.Left v2).bind fun b=>if (a.Style.Top.Kind == 1) then (dN K n a.Style.Top 0).bind fun v4=>zw K n a b (aa (a.Y+v4.1)) else zw K n a b a.Y
def xR(K:Kn)(n:Nat)(m:ab)(e:bW)(p q:bc)(f:dn)(g h:Int)(i:dO)(j k:Int)(o:Int→dn→Option (ae×Int×Int×dO))(a:Int)(b:dn):Option (ae×Int×Int×dO):=if (decide (a<(f.length:Int))) then aE (aO a b.length) (aE (aO a b.length) ((some (List.set b a.toNat ({ (List.getD b a.toNat default)with X:=(aa (((List.getD b a.toNat default).X)+(aa (e.Border.a3+e.Padding.a3)))) }:ae))).bind fun c=>aE (aO a c.length) (aE (aO a c.length) ((some (List.set c a.toNat ({ (List.getD c a.toNat default)with Y:=(aa (((List.getD c a.toNat default).Y)+(aa (e.Border.a0+e.Padding.a0)))) }:ae))).bind fun d=>aE (aO a d.length) ((uK K n (List.getD d a.toNat default) e.Content).bind fun l=>aE (aO a d.length) (o (aa (a+1)) (List.set d a.toNat l))))))) else some ((⟨1,m.Node,e.Margin.a3,0,j,k,0,⟨#[]⟩,m.Style,p,q,false,b⟩:ae),g,h,i)
def tR(K:Kn)(n:Nat)(g:ab)(h:bW)(i j:bc)(a:dn)(b c:Int)(d:dO)(e f:Int):Nat→Int→dn→Option (ae×Int×Int×dO)
 | 0=>fun _ _=>none
 | m+1=>xR K n g h i j a b c d e f (tR K n g h i j a b c d e f m)
def tH(K:Kn)(n:Nat)(i:ab)(a:bW)(j k:bc)(b:dn)(c d:Int)(e:dO)(f:Int):Option (ae×Int×Int×dO):=(some (aa ((aa ((aa ((aa (a.Content+a.Border.a1))+a.Border.a3))+a.Padding.a1))+a.Padding.a3))).bind fun g=>(some (aa ((aa ((aa ((aa (f+a.Border.a0))+a.Border.a2))+a.Padding.a0))+a.Padding.a2))).bind fun h=>tR K n i a j k b c d e g h n 0 b
def uW(K:Kn)(n:Nat)(e:ab)(h:bW)(i j:bc)(f:Int)(a:dn)(b c:Int)(d:dO):Option (ae×Int×Int×dO):=if (e.Style.Height.Kind == 1) then (mA K n e.Style.Height 0 0).bind fun g=>tH K n e h i j a b c d (max g 0) else tH K n e h i j a b c d (max f 0)
def nV(K:Kn)(n:Nat)(c:ab)(v2:Int)(e:bz)(v4 v5:Int)(v6:dO):Option (ae×Int×Int×dO):=(qe K n c.Style v2).bind fun d=>(m5 K n d.Margin.a0).bind fun f=>(m5 K n d.Margin.a2).bind fun g=>if (c.Style.Direction == 1) then (Bh K n c d.Content e v4 v5 v6).bind fun a=>uW K n c d f g a.2.1 a.1 a.2.2.1 a.2.2.2.1 a.2.2.2.2 else (Au K n c d.Content e v4 v5 v6).bind fun b=>uW K n c d f g b.2.1 b.1 b.2.2.1 b.2.2.2.1 b.2.2.2.2
def qh(K:Kn)(n:Nat)(a:d6)(v2:Fv)(b:Int→Option Int)(v4:Int):Option Int:=if (decide (v4<(a.length:Int))) then aE (aO v4 a.length) ((K.kR v2 (List.getD a v4.toNat default)).bind fun v5=>if v5 then some v4 else b (aa (v4+1))) else some (-1)
def jY(K:Kn)(n:Nat)(a:d6)(v2:Fv):Nat→Int→Option Int
 | 0=>fun _=>none
 | m+1=>qh K n a v2 (jY K n a v2 m)
def wL(K:Kn)(n:Nat)(a:d6)(v2:Fv):Option Int:=jY K n a v2 n 0
def lu(K:Kn)(n:Nat)(a:d6)(v2:Fv):Option Bool:=(wL K n a v2).bind fun b=>some (decide (b≥0))
def yS(K:Kn)(n:Nat)(d:ab)(c:Int)(b:Int→d6→Option (d6×Bool))(a:d6):Option (d6×Bool):=b (aa (c+1)) a
def zI(K:Kn)(n:Nat)(a:ab)(f:Int→d6→Option (d6×Bool))(b:Int)(c:d6):Option (d6×Bool):=if (decide (b<(a.Kids.length:Int))) then aE (aO b a.Kids.length) ((jU K n (List.getD a.Kids b.toNat default)).bind fun d=>if d then aE (fits (c.length+([(List.getD a.Kids b.toNat default)]:d6).length) 520) (yS K n a b f (c++[(List.getD a.Kids b.toNat default)])) else yS K n a b f c) else (lu K n c (Fv.fn 145)).bind fun e=>some (c,e)
def uy(K:Kn)(n:Nat)(a:ab):Nat→Int→d6→Option (d6×Bool)
 | 0=>fun _ _=>none
 | m+1=>zI K n a (uy K n a m)
def si(K:Kn)(n:Nat)(a:ab):Option (d6×Bool):=uy K n a n 0 []
def kD(K:Kn)(n:Nat)(a v2:bc):Option bc:=some (⟨(max a.Pos v2.Pos),(min a.Neg v2.Neg)⟩:bc)
def uD(K:Kn)(n:Nat)(h:dn)(a:Int)(b:dn)(c:Int)(i:Int→Bool→Int→bc→bc→dn→Option (dn×Int×bc×bc×Bool))(d:Int)(e:Bool)(f g:bc):Option (dn×Int×bc×bc×Bool):=aE (fits (b.length+([({ (List.getD h a.toNat default)with Y:=c }:ae)]:dn).length) 584) (i d e (aa (a+1)) f g (b++[({ (List.getD h a.toNat default)with Y:=c }:ae)]))
def vT(K:Kn)(n:Nat)(c:dn)(a:Int)(d:dn)(g:bc)(b:Int)(f:Int→Bool→Int→bc→bc→dn→Option (dn×Int×bc×bc×Bool))(e:bc):Option (dn×Int×bc×bc×Bool):=uD K n c a d b f (aa (b+((List.getD c a.toNat default).H))) false e ((List.getD c a.toNat default).After)
def ur(K:Kn)(n:Nat)(g:dn)(i:Int)(e:Bool)(a:Int)(f:bc)(c:dn)(b:bc)(h:Int→Bool→Int→bc→bc→dn→Option (dn×Int×bc×bc×Bool))(d:Int):Option (dn×Int×bc×bc×Bool):=if (!(List.getD g a.toNat default).Empty) then if e then vT K n g a c b d h b else vT K n g a c b d h f else uD K n g a c d h i e f b
def rq(K:Kn)(n:Nat)(a:Int)(b:Bool)(c:bc)(d:dn)(e:bc):Option (dn×Int×bc×bc×Bool):=some (d,a,e,c,b)
def ru(K:Kn)(n:Nat)(h:dn)(j:Int→Bool→Int→bc→bc→dn→Option (dn×Int×bc×bc×Bool))(b:Int)(a:Bool)(c:Int)(f d:bc)(e:dn):Option (dn×Int×bc×bc×Bool):=if (decide (c<(h.length:Int))) then aE (aO c h.length) ((kD K n d ((List.getD h c.toNat default).Before)).bind fun g=>if (!a) then (gz K n g).bind fun i=>ur K n h b a c f e g j (aa (b+i)) else ur K n h b a c f e g j 0) else if a then rq K n b a d e d else rq K n b a d e f
def jM(K:Kn)(n:Nat)(a:dn):Nat→Int→Bool→Int→bc→bc→dn→Option (dn×Int×bc×bc×Bool)
 | 0=>fun _ _ _ _ _ _=>none
 | m+1=>ru K n a (jM K n a m)
def mi(K:Kn)(n:Nat)(a:dn):Option (dn×Int×bc×bc×Bool):=jM K n a n 0 true 0 dB dB []
def DK(K:Kn)(n:Nat)(a:bW):Option Int:=some (aa ((aa ((aa (a.Border.a3+a.Padding.a3))+a.Border.a1))+a.Padding.a1))
def tS(K:Kn)(n:Nat)(v2:Bool):Option Bool:=some v2
def wy(K:Kn)(n:Nat)(a:ab):Option Bool:=if (a.Kind == 1) then tS K n true else if (a.Kind == 6) then tS K n true else tS K n (a.Kind == 7)
def AF(K:Kn)(n:Nat)(o:ab)(v2:bW)(p:d6×Bool)(d:dn)(e f:Int)(g:dO)(h:Int)(i j:bc)(k:Bool)(l m a:Int)(c:Int→dn→Option (ae×Int×Int×dO))(b:dn):Option (ae×Int×Int×dO):=c (aa (a+1)) b
def xS(K:Kn)(n:Nat)(q:ab)(v2:bW)(r:d6×Bool)(c:dn)(d e:Int)(f:dO)(g:Int)(h i:bc)(j:Bool)(k l a:Int)(b:dn)(p:Int→dn→Option (ae×Int×Int×dO))(m:Bool):Option (ae×Int×Int×dO):=if m then aE (aO a b.length) ((uK K n (List.getD b a.toNat default) v2.Content).bind fun o=>aE (aO a b.length) (AF K n q v2 r c d e f g h i j k l a p (List.set b a.toNat o))) else AF K n q v2 r c d e f g h i j k l a p b
def yE(K:Kn)(n:Nat)(q:ab)(v2:bW)(p:d6×Bool)(d:dn)(e f:Int)(g:dO)(h:Int)(i j:bc)(k:Bool)(l m:Int)(s:Int→dn→Option (ae×Int×Int×dO))(a:Int)(b:dn):Option (ae×Int×Int×dO):=if (decide (a<(d.length:Int))) then aE (aO a b.length) (aE (aO a b.length) ((some (List.set b a.toNat ({ (List.getD b a.toNat default)with X:=(aa (((List.getD b a.toNat default).X)+(aa (v2.Border.a3+v2.Padding.a3)))) }:ae))).bind fun c=>aE (aO a c.length) (aE (aO a c.length) ((some (List.set c a.toNat ({ (List.getD c a.toNat default)with Y:=(aa (((List.getD c a.toNat default).Y)+(aa ((aa (v2.Border.a0+v2.Padding.a0))+h)))) }:ae))).bind fun o=>if p.2=true then aE (aO a p.1.length) ((wy K n (List.getD p.1 a.toNat default)).bind fun r=>xS K n q v2 p d e f g h i j k l m a o s r) else xS K n q v2 p d e f g h i j k l m a o s false)))) else some ((⟨1,q.Node,v2.Margin.a3,0,(aa (v2.Content+l)),m,0,⟨#[]⟩,q.Style,i,j,k,b⟩:ae),e,f,g)
def wK(K:Kn)(n:Nat)(k:ab)(v2:bW)(l:d6×Bool)(a:dn)(b c:Int)(d:dO)(e:Int)(f g:bc)(h:Bool)(i j:Int):Nat→Int→dn→Option (ae×Int×Int×dO)
 | 0=>fun _ _=>none
 | m+1=>yE K n k v2 l a b c d e f g h i j (wK K n k v2 l a b c d e f g h i j m)
def uc(K:Kn)(n:Nat)(l:ab)(v2:bW)(m:d6×Bool)(a:dn)(b c:Int)(d:dO)(e:Int)(f g:bc)(h:Bool)(i:Int):Option (ae×Int×Int×dO):=(DK K n v2).bind fun j=>(some (aa ((aa ((aa ((aa (i+v2.Border.a0))+v2.Padding.a0))+v2.Border.a2))+v2.Padding.a2))).bind fun k=>wK K n l v2 m a b c d e f g h j k n 0 a
def zp(K:Kn)(n:Nat)(l:ab)(v2:bW)(m:d6×Bool)(a:dn)(b c:Int)(d:dO)(e i:Int)(f g:bc)(h:Bool)(j:Int×Bool)(k:Bool):Option (ae×Int×Int×dO):=if k then uc K n l v2 m a b c d e f g h (max j.1 0) else uc K n l v2 m a b c d e f g h (max i 0)
def ms(K:Kn)(n:Nat)(k:ab)(v2:bW)(l:d6×Bool)(b:dn)(c d:Int)(e:dO)(f g:Int)(h i:bc)(j:Bool):Option (ae×Int×Int×dO):=(dN K n k.Style.Height 0).bind fun a=>if a.2=true then zp K n k v2 l b c d e f g h i j a (k.Style.Height.Kind == 1) else zp K n k v2 l b c d e f g h i j a false
def uL(K:Kn)(n:Nat)(h:ab)(v2:bW)(v4:Bool)(l:d6×Bool)(i:Int)(m:Bool)(o j:bc)(b:dn)(c d:Int)(e:dO)(f:bc)(a:Int)(g:bc)(p:Bool):Option (ae×Int×Int×dO):=if p then (kD K n g f).bind fun k=>ms K n h v2 l b c d e a 0 k k true else if m then if v4 then (kD K n f o).bind fun q=>ms K n h v2 l b c d e a a g q false else ms K n h v2 l b c d e a a g f false else if v4 then (kD K n f j).bind fun r=>ms K n h v2 l b c d e a (aa (i+a)) g r false else (gz K n j).bind fun s=>ms K n h v2 l b c d e a (aa (i+(aa (a+s)))) g f false
def sf(K:Kn)(n:Nat)(l:ab)(v2:bW)(o v4:Bool)(m:d6×Bool)(b:Int)(a:Bool)(c d:bc)(e:dn)(f g:Int)(h:dO)(i:bc)(j:Int)(k:bc):Option (ae×Int×Int×dO):=if a then if o then uL K n l v2 v4 m b a c d e f g h i j k v4 else uL K n l v2 v4 m b a c d e f g h i j k false else uL K n l v2 v4 m b a c d e f g h i j k false
def w6(K:Kn)(n:Nat)(m:ab)(v2:bW)(o v4:Bool)(p:d6×Bool)(b:Int)(c:Bool)(a d:bc)(e:dn)(f g:Int)(h:dO)(i j:bc)(k:Bool):Option (ae×Int×Int×dO):=if k then (gz K n a).bind fun l=>sf K n m v2 o v4 p b c a d e f g h j l i else sf K n m v2 o v4 p b c a d e f g h j 0 i
def qK(K:Kn)(n:Nat)(l:ab)(v2:bW)(k v4:Bool)(o:d6×Bool)(c:Int)(a:Bool)(b d:bc)(e:dn)(f g:Int)(h:dO):Option (ae×Int×Int×dO):=(m5 K n v2.Margin.a0).bind fun i=>(m5 K n v2.Margin.a2).bind fun j=>if k then (kD K n i b).bind fun m=>sf K n l v2 k v4 o c a b d e f g h j 0 m else if (!a) then w6 K n l v2 k v4 o c a b d e f g h i j true else w6 K n l v2 k v4 o c a b d e f g h i j (!v4)
def zu(K:Kn)(n:Nat)(j:ab)(v2:bW)(k v4:Bool)(v5:bz)(h:d6×Bool)(i:Int→dn→Int→Int→dO→Option (ae×Int×Int×dO))(c:Int)(d:dn)(e f:Int)(g:dO):Option (ae×Int×Int×dO):=if (decide (c<(h.1.length:Int))) then aE (aO c h.1.length) ((K.dr v5.Layout (List.getD h.1 c.toNat default) v2.Content e f g).bind fun a=>aE (fits (d.length+([a.1]:dn).length) 584) (i (aa (c+1)) (d++[a.1]) a.2.1 a.2.2.1 a.2.2.2)) else (mi K n d).bind fun b=>qK K n j v2 k v4 h b.2.1 b.2.2.2.2 b.2.2.1 b.2.2.2.1 b.1 e f g
def qt(K:Kn)(n:Nat)(a:ab)(v2:bW)(b v4:Bool)(v5:bz)(c:d6×Bool):Nat→Int→dn→Int→Int→dO→Option (ae×Int×Int×dO)
 | 0=>fun _ _ _ _ _=>none
 | m+1=>zu K n a v2 b v4 v5 c (qt K n a v2 b v4 v5 c m)
def kj(K:Kn)(n:Nat)(c:ab)(v2:bW)(e v4:Bool)(v5:bz)(v6 f:Int)(g:dO):Option (ae×Int×Int×dO):=(si K n c).bind fun d=>if d.2=true then qt K n c v2 e v4 v5 d n 0 [] v6 f g else (K.yK v5.Lines d.1 c.Style v2.Content).bind fun a=>(qJ K n a.1).bind fun b=>qK K n c v2 e v4 d a.2 ((b.length:Int) == 0) dB dB b v6 f g
def sD(K:Kn)(n:Nat)(b:ab)(c:bz)(v4 v5:Int)(v6:dO)(d:bW)(e f:Bool):Option (ae×Int×Int×dO):=(kj K n b d e f c v4 v5 v6).bind fun a=>some (a.1,a.2.1,a.2.2.1,a.2.2.2)
def oL(K:Kn)(n:Nat)(a:ab)(c:bz)(v4 v5:Int)(v6:dO)(b:bW)(d:Bool):Option (ae×Int×Int×dO):=if (a.Style.Overflow == 0) then if (b.Border.a2 == 0) then if (b.Padding.a2 == 0) then sD K n a c v4 v5 v6 b d (a.Style.Height.Kind != 1) else sD K n a c v4 v5 v6 b d false else sD K n a c v4 v5 v6 b d false else sD K n a c v4 v5 v6 b d false
def oc(K:Kn)(n:Nat)(a:ab)(v2:Int)(c:bz)(v4 v5:Int)(v6:dO):Option (ae×Int×Int×dO):=(qe K n a.Style v2).bind fun b=>if (a.Style.Overflow == 0) then if (b.Border.a0 == 0) then oL K n a c v4 v5 v6 b (b.Padding.a0 == 0) else oL K n a c v4 v5 v6 b false else oL K n a c v4 v5 v6 b false
def C3(K:Kn)(n:Nat)(a:ae)(b c:Int)(d:dO):Option (ae×Int×Int×dO):=some (a,b,c,d)
def wk(K:Kn)(n:Nat)(f:ab)(v2:Int)(v5:Bool)(a:ae)(c d:Int)(e:dO):Option (ae×Int×Int×dO):=if v5 then aE v5 ((yZ K n f v2 a c d e).bind fun b=>C3 K n a b.1 b.2.1 b.2.2) else C3 K n a c d e
def vY(K:Kn)(n:Nat)(c:ab)(v2:Int)(v4:bz)(v5:Bool)(d e:Int)(f:dO):Option (ae×Int×Int×dO):=if (c.Kind == 6) then (nV K n c v2 v4 d e f).bind fun a=>wk K n c v2 v5 a.1 a.2.1 a.2.2.1 a.2.2.2 else if (c.Kind == 7) then none else if (c.Kind == 5) then none else (oc K n c v2 v4 d e f).bind fun b=>wk K n c v2 v5 b.1 b.2.1 b.2.2.1 b.2.2.2
def jZ(K:Kn)(n:Nat)(b:ab)(v2:Int)(c:Bool)(v4:bz)(v5:Bool)(v6 d:Int)(e:dO):Option (ae×Int×Int×dO):=if c then aE c ((zZ K n b v2 v6 d e).bind fun a=>if a.2.1=true then some (a.1,a.2.2.1,a.2.2.2.1,a.2.2.2.2) else vY K n b v2 v4 v5 a.2.2.1 a.2.2.2.1 a.2.2.2.2) else vY K n b v2 v4 v5 v6 d e
def zQ(K:Kn)(n:Nat)(a:aN):Option aN:=some a
def wm(K:Kn)(n:Nat)(a:aN):Option aN:=if (a.Padding.a3.Kind == 2) then zQ K n ({ a with Padding:=⟨a.Padding.a0,a.Padding.a1,a.Padding.a2,ci⟩ }:aN) else zQ K n a
def uS(K:Kn)(n:Nat)(a:aN):Option aN:=if (a.Margin.a3.Kind == 2) then wm K n ({ a with Margin:=⟨a.Margin.a0,a.Margin.a1,a.Margin.a2,ci⟩ }:aN) else wm K n a
def ud(K:Kn)(n:Nat)(a:aN):Option aN:=if (a.Padding.a2.Kind == 2) then uS K n ({ a with Padding:=⟨a.Padding.a0,a.Padding.a1,ci,a.Padding.a3⟩ }:aN) else uS K n a
def wa(K:Kn)(n:Nat)(a:aN):Option aN:=if (a.Margin.a2.Kind == 2) then ud K n ({ a with Margin:=⟨a.Margin.a0,a.Margin.a1,ci,a.Margin.a3⟩ }:aN) else ud K n a
def ui(K:Kn)(n:Nat)(a:aN):Option aN:=if (a.Padding.a1.Kind == 2) then wa K n ({ a with Padding:=⟨a.Padding.a0,ci,a.Padding.a2,a.Padding.a3⟩ }:aN) else wa K n a
def tJ(K:Kn)(n:Nat)(a:aN):Option aN:=if (a.Margin.a1.Kind == 2) then ui K n ({ a with Margin:=⟨a.Margin.a0,ci,a.Margin.a2,a.Margin.a3⟩ }:aN) else ui K n a
def tz(K:Kn)(n:Nat)(v6:aN):Option aN:=if (v6.Padding.a0.Kind == 2) then tJ K n ({ v6 with Padding:=⟨ci,v6.Padding.a1,v6.Padding.a2,v6.Padding.a3⟩ }:aN) else tJ K n v6
def vD(K:Kn)(n:Nat)(v5:aN):Option aN:=if (v5.Margin.a0.Kind == 2) then tz K n ({ v5 with Margin:=⟨ci,v5.Margin.a1,v5.Margin.a2,v5.Margin.a3⟩ }:aN) else tz K n v5
def uU(K:Kn)(n:Nat)(v4:aN):Option aN:=if (v4.MaxWidth.Kind == 2) then vD K n ({ v4 with MaxWidth:=ci }:aN) else vD K n v4
def vK(K:Kn)(n:Nat)(a:aN):Option aN:=if (a.MinWidth.Kind == 2) then uU K n ({ a with MinWidth:=ci }:aN) else uU K n a
def xx(K:Kn)(n:Nat)(a:aN):Option aN:=if (a.Width.Kind == 2) then vK K n ({ a with Width:=ci }:aN) else vK K n a
def AB(K:Kn)(n:Nat)(a:Int)(v2:aN):Option Int:=(iu K n a 1048576).bind fun b=>(mT K n v2 0 b).bind fun v4=>(jA K n v2 0 v4).bind fun v5=>(kH K n v5).bind fun v6=>some v6
def zO(K:Kn)(n:Nat)(e:ab)(v2:bz)(f:aN)(v5:d6)(a:Int)(d:Int→Int→Int→Option eq)(b c:Int):Option eq:=d b c (aa (a+1))
def z7(K:Kn)(n:Nat)(f:ab)(v2:bz)(g:aN)(v5:d6)(a b:Int)(c:Int×Int)(e:Int→Int→Int→Option eq)(d:Int):Option eq:=zO K n f v2 g v5 b e d (aa (a+c.2))
def qD(K:Kn)(n:Nat)(e:aN)(a b:Int):Option eq:=(AB K n a e).bind fun c=>(AB K n b e).bind fun d=>some (c,d)
def yg(K:Kn)(n:Nat)(e:ab)(v2:bz)(f:aN)(v5:d6)(g:Int→Int→Int→Option eq)(c d a:Int):Option eq:=if (decide (a<(v5.length:Int))) then aE (aO a v5.length) ((K.gy v2.Widths (List.getD v5 a.toNat default)).bind fun b=>if (e.Style.Direction == 1) then zO K n e v2 f v5 a g (max c b.1) (max d b.2) else if e.Style.Wrap=true then z7 K n e v2 f v5 d a b g (max c b.1) else z7 K n e v2 f v5 d a b g (aa (c+b.1))) else qD K n f c d
def rW(K:Kn)(n:Nat)(a:ab)(v2:bz)(b:aN)(v5:d6):Nat→Int→Int→Int→Option eq
 | 0=>fun _ _ _=>none
 | m+1=>yg K n a v2 b v5 (rW K n a v2 b v5 m)
def vq(K:Kn)(n:Nat)(a:ab)(v2:bz):Option eq:=(xx K n a.Style).bind fun b=>(dN K n b.Width 0).bind fun v4=>if v4.2=true then qD K n b v4.1 v4.1 else (kU K n a).bind fun v5=>rW K n a v2 b v5 n 0 0 0
def xo(K:Kn)(n:Nat)(a:aN):Option aN:=some a
def wx(K:Kn)(n:Nat)(a:aN):Option aN:=if (a.Padding.a3.Kind == 2) then xo K n ({ a with Padding:=⟨a.Padding.a0,a.Padding.a1,a.Padding.a2,ci⟩ }:aN) else xo K n a
def vV(K:Kn)(n:Nat)(a:aN):Option aN:=if (a.Margin.a3.Kind == 2) then wx K n ({ a with Margin:=⟨a.Margin.a0,a.Margin.a1,a.Margin.a2,ci⟩ }:aN) else wx K n a
def vw(K:Kn)(n:Nat)(a:aN):Option aN:=if (a.Padding.a2.Kind == 2) then vV K n ({ a with Padding:=⟨a.Padding.a0,a.Padding.a1,ci,a.Padding.a3⟩ }:aN) else vV K n a
def vG(K:Kn)(n:Nat)(a:aN):Option aN:=if (a.Margin.a2.Kind == 2) then vw K n ({ a with Margin:=⟨a.Margin.a0,a.Margin.a1,ci,a.Margin.a3⟩ }:aN) else vw K n a
def uO(K:Kn)(n:Nat)(a:aN):Option aN:=if (a.Padding.a1.Kind == 2) then vG K n ({ a with Padding:=⟨a.Padding.a0,ci,a.Padding.a2,a.Padding.a3⟩ }:aN) else vG K n a
def uM(K:Kn)(n:Nat)(a:aN):Option aN:=if (a.Margin.a1.Kind == 2) then uO K n ({ a with Margin:=⟨a.Margin.a0,ci,a.Margin.a2,a.Margin.a3⟩ }:aN) else uO K n a
def s7(K:Kn)(n:Nat)(v6:aN):Option aN:=if (v6.Padding.a0.Kind == 2) then uM K n ({ v6 with Padding:=⟨ci,v6.Padding.a1,v6.Padding.a2,v6.Padding.a3⟩ }:aN) else uM K n v6
def vn(K:Kn)(n:Nat)(v5:aN):Option aN:=if (v5.Margin.a0.Kind == 2) then s7 K n ({ v5 with Margin:=⟨ci,v5.Margin.a1,v5.Margin.a2,v5.Margin.a3⟩ }:aN) else s7 K n v5
def vt(K:Kn)(n:Nat)(v4:aN):Option aN:=if (v4.MaxWidth.Kind == 2) then vn K n ({ v4 with MaxWidth:=ci }:aN) else vn K n v4
def sn(K:Kn)(n:Nat)(a:aN):Option aN:=if (a.MinWidth.Kind == 2) then vt K n ({ a with MinWidth:=ci }:aN) else vt K n a
def ut(K:Kn)(n:Nat)(a:aN):Option aN:=if (a.Width.Kind == 2) then sn K n ({ a with Width:=ci }:aN) else sn K n a
def Ar(K:Kn)(n:Nat)(v2:bz)(v6:d6×Bool)(g:Int→Int→Int→Option eq)(b c a:Int):Option eq:=if (decide (a<(v6.1.length:Int))) then aE (aO a v6.1.length) ((K.gy v2.Widths (List.getD v6.1 a.toNat default)).bind fun d=>g (max b d.1) (max c d.2) (aa (a+1))) else (gO K n b).bind fun e=>(gO K n c).bind fun f=>some (e,f)
def vU(K:Kn)(n:Nat)(v2:bz)(v6:d6×Bool):Nat→Int→Int→Int→Option eq
 | 0=>fun _ _ _=>none
 | m+1=>Ar K n v2 v6 (vU K n v2 v6 m)
def lN(K:Kn)(n:Nat)(a:ab)(v2:bz):Option eq:=(ut K n a.Style).bind fun c=>(dN K n c.Width 0).bind fun v4=>if v4.2=true then (gO K n v4.1).bind fun v5=>some (v5,v5) else (si K n a).bind fun v6=>if (!v6.2) then (K.Ag v2.Spread v6.1 a.Style).bind fun b=>(gO K n b.1).bind fun d=>(gO K n b.2).bind fun e=>some (d,e) else vU K n v2 v6 n 0 0 0
def zY(K:Kn)(n:Nat)(b:ab)(v2:bz):Option eq:=(lN K n b v2).bind fun c=>(ut K n b.Style).bind fun v4=>(mT K n v4 0 c.1).bind fun v5=>(jA K n v4 0 v5).bind fun v6=>(kH K n v6).bind fun d=>(mT K n v4 0 c.2).bind fun e=>(jA K n v4 0 e).bind fun f=>(kH K n f).bind fun a=>some (d,a)
def pu(K:Kn)(n:Nat)(a:ab)(v2:bz):Option eq:=if (a.Kind == 6) then (vq K n a v2).bind fun b=>some (b.1,b.2) else if (a.Kind == 7) then none else (zY K n a v2).bind fun v4=>some (v4.1,v4.2)
def pS(K:Kn)(n:Nat)(v2:eb)(a:aI):Option eb:=aE (fits (v2.length+([({ a with Char:=32 }:aI)]:eb).length) 32) (some (v2++[({ a with Char:=32 }:aI)]))
def mE(K:Kn)(n:Nat)(a:aI)(v2:eb)(v6:Bool):Option eb:=if v6 then some v2 else pS K n v2 ({ a with Soft:=true }:aI)
def sM(K:Kn)(n:Nat)(a:aI)(v2:eb)(v5:Bool):Option eb:=if v5 then some v2 else if (!(a.Box.Style.WhiteSpace == 2)) then if ((v2.length:Int) == 0) then mE K n a v2 true else aE (aO (aa ((v2.length:Int)-1)) v2.length) (if (List.getD v2 ((aa ((v2.length:Int)-1))).toNat default).Soft=true then mE K n a v2 true else aE (aO (aa ((v2.length:Int)-1)) v2.length) (mE K n a v2 (((List.getD v2 ((aa ((v2.length:Int)-1))).toNat default).Kind) == 2))) else pS K n v2 a
def s4(K:Kn)(n:Nat)(a:aI)(v2:eb)(v4:Bool):Option eb:=if v4 then pS K n v2 ({ a with Kind:=2 }:aI) else if (a.Box.Style.WhiteSpace == 2) then sM K n a v2 (a.Char == 13) else sM K n a v2 false
def lM(K:Kn)(n:Nat)(a:aI)(v2:eb)(b:Bool):Option eb:=if b then if (a.Box.Style.WhiteSpace == 2) then s4 K n a v2 (a.Char == 10) else s4 K n a v2 false else aE (fits (v2.length+([a]:eb).length) 32) (some (v2++[a]))
def yC(K:Kn)(n:Nat)(a:aI)(v2:eb):Option eb:=if (a.Char == 9) then lM K n a v2 true else if (a.Char == 10) then lM K n a v2 true else if (a.Char == 13) then lM K n a v2 true else lM K n a v2 (a.Char == 32)
def nr(K:Kn)(n:Nat)(e:d6)(a:Int)(d:Int→Int→eb→Option (Int×eb))(b:Int)(c:eb):Option (Int×eb):=d (aa (a+1)) b c
def kN(K:Kn)(n:Nat)(e:d6)(a:Int)(d:Int→Int→eb→Option (Int×eb))(b:Int)(c:eb):Option (Int×eb):=nr K n e a d b c
def sY(K:Kn)(n:Nat)(c:d6)(a d:Int)(i:Int→Int→eb→Option (Int×eb))(j:Nat→eb→Option (Int×eb))(b:Nat)(e:eb):Option (Int×eb):=if decide (b<((List.getD c a.toNat default).Text).size)=true then (some ((Utf8.decode ((List.getD c a.toNat default).Text) b).1:Int)).bind fun f=>(some (b+(Utf8.decode ((List.getD c a.toNat default).Text) b).2)).bind fun g=>(yC K n (⟨1,(aa (d+1)),f,false,(List.getD c a.toNat default)⟩:aI) e).bind fun h=>j g h else kN K n c a i (aa (d+1)) e
def vy(K:Kn)(n:Nat)(d:d6)(a b:Int)(c:Int→Int→eb→Option (Int×eb)):Nat→Nat→eb→Option (Int×eb)
 | 0=>fun _ _=>none
 | m+1=>sY K n d a b c (vy K n d a b c m)
def td(K:Kn)(n:Nat)(d:d6)(e:Int→Int→eb→Option (Int×eb))(a b:Int)(c:eb):Option (Int×eb):=if (decide (a<(d.length:Int))) then aE (aO a d.length) ((jU K n (List.getD d a.toNat default)).bind fun g=>if (!g) then nr K n d a e b c else (some (((List.getD d a.toNat default).Kind) == 2)).bind fun h=>if h then (K.D9 ((List.getD d a.toNat default).Kids) (aa (b+1)) c).bind fun f=>kN K n d a e f.1 f.2 else (some (((List.getD d a.toNat default).Kind) == 4)).bind fun i=>if i then aE (fits (c.length+([(⟨2,(aa (b+1)),0,false,(List.getD d a.toNat default)⟩:aI)]:eb).length) 32) (kN K n d a e (aa (b+1)) (c++[(⟨2,(aa (b+1)),0,false,(List.getD d a.toNat default)⟩:aI)])) else (some (((List.getD d a.toNat default).Kind) == 5)).bind fun j=>if j then aE (fits (c.length+([(⟨3,(aa (b+1)),0,false,(List.getD d a.toNat default)⟩:aI)]:eb).length) 32) (kN K n d a e (aa (b+1)) (c++[(⟨3,(aa (b+1)),0,false,(List.getD d a.toNat default)⟩:aI)])) else (some (((List.getD d a.toNat default).Kind) == 3)).bind fun k=>if k then vy K n d a b e n 0 c else kN K n d a e (aa (b+1)) c) else some (b,c)
def po(K:Kn)(n:Nat)(a:d6):Nat→Int→Int→eb→Option (Int×eb)
 | 0=>fun _ _ _=>none
 | m+1=>td K n a (po K n a m)
def m6(K:Kn)(n:Nat)(a:d6)(v2:Int)(b:eb):Option (Int×eb):=po K n a n 0 v2 b
def rI(K:Kn)(n:Nat)(a:d6):Option eb:=(m6 K n a 0 ([]:eb)).bind fun v2=>some v2.2
def vN(K:Kn)(n:Nat)(v2:Bool):Option Bool:=some v2
def mR(K:Kn)(n:Nat)(a:aI):Option Bool:=if (a.Kind == 1) then if (a.Box.Style.WhiteSpace != 1) then vN K n (a.Box.Style.WhiteSpace != 2) else vN K n false else vN K n false
def AH(K:Kn)(n:Nat)(v6:Bool):Option Int:=if v6 then some 10 else some 8
def my(K:Kn)(n:Nat)(a:Int)(v5:Bool):Option Int:=if v5 then some 14 else if (decide (a≥65)) then AH K n (decide (a≤90)) else AH K n false
def gc(K:Kn)(n:Nat)(a:Int)(v4:Bool):Option Int:=if v4 then some 6 else if (a == 37) then my K n a true else if (a == 64) then my K n a true else if (a == 77) then my K n a true else if (a == 87) then my K n a true else if (a == 109) then my K n a true else my K n a (a == 119)
def im(K:Kn)(n:Nat)(a:Int)(b:Bool):Option Int:=if b then some 4 else if (a == 34) then gc K n a true else if (a == 40) then gc K n a true else if (a == 41) then gc K n a true else if (a == 42) then gc K n a true else if (a == 45) then gc K n a true else if (a == 47) then gc K n a true else if (a == 91) then gc K n a true else if (a == 92) then gc K n a true else if (a == 93) then gc K n a true else if (a == 94) then gc K n a true else if (a == 102) then gc K n a true else if (a == 114) then gc K n a true else if (a == 116) then gc K n a true else if (a == 123) then gc K n a true else gc K n a (a == 125)
def mq(K:Kn)(n:Nat)(a:Int)(v2:Bool):Option Int:=if v2 then some 0 else if (decide (a≥4352)) then some 16 else if (a == 32) then im K n a true else if (a == 160) then im K n a true else if (a == 33) then im K n a true else if (a == 39) then im K n a true else if (a == 44) then im K n a true else if (a == 46) then im K n a true else if (a == 58) then im K n a true else if (a == 59) then im K n a true else if (a == 73) then im K n a true else if (a == 105) then im K n a true else if (a == 106) then im K n a true else if (a == 108) then im K n a true else im K n a (a == 124)
def lX(K:Kn)(n:Nat)(a:Int):Option Int:=if (decide (a<32)) then mq K n a true else if (decide (a>1114111)) then mq K n a true else if (decide (a≥127)) then if (decide (a≤159)) then mq K n a true else if (decide (a≥768)) then mq K n a (decide (a≤879)) else mq K n a false else if (decide (a≥768)) then mq K n a (decide (a≤879)) else mq K n a false
def qy(K:Kn)(n:Nat)(v2:Bool):Option Bool:=if v2 then some true else some false
def tu(K:Kn)(n:Nat)(a:Int):Option Bool:=if (a == 9) then qy K n true else if (a == 10) then qy K n true else if (a == 13) then qy K n true else qy K n (a == 32)
def zz(K:Kn)(n:Nat)(a:Bool):Option Bool:=some a
def wO(K:Kn)(n:Nat)(a v2:Int)(b:Bool):Option Bool:=if b then some true else if (decide (a≥11904)) then zz K n true else zz K n (decide (v2≥11904))
def qu(K:Kn)(n:Nat)(a v2:Int)(v5:Bool):Option Bool:=if v5 then some false else (tu K n a).bind fun v6=>if v6 then some true else if (a == 45) then wO K n a v2 (v2 != 45) else wO K n a v2 false
def ym(K:Kn)(n:Nat)(a v2:Int):Option Bool:=(tu K n v2).bind fun b=>if b then qu K n a v2 true else (lX K n v2).bind fun v4=>qu K n a v2 (v4 == 0)
def pZ(K:Kn)(n:Nat)(c:ByteArray)(a:Nat)(d:Int→Nat→ck→Option ck)(b:ck):Option ck:=d ((Utf8.decode c a).1:Int) (a+(Utf8.decode c a).2) b
def ro(K:Kn)(n:Nat)(e:ByteArray)(a:Nat)(b:ck)(d:Int→Nat→ck→Option ck)(c:Bool):Option ck:=if c then aE (fits (b.length+([((a:Nat):Int)]:ck).length) 8) (pZ K n e a d (b++[((a:Nat):Int)])) else pZ K n e a d b
def lC(K:Kn)(n:Nat)(c:ByteArray)(e:Int→Nat→ck→Option ck)(f:Int)(a:Nat)(b:ck):Option ck:=if decide (a<c.size)=true then if (decide (((a:Nat):Int)>0)) then (ym K n f ((Utf8.decode c a).1:Int)).bind fun d=>ro K n c a b e d else ro K n c a b e false else some b
def pj(K:Kn)(n:Nat)(a:ByteArray):Nat→Int→Nat→ck→Option ck
 | 0=>fun _ _ _=>none
 | m+1=>lC K n a (pj K n a m)
def Aj(K:Kn)(n:Nat)(a:ByteArray):Option ck:=pj K n a n 0 0 []
def pd(K:Kn)(n:Nat)(a:Bool):Option Bool:=some a
def l9(K:Kn)(n:Nat)(c v2:aI)(a:Bool):Option Bool:=if a then some false else (Aj K n (runesBytes [c.Char,v2.Char])).bind fun b=>some (decide ((b.length:Int)>0))
def oe(K:Kn)(n:Nat)(a v2:aI)(b:Bool):Option Bool:=if b then if (a.Kind == 3) then if (v2.Kind == 3) then pd K n true else (mR K n v2).bind fun v4=>pd K n v4 else (mR K n a).bind fun v5=>if v5 then if (v2.Kind == 3) then pd K n true else (mR K n v2).bind fun v6=>pd K n v6 else pd K n false else if (a.Kind != 1) then l9 K n a v2 true else if (v2.Kind != 1) then l9 K n a v2 true else (mR K n a).bind fun c=>if (!c) then l9 K n a v2 true else if (a.Char != 32) then (mR K n v2).bind fun d=>l9 K n a v2 (!d) else l9 K n a v2 false
def lL(K:Kn)(n:Nat)(a v2:aI):Option Bool:=if (a.Kind == 3) then oe K n a v2 true else oe K n a v2 (v2.Kind == 3)
def ra(K:Kn)(n:Nat)(a:Int):Option Int:=some (min (max a 0) 1048576)
def zU(K:Kn)(n:Nat)(a:Int):Option Int:=(ra K n a).bind fun v2=>some v2
def yx(K:Kn)(n:Nat)(a:Int):Option Int:=(ra K n a).bind fun v2=>(ra K n a).bind fun b=>some (aa (v2+(aa (Int.tdiv (aa (b+3)) 4))))
def oT(K:Kn)(n:Nat)(a:aN):Option eq:=(zU K n a.FontSize).bind fun v2=>(yx K n a.FontSize).bind fun b=>some ((aa (v2+((aa ((max a.LineHeight 0)-b)) / 2))),(aa ((max a.LineHeight 0)-(aa (v2+((aa ((max a.LineHeight 0)-b)) / 2))))))
def Al(K:Kn)(n:Nat)(a:Int)(v2:ck)(v4:Bool):Option ck:=if v4 then aE (fits (v2.length+([(fj .u8 240 (IntKind.wrap .u8 (a / 262144))),(fj .u8 128 (ij .u8 (IntKind.wrap .u8 (a / 4096)) 63)),(fj .u8 128 (ij .u8 (IntKind.wrap .u8 (a / 64)) 63)),(fj .u8 128 (ij .u8 (IntKind.wrap .u8 a) 63))]:ck).length) 1) (some (v2++[(fj .u8 240 (IntKind.wrap .u8 (a / 262144))),(fj .u8 128 (ij .u8 (IntKind.wrap .u8 (a / 4096)) 63)),(fj .u8 128 (ij .u8 (IntKind.wrap .u8 (a / 64)) 63)),(fj .u8 128 (ij .u8 (IntKind.wrap .u8 a) 63))])) else aE (fits (v2.length+([239,191,189]:ck).length) 1) (some (v2++[239,191,189]))
def o7(K:Kn)(n:Nat)(a:Int)(v2:ck)(b:Bool):Option ck:=if b then aE (fits (v2.length+([(fj .u8 224 (IntKind.wrap .u8 (a / 4096))),(fj .u8 128 (ij .u8 (IntKind.wrap .u8 (a / 64)) 63)),(fj .u8 128 (ij .u8 (IntKind.wrap .u8 a) 63))]:ck).length) 1) (some (v2++[(fj .u8 224 (IntKind.wrap .u8 (a / 4096))),(fj .u8 128 (ij .u8 (IntKind.wrap .u8 (a / 64)) 63)),(fj .u8 128 (ij .u8 (IntKind.wrap .u8 a) 63))])) else if (decide ((IntKind.wrap .u32 a)>65535)) then Al K n a v2 (decide ((IntKind.wrap .u32 a)≤1114111)) else Al K n a v2 false
def uw(K:Kn)(n:Nat)(a:Int)(v2:ck):Option ck:=if (decide ((IntKind.wrap .u32 a)≤2047)) then aE (fits (v2.length+([(fj .u8 192 (IntKind.wrap .u8 (a / 64))),(fj .u8 128 (ij .u8 (IntKind.wrap .u8 a) 63))]:ck).length) 1) (some (v2++[(fj .u8 192 (IntKind.wrap .u8 (a / 64))),(fj .u8 128 (ij .u8 (IntKind.wrap .u8 a) 63))])) else if (decide ((IntKind.wrap .u32 a)<55296)) then o7 K n a v2 true else if (decide ((57343:Int)<(IntKind.wrap .u32 a))) then o7 K n a v2 (decide ((IntKind.wrap .u32 a)≤65535)) else o7 K n a v2 false
def uZ(K:Kn)(n:Nat)(a:Int)(v2:ck):Option ck:=if (decide ((IntKind.wrap .u32 a)≤127)) then aE (fits (v2.length+([(IntKind.wrap .u8 a)]:ck).length) 1) (some (v2++[(IntKind.wrap .u8 a)])) else (uw K n a v2).bind fun b=>some b
def py(K:Kn)(n:Nat)(b:Int)(v2:Bool)(a:ck):Option (Int×Unit×ck):=if v2 then (uZ K n b a).bind fun v4=>some ((aa ((v4.length:Int)-(a.length:Int))),(),v4) else (uZ K n b a).bind fun v5=>some ((aa ((v5.length:Int)-(a.length:Int))),(),v5)
def oM(K:Kn)(n:Nat)(a v2:Int):Option Int:=(lX K n a).bind fun b=>(ra K n v2).bind fun v4=>some (aa (Int.tdiv (aa ((aa (b*v4))+15)) 16))
def wu(K:Kn)(n:Nat)(a:ByteArray)(v2:Int)(b:Int→Nat→Option Int)(v5:Int)(v6:Nat):Option Int:=if decide (v6<a.size)=true then (oM K n ((Utf8.decode a v6).1:Int) v2).bind fun c=>b (aa (v5+c)) (v6+(Utf8.decode a v6).2) else some v5
def vS(K:Kn)(n:Nat)(a:ByteArray)(v2:Int):Nat→Int→Nat→Option Int
 | 0=>fun _ _=>none
 | m+1=>wu K n a v2 (vS K n a v2 m)
def pO(K:Kn)(n:Nat)(a:ByteArray)(v2:Int):Option Int:=vS K n a v2 n 0 0
def AI(K:Kn)(n:Nat)(v6:ck)(a:aN)(c:ByteArray)(d:Int):Option az:=(pO K n c a.FontSize).bind fun e=>(oT K n a).bind fun b=>some ({ cR with Text:=(bytesOf v6),Width:=e,Space:=d,Above:=b.1,Below:=b.2 }:az)
def AR(K:Kn)(n:Nat)(v6:ck)(a:aN)(c:ByteArray)(d:Int):Option az:=(pO K n c a.FontSize).bind fun e=>(oT K n a).bind fun b=>some ({ cR with Text:=(bytesOf v6),Width:=e,Space:=d,Above:=b.1,Below:=b.2 }:az)
def sJ(K:Kn)(n:Nat)(a:eb)(v6:ck)(j:Bool):Option az:=if j then aE (aO (0:Int) a.length) ((some (((List.getD a (0:Int).toNat default).Box).Style)).bind fun b=>aE (rz v6) (aE (aO (aa ((a.length:Int)-1)) a.length) ((some ((List.getD a ((aa ((a.length:Int)-1))).toNat default).Soft)).bind fun d=>if d then aE (cF (0:Int) (aa (((bytesOf v6).size:Int)-1)) (bytesOf v6).size) ((some (ByteArray.extract (bytesOf v6) (0:Int).toNat ((aa (((bytesOf v6).size:Int)-1))).toNat)).bind fun e=>(oM K n 32 b.FontSize).bind fun f=>AI K n v6 b e f) else AI K n v6 b (bytesOf v6) 0))) else aE (aO (0:Int) a.length) ((some (((List.getD a (0:Int).toNat default).Box).Style)).bind fun c=>aE (rz v6) (aE (aO (aa ((a.length:Int)-1)) a.length) ((some ((List.getD a ((aa ((a.length:Int)-1))).toNat default).Soft)).bind fun g=>if g then aE (cF (0:Int) (aa (((bytesOf v6).size:Int)-1)) (bytesOf v6).size) ((some (ByteArray.extract (bytesOf v6) (0:Int).toNat ((aa (((bytesOf v6).size:Int)-1))).toNat)).bind fun h=>(oM K n 32 c.FontSize).bind fun i=>AR K n v6 c h i) else AR K n v6 c (bytesOf v6) 0)))
def tM(K:Kn)(n:Nat)(a:eb)(b:Int→Bool→ck→Option az)(v4:Int)(v5:Bool)(v6:ck):Option az:=if v5 then if (decide (v4<(a.length:Int))) then aE (aO v4 a.length) ((py K n ((List.getD a v4.toNat default).Char) true v6).bind fun c=>b (aa (v4+1)) true c.2.2) else sJ K n a v6 true else if (decide (v4<(a.length:Int))) then aE (aO v4 a.length) ((py K n ((List.getD a v4.toNat default).Char) false v6).bind fun d=>b (aa (v4+1)) true d.2.2) else sJ K n a v6 false
def rx(K:Kn)(n:Nat)(a:eb):Nat→Int→Bool→ck→Option az
 | 0=>fun _ _ _=>none
 | m+1=>tM K n a (rx K n a m)
def qa(K:Kn)(n:Nat)(a:eb):Option az:=rx K n a n 0 false []
def l8(K:Kn)(n:Nat)(v2:Fv)(h:eb)(a:Int)(b:d7)(c:Bool)(i:Int→d7→Option d7)(g:Int)(d:az):Option d7:=(some (((List.getD h a.toNat default).Box).Node)).bind fun e=>(some (((List.getD h a.toNat default).Box).Style)).bind fun f=>aE (fits (b.length+([({ d with Node:=e,Style:=f,Glued:=c }:az)]:d7).length) 536) (i g (b++[({ d with Node:=e,Style:=f,Glued:=c }:az)]))
def l4(K:Kn)(n:Nat)(v2:Fv)(c:eb)(b:Int)(d:d7)(e:Bool)(a:Int)(h:Int→d7→Option d7)(i:Int→Option d7)(f:Bool):Option d7:=if f then i (aa (a+1)) else aE (cF b a c.length) ((qa K n (List.drop b.toNat (List.take a.toNat c))).bind fun g=>l8 K n v2 c b d e h a g)
def sP(K:Kn)(n:Nat)(v2:Fv)(b:eb)(c:Int)(d:d7)(e:Bool)(f:Int→d7→Option d7)(g:Int→Option d7)(a:Int):Option d7:=if (decide (a<(b.length:Int))) then aE (aO a b.length) (if (((List.getD b a.toNat default).Kind) == 1) then aE (aO a b.length) (if (((List.getD b a.toNat default).Of) == ((List.getD b c.toNat default).Of)) then aE (aO (aa (a-1)) b.length) (aE (aO a b.length) ((lL K n (List.getD b ((aa (a-1))).toNat default) (List.getD b a.toNat default)).bind fun h=>l4 K n v2 b c d e a f g (!h))) else l4 K n v2 b c d e a f g false) else l4 K n v2 b c d e a f g false) else l4 K n v2 b c d e a f g false
def rA(K:Kn)(n:Nat)(v2:Fv)(e:eb)(a:Int)(b:d7)(c:Bool)(d:Int→d7→Option d7):Nat→Int→Option d7
 | 0=>fun _=>none
 | m+1=>sP K n v2 e a b c d (rA K n v2 e a b c d m)
def qH(K:Kn)(n:Nat)(v2:Fv)(d:eb)(a:Int)(b:d7)(e:Int→d7→Option d7)(c:Bool):Option d7:=(some (((List.getD d a.toNat default).Kind) == 2)).bind fun f=>if f then l8 K n v2 d a b c e (aa (a+1)) ({ cR with Forced:=true }:az) else (some (((List.getD d a.toNat default).Kind) == 3)).bind fun g=>if g then (K.uE v2 ((List.getD d a.toNat default).Box)).bind fun h=>l8 K n v2 d a b c e (aa (a+1)) h else rA K n v2 d a b c e n (aa (a+1))
def tI(K:Kn)(n:Nat)(v2:Fv)(b:eb)(d:Int→d7→Option d7)(a:Int)(c:d7):Option d7:=if (decide (a<(b.length:Int))) then aE (aO a b.length) (if (decide (a>0)) then aE (aO (aa (a-1)) b.length) (if (((List.getD b ((aa (a-1))).toNat default).Kind) != 2) then aE (aO (aa (a-1)) b.length) ((lL K n (List.getD b ((aa (a-1))).toNat default) (List.getD b a.toNat default)).bind fun e=>qH K n v2 b a c d (!e)) else qH K n v2 b a c d false) else qH K n v2 b a c d false) else some c
def rL(K:Kn)(n:Nat)(v2:Fv)(a:eb):Nat→Int→d7→Option d7
 | 0=>fun _ _=>none
 | m+1=>tI K n v2 a (rL K n v2 a m)
def wM(K:Kn)(n:Nat)(a:d6)(v2:Fv):Option d7:=(rI K n a).bind fun b=>rL K n v2 b n 0 []
def Ct(K:Kn)(n:Nat)(b:ab)(v2:bW)(c:bz)(v4 v5:Int)(v6:dO):Option (ae×Int×Int×dO):=(kj K n b v2 false false c v4 v5 v6).bind fun a=>some (a.1,a.2.1,a.2.2.1,a.2.2.2)
def C9(K:Kn)(n:Nat)(b:ab)(v2 c:Int):Option Int:=(mT K n b.Style v2 c).bind fun a=>some a
def Fd(K:Kn)(n:Nat)(a:ab)(v2:Int)(b:bz):Option Int:=(dN K n a.Style.Width v2).bind fun v4=>if (!v4.2) then (lN K n a b).bind fun v5=>(gO K n v2).bind fun v6=>(jA K n a.Style v2 0).bind fun c=>(kH K n c).bind fun d=>C9 K n a v2 (min (max (aa (v6-d)) v5.1) v5.2) else C9 K n a v2 v4.1
def JJ(K:Kn)(n:Nat)(a:ab)(v2:Int)(b:bz):Option az:=(Fd K n a v2 b).bind fun v4=>(jA K n a.Style v2 v4).bind fun v5=>none
def Be(K:Kn)(n:Nat)(b:d6)(v2:Int)(a:bz):Option d7:=(wM K n b (Fv.c147 v2 a.Layout a.Widths a.Lines a.Spread)).bind fun v4=>some v4
def vX(K:Kn)(n:Nat)(b:d7)(v4:Int)(a:Int→Option Int)(v5:Bool):Option Int:=if v5 then a (aa (v4+1)) else some v4
def vd(K:Kn)(n:Nat)(a:d7)(b:Int→Option Int)(v4:Int):Option Int:=if (decide (v4<(a.length:Int))) then aE (aO v4 a.length) (vX K n a v4 b ((List.getD a v4.toNat default).Glued)) else vX K n a v4 b false
def wz(K:Kn)(n:Nat)(a:d7):Nat→Int→Option Int
 | 0=>fun _=>none
 | m+1=>vd K n a (wz K n a m)
def rP(K:Kn)(n:Nat)(a:d7)(v2:Int):Option Int:=wz K n a n (aa (v2+1))
def oP(K:Kn)(n:Nat)(b:d7)(c:Int→Option Int)(a:Int):Option Int:=if (decide (a≥0)) then aE (aO a b.length) (if (!(List.getD b a.toNat default).Forced) then some a else c (aa (a-1))) else some (-1)
def oD(K:Kn)(n:Nat)(a:d7):Nat→Int→Option Int
 | 0=>fun _=>none
 | m+1=>oP K n a (oD K n a m)
def oQ(K:Kn)(n:Nat)(a:d7):Option Int:=oD K n a n (aa ((a.length:Int)-1))
def xu(K:Kn)(n:Nat)(v5:Int):Option Int:=some v5
def ww(K:Kn)(n:Nat)(a:d7)(c:Int→Int→Option Int)(v2 b:Int):Option Int:=if (decide (b<(a.length:Int))) then aE (aO b a.length) (c (aa (v2+(aa (((List.getD a b.toNat default).Width)+((List.getD a b.toNat default).Space))))) (aa (b+1))) else (oQ K n a).bind fun v4=>if (decide (v4≥0)) then aE (aO v4 a.length) (xu K n (aa (v2-((List.getD a v4.toNat default).Space)))) else xu K n v2
def tU(K:Kn)(n:Nat)(a:d7):Nat→Int→Int→Option Int
 | 0=>fun _ _=>none
 | m+1=>ww K n a (tU K n a m)
def nY(K:Kn)(n:Nat)(a:d7):Option Int:=tU K n a n 0 0
def Bu(K:Kn)(n:Nat)(e:d7)(v2 a:Int)(b:ck)(c:Int)(d:Int→ck→Option ck):Option ck:=d c (b++[a])
def uf(K:Kn)(n:Nat)(d:d7)(v2 a:Int)(e:ck)(b:Int)(h:Int→ck→Option ck)(i:Int→Option ck)(f:Bool):Option ck:=if f then (rP K n d b).bind fun c=>aE (cF a c d.length) ((nY K n (List.drop a.toNat (List.take c.toNat d))).bind fun g=>if (decide (g>v2)) then Bu K n d v2 a e b h else i c) else Bu K n d v2 a e b h
def tk(K:Kn)(n:Nat)(b:d7)(v2 c:Int)(d:ck)(e:Int→ck→Option ck)(f:Int→Option ck)(a:Int):Option ck:=if (decide (a<(b.length:Int))) then aE (aO (aa (a-1)) b.length) (uf K n b v2 c d a e f (!(List.getD b ((aa (a-1))).toNat default).Forced)) else uf K n b v2 c d a e f false
def ua(K:Kn)(n:Nat)(d:d7)(v2 a:Int)(b:ck)(c:Int→ck→Option ck):Nat→Int→Option ck
 | 0=>fun _=>none
 | m+1=>tk K n d v2 a b c (ua K n d v2 a b c m)
def tO(K:Kn)(n:Nat)(c:d7)(v2:Int)(e:Int→ck→Option ck)(a:Int)(b:ck):Option ck:=if (decide (a<(c.length:Int))) then aE (fits (b.length+([a]:ck).length) 8) ((rP K n c a).bind fun d=>ua K n c v2 a b e n d) else some b
def u9(K:Kn)(n:Nat)(a:d7)(v2:Int):Nat→Int→ck→Option ck
 | 0=>fun _ _=>none
 | m+1=>tO K n a v2 (u9 K n a v2 m)
def yT(K:Kn)(n:Nat)(a:d7)(v2:Int):Option ck:=u9 K n a v2 n 0 []
def uV(K:Kn)(n:Nat)(b:aN)(v2 a:Int):Option Int:=if (decide (a≥v2)) then some 0 else if (b.TextAlign == 1) then some (aa (Int.tdiv (aa (v2-a)) 2)) else if (b.TextAlign == 2) then some (aa (v2-a)) else some 0
def A8(K:Kn)(n:Nat)(a:Bool):Option Bool:=some a
def Cp(K:Kn)(n:Nat)(a v2:ByteArray):Option Bool:=if (decide ((a.size:Int)≥(v2.size:Int))) then aE (cF (aa ((a.size:Int)-(v2.size:Int))) (a.size:Int) a.size) (A8 K n ((ByteArray.extract a ((aa ((a.size:Int)-(v2.size:Int)))).toNat ((a.size:Int)).toNat).toList == v2.toList)) else A8 K n false
def yH(K:Kn)(n:Nat)(a v2:ByteArray):Option Bool:=(Cp K n a v2).bind fun b=>some b
def Ad(K:Kn)(n:Nat)(e:d7)(v2:aN)(f a:Int)(d:Int→Int→Int→Option ae)(b c:Int):Option ae:=d b c (aa (a+1))
def ub(K:Kn)(n:Nat)(w:d7)(v2:aN)(x v y u q r:Int)(b:az)(s:Int→Int→dn→Option ae)(t:Int→dn→Option ae)(a:Int)(c:dn):Option ae:=if (decide (a<(b.Box.length:Int))) then aE (aO a b.Box.length) ((some ((List.getD b.Box a.toNat default).Kind)).bind fun e=>(some ((List.getD b.Box a.toNat default).Node)).bind fun f=>(some (aa (((List.getD b.Box a.toNat default).X)+q))).bind fun g=>(some ((List.getD b.Box a.toNat default).aB)).bind fun h=>(some ((List.getD b.Box a.toNat default).Text)).bind fun i=>(some ((List.getD b.Box a.toNat default).Style)).bind fun j=>(some ((List.getD b.Box a.toNat default).Before)).bind fun k=>(some ((List.getD b.Box a.toNat default).After)).bind fun d=>(some ((List.getD b.Box a.toNat default).Empty)).bind fun l=>(some ((List.getD b.Box a.toNat default).Kids)).bind fun m=>(gz K n d).bind fun p=>(some (aa (((List.getD b.Box a.toNat default).Y)+(aa ((aa (v-((List.getD b.Box a.toNat default).H)))-p))))).bind fun o=>aE (fits (c.length+([(⟨e,f,g,o,(List.getD b.Box a.toNat default).W,(List.getD b.Box a.toNat default).H,h,i,j,k,d,l,m⟩:ae)]:dn).length) 584) (t (aa (a+1)) (c++[(⟨e,f,g,o,(List.getD b.Box a.toNat default).W,(List.getD b.Box a.toNat default).H,h,i,j,k,d,l,m⟩:ae)]))) else s (aa (q+(aa (b.Width+b.Space)))) (aa (r+1)) c
def tN(K:Kn)(n:Nat)(f:d7)(v2:aN)(g h i a b c:Int)(d:az)(e:Int→Int→dn→Option ae):Nat→Int→dn→Option ae
 | 0=>fun _ _=>none
 | m+1=>ub K n f v2 g h i a b c d e (tN K n f v2 g h i a b c d e m)
def sa(K:Kn)(n:Nat)(g:d7)(v2:aN)(h i j a b c:Int)(d:az)(f:Int→Int→dn→Option ae)(e:dn):Option ae:=tN K n g v2 h i j a b c d f n 0 e
def oq(K:Kn)(n:Nat)(k:d7)(v2:aN)(l h m d b e:Int)(c:dn)(j:Int→Int→dn→Option ae)(a:az):Option ae:=(some (!(a.Text.toList == (⟨#[]⟩:ByteArray).toList))).bind fun i=>if i then (zU K n a.Style.FontSize).bind fun f=>(yx K n a.Style.FontSize).bind fun g=>aE (fits (c.length+([(⟨3,a.Node,b,(aa (h-f)),(aa (a.Width+a.Space)),g,0,a.Text,a.Style,dB,dB,false,[]⟩:ae)]:dn).length) 584) (sa K n k v2 l h m d b e a j (c++[(⟨3,a.Node,b,(aa (h-f)),(aa (a.Width+a.Space)),g,0,a.Text,a.Style,dB,dB,false,[]⟩:ae)])) else sa K n k v2 l h m d b e a j c
def o8(K:Kn)(n:Nat)(b:d7)(v2:aN)(h i j c d a:Int)(e:dn)(g:Int→Int→dn→Option ae)(f:Bool):Option ae:=if f then aE (cF (0:Int) (aa ((((List.getD b a.toNat default).Text).size:Int)-1)) ((List.getD b a.toNat default).Text).size) (oq K n b v2 h i j c d a e g ({ (List.getD b a.toNat default)with Text:=(ByteArray.extract ((List.getD b a.toNat default).Text) (0:Int).toNat ((aa ((((List.getD b a.toNat default).Text).size:Int)-1))).toNat),Space:=0 }:az)) else oq K n b v2 h i j c d a e g (List.getD b a.toNat default)
def vg(K:Kn)(n:Nat)(d:d7)(v2:aN)(g f h b:Int)(i:Int→Int→dn→Option ae)(e a:Int)(c:dn):Option ae:=if (decide (a<(d.length:Int))) then aE (aO a d.length) (if (a == b) then (yH K n ((List.getD d a.toNat default).Text) (⟨#[32]⟩)).bind fun j=>if j then o8 K n d v2 g f h b e a c i ((((List.getD d a.toNat default).Style).WhiteSpace) != 2) else o8 K n d v2 g f h b e a c i false else o8 K n d v2 g f h b e a c i false) else some ({ bT with Kind:=2,W:=g,H:=(aa (f+h)),aB:=f,Style:=v2,Kids:=c }:ae)
def mJ(K:Kn)(n:Nat)(b:d7)(v2:aN)(c d e a:Int):Nat→Int→Int→dn→Option ae
 | 0=>fun _ _ _=>none
 | m+1=>vg K n b v2 c d e a (mJ K n b v2 c d e a m)
def tr(K:Kn)(n:Nat)(b:d7)(v2:aN)(c:Int)(i:Int→Int→Int→Option ae)(g h a:Int):Option ae:=if (decide (a<(b.length:Int))) then aE (aO a b.length) (if (!(List.getD b a.toNat default).Forced) then Ad K n b v2 c a i (max g ((List.getD b a.toNat default).Above)) (max h ((List.getD b a.toNat default).Below)) else Ad K n b v2 c a i g h) else (nY K n b).bind fun d=>(uV K n v2 c d).bind fun e=>(oQ K n b).bind fun f=>mJ K n b v2 c g h f n e 0 []
def tT(K:Kn)(n:Nat)(a:d7)(v2:aN)(b:Int):Nat→Int→Int→Int→Option ae
 | 0=>fun _ _ _=>none
 | m+1=>tr K n a v2 b (tT K n a v2 b m)
def Ec(K:Kn)(n:Nat)(a:d7)(v2:aN)(b:Int):Option ae:=(oT K n v2).bind fun v4=>tT K n a v2 b n v4.1 v4.2 0
def uF(K:Kn)(n:Nat)(v2:aN)(g:Int)(v5:d7)(v6:ck)(f:Int→Int→Int→dn→Option (dn×Int))(b e a:Int)(c:dn):Option (dn×Int):=if (decide (a<e)) then aE (aO a (v6++[(v5.length:Int)]).length) (aE (aO (aa (a+1)) (v6++[(v5.length:Int)]).length) (aE (cF (List.getD (v6++[(v5.length:Int)]) a.toNat default) (List.getD (v6++[(v5.length:Int)]) ((aa (a+1))).toNat default) v5.length) ((Ec K n (List.drop ((List.getD (v6++[(v5.length:Int)]) a.toNat default)).toNat (List.take ((List.getD (v6++[(v5.length:Int)]) ((aa (a+1))).toNat default)).toNat v5)) v2 (min (max g 0) 1048576)).bind fun d=>aE (fits (c.length+([({ d with Y:=b }:ae)]:dn).length) 584) (f (aa (b+d.H)) e (aa (a+1)) (c++[({ d with Y:=b }:ae)]))))) else some (c,b)
def wg(K:Kn)(n:Nat)(v2:aN)(a:Int)(v5:d7)(v6:ck):Nat→Int→Int→Int→dn→Option (dn×Int)
 | 0=>fun _ _ _ _=>none
 | m+1=>uF K n v2 a v5 v6 (wg K n v2 a v5 v6 m)
def xU(K:Kn)(n:Nat)(b:d6)(v2:aN)(a:Int)(v4:bz):Option (dn×Int):=(Be K n b (min (max a 0) 1048576) v4).bind fun v5=>(yT K n v5 (min (max a 0) 1048576)).bind fun v6=>aE (fits (v6.length+([(v5.length:Int)]:ck).length) 8) (wg K n v2 a v5 v6 n 0 (aa (((v6++[(v5.length:Int)]).length:Int)-1)) 0 [])
def wU(K:Kn)(n:Nat)(a:d6)(v2:aN)(b:Int)(v4:bz):Option (dn×Int):=(xU K n a v2 b v4).bind fun v5=>some (v5.1,v5.2)
def D8(K:Kn)(n:Nat)(b:ab)(v2:bz)(a:ck):Option (az×ck):=(K.gy v2.Widths b).bind fun v4=>aE (fits (a.length+([v4.2]:ck).length) 8) (some (({ cR with Width:=v4.1 }:az),(a++[v4.2])))
def EE(K:Kn)(n:Nat)(b:ab)(v2:Int)(a:ck):Option (az×Int×ck):=aE (aO (aa ((aa (v2+1))-1)) a.length) (some (({ cR with Width:=(List.getD a ((aa ((aa (v2+1))-1))).toNat default) }:az),(aa (v2+1)),a))
def md(K:Kn)(n:Nat)(v2:bz)(v4:eb)(a:Int)(b:d7)(c:Bool)(i:Int→ck→d7→Option (d7×ck))(g:Int)(h:ck)(d:az):Option (d7×ck):=(some (((List.getD v4 a.toNat default).Box).Node)).bind fun e=>(some (((List.getD v4 a.toNat default).Box).Style)).bind fun f=>aE (fits (b.length+([({ d with Node:=e,Style:=f,Glued:=c }:az)]:d7).length) 536) (i g h (b++[({ d with Node:=e,Style:=f,Glued:=c }:az)]))
def lU(K:Kn)(n:Nat)(v2:bz)(v4:eb)(b:Int)(c:ck)(d:d7)(e:Bool)(a:Int)(h:Int→ck→d7→Option (d7×ck))(i:Int→Option (d7×ck))(f:Bool):Option (d7×ck):=if f then i (aa (a+1)) else aE (cF b a v4.length) ((qa K n (List.drop b.toNat (List.take a.toNat v4))).bind fun g=>md K n v2 v4 b d e h a c g)
def tm(K:Kn)(n:Nat)(v2:bz)(v4:eb)(b:Int)(c:ck)(d:d7)(e:Bool)(f:Int→ck→d7→Option (d7×ck))(g:Int→Option (d7×ck))(a:Int):Option (d7×ck):=if (decide (a<(v4.length:Int))) then aE (aO a v4.length) (if (((List.getD v4 a.toNat default).Kind) == 1) then aE (aO a v4.length) (if (((List.getD v4 a.toNat default).Of) == ((List.getD v4 b.toNat default).Of)) then aE (aO (aa (a-1)) v4.length) (aE (aO a v4.length) ((lL K n (List.getD v4 ((aa (a-1))).toNat default) (List.getD v4 a.toNat default)).bind fun h=>lU K n v2 v4 b c d e a f g (!h))) else lU K n v2 v4 b c d e a f g false) else lU K n v2 v4 b c d e a f g false) else lU K n v2 v4 b c d e a f g false
def qq(K:Kn)(n:Nat)(v2:bz)(v4:eb)(a:Int)(b:ck)(c:d7)(d:Bool)(e:Int→ck→d7→Option (d7×ck)):Nat→Int→Option (d7×ck)
 | 0=>fun _=>none
 | m+1=>tm K n v2 v4 a b c d e (qq K n v2 v4 a b c d e m)
def qw(K:Kn)(n:Nat)(v2:bz)(v4:eb)(a:Int)(b:ck)(c:d7)(f:Int→ck→d7→Option (d7×ck))(d:Bool):Option (d7×ck):=(some (((List.getD v4 a.toNat default).Kind) == 2)).bind fun g=>if g then md K n v2 v4 a c d f (aa (a+1)) b ({ cR with Forced:=true }:az) else (some (((List.getD v4 a.toNat default).Kind) == 3)).bind fun h=>if h then (D8 K n ((List.getD v4 a.toNat default).Box) v2 b).bind fun e=>md K n v2 v4 a c d f (aa (a+1)) e.2 e.1 else qq K n v2 v4 a b c d f n (aa (a+1))
def vm(K:Kn)(n:Nat)(v2:bz)(v4:eb)(d:Int→ck→d7→Option (d7×ck))(a:Int)(b:ck)(c:d7):Option (d7×ck):=if (decide (a<(v4.length:Int))) then aE (aO a v4.length) (if (decide (a>0)) then aE (aO (aa (a-1)) v4.length) (if (((List.getD v4 ((aa (a-1))).toNat default).Kind) != 2) then aE (aO (aa (a-1)) v4.length) ((lL K n (List.getD v4 ((aa (a-1))).toNat default) (List.getD v4 a.toNat default)).bind fun e=>qw K n v2 v4 a b c d (!e)) else qw K n v2 v4 a b c d false) else qw K n v2 v4 a b c d false) else some (c,b)
def rR(K:Kn)(n:Nat)(v2:bz)(v4:eb):Nat→Int→ck→d7→Option (d7×ck)
 | 0=>fun _ _ _=>none
 | m+1=>vm K n v2 v4 (rR K n v2 v4 m)
def sq(K:Kn)(n:Nat)(a:d6)(v2:bz)(b:ck):Option (d7×ck):=(rI K n a).bind fun v4=>rR K n v2 v4 n 0 b []
def mh(K:Kn)(n:Nat)(v4:eb)(a:Int)(b:d7)(c:Bool)(j:Int→Int→ck→d7→Option (d7×Int×ck))(g h:Int)(i:ck)(d:az):Option (d7×Int×ck):=(some (((List.getD v4 a.toNat default).Box).Node)).bind fun e=>(some (((List.getD v4 a.toNat default).Box).Style)).bind fun f=>aE (fits (b.length+([({ d with Node:=e,Style:=f,Glued:=c }:az)]:d7).length) 536) (j g h i (b++[({ d with Node:=e,Style:=f,Glued:=c }:az)]))
def lQ(K:Kn)(n:Nat)(v4:eb)(b c:Int)(d:ck)(e:d7)(f:Bool)(a:Int)(i:Int→Int→ck→d7→Option (d7×Int×ck))(j:Int→Option (d7×Int×ck))(g:Bool):Option (d7×Int×ck):=if g then j (aa (a+1)) else aE (cF b a v4.length) ((qa K n (List.drop b.toNat (List.take a.toNat v4))).bind fun h=>mh K n v4 b e f i a c d h)
def sX(K:Kn)(n:Nat)(v4:eb)(b c:Int)(d:ck)(e:d7)(f:Bool)(g:Int→Int→ck→d7→Option (d7×Int×ck))(h:Int→Option (d7×Int×ck))(a:Int):Option (d7×Int×ck):=if (decide (a<(v4.length:Int))) then aE (aO a v4.length) (if (((List.getD v4 a.toNat default).Kind) == 1) then aE (aO a v4.length) (if (((List.getD v4 a.toNat default).Of) == ((List.getD v4 b.toNat default).Of)) then aE (aO (aa (a-1)) v4.length) (aE (aO a v4.length) ((lL K n (List.getD v4 ((aa (a-1))).toNat default) (List.getD v4 a.toNat default)).bind fun i=>lQ K n v4 b c d e f a g h (!i))) else lQ K n v4 b c d e f a g h false) else lQ K n v4 b c d e f a g h false) else lQ K n v4 b c d e f a g h false
def rH(K:Kn)(n:Nat)(v4:eb)(a b:Int)(c:ck)(d:d7)(e:Bool)(f:Int→Int→ck→d7→Option (d7×Int×ck)):Nat→Int→Option (d7×Int×ck)
 | 0=>fun _=>none
 | m+1=>sX K n v4 a b c d e f (rH K n v4 a b c d e f m)
def pU(K:Kn)(n:Nat)(v4:eb)(a b:Int)(c:ck)(d:d7)(g:Int→Int→ck→d7→Option (d7×Int×ck))(e:Bool):Option (d7×Int×ck):=(some (((List.getD v4 a.toNat default).Kind) == 2)).bind fun h=>if h then mh K n v4 a d e g (aa (a+1)) b c ({ cR with Forced:=true }:az) else (some (((List.getD v4 a.toNat default).Kind) == 3)).bind fun i=>if i then (EE K n ((List.getD v4 a.toNat default).Box) b c).bind fun f=>mh K n v4 a d e g (aa (a+1)) f.2.1 f.2.2 f.1 else rH K n v4 a b c d e g n (aa (a+1))
def uR(K:Kn)(n:Nat)(v4:eb)(e:Int→Int→ck→d7→Option (d7×Int×ck))(a b:Int)(c:ck)(d:d7):Option (d7×Int×ck):=if (decide (a<(v4.length:Int))) then aE (aO a v4.length) (if (decide (a>0)) then aE (aO (aa (a-1)) v4.length) (if (((List.getD v4 ((aa (a-1))).toNat default).Kind) != 2) then aE (aO (aa (a-1)) v4.length) ((lL K n (List.getD v4 ((aa (a-1))).toNat default) (List.getD v4 a.toNat default)).bind fun f=>pU K n v4 a b c d e (!f)) else pU K n v4 a b c d e false) else pU K n v4 a b c d e false) else some (d,b,c)
def pQ(K:Kn)(n:Nat)(v4:eb):Nat→Int→Int→ck→d7→Option (d7×Int×ck)
 | 0=>fun _ _ _ _=>none
 | m+1=>uR K n v4 (pQ K n v4 m)
def sc(K:Kn)(n:Nat)(a:d6)(v2:Int)(b:ck):Option (d7×Int×ck):=(rI K n a).bind fun v4=>pQ K n v4 n 0 v2 b []
def xd(K:Kn)(n:Nat)(v4:d7×ck)(v5:d7×Int×ck)(a:Int)(c:Int→Int→Option eq)(b:Int):Option eq:=c b a
def xY(K:Kn)(n:Nat)(v5:d7×Int×ck)(d a:Int)(c:Int→Int→Option eq)(b:Int):Option eq:=c b a
def pH(K:Kn)(n:Nat)(v5:d7×Int×ck)(g b c a:Int)(f:Int→Int→Option eq)(h:Int→Option eq)(e:Bool):Option eq:=if e then h (aa (a+1)) else aE (cF c a v5.1.length) ((nY K n (List.drop c.toNat (List.take a.toNat v5.1))).bind fun d=>if (decide (d>b)) then xY K n v5 g a f d else xY K n v5 g a f b)
def uv(K:Kn)(n:Nat)(v5:d7×Int×ck)(f b c:Int)(d:Int→Int→Option eq)(e:Int→Option eq)(a:Int):Option eq:=if (decide (a<(v5.1.length:Int))) then aE (aO (aa (a-1)) v5.1.length) (pH K n v5 f b c a d e (!(List.getD v5.1 ((aa (a-1))).toNat default).Forced)) else pH K n v5 f b c a d e false
def vi(K:Kn)(n:Nat)(v5:d7×Int×ck)(d a b:Int)(c:Int→Int→Option eq):Nat→Int→Option eq
 | 0=>fun _=>none
 | m+1=>uv K n v5 d a b c (vi K n v5 d a b c m)
def wD(K:Kn)(n:Nat)(v5:d7×Int×ck)(c:Int)(d:Int→Int→Option eq)(b a:Int):Option eq:=if (decide (a<(v5.1.length:Int))) then vi K n v5 c b a d n (aa (a+1)) else some (c,b)
def uG(K:Kn)(n:Nat)(v5:d7×Int×ck)(a:Int):Nat→Int→Int→Option eq
 | 0=>fun _ _=>none
 | m+1=>wD K n v5 a (uG K n v5 a m)
def uz(K:Kn)(n:Nat)(v4:d7×ck)(v5:d7×Int×ck)(e:Int→Int→Option eq)(d a:Int):Option eq:=if (decide (a<(v4.1.length:Int))) then (rP K n v4.1 a).bind fun b=>aE (cF a b v4.1.length) ((nY K n (List.drop a.toNat (List.take b.toNat v4.1))).bind fun c=>if (decide (c>d)) then xd K n v4 v5 b e c else xd K n v4 v5 b e d) else uG K n v5 d n 0 0
def vb(K:Kn)(n:Nat)(v4:d7×ck)(v5:d7×Int×ck):Nat→Int→Int→Option eq
 | 0=>fun _ _=>none
 | m+1=>uz K n v4 v5 (vb K n v4 v5 m)
def yV(K:Kn)(n:Nat)(a:d6)(v2:aN)(b:bz):Option eq:=(sq K n a b ([]:ck)).bind fun v4=>(sc K n a 0 v4.2).bind fun v5=>vb K n v4 v5 n 0 0
def z8(K:Kn)(n:Nat)(a:d6)(v2:aN)(b:bz):Option eq:=(yV K n a v2 b).bind fun v4=>some (v4.1,v4.2)
def db:Nat→Bool→Bool→bz
 | 0,_,_=>⟨.bot 43 3,.bot 48 1,.bot 52 1,.bot 54 1⟩
 | d+1,a,v2=>⟨.c43 a (db d a v2).Layout (db d a v2).Widths (db d a v2).Lines (db d a v2).Spread v2,.c48 (db d a v2).Layout (db d a v2).Widths (db d a v2).Lines (db d a v2).Spread,.c52 (db d a v2).Layout (db d a v2).Widths (db d a v2).Lines (db d a v2).Spread,.c54 (db d a v2).Layout (db d a v2).Widths (db d a v2).Lines (db d a v2).Spread⟩
def CN(K:Kn)(n:Nat)(a v2:Bool):Option bz:=some (db n a v2)
def ze(K:Kn)(n:Nat)(a v2:ab):Option Bool:=(K.BN a v2).bind fun b=>some b
def yw(K:Kn)(n:Nat)(v5:Bool):Option Bool:=some v5
def pA(K:Kn)(n:Nat)(a v2:ab):Option Bool:=(pi K n a v2).bind fun b=>if b then yw K n true else (lu K n a.Kids (Fv.c65 v2)).bind fun v4=>yw K n v4
def xg(K:Kn)(n:Nat)(b:ae)(v2:dn)(a:Int→dn→Option ae)(v4:Int)(v5:dn):Option ae:=if (decide (v4<(v2.length:Int))) then aE (aO v4 v5.length) ((K.yP (List.getD v5 v4.toNat default)).bind fun v6=>aE (aO v4 v5.length) (a (aa (v4+1)) (List.set v5 v4.toNat v6))) else some ({ b with Kids:=v5 }:ae)
def uC(K:Kn)(n:Nat)(a:ae)(v2:dn):Nat→Int→dn→Option ae
 | 0=>fun _ _=>none
 | m+1=>xg K n a v2 (uC K n a v2 m)
def tn(K:Kn)(n:Nat)(a:ae):Option ae:=(qJ K n a.Kids).bind fun v2=>uC K n a v2 n 0 v2
def zE(K:Kn)(n:Nat)(a:ck):Option ck:=om (List.isEmpty a) (aE (fits (([]:ck).length+a.length) 8) (some (([]:ck)++a)))
def rb(K:Kn)(n:Nat)(d:ib)(v2:ab)(v6:ck)(a:Int)(c:Int→Option Unit)(b:Bool):Option Unit:=if b then none else (K.tL d (List.getD v2.Kids a.toNat default) v6).bind fun e=>c (aa (a+1))
def A4(K:Kn)(n:Nat)(c:ib)(v2:ab)(v6:ck)(b:Int→Option Unit)(a:Int):Option Unit:=if (decide (a<(v2.Kids.length:Int))) then aE (aO a v2.Kids.length) (if (((List.getD v2.Kids a.toNat default).Kind) != 3) then if (((List.getD v2.Kids a.toNat default).Kind) != 4) then rb K n c v2 v6 a b ((((List.getD v2.Kids a.toNat default).Style).Position) == 2) else rb K n c v2 v6 a b false else rb K n c v2 v6 a b false) else some ()
def qd(K:Kn)(n:Nat)(a:ib)(v2:ab)(v6:ck):Nat→Int→Option Unit
 | 0=>fun _=>none
 | m+1=>A4 K n a v2 v6 (qd K n a v2 v6 m)
def uH(K:Kn)(n:Nat)(a:ib)(v2:ab)(v6:ck):Option Unit:=qd K n a v2 v6 n 0
def ve(K:Kn)(n:Nat)(a:ib)(v2:ab)(b:ck)(v4:Bool):Option Unit:=if v4 then (zE K n b).bind fun v5=>aE (fits (v5.length+([v2.Node]:ck).length) 8) (uH K n a v2 (v5++[v2.Node])) else uH K n a v2 b
def oB(K:Kn)(n:Nat)(a:ib)(v2:ab)(b:ck):Option Unit:=if (v2.Node != 0) then ve K n a v2 b (v2.Style.Position != 0) else ve K n a v2 b false
def DW(K:Kn)(n:Nat)(c:ab)(v2 e:Int)(v4:bz)(v5 v6:Int)(f:dO):Option (ae×Int×Int×dO):=(qe K n c.Style (min (max v2 0) 1048576)).bind fun g=>(Ct K n c g v4 v5 v6 f).bind fun b=>(tn K n b.1).bind fun a=>(oB K n ({ RQ with env:=v4 }:ib) c []).bind fun d=>some (({ a with H:=(max a.H (min (max e 0) 1048576)) }:ae),b.2.1,b.2.2.1,b.2.2.2)
def uP(K:Kn)(n:Nat)(a:dO)(v2:Fv)(b:Int→Option Int)(v4:Int):Option Int:=if (decide (v4<(a.length:Int))) then aE (aO v4 a.length) ((K.mw v2 (List.getD a v4.toNat default)).bind fun v5=>if v5 then some v4 else b (aa (v4+1))) else some (-1)
def lS(K:Kn)(n:Nat)(a:dO)(v2:Fv):Nat→Int→Option Int
 | 0=>fun _=>none
 | m+1=>uP K n a v2 (lS K n a v2 m)
def vA(K:Kn)(n:Nat)(a:dO)(v2:Fv):Option Int:=lS K n a v2 n 0
def zB(K:Kn)(n:Nat)(a:dO)(v2:Fv):Option Bool:=(vA K n a v2).bind fun b=>some (decide (b≥0))
def Ee(K:Kn)(n:Nat)(v4:Bool):Option Bool:=some v4
def yO(K:Kn)(n:Nat)(a v2:aw):Option Bool:=if (a.Width == v2.Width) then (pi K n a.Box v2.Box).bind fun b=>Ee K n b else Ee K n false
def yQ(K:Kn)(n:Nat)(d:ab)(e:ae×Int×Int×dO)(a:Int)(c:Int→dO→Option (ae×Int×Int×dO))(b:dO):Option (ae×Int×Int×dO):=c (aa (a+1)) b
def y7(K:Kn)(n:Nat)(f:ab)(c:ae×Int×Int×dO)(a:Int)(b:dO)(e:Int→dO→Option (ae×Int×Int×dO))(d:Bool):Option (ae×Int×Int×dO):=if d then aE (fits (b.length+([(List.getD c.2.2.2 a.toNat default)]:dO).length) 1112) (yQ K n f c a e (b++[(List.getD c.2.2.2 a.toNat default)])) else yQ K n f c a e b
def xn(K:Kn)(n:Nat)(d:ab)(c:ae×Int×Int×dO)(h:Int→dO→Option (ae×Int×Int×dO))(a:Int)(b:dO):Option (ae×Int×Int×dO):=if (decide (a<(c.2.2.2.length:Int))) then aE (aO a c.2.2.2.length) ((zB K n b (Fv.c39 (List.getD c.2.2.2 a.toNat default))).bind fun e=>if (!e) then (pA K n d ((List.getD c.2.2.2 a.toNat default).Box)).bind fun f=>y7 K n d c a b h f else y7 K n d c a b h false) else (oJ K n c.1).bind fun g=>some (g,c.2.1,c.2.2.1,b)
def ri(K:Kn)(n:Nat)(a:ab)(b:ae×Int×Int×dO):Nat→Int→dO→Option (ae×Int×Int×dO)
 | 0=>fun _ _=>none
 | m+1=>xn K n a b (ri K n a b m)
def o4(K:Kn)(n:Nat)(a:ab)(v2 b v4 v5:Int)(v6:dO):Option (ae×Int×Int×dO):=(CN K n true true).bind fun c=>(DW K n a v2 b c 0 0 v6).bind fun d=>ri K n a d n 0 []
def tW(K:Kn)(n:Nat)(a:Int):Option ab:=some ({ c7 with Kind:=1,Node:=a,Style:=({ cw with Height:=(⟨1,20⟩:cB) }:aN) }:ab)
def tK(K:Kn)(n:Nat)(a:Bool):Option Bool:=some a
def Cf(K:Kn)(n:Nat):Option Bool:=(tW K n 2).bind fun b=>(tW K n 3).bind fun v2=>(o4 K n ({ c7 with Kind:=1,Node:=1,Kids:=[b,v2] }:ab) 100 10 0 0 ([]:dO)).bind fun a=>(tW K n 2).bind fun v4=>(tW K n 4).bind fun v5=>(o4 K n ({ c7 with Kind:=1,Node:=1,Kids:=[v4,v5] }:ab) 100 10 a.2.1 a.2.2.1 a.2.2.2).bind fun v6=>if (a.1.H == 40) then if (a.2.1 == 2) then if (v6.2.1 == 1) then tK K n (v6.2.2.1 == 1) else tK K n false else tK K n false else tK K n false
def zf(K:Kn)(n:Nat)(v2:Bool):Option Bool:=some v2
def fU(K:Kn)(n:Nat)(a:cB):Option Bool:=if (decide (a.Value≥(-16777216))) then zf K n (decide (a.Value≤16777216)) else zf K n false
def vE(K:Kn)(n:Nat)(d:h8)(v2 a:Int)(c:Int→Option Bool)(b:Bool):Option Bool:=if b then some false else c (aa (a+1))
def Bi(K:Kn)(n:Nat)(b:h8)(v2 a:Int)(f:Int→Option Bool)(c:Bool):Option Bool:=if c then some false else (fU K n ((((List.getD b a.toNat default).Style).Margin).a3)).bind fun d=>if (!d) then vE K n b v2 a f true else (fU K n ((((List.getD b a.toNat default).Style).Padding).a3)).bind fun e=>vE K n b v2 a f (!e)
def zr(K:Kn)(n:Nat)(b:h8)(v2 a:Int)(f:Int→Option Bool)(c:Bool):Option Bool:=if c then some false else (fU K n ((((List.getD b a.toNat default).Style).Margin).a2)).bind fun d=>if (!d) then Bi K n b v2 a f true else (fU K n ((((List.getD b a.toNat default).Style).Padding).a2)).bind fun e=>Bi K n b v2 a f (!e)
def AX(K:Kn)(n:Nat)(b:h8)(v2 a:Int)(f:Int→Option Bool)(c:Bool):Option Bool:=if c then some false else (fU K n ((((List.getD b a.toNat default).Style).Margin).a1)).bind fun d=>if (!d) then zr K n b v2 a f true else (fU K n ((((List.getD b a.toNat default).Style).Padding).a1)).bind fun e=>zr K n b v2 a f (!e)
def fc(K:Kn)(n:Nat)(b:h8)(v2 a:Int)(f:Int→Option Bool)(c:Bool):Option Bool:=if c then some false else (fU K n ((((List.getD b a.toNat default).Style).Margin).a0)).bind fun d=>if (!d) then AX K n b v2 a f true else (fU K n ((((List.getD b a.toNat default).Style).Padding).a0)).bind fun e=>AX K n b v2 a f (!e)
def nC(K:Kn)(n:Nat)(b:h8)(v2:Int)(c:Int→Option Bool)(a:Int):Option Bool:=if (decide (a<(b.length:Int))) then aE (aO a b.length) (aE (aO a b.length) (if (decide ((((List.getD b a.toNat default).Text).size:Int)>60)) then fc K n b v2 a c true else (fU K n (((List.getD b a.toNat default).Style).Left)).bind fun d=>if (!d) then fc K n b v2 a c true else (fU K n (((List.getD b a.toNat default).Style).Top)).bind fun e=>if (!e) then fc K n b v2 a c true else (fU K n (((List.getD b a.toNat default).Style).Width)).bind fun f=>if (!f) then fc K n b v2 a c true else (fU K n (((List.getD b a.toNat default).Style).Height)).bind fun g=>if (!g) then fc K n b v2 a c true else (fU K n (((List.getD b a.toNat default).Style).MinWidth)).bind fun h=>if (!h) then fc K n b v2 a c true else (fU K n (((List.getD b a.toNat default).Style).MaxWidth)).bind fun i=>if (!i) then fc K n b v2 a c true else (fU K n (((List.getD b a.toNat default).Style).Basis)).bind fun j=>if (!j) then fc K n b v2 a c true else if (decide ((((List.getD b a.toNat default).Style).LineHeight)<0)) then fc K n b v2 a c true else if (decide ((((List.getD b a.toNat default).Style).LineHeight)>65536)) then fc K n b v2 a c true else if (decide ((((List.getD b a.toNat default).Style).FontSize)<0)) then fc K n b v2 a c true else if (decide ((((List.getD b a.toNat default).Style).FontSize)>65536)) then fc K n b v2 a c true else if (decide ((((List.getD b a.toNat default).Style).Grow)<0)) then fc K n b v2 a c true else if (decide ((((List.getD b a.toNat default).Style).Grow)>1048576)) then fc K n b v2 a c true else if (decide ((((List.getD b a.toNat default).Style).Shrink)<0)) then fc K n b v2 a c true else fc K n b v2 a c (decide ((((List.getD b a.toNat default).Style).Shrink)>1048576)))) else some (decide ((b.length:Int)≤v2))
def qC(K:Kn)(n:Nat)(a:h8)(v2:Int):Nat→Int→Option Bool
 | 0=>fun _=>none
 | m+1=>nC K n a v2 (qC K n a v2 m)
def xr(K:Kn)(n:Nat)(a:h8)(v2:Int):Option Bool:=qC K n a v2 n 0
def tG(K:Kn)(n:Nat)(a:Bool):Option Bool:=some a
def xH(K:Kn)(n:Nat)(a:h8)(v2:List me)(b:Int→Option Bool)(v4:Int):Option Bool:=if (decide (v4<(v2.length:Int))) then aE (aO v4 v2.length) ((xr K n [(List.getD v2 v4.toNat default).Spec] 1).bind fun v5=>if (!v5) then some false else b (aa (v4+1))) else (xr K n a 12).bind fun v6=>if v6 then if (decide ((a.length:Int)>0)) then tG K n (decide ((v2.length:Int)≤6)) else tG K n false else tG K n false
def tD(K:Kn)(n:Nat)(a:h8)(v2:List me):Nat→Int→Option Bool
 | 0=>fun _=>none
 | m+1=>xH K n a v2 (tD K n a v2 m)
def Bw(K:Kn)(n:Nat)(a:h8)(v2:List me):Option Bool:=tD K n a v2 n 0
def mH(K:Kn)(n:Nat)(b:h8)(v2:Int)(g:Bool)(a:Int)(d:d6)(f:Int→d6→Option g6)(e:Bool):Option g6:=if e then if g then (K.kI b a).bind fun c=>aE (fits (d.length+([c.1]:d6).length) 520) (f c.2 (d++[c.1])) else aE (aO a b.length) (aE (aO a b.length) (aE (fits (d.length+([({ c7 with Kind:=3,Style:=(List.getD b a.toNat default).Style,Text:=(List.getD b a.toNat default).Text }:ab)]:d6).length) 520) (f (aa (a+1)) (d++[({ c7 with Kind:=3,Style:=(List.getD b a.toNat default).Style,Text:=(List.getD b a.toNat default).Text }:ab)])))) else some ((⟨1,(aa (10+v2)),(List.getD b v2.toNat default).Style,⟨#[]⟩,0,0,d⟩:ab),a)
def oo(K:Kn)(n:Nat)(a:h8)(v2:Int)(d:Bool)(c:Int→d6→Option g6)(b:Int)(e:d6):Option g6:=if (decide (b<(a.length:Int))) then aE (aO b a.length) (mH K n a v2 d b e c (decide (((List.getD a b.toNat default).Depth)>((List.getD a v2.toNat default).Depth)))) else mH K n a v2 d b e c false
def ly(K:Kn)(n:Nat)(a:h8)(v2:Int)(b:Bool):Nat→Int→d6→Option g6
 | 0=>fun _ _=>none
 | m+1=>oo K n a v2 b (ly K n a v2 b m)
def oZ(K:Kn)(n:Nat)(a:h8)(v2:Int)(b:Bool):Option g6:=ly K n a v2 b n (aa (v2+1)) []
def oG(K:Kn)(n:Nat)(a:h8)(v2:Int):Option g6:=aE (aO v2 a.length) (aE (aO v2 a.length) (if (decide ((aa (v2+1))<(a.length:Int))) then aE (aO (aa (v2+1)) a.length) (if (decide (((List.getD a ((aa (v2+1))).toNat default).Depth)>((List.getD a v2.toNat default).Depth))) then aE (aO (aa (v2+1)) a.length) (oZ K n a v2 ((Int.tmod ((List.getD a ((aa (v2+1))).toNat default).Kind) 2) == 0)) else oZ K n a v2 false) else oZ K n a v2 false))
def jI(l:h8)(b:ab)(c:d6)(a:Bool):Option ab:=match a with
 | false=>some { b with Kids:=c }
 | true=>if (decide ((aa (b.Node-10))>0)) then aE (aO (aa (b.Node-10)) l.length) (if ((Int.tmod ((List.getD l ((aa (b.Node-10))).toNat default).Rows) 4) == 1) then some { b with Kind:=6,Kids:=c } else some { b with Kids:=c }) else some { b with Kids:=c }
def kP(f:ab→Option ab):d6→Option d6
 | []=>some []
 | k::r=>(if (k.Kind == 1) then f k else some k).bind fun a=>(kP f r).bind fun b=>some (a::b)
def iw(l:h8):Nat→ab→Option ab
 | 0,_=>none
 | m+1,b=>(kP (iw l m) b.Kids).bind fun a=>jI l b a (b.Kids.any fun k=>k.Kind == 1)
def kZ(K:Kn)(n:Nat):Nat→h8→Int→Option g6
 | 0,_,_=>none
 | m+1,l,a=>oG { K with kI:=kZ K n m } n l a
def fu(s:ce):ce:=if (s.Style.Position == 2) then { s with Style:={ s.Style with Position:=0 } } else s
def sN(K:Kn)(n:Nat)(a:h8):Option ab:=aE (fits a.length 480) ((kZ K n n (a.map fu) 0).bind fun r=>iw (a.map fu) n r.1)
def xw(K:Kn)(n:Nat)(a v2:ae)(b:Int→Option Bool)(v6:Int):Option Bool:=if (decide (v6<(a.Kids.length:Int))) then aE (aO v6 a.Kids.length) (aE (aO v6 v2.Kids.length) ((K.yD (List.getD a.Kids v6.toNat default) (List.getD v2.Kids v6.toNat default)).bind fun c=>if (!c) then some false else b (aa (v6+1)))) else some true
def sQ(K:Kn)(n:Nat)(a v2:ae):Nat→Int→Option Bool
 | 0=>fun _=>none
 | m+1=>xw K n a v2 (sQ K n a v2 m)
def gJ(K:Kn)(n:Nat)(a v2:ae)(b:Bool):Option Bool:=if b then some false else sQ K n a v2 n 0
def qM(K:Kn)(n:Nat)(a v2:ae):Option Bool:=if (a.Kind != v2.Kind) then gJ K n a v2 true else if (a.Node != v2.Node) then gJ K n a v2 true else if (a.X != v2.X) then gJ K n a v2 true else if (a.Y != v2.Y) then gJ K n a v2 true else if (a.W != v2.W) then gJ K n a v2 true else if (a.H != v2.H) then gJ K n a v2 true else if (a.aB != v2.aB) then gJ K n a v2 true else if (!(a.Text.toList == v2.Text.toList)) then gJ K n a v2 true else if (!(lO a.Style v2.Style)) then gJ K n a v2 true else if (!(Eg a.Before v2.Before)) then gJ K n a v2 true else if (!(Eg a.After v2.After)) then gJ K n a v2 true else if (!(a.Empty == v2.Empty)) then gJ K n a v2 true else gJ K n a v2 ((a.Kids.length:Int) != (v2.Kids.length:Int))
def z4(K:Kn)(n:Nat)(a:ab)(v2:Int)(b:Int→Option Bool)(v5:Int):Option Bool:=if (decide (v5<(a.Kids.length:Int))) then aE (aO v5 a.Kids.length) ((K.za (List.getD a.Kids v5.toNat default) v2).bind fun v6=>if v6 then some true else b (aa (v5+1))) else some false
def s8(K:Kn)(n:Nat)(a:ab)(v2:Int):Nat→Int→Option Bool
 | 0=>fun _=>none
 | m+1=>z4 K n a v2 (s8 K n a v2 m)
def nS(K:Kn)(n:Nat)(a:ab)(v2:Int):Option Bool:=if (a.Node == v2) then some true else s8 K n a v2 n 0
def xy(K:Kn)(n:Nat)(e:Fv)(a:Int)(d:Int→Int→dO→Option dO)(b:Int)(c:dO):Option dO:=d b (aa (a+1)) c
def z0(K:Kn)(n:Nat)(e:Fv)(g:Int→Int→dO→Option dO)(c b:Int)(a:dO):Option dO:=if (decide (b<(a.length:Int))) then aE (aO b a.length) ((K.mw e (List.getD a b.toNat default)).bind fun f=>if (!f) then aE (aO c a.length) (xy K n e b g (aa (c+1)) (List.set a c.toNat (List.getD a b.toNat default))) else xy K n e b g c a) else aE (cF c (a.length:Int) a.length) (aE (Nat.beq (c.toNat+(((a.length:Int)).toNat-c.toNat)) a.length) ((some (List.take (c.toNat) a++List.replicate (((a.length:Int)).toNat-c.toNat) (Am:aw))).bind fun d=>aE (decide (0≤c)&&(decide (c≤(d.length:Int))&&Nat.ble 1 d.length)) (some (List.take c.toNat d))))
def tB(K:Kn)(n:Nat)(a:Fv):Nat→Int→Int→dO→Option dO
 | 0=>fun _ _ _=>none
 | m+1=>z0 K n a (tB K n a m)
def wX(K:Kn)(n:Nat)(b:Fv)(v2:dO):Option dO:=(vA K n v2 b).bind fun a=>if (a == (-1)) then some v2 else tB K n b n a (aa (a+1)) v2
def Hk(K:Kn)(n:Nat)(a:ab)(v2:Int):Option Bool:=(K.Ch a v2).bind fun b=>some b
def sW(K:Kn)(n:Nat)(v4:Bool):Option Bool:=some v4
def pc(K:Kn)(n:Nat)(a:ab)(v2:Int):Option Bool:=if (a.Node == v2) then sW K n true else (lu K n a.Kids (Fv.c120 v2)).bind fun b=>sW K n b
def KV(K:Kn)(n:Nat)(a:aw)(v2:Int):Option Bool:=(pc K n a.Box v2).bind fun b=>some b
def tp(K:Kn)(n:Nat)(a v2 b:Int)(v4:dO):Option (Int×Int×Int×dO):=if (a == 0) then some (0,v2,b,v4) else (wX K n (Fv.c67 a) v4).bind fun v5=>some ((aa ((v4.length:Int)-(v5.length:Int))),v2,b,v5)
def AG(K:Kn)(n:Nat)(v2 e:Int)(v6:ab)(f:ae×Int×Int×dO)(a:Int)(d:Int→Int→Int→Option Bool)(b c:Int):Option Bool:=d b c (aa (a+1))
def wB(K:Kn)(n:Nat)(v2 f:Int)(v6:ab)(g:ae×Int×Int×dO)(a b c:Int)(e:Int→Int→Int→Option Bool)(d:Bool):Option Bool:=if d then AG K n v2 f v6 g c e (aa (a+1)) b else AG K n v2 f v6 g c e a (aa (b+1))
def ss(K:Kn)(n:Nat)(v2 f:Int)(v6:ab)(g:ae×Int×Int×dO)(d:Int)(e:Int×Int×Int×dO)(a:Int)(c:Int→Option Bool)(b:Bool):Option Bool:=if b then some false else c (aa (a+1))
def zM(K:Kn)(n:Nat)(a:Bool):Option Bool:=some a
def nD(K:Kn)(n:Nat)(v2 f:Int)(v6:ab)(h:ae×Int×Int×dO)(c:Int)(a:Int×Int×Int×dO)(i:Int→Option Bool)(b:Int):Option Bool:=if (decide (b<(a.2.2.2.length:Int))) then aE (aO b a.2.2.2.length) (if ((Int.tmod (aa v2) 32) != 0) then (nS K n ((List.getD a.2.2.2 b.toNat default).Box) (Int.tmod (aa v2) 32)).bind fun e=>ss K n v2 f v6 h c a b i e else ss K n v2 f v6 h c a b i false) else (o4 K n v6 f 0 a.2.1 a.2.2.1 a.2.2.2).bind fun d=>(qM K n h.1 d.1).bind fun g=>if g then zM K n ((decide (c>0)) == (decide (d.2.1>0))) else zM K n false
def ox(K:Kn)(n:Nat)(v2 c:Int)(v6:ab)(d:ae×Int×Int×dO)(a:Int)(b:Int×Int×Int×dO):Nat→Int→Option Bool
 | 0=>fun _=>none
 | m+1=>nD K n v2 c v6 d a b (ox K n v2 c v6 d a b m)
def y8(K:Kn)(n:Nat)(v2 d:Int)(v6:ab)(e:ae×Int×Int×dO)(a:Int)(b:Int×Int×Int×dO)(c:Bool):Option Bool:=if c then some false else ox K n v2 d v6 e a b n 0
def pe(K:Kn)(n:Nat)(v2 f:Int)(v6:ab)(c:ae×Int×Int×dO)(h:Int→Int→Int→Option Bool)(a e b:Int):Option Bool:=if (decide (b<(c.2.2.2.length:Int))) then aE (aO b c.2.2.2.length) (if ((Int.tmod (aa v2) 32) != 0) then (nS K n ((List.getD c.2.2.2 b.toNat default).Box) (Int.tmod (aa v2) 32)).bind fun g=>wB K n v2 f v6 c a e b h g else wB K n v2 f v6 c a e b h false) else (tp K n (Int.tmod (aa v2) 32) c.2.1 c.2.2.1 c.2.2.2).bind fun d=>if (d.1 != a) then y8 K n v2 f v6 c a d true else y8 K n v2 f v6 c a d ((d.2.2.2.length:Int) != e)
def pg(K:Kn)(n:Nat)(v2 a:Int)(v6:ab)(b:ae×Int×Int×dO):Nat→Int→Int→Int→Option Bool
 | 0=>fun _ _ _=>none
 | m+1=>pe K n v2 a v6 b (pg K n v2 a v6 b m)
def DV(K:Kn)(n:Nat)(a:h8)(v2 b:Int):Option Bool:=(Cf K n ).bind fun v4=>if (!v4) then some false else (Bw K n a []).bind fun v5=>if (!v5) then some true else (sN K n a).bind fun v6=>(o4 K n v6 b 0 0 0 ([]:dO)).bind fun c=>pg K n v2 b v6 c n 0 0 0
def KN:Nat→Kn
 | 0=>⟨fun _ _=>none,fun _ _=>none,fun _ _=>none,fun _=>none,fun _ _=>none,fun _ _=>none,fun _ _=>none,fun _=>none,fun _ _ _=>none,fun _ _ _=>none,fun _ _ _=>none,fun _ _ _ _=>none,fun _ _ _=>none,fun _ _ _ _ _ _=>none,fun _ _ _=>none,fun _ _=>none,fun _ _=>none,fun _ _=>none,fun _ _=>none⟩
 | n+1=>⟨fun b c=>qM (KN n) n b c, fun b c=>pA (KN n) n b c, fun b c=>nS (KN n) n b c, fun b=>oJ (KN n) n b, fun b c=>oG (KN n) n b c, fun b c=>none, fun b c=>pc (KN n) n b c, fun b=>tn (KN n) n b, fun b c e=>oB (KN n) n b c e, fun b c e=>m6 (KN n) n b c e, fun f b c=>match f with|.fn i=>none|.bot _ _=>none|.c39 a=>none|.c43 a x1_0 x1_1 x1_2 x1_3 d=>none|.c48 x0_0 x0_1 x0_2 x0_3=>none|.c52 x0_0 x0_1 x0_2 x0_3=>none|.c54 x0_0 x0_1 x0_2 x0_3=>none|.c65 a=>none|.c67 a=>none|.c103 a=>none|.c120 a=>none|.c147 a x1_0 x1_1 x1_2 x1_3=>none|.c165 a=>ye (KN n) n b c a|.c172 a=>zA (KN n) n b c a, fun f b c e=>match f with|.fn i=>none|.bot _ _=>none|.c39 a=>none|.c43 a x1_0 x1_1 x1_2 x1_3 d=>none|.c48 x0_0 x0_1 x0_2 x0_3=>none|.c52 x0_0 x0_1 x0_2 x0_3=>wU (KN n) n b c e (⟨x0_0,x0_1,x0_2,x0_3⟩:bz)|.c54 x0_0 x0_1 x0_2 x0_3=>none|.c65 a=>none|.c67 a=>none|.c103 a=>none|.c120 a=>none|.c147 a x1_0 x1_1 x1_2 x1_3=>none|.c165 a=>none|.c172 a=>none, fun f b c=>match f with|.fn i=>none|.bot _ _=>none|.c39 a=>none|.c43 a x1_0 x1_1 x1_2 x1_3 d=>none|.c48 x0_0 x0_1 x0_2 x0_3=>none|.c52 x0_0 x0_1 x0_2 x0_3=>none|.c54 x0_0 x0_1 x0_2 x0_3=>z8 (KN n) n b c (⟨x0_0,x0_1,x0_2,x0_3⟩:bz)|.c65 a=>none|.c67 a=>none|.c103 a=>none|.c120 a=>none|.c147 a x1_0 x1_1 x1_2 x1_3=>none|.c165 a=>none|.c172 a=>none, fun f b c e g h=>match f with|.fn i=>none|.bot _ _=>none|.c39 a=>none|.c43 a x1_0 x1_1 x1_2 x1_3 d=>jZ (KN n) n b c a (⟨x1_0,x1_1,x1_2,x1_3⟩:bz) d e g h|.c48 x0_0 x0_1 x0_2 x0_3=>none|.c52 x0_0 x0_1 x0_2 x0_3=>none|.c54 x0_0 x0_1 x0_2 x0_3=>none|.c65 a=>none|.c67 a=>none|.c103 a=>none|.c120 a=>none|.c147 a x1_0 x1_1 x1_2 x1_3=>none|.c165 a=>none|.c172 a=>none, fun f b c=>match f with|.fn i=>if Nat.beq i 27=true then pi (KN n) n b c else none|.bot _ _=>none|.c39 a=>none|.c43 a x1_0 x1_1 x1_2 x1_3 d=>none|.c48 x0_0 x0_1 x0_2 x0_3=>none|.c52 x0_0 x0_1 x0_2 x0_3=>none|.c54 x0_0 x0_1 x0_2 x0_3=>none|.c65 a=>none|.c67 a=>none|.c103 a=>none|.c120 a=>none|.c147 a x1_0 x1_1 x1_2 x1_3=>none|.c165 a=>none|.c172 a=>none, fun f b=>match f with|.fn i=>if Nat.beq i 145=true then wy (KN n) n b else none|.bot _ _=>none|.c39 a=>none|.c43 a x1_0 x1_1 x1_2 x1_3 d=>none|.c48 x0_0 x0_1 x0_2 x0_3=>none|.c52 x0_0 x0_1 x0_2 x0_3=>none|.c54 x0_0 x0_1 x0_2 x0_3=>none|.c65 a=>ze (KN n) n b a|.c67 a=>none|.c103 a=>none|.c120 a=>Hk (KN n) n b a|.c147 a x1_0 x1_1 x1_2 x1_3=>none|.c165 a=>none|.c172 a=>none, fun f b=>match f with|.fn i=>none|.bot _ _=>none|.c39 a=>none|.c43 a x1_0 x1_1 x1_2 x1_3 d=>none|.c48 x0_0 x0_1 x0_2 x0_3=>pu (KN n) n b (⟨x0_0,x0_1,x0_2,x0_3⟩:bz)|.c52 x0_0 x0_1 x0_2 x0_3=>none|.c54 x0_0 x0_1 x0_2 x0_3=>none|.c65 a=>none|.c67 a=>none|.c103 a=>none|.c120 a=>none|.c147 a x1_0 x1_1 x1_2 x1_3=>none|.c165 a=>none|.c172 a=>none, fun f b=>match f with|.fn i=>none|.bot _ _=>none|.c39 a=>none|.c43 a x1_0 x1_1 x1_2 x1_3 d=>none|.c48 x0_0 x0_1 x0_2 x0_3=>none|.c52 x0_0 x0_1 x0_2 x0_3=>none|.c54 x0_0 x0_1 x0_2 x0_3=>none|.c65 a=>none|.c67 a=>none|.c103 a=>none|.c120 a=>none|.c147 a x1_0 x1_1 x1_2 x1_3=>JJ (KN n) n b a (⟨x1_0,x1_1,x1_2,x1_3⟩:bz)|.c165 a=>none|.c172 a=>none, fun f b=>match f with|.fn i=>none|.bot _ _=>none|.c39 a=>yO (KN n) n b a|.c43 a x1_0 x1_1 x1_2 x1_3 d=>none|.c48 x0_0 x0_1 x0_2 x0_3=>none|.c52 x0_0 x0_1 x0_2 x0_3=>none|.c54 x0_0 x0_1 x0_2 x0_3=>none|.c65 a=>none|.c67 a=>KV (KN n) n b a|.c103 a=>none|.c120 a=>none|.c147 a x1_0 x1_1 x1_2 x1_3=>none|.c165 a=>none|.c172 a=>none⟩
end
end Go.Proofs.YtocgkfoifehcbaaGreat

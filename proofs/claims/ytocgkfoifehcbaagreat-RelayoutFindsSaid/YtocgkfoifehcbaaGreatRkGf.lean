/- Layer 22z's functions as plain Lean functions: K stands for calls that come back, n bounds the rounds of loops. Made by a program. -/
import Derived.Test.YtocgkfoifehcbaaGreatRkGt
namespace Go.Proofs.YtocgkfoifehcbaaGreat
open Go.RowKit
set_option maxRecDepth 20000
set_option linter.all false
noncomputable section
abbrev dn:=List ae
abbrev dO:=List ay
abbrev d4:=List ab
abbrev d5:=List az
abbrev d6:=List aJ
abbrev ed:=List aZ
abbrev ek:=List bC
abbrev f6:=ab×Int
abbrev h7:=List cg
def AB(K:Kn)(n:Nat)(a v2:d4)(c:Fv)(b:Int→Option Bool)(v5:Int):Option Bool:=if (decide (v5<(a.length:Int))) then aE (aP v5 a.length) (aE (aP v5 v2.length) ((K.pb c (List.getD a v5.toNat default) (List.getD v2 v5.toNat default)).bind fun v6=>if (!v6) then some false else b (aa (v5+1)))) else some true
def vf(K:Kn)(n:Nat)(a v2:d4)(b:Fv):Nat→Int→Option Bool
 | 0=>fun _=>none
 | m+1=>AB K n a v2 b (vf K n a v2 b m)
def Ai(K:Kn)(n:Nat)(a v2:d4)(b:Fv):Option Bool:=if ((a.length:Int) != (v2.length:Int)) then some false else vf K n a v2 b n 0
def lV(K:Kn)(n:Nat)(v4:Bool):Option Bool:=some v4
def oG(K:Kn)(n:Nat)(a v2:ab):Option Bool:=if (a.Kind == v2.Kind) then if (a.Node == v2.Node) then if (ly a.Style v2.Style) then if (a.Text.toList == v2.Text.toList) then if (a.Rows == v2.Rows) then if (a.Cols == v2.Cols) then (Ai K n a.Kids v2.Kids (Fv.fn 27)).bind fun b=>lV K n b else lV K n false else lV K n false else lV K n false else lV K n false else lV K n false else lV K n false
def qb(K:Kn)(n:Nat)(a:dn):Option dn:=om (List.isEmpty a) (aE (fits (([]:dn).length+a.length) 584) (some (([]:dn)++a)))
def z9(K:Kn)(n:Nat)(b:ae)(v2:dn)(a:Int→dn→Option ae)(v4:Int)(v5:dn):Option ae:=if (decide (v4<(v2.length:Int))) then aE (aP v4 v5.length) ((K.w4 (List.getD v5 v4.toNat default)).bind fun v6=>aE (aP v4 v5.length) (a (aa (v4+1)) (List.set v5 v4.toNat v6))) else some ({ b with Kids:=v5 }:ae)
def wv(K:Kn)(n:Nat)(a:ae)(v2:dn):Nat→Int→dn→Option ae
 | 0=>fun _ _=>none
 | m+1=>z9 K n a v2 (wv K n a v2 m)
def n9(K:Kn)(n:Nat)(a:ae):Option ae:=(qb K n a.Kids).bind fun v2=>wv K n a v2 n 0 v2
def yG(K:Kn)(n:Nat)(f:ab)(v2 e v4:Int)(v5:dO)(c:Int)(d:Int→Option (ae×Bool×Int×Int×dO))(a:Bool):Option (ae×Bool×Int×Int×dO):=if a then (n9 K n ((List.getD v5 c.toNat default).Fragment)).bind fun b=>some (b,true,e,v4,v5) else d (aa (c+1))
def yP(K:Kn)(n:Nat)(b:ab)(v2 d v4:Int)(v5:dO)(e:Int→Option (ae×Bool×Int×Int×dO))(a:Int):Option (ae×Bool×Int×Int×dO):=if (decide (a<(v5.length:Int))) then aE (aP a v5.length) (if (((List.getD v5 a.toNat default).Width) == v2) then (oG K n ((List.getD v5 a.toNat default).Box) b).bind fun c=>yG K n b v2 d v4 v5 a e c else yG K n b v2 d v4 v5 a e false) else some (bT,false,d,v4,v5)
def vj(K:Kn)(n:Nat)(a:ab)(v2 b v4:Int)(v5:dO):Nat→Int→Option (ae×Bool×Int×Int×dO)
 | 0=>fun _=>none
 | m+1=>yP K n a v2 b v4 v5 (vj K n a v2 b v4 v5 m)
def kO(K:Kn)(n:Nat)(a:ab)(v2 b v4:Int)(v5:dO):Option (ae×Bool×Int×Int×dO):=vj K n a v2 b v4 v5 n 0
def Eo(K:Kn)(n:Nat)(v6:ae×Bool×Int×Int×dO)(a:Int):Option (ae×Bool×Int×Int×dO):=some (v6.1,v6.2.1,v6.2.2.1,a,v6.2.2.2.2)
def ye(K:Kn)(n:Nat)(a:ab)(v2 b v4:Int)(v5:dO):Option (ae×Bool×Int×Int×dO):=(kO K n a v2 b v4 v5).bind fun v6=>if v6.2.1=true then Eo K n v6 (aa (v6.2.2.2.1+1)) else Eo K n v6 v6.2.2.2.1
def yR(K:Kn)(n:Nat)(a:ab)(v2:Int)(c:ae)(v4 v5:Int)(v6:dO):Option (Int×Int×dO):=(n9 K n c).bind fun b=>aE (fits (v6.length+([(⟨a,v2,b⟩:ay)]:dO).length) 1112) (some ((aa (v4+1)),v5,(v6++[(⟨a,v2,b⟩:ay)])))
def gU(K:Kn)(n:Nat)(a:Int):Option Int:=some (min (max a 0) 1048576)
def tD(K:Kn)(n:Nat)(v4:Int):Option (Int×Bool):=some ((min (max v4 (-1048576)) 1048576),true)
def dQ(K:Kn)(n:Nat)(a:cw)(v2:Int):Option (Int×Bool):=if (a.Kind == 1) then tD K n a.Value else if (a.Kind == 2) then (gU K n v2).bind fun b=>tD K n (aa (Int.tdiv (aa (b*(min (max a.Value (-1000000)) 1000000))) 10000)) else some (0,false)
def jL(K:Kn)(n:Nat)(a:aI)(v2 h:Int):Option bD:=(dQ K n a.Margin.a0 v2).bind fun v4=>(gU K n a.Border.a0).bind fun v5=>(dQ K n a.Padding.a0 v2).bind fun v6=>(dQ K n a.Margin.a1 v2).bind fun i=>(gU K n a.Border.a1).bind fun j=>(dQ K n a.Padding.a1 v2).bind fun k=>(dQ K n a.Margin.a2 v2).bind fun b=>(gU K n a.Border.a2).bind fun c=>(dQ K n a.Padding.a2 v2).bind fun d=>(dQ K n a.Margin.a3 v2).bind fun e=>(gU K n a.Border.a3).bind fun f=>(dQ K n a.Padding.a3 v2).bind fun g=>some (⟨⟨v4.1,i.1,b.1,e.1⟩,⟨v5,j,c,f⟩,⟨(max v6.1 0),(max k.1 0),(max d.1 0),(max g.1 0)⟩,h⟩:bD)
def kF(K:Kn)(n:Nat)(a:bD):Option Int:=some (aa ((aa ((aa ((aa ((aa ((aa (a.Content+a.Margin.a1))+a.Margin.a3))+a.Border.a1))+a.Border.a3))+a.Padding.a1))+a.Padding.a3))
def AP(K:Kn)(n:Nat)(a:Int):Option Int:=some a
def AF(K:Kn)(n:Nat)(a:aI)(v2 v5:Int):Option Int:=(dQ K n a.MinWidth v2).bind fun v6=>if v6.2=true then AP K n (max v5 v6.1) else AP K n v5
def nE(K:Kn)(n:Nat)(a:aI)(v2 b:Int):Option Int:=(dQ K n a.MaxWidth v2).bind fun v4=>if v4.2=true then AF K n a v2 (min (max b 0) (max v4.1 0)) else AF K n a v2 (max b 0)
def qY(K:Kn)(n:Nat)(v4:bD)(b:Int)(a:V4 Int):Option bD:=some ({ v4 with Margin:=a,Content:=b }:bD)
def Ap(K:Kn)(n:Nat)(a:Int)(v4:bD)(c b:Int)(d e:Int×Bool)(f:Bool):Option bD:=if f then qY K n v4 c ⟨v4.Margin.a0,(aa ((aa (a-b))-(aa (Int.tdiv (aa (a-b)) 2)))),v4.Margin.a2,(aa (Int.tdiv (aa (a-b)) 2))⟩ else if (!d.2) then qY K n v4 c ⟨v4.Margin.a0,v4.Margin.a1,v4.Margin.a2,(aa (a-b))⟩ else if (!e.2) then qY K n v4 c ⟨v4.Margin.a0,(aa (a-b)),v4.Margin.a2,v4.Margin.a3⟩ else qY K n v4 c v4.Margin
def rV(K:Kn)(n:Nat)(e:aI)(c:Int)(v4:bD)(g:Int):Option bD:=(nE K n e c g).bind fun d=>(kF K n ({ v4 with Content:=d }:bD)).bind fun f=>if (decide ((aa (c-f))≤0)) then some ({ v4 with Content:=d }:bD) else (dQ K n e.Margin.a3 c).bind fun a=>(dQ K n e.Margin.a1 c).bind fun b=>if (!a.2) then Ap K n c v4 d f a b (!b.2) else Ap K n c v4 d f a b false
def qt(K:Kn)(n:Nat)(b:aI)(v2:Int):Option bD:=(gU K n v2).bind fun a=>(jL K n b a 0).bind fun v4=>(dQ K n b.Width a).bind fun v5=>if (!v5.2) then (kF K n v4).bind fun v6=>rV K n b a v4 (aa (a-v6)) else rV K n b a v4 v5.1
def mK(K:Kn)(n:Nat)(a:Int):Option bc:=some (⟨(max a 0),(min a 0)⟩:bc)
def mR(K:Kn)(n:Nat)(a:cw)(v2 b:Int):Option Int:=(dQ K n a v2).bind fun v4=>if v4.2=true then some v4.1 else some b
def uw(K:Kn)(n:Nat)(v2 g:Int)(v4:Fv)(c a:Int)(b:ck)(e f:Int→ck→Option ck)(d:Bool):Option ck:=if d then aE (aP (aa (a-1)) b.length) (aE (aP a b.length) (aE (aP a b.length) (aE (aP (aa (a-1)) (List.set b a.toNat (List.getD b ((aa (a-1))).toNat default)).length) (f (aa (a-1)) (List.set (List.set b a.toNat (List.getD b ((aa (a-1))).toNat default)) ((aa (a-1))).toNat (List.getD b a.toNat default)))))) else e (aa (c+1)) b
def Al(K:Kn)(n:Nat)(v2 g:Int)(v4:Fv)(c:Int)(e f:Int→ck→Option ck)(a:Int)(b:ck):Option ck:=if (decide (a>v2)) then aE (aP a b.length) (aE (aP (aa (a-1)) b.length) ((K.sF v4 (List.getD b a.toNat default) (List.getD b ((aa (a-1))).toNat default)).bind fun d=>uw K n v2 g v4 c a b e f (decide (d<0)))) else uw K n v2 g v4 c a b e f false
def sr(K:Kn)(n:Nat)(v2 c:Int)(v4:Fv)(a:Int)(b:Int→ck→Option ck):Nat→Int→ck→Option ck
 | 0=>fun _ _=>none
 | m+1=>Al K n v2 c v4 a b (sr K n v2 c v4 a b m)
def uc(K:Kn)(n:Nat)(v2 c:Int)(v4:Fv)(d:Int→ck→Option ck)(a:Int)(b:ck):Option ck:=if (decide (a<c)) then sr K n v2 c v4 a d n a b else some b
def oE(K:Kn)(n:Nat)(v2 a:Int)(v4:Fv):Nat→Int→ck→Option ck
 | 0=>fun _ _=>none
 | m+1=>uc K n v2 a v4 (oE K n v2 a v4 m)
def uG(K:Kn)(n:Nat)(a:ck)(v2 b:Int)(v4:Fv):Option ck:=oE K n v2 b v4 n (aa (v2+1)) a
def Ef(K:Kn)(n:Nat)(v2:Int)(d:Fv)(e:ck)(a:Int)(b:Int→Option ck)(c:Option ck):Option ck:=if (decide ((aa (2*a))≤v2)) then none else if (decide ((aa (0+a))<v2)) then none else b (aa (a*2))
def CN(K:Kn)(n:Nat)(v2:Int)(c:Fv)(d:ck)(a:Int)(b:Int→Option ck):Nat→Option ck
 | 0=>none
 | m+1=>Ef K n v2 c d a b (CN K n v2 c d a b m)
def AY(K:Kn)(n:Nat)(v2:Int)(d:Fv)(b:ck)(c:Int→Option ck)(a:Int):Option ck:=if (decide (a<v2)) then CN K n v2 d b a c n else some b
def wY(K:Kn)(n:Nat)(v2:Int)(a:Fv)(b:ck):Nat→Int→Option ck
 | 0=>fun _=>none
 | m+1=>AY K n v2 a b (wY K n v2 a b m)
def zw(K:Kn)(n:Nat)(v2:Int)(a:Fv)(c:Int→Int→ck→Option ck)(v5 v6:Int)(b:ck):Option ck:=if (decide (v6≤v2)) then (uG K n b v5 v6 a).bind fun d=>c v6 (aa (v6+20)) d else (uG K n b v5 v2 a).bind fun e=>wY K n v2 a e n 20
def xT(K:Kn)(n:Nat)(v2:Int)(a:Fv):Nat→Int→Int→ck→Option ck
 | 0=>fun _ _ _=>none
 | m+1=>zw K n v2 a (xT K n v2 a m)
def Es(K:Kn)(n:Nat)(a:ck)(v2:Int)(b:Fv):Option ck:=xT K n v2 b n 0 20 a
def lJ(K:Kn)(n:Nat)(a:ck)(v2:Fv):Option ck:=(Es K n a (a.length:Int) v2).bind fun b=>some b
def yT(K:Kn)(n:Nat)(v2:Bool):Option Bool:=some v2
def j4(K:Kn)(n:Nat)(a:ab):Option Bool:=if (a.Kind == 3) then yT K n true else yT K n (a.Style.Position != 2)
def rP(K:Kn)(n:Nat)(a:Int):Option Bool:=some (a != a)
def t6(K:Kn)(n:Nat)(a v2:Int):Option Int:=(rP K n a).bind fun b=>(rP K n v2).bind fun v4=>if b then if v4 then some 0 else some (-1) else if v4 then some 1 else if (decide (a<v2)) then some (-1) else if (decide (a>v2)) then some 1 else some 0
def Az(K:Kn)(n:Nat)(b v2:Int)(a:d4):Option Int:=aE (aP b a.length) (aE (aP v2 a.length) ((t6 K n (((List.getD a b.toNat default).Style).Order) (((List.getD a v2.toNat default).Style).Order)).bind fun v4=>some v4))
def Bh(K:Kn)(n:Nat)(c:d4)(v6:Int)(a:Int→ck→Option ck)(b:ck):Option ck:=a (aa (v6+1)) b
def wM(K:Kn)(n:Nat)(a:d4)(d:Int→ck→Option ck)(v6:Int)(b:ck):Option ck:=if (decide (v6<(a.length:Int))) then aE (aP v6 a.length) ((j4 K n (List.getD a v6.toNat default)).bind fun e=>if e then aE (fits (b.length+([v6]:ck).length) 8) (Bh K n a v6 d (b++[v6])) else Bh K n a v6 d b) else (lJ K n b (Fv.c172 a)).bind fun c=>some c
def wA(K:Kn)(n:Nat)(a:d4):Nat→Int→ck→Option ck
 | 0=>fun _ _=>none
 | m+1=>wM K n a (wA K n a m)
def sy(K:Kn)(n:Nat)(a:d4):Option ck:=wA K n a n 0 []
def zZ(K:Kn)(n:Nat)(b:ab)(v2:ck)(c:Int→d4→Option d4)(a:Int)(v4:d4):Option d4:=if (decide (a<(v2.length:Int))) then aE (aP a v2.length) (aE (aP (List.getD v2 a.toNat default) b.Kids.length) (aE (fits (v4.length+([(List.getD b.Kids ((List.getD v2 a.toNat default)).toNat default)]:d4).length) 520) (c (aa (a+1)) (v4++[(List.getD b.Kids ((List.getD v2 a.toNat default)).toNat default)])))) else some v4
def uW(K:Kn)(n:Nat)(a:ab)(v2:ck):Nat→Int→d4→Option d4
 | 0=>fun _ _=>none
 | m+1=>zZ K n a v2 (uW K n a v2 m)
def kE(K:Kn)(n:Nat)(a:ab):Option d4:=(sy K n a.Kids).bind fun v2=>uW K n a v2 n 0 []
def gI(K:Kn)(n:Nat)(a:bc):Option Int:=some (aa (a.Pos+a.Neg))
def vm(K:Kn)(n:Nat)(a:ae):Option Int:=if a.Empty=true then some 0 else (gI K n a.After).bind fun v2=>some v2
def iG(K:Kn)(n:Nat)(a v2:Int):Option Int:=some (min (max a 0) v2)
def zS(K:Kn)(n:Nat)(a:bC):Option bC:=(iG K n a.aA 1048576).bind fun v2=>(iG K n a.Grow 1048576).bind fun b=>(iG K n a.Shrink 1048576).bind fun v4=>(iG K n a.Min 1048576).bind fun v5=>(iG K n a.Max 1048576).bind fun v6=>some (⟨v2,b,v4,v5,(max v6 v5)⟩:bC)
def o7(K:Kn)(n:Nat)(a:bC)(v2:Int):Option Int:=some (min (max v2 a.Min) a.Max)
def vD(K:Kn)(n:Nat)(a:bC):Option Int:=(zS K n a).bind fun v2=>(o7 K n v2 v2.aA).bind fun b=>some b
def AG(K:Kn)(n:Nat)(b v2:Int)(a:ck):Option Int:=aE (aP v2 a.length) (aE (aP b a.length) ((t6 K n (List.getD a v2.toNat default) (List.getD a b.toNat default)).bind fun v4=>some v4))
def xx(K:Kn)(n:Nat)(e:ck→Int→Int→ck→Option ck)(b:ck)(d a:Int)(c:ck):Option ck:=if (decide (a<d)) then aE (aP a b.length) (aE (aP (List.getD b a.toNat default) c.length) (aE (aP (List.getD b a.toNat default) c.length) (e b d (aa (a+1)) (List.set c ((List.getD b a.toNat default)).toNat (aa ((List.getD c ((List.getD b a.toNat default)).toNat default)+1)))))) else some c
def qn(K:Kn)(n:Nat):Nat→ck→Int→Int→ck→Option ck
 | 0=>fun _ _ _ _=>none
 | m+1=>xx K n (qn K n m)
def Bg(K:Kn)(n:Nat)(v2:ck)(k i:Int)(l:Int→Int→ck→ck→ck→Option ck)(b a:Int)(c d e:ck):Option ck:=if (decide (a<(v2.length:Int))) then aE (aP a v2.length) ((iG K n (List.getD v2 a.toNat default) 2147483647).bind fun h=>aE ((i != 0)) (aE ((i != 0)) (aE (aP a c.length) (aE (aP a d.length) (aE (aP a e.length) ((some (List.set c a.toNat (aa (Int.tdiv (aa (k*h)) i)))).bind fun f=>(some (List.set d a.toNat (Int.tmod (aa (k*h)) i))).bind fun j=>aE (aP a f.length) (l (aa (b-(List.getD f a.toNat default))) (aa (a+1)) f j (List.set e a.toNat a)))))))) else (lJ K n e (Fv.c165 d)).bind fun g=>aE (cQ (0:Int) b g.length) (qn K n n (List.drop ((0:Int)).toNat (List.take b.toNat g)) ((List.drop ((0:Int)).toNat (List.take b.toNat g)).length:Int) 0 c)
def q8(K:Kn)(n:Nat)(v2:ck)(a b:Int):Nat→Int→Int→ck→ck→ck→Option ck
 | 0=>fun _ _ _ _ _=>none
 | m+1=>Bg K n v2 a b (q8 K n v2 a b m)
def wX(K:Kn)(n:Nat)(v2:ck)(d:Int)(v4 v5 v6:ck)(e:Int→Int→Option ck)(c a:Int):Option ck:=if (decide (a<(v2.length:Int))) then aE (aP a v2.length) ((iG K n (List.getD v2 a.toNat default) 2147483647).bind fun b=>e (aa (c+b)) (aa (a+1))) else if (c == 0) then some v4 else q8 K n v2 d c n d 0 v4 v5 v6
def wk(K:Kn)(n:Nat)(v2:ck)(a:Int)(v4 v5 v6:ck):Nat→Int→Int→Option ck
 | 0=>fun _ _=>none
 | m+1=>wX K n v2 a v4 v5 v6 (wk K n v2 a v4 v5 v6 m)
def AM(K:Kn)(n:Nat)(a:Int)(v2:ck):Option ck:=(iG K n a 2147483647).bind fun b=>aE (fA (v2.length:Int) 8) ((some (List.replicate ((v2.length:Int)).toNat (0:Int))).bind fun v4=>aE (fA (v2.length:Int) 8) ((some (List.replicate ((v2.length:Int)).toNat (0:Int))).bind fun v5=>aE (fA (v2.length:Int) 8) ((some (List.replicate ((v2.length:Int)).toNat (0:Int))).bind fun v6=>wk K n v2 b v4 v5 v6 n 0 0)))
def z7(K:Kn)(n:Nat)(g:ed)(h a:Int)(f:Int→Int→Int→ck→ck→Option (Bool×ed))(b c:Int)(d e:ck):Option (Bool×ed):=f b c (aa (a+1)) d e
def AX(K:Kn)(n:Nat)(d:ck)(e:Int)(f:ck)(a:Int)(c:Int→ed→Option (Bool×ed))(b:ed):Option (Bool×ed):=c (aa (a+1)) b
def mh(K:Kn)(n:Nat)(a:ck)(d:Int)(e:ck)(b:Int)(c:ed)(f:Int)(h:Int→ed→Option (Bool×ed))(g:Bool):Option (Bool×ed):=if g then aE (decide (((List.getD a b.toNat default)).toNat<c.length)) (AX K n a d e b h (List.set (List.set c ((List.getD a b.toNat default)).toNat ({ (List.getD c ((List.getD a b.toNat default)).toNat default)with size:=f }:aZ)) ((List.getD a b.toNat default)).toNat ({ (List.getD (List.set c ((List.getD a b.toNat default)).toNat ({ (List.getD c ((List.getD a b.toNat default)).toNat default)with size:=f }:aZ)) ((List.getD a b.toNat default)).toNat default)with fixed:=true }:aZ))) else AX K n a d e b h c
def wQ(K:Kn)(n:Nat)(c:ck)(d:Int)(b:ck)(g:Int→ed→Option (Bool×ed))(a:Int)(e:ed):Option (Bool×ed):=if (decide (a<(c.length:Int))) then aE (aP a c.length) (aE (aP (List.getD c a.toNat default) e.length) (aE (aP a b.length) ((o7 K n ((List.getD e ((List.getD c a.toNat default)).toNat default).Item) (List.getD b a.toNat default)).bind fun f=>if (d == 0) then mh K n c d b a e f g true else if (decide (d>0)) then aE (aP a b.length) (if (decide (f>(List.getD b a.toNat default))) then mh K n c d b a e f g true else if (decide (d<0)) then aE (aP a b.length) (mh K n c d b a e f g (decide (f<(List.getD b a.toNat default)))) else mh K n c d b a e f g false) else if (decide (d<0)) then aE (aP a b.length) (mh K n c d b a e f g (decide (f<(List.getD b a.toNat default)))) else mh K n c d b a e f g false))) else some (true,e)
def o6(K:Kn)(n:Nat)(a:ck)(b:Int)(c:ck):Nat→Int→ed→Option (Bool×ed)
 | 0=>fun _ _=>none
 | m+1=>wQ K n a b c (o6 K n a b c m)
def Ab(K:Kn)(n:Nat)(e:ed)(i:Int)(b:ck)(h:Int→Int→ck→Option (Bool×ed))(f a:Int)(c:ck):Option (Bool×ed):=if (decide (a<(b.length:Int))) then aE (aP a b.length) (aE (aP (List.getD b a.toNat default) e.length) (aE (aP a c.length) (aE (aP a c.length) ((some (List.set c a.toNat (aa ((((List.getD e ((List.getD b a.toNat default)).toNat default).Item).aA)+(aa (i*(List.getD c a.toNat default))))))).bind fun d=>aE (aP (List.getD b a.toNat default) e.length) (aE (aP a d.length) ((o7 K n ((List.getD e ((List.getD b a.toNat default)).toNat default).Item) (List.getD d a.toNat default)).bind fun g=>aE (aP a d.length) (h (aa (f+(aa (g-(List.getD d a.toNat default))))) (aa (a+1)) d))))))) else o6 K n b f c n 0 e
def wt(K:Kn)(n:Nat)(b:ed)(c:Int)(a:ck):Nat→Int→Int→ck→Option (Bool×ed)
 | 0=>fun _ _ _=>none
 | m+1=>Ab K n b c a (wt K n b c a m)
def vu(K:Kn)(n:Nat)(e:ed)(f:Int)(a b:ck)(c:Int):Option (Bool×ed):=(AM K n c b).bind fun d=>wt K n e f a n 0 0 d
def ze(K:Kn)(n:Nat)(b:ed)(g:Int)(j:Int→Int→Int→ck→ck→Option (Bool×ed))(d e a:Int)(c f:ck):Option (Bool×ed):=if (decide (a<(b.length:Int))) then aE (aP a b.length) (if (List.getD b a.toNat default).fixed=true then z7 K n b g a j (aa (d-((List.getD b a.toNat default).size))) e c f else (some (aa (d-(((List.getD b a.toNat default).Item).aA)))).bind fun h=>(some (aa (e+((List.getD b a.toNat default).factor)))).bind fun i=>aE (fits (c.length+([a]:ck).length) 8) (aE (fits (f.length+([(List.getD b a.toNat default).weight]:ck).length) 8) (z7 K n b g a j h i (c++[a]) (f++[(List.getD b a.toNat default).weight])))) else if ((c.length:Int) == 0) then some (false,b) else if (decide (e<1000)) then vu K n b g c f (aa ((aa ((aa (Int.tdiv (max (aa (d*g)) 0) 1000))*e))+(aa (Int.tdiv (aa ((Int.tmod (max (aa (d*g)) 0) 1000)*e)) 1000)))) else vu K n b g c f (max (aa (d*g)) 0)
def uF(K:Kn)(n:Nat)(a:ed)(b:Int):Nat→Int→Int→Int→ck→ck→Option (Bool×ed)
 | 0=>fun _ _ _ _ _=>none
 | m+1=>ze K n a b (uF K n a b m)
def vg(K:Kn)(n:Nat)(a:ed)(v2 b:Int):Option (Bool×ed):=uF K n a b n v2 0 0 [] []
def AL(K:Kn)(n:Nat)(f:Int)(d:ed)(e a:Int)(c:Int→ed→Option ck)(b:ed):Option ck:=c (aa (a+1)) b
def zj(K:Kn)(n:Nat)(f:Int)(c:ed)(d a:Int)(e:Int→ed→Option ck)(b:ed):Option ck:=aE (decide (a.toNat<b.length)) (if (List.getD b a.toNat default).fixed=true then AL K n f c d a e (List.set b a.toNat ({ (List.getD b a.toNat default)with fixed:=true }:aZ)) else AL K n f c d a e (List.set b a.toNat ({ (List.getD b a.toNat default)with fixed:=(((List.getD b a.toNat default).factor) == 0) }:aZ)))
def zO(K:Kn)(n:Nat)(b:Bool×ed)(d:Int→ck→Option ck)(a:Int)(c:ck):Option ck:=if (decide (a<(b.2.length:Int))) then aE (aP a b.2.length) (aE (aP a c.length) (d (aa (a+1)) (List.set c a.toNat ((List.getD b.2 a.toNat default).size)))) else some c
def uS(K:Kn)(n:Nat)(a:Bool×ed):Nat→Int→ck→Option ck
 | 0=>fun _ _=>none
 | m+1=>zO K n a (uS K n a m)
def Bf(K:Kn)(n:Nat)(f b:Int)(e:ed→Option ck)(c:ed):Option ck:=(vg K n c f b).bind fun a=>if a.1=true then e a.2 else aE (fA (a.2.length:Int) 8) ((some (List.replicate ((a.2.length:Int)).toNat (0:Int))).bind fun d=>uS K n a n 0 d)
def pL(K:Kn)(n:Nat)(b a:Int):Nat→ed→Option ck
 | 0=>fun _=>none
 | m+1=>Bf K n b a (pL K n b a m)
def xS(K:Kn)(n:Nat)(g:Int)(f:ed)(c:Int)(h:Int→ed→Option ck)(a:Int)(b:ed):Option ck:=if (decide (a<(f.length:Int))) then aE (aP a b.length) (if (decide (c>0)) then (some (List.set (List.set b a.toNat ({ (List.getD b a.toNat default)with factor:=((List.getD b a.toNat default).Item).Grow }:aZ)) a.toNat ({ (List.getD (List.set b a.toNat ({ (List.getD b a.toNat default)with factor:=((List.getD b a.toNat default).Item).Grow }:aZ)) a.toNat default)with weight:=((List.getD b a.toNat default).Item).Grow }:aZ))).bind fun d=>zj K n g f c a h (List.set d a.toNat ({ (List.getD d a.toNat default)with fixed:=(decide ((((List.getD d a.toNat default).Item).aA)>((List.getD d a.toNat default).size))) }:aZ)) else (some (List.set (List.set b a.toNat ({ (List.getD b a.toNat default)with factor:=((List.getD b a.toNat default).Item).Shrink }:aZ)) a.toNat ({ (List.getD (List.set b a.toNat ({ (List.getD b a.toNat default)with factor:=((List.getD b a.toNat default).Item).Shrink }:aZ)) a.toNat default)with weight:=(aa (Int.tdiv (aa ((((List.getD b a.toNat default).Item).aA)*(((List.getD b a.toNat default).Item).Shrink))) 1000)) }:aZ))).bind fun e=>zj K n g f c a h (List.set e a.toNat ({ (List.getD e a.toNat default)with fixed:=(decide ((((List.getD e a.toNat default).Item).aA)<((List.getD e a.toNat default).size))) }:aZ))) else pL K n g c n b
def uY(K:Kn)(n:Nat)(c:Int)(a:ed)(b:Int):Nat→Int→ed→Option ck
 | 0=>fun _ _=>none
 | m+1=>xS K n c a b (uY K n c a b m)
def wC(K:Kn)(n:Nat)(c:Int)(a:ed)(b:Int):Option ck:=uY K n c a b n 0 a
def AZ(K:Kn)(n:Nat)(d:ek)(g:Int)(i:Int→Int→ed→Option ck)(h b:Int)(a:ed):Option ck:=if (decide (b<(d.length:Int))) then aE (aP b d.length) ((zS K n (List.getD d b.toNat default)).bind fun e=>(vD K n (List.getD d b.toNat default)).bind fun f=>aE (aP b a.length) ((some (List.set a b.toNat ({ iV with Item:=e,size:=f }:aZ))).bind fun c=>aE (aP b c.length) (i (aa (h+((List.getD c b.toNat default).size))) (aa (b+1)) c))) else if (decide (h<g)) then wC K n g a 1 else wC K n g a (-1)
def vO(K:Kn)(n:Nat)(a:ek)(b:Int):Nat→Int→Int→ed→Option ck
 | 0=>fun _ _ _=>none
 | m+1=>AZ K n a b (vO K n a b m)
def jH(K:Kn)(n:Nat)(a:ek)(v2:Int):Option ck:=(some (min (max v2 (-1125899906842624)) 1125899906842624)).bind fun b=>aE (fA (a.length:Int) 72) ((some (List.replicate ((a.length:Int)).toNat (iV:aZ))).bind fun v4=>vO K n a b n 0 0 v4)
def oh(K:Kn)(n:Nat)(t:ab)(v2:Int)(u:bu)(v:d4)(o p:Int)(i:ck)(j:ek)(k c:ck)(l:dn)(b:ae×Int×Int×dO)(a f g:Int)(s:Int→Int→ck→ek→ck→ck→dn→Int→Int→dO→Option (dn×Int×Int×Int×dO))(h:Int):Option (dn×Int×Int×Int×dO):=aE (fits (j.length+([(⟨h,f,g,0,1048576⟩:bC)]:ek).length) 40) ((some (j++[(⟨h,f,g,0,1048576⟩:bC)])).bind fun q=>aE (fits (k.length+([a]:ck).length) 8) ((gI K n b.1.Before).bind fun d=>(vm K n b.1).bind fun e=>aE (fits (c.length+([(aa ((aa (d+e))+a))]:ck).length) 8) (aE (aP (aa (((c++[(aa ((aa (d+e))+a))]).length:Int)-1)) (c++[(aa ((aa (d+e))+a))]).length) ((some (aa (o-(List.getD (c++[(aa ((aa (d+e))+a))]) ((aa (((c++[(aa ((aa (d+e))+a))]).length:Int)-1))).toNat default)))).bind fun r=>(vD K n (⟨h,f,g,0,1048576⟩:bC)).bind fun m=>aE (fits (i.length+([m]:ck).length) 8) (aE (fits (l.length+([b.1]:dn).length) 584) (s r (aa (p+1)) (i++[m]) q (k++[a]) (c++[(aa ((aa (d+e))+a))]) (l++[b.1]) b.2.1 b.2.2.1 b.2.2.2))))))
def AN(K:Kn)(n:Nat)(f g:ck)(h:dn)(i j:Int)(k:dO)(c:ck)(o:Int→Int→dn→Option (dn×Int×Int×Int×dO))(e a:Int)(d:dn):Option (dn×Int×Int×Int×dO):=if (decide (a<(h.length:Int))) then aE (aP a c.length) (aE (aP a f.length) (aE (aP a d.length) ((some (List.set d a.toNat ({ (List.getD d a.toNat default)with H:=(aa ((List.getD c a.toNat default)+(List.getD f a.toNat default))) }:ae))).bind fun b=>aE (aP a b.length) ((gI K n ((List.getD b a.toNat default).Before)).bind fun l=>aE (aP a b.length) ((some (List.set b a.toNat ({ (List.getD b a.toNat default)with Y:=(aa (e+l)) }:ae))).bind fun m=>aE (aP a c.length) (aE (aP a g.length) (o (aa (e+(aa ((List.getD c a.toNat default)+(List.getD g a.toNat default))))) (aa (a+1)) m))))))) else some (d,e,i,j,k)
def uA(K:Kn)(n:Nat)(a b:ck)(c:dn)(d e:Int)(f:dO)(g:ck):Nat→Int→Int→dn→Option (dn×Int×Int×Int×dO)
 | 0=>fun _ _ _=>none
 | m+1=>AN K n a b c d e f g (uA K n a b c d e f g m)
def kn(K:Kn)(n:Nat)(b c:ck)(a:dn)(d e:Int)(f:dO)(g:ck):Option (dn×Int×Int×Int×dO):=uA K n b c a d e f g n 0 0 a
def zm(K:Kn)(n:Nat)(r:ab)(v2:Int)(s:bu)(c:d4)(x:Int→Int→ck→ek→ck→ck→dn→Int→Int→dO→Option (dn×Int×Int×Int×dO))(g a:Int)(h:ck)(i:ek)(d e:ck)(f:dn)(j k:Int)(l:dO):Option (dn×Int×Int×Int×dO):=if (decide (a<(c.length:Int))) then aE (aP a c.length) ((K.de s.Layout (List.getD c a.toNat default) v2 j k l).bind fun m=>(jL K n ((List.getD c a.toNat default).Style) v2 0).bind fun b=>(some (aa ((aa ((aa (b.Border.a0+b.Border.a2))+b.Padding.a0))+b.Padding.a2))).bind fun o=>(some (((((List.getD c a.toNat default).Style).Basis).Kind) == 1)).bind fun t=>(some (aa (m.1.H-(aa ((aa ((aa (b.Border.a0+b.Border.a2))+b.Padding.a0))+b.Padding.a2))))).bind fun u=>(some (((List.getD c a.toNat default).Style).Grow)).bind fun p=>(some (((List.getD c a.toNat default).Style).Shrink)).bind fun q=>if t then (mR K n (((List.getD c a.toNat default).Style).Basis) 0 0).bind fun v=>oh K n r v2 s c g a h i d e f m o p q x v else oh K n r v2 s c g a h i d e f m o p q x u) else if (r.Style.Height.Kind == 1) then (jH K n i g).bind fun w=>kn K n d e f j k l w else kn K n d e f j k l h
def kU(K:Kn)(n:Nat)(a:ab)(v2:Int)(b:bu)(c:d4):Nat→Int→Int→ck→ek→ck→ck→dn→Int→Int→dO→Option (dn×Int×Int×Int×dO)
 | 0=>fun _ _ _ _ _ _ _ _ _ _=>none
 | m+1=>zm K n a v2 b c (kU K n a v2 b c m)
def zy(K:Kn)(n:Nat)(a:ab)(v2:Int)(b:bu)(v4 v5:Int)(v6:dO):Option (dn×Int×Int×Int×dO):=(mR K n a.Style.Height 0 0).bind fun c=>(kE K n a).bind fun d=>kU K n a v2 b d n (max c 0) 0 [] [] [] [] [] v4 v5 v6
def uP(K:Kn)(n:Nat)(d:ck)(v2 v4:Int)(a:Int→Int→ck→Option ck)(b:Int)(c:ck):Option ck:=a b (aa (v4+1)) c
def wG(K:Kn)(n:Nat)(a:ck)(v2 v4:Int)(v5:ck)(v6:Int)(b:Int→Int→ck→Option ck)(c:Bool):Option ck:=if c then aE (fits (v5.length+([v4]:ck).length) 8) (uP K n a v2 v4 b (List.getD a v4.toNat default) (v5++[v4])) else uP K n a v2 v4 b v6 v5
def tf(K:Kn)(n:Nat)(a:ck)(v2:Int)(b:Int→Int→ck→Option ck)(c v4:Int)(v5:ck):Option ck:=if (decide (v4<(a.length:Int))) then aE (aP v4 a.length) ((some (aa (c+(List.getD a v4.toNat default)))).bind fun v6=>if (v4 == 0) then wG K n a v2 v4 v5 v6 b true else wG K n a v2 v4 v5 v6 b (decide (v6>v2))) else some v5
def ru(K:Kn)(n:Nat)(a:ck)(v2:Int):Nat→Int→Int→ck→Option ck
 | 0=>fun _ _ _=>none
 | m+1=>tf K n a v2 (ru K n a v2 m)
def pQ(K:Kn)(n:Nat)(a:ck)(v2:Int):Option ck:=ru K n a v2 n 0 0 []
def yu(K:Kn)(n:Nat)(b:ab)(v2:Int)(a:V4 cw):Option ab:=some ({ b with Style:=({ b.Style with Width:=(⟨1,v2⟩:cw),MinWidth:=cj,MaxWidth:=cj,Margin:=a }:aI) }:ab)
def uN(K:Kn)(n:Nat)(b:ab)(v2:Int)(a:V4 cw):Option ab:=(dQ K n b.Style.Margin.a3 0).bind fun c=>if (!c.2) then yu K n b v2 ⟨a.a0,a.a1,a.a2,({ cj with Kind:=1 }:cw)⟩ else yu K n b v2 a
def uo(K:Kn)(n:Nat)(a:ab)(v2:Int)(v6:V4 cw):Option ab:=(dQ K n a.Style.Margin.a2 0).bind fun b=>if (!b.2) then uN K n a v2 ⟨v6.a0,v6.a1,({ cj with Kind:=1 }:cw),v6.a3⟩ else uN K n a v2 v6
def t9(K:Kn)(n:Nat)(a:ab)(v2:Int)(v4:V4 cw):Option ab:=(dQ K n a.Style.Margin.a1 0).bind fun v5=>if (!v5.2) then uo K n a v2 ⟨v4.a0,({ cj with Kind:=1 }:cw),v4.a2,v4.a3⟩ else uo K n a v2 v4
def xL(K:Kn)(n:Nat)(a:ab)(v2:Int):Option ab:=(dQ K n a.Style.Margin.a0 0).bind fun b=>if (!b.2) then t9 K n a v2 ⟨({ cj with Kind:=1 }:cw),a.Style.Margin.a1,a.Style.Margin.a2,a.Style.Margin.a3⟩ else t9 K n a v2 a.Style.Margin
def sV(K:Kn)(n:Nat)(o:ab)(v2:Int)(p:bu)(v4 v5:Int)(v6:dO)(q:d4)(a:Int)(d:ek)(b e:ck)(c f g h i:Int)(m:Int→ek→ck→ck→Option (dn×Int×Int×Int×dO))(j:Int):Option (dn×Int×Int×Int×dO):=aE (aP a d.length) ((some (List.set d a.toNat (⟨j,h,i,f,g⟩:bC))).bind fun k=>(vD K n (⟨j,h,i,f,g⟩:bC)).bind fun l=>aE (aP a (List.set b a.toNat c).length) (aE (aP a e.length) (m (aa (a+1)) k (List.set b a.toNat c) (List.set e a.toNat (aa (l+(List.getD (List.set b a.toNat c) a.toNat default)))))))
def w5(K:Kn)(n:Nat)(s:ab)(v2:Int)(k:bu)(v4 v5:Int)(v6:dO)(j:d4)(a:Int)(b:ek)(c d:ck)(e f g h i:Int)(r:Int→ek→ck→ck→Option (dn×Int×Int×Int×dO))(l:Int)(m:Bool):Option (dn×Int×Int×Int×dO):=if (!m) then (K.gm k.Widths (List.getD j a.toNat default)).bind fun o=>(jL K n ((List.getD j a.toNat default).Style) 0 0).bind fun p=>(kF K n p).bind fun q=>sV K n s v2 k v4 v5 v6 j a b c d e f g h i r (aa (o.2-q)) else sV K n s v2 k v4 v5 v6 j a b c d e f g h i r l
def xP(K:Kn)(n:Nat)(v2:Int)(y:bu)(u:d4)(x:ek)(t h:ck)(e c:Int)(d:ck)(v:Int→Int→dn→Int→Int→dO→Option (dn×Int×Int×Int×dO))(w:Int→Int→Int→dn→Int→Int→dO→Option (dn×Int×Int×Int×dO))(f i b:Int)(g:dn)(j k:Int)(l:dO):Option (dn×Int×Int×Int×dO):=if (decide (b<(d.length:Int))) then aE (aP b d.length) (aE (aP (aa ((List.getD h c.toNat default)+b)) u.length) ((xL K n (List.getD u ((aa ((List.getD h c.toNat default)+b))).toNat default) (List.getD d b.toNat default)).bind fun o=>(K.de y.Layout o v2 j k l).bind fun a=>(gI K n a.1.Before).bind fun p=>(vm K n a.1).bind fun q=>(some (max i (aa ((aa (p+a.1.H))+q)))).bind fun r=>(gI K n a.1.Before).bind fun m=>aE (aP (aa ((List.getD h c.toNat default)+b)) t.length) ((some (aa (f+(aa ((List.getD d b.toNat default)+(List.getD t ((aa ((List.getD h c.toNat default)+b))).toNat default)))))).bind fun s=>aE (fits (g.length+([({ a.1 with X:=(aa (a.1.X+f)),Y:=(aa (e+m)) }:ae)]:dn).length) 584) (w s r (aa (b+1)) (g++[({ a.1 with X:=(aa (a.1.X+f)),Y:=(aa (e+m)) }:ae)]) a.2.1 a.2.2.1 a.2.2.2)))) else v (aa (e+i)) (aa (c+1)) g j k l
def pN(K:Kn)(n:Nat)(v2:Int)(h:bu)(i:d4)(d:ek)(e f:ck)(a b:Int)(c:ck)(g:Int→Int→dn→Int→Int→dO→Option (dn×Int×Int×Int×dO)):Nat→Int→Int→Int→dn→Int→Int→dO→Option (dn×Int×Int×Int×dO)
 | 0=>fun _ _ _ _ _ _ _=>none
 | m+1=>xP K n v2 h i d e f a b c g (pN K n v2 h i d e f a b c g m)
def zE(K:Kn)(n:Nat)(v2:Int)(s:bu)(t:d4)(g:ek)(p h:ck)(i b:Int)(j:dn)(k l:Int)(m:dO)(d:Int)(q:Int→Int→dn→Int→Int→dO→Option (dn×Int×Int×Int×dO))(r:Int→ck→Int→Int→Option (dn×Int×Int×Int×dO))(e:Int)(c:ck)(f a:Int):Option (dn×Int×Int×Int×dO):=if (decide (a<f)) then aE (aP a c.length) (r (aa (e-(List.getD c a.toNat default))) c f (aa (a+1))) else aE (cQ (List.getD h b.toNat default) d g.length) ((jH K n (List.drop ((List.getD h b.toNat default)).toNat (List.take d.toNat g)) e).bind fun o=>pN K n v2 s t g p h i b o q n 0 0 0 j k l m)
def qI(K:Kn)(n:Nat)(v2:Int)(l:bu)(o:d4)(h:ek)(i j:ck)(a b:Int)(c:dn)(d e:Int)(f:dO)(g:Int)(k:Int→Int→dn→Int→Int→dO→Option (dn×Int×Int×Int×dO)):Nat→Int→ck→Int→Int→Option (dn×Int×Int×Int×dO)
 | 0=>fun _ _ _ _=>none
 | m+1=>zE K n v2 l o h i j a b c d e f g k (qI K n v2 l o h i j a b c d e f g k m)
def mJ(K:Kn)(n:Nat)(v2:Int)(l:bu)(m:d4)(j:ek)(c d:ck)(e a:Int)(f:dn)(g h:Int)(i:dO)(k:Int→Int→dn→Int→Int→dO→Option (dn×Int×Int×Int×dO))(b:Int):Option (dn×Int×Int×Int×dO):=aE (cQ (List.getD d a.toNat default) b c.length) (qI K n v2 l m j c d e a f g h i b k n v2 (List.drop ((List.getD d a.toNat default)).toNat (List.take b.toNat c)) ((List.drop ((List.getD d a.toNat default)).toNat (List.take b.toNat c)).length:Int) 0)
def yB(K:Kn)(n:Nat)(v2:Int)(m:bu)(k:d4)(i:ek)(j b:ck)(l:Int→Int→dn→Int→Int→dO→Option (dn×Int×Int×Int×dO))(c a:Int)(d:dn)(e f:Int)(g:dO):Option (dn×Int×Int×Int×dO):=if (decide (a<(b.length:Int))) then aE (aP a b.length) ((some (decide ((aa (a+1))<(b.length:Int)))).bind fun h=>if h then aE (aP (aa (a+1)) b.length) (mJ K n v2 m k i j b c a d e f g l (List.getD b ((aa (a+1))).toNat default)) else mJ K n v2 m k i j b c a d e f g l (k.length:Int)) else some (d,c,e,f,g)
def je(K:Kn)(n:Nat)(v2:Int)(d:bu)(e:d4)(a:ek)(b c:ck):Nat→Int→Int→dn→Int→Int→dO→Option (dn×Int×Int×Int×dO)
 | 0=>fun _ _ _ _ _ _=>none
 | m+1=>yB K n v2 d e a b c (je K n v2 d e a b c m)
def kZ(K:Kn)(n:Nat)(v2:Int)(d:bu)(v4 v5:Int)(v6:dO)(e:d4)(a:ek)(b c:ck):Option (dn×Int×Int×Int×dO):=je K n v2 d e a b c n 0 0 [] v4 v5 v6
def zl(K:Kn)(n:Nat)(o:ab)(v2:Int)(m:bu)(v4 v5:Int)(v6:dO)(b:d4)(r:Int→ek→ck→ck→Option (dn×Int×Int×Int×dO))(a:Int)(d:ek)(c e:ck):Option (dn×Int×Int×Int×dO):=if (decide (a<(b.length:Int))) then aE (aP a b.length) ((jL K n ((List.getD b a.toNat default).Style) v2 0).bind fun p=>(kF K n p).bind fun g=>aE (aP a c.length) ((mR K n (((List.getD b a.toNat default).Style).MinWidth) v2 0).bind fun h=>(mR K n (((List.getD b a.toNat default).Style).MaxWidth) v2 1048576).bind fun i=>(some (((List.getD b a.toNat default).Style).Grow)).bind fun j=>(some (((List.getD b a.toNat default).Style).Shrink)).bind fun k=>(dQ K n (((List.getD b a.toNat default).Style).Basis) v2).bind fun f=>if (!f.2) then (dQ K n (((List.getD b a.toNat default).Style).Width) v2).bind fun l=>w5 K n o v2 m v4 v5 v6 b a d c e g h i j k r l.1 l.2 else w5 K n o v2 m v4 v5 v6 b a d c e g h i j k r f.1 f.2)) else if o.Style.Wrap=true then (pQ K n e v2).bind fun q=>kZ K n v2 m v4 v5 v6 b d c q else kZ K n v2 m v4 v5 v6 b d c [0]
def oy(K:Kn)(n:Nat)(a:ab)(v2:Int)(b:bu)(v4 v5:Int)(v6:dO)(c:d4):Nat→Int→ek→ck→ck→Option (dn×Int×Int×Int×dO)
 | 0=>fun _ _ _ _=>none
 | m+1=>zl K n a v2 b v4 v5 v6 c (oy K n a v2 b v4 v5 v6 c m)
def xv(K:Kn)(n:Nat)(c:ab)(v2:Int)(d:bu)(v4 v5:Int)(v6:dO):Option (dn×Int×Int×Int×dO):=(kE K n c).bind fun a=>aE (fA (a.length:Int) 40) ((some (List.replicate ((a.length:Int)).toNat (ki:bC))).bind fun e=>aE (fA (a.length:Int) 8) ((some (List.replicate ((a.length:Int)).toNat (0:Int))).bind fun f=>aE (fA (a.length:Int) 8) ((some (List.replicate ((a.length:Int)).toNat (0:Int))).bind fun b=>oy K n c v2 d v4 v5 v6 a n 0 e f b)))
def xX(K:Kn)(n:Nat)(a:ae)(b:Int×Bool)(v5:Int):Option ae:=some ({ a with X:=(aa (a.X+b.1)),Y:=v5 }:ae)
def tQ(K:Kn)(n:Nat)(a:ae)(v2:Int):Option ae:=if (a.Style.Position != 1) then some a else (dQ K n a.Style.Left v2).bind fun b=>if (a.Style.Top.Kind == 1) then (dQ K n a.Style.Top 0).bind fun v4=>xX K n a b (aa (a.Y+v4.1)) else xX K n a b a.Y
def zH(K:Kn)(n:Nat)(m:ab)(e:bD)(p q:bc)(f:dn)(g h:Int)(i:dO)(j k:Int)(o:Int→dn→Option (ae×Int×Int×dO))(a:Int)(b:dn):Option (ae×Int×Int×dO):=if (decide (a<(f.length:Int))) then aE (aP a b.length) (aE (aP a b.length) ((some (List.set b a.toNat ({ (List.getD b a.toNat default)with X:=(aa (((List.getD b a.toNat default).X)+(aa (e.Border.a3+e.Padding.a3)))) }:ae))).bind fun c=>aE (aP a c.length) (aE (aP a c.length) ((some (List.set c a.toNat ({ (List.getD c a.toNat default)with Y:=(aa (((List.getD c a.toNat default).Y)+(aa (e.Border.a0+e.Padding.a0)))) }:ae))).bind fun d=>aE (aP a d.length) ((tQ K n (List.getD d a.toNat default) e.Content).bind fun l=>aE (aP a d.length) (o (aa (a+1)) (List.set d a.toNat l))))))) else some ((⟨1,m.Node,e.Margin.a3,0,j,k,0,⟨#[]⟩,m.Style,p,q,false,b⟩:ae),g,h,i)
def tm(K:Kn)(n:Nat)(g:ab)(h:bD)(i j:bc)(a:dn)(b c:Int)(d:dO)(e f:Int):Nat→Int→dn→Option (ae×Int×Int×dO)
 | 0=>fun _ _=>none
 | m+1=>zH K n g h i j a b c d e f (tm K n g h i j a b c d e f m)
def ww(K:Kn)(n:Nat)(i:ab)(a:bD)(j k:bc)(b:dn)(c d:Int)(e:dO)(f:Int):Option (ae×Int×Int×dO):=(some (aa ((aa ((aa ((aa (a.Content+a.Border.a1))+a.Border.a3))+a.Padding.a1))+a.Padding.a3))).bind fun g=>(some (aa ((aa ((aa ((aa (f+a.Border.a0))+a.Border.a2))+a.Padding.a0))+a.Padding.a2))).bind fun h=>tm K n i a j k b c d e g h n 0 b
def sC(K:Kn)(n:Nat)(e:ab)(h:bD)(i j:bc)(f:Int)(a:dn)(b c:Int)(d:dO):Option (ae×Int×Int×dO):=if (e.Style.Height.Kind == 1) then (mR K n e.Style.Height 0 0).bind fun g=>ww K n e h i j a b c d (max g 0) else ww K n e h i j a b c d (max f 0)
def oH(K:Kn)(n:Nat)(c:ab)(v2:Int)(e:bu)(v4 v5:Int)(v6:dO):Option (ae×Int×Int×dO):=(qt K n c.Style v2).bind fun d=>(mK K n d.Margin.a0).bind fun f=>(mK K n d.Margin.a2).bind fun g=>if (c.Style.Direction == 1) then (zy K n c d.Content e v4 v5 v6).bind fun a=>sC K n c d f g a.2.1 a.1 a.2.2.1 a.2.2.2.1 a.2.2.2.2 else (xv K n c d.Content e v4 v5 v6).bind fun b=>sC K n c d f g b.2.1 b.1 b.2.2.1 b.2.2.2.1 b.2.2.2.2
def sk(K:Kn)(n:Nat)(a:d4)(v2:Fv)(b:Int→Option Int)(v4:Int):Option Int:=if (decide (v4<(a.length:Int))) then aE (aP v4 a.length) ((K.k9 v2 (List.getD a v4.toNat default)).bind fun v5=>if v5 then some v4 else b (aa (v4+1))) else some (-1)
def lI(K:Kn)(n:Nat)(a:d4)(v2:Fv):Nat→Int→Option Int
 | 0=>fun _=>none
 | m+1=>sk K n a v2 (lI K n a v2 m)
def Ak(K:Kn)(n:Nat)(a:d4)(v2:Fv):Option Int:=lI K n a v2 n 0
def ov(K:Kn)(n:Nat)(a:d4)(v2:Fv):Option Bool:=(Ak K n a v2).bind fun b=>some (decide (b≥0))
def w7(K:Kn)(n:Nat)(d:ab)(c:Int)(b:Int→d4→Option (d4×Bool))(a:d4):Option (d4×Bool):=b (aa (c+1)) a
def yh(K:Kn)(n:Nat)(a:ab)(f:Int→d4→Option (d4×Bool))(b:Int)(c:d4):Option (d4×Bool):=if (decide (b<(a.Kids.length:Int))) then aE (aP b a.Kids.length) ((j4 K n (List.getD a.Kids b.toNat default)).bind fun d=>if d then aE (fits (c.length+([(List.getD a.Kids b.toNat default)]:d4).length) 520) (w7 K n a b f (c++[(List.getD a.Kids b.toNat default)])) else w7 K n a b f c) else (ov K n c (Fv.fn 145)).bind fun e=>some (c,e)
def wE(K:Kn)(n:Nat)(a:ab):Nat→Int→d4→Option (d4×Bool)
 | 0=>fun _ _=>none
 | m+1=>yh K n a (wE K n a m)
def rX(K:Kn)(n:Nat)(a:ab):Option (d4×Bool):=wE K n a n 0 []
def kv(K:Kn)(n:Nat)(a v2:bc):Option bc:=some (⟨(max a.Pos v2.Pos),(min a.Neg v2.Neg)⟩:bc)
def vA(K:Kn)(n:Nat)(h:dn)(a:Int)(b:dn)(c:Int)(i:Int→Bool→Int→bc→bc→dn→Option (dn×Int×bc×bc×Bool))(d:Int)(e:Bool)(f g:bc):Option (dn×Int×bc×bc×Bool):=aE (fits (b.length+([({ (List.getD h a.toNat default)with Y:=c }:ae)]:dn).length) 584) (i d e (aa (a+1)) f g (b++[({ (List.getD h a.toNat default)with Y:=c }:ae)]))
def vG(K:Kn)(n:Nat)(c:dn)(a:Int)(d:dn)(g:bc)(b:Int)(f:Int→Bool→Int→bc→bc→dn→Option (dn×Int×bc×bc×Bool))(e:bc):Option (dn×Int×bc×bc×Bool):=vA K n c a d b f (aa (b+((List.getD c a.toNat default).H))) false e ((List.getD c a.toNat default).After)
def sa(K:Kn)(n:Nat)(g:dn)(i:Int)(e:Bool)(a:Int)(f:bc)(c:dn)(b:bc)(h:Int→Bool→Int→bc→bc→dn→Option (dn×Int×bc×bc×Bool))(d:Int):Option (dn×Int×bc×bc×Bool):=if (!(List.getD g a.toNat default).Empty) then if e then vG K n g a c b d h b else vG K n g a c b d h f else vA K n g a c d h i e f b
def re(K:Kn)(n:Nat)(a:Int)(b:Bool)(c:bc)(d:dn)(e:bc):Option (dn×Int×bc×bc×Bool):=some (d,a,e,c,b)
def qo(K:Kn)(n:Nat)(h:dn)(j:Int→Bool→Int→bc→bc→dn→Option (dn×Int×bc×bc×Bool))(b:Int)(a:Bool)(c:Int)(f d:bc)(e:dn):Option (dn×Int×bc×bc×Bool):=if (decide (c<(h.length:Int))) then aE (aP c h.length) ((kv K n d ((List.getD h c.toNat default).Before)).bind fun g=>if (!a) then (gI K n g).bind fun i=>sa K n h b a c f e g j (aa (b+i)) else sa K n h b a c f e g j 0) else if a then re K n b a d e d else re K n b a d e f
def jK(K:Kn)(n:Nat)(a:dn):Nat→Int→Bool→Int→bc→bc→dn→Option (dn×Int×bc×bc×Bool)
 | 0=>fun _ _ _ _ _ _=>none
 | m+1=>qo K n a (jK K n a m)
def lN(K:Kn)(n:Nat)(a:dn):Option (dn×Int×bc×bc×Bool):=jK K n a n 0 true 0 dA dA []
def D4(K:Kn)(n:Nat)(a:bD):Option Int:=some (aa ((aa ((aa (a.Border.a3+a.Padding.a3))+a.Border.a1))+a.Padding.a1))
def sL(K:Kn)(n:Nat)(v2:Bool):Option Bool:=some v2
def vw(K:Kn)(n:Nat)(a:ab):Option Bool:=if (a.Kind == 1) then sL K n true else if (a.Kind == 6) then sL K n true else sL K n (a.Kind == 7)
def xd(K:Kn)(n:Nat)(o:ab)(v2:bD)(p:d4×Bool)(d:dn)(e f:Int)(g:dO)(h:Int)(i j:bc)(k:Bool)(l m a:Int)(c:Int→dn→Option (ae×Int×Int×dO))(b:dn):Option (ae×Int×Int×dO):=c (aa (a+1)) b
def y9(K:Kn)(n:Nat)(q:ab)(v2:bD)(r:d4×Bool)(c:dn)(d e:Int)(f:dO)(g:Int)(h i:bc)(j:Bool)(k l a:Int)(b:dn)(p:Int→dn→Option (ae×Int×Int×dO))(m:Bool):Option (ae×Int×Int×dO):=if m then aE (aP a b.length) ((tQ K n (List.getD b a.toNat default) v2.Content).bind fun o=>aE (aP a b.length) (xd K n q v2 r c d e f g h i j k l a p (List.set b a.toNat o))) else xd K n q v2 r c d e f g h i j k l a p b
def zz(K:Kn)(n:Nat)(q:ab)(v2:bD)(p:d4×Bool)(d:dn)(e f:Int)(g:dO)(h:Int)(i j:bc)(k:Bool)(l m:Int)(s:Int→dn→Option (ae×Int×Int×dO))(a:Int)(b:dn):Option (ae×Int×Int×dO):=if (decide (a<(d.length:Int))) then aE (aP a b.length) (aE (aP a b.length) ((some (List.set b a.toNat ({ (List.getD b a.toNat default)with X:=(aa (((List.getD b a.toNat default).X)+(aa (v2.Border.a3+v2.Padding.a3)))) }:ae))).bind fun c=>aE (aP a c.length) (aE (aP a c.length) ((some (List.set c a.toNat ({ (List.getD c a.toNat default)with Y:=(aa (((List.getD c a.toNat default).Y)+(aa ((aa (v2.Border.a0+v2.Padding.a0))+h)))) }:ae))).bind fun o=>if p.2=true then aE (aP a p.1.length) ((vw K n (List.getD p.1 a.toNat default)).bind fun r=>y9 K n q v2 p d e f g h i j k l m a o s r) else y9 K n q v2 p d e f g h i j k l m a o s false)))) else some ((⟨1,q.Node,v2.Margin.a3,0,(aa (v2.Content+l)),m,0,⟨#[]⟩,q.Style,i,j,k,b⟩:ae),e,f,g)
def sq(K:Kn)(n:Nat)(k:ab)(v2:bD)(l:d4×Bool)(a:dn)(b c:Int)(d:dO)(e:Int)(f g:bc)(h:Bool)(i j:Int):Nat→Int→dn→Option (ae×Int×Int×dO)
 | 0=>fun _ _=>none
 | m+1=>zz K n k v2 l a b c d e f g h i j (sq K n k v2 l a b c d e f g h i j m)
def ub(K:Kn)(n:Nat)(l:ab)(v2:bD)(m:d4×Bool)(a:dn)(b c:Int)(d:dO)(e:Int)(f g:bc)(h:Bool)(i:Int):Option (ae×Int×Int×dO):=(D4 K n v2).bind fun j=>(some (aa ((aa ((aa ((aa (i+v2.Border.a0))+v2.Padding.a0))+v2.Border.a2))+v2.Padding.a2))).bind fun k=>sq K n l v2 m a b c d e f g h j k n 0 a
def wP(K:Kn)(n:Nat)(l:ab)(v2:bD)(m:d4×Bool)(a:dn)(b c:Int)(d:dO)(e i:Int)(f g:bc)(h:Bool)(j:Int×Bool)(k:Bool):Option (ae×Int×Int×dO):=if k then ub K n l v2 m a b c d e f g h (max j.1 0) else ub K n l v2 m a b c d e f g h (max i 0)
def nC(K:Kn)(n:Nat)(k:ab)(v2:bD)(l:d4×Bool)(b:dn)(c d:Int)(e:dO)(f g:Int)(h i:bc)(j:Bool):Option (ae×Int×Int×dO):=(dQ K n k.Style.Height 0).bind fun a=>if a.2=true then wP K n k v2 l b c d e f g h i j a (k.Style.Height.Kind == 1) else wP K n k v2 l b c d e f g h i j a false
def uV(K:Kn)(n:Nat)(h:ab)(v2:bD)(v4:Bool)(l:d4×Bool)(i:Int)(m:Bool)(o j:bc)(b:dn)(c d:Int)(e:dO)(f:bc)(a:Int)(g:bc)(p:Bool):Option (ae×Int×Int×dO):=if p then (kv K n g f).bind fun k=>nC K n h v2 l b c d e a 0 k k true else if m then if v4 then (kv K n f o).bind fun q=>nC K n h v2 l b c d e a a g q false else nC K n h v2 l b c d e a a g f false else if v4 then (kv K n f j).bind fun r=>nC K n h v2 l b c d e a (aa (i+a)) g r false else (gI K n j).bind fun s=>nC K n h v2 l b c d e a (aa (i+(aa (a+s)))) g f false
def se(K:Kn)(n:Nat)(l:ab)(v2:bD)(o v4:Bool)(m:d4×Bool)(b:Int)(a:Bool)(c d:bc)(e:dn)(f g:Int)(h:dO)(i:bc)(j:Int)(k:bc):Option (ae×Int×Int×dO):=if a then if o then uV K n l v2 v4 m b a c d e f g h i j k v4 else uV K n l v2 v4 m b a c d e f g h i j k false else uV K n l v2 v4 m b a c d e f g h i j k false
def wK(K:Kn)(n:Nat)(m:ab)(v2:bD)(o v4:Bool)(p:d4×Bool)(b:Int)(c:Bool)(a d:bc)(e:dn)(f g:Int)(h:dO)(i j:bc)(k:Bool):Option (ae×Int×Int×dO):=if k then (gI K n a).bind fun l=>se K n m v2 o v4 p b c a d e f g h j l i else se K n m v2 o v4 p b c a d e f g h j 0 i
def pI(K:Kn)(n:Nat)(l:ab)(v2:bD)(k v4:Bool)(o:d4×Bool)(c:Int)(a:Bool)(b d:bc)(e:dn)(f g:Int)(h:dO):Option (ae×Int×Int×dO):=(mK K n v2.Margin.a0).bind fun i=>(mK K n v2.Margin.a2).bind fun j=>if k then (kv K n i b).bind fun m=>se K n l v2 k v4 o c a b d e f g h j 0 m else if (!a) then wK K n l v2 k v4 o c a b d e f g h i j true else wK K n l v2 k v4 o c a b d e f g h i j (!v4)
def xN(K:Kn)(n:Nat)(j:ab)(v2:bD)(k v4:Bool)(v5:bu)(h:d4×Bool)(i:Int→dn→Int→Int→dO→Option (ae×Int×Int×dO))(c:Int)(d:dn)(e f:Int)(g:dO):Option (ae×Int×Int×dO):=if (decide (c<(h.1.length:Int))) then aE (aP c h.1.length) ((K.de v5.Layout (List.getD h.1 c.toNat default) v2.Content e f g).bind fun a=>aE (fits (d.length+([a.1]:dn).length) 584) (i (aa (c+1)) (d++[a.1]) a.2.1 a.2.2.1 a.2.2.2)) else (lN K n d).bind fun b=>pI K n j v2 k v4 h b.2.1 b.2.2.2.2 b.2.2.1 b.2.2.2.1 b.1 e f g
def qz(K:Kn)(n:Nat)(a:ab)(v2:bD)(b v4:Bool)(v5:bu)(c:d4×Bool):Nat→Int→dn→Int→Int→dO→Option (ae×Int×Int×dO)
 | 0=>fun _ _ _ _ _=>none
 | m+1=>xN K n a v2 b v4 v5 c (qz K n a v2 b v4 v5 c m)
def jU(K:Kn)(n:Nat)(c:ab)(v2:bD)(e v4:Bool)(v5:bu)(v6 f:Int)(g:dO):Option (ae×Int×Int×dO):=(rX K n c).bind fun d=>if d.2=true then qz K n c v2 e v4 v5 d n 0 [] v6 f g else (K.A9 v5.Lines d.1 c.Style v2.Content).bind fun a=>(qb K n a.1).bind fun b=>pI K n c v2 e v4 d a.2 ((b.length:Int) == 0) dA dA b v6 f g
def uC(K:Kn)(n:Nat)(b:ab)(c:bu)(v4 v5:Int)(v6:dO)(d:bD)(e f:Bool):Option (ae×Int×Int×dO):=(jU K n b d e f c v4 v5 v6).bind fun a=>some (a.1,a.2.1,a.2.2.1,a.2.2.2)
def oZ(K:Kn)(n:Nat)(a:ab)(c:bu)(v4 v5:Int)(v6:dO)(b:bD)(d:Bool):Option (ae×Int×Int×dO):=if (a.Style.Overflow == 0) then if (b.Border.a2 == 0) then if (b.Padding.a2 == 0) then uC K n a c v4 v5 v6 b d (a.Style.Height.Kind != 1) else uC K n a c v4 v5 v6 b d false else uC K n a c v4 v5 v6 b d false else uC K n a c v4 v5 v6 b d false
def nJ(K:Kn)(n:Nat)(a:ab)(v2:Int)(c:bu)(v4 v5:Int)(v6:dO):Option (ae×Int×Int×dO):=(qt K n a.Style v2).bind fun b=>if (a.Style.Overflow == 0) then if (b.Border.a0 == 0) then oZ K n a c v4 v5 v6 b (b.Padding.a0 == 0) else oZ K n a c v4 v5 v6 b false else oZ K n a c v4 v5 v6 b false
def DD(K:Kn)(n:Nat)(a:ae)(b c:Int)(d:dO):Option (ae×Int×Int×dO):=some (a,b,c,d)
def uq(K:Kn)(n:Nat)(f:ab)(v2:Int)(v5:Bool)(a:ae)(c d:Int)(e:dO):Option (ae×Int×Int×dO):=if v5 then aE v5 ((yR K n f v2 a c d e).bind fun b=>DD K n a b.1 b.2.1 b.2.2) else DD K n a c d e
def tp(K:Kn)(n:Nat)(c:ab)(v2:Int)(v4:bu)(v5:Bool)(d e:Int)(f:dO):Option (ae×Int×Int×dO):=if (c.Kind == 6) then (oH K n c v2 v4 d e f).bind fun a=>uq K n c v2 v5 a.1 a.2.1 a.2.2.1 a.2.2.2 else if (c.Kind == 7) then none else if (c.Kind == 5) then none else (nJ K n c v2 v4 d e f).bind fun b=>uq K n c v2 v5 b.1 b.2.1 b.2.2.1 b.2.2.2
def jM(K:Kn)(n:Nat)(b:ab)(v2:Int)(c:Bool)(v4:bu)(v5:Bool)(v6 d:Int)(e:dO):Option (ae×Int×Int×dO):=if c then aE c ((ye K n b v2 v6 d e).bind fun a=>if a.2.1=true then some (a.1,a.2.2.1,a.2.2.2.1,a.2.2.2.2) else tp K n b v2 v4 v5 a.2.2.1 a.2.2.2.1 a.2.2.2.2) else tp K n b v2 v4 v5 v6 d e
def AJ(K:Kn)(n:Nat)(a:aI):Option aI:=some a
def va(K:Kn)(n:Nat)(a:aI):Option aI:=if (a.Padding.a3.Kind == 2) then AJ K n ({ a with Padding:=⟨a.Padding.a0,a.Padding.a1,a.Padding.a2,cj⟩ }:aI) else AJ K n a
def tW(K:Kn)(n:Nat)(a:aI):Option aI:=if (a.Margin.a3.Kind == 2) then va K n ({ a with Margin:=⟨a.Margin.a0,a.Margin.a1,a.Margin.a2,cj⟩ }:aI) else va K n a
def tI(K:Kn)(n:Nat)(a:aI):Option aI:=if (a.Padding.a2.Kind == 2) then tW K n ({ a with Padding:=⟨a.Padding.a0,a.Padding.a1,cj,a.Padding.a3⟩ }:aI) else tW K n a
def vK(K:Kn)(n:Nat)(a:aI):Option aI:=if (a.Margin.a2.Kind == 2) then tI K n ({ a with Margin:=⟨a.Margin.a0,a.Margin.a1,cj,a.Margin.a3⟩ }:aI) else tI K n a
def vQ(K:Kn)(n:Nat)(a:aI):Option aI:=if (a.Padding.a1.Kind == 2) then vK K n ({ a with Padding:=⟨a.Padding.a0,cj,a.Padding.a2,a.Padding.a3⟩ }:aI) else vK K n a
def wF(K:Kn)(n:Nat)(a:aI):Option aI:=if (a.Margin.a1.Kind == 2) then vQ K n ({ a with Margin:=⟨a.Margin.a0,cj,a.Margin.a2,a.Margin.a3⟩ }:aI) else vQ K n a
def vB(K:Kn)(n:Nat)(v6:aI):Option aI:=if (v6.Padding.a0.Kind == 2) then wF K n ({ v6 with Padding:=⟨cj,v6.Padding.a1,v6.Padding.a2,v6.Padding.a3⟩ }:aI) else wF K n v6
def vy(K:Kn)(n:Nat)(v5:aI):Option aI:=if (v5.Margin.a0.Kind == 2) then vB K n ({ v5 with Margin:=⟨cj,v5.Margin.a1,v5.Margin.a2,v5.Margin.a3⟩ }:aI) else vB K n v5
def vT(K:Kn)(n:Nat)(v4:aI):Option aI:=if (v4.MaxWidth.Kind == 2) then vy K n ({ v4 with MaxWidth:=cj }:aI) else vy K n v4
def uh(K:Kn)(n:Nat)(a:aI):Option aI:=if (a.MinWidth.Kind == 2) then vT K n ({ a with MinWidth:=cj }:aI) else vT K n a
def A1(K:Kn)(n:Nat)(a:aI):Option aI:=if (a.Width.Kind == 2) then uh K n ({ a with Width:=cj }:aI) else uh K n a
def xF(K:Kn)(n:Nat)(a:Int)(v2:aI):Option Int:=(iG K n a 1048576).bind fun b=>(nE K n v2 0 b).bind fun v4=>(jL K n v2 0 v4).bind fun v5=>(kF K n v5).bind fun v6=>some v6
def Be(K:Kn)(n:Nat)(e:ab)(v2:bu)(f:aI)(v5:d4)(a:Int)(d:Int→Int→Int→Option em)(b c:Int):Option em:=d b c (aa (a+1))
def xO(K:Kn)(n:Nat)(f:ab)(v2:bu)(g:aI)(v5:d4)(a b:Int)(c:Int×Int)(e:Int→Int→Int→Option em)(d:Int):Option em:=Be K n f v2 g v5 b e d (aa (a+c.2))
def pZ(K:Kn)(n:Nat)(e:aI)(a b:Int):Option em:=(xF K n a e).bind fun c=>(xF K n b e).bind fun d=>some (c,d)
def xV(K:Kn)(n:Nat)(e:ab)(v2:bu)(f:aI)(v5:d4)(g:Int→Int→Int→Option em)(c d a:Int):Option em:=if (decide (a<(v5.length:Int))) then aE (aP a v5.length) ((K.gm v2.Widths (List.getD v5 a.toNat default)).bind fun b=>if (e.Style.Direction == 1) then Be K n e v2 f v5 a g (max c b.1) (max d b.2) else if e.Style.Wrap=true then xO K n e v2 f v5 d a b g (max c b.1) else xO K n e v2 f v5 d a b g (aa (c+b.1))) else pZ K n f c d
def vS(K:Kn)(n:Nat)(a:ab)(v2:bu)(b:aI)(v5:d4):Nat→Int→Int→Int→Option em
 | 0=>fun _ _ _=>none
 | m+1=>xV K n a v2 b v5 (vS K n a v2 b v5 m)
def vY(K:Kn)(n:Nat)(a:ab)(v2:bu):Option em:=(A1 K n a.Style).bind fun b=>(dQ K n b.Width 0).bind fun v4=>if v4.2=true then pZ K n b v4.1 v4.1 else (kE K n a).bind fun v5=>vS K n a v2 b v5 n 0 0 0
def AU(K:Kn)(n:Nat)(a:aI):Option aI:=some a
def tw(K:Kn)(n:Nat)(a:aI):Option aI:=if (a.Padding.a3.Kind == 2) then AU K n ({ a with Padding:=⟨a.Padding.a0,a.Padding.a1,a.Padding.a2,cj⟩ }:aI) else AU K n a
def wm(K:Kn)(n:Nat)(a:aI):Option aI:=if (a.Margin.a3.Kind == 2) then tw K n ({ a with Margin:=⟨a.Margin.a0,a.Margin.a1,a.Margin.a2,cj⟩ }:aI) else tw K n a
def wB(K:Kn)(n:Nat)(a:aI):Option aI:=if (a.Padding.a2.Kind == 2) then wm K n ({ a with Padding:=⟨a.Padding.a0,a.Padding.a1,cj,a.Padding.a3⟩ }:aI) else wm K n a
def si(K:Kn)(n:Nat)(a:aI):Option aI:=if (a.Margin.a2.Kind == 2) then wB K n ({ a with Margin:=⟨a.Margin.a0,a.Margin.a1,cj,a.Margin.a3⟩ }:aI) else wB K n a
def ua(K:Kn)(n:Nat)(a:aI):Option aI:=if (a.Padding.a1.Kind == 2) then si K n ({ a with Padding:=⟨a.Padding.a0,cj,a.Padding.a2,a.Padding.a3⟩ }:aI) else si K n a
def tT(K:Kn)(n:Nat)(a:aI):Option aI:=if (a.Margin.a1.Kind == 2) then ua K n ({ a with Margin:=⟨a.Margin.a0,cj,a.Margin.a2,a.Margin.a3⟩ }:aI) else ua K n a
def vP(K:Kn)(n:Nat)(v6:aI):Option aI:=if (v6.Padding.a0.Kind == 2) then tT K n ({ v6 with Padding:=⟨cj,v6.Padding.a1,v6.Padding.a2,v6.Padding.a3⟩ }:aI) else tT K n v6
def vp(K:Kn)(n:Nat)(v5:aI):Option aI:=if (v5.Margin.a0.Kind == 2) then vP K n ({ v5 with Margin:=⟨cj,v5.Margin.a1,v5.Margin.a2,v5.Margin.a3⟩ }:aI) else vP K n v5
def s9(K:Kn)(n:Nat)(v4:aI):Option aI:=if (v4.MaxWidth.Kind == 2) then vp K n ({ v4 with MaxWidth:=cj }:aI) else vp K n v4
def sW(K:Kn)(n:Nat)(a:aI):Option aI:=if (a.MinWidth.Kind == 2) then s9 K n ({ a with MinWidth:=cj }:aI) else s9 K n a
def uB(K:Kn)(n:Nat)(a:aI):Option aI:=if (a.Width.Kind == 2) then sW K n ({ a with Width:=cj }:aI) else sW K n a
def xa(K:Kn)(n:Nat)(v2:bu)(v6:d4×Bool)(g:Int→Int→Int→Option em)(b c a:Int):Option em:=if (decide (a<(v6.1.length:Int))) then aE (aP a v6.1.length) ((K.gm v2.Widths (List.getD v6.1 a.toNat default)).bind fun d=>g (max b d.1) (max c d.2) (aa (a+1))) else (gU K n b).bind fun e=>(gU K n c).bind fun f=>some (e,f)
def uy(K:Kn)(n:Nat)(v2:bu)(v6:d4×Bool):Nat→Int→Int→Int→Option em
 | 0=>fun _ _ _=>none
 | m+1=>xa K n v2 v6 (uy K n v2 v6 m)
def lP(K:Kn)(n:Nat)(a:ab)(v2:bu):Option em:=(uB K n a.Style).bind fun c=>(dQ K n c.Width 0).bind fun v4=>if v4.2=true then (gU K n v4.1).bind fun v5=>some (v5,v5) else (rX K n a).bind fun v6=>if (!v6.2) then (K.y7 v2.Spread v6.1 a.Style).bind fun b=>(gU K n b.1).bind fun d=>(gU K n b.2).bind fun e=>some (d,e) else uy K n v2 v6 n 0 0 0
def yc(K:Kn)(n:Nat)(b:ab)(v2:bu):Option em:=(lP K n b v2).bind fun c=>(uB K n b.Style).bind fun v4=>(nE K n v4 0 c.1).bind fun v5=>(jL K n v4 0 v5).bind fun v6=>(kF K n v6).bind fun d=>(nE K n v4 0 c.2).bind fun e=>(jL K n v4 0 e).bind fun f=>(kF K n f).bind fun a=>some (d,a)
def py(K:Kn)(n:Nat)(a:ab)(v2:bu):Option em:=if (a.Kind == 6) then (vY K n a v2).bind fun b=>some (b.1,b.2) else if (a.Kind == 7) then none else (yc K n a v2).bind fun v4=>some (v4.1,v4.2)
def qO(K:Kn)(n:Nat)(v2:d6)(a:aJ):Option d6:=aE (fits (v2.length+([({ a with Char:=32 }:aJ)]:d6).length) 32) (some (v2++[({ a with Char:=32 }:aJ)]))
def mS(K:Kn)(n:Nat)(a:aJ)(v2:d6)(v6:Bool):Option d6:=if v6 then some v2 else qO K n v2 ({ a with Soft:=true }:aJ)
def tZ(K:Kn)(n:Nat)(a:aJ)(v2:d6)(v5:Bool):Option d6:=if v5 then some v2 else if (!(a.Box.Style.WhiteSpace == 2)) then if ((v2.length:Int) == 0) then mS K n a v2 true else aE (aP (aa ((v2.length:Int)-1)) v2.length) (if (List.getD v2 ((aa ((v2.length:Int)-1))).toNat default).Soft=true then mS K n a v2 true else aE (aP (aa ((v2.length:Int)-1)) v2.length) (mS K n a v2 (((List.getD v2 ((aa ((v2.length:Int)-1))).toNat default).Kind) == 2))) else qO K n v2 a
def sY(K:Kn)(n:Nat)(a:aJ)(v2:d6)(v4:Bool):Option d6:=if v4 then qO K n v2 ({ a with Kind:=2 }:aJ) else if (a.Box.Style.WhiteSpace == 2) then tZ K n a v2 (a.Char == 13) else tZ K n a v2 false
def lZ(K:Kn)(n:Nat)(a:aJ)(v2:d6)(b:Bool):Option d6:=if b then if (a.Box.Style.WhiteSpace == 2) then sY K n a v2 (a.Char == 10) else sY K n a v2 false else aE (fits (v2.length+([a]:d6).length) 32) (some (v2++[a]))
def A5(K:Kn)(n:Nat)(a:aJ)(v2:d6):Option d6:=if (a.Char == 9) then lZ K n a v2 true else if (a.Char == 10) then lZ K n a v2 true else if (a.Char == 13) then lZ K n a v2 true else lZ K n a v2 (a.Char == 32)
def nl(K:Kn)(n:Nat)(e:d4)(a:Int)(d:Int→Int→d6→Option (Int×d6))(b:Int)(c:d6):Option (Int×d6):=d (aa (a+1)) b c
def ky(K:Kn)(n:Nat)(e:d4)(a:Int)(d:Int→Int→d6→Option (Int×d6))(b:Int)(c:d6):Option (Int×d6):=nl K n e a d b c
def tU(K:Kn)(n:Nat)(c:d4)(a d:Int)(i:Int→Int→d6→Option (Int×d6))(j:Nat→d6→Option (Int×d6))(b:Nat)(e:d6):Option (Int×d6):=if decide (b<((List.getD c a.toNat default).Text).size)=true then (some ((Utf8.decode ((List.getD c a.toNat default).Text) b).1:Int)).bind fun f=>(some (b+(Utf8.decode ((List.getD c a.toNat default).Text) b).2)).bind fun g=>(A5 K n (⟨1,(aa (d+1)),f,false,(List.getD c a.toNat default)⟩:aJ) e).bind fun h=>j g h else ky K n c a i (aa (d+1)) e
def vq(K:Kn)(n:Nat)(d:d4)(a b:Int)(c:Int→Int→d6→Option (Int×d6)):Nat→Nat→d6→Option (Int×d6)
 | 0=>fun _ _=>none
 | m+1=>tU K n d a b c (vq K n d a b c m)
def sU(K:Kn)(n:Nat)(d:d4)(e:Int→Int→d6→Option (Int×d6))(a b:Int)(c:d6):Option (Int×d6):=if (decide (a<(d.length:Int))) then aE (aP a d.length) ((j4 K n (List.getD d a.toNat default)).bind fun g=>if (!g) then nl K n d a e b c else (some (((List.getD d a.toNat default).Kind) == 2)).bind fun h=>if h then (K.DY ((List.getD d a.toNat default).Kids) (aa (b+1)) c).bind fun f=>ky K n d a e f.1 f.2 else (some (((List.getD d a.toNat default).Kind) == 4)).bind fun i=>if i then aE (fits (c.length+([(⟨2,(aa (b+1)),0,false,(List.getD d a.toNat default)⟩:aJ)]:d6).length) 32) (ky K n d a e (aa (b+1)) (c++[(⟨2,(aa (b+1)),0,false,(List.getD d a.toNat default)⟩:aJ)])) else (some (((List.getD d a.toNat default).Kind) == 5)).bind fun j=>if j then aE (fits (c.length+([(⟨3,(aa (b+1)),0,false,(List.getD d a.toNat default)⟩:aJ)]:d6).length) 32) (ky K n d a e (aa (b+1)) (c++[(⟨3,(aa (b+1)),0,false,(List.getD d a.toNat default)⟩:aJ)])) else (some (((List.getD d a.toNat default).Kind) == 3)).bind fun k=>if k then vq K n d a b e n 0 c else ky K n d a e (aa (b+1)) c) else some (b,c)
def pj(K:Kn)(n:Nat)(a:d4):Nat→Int→Int→d6→Option (Int×d6)
 | 0=>fun _ _ _=>none
 | m+1=>sU K n a (pj K n a m)
def mD(K:Kn)(n:Nat)(a:d4)(v2:Int)(b:d6):Option (Int×d6):=pj K n a n 0 v2 b
def pS(K:Kn)(n:Nat)(a:d4):Option d6:=(mD K n a 0 ([]:d6)).bind fun v2=>some v2.2
def uZ(K:Kn)(n:Nat)(v2:Bool):Option Bool:=some v2
def nF(K:Kn)(n:Nat)(a:aJ):Option Bool:=if (a.Kind == 1) then if (a.Box.Style.WhiteSpace != 1) then uZ K n (a.Box.Style.WhiteSpace != 2) else uZ K n false else uZ K n false
def yv(K:Kn)(n:Nat)(v6:Bool):Option Int:=if v6 then some 10 else some 8
def mB(K:Kn)(n:Nat)(a:Int)(v5:Bool):Option Int:=if v5 then some 14 else if (decide (a≥65)) then yv K n (decide (a≤90)) else yv K n false
def gl(K:Kn)(n:Nat)(a:Int)(v4:Bool):Option Int:=if v4 then some 6 else if (a == 37) then mB K n a true else if (a == 64) then mB K n a true else if (a == 77) then mB K n a true else if (a == 87) then mB K n a true else if (a == 109) then mB K n a true else mB K n a (a == 119)
def ia(K:Kn)(n:Nat)(a:Int)(b:Bool):Option Int:=if b then some 4 else if (a == 34) then gl K n a true else if (a == 40) then gl K n a true else if (a == 41) then gl K n a true else if (a == 42) then gl K n a true else if (a == 45) then gl K n a true else if (a == 47) then gl K n a true else if (a == 91) then gl K n a true else if (a == 92) then gl K n a true else if (a == 93) then gl K n a true else if (a == 94) then gl K n a true else if (a == 102) then gl K n a true else if (a == 114) then gl K n a true else if (a == 116) then gl K n a true else if (a == 123) then gl K n a true else gl K n a (a == 125)
def lx(K:Kn)(n:Nat)(a:Int)(v2:Bool):Option Int:=if v2 then some 0 else if (decide (a≥4352)) then some 16 else if (a == 32) then ia K n a true else if (a == 160) then ia K n a true else if (a == 33) then ia K n a true else if (a == 39) then ia K n a true else if (a == 44) then ia K n a true else if (a == 46) then ia K n a true else if (a == 58) then ia K n a true else if (a == 59) then ia K n a true else if (a == 73) then ia K n a true else if (a == 105) then ia K n a true else if (a == 106) then ia K n a true else if (a == 108) then ia K n a true else ia K n a (a == 124)
def l5(K:Kn)(n:Nat)(a:Int):Option Int:=if (decide (a<32)) then lx K n a true else if (decide (a>1114111)) then lx K n a true else if (decide (a≥127)) then if (decide (a≤159)) then lx K n a true else if (decide (a≥768)) then lx K n a (decide (a≤879)) else lx K n a false else if (decide (a≥768)) then lx K n a (decide (a≤879)) else lx K n a false
def qP(K:Kn)(n:Nat)(v2:Bool):Option Bool:=if v2 then some true else some false
def vd(K:Kn)(n:Nat)(a:Int):Option Bool:=if (a == 9) then qP K n true else if (a == 10) then qP K n true else if (a == 13) then qP K n true else qP K n (a == 32)
def zQ(K:Kn)(n:Nat)(a:Bool):Option Bool:=some a
def zK(K:Kn)(n:Nat)(a v2:Int)(b:Bool):Option Bool:=if b then some true else if (decide (a≥11904)) then zQ K n true else zQ K n (decide (v2≥11904))
def qg(K:Kn)(n:Nat)(a v2:Int)(v5:Bool):Option Bool:=if v5 then some false else (vd K n a).bind fun v6=>if v6 then some true else if (a == 45) then zK K n a v2 (v2 != 45) else zK K n a v2 false
def Bj(K:Kn)(n:Nat)(a v2:Int):Option Bool:=(vd K n v2).bind fun b=>if b then qg K n a v2 true else (l5 K n v2).bind fun v4=>qg K n a v2 (v4 == 0)
def qr(K:Kn)(n:Nat)(c:ByteArray)(a:Nat)(d:Int→Nat→ck→Option ck)(b:ck):Option ck:=d ((Utf8.decode c a).1:Int) (a+(Utf8.decode c a).2) b
def pF(K:Kn)(n:Nat)(e:ByteArray)(a:Nat)(b:ck)(d:Int→Nat→ck→Option ck)(c:Bool):Option ck:=if c then aE (fits (b.length+([((a:Nat):Int)]:ck).length) 8) (qr K n e a d (b++[((a:Nat):Int)])) else qr K n e a d b
def lG(K:Kn)(n:Nat)(c:ByteArray)(e:Int→Nat→ck→Option ck)(f:Int)(a:Nat)(b:ck):Option ck:=if decide (a<c.size)=true then if (decide (((a:Nat):Int)>0)) then (Bj K n f ((Utf8.decode c a).1:Int)).bind fun d=>pF K n c a b e d else pF K n c a b e false else some b
def n0(K:Kn)(n:Nat)(a:ByteArray):Nat→Int→Nat→ck→Option ck
 | 0=>fun _ _ _=>none
 | m+1=>lG K n a (n0 K n a m)
def xz(K:Kn)(n:Nat)(a:ByteArray):Option ck:=n0 K n a n 0 0 []
def nQ(K:Kn)(n:Nat)(a:Bool):Option Bool:=some a
def mc(K:Kn)(n:Nat)(c v2:aJ)(a:Bool):Option Bool:=if a then some false else (xz K n (runesBytes [c.Char,v2.Char])).bind fun b=>some (decide ((b.length:Int)>0))
def ox(K:Kn)(n:Nat)(a v2:aJ)(b:Bool):Option Bool:=if b then if (a.Kind == 3) then if (v2.Kind == 3) then nQ K n true else (nF K n v2).bind fun v4=>nQ K n v4 else (nF K n a).bind fun v5=>if v5 then if (v2.Kind == 3) then nQ K n true else (nF K n v2).bind fun v6=>nQ K n v6 else nQ K n false else if (a.Kind != 1) then mc K n a v2 true else if (v2.Kind != 1) then mc K n a v2 true else (nF K n a).bind fun c=>if (!c) then mc K n a v2 true else if (a.Char != 32) then (nF K n v2).bind fun d=>mc K n a v2 (!d) else mc K n a v2 false
def li(K:Kn)(n:Nat)(a v2:aJ):Option Bool:=if (a.Kind == 3) then ox K n a v2 true else ox K n a v2 (v2.Kind == 3)
def qh(K:Kn)(n:Nat)(a:Int):Option Int:=some (min (max a 0) 1048576)
def xE(K:Kn)(n:Nat)(a:Int):Option Int:=(qh K n a).bind fun v2=>some v2
def z5(K:Kn)(n:Nat)(a:Int):Option Int:=(qh K n a).bind fun v2=>(qh K n a).bind fun b=>some (aa (v2+(aa (Int.tdiv (aa (b+3)) 4))))
def ow(K:Kn)(n:Nat)(a:aI):Option em:=(xE K n a.FontSize).bind fun v2=>(z5 K n a.FontSize).bind fun b=>some ((aa (v2+((aa ((max a.LineHeight 0)-b)) / 2))),(aa ((max a.LineHeight 0)-(aa (v2+((aa ((max a.LineHeight 0)-b)) / 2))))))
def yi(K:Kn)(n:Nat)(a:Int)(v2:ck)(v4:Bool):Option ck:=if v4 then aE (fits (v2.length+([(fg .u8 240 (IntKind.wrap .u8 (a / 262144))),(fg .u8 128 (gP .u8 (IntKind.wrap .u8 (a / 4096)) 63)),(fg .u8 128 (gP .u8 (IntKind.wrap .u8 (a / 64)) 63)),(fg .u8 128 (gP .u8 (IntKind.wrap .u8 a) 63))]:ck).length) 1) (some (v2++[(fg .u8 240 (IntKind.wrap .u8 (a / 262144))),(fg .u8 128 (gP .u8 (IntKind.wrap .u8 (a / 4096)) 63)),(fg .u8 128 (gP .u8 (IntKind.wrap .u8 (a / 64)) 63)),(fg .u8 128 (gP .u8 (IntKind.wrap .u8 a) 63))])) else aE (fits (v2.length+([239,191,189]:ck).length) 1) (some (v2++[239,191,189]))
def nU(K:Kn)(n:Nat)(a:Int)(v2:ck)(b:Bool):Option ck:=if b then aE (fits (v2.length+([(fg .u8 224 (IntKind.wrap .u8 (a / 4096))),(fg .u8 128 (gP .u8 (IntKind.wrap .u8 (a / 64)) 63)),(fg .u8 128 (gP .u8 (IntKind.wrap .u8 a) 63))]:ck).length) 1) (some (v2++[(fg .u8 224 (IntKind.wrap .u8 (a / 4096))),(fg .u8 128 (gP .u8 (IntKind.wrap .u8 (a / 64)) 63)),(fg .u8 128 (gP .u8 (IntKind.wrap .u8 a) 63))])) else if (decide ((IntKind.wrap .u32 a)>65535)) then yi K n a v2 (decide ((IntKind.wrap .u32 a)≤1114111)) else yi K n a v2 false
def uX(K:Kn)(n:Nat)(a:Int)(v2:ck):Option ck:=if (decide ((IntKind.wrap .u32 a)≤2047)) then aE (fits (v2.length+([(fg .u8 192 (IntKind.wrap .u8 (a / 64))),(fg .u8 128 (gP .u8 (IntKind.wrap .u8 a) 63))]:ck).length) 1) (some (v2++[(fg .u8 192 (IntKind.wrap .u8 (a / 64))),(fg .u8 128 (gP .u8 (IntKind.wrap .u8 a) 63))])) else if (decide ((IntKind.wrap .u32 a)<55296)) then nU K n a v2 true else if (decide ((57343:Int)<(IntKind.wrap .u32 a))) then nU K n a v2 (decide ((IntKind.wrap .u32 a)≤65535)) else nU K n a v2 false
def tX(K:Kn)(n:Nat)(a:Int)(v2:ck):Option ck:=if (decide ((IntKind.wrap .u32 a)≤127)) then aE (fits (v2.length+([(IntKind.wrap .u8 a)]:ck).length) 1) (some (v2++[(IntKind.wrap .u8 a)])) else (uX K n a v2).bind fun b=>some b
def pw(K:Kn)(n:Nat)(b:Int)(v2:Bool)(a:ck):Option (Int×Unit×ck):=if v2 then (tX K n b a).bind fun v4=>some ((aa ((v4.length:Int)-(a.length:Int))),(),v4) else (tX K n b a).bind fun v5=>some ((aa ((v5.length:Int)-(a.length:Int))),(),v5)
def nX(K:Kn)(n:Nat)(a v2:Int):Option Int:=(l5 K n a).bind fun b=>(qh K n v2).bind fun v4=>some (aa (Int.tdiv (aa ((aa (b*v4))+15)) 16))
def sH(K:Kn)(n:Nat)(a:ByteArray)(v2:Int)(b:Int→Nat→Option Int)(v5:Int)(v6:Nat):Option Int:=if decide (v6<a.size)=true then (nX K n ((Utf8.decode a v6).1:Int) v2).bind fun c=>b (aa (v5+c)) (v6+(Utf8.decode a v6).2) else some v5
def uJ(K:Kn)(n:Nat)(a:ByteArray)(v2:Int):Nat→Int→Nat→Option Int
 | 0=>fun _ _=>none
 | m+1=>sH K n a v2 (uJ K n a v2 m)
def qQ(K:Kn)(n:Nat)(a:ByteArray)(v2:Int):Option Int:=uJ K n a v2 n 0 0
def zT(K:Kn)(n:Nat)(v6:ck)(a:aI)(c:ByteArray)(d:Int):Option az:=(qQ K n c a.FontSize).bind fun e=>(ow K n a).bind fun b=>some ({ cR with Text:=(bytesOf v6),Width:=e,Space:=d,Above:=b.1,Below:=b.2 }:az)
def ym(K:Kn)(n:Nat)(v6:ck)(a:aI)(c:ByteArray)(d:Int):Option az:=(qQ K n c a.FontSize).bind fun e=>(ow K n a).bind fun b=>some ({ cR with Text:=(bytesOf v6),Width:=e,Space:=d,Above:=b.1,Below:=b.2 }:az)
def uT(K:Kn)(n:Nat)(a:d6)(v6:ck)(j:Bool):Option az:=if j then aE (aP (0:Int) a.length) ((some (((List.getD a (0:Int).toNat default).Box).Style)).bind fun b=>aE (pk v6) (aE (aP (aa ((a.length:Int)-1)) a.length) ((some ((List.getD a ((aa ((a.length:Int)-1))).toNat default).Soft)).bind fun d=>if d then aE (cQ (0:Int) (aa (((bytesOf v6).size:Int)-1)) (bytesOf v6).size) ((some (ByteArray.extract (bytesOf v6) (0:Int).toNat ((aa (((bytesOf v6).size:Int)-1))).toNat)).bind fun e=>(nX K n 32 b.FontSize).bind fun f=>zT K n v6 b e f) else zT K n v6 b (bytesOf v6) 0))) else aE (aP (0:Int) a.length) ((some (((List.getD a (0:Int).toNat default).Box).Style)).bind fun c=>aE (pk v6) (aE (aP (aa ((a.length:Int)-1)) a.length) ((some ((List.getD a ((aa ((a.length:Int)-1))).toNat default).Soft)).bind fun g=>if g then aE (cQ (0:Int) (aa (((bytesOf v6).size:Int)-1)) (bytesOf v6).size) ((some (ByteArray.extract (bytesOf v6) (0:Int).toNat ((aa (((bytesOf v6).size:Int)-1))).toNat)).bind fun h=>(nX K n 32 c.FontSize).bind fun i=>ym K n v6 c h i) else ym K n v6 c (bytesOf v6) 0)))
def rR(K:Kn)(n:Nat)(a:d6)(b:Int→Bool→ck→Option az)(v4:Int)(v5:Bool)(v6:ck):Option az:=if v5 then if (decide (v4<(a.length:Int))) then aE (aP v4 a.length) ((pw K n ((List.getD a v4.toNat default).Char) true v6).bind fun c=>b (aa (v4+1)) true c.2.2) else uT K n a v6 true else if (decide (v4<(a.length:Int))) then aE (aP v4 a.length) ((pw K n ((List.getD a v4.toNat default).Char) false v6).bind fun d=>b (aa (v4+1)) true d.2.2) else uT K n a v6 false
def qL(K:Kn)(n:Nat)(a:d6):Nat→Int→Bool→ck→Option az
 | 0=>fun _ _ _=>none
 | m+1=>rR K n a (qL K n a m)
def qJ(K:Kn)(n:Nat)(a:d6):Option az:=qL K n a n 0 false []
def lv(K:Kn)(n:Nat)(v2:Fv)(h:d6)(a:Int)(b:d5)(c:Bool)(i:Int→d5→Option d5)(g:Int)(d:az):Option d5:=(some (((List.getD h a.toNat default).Box).Node)).bind fun e=>(some (((List.getD h a.toNat default).Box).Style)).bind fun f=>aE (fits (b.length+([({ d with Node:=e,Style:=f,Glued:=c }:az)]:d5).length) 536) (i g (b++[({ d with Node:=e,Style:=f,Glued:=c }:az)]))
def lC(K:Kn)(n:Nat)(v2:Fv)(c:d6)(b:Int)(d:d5)(e:Bool)(a:Int)(h:Int→d5→Option d5)(i:Int→Option d5)(f:Bool):Option d5:=if f then i (aa (a+1)) else aE (cQ b a c.length) ((qJ K n (List.drop b.toNat (List.take a.toNat c))).bind fun g=>lv K n v2 c b d e h a g)
def ss(K:Kn)(n:Nat)(v2:Fv)(b:d6)(c:Int)(d:d5)(e:Bool)(f:Int→d5→Option d5)(g:Int→Option d5)(a:Int):Option d5:=if (decide (a<(b.length:Int))) then aE (aP a b.length) (if (((List.getD b a.toNat default).Kind) == 1) then aE (aP a b.length) (if (((List.getD b a.toNat default).Of) == ((List.getD b c.toNat default).Of)) then aE (aP (aa (a-1)) b.length) (aE (aP a b.length) ((li K n (List.getD b ((aa (a-1))).toNat default) (List.getD b a.toNat default)).bind fun h=>lC K n v2 b c d e a f g (!h))) else lC K n v2 b c d e a f g false) else lC K n v2 b c d e a f g false) else lC K n v2 b c d e a f g false
def pY(K:Kn)(n:Nat)(v2:Fv)(e:d6)(a:Int)(b:d5)(c:Bool)(d:Int→d5→Option d5):Nat→Int→Option d5
 | 0=>fun _=>none
 | m+1=>ss K n v2 e a b c d (pY K n v2 e a b c d m)
def pK(K:Kn)(n:Nat)(v2:Fv)(d:d6)(a:Int)(b:d5)(e:Int→d5→Option d5)(c:Bool):Option d5:=(some (((List.getD d a.toNat default).Kind) == 2)).bind fun f=>if f then lv K n v2 d a b c e (aa (a+1)) ({ cR with Forced:=true }:az) else (some (((List.getD d a.toNat default).Kind) == 3)).bind fun g=>if g then (K.uD v2 ((List.getD d a.toNat default).Box)).bind fun h=>lv K n v2 d a b c e (aa (a+1)) h else pY K n v2 d a b c e n (aa (a+1))
def vi(K:Kn)(n:Nat)(v2:Fv)(b:d6)(d:Int→d5→Option d5)(a:Int)(c:d5):Option d5:=if (decide (a<(b.length:Int))) then aE (aP a b.length) (if (decide (a>0)) then aE (aP (aa (a-1)) b.length) (if (((List.getD b ((aa (a-1))).toNat default).Kind) != 2) then aE (aP (aa (a-1)) b.length) ((li K n (List.getD b ((aa (a-1))).toNat default) (List.getD b a.toNat default)).bind fun e=>pK K n v2 b a c d (!e)) else pK K n v2 b a c d false) else pK K n v2 b a c d false) else some c
def pW(K:Kn)(n:Nat)(v2:Fv)(a:d6):Nat→Int→d5→Option d5
 | 0=>fun _ _=>none
 | m+1=>vi K n v2 a (pW K n v2 a m)
def td(K:Kn)(n:Nat)(a:d4)(v2:Fv):Option d5:=(pS K n a).bind fun b=>pW K n v2 b n 0 []
def BG(K:Kn)(n:Nat)(b:ab)(v2:bD)(c:bu)(v4 v5:Int)(v6:dO):Option (ae×Int×Int×dO):=(jU K n b v2 false false c v4 v5 v6).bind fun a=>some (a.1,a.2.1,a.2.2.1,a.2.2.2)
def CR(K:Kn)(n:Nat)(b:ab)(v2 c:Int):Option Int:=(nE K n b.Style v2 c).bind fun a=>some a
def I7(K:Kn)(n:Nat)(a:ab)(v2:Int)(b:bu):Option Int:=(dQ K n a.Style.Width v2).bind fun v4=>if (!v4.2) then (lP K n a b).bind fun v5=>(gU K n v2).bind fun v6=>(jL K n a.Style v2 0).bind fun c=>(kF K n c).bind fun d=>CR K n a v2 (min (max (aa (v6-d)) v5.1) v5.2) else CR K n a v2 v4.1
def HG(K:Kn)(n:Nat)(a:ab)(v2:Int)(b:bu):Option az:=(I7 K n a v2 b).bind fun v4=>(jL K n a.Style v2 v4).bind fun v5=>none
def zL(K:Kn)(n:Nat)(b:d4)(v2:Int)(a:bu):Option d5:=(td K n b (Fv.c147 v2 a.Layout a.Widths a.Lines a.Spread)).bind fun v4=>some v4
def vc(K:Kn)(n:Nat)(b:d5)(v4:Int)(a:Int→Option Int)(v5:Bool):Option Int:=if v5 then a (aa (v4+1)) else some v4
def tC(K:Kn)(n:Nat)(a:d5)(b:Int→Option Int)(v4:Int):Option Int:=if (decide (v4<(a.length:Int))) then aE (aP v4 a.length) (vc K n a v4 b ((List.getD a v4.toNat default).Glued)) else vc K n a v4 b false
def vJ(K:Kn)(n:Nat)(a:d5):Nat→Int→Option Int
 | 0=>fun _=>none
 | m+1=>tC K n a (vJ K n a m)
def pX(K:Kn)(n:Nat)(a:d5)(v2:Int):Option Int:=vJ K n a n (aa (v2+1))
def oN(K:Kn)(n:Nat)(b:d5)(c:Int→Option Int)(a:Int):Option Int:=if (decide (a≥0)) then aE (aP a b.length) (if (!(List.getD b a.toNat default).Forced) then some a else c (aa (a-1))) else some (-1)
def nI(K:Kn)(n:Nat)(a:d5):Nat→Int→Option Int
 | 0=>fun _=>none
 | m+1=>oN K n a (nI K n a m)
def oS(K:Kn)(n:Nat)(a:d5):Option Int:=nI K n a n (aa ((a.length:Int)-1))
def xu(K:Kn)(n:Nat)(v5:Int):Option Int:=some v5
def wz(K:Kn)(n:Nat)(a:d5)(c:Int→Int→Option Int)(v2 b:Int):Option Int:=if (decide (b<(a.length:Int))) then aE (aP b a.length) (c (aa (v2+(aa (((List.getD a b.toNat default).Width)+((List.getD a b.toNat default).Space))))) (aa (b+1))) else (oS K n a).bind fun v4=>if (decide (v4≥0)) then aE (aP v4 a.length) (xu K n (aa (v2-((List.getD a v4.toNat default).Space)))) else xu K n v2
def sQ(K:Kn)(n:Nat)(a:d5):Nat→Int→Int→Option Int
 | 0=>fun _ _=>none
 | m+1=>wz K n a (sQ K n a m)
def oq(K:Kn)(n:Nat)(a:d5):Option Int:=sQ K n a n 0 0
def Co(K:Kn)(n:Nat)(e:d5)(v2 a:Int)(b:ck)(c:Int)(d:Int→ck→Option ck):Option ck:=d c (b++[a])
def uv(K:Kn)(n:Nat)(d:d5)(v2 a:Int)(e:ck)(b:Int)(h:Int→ck→Option ck)(i:Int→Option ck)(f:Bool):Option ck:=if f then (pX K n d b).bind fun c=>aE (cQ a c d.length) ((oq K n (List.drop a.toNat (List.take c.toNat d))).bind fun g=>if (decide (g>v2)) then Co K n d v2 a e b h else i c) else Co K n d v2 a e b h
def vZ(K:Kn)(n:Nat)(b:d5)(v2 c:Int)(d:ck)(e:Int→ck→Option ck)(f:Int→Option ck)(a:Int):Option ck:=if (decide (a<(b.length:Int))) then aE (aP (aa (a-1)) b.length) (uv K n b v2 c d a e f (!(List.getD b ((aa (a-1))).toNat default).Forced)) else uv K n b v2 c d a e f false
def sI(K:Kn)(n:Nat)(d:d5)(v2 a:Int)(b:ck)(c:Int→ck→Option ck):Nat→Int→Option ck
 | 0=>fun _=>none
 | m+1=>vZ K n d v2 a b c (sI K n d v2 a b c m)
def tL(K:Kn)(n:Nat)(c:d5)(v2:Int)(e:Int→ck→Option ck)(a:Int)(b:ck):Option ck:=if (decide (a<(c.length:Int))) then aE (fits (b.length+([a]:ck).length) 8) ((pX K n c a).bind fun d=>sI K n c v2 a b e n d) else some b
def rM(K:Kn)(n:Nat)(a:d5)(v2:Int):Nat→Int→ck→Option ck
 | 0=>fun _ _=>none
 | m+1=>tL K n a v2 (rM K n a v2 m)
def z6(K:Kn)(n:Nat)(a:d5)(v2:Int):Option ck:=rM K n a v2 n 0 []
def rO(K:Kn)(n:Nat)(b:aI)(v2 a:Int):Option Int:=if (decide (a≥v2)) then some 0 else if (b.TextAlign == 1) then some (aa (Int.tdiv (aa (v2-a)) 2)) else if (b.TextAlign == 2) then some (aa (v2-a)) else some 0
def yQ(K:Kn)(n:Nat)(a:Bool):Option Bool:=some a
def BM(K:Kn)(n:Nat)(a v2:ByteArray):Option Bool:=if (decide ((a.size:Int)≥(v2.size:Int))) then aE (cQ (aa ((a.size:Int)-(v2.size:Int))) (a.size:Int) a.size) (yQ K n ((ByteArray.extract a ((aa ((a.size:Int)-(v2.size:Int)))).toNat ((a.size:Int)).toNat).toList == v2.toList)) else yQ K n false
def Ae(K:Kn)(n:Nat)(a v2:ByteArray):Option Bool:=(BM K n a v2).bind fun b=>some b
def AI(K:Kn)(n:Nat)(e:d5)(v2:aI)(f a:Int)(d:Int→Int→Int→Option ae)(b c:Int):Option ae:=d b c (aa (a+1))
def uI(K:Kn)(n:Nat)(w:d5)(v2:aI)(x v y u q r:Int)(b:az)(s:Int→Int→dn→Option ae)(t:Int→dn→Option ae)(a:Int)(c:dn):Option ae:=if (decide (a<(b.Box.length:Int))) then aE (aP a b.Box.length) ((some ((List.getD b.Box a.toNat default).Kind)).bind fun e=>(some ((List.getD b.Box a.toNat default).Node)).bind fun f=>(some (aa (((List.getD b.Box a.toNat default).X)+q))).bind fun g=>(some ((List.getD b.Box a.toNat default).aA)).bind fun h=>(some ((List.getD b.Box a.toNat default).Text)).bind fun i=>(some ((List.getD b.Box a.toNat default).Style)).bind fun j=>(some ((List.getD b.Box a.toNat default).Before)).bind fun k=>(some ((List.getD b.Box a.toNat default).After)).bind fun d=>(some ((List.getD b.Box a.toNat default).Empty)).bind fun l=>(some ((List.getD b.Box a.toNat default).Kids)).bind fun m=>(gI K n d).bind fun p=>(some (aa (((List.getD b.Box a.toNat default).Y)+(aa ((aa (v-((List.getD b.Box a.toNat default).H)))-p))))).bind fun o=>aE (fits (c.length+([(⟨e,f,g,o,(List.getD b.Box a.toNat default).W,(List.getD b.Box a.toNat default).H,h,i,j,k,d,l,m⟩:ae)]:dn).length) 584) (t (aa (a+1)) (c++[(⟨e,f,g,o,(List.getD b.Box a.toNat default).W,(List.getD b.Box a.toNat default).H,h,i,j,k,d,l,m⟩:ae)]))) else s (aa (q+(aa (b.Width+b.Space)))) (aa (r+1)) c
def tq(K:Kn)(n:Nat)(f:d5)(v2:aI)(g h i a b c:Int)(d:az)(e:Int→Int→dn→Option ae):Nat→Int→dn→Option ae
 | 0=>fun _ _=>none
 | m+1=>uI K n f v2 g h i a b c d e (tq K n f v2 g h i a b c d e m)
def wD(K:Kn)(n:Nat)(g:d5)(v2:aI)(h i j a b c:Int)(d:az)(f:Int→Int→dn→Option ae)(e:dn):Option ae:=tq K n g v2 h i j a b c d f n 0 e
def oc(K:Kn)(n:Nat)(k:d5)(v2:aI)(l h m d b e:Int)(c:dn)(j:Int→Int→dn→Option ae)(a:az):Option ae:=(some (!(a.Text.toList == (⟨#[]⟩:ByteArray).toList))).bind fun i=>if i then (xE K n a.Style.FontSize).bind fun f=>(z5 K n a.Style.FontSize).bind fun g=>aE (fits (c.length+([(⟨3,a.Node,b,(aa (h-f)),(aa (a.Width+a.Space)),g,0,a.Text,a.Style,dA,dA,false,[]⟩:ae)]:dn).length) 584) (wD K n k v2 l h m d b e a j (c++[(⟨3,a.Node,b,(aa (h-f)),(aa (a.Width+a.Space)),g,0,a.Text,a.Style,dA,dA,false,[]⟩:ae)])) else wD K n k v2 l h m d b e a j c
def oT(K:Kn)(n:Nat)(b:d5)(v2:aI)(h i j c d a:Int)(e:dn)(g:Int→Int→dn→Option ae)(f:Bool):Option ae:=if f then aE (cQ (0:Int) (aa ((((List.getD b a.toNat default).Text).size:Int)-1)) ((List.getD b a.toNat default).Text).size) (oc K n b v2 h i j c d a e g ({ (List.getD b a.toNat default)with Text:=(ByteArray.extract ((List.getD b a.toNat default).Text) (0:Int).toNat ((aa ((((List.getD b a.toNat default).Text).size:Int)-1))).toNat),Space:=0 }:az)) else oc K n b v2 h i j c d a e g (List.getD b a.toNat default)
def tN(K:Kn)(n:Nat)(d:d5)(v2:aI)(g f h b:Int)(i:Int→Int→dn→Option ae)(e a:Int)(c:dn):Option ae:=if (decide (a<(d.length:Int))) then aE (aP a d.length) (if (a == b) then (Ae K n ((List.getD d a.toNat default).Text) (⟨#[32]⟩)).bind fun j=>if j then oT K n d v2 g f h b e a c i ((((List.getD d a.toNat default).Style).WhiteSpace) != 2) else oT K n d v2 g f h b e a c i false else oT K n d v2 g f h b e a c i false) else some ({ bT with Kind:=2,W:=g,H:=(aa (f+h)),aA:=f,Style:=v2,Kids:=c }:ae)
def mr(K:Kn)(n:Nat)(b:d5)(v2:aI)(c d e a:Int):Nat→Int→Int→dn→Option ae
 | 0=>fun _ _ _=>none
 | m+1=>tN K n b v2 c d e a (mr K n b v2 c d e a m)
def vh(K:Kn)(n:Nat)(b:d5)(v2:aI)(c:Int)(i:Int→Int→Int→Option ae)(g h a:Int):Option ae:=if (decide (a<(b.length:Int))) then aE (aP a b.length) (if (!(List.getD b a.toNat default).Forced) then AI K n b v2 c a i (max g ((List.getD b a.toNat default).Above)) (max h ((List.getD b a.toNat default).Below)) else AI K n b v2 c a i g h) else (oq K n b).bind fun d=>(rO K n v2 c d).bind fun e=>(oS K n b).bind fun f=>mr K n b v2 c g h f n e 0 []
def sc(K:Kn)(n:Nat)(a:d5)(v2:aI)(b:Int):Nat→Int→Int→Int→Option ae
 | 0=>fun _ _ _=>none
 | m+1=>vh K n a v2 b (sc K n a v2 b m)
def Ca(K:Kn)(n:Nat)(a:d5)(v2:aI)(b:Int):Option ae:=(ow K n v2).bind fun v4=>sc K n a v2 b n v4.1 v4.2 0
def vE(K:Kn)(n:Nat)(v2:aI)(g:Int)(v5:d5)(v6:ck)(f:Int→Int→Int→dn→Option (dn×Int))(b e a:Int)(c:dn):Option (dn×Int):=if (decide (a<e)) then aE (aP a (v6++[(v5.length:Int)]).length) (aE (aP (aa (a+1)) (v6++[(v5.length:Int)]).length) (aE (cQ (List.getD (v6++[(v5.length:Int)]) a.toNat default) (List.getD (v6++[(v5.length:Int)]) ((aa (a+1))).toNat default) v5.length) ((Ca K n (List.drop ((List.getD (v6++[(v5.length:Int)]) a.toNat default)).toNat (List.take ((List.getD (v6++[(v5.length:Int)]) ((aa (a+1))).toNat default)).toNat v5)) v2 (min (max g 0) 1048576)).bind fun d=>aE (fits (c.length+([({ d with Y:=b }:ae)]:dn).length) 584) (f (aa (b+d.H)) e (aa (a+1)) (c++[({ d with Y:=b }:ae)]))))) else some (c,b)
def rU(K:Kn)(n:Nat)(v2:aI)(a:Int)(v5:d5)(v6:ck):Nat→Int→Int→Int→dn→Option (dn×Int)
 | 0=>fun _ _ _ _=>none
 | m+1=>vE K n v2 a v5 v6 (rU K n v2 a v5 v6 m)
def yr(K:Kn)(n:Nat)(b:d4)(v2:aI)(a:Int)(v4:bu):Option (dn×Int):=(zL K n b (min (max a 0) 1048576) v4).bind fun v5=>(z6 K n v5 (min (max a 0) 1048576)).bind fun v6=>aE (fits (v6.length+([(v5.length:Int)]:ck).length) 8) (rU K n v2 a v5 v6 n 0 (aa (((v6++[(v5.length:Int)]).length:Int)-1)) 0 [])
def yt(K:Kn)(n:Nat)(a:d4)(v2:aI)(b:Int)(v4:bu):Option (dn×Int):=(yr K n a v2 b v4).bind fun v5=>some (v5.1,v5.2)
def CK(K:Kn)(n:Nat)(b:ab)(v2:bu)(a:ck):Option (az×ck):=(K.gm v2.Widths b).bind fun v4=>aE (fits (a.length+([v4.2]:ck).length) 8) (some (({ cR with Width:=v4.1 }:az),(a++[v4.2])))
def DJ(K:Kn)(n:Nat)(b:ab)(v2:Int)(a:ck):Option (az×Int×ck):=aE (aP (aa ((aa (v2+1))-1)) a.length) (some (({ cR with Width:=(List.getD a ((aa ((aa (v2+1))-1))).toNat default) }:az),(aa (v2+1)),a))
def lS(K:Kn)(n:Nat)(v2:bu)(v4:d6)(a:Int)(b:d5)(c:Bool)(i:Int→ck→d5→Option (d5×ck))(g:Int)(h:ck)(d:az):Option (d5×ck):=(some (((List.getD v4 a.toNat default).Box).Node)).bind fun e=>(some (((List.getD v4 a.toNat default).Box).Style)).bind fun f=>aE (fits (b.length+([({ d with Node:=e,Style:=f,Glued:=c }:az)]:d5).length) 536) (i g h (b++[({ d with Node:=e,Style:=f,Glued:=c }:az)]))
def lw(K:Kn)(n:Nat)(v2:bu)(v4:d6)(b:Int)(c:ck)(d:d5)(e:Bool)(a:Int)(h:Int→ck→d5→Option (d5×ck))(i:Int→Option (d5×ck))(f:Bool):Option (d5×ck):=if f then i (aa (a+1)) else aE (cQ b a v4.length) ((qJ K n (List.drop b.toNat (List.take a.toNat v4))).bind fun g=>lS K n v2 v4 b d e h a c g)
def s4(K:Kn)(n:Nat)(v2:bu)(v4:d6)(b:Int)(c:ck)(d:d5)(e:Bool)(f:Int→ck→d5→Option (d5×ck))(g:Int→Option (d5×ck))(a:Int):Option (d5×ck):=if (decide (a<(v4.length:Int))) then aE (aP a v4.length) (if (((List.getD v4 a.toNat default).Kind) == 1) then aE (aP a v4.length) (if (((List.getD v4 a.toNat default).Of) == ((List.getD v4 b.toNat default).Of)) then aE (aP (aa (a-1)) v4.length) (aE (aP a v4.length) ((li K n (List.getD v4 ((aa (a-1))).toNat default) (List.getD v4 a.toNat default)).bind fun h=>lw K n v2 v4 b c d e a f g (!h))) else lw K n v2 v4 b c d e a f g false) else lw K n v2 v4 b c d e a f g false) else lw K n v2 v4 b c d e a f g false
def qe(K:Kn)(n:Nat)(v2:bu)(v4:d6)(a:Int)(b:ck)(c:d5)(d:Bool)(e:Int→ck→d5→Option (d5×ck)):Nat→Int→Option (d5×ck)
 | 0=>fun _=>none
 | m+1=>s4 K n v2 v4 a b c d e (qe K n v2 v4 a b c d e m)
def rH(K:Kn)(n:Nat)(v2:bu)(v4:d6)(a:Int)(b:ck)(c:d5)(f:Int→ck→d5→Option (d5×ck))(d:Bool):Option (d5×ck):=(some (((List.getD v4 a.toNat default).Kind) == 2)).bind fun g=>if g then lS K n v2 v4 a c d f (aa (a+1)) b ({ cR with Forced:=true }:az) else (some (((List.getD v4 a.toNat default).Kind) == 3)).bind fun h=>if h then (CK K n ((List.getD v4 a.toNat default).Box) v2 b).bind fun e=>lS K n v2 v4 a c d f (aa (a+1)) e.2 e.1 else qe K n v2 v4 a b c d f n (aa (a+1))
def tk(K:Kn)(n:Nat)(v2:bu)(v4:d6)(d:Int→ck→d5→Option (d5×ck))(a:Int)(b:ck)(c:d5):Option (d5×ck):=if (decide (a<(v4.length:Int))) then aE (aP a v4.length) (if (decide (a>0)) then aE (aP (aa (a-1)) v4.length) (if (((List.getD v4 ((aa (a-1))).toNat default).Kind) != 2) then aE (aP (aa (a-1)) v4.length) ((li K n (List.getD v4 ((aa (a-1))).toNat default) (List.getD v4 a.toNat default)).bind fun e=>rH K n v2 v4 a b c d (!e)) else rH K n v2 v4 a b c d false) else rH K n v2 v4 a b c d false) else some (c,b)
def qE(K:Kn)(n:Nat)(v2:bu)(v4:d6):Nat→Int→ck→d5→Option (d5×ck)
 | 0=>fun _ _ _=>none
 | m+1=>tk K n v2 v4 (qE K n v2 v4 m)
def ux(K:Kn)(n:Nat)(a:d4)(v2:bu)(b:ck):Option (d5×ck):=(pS K n a).bind fun v4=>qE K n v2 v4 n 0 b []
def lR(K:Kn)(n:Nat)(v4:d6)(a:Int)(b:d5)(c:Bool)(j:Int→Int→ck→d5→Option (d5×Int×ck))(g h:Int)(i:ck)(d:az):Option (d5×Int×ck):=(some (((List.getD v4 a.toNat default).Box).Node)).bind fun e=>(some (((List.getD v4 a.toNat default).Box).Style)).bind fun f=>aE (fits (b.length+([({ d with Node:=e,Style:=f,Glued:=c }:az)]:d5).length) 536) (j g h i (b++[({ d with Node:=e,Style:=f,Glued:=c }:az)]))
def lQ(K:Kn)(n:Nat)(v4:d6)(b c:Int)(d:ck)(e:d5)(f:Bool)(a:Int)(i:Int→Int→ck→d5→Option (d5×Int×ck))(j:Int→Option (d5×Int×ck))(g:Bool):Option (d5×Int×ck):=if g then j (aa (a+1)) else aE (cQ b a v4.length) ((qJ K n (List.drop b.toNat (List.take a.toNat v4))).bind fun h=>lR K n v4 b e f i a c d h)
def sn(K:Kn)(n:Nat)(v4:d6)(b c:Int)(d:ck)(e:d5)(f:Bool)(g:Int→Int→ck→d5→Option (d5×Int×ck))(h:Int→Option (d5×Int×ck))(a:Int):Option (d5×Int×ck):=if (decide (a<(v4.length:Int))) then aE (aP a v4.length) (if (((List.getD v4 a.toNat default).Kind) == 1) then aE (aP a v4.length) (if (((List.getD v4 a.toNat default).Of) == ((List.getD v4 b.toNat default).Of)) then aE (aP (aa (a-1)) v4.length) (aE (aP a v4.length) ((li K n (List.getD v4 ((aa (a-1))).toNat default) (List.getD v4 a.toNat default)).bind fun i=>lQ K n v4 b c d e f a g h (!i))) else lQ K n v4 b c d e f a g h false) else lQ K n v4 b c d e f a g h false) else lQ K n v4 b c d e f a g h false
def pO(K:Kn)(n:Nat)(v4:d6)(a b:Int)(c:ck)(d:d5)(e:Bool)(f:Int→Int→ck→d5→Option (d5×Int×ck)):Nat→Int→Option (d5×Int×ck)
 | 0=>fun _=>none
 | m+1=>sn K n v4 a b c d e f (pO K n v4 a b c d e f m)
def pe(K:Kn)(n:Nat)(v4:d6)(a b:Int)(c:ck)(d:d5)(g:Int→Int→ck→d5→Option (d5×Int×ck))(e:Bool):Option (d5×Int×ck):=(some (((List.getD v4 a.toNat default).Kind) == 2)).bind fun h=>if h then lR K n v4 a d e g (aa (a+1)) b c ({ cR with Forced:=true }:az) else (some (((List.getD v4 a.toNat default).Kind) == 3)).bind fun i=>if i then (DJ K n ((List.getD v4 a.toNat default).Box) b c).bind fun f=>lR K n v4 a d e g (aa (a+1)) f.2.1 f.2.2 f.1 else pO K n v4 a b c d e g n (aa (a+1))
def vx(K:Kn)(n:Nat)(v4:d6)(e:Int→Int→ck→d5→Option (d5×Int×ck))(a b:Int)(c:ck)(d:d5):Option (d5×Int×ck):=if (decide (a<(v4.length:Int))) then aE (aP a v4.length) (if (decide (a>0)) then aE (aP (aa (a-1)) v4.length) (if (((List.getD v4 ((aa (a-1))).toNat default).Kind) != 2) then aE (aP (aa (a-1)) v4.length) ((li K n (List.getD v4 ((aa (a-1))).toNat default) (List.getD v4 a.toNat default)).bind fun f=>pe K n v4 a b c d e (!f)) else pe K n v4 a b c d e false) else pe K n v4 a b c d e false) else some (d,b,c)
def qV(K:Kn)(n:Nat)(v4:d6):Nat→Int→Int→ck→d5→Option (d5×Int×ck)
 | 0=>fun _ _ _ _=>none
 | m+1=>vx K n v4 (qV K n v4 m)
def sB(K:Kn)(n:Nat)(a:d4)(v2:Int)(b:ck):Option (d5×Int×ck):=(pS K n a).bind fun v4=>qV K n v4 n 0 v2 b []
def xy(K:Kn)(n:Nat)(v4:d5×ck)(v5:d5×Int×ck)(a:Int)(c:Int→Int→Option em)(b:Int):Option em:=c b a
def Ax(K:Kn)(n:Nat)(v5:d5×Int×ck)(d a:Int)(c:Int→Int→Option em)(b:Int):Option em:=c b a
def qj(K:Kn)(n:Nat)(v5:d5×Int×ck)(g b c a:Int)(f:Int→Int→Option em)(h:Int→Option em)(e:Bool):Option em:=if e then h (aa (a+1)) else aE (cQ c a v5.1.length) ((oq K n (List.drop c.toNat (List.take a.toNat v5.1))).bind fun d=>if (decide (d>b)) then Ax K n v5 g a f d else Ax K n v5 g a f b)
def tu(K:Kn)(n:Nat)(v5:d5×Int×ck)(f b c:Int)(d:Int→Int→Option em)(e:Int→Option em)(a:Int):Option em:=if (decide (a<(v5.1.length:Int))) then aE (aP (aa (a-1)) v5.1.length) (qj K n v5 f b c a d e (!(List.getD v5.1 ((aa (a-1))).toNat default).Forced)) else qj K n v5 f b c a d e false
def tO(K:Kn)(n:Nat)(v5:d5×Int×ck)(d a b:Int)(c:Int→Int→Option em):Nat→Int→Option em
 | 0=>fun _=>none
 | m+1=>tu K n v5 d a b c (tO K n v5 d a b c m)
def sh(K:Kn)(n:Nat)(v5:d5×Int×ck)(c:Int)(d:Int→Int→Option em)(b a:Int):Option em:=if (decide (a<(v5.1.length:Int))) then tO K n v5 c b a d n (aa (a+1)) else some (c,b)
def vX(K:Kn)(n:Nat)(v5:d5×Int×ck)(a:Int):Nat→Int→Int→Option em
 | 0=>fun _ _=>none
 | m+1=>sh K n v5 a (vX K n v5 a m)
def tz(K:Kn)(n:Nat)(v4:d5×ck)(v5:d5×Int×ck)(e:Int→Int→Option em)(d a:Int):Option em:=if (decide (a<(v4.1.length:Int))) then (pX K n v4.1 a).bind fun b=>aE (cQ a b v4.1.length) ((oq K n (List.drop a.toNat (List.take b.toNat v4.1))).bind fun c=>if (decide (c>d)) then xy K n v4 v5 b e c else xy K n v4 v5 b e d) else vX K n v5 d n 0 0
def ud(K:Kn)(n:Nat)(v4:d5×ck)(v5:d5×Int×ck):Nat→Int→Int→Option em
 | 0=>fun _ _=>none
 | m+1=>tz K n v4 v5 (ud K n v4 v5 m)
def xm(K:Kn)(n:Nat)(a:d4)(v2:aI)(b:bu):Option em:=(ux K n a b ([]:ck)).bind fun v4=>(sB K n a 0 v4.2).bind fun v5=>ud K n v4 v5 n 0 0
def z8(K:Kn)(n:Nat)(a:d4)(v2:aI)(b:bu):Option em:=(xm K n a v2 b).bind fun v4=>some (v4.1,v4.2)
def cO:Nat→Bool→Bool→bu
 | 0,_,_=>⟨.bot 43 3,.bot 48 1,.bot 52 1,.bot 54 1⟩
 | d+1,a,v2=>⟨.c43 a (cO d a v2).Layout (cO d a v2).Widths (cO d a v2).Lines (cO d a v2).Spread v2,.c48 (cO d a v2).Layout (cO d a v2).Widths (cO d a v2).Lines (cO d a v2).Spread,.c52 (cO d a v2).Layout (cO d a v2).Widths (cO d a v2).Lines (cO d a v2).Spread,.c54 (cO d a v2).Layout (cO d a v2).Widths (cO d a v2).Lines (cO d a v2).Spread⟩
def ue(K:Kn)(n:Nat)(a v2:Bool):Option bu:=some (cO n a v2)
def yn(K:Kn)(n:Nat)(a v2:ab):Option Bool:=(K.Bx a v2).bind fun b=>some b
def zV(K:Kn)(n:Nat)(v5:Bool):Option Bool:=some v5
def qM(K:Kn)(n:Nat)(a v2:ab):Option Bool:=(oG K n a v2).bind fun b=>if b then zV K n true else (ov K n a.Kids (Fv.c65 v2)).bind fun v4=>zV K n v4
def xt(K:Kn)(n:Nat)(b:ae)(v2:dn)(a:Int→dn→Option ae)(v4:Int)(v5:dn):Option ae:=if (decide (v4<(v2.length:Int))) then aE (aP v4 v5.length) ((K.xr (List.getD v5 v4.toNat default)).bind fun v6=>aE (aP v4 v5.length) (a (aa (v4+1)) (List.set v5 v4.toNat v6))) else some ({ b with Kids:=v5 }:ae)
def t7(K:Kn)(n:Nat)(a:ae)(v2:dn):Nat→Int→dn→Option ae
 | 0=>fun _ _=>none
 | m+1=>xt K n a v2 (t7 K n a v2 m)
def sO(K:Kn)(n:Nat)(a:ae):Option ae:=(qb K n a.Kids).bind fun v2=>t7 K n a v2 n 0 v2
def yI(K:Kn)(n:Nat)(a:ck):Option ck:=om (List.isEmpty a) (aE (fits (([]:ck).length+a.length) 8) (some (([]:ck)++a)))
def qB(K:Kn)(n:Nat)(d:im)(v2:ab)(v6:ck)(a:Int)(c:Int→Option Unit)(b:Bool):Option Unit:=if b then none else (K.vn d (List.getD v2.Kids a.toNat default) v6).bind fun e=>c (aa (a+1))
def yN(K:Kn)(n:Nat)(c:im)(v2:ab)(v6:ck)(b:Int→Option Unit)(a:Int):Option Unit:=if (decide (a<(v2.Kids.length:Int))) then aE (aP a v2.Kids.length) (if (((List.getD v2.Kids a.toNat default).Kind) != 3) then if (((List.getD v2.Kids a.toNat default).Kind) != 4) then qB K n c v2 v6 a b ((((List.getD v2.Kids a.toNat default).Style).Position) == 2) else qB K n c v2 v6 a b false else qB K n c v2 v6 a b false) else some ()
def pd(K:Kn)(n:Nat)(a:im)(v2:ab)(v6:ck):Nat→Int→Option Unit
 | 0=>fun _=>none
 | m+1=>yN K n a v2 v6 (pd K n a v2 v6 m)
def sP(K:Kn)(n:Nat)(a:im)(v2:ab)(v6:ck):Option Unit:=pd K n a v2 v6 n 0
def un(K:Kn)(n:Nat)(a:im)(v2:ab)(b:ck)(v4:Bool):Option Unit:=if v4 then (yI K n b).bind fun v5=>aE (fits (v5.length+([v2.Node]:ck).length) 8) (sP K n a v2 (v5++[v2.Node])) else sP K n a v2 b
def oa(K:Kn)(n:Nat)(a:im)(v2:ab)(b:ck):Option Unit:=if (v2.Node != 0) then un K n a v2 b (v2.Style.Position != 0) else un K n a v2 b false
def BE(K:Kn)(n:Nat)(c:ab)(v2 e:Int)(v4:bu)(v5 v6:Int)(f:dO):Option (ae×Int×Int×dO):=(qt K n c.Style (min (max v2 0) 1048576)).bind fun g=>(BG K n c g v4 v5 v6 f).bind fun b=>(sO K n b.1).bind fun a=>(oa K n ({ R8 with env:=v4 }:im) c []).bind fun d=>some (({ a with H:=(max a.H (min (max e 0) 1048576)) }:ae),b.2.1,b.2.2.1,b.2.2.2)
def A2(K:Kn)(n:Nat)(a:dO)(v2:Fv)(b:Int→Option Int)(v4:Int):Option Int:=if (decide (v4<(a.length:Int))) then aE (aP v4 a.length) ((K.tx v2 (List.getD a v4.toNat default)).bind fun v5=>if v5 then some v4 else b (aa (v4+1))) else some (-1)
def ry(K:Kn)(n:Nat)(a:dO)(v2:Fv):Nat→Int→Option Int
 | 0=>fun _=>none
 | m+1=>A2 K n a v2 (ry K n a v2 m)
def BI(K:Kn)(n:Nat)(a:dO)(v2:Fv):Option Int:=ry K n a v2 n 0
def Aq(K:Kn)(n:Nat)(a:dO)(v2:Fv):Option Bool:=(BI K n a v2).bind fun b=>some (decide (b≥0))
def BN(K:Kn)(n:Nat)(v4:Bool):Option Bool:=some v4
def Am(K:Kn)(n:Nat)(a v2:ay):Option Bool:=if (a.Width == v2.Width) then (oG K n a.Box v2.Box).bind fun b=>BN K n b else BN K n false
def A3(K:Kn)(n:Nat)(d:ab)(e:ae×Int×Int×dO)(a:Int)(c:Int→dO→Option (ae×Int×Int×dO))(b:dO):Option (ae×Int×Int×dO):=c (aa (a+1)) b
def xf(K:Kn)(n:Nat)(f:ab)(c:ae×Int×Int×dO)(a:Int)(b:dO)(e:Int→dO→Option (ae×Int×Int×dO))(d:Bool):Option (ae×Int×Int×dO):=if d then aE (fits (b.length+([(List.getD c.2.2.2 a.toNat default)]:dO).length) 1112) (A3 K n f c a e (b++[(List.getD c.2.2.2 a.toNat default)])) else A3 K n f c a e b
def xp(K:Kn)(n:Nat)(d:ab)(c:ae×Int×Int×dO)(h:Int→dO→Option (ae×Int×Int×dO))(a:Int)(b:dO):Option (ae×Int×Int×dO):=if (decide (a<(c.2.2.2.length:Int))) then aE (aP a c.2.2.2.length) ((Aq K n b (Fv.c39 (List.getD c.2.2.2 a.toNat default))).bind fun e=>if (!e) then (qM K n d ((List.getD c.2.2.2 a.toNat default).Box)).bind fun f=>xf K n d c a b h f else xf K n d c a b h false) else (n9 K n c.1).bind fun g=>some (g,c.2.1,c.2.2.1,b)
def qd(K:Kn)(n:Nat)(a:ab)(b:ae×Int×Int×dO):Nat→Int→dO→Option (ae×Int×Int×dO)
 | 0=>fun _ _=>none
 | m+1=>xp K n a b (qd K n a b m)
def qG(K:Kn)(n:Nat)(a:ab)(v2 b v4 v5:Int)(v6:dO):Option (ae×Int×Int×dO):=(ue K n true true).bind fun c=>(BE K n a v2 b c 0 0 v6).bind fun d=>qd K n a d n 0 []
def tc(K:Kn)(n:Nat)(a:Int):Option ab:=some ({ c9 with Kind:=1,Node:=a,Style:=({ cr with Height:=(⟨1,20⟩:cw) }:aI) }:ab)
def tH(K:Kn)(n:Nat)(a:Bool):Option Bool:=some a
def Ek(K:Kn)(n:Nat):Option Bool:=(tc K n 2).bind fun b=>(tc K n 3).bind fun v2=>(qG K n ({ c9 with Kind:=1,Node:=1,Kids:=[b,v2] }:ab) 100 10 0 0 ([]:dO)).bind fun a=>(tc K n 2).bind fun v4=>(tc K n 4).bind fun v5=>(qG K n ({ c9 with Kind:=1,Node:=1,Kids:=[v4,v5] }:ab) 100 10 a.2.1 a.2.2.1 a.2.2.2).bind fun v6=>if (a.1.H == 40) then if (a.2.1 == 2) then if (v6.2.1 == 1) then tH K n (v6.2.2.1 == 1) else tH K n false else tH K n false else tH K n false
def xb(K:Kn)(n:Nat)(v2:Bool):Option Bool:=some v2
def fS(K:Kn)(n:Nat)(a:cw):Option Bool:=if (decide (a.Value≥(-16777216))) then xb K n (decide (a.Value≤16777216)) else xb K n false
def u0(K:Kn)(n:Nat)(d:h7)(v2 a:Int)(c:Int→Option Bool)(b:Bool):Option Bool:=if b then some false else c (aa (a+1))
def Bc(K:Kn)(n:Nat)(b:h7)(v2 a:Int)(f:Int→Option Bool)(c:Bool):Option Bool:=if c then some false else (fS K n ((((List.getD b a.toNat default).Style).Margin).a3)).bind fun d=>if (!d) then u0 K n b v2 a f true else (fS K n ((((List.getD b a.toNat default).Style).Padding).a3)).bind fun e=>u0 K n b v2 a f (!e)
def zg(K:Kn)(n:Nat)(b:h7)(v2 a:Int)(f:Int→Option Bool)(c:Bool):Option Bool:=if c then some false else (fS K n ((((List.getD b a.toNat default).Style).Margin).a2)).bind fun d=>if (!d) then Bc K n b v2 a f true else (fS K n ((((List.getD b a.toNat default).Style).Padding).a2)).bind fun e=>Bc K n b v2 a f (!e)
def wO(K:Kn)(n:Nat)(b:h7)(v2 a:Int)(f:Int→Option Bool)(c:Bool):Option Bool:=if c then some false else (fS K n ((((List.getD b a.toNat default).Style).Margin).a1)).bind fun d=>if (!d) then zg K n b v2 a f true else (fS K n ((((List.getD b a.toNat default).Style).Padding).a1)).bind fun e=>zg K n b v2 a f (!e)
def eT(K:Kn)(n:Nat)(b:h7)(v2 a:Int)(f:Int→Option Bool)(c:Bool):Option Bool:=if c then some false else (fS K n ((((List.getD b a.toNat default).Style).Margin).a0)).bind fun d=>if (!d) then wO K n b v2 a f true else (fS K n ((((List.getD b a.toNat default).Style).Padding).a0)).bind fun e=>wO K n b v2 a f (!e)
def mZ(K:Kn)(n:Nat)(b:h7)(v2:Int)(c:Int→Option Bool)(a:Int):Option Bool:=if (decide (a<(b.length:Int))) then aE (aP a b.length) (aE (aP a b.length) (if (decide ((((List.getD b a.toNat default).Text).size:Int)>60)) then eT K n b v2 a c true else (fS K n (((List.getD b a.toNat default).Style).Left)).bind fun d=>if (!d) then eT K n b v2 a c true else (fS K n (((List.getD b a.toNat default).Style).Top)).bind fun e=>if (!e) then eT K n b v2 a c true else (fS K n (((List.getD b a.toNat default).Style).Width)).bind fun f=>if (!f) then eT K n b v2 a c true else (fS K n (((List.getD b a.toNat default).Style).Height)).bind fun g=>if (!g) then eT K n b v2 a c true else (fS K n (((List.getD b a.toNat default).Style).MinWidth)).bind fun h=>if (!h) then eT K n b v2 a c true else (fS K n (((List.getD b a.toNat default).Style).MaxWidth)).bind fun i=>if (!i) then eT K n b v2 a c true else (fS K n (((List.getD b a.toNat default).Style).Basis)).bind fun j=>if (!j) then eT K n b v2 a c true else if (decide ((((List.getD b a.toNat default).Style).LineHeight)<0)) then eT K n b v2 a c true else if (decide ((((List.getD b a.toNat default).Style).LineHeight)>65536)) then eT K n b v2 a c true else if (decide ((((List.getD b a.toNat default).Style).FontSize)<0)) then eT K n b v2 a c true else if (decide ((((List.getD b a.toNat default).Style).FontSize)>65536)) then eT K n b v2 a c true else if (decide ((((List.getD b a.toNat default).Style).Grow)<0)) then eT K n b v2 a c true else if (decide ((((List.getD b a.toNat default).Style).Grow)>1048576)) then eT K n b v2 a c true else if (decide ((((List.getD b a.toNat default).Style).Shrink)<0)) then eT K n b v2 a c true else eT K n b v2 a c (decide ((((List.getD b a.toNat default).Style).Shrink)>1048576)))) else some (decide ((b.length:Int)≤v2))
def pV(K:Kn)(n:Nat)(a:h7)(v2:Int):Nat→Int→Option Bool
 | 0=>fun _=>none
 | m+1=>mZ K n a v2 (pV K n a v2 m)
def AR(K:Kn)(n:Nat)(a:h7)(v2:Int):Option Bool:=pV K n a v2 n 0
def sN(K:Kn)(n:Nat)(a:Bool):Option Bool:=some a
def yU(K:Kn)(n:Nat)(a:h7)(v2:List iX)(b:Int→Option Bool)(v4:Int):Option Bool:=if (decide (v4<(v2.length:Int))) then aE (aP v4 v2.length) ((AR K n [(List.getD v2 v4.toNat default).Spec] 1).bind fun v5=>if (!v5) then some false else b (aa (v4+1))) else (AR K n a 12).bind fun v6=>if v6 then if (decide ((a.length:Int)>0)) then sN K n (decide ((v2.length:Int)≤6)) else sN K n false else sN K n false
def vW(K:Kn)(n:Nat)(a:h7)(v2:List iX):Nat→Int→Option Bool
 | 0=>fun _=>none
 | m+1=>yU K n a v2 (vW K n a v2 m)
def DE(K:Kn)(n:Nat)(a:h7)(v2:List iX):Option Bool:=vW K n a v2 n 0
def ng(K:Kn)(n:Nat)(b:h7)(v2:Int)(g:Bool)(a:Int)(d:d4)(f:Int→d4→Option f6)(e:Bool):Option f6:=if e then if g then (K.kW b a).bind fun c=>aE (fits (d.length+([c.1]:d4).length) 520) (f c.2 (d++[c.1])) else aE (aP a b.length) (aE (aP a b.length) (aE (fits (d.length+([({ c9 with Kind:=3,Style:=(List.getD b a.toNat default).Style,Text:=(List.getD b a.toNat default).Text }:ab)]:d4).length) 520) (f (aa (a+1)) (d++[({ c9 with Kind:=3,Style:=(List.getD b a.toNat default).Style,Text:=(List.getD b a.toNat default).Text }:ab)])))) else some ((⟨1,(aa (10+v2)),(List.getD b v2.toNat default).Style,⟨#[]⟩,0,0,d⟩:ab),a)
def nS(K:Kn)(n:Nat)(a:h7)(v2:Int)(d:Bool)(c:Int→d4→Option f6)(b:Int)(e:d4):Option f6:=if (decide (b<(a.length:Int))) then aE (aP b a.length) (ng K n a v2 d b e c (decide (((List.getD a b.toNat default).Depth)>((List.getD a v2.toNat default).Depth)))) else ng K n a v2 d b e c false
def lz(K:Kn)(n:Nat)(a:h7)(v2:Int)(b:Bool):Nat→Int→d4→Option f6
 | 0=>fun _ _=>none
 | m+1=>nS K n a v2 b (lz K n a v2 b m)
def nZ(K:Kn)(n:Nat)(a:h7)(v2:Int)(b:Bool):Option f6:=lz K n a v2 b n (aa (v2+1)) []
def n4(K:Kn)(n:Nat)(a:h7)(v2:Int):Option f6:=aE (aP v2 a.length) (aE (aP v2 a.length) (if (decide ((aa (v2+1))<(a.length:Int))) then aE (aP (aa (v2+1)) a.length) (if (decide (((List.getD a ((aa (v2+1))).toNat default).Depth)>((List.getD a v2.toNat default).Depth))) then aE (aP (aa (v2+1)) a.length) (nZ K n a v2 ((Int.tmod ((List.getD a ((aa (v2+1))).toNat default).Kind) 2) == 0)) else nZ K n a v2 false) else nZ K n a v2 false))
def jD(l:h7)(b:ab)(c:d4)(a:Bool):Option ab:=match a with
 | false=>some { b with Kids:=c }
 | true=>if (decide ((aa (b.Node-10))>0)) then aE (aP (aa (b.Node-10)) l.length) (if ((Int.tmod ((List.getD l ((aa (b.Node-10))).toNat default).Rows) 4) == 1) then some { b with Kind:=6,Kids:=c } else some { b with Kids:=c }) else some { b with Kids:=c }
def kM(f:ab→Option ab):d4→Option d4
 | []=>some []
 | k::r=>(if (k.Kind == 1) then f k else some k).bind fun a=>(kM f r).bind fun b=>some (a::b)
def iJ(l:h7):Nat→ab→Option ab
 | 0,_=>none
 | m+1,b=>(kM (iJ l m) b.Kids).bind fun a=>jD l b a (b.Kids.any fun k=>k.Kind == 1)
def kN(K:Kn)(n:Nat):Nat→h7→Int→Option f6
 | 0,_,_=>none
 | m+1,l,a=>n4 { K with kW:=kN K n m } n l a
def ft(s:cg):cg:=if (s.Style.Position == 2) then { s with Style:={ s.Style with Position:=0 } } else s
def uU(K:Kn)(n:Nat)(a:h7):Option ab:=aE (fits a.length 480) ((kN K n n (a.map ft) 0).bind fun r=>iJ (a.map ft) n r.1)
def xH(K:Kn)(n:Nat)(a v2:ae)(b:Int→Option Bool)(v6:Int):Option Bool:=if (decide (v6<(a.Kids.length:Int))) then aE (aP v6 a.Kids.length) (aE (aP v6 v2.Kids.length) ((K.yg (List.getD a.Kids v6.toNat default) (List.getD v2.Kids v6.toNat default)).bind fun c=>if (!c) then some false else b (aa (v6+1)))) else some true
def sG(K:Kn)(n:Nat)(a v2:ae):Nat→Int→Option Bool
 | 0=>fun _=>none
 | m+1=>xH K n a v2 (sG K n a v2 m)
def gX(K:Kn)(n:Nat)(a v2:ae)(b:Bool):Option Bool:=if b then some false else sG K n a v2 n 0
def ra(K:Kn)(n:Nat)(a v2:ae):Option Bool:=if (a.Kind != v2.Kind) then gX K n a v2 true else if (a.Node != v2.Node) then gX K n a v2 true else if (a.X != v2.X) then gX K n a v2 true else if (a.Y != v2.Y) then gX K n a v2 true else if (a.W != v2.W) then gX K n a v2 true else if (a.H != v2.H) then gX K n a v2 true else if (a.aA != v2.aA) then gX K n a v2 true else if (!(a.Text.toList == v2.Text.toList)) then gX K n a v2 true else if (!(ly a.Style v2.Style)) then gX K n a v2 true else if (!(BC a.Before v2.Before)) then gX K n a v2 true else if (!(BC a.After v2.After)) then gX K n a v2 true else if (!(a.Empty == v2.Empty)) then gX K n a v2 true else gX K n a v2 ((a.Kids.length:Int) != (v2.Kids.length:Int))
def lO(K:Kn)(n:Nat)(a:Int):Option Int:=some (min (max a 0) 1048576)
def s7(K:Kn)(n:Nat)(a:Int):Option Int:=some (min (max a (-1048576)) 1048576)
def gy(K:Kn)(n:Nat)(a:cw)(v2:Int):Option (Int×Bool):=if (a.Kind == 1) then (s7 K n a.Value).bind fun b=>some (b,true) else if (a.Kind == 2) then (lO K n v2).bind fun v4=>(s7 K n (aa (Int.tdiv (aa (v4*(min (max a.Value (-1000000)) 1000000))) 10000))).bind fun v5=>some (v5,true) else some (0,false)
def A4(K:Kn)(n:Nat)(a:aI)(v2 h:Int):Option bD:=(gy K n a.Margin.a0 v2).bind fun v4=>(gy K n a.Padding.a0 v2).bind fun v5=>(lO K n a.Border.a0).bind fun v6=>(gy K n a.Margin.a1 v2).bind fun i=>(gy K n a.Padding.a1 v2).bind fun j=>(lO K n a.Border.a1).bind fun k=>(gy K n a.Margin.a2 v2).bind fun b=>(gy K n a.Padding.a2 v2).bind fun c=>(lO K n a.Border.a2).bind fun d=>(gy K n a.Margin.a3 v2).bind fun e=>(gy K n a.Padding.a3 v2).bind fun f=>(lO K n a.Border.a3).bind fun g=>some (⟨⟨v4.1,i.1,b.1,e.1⟩,⟨v6,k,d,g⟩,⟨(max v5.1 0),(max j.1 0),(max c.1 0),(max f.1 0)⟩,h⟩:bD)
def xg(K:Kn)(n:Nat)(a:bD):Option Int:=some (aa ((aa ((aa ((aa ((aa ((aa (a.Content+a.Margin.a1))+a.Margin.a3))+a.Border.a1))+a.Border.a3))+a.Padding.a1))+a.Padding.a3))
def y3(K:Kn)(n:Nat)(a:Int):Option Int:=some a
def yE(K:Kn)(n:Nat)(a:aI)(v2 v5:Int):Option Int:=(gy K n a.MinWidth v2).bind fun v6=>if v6.2=true then y3 K n (max v5 v6.1) else y3 K n v5
def xG(K:Kn)(n:Nat)(a:aI)(v2 b:Int):Option Int:=(gy K n a.MaxWidth v2).bind fun v4=>if v4.2=true then yE K n a v2 (min (max b 0) (max v4.1 0)) else yE K n a v2 (max b 0)
def qH(K:Kn)(n:Nat)(v4:bD)(b:Int)(a:V4 Int):Option bD:=some ({ v4 with Margin:=a,Content:=b }:bD)
def wV(K:Kn)(n:Nat)(a:Int)(v4:bD)(c b:Int)(d e:Int×Bool)(f:Bool):Option bD:=if f then qH K n v4 c ⟨v4.Margin.a0,(aa ((aa (a-b))-(aa (Int.tdiv (aa (a-b)) 2)))),v4.Margin.a2,(aa (Int.tdiv (aa (a-b)) 2))⟩ else if (!d.2) then qH K n v4 c ⟨v4.Margin.a0,v4.Margin.a1,v4.Margin.a2,(aa (a-b))⟩ else if (!e.2) then qH K n v4 c ⟨v4.Margin.a0,(aa (a-b)),v4.Margin.a2,v4.Margin.a3⟩ else qH K n v4 c v4.Margin
def rW(K:Kn)(n:Nat)(e:aI)(c:Int)(v4:bD)(g:Int):Option bD:=(xG K n e c g).bind fun d=>(xg K n ({ v4 with Content:=d }:bD)).bind fun f=>(gy K n e.Margin.a3 c).bind fun a=>(gy K n e.Margin.a1 c).bind fun b=>if (decide ((aa (c-f))≤0)) then some ({ v4 with Content:=d }:bD) else if (!a.2) then wV K n c v4 d f a b (!b.2) else wV K n c v4 d f a b false
def zU(K:Kn)(n:Nat)(b:aI)(v2:Int):Option bD:=(lO K n v2).bind fun a=>(A4 K n b a 0).bind fun v4=>(gy K n b.Width a).bind fun v5=>if (!v5.2) then (xg K n v4).bind fun v6=>rW K n b a v4 (aa (a-v6)) else rW K n b a v4 v5.1
def zI(K:Kn)(n:Nat)(j:Int)(v6:ab)(k:ae×Int×Int×dO)(l:bu)(c d:Int)(a:ay)(i:Int→Int→Int→Int→dO→Option Bool)(e:Bool)(f g:Int)(h:dO):Option Bool:=if e then some false else aE (rS a.Box.Text (⟨#[120]⟩:ByteArray)) ((kO K n ({ a.Box with Text:=(a.Box.Text++(⟨#[120]⟩:ByteArray)) }:ab) a.Width f g h).bind fun b=>if b.2.1=true then some false else i c (aa (d+1)) b.2.2.1 b.2.2.2.1 b.2.2.2.2)
def wj(K:Kn)(n:Nat)(g:Int)(v6:ab)(a:Int)(f:Int→Int→Int→Int→dO→Option Bool)(b c d:Int)(e:dO):Option Bool:=f b (aa (a+1)) c d e
def xc(K:Kn)(n:Nat)(a:Bool):Option Bool:=some a
def Au(K:Kn)(n:Nat)(h:Int)(v6:ab)(k:Int→Int→Int→Int→dO→Option Bool)(c a d e:Int)(f:dO):Option Bool:=if (decide (a<(v6.Kids.length:Int))) then aE (aP a v6.Kids.length) ((some (((List.getD v6.Kids a.toNat default).Kind) == 3)).bind fun i=>if i then wj K n h v6 a k c d e f else (zU K n v6.Style h).bind fun j=>(kO K n (List.getD v6.Kids a.toNat default) j.Content d e f).bind fun b=>if (!b.2.1) then some false else wj K n h v6 a k (aa (c+1)) b.2.2.1 b.2.2.2.1 b.2.2.2.2) else (kO K n v6 (-5) d e f).bind fun g=>if (!g.2.1) then xc K n ((c == 0) == ((g.2.2.2.2.length:Int) == 0)) else xc K n false
def rh(K:Kn)(n:Nat)(a:Int)(v6:ab):Nat→Int→Int→Int→Int→dO→Option Bool
 | 0=>fun _ _ _ _ _=>none
 | m+1=>Au K n a v6 (rh K n a v6 m)
def xZ(K:Kn)(n:Nat)(k:Int)(v6:ab)(i:ae×Int×Int×dO)(j:bu)(m:Int→Int→Int→Int→dO→Option Bool)(e c f g:Int)(h:dO):Option Bool:=if (decide (c<e)) then aE (aP c (([]:dO)++i.2.2.2).length) ((some (List.getD (([]:dO)++i.2.2.2) c.toNat default)).bind fun b=>(kO K n b.Box b.Width f g h).bind fun a=>if (!a.2.1) then zI K n k v6 i j e c b m true a.2.2.1 a.2.2.2.1 a.2.2.2.2 else aE (Fv.dB j.Layout) ((K.de j.Layout b.Box b.Width a.2.2.1 a.2.2.2.1 a.2.2.2.2).bind fun d=>(ra K n a.1 d.1).bind fun l=>zI K n k v6 i j e c b m (!l) d.2.1 d.2.2.1 d.2.2.2)) else rh K n k v6 n 0 0 f g h
def vb(K:Kn)(n:Nat)(a:Int)(v6:ab)(b:ae×Int×Int×dO)(c:bu):Nat→Int→Int→Int→Int→dO→Option Bool
 | 0=>fun _ _ _ _ _=>none
 | m+1=>xZ K n a v6 b c (vb K n a v6 b c m)
def DK(K:Kn)(n:Nat)(b:h7)(v2:iX)(c:Int):Option Bool:=(Ek K n ).bind fun v4=>if (!v4) then some false else (DE K n b [v2]).bind fun v5=>if (!v5) then some true else (uU K n b).bind fun v6=>(qG K n v6 c 0 0 0 ([]:dO)).bind fun a=>(ue K n false false).bind fun d=>aE (fits (([]:dO).length+a.2.2.2.length) 1112) (vb K n c v6 a d n ((([]:dO)++a.2.2.2).length:Int) 0 a.2.1 a.2.2.1 a.2.2.2)
def KN:Nat→Kn
 | 0=>⟨fun _ _=>none,fun _ _=>none,fun _=>none,fun _ _=>none,fun _ _=>none,fun _=>none,fun _ _ _=>none,fun _ _ _=>none,fun _ _ _=>none,fun _ _ _ _=>none,fun _ _ _=>none,fun _ _ _ _ _ _=>none,fun _ _ _=>none,fun _ _=>none,fun _ _=>none,fun _ _=>none,fun _ _=>none⟩
 | n+1=>⟨fun b c=>ra (KN n) n b c, fun b c=>qM (KN n) n b c, fun b=>n9 (KN n) n b, fun b c=>n4 (KN n) n b c, fun b c=>none, fun b=>sO (KN n) n b, fun b c e=>oa (KN n) n b c e, fun b c e=>mD (KN n) n b c e, fun f b c=>match f with|.fn i=>none|.bot _ _=>none|.c39 a=>none|.c43 a x1_0 x1_1 x1_2 x1_3 d=>none|.c48 x0_0 x0_1 x0_2 x0_3=>none|.c52 x0_0 x0_1 x0_2 x0_3=>none|.c54 x0_0 x0_1 x0_2 x0_3=>none|.c65 a=>none|.c103 a=>none|.c147 a x1_0 x1_1 x1_2 x1_3=>none|.c165 a=>AG (KN n) n b c a|.c172 a=>Az (KN n) n b c a, fun f b c e=>match f with|.fn i=>none|.bot _ _=>none|.c39 a=>none|.c43 a x1_0 x1_1 x1_2 x1_3 d=>none|.c48 x0_0 x0_1 x0_2 x0_3=>none|.c52 x0_0 x0_1 x0_2 x0_3=>yt (KN n) n b c e (⟨x0_0,x0_1,x0_2,x0_3⟩:bu)|.c54 x0_0 x0_1 x0_2 x0_3=>none|.c65 a=>none|.c103 a=>none|.c147 a x1_0 x1_1 x1_2 x1_3=>none|.c165 a=>none|.c172 a=>none, fun f b c=>match f with|.fn i=>none|.bot _ _=>none|.c39 a=>none|.c43 a x1_0 x1_1 x1_2 x1_3 d=>none|.c48 x0_0 x0_1 x0_2 x0_3=>none|.c52 x0_0 x0_1 x0_2 x0_3=>none|.c54 x0_0 x0_1 x0_2 x0_3=>z8 (KN n) n b c (⟨x0_0,x0_1,x0_2,x0_3⟩:bu)|.c65 a=>none|.c103 a=>none|.c147 a x1_0 x1_1 x1_2 x1_3=>none|.c165 a=>none|.c172 a=>none, fun f b c e g h=>match f with|.fn i=>none|.bot _ _=>none|.c39 a=>none|.c43 a x1_0 x1_1 x1_2 x1_3 d=>jM (KN n) n b c a (⟨x1_0,x1_1,x1_2,x1_3⟩:bu) d e g h|.c48 x0_0 x0_1 x0_2 x0_3=>none|.c52 x0_0 x0_1 x0_2 x0_3=>none|.c54 x0_0 x0_1 x0_2 x0_3=>none|.c65 a=>none|.c103 a=>none|.c147 a x1_0 x1_1 x1_2 x1_3=>none|.c165 a=>none|.c172 a=>none, fun f b c=>match f with|.fn i=>if Nat.beq i 27=true then oG (KN n) n b c else none|.bot _ _=>none|.c39 a=>none|.c43 a x1_0 x1_1 x1_2 x1_3 d=>none|.c48 x0_0 x0_1 x0_2 x0_3=>none|.c52 x0_0 x0_1 x0_2 x0_3=>none|.c54 x0_0 x0_1 x0_2 x0_3=>none|.c65 a=>none|.c103 a=>none|.c147 a x1_0 x1_1 x1_2 x1_3=>none|.c165 a=>none|.c172 a=>none, fun f b=>match f with|.fn i=>if Nat.beq i 145=true then vw (KN n) n b else none|.bot _ _=>none|.c39 a=>none|.c43 a x1_0 x1_1 x1_2 x1_3 d=>none|.c48 x0_0 x0_1 x0_2 x0_3=>none|.c52 x0_0 x0_1 x0_2 x0_3=>none|.c54 x0_0 x0_1 x0_2 x0_3=>none|.c65 a=>yn (KN n) n b a|.c103 a=>none|.c147 a x1_0 x1_1 x1_2 x1_3=>none|.c165 a=>none|.c172 a=>none, fun f b=>match f with|.fn i=>none|.bot _ _=>none|.c39 a=>none|.c43 a x1_0 x1_1 x1_2 x1_3 d=>none|.c48 x0_0 x0_1 x0_2 x0_3=>py (KN n) n b (⟨x0_0,x0_1,x0_2,x0_3⟩:bu)|.c52 x0_0 x0_1 x0_2 x0_3=>none|.c54 x0_0 x0_1 x0_2 x0_3=>none|.c65 a=>none|.c103 a=>none|.c147 a x1_0 x1_1 x1_2 x1_3=>none|.c165 a=>none|.c172 a=>none, fun f b=>match f with|.fn i=>none|.bot _ _=>none|.c39 a=>none|.c43 a x1_0 x1_1 x1_2 x1_3 d=>none|.c48 x0_0 x0_1 x0_2 x0_3=>none|.c52 x0_0 x0_1 x0_2 x0_3=>none|.c54 x0_0 x0_1 x0_2 x0_3=>none|.c65 a=>none|.c103 a=>none|.c147 a x1_0 x1_1 x1_2 x1_3=>HG (KN n) n b a (⟨x1_0,x1_1,x1_2,x1_3⟩:bu)|.c165 a=>none|.c172 a=>none, fun f b=>match f with|.fn i=>none|.bot _ _=>none|.c39 a=>Am (KN n) n b a|.c43 a x1_0 x1_1 x1_2 x1_3 d=>none|.c48 x0_0 x0_1 x0_2 x0_3=>none|.c52 x0_0 x0_1 x0_2 x0_3=>none|.c54 x0_0 x0_1 x0_2 x0_3=>none|.c65 a=>none|.c103 a=>none|.c147 a x1_0 x1_1 x1_2 x1_3=>none|.c165 a=>none|.c172 a=>none⟩
end
end Go.Proofs.YtocgkfoifehcbaaGreat

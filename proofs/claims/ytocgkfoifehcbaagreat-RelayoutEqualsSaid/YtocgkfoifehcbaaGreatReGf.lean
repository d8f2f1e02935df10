/- Layer 22z's functions as plain Lean functions: K stands for calls that come back, n bounds the rounds of loops. Made by a program. -/
import Derived.Test.YtocgkfoifehcbaaGreatReGt
namespace Go.Proofs.YtocgkfoifehcbaaGreat
open Go.RowKit
set_option maxRecDepth 20000
set_option linter.all false
noncomputable section
abbrev c6:=List ae
abbrev dt:=List aA
abbrev dO:=List ab
abbrev d4:=List aB
abbrev d6:=List aO
abbrev ed:=List bg
abbrev ee:=List bH
abbrev eq:=ab×Int
abbrev ew:=List aJ
def B7(K:Kn)(n:Nat)(a v2:dO)(c:Fv)(b:Int→Option Bool)(v5:Int):Option Bool:=if (decide (v5<(a.length:Int))) then aE (aN v5 a.length) (aE (aN v5 v2.length) ((K.qZ c (List.getD a v5.toNat default) (List.getD v2 v5.toNat default)).bind fun v6=>if (!v6) then some false else b (aa (v5+1)))) else some true
def xK(K:Kn)(n:Nat)(a v2:dO)(b:Fv):Nat→Int→Option Bool
 | 0=>fun _=>none
 | m+1=>B7 K n a v2 b (xK K n a v2 b m)
def yn(K:Kn)(n:Nat)(a v2:dO)(b:Fv):Option Bool:=if ((a.length:Int) != (v2.length:Int)) then some false else xK K n a v2 b n 0
def lu(K:Kn)(n:Nat)(v4:Bool):Option Bool:=some v4
def ow(K:Kn)(n:Nat)(a v2:ab):Option Bool:=if (a.Kind == v2.Kind) then if (a.Node == v2.Node) then if (j8 a.Style v2.Style) then if (a.Text.toList == v2.Text.toList) then if (a.Rows == v2.Rows) then if (a.Cols == v2.Cols) then (yn K n a.Kids v2.Kids (Fv.fn 27)).bind fun b=>lu K n b else lu K n false else lu K n false else lu K n false else lu K n false else lu K n false else lu K n false
def rd(K:Kn)(n:Nat)(a:c6):Option c6:=nY (List.isEmpty a) (aE (fits (([]:c6).length+a.length) 584) (some (([]:c6)++a)))
def Cw(K:Kn)(n:Nat)(b:ae)(v2:c6)(a:Int→c6→Option ae)(v4:Int)(v5:c6):Option ae:=if (decide (v4<(v2.length:Int))) then aE (aN v4 v5.length) ((K.zL (List.getD v5 v4.toNat default)).bind fun v6=>aE (aN v4 v5.length) (a (aa (v4+1)) (List.set v5 v4.toNat v6))) else some ({ b with Kids:=v5 }:ae)
def xd(K:Kn)(n:Nat)(a:ae)(v2:c6):Nat→Int→c6→Option ae
 | 0=>fun _ _=>none
 | m+1=>Cw K n a v2 (xd K n a v2 m)
def oJ(K:Kn)(n:Nat)(a:ae):Option ae:=(rd K n a.Kids).bind fun v2=>xd K n a v2 n 0 v2
def wz(K:Kn)(n:Nat)(f:ab)(v2 e v4:Int)(v5:dt)(c:Int)(d:Int→Option (ae×Bool×Int×Int×dt))(a:Bool):Option (ae×Bool×Int×Int×dt):=if a then (oJ K n ((List.getD v5 c.toNat default).Fragment)).bind fun b=>some (b,true,e,v4,v5) else d (aa (c+1))
def Bk(K:Kn)(n:Nat)(b:ab)(v2 d v4:Int)(v5:dt)(e:Int→Option (ae×Bool×Int×Int×dt))(a:Int):Option (ae×Bool×Int×Int×dt):=if (decide (a<(v5.length:Int))) then aE (aN a v5.length) (if (((List.getD v5 a.toNat default).Width) == v2) then (ow K n ((List.getD v5 a.toNat default).Box) b).bind fun c=>wz K n b v2 d v4 v5 a e c else wz K n b v2 d v4 v5 a e false) else some (bV,false,d,v4,v5)
def yh(K:Kn)(n:Nat)(a:ab)(v2 b v4:Int)(v5:dt):Nat→Int→Option (ae×Bool×Int×Int×dt)
 | 0=>fun _=>none
 | m+1=>Bk K n a v2 b v4 v5 (yh K n a v2 b v4 v5 m)
def xw(K:Kn)(n:Nat)(a:ab)(v2 b v4:Int)(v5:dt):Option (ae×Bool×Int×Int×dt):=yh K n a v2 b v4 v5 n 0
def B1(K:Kn)(n:Nat)(v6:ae×Bool×Int×Int×dt)(a:Int):Option (ae×Bool×Int×Int×dt):=some (v6.1,v6.2.1,v6.2.2.1,a,v6.2.2.2.2)
def z4(K:Kn)(n:Nat)(a:ab)(v2 b v4:Int)(v5:dt):Option (ae×Bool×Int×Int×dt):=(xw K n a v2 b v4 v5).bind fun v6=>if v6.2.1=true then B1 K n v6 (aa (v6.2.2.2.1+1)) else B1 K n v6 v6.2.2.2.1
def yV(K:Kn)(n:Nat)(a:ab)(v2:Int)(c:ae)(v4 v5:Int)(v6:dt):Option (Int×Int×dt):=(oJ K n c).bind fun b=>aE (fits (v6.length+([(⟨a,v2,b⟩:aA)]:dt).length) 1112) (some ((aa (v4+1)),v5,(v6++[(⟨a,v2,b⟩:aA)])))
def ic(K:Kn)(n:Nat)(a:Int):Option Int:=some (min (max a 0) 1048576)
def tQ(K:Kn)(n:Nat)(v4:Int):Option (Int×Bool):=some ((min (max v4 (-1048576)) 1048576),true)
def dW(K:Kn)(n:Nat)(a:cI)(v2:Int):Option (Int×Bool):=if (a.Kind == 1) then tQ K n a.Value else if (a.Kind == 2) then (ic K n v2).bind fun b=>tQ K n (aa (Int.tdiv (aa (b*(min (max a.Value (-1000000)) 1000000))) 10000)) else some (0,false)
def jF(K:Kn)(n:Nat)(a:aR)(v2 h:Int):Option cf:=(dW K n a.Margin.a0 v2).bind fun v4=>(ic K n a.Border.a0).bind fun v5=>(dW K n a.Padding.a0 v2).bind fun v6=>(dW K n a.Margin.a1 v2).bind fun i=>(ic K n a.Border.a1).bind fun j=>(dW K n a.Padding.a1 v2).bind fun k=>(dW K n a.Margin.a2 v2).bind fun b=>(ic K n a.Border.a2).bind fun c=>(dW K n a.Padding.a2 v2).bind fun d=>(dW K n a.Margin.a3 v2).bind fun e=>(ic K n a.Border.a3).bind fun f=>(dW K n a.Padding.a3 v2).bind fun g=>some (⟨⟨v4.1,i.1,b.1,e.1⟩,⟨v5,j,c,f⟩,⟨(max v6.1 0),(max k.1 0),(max d.1 0),(max g.1 0)⟩,h⟩:cf)
def kQ(K:Kn)(n:Nat)(a:cf):Option Int:=some (aa ((aa ((aa ((aa ((aa ((aa (a.Content+a.Margin.a1))+a.Margin.a3))+a.Border.a1))+a.Border.a3))+a.Padding.a1))+a.Padding.a3))
def vR(K:Kn)(n:Nat)(a:Int):Option Int:=some a
def AK(K:Kn)(n:Nat)(a:aR)(v2 v5:Int):Option Int:=(dW K n a.MinWidth v2).bind fun v6=>if v6.2=true then vR K n (max v5 v6.1) else vR K n v5
def nJ(K:Kn)(n:Nat)(a:aR)(v2 b:Int):Option Int:=(dW K n a.MaxWidth v2).bind fun v4=>if v4.2=true then AK K n a v2 (min (max b 0) (max v4.1 0)) else AK K n a v2 (max b 0)
def pr(K:Kn)(n:Nat)(v4:cf)(b:Int)(a:V4 Int):Option cf:=some ({ v4 with Margin:=a,Content:=b }:cf)
def xo(K:Kn)(n:Nat)(a:Int)(v4:cf)(c b:Int)(d e:Int×Bool)(f:Bool):Option cf:=if f then pr K n v4 c ⟨v4.Margin.a0,(aa ((aa (a-b))-(aa (Int.tdiv (aa (a-b)) 2)))),v4.Margin.a2,(aa (Int.tdiv (aa (a-b)) 2))⟩ else if (!d.2) then pr K n v4 c ⟨v4.Margin.a0,v4.Margin.a1,v4.Margin.a2,(aa (a-b))⟩ else if (!e.2) then pr K n v4 c ⟨v4.Margin.a0,(aa (a-b)),v4.Margin.a2,v4.Margin.a3⟩ else pr K n v4 c v4.Margin
def rZ(K:Kn)(n:Nat)(e:aR)(c:Int)(v4:cf)(g:Int):Option cf:=(nJ K n e c g).bind fun d=>(kQ K n ({ v4 with Content:=d }:cf)).bind fun f=>if (decide ((aa (c-f))≤0)) then some ({ v4 with Content:=d }:cf) else (dW K n e.Margin.a3 c).bind fun a=>(dW K n e.Margin.a1 c).bind fun b=>if (!a.2) then xo K n c v4 d f a b (!b.2) else xo K n c v4 d f a b false
def pS(K:Kn)(n:Nat)(b:aR)(v2:Int):Option cf:=(ic K n v2).bind fun a=>(jF K n b a 0).bind fun v4=>(dW K n b.Width a).bind fun v5=>if (!v5.2) then (kQ K n v4).bind fun v6=>rZ K n b a v4 (aa (a-v6)) else rZ K n b a v4 v5.1
def mY(K:Kn)(n:Nat)(a:Int):Option bj:=some (⟨(max a 0),(min a 0)⟩:bj)
def ng(K:Kn)(n:Nat)(a:cI)(v2 b:Int):Option Int:=(dW K n a v2).bind fun v4=>if v4.2=true then some v4.1 else some b
def vJ(K:Kn)(n:Nat)(v2 g:Int)(v4:Fv)(c a:Int)(b:b7)(e f:Int→b7→Option b7)(d:Bool):Option b7:=if d then aE (aN (aa (a-1)) b.length) (aE (aN a b.length) (aE (aN a b.length) (aE (aN (aa (a-1)) (List.set b a.toNat (List.getD b ((aa (a-1))).toNat default)).length) (f (aa (a-1)) (List.set (List.set b a.toNat (List.getD b ((aa (a-1))).toNat default)) ((aa (a-1))).toNat (List.getD b a.toNat default)))))) else e (aa (c+1)) b
def AY(K:Kn)(n:Nat)(v2 g:Int)(v4:Fv)(c:Int)(e f:Int→b7→Option b7)(a:Int)(b:b7):Option b7:=if (decide (a>v2)) then aE (aN a b.length) (aE (aN (aa (a-1)) b.length) ((K.sE v4 (List.getD b a.toNat default) (List.getD b ((aa (a-1))).toNat default)).bind fun d=>vJ K n v2 g v4 c a b e f (decide (d<0)))) else vJ K n v2 g v4 c a b e f false
def zT(K:Kn)(n:Nat)(v2 c:Int)(v4:Fv)(a:Int)(b:Int→b7→Option b7):Nat→Int→b7→Option b7
 | 0=>fun _ _=>none
 | m+1=>AY K n v2 c v4 a b (zT K n v2 c v4 a b m)
def AW(K:Kn)(n:Nat)(v2 c:Int)(v4:Fv)(d:Int→b7→Option b7)(a:Int)(b:b7):Option b7:=if (decide (a<c)) then zT K n v2 c v4 a d n a b else some b
def rA(K:Kn)(n:Nat)(v2 a:Int)(v4:Fv):Nat→Int→b7→Option b7
 | 0=>fun _ _=>none
 | m+1=>AW K n v2 a v4 (rA K n v2 a v4 m)
def uI(K:Kn)(n:Nat)(a:b7)(v2 b:Int)(v4:Fv):Option b7:=rA K n v2 b v4 n (aa (v2+1)) a
def Hm(K:Kn)(n:Nat)(v2:Int)(d:Fv)(e:b7)(a:Int)(b:Int→Option b7)(c:Option b7):Option b7:=if (decide ((aa (2*a))≤v2)) then none else if (decide ((aa (0+a))<v2)) then none else b (aa (a*2))
def GK(K:Kn)(n:Nat)(v2:Int)(c:Fv)(d:b7)(a:Int)(b:Int→Option b7):Nat→Option b7
 | 0=>none
 | m+1=>Hm K n v2 c d a b (GK K n v2 c d a b m)
def Ek(K:Kn)(n:Nat)(v2:Int)(d:Fv)(b:b7)(c:Int→Option b7)(a:Int):Option b7:=if (decide (a<v2)) then GK K n v2 d b a c n else some b
def Dm(K:Kn)(n:Nat)(v2:Int)(a:Fv)(b:b7):Nat→Int→Option b7
 | 0=>fun _=>none
 | m+1=>Ek K n v2 a b (Dm K n v2 a b m)
def EF(K:Kn)(n:Nat)(v2:Int)(a:Fv)(c:Int→Int→b7→Option b7)(v5 v6:Int)(b:b7):Option b7:=if (decide (v6≤v2)) then (uI K n b v5 v6 a).bind fun d=>c v6 (aa (v6+20)) d else (uI K n b v5 v2 a).bind fun e=>Dm K n v2 a e n 20
def CZ(K:Kn)(n:Nat)(v2:Int)(a:Fv):Nat→Int→Int→b7→Option b7
 | 0=>fun _ _ _=>none
 | m+1=>EF K n v2 a (CZ K n v2 a m)
def CG(K:Kn)(n:Nat)(a:b7)(v2:Int)(b:Fv):Option b7:=CZ K n v2 b n 0 20 a
def lO(K:Kn)(n:Nat)(a:b7)(v2:Fv):Option b7:=(CG K n a (a.length:Int) v2).bind fun b=>some b
def wJ(K:Kn)(n:Nat)(v2:Bool):Option Bool:=some v2
def kg(K:Kn)(n:Nat)(a:ab):Option Bool:=if (a.Kind == 3) then wJ K n true else wJ K n (a.Style.Position != 2)
def rY(K:Kn)(n:Nat)(a:Int):Option Bool:=some (a != a)
def sc(K:Kn)(n:Nat)(a v2:Int):Option Int:=(rY K n a).bind fun b=>(rY K n v2).bind fun v4=>if b then if v4 then some 0 else some (-1) else if v4 then some 1 else if (decide (a<v2)) then some (-1) else if (decide (a>v2)) then some 1 else some 0
def vX(K:Kn)(n:Nat)(b v2:Int)(a:dO):Option Int:=aE (aN b a.length) (aE (aN v2 a.length) ((sc K n (((List.getD a b.toNat default).Style).Order) (((List.getD a v2.toNat default).Style).Order)).bind fun v4=>some v4))
def wL(K:Kn)(n:Nat)(c:dO)(v6:Int)(a:Int→b7→Option b7)(b:b7):Option b7:=a (aa (v6+1)) b
def Eu(K:Kn)(n:Nat)(a:dO)(d:Int→b7→Option b7)(v6:Int)(b:b7):Option b7:=if (decide (v6<(a.length:Int))) then aE (aN v6 a.length) ((kg K n (List.getD a v6.toNat default)).bind fun e=>if e then aE (fits (b.length+([v6]:b7).length) 8) (wL K n a v6 d (b++[v6])) else wL K n a v6 d b) else (lO K n b (Fv.c172 a)).bind fun c=>some c
def wT(K:Kn)(n:Nat)(a:dO):Nat→Int→b7→Option b7
 | 0=>fun _ _=>none
 | m+1=>Eu K n a (wT K n a m)
def vj(K:Kn)(n:Nat)(a:dO):Option b7:=wT K n a n 0 []
def Ej(K:Kn)(n:Nat)(b:ab)(v2:b7)(c:Int→dO→Option dO)(a:Int)(v4:dO):Option dO:=if (decide (a<(v2.length:Int))) then aE (aN a v2.length) (aE (aN (List.getD v2 a.toNat default) b.Kids.length) (aE (fits (v4.length+([(List.getD b.Kids ((List.getD v2 a.toNat default)).toNat default)]:dO).length) 520) (c (aa (a+1)) (v4++[(List.getD b.Kids ((List.getD v2 a.toNat default)).toNat default)])))) else some v4
def zP(K:Kn)(n:Nat)(a:ab)(v2:b7):Nat→Int→dO→Option dO
 | 0=>fun _ _=>none
 | m+1=>Ej K n a v2 (zP K n a v2 m)
def k7(K:Kn)(n:Nat)(a:ab):Option dO:=(vj K n a.Kids).bind fun v2=>zP K n a v2 n 0 []
def gC(K:Kn)(n:Nat)(a:bj):Option Int:=some (aa (a.Pos+a.Neg))
def tK(K:Kn)(n:Nat)(a:ae):Option Int:=if a.Empty=true then some 0 else (gC K n a.After).bind fun v2=>some v2
def iy(K:Kn)(n:Nat)(a v2:Int):Option Int:=some (min (max a 0) v2)
def yQ(K:Kn)(n:Nat)(a:bH):Option bH:=(iy K n a.aC 1048576).bind fun v2=>(iy K n a.Grow 1048576).bind fun b=>(iy K n a.Shrink 1048576).bind fun v4=>(iy K n a.Min 1048576).bind fun v5=>(iy K n a.Max 1048576).bind fun v6=>some (⟨v2,b,v4,v5,(max v6 v5)⟩:bH)
def qh(K:Kn)(n:Nat)(a:bH)(v2:Int):Option Int:=some (min (max v2 a.Min) a.Max)
def tA(K:Kn)(n:Nat)(a:bH):Option Int:=(yQ K n a).bind fun v2=>(qh K n v2 v2.aC).bind fun b=>some b
def xG(K:Kn)(n:Nat)(b v2:Int)(a:b7):Option Int:=aE (aN v2 a.length) (aE (aN b a.length) ((sc K n (List.getD a v2.toNat default) (List.getD a b.toNat default)).bind fun v4=>some v4))
def CL(K:Kn)(n:Nat)(e:b7→Int→Int→b7→Option b7)(b:b7)(d a:Int)(c:b7):Option b7:=if (decide (a<d)) then aE (aN a b.length) (aE (aN (List.getD b a.toNat default) c.length) (aE (aN (List.getD b a.toNat default) c.length) (e b d (aa (a+1)) (List.set c ((List.getD b a.toNat default)).toNat (aa ((List.getD c ((List.getD b a.toNat default)).toNat default)+1)))))) else some c
def ui(K:Kn)(n:Nat):Nat→b7→Int→Int→b7→Option b7
 | 0=>fun _ _ _ _=>none
 | m+1=>CL K n (ui K n m)
def Cv(K:Kn)(n:Nat)(v2:b7)(k i:Int)(l:Int→Int→b7→b7→b7→Option b7)(b a:Int)(c d e:b7):Option b7:=if (decide (a<(v2.length:Int))) then aE (aN a v2.length) ((iy K n (List.getD v2 a.toNat default) 2147483647).bind fun h=>aE ((i != 0)) (aE ((i != 0)) (aE (aN a c.length) (aE (aN a d.length) (aE (aN a e.length) ((some (List.set c a.toNat (aa (Int.tdiv (aa (k*h)) i)))).bind fun f=>(some (List.set d a.toNat (Int.tmod (aa (k*h)) i))).bind fun j=>aE (aN a f.length) (l (aa (b-(List.getD f a.toNat default))) (aa (a+1)) f j (List.set e a.toNat a)))))))) else (lO K n e (Fv.c165 d)).bind fun g=>aE (cD (0:Int) b g.length) (ui K n n (List.drop ((0:Int)).toNat (List.take b.toNat g)) ((List.drop ((0:Int)).toNat (List.take b.toNat g)).length:Int) 0 c)
def sy(K:Kn)(n:Nat)(v2:b7)(a b:Int):Nat→Int→Int→b7→b7→b7→Option b7
 | 0=>fun _ _ _ _ _=>none
 | m+1=>Cv K n v2 a b (sy K n v2 a b m)
def C5(K:Kn)(n:Nat)(v2:b7)(d:Int)(v4 v5 v6:b7)(e:Int→Int→Option b7)(c a:Int):Option b7:=if (decide (a<(v2.length:Int))) then aE (aN a v2.length) ((iy K n (List.getD v2 a.toNat default) 2147483647).bind fun b=>e (aa (c+b)) (aa (a+1))) else if (c == 0) then some v4 else sy K n v2 d c n d 0 v4 v5 v6
def vY(K:Kn)(n:Nat)(v2:b7)(a:Int)(v4 v5 v6:b7):Nat→Int→Int→Option b7
 | 0=>fun _ _=>none
 | m+1=>C5 K n v2 a v4 v5 v6 (vY K n v2 a v4 v5 v6 m)
def xA(K:Kn)(n:Nat)(a:Int)(v2:b7):Option b7:=(iy K n a 2147483647).bind fun b=>aE (fG (v2.length:Int) 8) ((some (List.replicate ((v2.length:Int)).toNat (0:Int))).bind fun v4=>aE (fG (v2.length:Int) 8) ((some (List.replicate ((v2.length:Int)).toNat (0:Int))).bind fun v5=>aE (fG (v2.length:Int) 8) ((some (List.replicate ((v2.length:Int)).toNat (0:Int))).bind fun v6=>vY K n v2 b v4 v5 v6 n 0 0)))
def AR(K:Kn)(n:Nat)(g:ed)(h a:Int)(f:Int→Int→Int→b7→b7→Option (Bool×ed))(b c:Int)(d e:b7):Option (Bool×ed):=f b c (aa (a+1)) d e
def xO(K:Kn)(n:Nat)(d:b7)(e:Int)(f:b7)(a:Int)(c:Int→ed→Option (Bool×ed))(b:ed):Option (Bool×ed):=c (aa (a+1)) b
def ms(K:Kn)(n:Nat)(a:b7)(d:Int)(e:b7)(b:Int)(c:ed)(f:Int)(h:Int→ed→Option (Bool×ed))(g:Bool):Option (Bool×ed):=if g then aE (decide (((List.getD a b.toNat default)).toNat<c.length)) (xO K n a d e b h (List.set (List.set c ((List.getD a b.toNat default)).toNat ({ (List.getD c ((List.getD a b.toNat default)).toNat default)with size:=f }:bg)) ((List.getD a b.toNat default)).toNat ({ (List.getD (List.set c ((List.getD a b.toNat default)).toNat ({ (List.getD c ((List.getD a b.toNat default)).toNat default)with size:=f }:bg)) ((List.getD a b.toNat default)).toNat default)with fixed:=true }:bg))) else xO K n a d e b h c
def B4(K:Kn)(n:Nat)(c:b7)(d:Int)(b:b7)(g:Int→ed→Option (Bool×ed))(a:Int)(e:ed):Option (Bool×ed):=if (decide (a<(c.length:Int))) then aE (aN a c.length) (aE (aN (List.getD c a.toNat default) e.length) (aE (aN a b.length) ((qh K n ((List.getD e ((List.getD c a.toNat default)).toNat default).Item) (List.getD b a.toNat default)).bind fun f=>if (d == 0) then ms K n c d b a e f g true else if (decide (d>0)) then aE (aN a b.length) (if (decide (f>(List.getD b a.toNat default))) then ms K n c d b a e f g true else if (decide (d<0)) then aE (aN a b.length) (ms K n c d b a e f g (decide (f<(List.getD b a.toNat default)))) else ms K n c d b a e f g false) else if (decide (d<0)) then aE (aN a b.length) (ms K n c d b a e f g (decide (f<(List.getD b a.toNat default)))) else ms K n c d b a e f g false))) else some (true,e)
def rR(K:Kn)(n:Nat)(a:b7)(b:Int)(c:b7):Nat→Int→ed→Option (Bool×ed)
 | 0=>fun _ _=>none
 | m+1=>B4 K n a b c (rR K n a b c m)
def Cj(K:Kn)(n:Nat)(e:ed)(i:Int)(b:b7)(h:Int→Int→b7→Option (Bool×ed))(f a:Int)(c:b7):Option (Bool×ed):=if (decide (a<(b.length:Int))) then aE (aN a b.length) (aE (aN (List.getD b a.toNat default) e.length) (aE (aN a c.length) (aE (aN a c.length) ((some (List.set c a.toNat (aa ((((List.getD e ((List.getD b a.toNat default)).toNat default).Item).aC)+(aa (i*(List.getD c a.toNat default))))))).bind fun d=>aE (aN (List.getD b a.toNat default) e.length) (aE (aN a d.length) ((qh K n ((List.getD e ((List.getD b a.toNat default)).toNat default).Item) (List.getD d a.toNat default)).bind fun g=>aE (aN a d.length) (h (aa (f+(aa (g-(List.getD d a.toNat default))))) (aa (a+1)) d))))))) else rR K n b f c n 0 e
def wy(K:Kn)(n:Nat)(b:ed)(c:Int)(a:b7):Nat→Int→Int→b7→Option (Bool×ed)
 | 0=>fun _ _ _=>none
 | m+1=>Cj K n b c a (wy K n b c a m)
def sx(K:Kn)(n:Nat)(e:ed)(f:Int)(a b:b7)(c:Int):Option (Bool×ed):=(xA K n c b).bind fun d=>wy K n e f a n 0 0 d
def BS(K:Kn)(n:Nat)(b:ed)(g:Int)(j:Int→Int→Int→b7→b7→Option (Bool×ed))(d e a:Int)(c f:b7):Option (Bool×ed):=if (decide (a<(b.length:Int))) then aE (aN a b.length) (if (List.getD b a.toNat default).fixed=true then AR K n b g a j (aa (d-((List.getD b a.toNat default).size))) e c f else (some (aa (d-(((List.getD b a.toNat default).Item).aC)))).bind fun h=>(some (aa (e+((List.getD b a.toNat default).factor)))).bind fun i=>aE (fits (c.length+([a]:b7).length) 8) (aE (fits (f.length+([(List.getD b a.toNat default).weight]:b7).length) 8) (AR K n b g a j h i (c++[a]) (f++[(List.getD b a.toNat default).weight])))) else if ((c.length:Int) == 0) then some (false,b) else if (decide (e<1000)) then sx K n b g c f (aa ((aa ((aa (Int.tdiv (max (aa (d*g)) 0) 1000))*e))+(aa (Int.tdiv (aa ((Int.tmod (max (aa (d*g)) 0) 1000)*e)) 1000)))) else sx K n b g c f (max (aa (d*g)) 0)
def wo(K:Kn)(n:Nat)(a:ed)(b:Int):Nat→Int→Int→Int→b7→b7→Option (Bool×ed)
 | 0=>fun _ _ _ _ _=>none
 | m+1=>BS K n a b (wo K n a b m)
def uc(K:Kn)(n:Nat)(a:ed)(v2 b:Int):Option (Bool×ed):=wo K n a b n v2 0 0 [] []
def yb(K:Kn)(n:Nat)(f:Int)(d:ed)(e a:Int)(c:Int→ed→Option b7)(b:ed):Option b7:=c (aa (a+1)) b
def zf(K:Kn)(n:Nat)(f:Int)(c:ed)(d a:Int)(e:Int→ed→Option b7)(b:ed):Option b7:=aE (decide (a.toNat<b.length)) (if (List.getD b a.toNat default).fixed=true then yb K n f c d a e (List.set b a.toNat ({ (List.getD b a.toNat default)with fixed:=true }:bg)) else yb K n f c d a e (List.set b a.toNat ({ (List.getD b a.toNat default)with fixed:=(((List.getD b a.toNat default).factor) == 0) }:bg)))
def Cl(K:Kn)(n:Nat)(b:Bool×ed)(d:Int→b7→Option b7)(a:Int)(c:b7):Option b7:=if (decide (a<(b.2.length:Int))) then aE (aN a b.2.length) (aE (aN a c.length) (d (aa (a+1)) (List.set c a.toNat ((List.getD b.2 a.toNat default).size)))) else some c
def yL(K:Kn)(n:Nat)(a:Bool×ed):Nat→Int→b7→Option b7
 | 0=>fun _ _=>none
 | m+1=>Cl K n a (yL K n a m)
def Bj(K:Kn)(n:Nat)(f b:Int)(e:ed→Option b7)(c:ed):Option b7:=(uc K n c f b).bind fun a=>if a.1=true then e a.2 else aE (fG (a.2.length:Int) 8) ((some (List.replicate ((a.2.length:Int)).toNat (0:Int))).bind fun d=>yL K n a n 0 d)
def s9(K:Kn)(n:Nat)(b a:Int):Nat→ed→Option b7
 | 0=>fun _=>none
 | m+1=>Bj K n b a (s9 K n b a m)
def Cb(K:Kn)(n:Nat)(g:Int)(f:ed)(c:Int)(h:Int→ed→Option b7)(a:Int)(b:ed):Option b7:=if (decide (a<(f.length:Int))) then aE (aN a b.length) (if (decide (c>0)) then (some (List.set (List.set b a.toNat ({ (List.getD b a.toNat default)with factor:=((List.getD b a.toNat default).Item).Grow }:bg)) a.toNat ({ (List.getD (List.set b a.toNat ({ (List.getD b a.toNat default)with factor:=((List.getD b a.toNat default).Item).Grow }:bg)) a.toNat default)with weight:=((List.getD b a.toNat default).Item).Grow }:bg))).bind fun d=>zf K n g f c a h (List.set d a.toNat ({ (List.getD d a.toNat default)with fixed:=(decide ((((List.getD d a.toNat default).Item).aC)>((List.getD d a.toNat default).size))) }:bg)) else (some (List.set (List.set b a.toNat ({ (List.getD b a.toNat default)with factor:=((List.getD b a.toNat default).Item).Shrink }:bg)) a.toNat ({ (List.getD (List.set b a.toNat ({ (List.getD b a.toNat default)with factor:=((List.getD b a.toNat default).Item).Shrink }:bg)) a.toNat default)with weight:=(aa (Int.tdiv (aa ((((List.getD b a.toNat default).Item).aC)*(((List.getD b a.toNat default).Item).Shrink))) 1000)) }:bg))).bind fun e=>zf K n g f c a h (List.set e a.toNat ({ (List.getD e a.toNat default)with fixed:=(decide ((((List.getD e a.toNat default).Item).aC)<((List.getD e a.toNat default).size))) }:bg))) else s9 K n g c n b
def y8(K:Kn)(n:Nat)(c:Int)(a:ed)(b:Int):Nat→Int→ed→Option b7
 | 0=>fun _ _=>none
 | m+1=>Cb K n c a b (y8 K n c a b m)
def tD(K:Kn)(n:Nat)(c:Int)(a:ed)(b:Int):Option b7:=y8 K n c a b n 0 a
def BB(K:Kn)(n:Nat)(d:ee)(g:Int)(i:Int→Int→ed→Option b7)(h b:Int)(a:ed):Option b7:=if (decide (b<(d.length:Int))) then aE (aN b d.length) ((yQ K n (List.getD d b.toNat default)).bind fun e=>(tA K n (List.getD d b.toNat default)).bind fun f=>aE (aN b a.length) ((some (List.set a b.toNat ({ iV with Item:=e,size:=f }:bg))).bind fun c=>aE (aN b c.length) (i (aa (h+((List.getD c b.toNat default).size))) (aa (b+1)) c))) else if (decide (h<g)) then tD K n g a 1 else tD K n g a (-1)
def AG(K:Kn)(n:Nat)(a:ee)(b:Int):Nat→Int→Int→ed→Option b7
 | 0=>fun _ _ _=>none
 | m+1=>BB K n a b (AG K n a b m)
def jy(K:Kn)(n:Nat)(a:ee)(v2:Int):Option b7:=(some (min (max v2 (-1125899906842624)) 1125899906842624)).bind fun b=>aE (fG (a.length:Int) 72) ((some (List.replicate ((a.length:Int)).toNat (iV:bg))).bind fun v4=>AG K n a b n 0 0 v4)
def oA(K:Kn)(n:Nat)(t:ab)(v2:Int)(u:bB)(v:dO)(o p:Int)(i:b7)(j:ee)(k c:b7)(l:c6)(b:ae×Int×Int×dt)(a f g:Int)(s:Int→Int→b7→ee→b7→b7→c6→Int→Int→dt→Option (c6×Int×Int×Int×dt))(h:Int):Option (c6×Int×Int×Int×dt):=aE (fits (j.length+([(⟨h,f,g,0,1048576⟩:bH)]:ee).length) 40) ((some (j++[(⟨h,f,g,0,1048576⟩:bH)])).bind fun q=>aE (fits (k.length+([a]:b7).length) 8) ((gC K n b.1.Before).bind fun d=>(tK K n b.1).bind fun e=>aE (fits (c.length+([(aa ((aa (d+e))+a))]:b7).length) 8) (aE (aN (aa (((c++[(aa ((aa (d+e))+a))]).length:Int)-1)) (c++[(aa ((aa (d+e))+a))]).length) ((some (aa (o-(List.getD (c++[(aa ((aa (d+e))+a))]) ((aa (((c++[(aa ((aa (d+e))+a))]).length:Int)-1))).toNat default)))).bind fun r=>(tA K n (⟨h,f,g,0,1048576⟩:bH)).bind fun m=>aE (fits (i.length+([m]:b7).length) 8) (aE (fits (l.length+([b.1]:c6).length) 584) (s r (aa (p+1)) (i++[m]) q (k++[a]) (c++[(aa ((aa (d+e))+a))]) (l++[b.1]) b.2.1 b.2.2.1 b.2.2.2))))))
def CT(K:Kn)(n:Nat)(f g:b7)(h:c6)(i j:Int)(k:dt)(c:b7)(o:Int→Int→c6→Option (c6×Int×Int×Int×dt))(e a:Int)(d:c6):Option (c6×Int×Int×Int×dt):=if (decide (a<(h.length:Int))) then aE (aN a c.length) (aE (aN a f.length) (aE (aN a d.length) ((some (List.set d a.toNat ({ (List.getD d a.toNat default)with H:=(aa ((List.getD c a.toNat default)+(List.getD f a.toNat default))) }:ae))).bind fun b=>aE (aN a b.length) ((gC K n ((List.getD b a.toNat default).Before)).bind fun l=>aE (aN a b.length) ((some (List.set b a.toNat ({ (List.getD b a.toNat default)with Y:=(aa (e+l)) }:ae))).bind fun m=>aE (aN a c.length) (aE (aN a g.length) (o (aa (e+(aa ((List.getD c a.toNat default)+(List.getD g a.toNat default))))) (aa (a+1)) m))))))) else some (d,e,i,j,k)
def wO(K:Kn)(n:Nat)(a b:b7)(c:c6)(d e:Int)(f:dt)(g:b7):Nat→Int→Int→c6→Option (c6×Int×Int×Int×dt)
 | 0=>fun _ _ _=>none
 | m+1=>CT K n a b c d e f g (wO K n a b c d e f g m)
def jY(K:Kn)(n:Nat)(b c:b7)(a:c6)(d e:Int)(f:dt)(g:b7):Option (c6×Int×Int×Int×dt):=wO K n b c a d e f g n 0 0 a
def DM(K:Kn)(n:Nat)(r:ab)(v2:Int)(s:bB)(c:dO)(x:Int→Int→b7→ee→b7→b7→c6→Int→Int→dt→Option (c6×Int×Int×Int×dt))(g a:Int)(h:b7)(i:ee)(d e:b7)(f:c6)(j k:Int)(l:dt):Option (c6×Int×Int×Int×dt):=if (decide (a<(c.length:Int))) then aE (aN a c.length) ((K.dp s.Layout (List.getD c a.toNat default) v2 j k l).bind fun m=>(jF K n ((List.getD c a.toNat default).Style) v2 0).bind fun b=>(some (aa ((aa ((aa (b.Border.a0+b.Border.a2))+b.Padding.a0))+b.Padding.a2))).bind fun o=>(some (((((List.getD c a.toNat default).Style).Basis).Kind) == 1)).bind fun t=>(some (aa (m.1.H-(aa ((aa ((aa (b.Border.a0+b.Border.a2))+b.Padding.a0))+b.Padding.a2))))).bind fun u=>(some (((List.getD c a.toNat default).Style).Grow)).bind fun p=>(some (((List.getD c a.toNat default).Style).Shrink)).bind fun q=>if t then (ng K n (((List.getD c a.toNat default).Style).Basis) 0 0).bind fun v=>oA K n r v2 s c g a h i d e f m o p q x v else oA K n r v2 s c g a h i d e f m o p q x u) else if (r.Style.Height.Kind == 1) then (jy K n i g).bind fun w=>jY K n d e f j k l w else jY K n d e f j k l h
def lB(K:Kn)(n:Nat)(a:ab)(v2:Int)(b:bB)(c:dO):Nat→Int→Int→b7→ee→b7→b7→c6→Int→Int→dt→Option (c6×Int×Int×Int×dt)
 | 0=>fun _ _ _ _ _ _ _ _ _ _=>none
 | m+1=>DM K n a v2 b c (lB K n a v2 b c m)
def xp(K:Kn)(n:Nat)(a:ab)(v2:Int)(b:bB)(v4 v5:Int)(v6:dt):Option (c6×Int×Int×Int×dt):=(ng K n a.Style.Height 0 0).bind fun c=>(k7 K n a).bind fun d=>lB K n a v2 b d n (max c 0) 0 [] [] [] [] [] v4 v5 v6
def vx(K:Kn)(n:Nat)(d:b7)(v2 v4:Int)(a:Int→Int→b7→Option b7)(b:Int)(c:b7):Option b7:=a b (aa (v4+1)) c
def sD(K:Kn)(n:Nat)(a:b7)(v2 v4:Int)(v5:b7)(v6:Int)(b:Int→Int→b7→Option b7)(c:Bool):Option b7:=if c then aE (fits (v5.length+([v4]:b7).length) 8) (vx K n a v2 v4 b (List.getD a v4.toNat default) (v5++[v4])) else vx K n a v2 v4 b v6 v5
def wj(K:Kn)(n:Nat)(a:b7)(v2:Int)(b:Int→Int→b7→Option b7)(c v4:Int)(v5:b7):Option b7:=if (decide (v4<(a.length:Int))) then aE (aN v4 a.length) ((some (aa (c+(List.getD a v4.toNat default)))).bind fun v6=>if (v4 == 0) then sD K n a v2 v4 v5 v6 b true else sD K n a v2 v4 v5 v6 b (decide (v6>v2))) else some v5
def uq(K:Kn)(n:Nat)(a:b7)(v2:Int):Nat→Int→Int→b7→Option b7
 | 0=>fun _ _ _=>none
 | m+1=>wj K n a v2 (uq K n a v2 m)
def qo(K:Kn)(n:Nat)(a:b7)(v2:Int):Option b7:=uq K n a v2 n 0 0 []
def ww(K:Kn)(n:Nat)(b:ab)(v2:Int)(a:V4 cI):Option ab:=some ({ b with Style:=({ b.Style with Width:=(⟨1,v2⟩:cI),MinWidth:=cm,MaxWidth:=cm,Margin:=a }:aR) }:ab)
def sf(K:Kn)(n:Nat)(b:ab)(v2:Int)(a:V4 cI):Option ab:=(dW K n b.Style.Margin.a3 0).bind fun c=>if (!c.2) then ww K n b v2 ⟨a.a0,a.a1,a.a2,({ cm with Kind:=1 }:cI)⟩ else ww K n b v2 a
def uz(K:Kn)(n:Nat)(a:ab)(v2:Int)(v6:V4 cI):Option ab:=(dW K n a.Style.Margin.a2 0).bind fun b=>if (!b.2) then sf K n a v2 ⟨v6.a0,v6.a1,({ cm with Kind:=1 }:cI),v6.a3⟩ else sf K n a v2 v6
def ve(K:Kn)(n:Nat)(a:ab)(v2:Int)(v4:V4 cI):Option ab:=(dW K n a.Style.Margin.a1 0).bind fun v5=>if (!v5.2) then uz K n a v2 ⟨v4.a0,({ cm with Kind:=1 }:cI),v4.a2,v4.a3⟩ else uz K n a v2 v4
def wE(K:Kn)(n:Nat)(a:ab)(v2:Int):Option ab:=(dW K n a.Style.Margin.a0 0).bind fun b=>if (!b.2) then ve K n a v2 ⟨({ cm with Kind:=1 }:cI),a.Style.Margin.a1,a.Style.Margin.a2,a.Style.Margin.a3⟩ else ve K n a v2 a.Style.Margin
def td(K:Kn)(n:Nat)(o:ab)(v2:Int)(p:bB)(v4 v5:Int)(v6:dt)(q:dO)(a:Int)(d:ee)(b e:b7)(c f g h i:Int)(m:Int→ee→b7→b7→Option (c6×Int×Int×Int×dt))(j:Int):Option (c6×Int×Int×Int×dt):=aE (aN a d.length) ((some (List.set d a.toNat (⟨j,h,i,f,g⟩:bH))).bind fun k=>(tA K n (⟨j,h,i,f,g⟩:bH)).bind fun l=>aE (aN a (List.set b a.toNat c).length) (aE (aN a e.length) (m (aa (a+1)) k (List.set b a.toNat c) (List.set e a.toNat (aa (l+(List.getD (List.set b a.toNat c) a.toNat default)))))))
def z0(K:Kn)(n:Nat)(s:ab)(v2:Int)(k:bB)(v4 v5:Int)(v6:dt)(j:dO)(a:Int)(b:ee)(c d:b7)(e f g h i:Int)(r:Int→ee→b7→b7→Option (c6×Int×Int×Int×dt))(l:Int)(m:Bool):Option (c6×Int×Int×Int×dt):=if (!m) then (K.gI k.Widths (List.getD j a.toNat default)).bind fun o=>(jF K n ((List.getD j a.toNat default).Style) 0 0).bind fun p=>(kQ K n p).bind fun q=>td K n s v2 k v4 v5 v6 j a b c d e f g h i r (aa (o.2-q)) else td K n s v2 k v4 v5 v6 j a b c d e f g h i r l
def ES(K:Kn)(n:Nat)(v2:Int)(y:bB)(u:dO)(x:ee)(t h:b7)(e c:Int)(d:b7)(v:Int→Int→c6→Int→Int→dt→Option (c6×Int×Int×Int×dt))(w:Int→Int→Int→c6→Int→Int→dt→Option (c6×Int×Int×Int×dt))(f i b:Int)(g:c6)(j k:Int)(l:dt):Option (c6×Int×Int×Int×dt):=if (decide (b<(d.length:Int))) then aE (aN b d.length) (aE (aN (aa ((List.getD h c.toNat default)+b)) u.length) ((wE K n (List.getD u ((aa ((List.getD h c.toNat default)+b))).toNat default) (List.getD d b.toNat default)).bind fun o=>(K.dp y.Layout o v2 j k l).bind fun a=>(gC K n a.1.Before).bind fun p=>(tK K n a.1).bind fun q=>(some (max i (aa ((aa (p+a.1.H))+q)))).bind fun r=>(gC K n a.1.Before).bind fun m=>aE (aN (aa ((List.getD h c.toNat default)+b)) t.length) ((some (aa (f+(aa ((List.getD d b.toNat default)+(List.getD t ((aa ((List.getD h c.toNat default)+b))).toNat default)))))).bind fun s=>aE (fits (g.length+([({ a.1 with X:=(aa (a.1.X+f)),Y:=(aa (e+m)) }:ae)]:c6).length) 584) (w s r (aa (b+1)) (g++[({ a.1 with X:=(aa (a.1.X+f)),Y:=(aa (e+m)) }:ae)]) a.2.1 a.2.2.1 a.2.2.2)))) else v (aa (e+i)) (aa (c+1)) g j k l
def tG(K:Kn)(n:Nat)(v2:Int)(h:bB)(i:dO)(d:ee)(e f:b7)(a b:Int)(c:b7)(g:Int→Int→c6→Int→Int→dt→Option (c6×Int×Int×Int×dt)):Nat→Int→Int→Int→c6→Int→Int→dt→Option (c6×Int×Int×Int×dt)
 | 0=>fun _ _ _ _ _ _ _=>none
 | m+1=>ES K n v2 h i d e f a b c g (tG K n v2 h i d e f a b c g m)
def BZ(K:Kn)(n:Nat)(v2:Int)(s:bB)(t:dO)(g:ee)(p h:b7)(i b:Int)(j:c6)(k l:Int)(m:dt)(d:Int)(q:Int→Int→c6→Int→Int→dt→Option (c6×Int×Int×Int×dt))(r:Int→b7→Int→Int→Option (c6×Int×Int×Int×dt))(e:Int)(c:b7)(f a:Int):Option (c6×Int×Int×Int×dt):=if (decide (a<f)) then aE (aN a c.length) (r (aa (e-(List.getD c a.toNat default))) c f (aa (a+1))) else aE (cD (List.getD h b.toNat default) d g.length) ((jy K n (List.drop ((List.getD h b.toNat default)).toNat (List.take d.toNat g)) e).bind fun o=>tG K n v2 s t g p h i b o q n 0 0 0 j k l m)
def uK(K:Kn)(n:Nat)(v2:Int)(l:bB)(o:dO)(h:ee)(i j:b7)(a b:Int)(c:c6)(d e:Int)(f:dt)(g:Int)(k:Int→Int→c6→Int→Int→dt→Option (c6×Int×Int×Int×dt)):Nat→Int→b7→Int→Int→Option (c6×Int×Int×Int×dt)
 | 0=>fun _ _ _ _=>none
 | m+1=>BZ K n v2 l o h i j a b c d e f g k (uK K n v2 l o h i j a b c d e f g k m)
def nf(K:Kn)(n:Nat)(v2:Int)(l:bB)(m:dO)(j:ee)(c d:b7)(e a:Int)(f:c6)(g h:Int)(i:dt)(k:Int→Int→c6→Int→Int→dt→Option (c6×Int×Int×Int×dt))(b:Int):Option (c6×Int×Int×Int×dt):=aE (cD (List.getD d a.toNat default) b c.length) (uK K n v2 l m j c d e a f g h i b k n v2 (List.drop ((List.getD d a.toNat default)).toNat (List.take b.toNat c)) ((List.drop ((List.getD d a.toNat default)).toNat (List.take b.toNat c)).length:Int) 0)
def Ef(K:Kn)(n:Nat)(v2:Int)(m:bB)(k:dO)(i:ee)(j b:b7)(l:Int→Int→c6→Int→Int→dt→Option (c6×Int×Int×Int×dt))(c a:Int)(d:c6)(e f:Int)(g:dt):Option (c6×Int×Int×Int×dt):=if (decide (a<(b.length:Int))) then aE (aN a b.length) ((some (decide ((aa (a+1))<(b.length:Int)))).bind fun h=>if h then aE (aN (aa (a+1)) b.length) (nf K n v2 m k i j b c a d e f g l (List.getD b ((aa (a+1))).toNat default)) else nf K n v2 m k i j b c a d e f g l (k.length:Int)) else some (d,c,e,f,g)
def jz(K:Kn)(n:Nat)(v2:Int)(d:bB)(e:dO)(a:ee)(b c:b7):Nat→Int→Int→c6→Int→Int→dt→Option (c6×Int×Int×Int×dt)
 | 0=>fun _ _ _ _ _ _=>none
 | m+1=>Ef K n v2 d e a b c (jz K n v2 d e a b c m)
def lA(K:Kn)(n:Nat)(v2:Int)(d:bB)(v4 v5:Int)(v6:dt)(e:dO)(a:ee)(b c:b7):Option (c6×Int×Int×Int×dt):=jz K n v2 d e a b c n 0 0 [] v4 v5 v6
def Bx(K:Kn)(n:Nat)(o:ab)(v2:Int)(m:bB)(v4 v5:Int)(v6:dt)(b:dO)(r:Int→ee→b7→b7→Option (c6×Int×Int×Int×dt))(a:Int)(d:ee)(c e:b7):Option (c6×Int×Int×Int×dt):=if (decide (a<(b.length:Int))) then aE (aN a b.length) ((jF K n ((List.getD b a.toNat default).Style) v2 0).bind fun p=>(kQ K n p).bind fun g=>aE (aN a c.length) ((ng K n (((List.getD b a.toNat default).Style).MinWidth) v2 0).bind fun h=>(ng K n (((List.getD b a.toNat default).Style).MaxWidth) v2 1048576).bind fun i=>(some (((List.getD b a.toNat default).Style).Grow)).bind fun j=>(some (((List.getD b a.toNat default).Style).Shrink)).bind fun k=>(dW K n (((List.getD b a.toNat default).Style).Basis) v2).bind fun f=>if (!f.2) then (dW K n (((List.getD b a.toNat default).Style).Width) v2).bind fun l=>z0 K n o v2 m v4 v5 v6 b a d c e g h i j k r l.1 l.2 else z0 K n o v2 m v4 v5 v6 b a d c e g h i j k r f.1 f.2)) else if o.Style.Wrap=true then (qo K n e v2).bind fun q=>lA K n v2 m v4 v5 v6 b d c q else lA K n v2 m v4 v5 v6 b d c [0]
def qM(K:Kn)(n:Nat)(a:ab)(v2:Int)(b:bB)(v4 v5:Int)(v6:dt)(c:dO):Nat→Int→ee→b7→b7→Option (c6×Int×Int×Int×dt)
 | 0=>fun _ _ _ _=>none
 | m+1=>Bx K n a v2 b v4 v5 v6 c (qM K n a v2 b v4 v5 v6 c m)
def Aj(K:Kn)(n:Nat)(c:ab)(v2:Int)(d:bB)(v4 v5:Int)(v6:dt):Option (c6×Int×Int×Int×dt):=(k7 K n c).bind fun a=>aE (fG (a.length:Int) 40) ((some (List.replicate ((a.length:Int)).toNat (kv:bH))).bind fun e=>aE (fG (a.length:Int) 8) ((some (List.replicate ((a.length:Int)).toNat (0:Int))).bind fun f=>aE (fG (a.length:Int) 8) ((some (List.replicate ((a.length:Int)).toNat (0:Int))).bind fun b=>qM K n c v2 d v4 v5 v6 a n 0 e f b)))
def yp(K:Kn)(n:Nat)(a:ae)(b:Int×Bool)(v5:Int):Option ae:=some ({ a with X:=(aa (a.X+b.1)),Y:=v5 }:ae)
def uu(K:Kn)(n:Nat)(a:ae)(v2:Int):Option ae:=if (a.Style.Position != 1) then some a else (dW K n a.Style.Left v2).bind fun b=>if (a.Style.Top.Kind == 1) then (dW K n a.Style.Top 0).bind fun v4=>yp K n a b (aa (a.Y+v4.1)) else yp K n a b a.Y
def Ew(K:Kn)(n:Nat)(m:ab)(e:cf)(p q:bj)(f:c6)(g h:Int)(i:dt)(j k:Int)(o:Int→c6→Option (ae×Int×Int×dt))(a:Int)(b:c6):Option (ae×Int×Int×dt):=if (decide (a<(f.length:Int))) then aE (aN a b.length) (aE (aN a b.length) ((some (List.set b a.toNat ({ (List.getD b a.toNat default)with X:=(aa (((List.getD b a.toNat default).X)+(aa (e.Border.a3+e.Padding.a3)))) }:ae))).bind fun c=>aE (aN a c.length) (aE (aN a c.length) ((some (List.set c a.toNat ({ (List.getD c a.toNat default)with Y:=(aa (((List.getD c a.toNat default).Y)+(aa (e.Border.a0+e.Padding.a0)))) }:ae))).bind fun d=>aE (aN a d.length) ((uu K n (List.getD d a.toNat default) e.Content).bind fun l=>aE (aN a d.length) (o (aa (a+1)) (List.set d a.toNat l))))))) else some ((⟨1,m.Node,e.Margin.a3,0,j,k,0,⟨#[]⟩,m.Style,p,q,false,b⟩:ae),g,h,i)
def yf(K:Kn)(n:Nat)(g:ab)(h:cf)(i j:bj)(a:c6)(b c:Int)(d:dt)(e f:Int):Nat→Int→c6→Option (ae×Int×Int×dt)
 | 0=>fun _ _=>none
 | m+1=>Ew K n g h i j a b c d e f (yf K n g h i j a b c d e f m)
def vh(K:Kn)(n:Nat)(i:ab)(a:cf)(j k:bj)(b:c6)(c d:Int)(e:dt)(f:Int):Option (ae×Int×Int×dt):=(some (aa ((aa ((aa ((aa (a.Content+a.Border.a1))+a.Border.a3))+a.Padding.a1))+a.Padding.a3))).bind fun g=>(some (aa ((aa ((aa ((aa (f+a.Border.a0))+a.Border.a2))+a.Padding.a0))+a.Padding.a2))).bind fun h=>yf K n i a j k b c d e g h n 0 b
def ub(K:Kn)(n:Nat)(e:ab)(h:cf)(i j:bj)(f:Int)(a:c6)(b c:Int)(d:dt):Option (ae×Int×Int×dt):=if (e.Style.Height.Kind == 1) then (ng K n e.Style.Height 0 0).bind fun g=>vh K n e h i j a b c d (max g 0) else vh K n e h i j a b c d (max f 0)
def oH(K:Kn)(n:Nat)(c:ab)(v2:Int)(e:bB)(v4 v5:Int)(v6:dt):Option (ae×Int×Int×dt):=(pS K n c.Style v2).bind fun d=>(mY K n d.Margin.a0).bind fun f=>(mY K n d.Margin.a2).bind fun g=>if (c.Style.Direction == 1) then (xp K n c d.Content e v4 v5 v6).bind fun a=>ub K n c d f g a.2.1 a.1 a.2.2.1 a.2.2.2.1 a.2.2.2.2 else (Aj K n c d.Content e v4 v5 v6).bind fun b=>ub K n c d f g b.2.1 b.1 b.2.2.1 b.2.2.2.1 b.2.2.2.2
def wv(K:Kn)(n:Nat)(a:dO)(v2:Fv)(b:Int→Option Int)(v4:Int):Option Int:=if (decide (v4<(a.length:Int))) then aE (aN v4 a.length) ((K.lR v2 (List.getD a v4.toNat default)).bind fun v5=>if v5 then some v4 else b (aa (v4+1))) else some (-1)
def mG(K:Kn)(n:Nat)(a:dO)(v2:Fv):Nat→Int→Option Int
 | 0=>fun _=>none
 | m+1=>wv K n a v2 (mG K n a v2 m)
def yX(K:Kn)(n:Nat)(a:dO)(v2:Fv):Option Int:=mG K n a v2 n 0
def oX(K:Kn)(n:Nat)(a:dO)(v2:Fv):Option Bool:=(yX K n a v2).bind fun b=>some (decide (b≥0))
def yj(K:Kn)(n:Nat)(d:ab)(c:Int)(b:Int→dO→Option (dO×Bool))(a:dO):Option (dO×Bool):=b (aa (c+1)) a
def A3(K:Kn)(n:Nat)(a:ab)(f:Int→dO→Option (dO×Bool))(b:Int)(c:dO):Option (dO×Bool):=if (decide (b<(a.Kids.length:Int))) then aE (aN b a.Kids.length) ((kg K n (List.getD a.Kids b.toNat default)).bind fun d=>if d then aE (fits (c.length+([(List.getD a.Kids b.toNat default)]:dO).length) 520) (yj K n a b f (c++[(List.getD a.Kids b.toNat default)])) else yj K n a b f c) else (oX K n c (Fv.fn 145)).bind fun e=>some (c,e)
def wB(K:Kn)(n:Nat)(a:ab):Nat→Int→dO→Option (dO×Bool)
 | 0=>fun _ _=>none
 | m+1=>A3 K n a (wB K n a m)
def uj(K:Kn)(n:Nat)(a:ab):Option (dO×Bool):=wB K n a n 0 []
def kF(K:Kn)(n:Nat)(a v2:bj):Option bj:=some (⟨(max a.Pos v2.Pos),(min a.Neg v2.Neg)⟩:bj)
def um(K:Kn)(n:Nat)(h:c6)(a:Int)(b:c6)(c:Int)(i:Int→Bool→Int→bj→bj→c6→Option (c6×Int×bj×bj×Bool))(d:Int)(e:Bool)(f g:bj):Option (c6×Int×bj×bj×Bool):=aE (fits (b.length+([({ (List.getD h a.toNat default)with Y:=c }:ae)]:c6).length) 584) (i d e (aa (a+1)) f g (b++[({ (List.getD h a.toNat default)with Y:=c }:ae)]))
def va(K:Kn)(n:Nat)(c:c6)(a:Int)(d:c6)(g:bj)(b:Int)(f:Int→Bool→Int→bj→bj→c6→Option (c6×Int×bj×bj×Bool))(e:bj):Option (c6×Int×bj×bj×Bool):=um K n c a d b f (aa (b+((List.getD c a.toNat default).H))) false e ((List.getD c a.toNat default).After)
def ud(K:Kn)(n:Nat)(g:c6)(i:Int)(e:Bool)(a:Int)(f:bj)(c:c6)(b:bj)(h:Int→Bool→Int→bj→bj→c6→Option (c6×Int×bj×bj×Bool))(d:Int):Option (c6×Int×bj×bj×Bool):=if (!(List.getD g a.toNat default).Empty) then if e then va K n g a c b d h b else va K n g a c b d h f else um K n g a c d h i e f b
def ro(K:Kn)(n:Nat)(a:Int)(b:Bool)(c:bj)(d:c6)(e:bj):Option (c6×Int×bj×bj×Bool):=some (d,a,e,c,b)
def t8(K:Kn)(n:Nat)(h:c6)(j:Int→Bool→Int→bj→bj→c6→Option (c6×Int×bj×bj×Bool))(b:Int)(a:Bool)(c:Int)(f d:bj)(e:c6):Option (c6×Int×bj×bj×Bool):=if (decide (c<(h.length:Int))) then aE (aN c h.length) ((kF K n d ((List.getD h c.toNat default).Before)).bind fun g=>if (!a) then (gC K n g).bind fun i=>ud K n h b a c f e g j (aa (b+i)) else ud K n h b a c f e g j 0) else if a then ro K n b a d e d else ro K n b a d e f
def kp(K:Kn)(n:Nat)(a:c6):Nat→Int→Bool→Int→bj→bj→c6→Option (c6×Int×bj×bj×Bool)
 | 0=>fun _ _ _ _ _ _=>none
 | m+1=>t8 K n a (kp K n a m)
def lY(K:Kn)(n:Nat)(a:c6):Option (c6×Int×bj×bj×Bool):=kp K n a n 0 true 0 dJ dJ []
def Ey(K:Kn)(n:Nat)(a:cf):Option Int:=some (aa ((aa ((aa (a.Border.a3+a.Padding.a3))+a.Border.a1))+a.Padding.a1))
def rU(K:Kn)(n:Nat)(v2:Bool):Option Bool:=some v2
def tp(K:Kn)(n:Nat)(a:ab):Option Bool:=if (a.Kind == 1) then rU K n true else if (a.Kind == 6) then rU K n true else rU K n (a.Kind == 7)
def xS(K:Kn)(n:Nat)(o:ab)(v2:cf)(p:dO×Bool)(d:c6)(e f:Int)(g:dt)(h:Int)(i j:bj)(k:Bool)(l m a:Int)(c:Int→c6→Option (ae×Int×Int×dt))(b:c6):Option (ae×Int×Int×dt):=c (aa (a+1)) b
def xV(K:Kn)(n:Nat)(q:ab)(v2:cf)(r:dO×Bool)(c:c6)(d e:Int)(f:dt)(g:Int)(h i:bj)(j:Bool)(k l a:Int)(b:c6)(p:Int→c6→Option (ae×Int×Int×dt))(m:Bool):Option (ae×Int×Int×dt):=if m then aE (aN a b.length) ((uu K n (List.getD b a.toNat default) v2.Content).bind fun o=>aE (aN a b.length) (xS K n q v2 r c d e f g h i j k l a p (List.set b a.toNat o))) else xS K n q v2 r c d e f g h i j k l a p b
def Eg(K:Kn)(n:Nat)(q:ab)(v2:cf)(p:dO×Bool)(d:c6)(e f:Int)(g:dt)(h:Int)(i j:bj)(k:Bool)(l m:Int)(s:Int→c6→Option (ae×Int×Int×dt))(a:Int)(b:c6):Option (ae×Int×Int×dt):=if (decide (a<(d.length:Int))) then aE (aN a b.length) (aE (aN a b.length) ((some (List.set b a.toNat ({ (List.getD b a.toNat default)with X:=(aa (((List.getD b a.toNat default).X)+(aa (v2.Border.a3+v2.Padding.a3)))) }:ae))).bind fun c=>aE (aN a c.length) (aE (aN a c.length) ((some (List.set c a.toNat ({ (List.getD c a.toNat default)with Y:=(aa (((List.getD c a.toNat default).Y)+(aa ((aa (v2.Border.a0+v2.Padding.a0))+h)))) }:ae))).bind fun o=>if p.2=true then aE (aN a p.1.length) ((tp K n (List.getD p.1 a.toNat default)).bind fun r=>xV K n q v2 p d e f g h i j k l m a o s r) else xV K n q v2 p d e f g h i j k l m a o s false)))) else some ((⟨1,q.Node,v2.Margin.a3,0,(aa (v2.Content+l)),m,0,⟨#[]⟩,q.Style,i,j,k,b⟩:ae),e,f,g)
def zb(K:Kn)(n:Nat)(k:ab)(v2:cf)(l:dO×Bool)(a:c6)(b c:Int)(d:dt)(e:Int)(f g:bj)(h:Bool)(i j:Int):Nat→Int→c6→Option (ae×Int×Int×dt)
 | 0=>fun _ _=>none
 | m+1=>Eg K n k v2 l a b c d e f g h i j (zb K n k v2 l a b c d e f g h i j m)
def rX(K:Kn)(n:Nat)(l:ab)(v2:cf)(m:dO×Bool)(a:c6)(b c:Int)(d:dt)(e:Int)(f g:bj)(h:Bool)(i:Int):Option (ae×Int×Int×dt):=(Ey K n v2).bind fun j=>(some (aa ((aa ((aa ((aa (i+v2.Border.a0))+v2.Padding.a0))+v2.Border.a2))+v2.Padding.a2))).bind fun k=>zb K n l v2 m a b c d e f g h j k n 0 a
def zg(K:Kn)(n:Nat)(l:ab)(v2:cf)(m:dO×Bool)(a:c6)(b c:Int)(d:dt)(e i:Int)(f g:bj)(h:Bool)(j:Int×Bool)(k:Bool):Option (ae×Int×Int×dt):=if k then rX K n l v2 m a b c d e f g h (max j.1 0) else rX K n l v2 m a b c d e f g h (max i 0)
def ml(K:Kn)(n:Nat)(k:ab)(v2:cf)(l:dO×Bool)(b:c6)(c d:Int)(e:dt)(f g:Int)(h i:bj)(j:Bool):Option (ae×Int×Int×dt):=(dW K n k.Style.Height 0).bind fun a=>if a.2=true then zg K n k v2 l b c d e f g h i j a (k.Style.Height.Kind == 1) else zg K n k v2 l b c d e f g h i j a false
def tr(K:Kn)(n:Nat)(h:ab)(v2:cf)(v4:Bool)(l:dO×Bool)(i:Int)(m:Bool)(o j:bj)(b:c6)(c d:Int)(e:dt)(f:bj)(a:Int)(g:bj)(p:Bool):Option (ae×Int×Int×dt):=if p then (kF K n g f).bind fun k=>ml K n h v2 l b c d e a 0 k k true else if m then if v4 then (kF K n f o).bind fun q=>ml K n h v2 l b c d e a a g q false else ml K n h v2 l b c d e a a g f false else if v4 then (kF K n f j).bind fun r=>ml K n h v2 l b c d e a (aa (i+a)) g r false else (gC K n j).bind fun s=>ml K n h v2 l b c d e a (aa (i+(aa (a+s)))) g f false
def uZ(K:Kn)(n:Nat)(l:ab)(v2:cf)(o v4:Bool)(m:dO×Bool)(b:Int)(a:Bool)(c d:bj)(e:c6)(f g:Int)(h:dt)(i:bj)(j:Int)(k:bj):Option (ae×Int×Int×dt):=if a then if o then tr K n l v2 v4 m b a c d e f g h i j k v4 else tr K n l v2 v4 m b a c d e f g h i j k false else tr K n l v2 v4 m b a c d e f g h i j k false
def xq(K:Kn)(n:Nat)(m:ab)(v2:cf)(o v4:Bool)(p:dO×Bool)(b:Int)(c:Bool)(a d:bj)(e:c6)(f g:Int)(h:dt)(i j:bj)(k:Bool):Option (ae×Int×Int×dt):=if k then (gC K n a).bind fun l=>uZ K n m v2 o v4 p b c a d e f g h j l i else uZ K n m v2 o v4 p b c a d e f g h j 0 i
def rj(K:Kn)(n:Nat)(l:ab)(v2:cf)(k v4:Bool)(o:dO×Bool)(c:Int)(a:Bool)(b d:bj)(e:c6)(f g:Int)(h:dt):Option (ae×Int×Int×dt):=(mY K n v2.Margin.a0).bind fun i=>(mY K n v2.Margin.a2).bind fun j=>if k then (kF K n i b).bind fun m=>uZ K n l v2 k v4 o c a b d e f g h j 0 m else if (!a) then xq K n l v2 k v4 o c a b d e f g h i j true else xq K n l v2 k v4 o c a b d e f g h i j (!v4)
def Bo(K:Kn)(n:Nat)(j:ab)(v2:cf)(k v4:Bool)(v5:bB)(h:dO×Bool)(i:Int→c6→Int→Int→dt→Option (ae×Int×Int×dt))(c:Int)(d:c6)(e f:Int)(g:dt):Option (ae×Int×Int×dt):=if (decide (c<(h.1.length:Int))) then aE (aN c h.1.length) ((K.dp v5.Layout (List.getD h.1 c.toNat default) v2.Content e f g).bind fun a=>aE (fits (d.length+([a.1]:c6).length) 584) (i (aa (c+1)) (d++[a.1]) a.2.1 a.2.2.1 a.2.2.2)) else (lY K n d).bind fun b=>rj K n j v2 k v4 h b.2.1 b.2.2.2.2 b.2.2.1 b.2.2.2.1 b.1 e f g
def si(K:Kn)(n:Nat)(a:ab)(v2:cf)(b v4:Bool)(v5:bB)(c:dO×Bool):Nat→Int→c6→Int→Int→dt→Option (ae×Int×Int×dt)
 | 0=>fun _ _ _ _ _=>none
 | m+1=>Bo K n a v2 b v4 v5 c (si K n a v2 b v4 v5 c m)
def jP(K:Kn)(n:Nat)(c:ab)(v2:cf)(e v4:Bool)(v5:bB)(v6 f:Int)(g:dt):Option (ae×Int×Int×dt):=(uj K n c).bind fun d=>if d.2=true then si K n c v2 e v4 v5 d n 0 [] v6 f g else (K.wW v5.Lines d.1 c.Style v2.Content).bind fun a=>(rd K n a.1).bind fun b=>rj K n c v2 e v4 d a.2 ((b.length:Int) == 0) dJ dJ b v6 f g
def uw(K:Kn)(n:Nat)(b:ab)(c:bB)(v4 v5:Int)(v6:dt)(d:cf)(e f:Bool):Option (ae×Int×Int×dt):=(jP K n b d e f c v4 v5 v6).bind fun a=>some (a.1,a.2.1,a.2.2.1,a.2.2.2)
def oZ(K:Kn)(n:Nat)(a:ab)(c:bB)(v4 v5:Int)(v6:dt)(b:cf)(d:Bool):Option (ae×Int×Int×dt):=if (a.Style.Overflow == 0) then if (b.Border.a2 == 0) then if (b.Padding.a2 == 0) then uw K n a c v4 v5 v6 b d (a.Style.Height.Kind != 1) else uw K n a c v4 v5 v6 b d false else uw K n a c v4 v5 v6 b d false else uw K n a c v4 v5 v6 b d false
def oW(K:Kn)(n:Nat)(a:ab)(v2:Int)(c:bB)(v4 v5:Int)(v6:dt):Option (ae×Int×Int×dt):=(pS K n a.Style v2).bind fun b=>if (a.Style.Overflow == 0) then if (b.Border.a0 == 0) then oZ K n a c v4 v5 v6 b (b.Padding.a0 == 0) else oZ K n a c v4 v5 v6 b false else oZ K n a c v4 v5 v6 b false
def CX(K:Kn)(n:Nat)(a:ae)(b c:Int)(d:dt):Option (ae×Int×Int×dt):=some (a,b,c,d)
def uG(K:Kn)(n:Nat)(f:ab)(v2:Int)(v5:Bool)(a:ae)(c d:Int)(e:dt):Option (ae×Int×Int×dt):=if v5 then aE v5 ((yV K n f v2 a c d e).bind fun b=>CX K n a b.1 b.2.1 b.2.2) else CX K n a c d e
def uv(K:Kn)(n:Nat)(c:ab)(v2:Int)(v4:bB)(v5:Bool)(d e:Int)(f:dt):Option (ae×Int×Int×dt):=if (c.Kind == 6) then (oH K n c v2 v4 d e f).bind fun a=>uG K n c v2 v5 a.1 a.2.1 a.2.2.1 a.2.2.2 else if (c.Kind == 7) then none else if (c.Kind == 5) then none else (oW K n c v2 v4 d e f).bind fun b=>uG K n c v2 v5 b.1 b.2.1 b.2.2.1 b.2.2.2
def jV(K:Kn)(n:Nat)(b:ab)(v2:Int)(c:Bool)(v4:bB)(v5:Bool)(v6 d:Int)(e:dt):Option (ae×Int×Int×dt):=if c then aE c ((z4 K n b v2 v6 d e).bind fun a=>if a.2.1=true then some (a.1,a.2.2.1,a.2.2.2.1,a.2.2.2.2) else uv K n b v2 v4 v5 a.2.2.1 a.2.2.2.1 a.2.2.2.2) else uv K n b v2 v4 v5 v6 d e
def wY(K:Kn)(n:Nat)(a:aR):Option aR:=some a
def s6(K:Kn)(n:Nat)(a:aR):Option aR:=if (a.Padding.a3.Kind == 2) then wY K n ({ a with Padding:=⟨a.Padding.a0,a.Padding.a1,a.Padding.a2,cm⟩ }:aR) else wY K n a
def sd(K:Kn)(n:Nat)(a:aR):Option aR:=if (a.Margin.a3.Kind == 2) then s6 K n ({ a with Margin:=⟨a.Margin.a0,a.Margin.a1,a.Margin.a2,cm⟩ }:aR) else s6 K n a
def s8(K:Kn)(n:Nat)(a:aR):Option aR:=if (a.Padding.a2.Kind == 2) then sd K n ({ a with Padding:=⟨a.Padding.a0,a.Padding.a1,cm,a.Padding.a3⟩ }:aR) else sd K n a
def ul(K:Kn)(n:Nat)(a:aR):Option aR:=if (a.Margin.a2.Kind == 2) then s8 K n ({ a with Margin:=⟨a.Margin.a0,a.Margin.a1,cm,a.Margin.a3⟩ }:aR) else s8 K n a
def vA(K:Kn)(n:Nat)(a:aR):Option aR:=if (a.Padding.a1.Kind == 2) then ul K n ({ a with Padding:=⟨a.Padding.a0,cm,a.Padding.a2,a.Padding.a3⟩ }:aR) else ul K n a
def tM(K:Kn)(n:Nat)(a:aR):Option aR:=if (a.Margin.a1.Kind == 2) then vA K n ({ a with Margin:=⟨a.Margin.a0,cm,a.Margin.a2,a.Margin.a3⟩ }:aR) else vA K n a
def se(K:Kn)(n:Nat)(v6:aR):Option aR:=if (v6.Padding.a0.Kind == 2) then tM K n ({ v6 with Padding:=⟨cm,v6.Padding.a1,v6.Padding.a2,v6.Padding.a3⟩ }:aR) else tM K n v6
def vq(K:Kn)(n:Nat)(v5:aR):Option aR:=if (v5.Margin.a0.Kind == 2) then se K n ({ v5 with Margin:=⟨cm,v5.Margin.a1,v5.Margin.a2,v5.Margin.a3⟩ }:aR) else se K n v5
def ua(K:Kn)(n:Nat)(v4:aR):Option aR:=if (v4.MaxWidth.Kind == 2) then vq K n ({ v4 with MaxWidth:=cm }:aR) else vq K n v4
def vp(K:Kn)(n:Nat)(a:aR):Option aR:=if (a.MinWidth.Kind == 2) then ua K n ({ a with MinWidth:=cm }:aR) else ua K n a
def xy(K:Kn)(n:Nat)(a:aR):Option aR:=if (a.Width.Kind == 2) then vp K n ({ a with Width:=cm }:aR) else vp K n a
def zp(K:Kn)(n:Nat)(a:Int)(v2:aR):Option Int:=(iy K n a 1048576).bind fun b=>(nJ K n v2 0 b).bind fun v4=>(jF K n v2 0 v4).bind fun v5=>(kQ K n v5).bind fun v6=>some v6
def yg(K:Kn)(n:Nat)(e:ab)(v2:bB)(f:aR)(v5:dO)(a:Int)(d:Int→Int→Int→Option eg)(b c:Int):Option eg:=d b c (aa (a+1))
def xH(K:Kn)(n:Nat)(f:ab)(v2:bB)(g:aR)(v5:dO)(a b:Int)(c:Int×Int)(e:Int→Int→Int→Option eg)(d:Int):Option eg:=yg K n f v2 g v5 b e d (aa (a+c.2))
def qm(K:Kn)(n:Nat)(e:aR)(a b:Int):Option eg:=(zp K n a e).bind fun c=>(zp K n b e).bind fun d=>some (c,d)
def D1(K:Kn)(n:Nat)(e:ab)(v2:bB)(f:aR)(v5:dO)(g:Int→Int→Int→Option eg)(c d a:Int):Option eg:=if (decide (a<(v5.length:Int))) then aE (aN a v5.length) ((K.gI v2.Widths (List.getD v5 a.toNat default)).bind fun b=>if (e.Style.Direction == 1) then yg K n e v2 f v5 a g (max c b.1) (max d b.2) else if e.Style.Wrap=true then xH K n e v2 f v5 d a b g (max c b.1) else xH K n e v2 f v5 d a b g (aa (c+b.1))) else qm K n f c d
def AA(K:Kn)(n:Nat)(a:ab)(v2:bB)(b:aR)(v5:dO):Nat→Int→Int→Int→Option eg
 | 0=>fun _ _ _=>none
 | m+1=>D1 K n a v2 b v5 (AA K n a v2 b v5 m)
def tZ(K:Kn)(n:Nat)(a:ab)(v2:bB):Option eg:=(xy K n a.Style).bind fun b=>(dW K n b.Width 0).bind fun v4=>if v4.2=true then qm K n b v4.1 v4.1 else (k7 K n a).bind fun v5=>AA K n a v2 b v5 n 0 0 0
def xP(K:Kn)(n:Nat)(a:aR):Option aR:=some a
def rN(K:Kn)(n:Nat)(a:aR):Option aR:=if (a.Padding.a3.Kind == 2) then xP K n ({ a with Padding:=⟨a.Padding.a0,a.Padding.a1,a.Padding.a2,cm⟩ }:aR) else xP K n a
def sv(K:Kn)(n:Nat)(a:aR):Option aR:=if (a.Margin.a3.Kind == 2) then rN K n ({ a with Margin:=⟨a.Margin.a0,a.Margin.a1,a.Margin.a2,cm⟩ }:aR) else rN K n a
def sn(K:Kn)(n:Nat)(a:aR):Option aR:=if (a.Padding.a2.Kind == 2) then sv K n ({ a with Padding:=⟨a.Padding.a0,a.Padding.a1,cm,a.Padding.a3⟩ }:aR) else sv K n a
def uO(K:Kn)(n:Nat)(a:aR):Option aR:=if (a.Margin.a2.Kind == 2) then sn K n ({ a with Margin:=⟨a.Margin.a0,a.Margin.a1,cm,a.Margin.a3⟩ }:aR) else sn K n a
def uQ(K:Kn)(n:Nat)(a:aR):Option aR:=if (a.Padding.a1.Kind == 2) then uO K n ({ a with Padding:=⟨a.Padding.a0,cm,a.Padding.a2,a.Padding.a3⟩ }:aR) else uO K n a
def uP(K:Kn)(n:Nat)(a:aR):Option aR:=if (a.Margin.a1.Kind == 2) then uQ K n ({ a with Margin:=⟨a.Margin.a0,cm,a.Margin.a2,a.Margin.a3⟩ }:aR) else uQ K n a
def vg(K:Kn)(n:Nat)(v6:aR):Option aR:=if (v6.Padding.a0.Kind == 2) then uP K n ({ v6 with Padding:=⟨cm,v6.Padding.a1,v6.Padding.a2,v6.Padding.a3⟩ }:aR) else uP K n v6
def sT(K:Kn)(n:Nat)(v5:aR):Option aR:=if (v5.Margin.a0.Kind == 2) then vg K n ({ v5 with Margin:=⟨cm,v5.Margin.a1,v5.Margin.a2,v5.Margin.a3⟩ }:aR) else vg K n v5
def tN(K:Kn)(n:Nat)(v4:aR):Option aR:=if (v4.MaxWidth.Kind == 2) then sT K n ({ v4 with MaxWidth:=cm }:aR) else sT K n v4
def ss(K:Kn)(n:Nat)(a:aR):Option aR:=if (a.MinWidth.Kind == 2) then tN K n ({ a with MinWidth:=cm }:aR) else tN K n a
def rL(K:Kn)(n:Nat)(a:aR):Option aR:=if (a.Width.Kind == 2) then ss K n ({ a with Width:=cm }:aR) else ss K n a
def Et(K:Kn)(n:Nat)(v2:bB)(v6:dO×Bool)(g:Int→Int→Int→Option eg)(b c a:Int):Option eg:=if (decide (a<(v6.1.length:Int))) then aE (aN a v6.1.length) ((K.gI v2.Widths (List.getD v6.1 a.toNat default)).bind fun d=>g (max b d.1) (max c d.2) (aa (a+1))) else (ic K n b).bind fun e=>(ic K n c).bind fun f=>some (e,f)
def zA(K:Kn)(n:Nat)(v2:bB)(v6:dO×Bool):Nat→Int→Int→Int→Option eg
 | 0=>fun _ _ _=>none
 | m+1=>Et K n v2 v6 (zA K n v2 v6 m)
def lL(K:Kn)(n:Nat)(a:ab)(v2:bB):Option eg:=(rL K n a.Style).bind fun c=>(dW K n c.Width 0).bind fun v4=>if v4.2=true then (ic K n v4.1).bind fun v5=>some (v5,v5) else (uj K n a).bind fun v6=>if (!v6.2) then (K.xZ v2.Spread v6.1 a.Style).bind fun b=>(ic K n b.1).bind fun d=>(ic K n b.2).bind fun e=>some (d,e) else zA K n v2 v6 n 0 0 0
def AQ(K:Kn)(n:Nat)(b:ab)(v2:bB):Option eg:=(lL K n b v2).bind fun c=>(rL K n b.Style).bind fun v4=>(nJ K n v4 0 c.1).bind fun v5=>(jF K n v4 0 v5).bind fun v6=>(kQ K n v6).bind fun d=>(nJ K n v4 0 c.2).bind fun e=>(jF K n v4 0 e).bind fun f=>(kQ K n f).bind fun a=>some (d,a)
def ql(K:Kn)(n:Nat)(a:ab)(v2:bB):Option eg:=if (a.Kind == 6) then (tZ K n a v2).bind fun b=>some (b.1,b.2) else if (a.Kind == 7) then none else (AQ K n a v2).bind fun v4=>some (v4.1,v4.2)
def rC(K:Kn)(n:Nat)(v2:d6)(a:aO):Option d6:=aE (fits (v2.length+([({ a with Char:=32 }:aO)]:d6).length) 32) (some (v2++[({ a with Char:=32 }:aO)]))
def nh(K:Kn)(n:Nat)(a:aO)(v2:d6)(v6:Bool):Option d6:=if v6 then some v2 else rC K n v2 ({ a with Soft:=true }:aO)
def tX(K:Kn)(n:Nat)(a:aO)(v2:d6)(v5:Bool):Option d6:=if v5 then some v2 else if (!(a.Box.Style.WhiteSpace == 2)) then if ((v2.length:Int) == 0) then nh K n a v2 true else aE (aN (aa ((v2.length:Int)-1)) v2.length) (if (List.getD v2 ((aa ((v2.length:Int)-1))).toNat default).Soft=true then nh K n a v2 true else aE (aN (aa ((v2.length:Int)-1)) v2.length) (nh K n a v2 (((List.getD v2 ((aa ((v2.length:Int)-1))).toNat default).Kind) == 2))) else rC K n v2 a
def vH(K:Kn)(n:Nat)(a:aO)(v2:d6)(v4:Bool):Option d6:=if v4 then rC K n v2 ({ a with Kind:=2 }:aO) else if (a.Box.Style.WhiteSpace == 2) then tX K n a v2 (a.Char == 13) else tX K n a v2 false
def l7(K:Kn)(n:Nat)(a:aO)(v2:d6)(b:Bool):Option d6:=if b then if (a.Box.Style.WhiteSpace == 2) then vH K n a v2 (a.Char == 10) else vH K n a v2 false else aE (fits (v2.length+([a]:d6).length) 32) (some (v2++[a]))
def zE(K:Kn)(n:Nat)(a:aO)(v2:d6):Option d6:=if (a.Char == 9) then l7 K n a v2 true else if (a.Char == 10) then l7 K n a v2 true else if (a.Char == 13) then l7 K n a v2 true else l7 K n a v2 (a.Char == 32)
def mV(K:Kn)(n:Nat)(e:dO)(a:Int)(d:Int→Int→d6→Option (Int×d6))(b:Int)(c:d6):Option (Int×d6):=d (aa (a+1)) b c
def ld(K:Kn)(n:Nat)(e:dO)(a:Int)(d:Int→Int→d6→Option (Int×d6))(b:Int)(c:d6):Option (Int×d6):=mV K n e a d b c
def zz(K:Kn)(n:Nat)(c:dO)(a d:Int)(i:Int→Int→d6→Option (Int×d6))(j:Nat→d6→Option (Int×d6))(b:Nat)(e:d6):Option (Int×d6):=if decide (b<((List.getD c a.toNat default).Text).size)=true then (some ((Utf8.decode ((List.getD c a.toNat default).Text) b).1:Int)).bind fun f=>(some (b+(Utf8.decode ((List.getD c a.toNat default).Text) b).2)).bind fun g=>(zE K n (⟨1,(aa (d+1)),f,false,(List.getD c a.toNat default)⟩:aO) e).bind fun h=>j g h else ld K n c a i (aa (d+1)) e
def Ag(K:Kn)(n:Nat)(d:dO)(a b:Int)(c:Int→Int→d6→Option (Int×d6)):Nat→Nat→d6→Option (Int×d6)
 | 0=>fun _ _=>none
 | m+1=>zz K n d a b c (Ag K n d a b c m)
def wg(K:Kn)(n:Nat)(d:dO)(e:Int→Int→d6→Option (Int×d6))(a b:Int)(c:d6):Option (Int×d6):=if (decide (a<(d.length:Int))) then aE (aN a d.length) ((kg K n (List.getD d a.toNat default)).bind fun g=>if (!g) then mV K n d a e b c else (some (((List.getD d a.toNat default).Kind) == 2)).bind fun h=>if h then (K.Bl ((List.getD d a.toNat default).Kids) (aa (b+1)) c).bind fun f=>ld K n d a e f.1 f.2 else (some (((List.getD d a.toNat default).Kind) == 4)).bind fun i=>if i then aE (fits (c.length+([(⟨2,(aa (b+1)),0,false,(List.getD d a.toNat default)⟩:aO)]:d6).length) 32) (ld K n d a e (aa (b+1)) (c++[(⟨2,(aa (b+1)),0,false,(List.getD d a.toNat default)⟩:aO)])) else (some (((List.getD d a.toNat default).Kind) == 5)).bind fun j=>if j then aE (fits (c.length+([(⟨3,(aa (b+1)),0,false,(List.getD d a.toNat default)⟩:aO)]:d6).length) 32) (ld K n d a e (aa (b+1)) (c++[(⟨3,(aa (b+1)),0,false,(List.getD d a.toNat default)⟩:aO)])) else (some (((List.getD d a.toNat default).Kind) == 3)).bind fun k=>if k then Ag K n d a b e n 0 c else ld K n d a e (aa (b+1)) c) else some (b,c)
def vG(K:Kn)(n:Nat)(a:dO):Nat→Int→Int→d6→Option (Int×d6)
 | 0=>fun _ _ _=>none
 | m+1=>wg K n a (vG K n a m)
def m9(K:Kn)(n:Nat)(a:dO)(v2:Int)(b:d6):Option (Int×d6):=vG K n a n 0 v2 b
def rt(K:Kn)(n:Nat)(a:dO):Option d6:=(m9 K n a 0 ([]:d6)).bind fun v2=>some v2.2
def sa(K:Kn)(n:Nat)(v2:Bool):Option Bool:=some v2
def mO(K:Kn)(n:Nat)(a:aO):Option Bool:=if (a.Kind == 1) then if (a.Box.Style.WhiteSpace != 1) then sa K n (a.Box.Style.WhiteSpace != 2) else sa K n false else sa K n false
def yc(K:Kn)(n:Nat)(v6:Bool):Option Int:=if v6 then some 10 else some 8
def mT(K:Kn)(n:Nat)(a:Int)(v5:Bool):Option Int:=if v5 then some 14 else if (decide (a≥65)) then yc K n (decide (a≤90)) else yc K n false
def gp(K:Kn)(n:Nat)(a:Int)(v4:Bool):Option Int:=if v4 then some 6 else if (a == 37) then mT K n a true else if (a == 64) then mT K n a true else if (a == 77) then mT K n a true else if (a == 87) then mT K n a true else if (a == 109) then mT K n a true else mT K n a (a == 119)
def ij(K:Kn)(n:Nat)(a:Int)(b:Bool):Option Int:=if b then some 4 else if (a == 34) then gp K n a true else if (a == 40) then gp K n a true else if (a == 41) then gp K n a true else if (a == 42) then gp K n a true else if (a == 45) then gp K n a true else if (a == 47) then gp K n a true else if (a == 91) then gp K n a true else if (a == 92) then gp K n a true else if (a == 93) then gp K n a true else if (a == 94) then gp K n a true else if (a == 102) then gp K n a true else if (a == 114) then gp K n a true else if (a == 116) then gp K n a true else if (a == 123) then gp K n a true else gp K n a (a == 125)
def lr(K:Kn)(n:Nat)(a:Int)(v2:Bool):Option Int:=if v2 then some 0 else if (decide (a≥4352)) then some 16 else if (a == 32) then ij K n a true else if (a == 160) then ij K n a true else if (a == 33) then ij K n a true else if (a == 39) then ij K n a true else if (a == 44) then ij K n a true else if (a == 46) then ij K n a true else if (a == 58) then ij K n a true else if (a == 59) then ij K n a true else if (a == 73) then ij K n a true else if (a == 105) then ij K n a true else if (a == 106) then ij K n a true else if (a == 108) then ij K n a true else ij K n a (a == 124)
def lv(K:Kn)(n:Nat)(a:Int):Option Int:=if (decide (a<32)) then lr K n a true else if (decide (a>1114111)) then lr K n a true else if (decide (a≥127)) then if (decide (a≤159)) then lr K n a true else if (decide (a≥768)) then lr K n a (decide (a≤879)) else lr K n a false else if (decide (a≥768)) then lr K n a (decide (a≤879)) else lr K n a false
def qx(K:Kn)(n:Nat)(v2:Bool):Option Bool:=if v2 then some true else some false
def sZ(K:Kn)(n:Nat)(a:Int):Option Bool:=if (a == 9) then qx K n true else if (a == 10) then qx K n true else if (a == 13) then qx K n true else qx K n (a == 32)
def wK(K:Kn)(n:Nat)(a:Bool):Option Bool:=some a
def yI(K:Kn)(n:Nat)(a v2:Int)(b:Bool):Option Bool:=if b then some true else if (decide (a≥11904)) then wK K n true else wK K n (decide (v2≥11904))
def zr(K:Kn)(n:Nat)(a v2:Int)(v5:Bool):Option Bool:=if v5 then some false else (sZ K n a).bind fun v6=>if v6 then some true else if (a == 45) then yI K n a v2 (v2 != 45) else yI K n a v2 false
def xl(K:Kn)(n:Nat)(a v2:Int):Option Bool:=(sZ K n v2).bind fun b=>if b then zr K n a v2 true else (lv K n v2).bind fun v4=>zr K n a v2 (v4 == 0)
def pe(K:Kn)(n:Nat)(c:ByteArray)(a:Nat)(d:Int→Nat→b7→Option b7)(b:b7):Option b7:=d ((Utf8.decode c a).1:Int) (a+(Utf8.decode c a).2) b
def qK(K:Kn)(n:Nat)(e:ByteArray)(a:Nat)(b:b7)(d:Int→Nat→b7→Option b7)(c:Bool):Option b7:=if c then aE (fits (b.length+([((a:Nat):Int)]:b7).length) 8) (pe K n e a d (b++[((a:Nat):Int)])) else pe K n e a d b
def ny(K:Kn)(n:Nat)(c:ByteArray)(e:Int→Nat→b7→Option b7)(f:Int)(a:Nat)(b:b7):Option b7:=if decide (a<c.size)=true then if (decide (((a:Nat):Int)>0)) then (xl K n f ((Utf8.decode c a).1:Int)).bind fun d=>qK K n c a b e d else qK K n c a b e false else some b
def qi(K:Kn)(n:Nat)(a:ByteArray):Nat→Int→Nat→b7→Option b7
 | 0=>fun _ _ _=>none
 | m+1=>ny K n a (qi K n a m)
def vU(K:Kn)(n:Nat)(a:ByteArray):Option b7:=qi K n a n 0 0 []
def oo(K:Kn)(n:Nat)(a:Bool):Option Bool:=some a
def n0(K:Kn)(n:Nat)(c v2:aO)(a:Bool):Option Bool:=if a then some false else (vU K n (runesBytes [c.Char,v2.Char])).bind fun b=>some (decide ((b.length:Int)>0))
def yi(K:Kn)(n:Nat)(a v2:aO)(b:Bool):Option Bool:=if b then if (a.Kind == 3) then if (v2.Kind == 3) then oo K n true else (mO K n v2).bind fun v4=>oo K n v4 else (mO K n a).bind fun v5=>if v5 then if (v2.Kind == 3) then oo K n true else (mO K n v2).bind fun v6=>oo K n v6 else oo K n false else if (a.Kind != 1) then n0 K n a v2 true else if (v2.Kind != 1) then n0 K n a v2 true else (mO K n a).bind fun c=>if (!c) then n0 K n a v2 true else if (a.Char != 32) then (mO K n v2).bind fun d=>n0 K n a v2 (!d) else n0 K n a v2 false
def l8(K:Kn)(n:Nat)(a v2:aO):Option Bool:=if (a.Kind == 3) then yi K n a v2 true else yi K n a v2 (v2.Kind == 3)
def q9(K:Kn)(n:Nat)(a:Int):Option Int:=some (min (max a 0) 1048576)
def yB(K:Kn)(n:Nat)(a:Int):Option Int:=(q9 K n a).bind fun v2=>some v2
def Af(K:Kn)(n:Nat)(a:Int):Option Int:=(q9 K n a).bind fun v2=>(q9 K n a).bind fun b=>some (aa (v2+(aa (Int.tdiv (aa (b+3)) 4))))
def ov(K:Kn)(n:Nat)(a:aR):Option eg:=(yB K n a.FontSize).bind fun v2=>(Af K n a.FontSize).bind fun b=>some ((aa (v2+((aa ((max a.LineHeight 0)-b)) / 2))),(aa ((max a.LineHeight 0)-(aa (v2+((aa ((max a.LineHeight 0)-b)) / 2))))))
def Av(K:Kn)(n:Nat)(a:Int)(v2:b7)(v4:Bool):Option b7:=if v4 then aE (fits (v2.length+([(fg .u8 240 (IntKind.wrap .u8 (a / 262144))),(fg .u8 128 (g9 .u8 (IntKind.wrap .u8 (a / 4096)) 63)),(fg .u8 128 (g9 .u8 (IntKind.wrap .u8 (a / 64)) 63)),(fg .u8 128 (g9 .u8 (IntKind.wrap .u8 a) 63))]:b7).length) 1) (some (v2++[(fg .u8 240 (IntKind.wrap .u8 (a / 262144))),(fg .u8 128 (g9 .u8 (IntKind.wrap .u8 (a / 4096)) 63)),(fg .u8 128 (g9 .u8 (IntKind.wrap .u8 (a / 64)) 63)),(fg .u8 128 (g9 .u8 (IntKind.wrap .u8 a) 63))])) else aE (fits (v2.length+([239,191,189]:b7).length) 1) (some (v2++[239,191,189]))
def oD(K:Kn)(n:Nat)(a:Int)(v2:b7)(b:Bool):Option b7:=if b then aE (fits (v2.length+([(fg .u8 224 (IntKind.wrap .u8 (a / 4096))),(fg .u8 128 (g9 .u8 (IntKind.wrap .u8 (a / 64)) 63)),(fg .u8 128 (g9 .u8 (IntKind.wrap .u8 a) 63))]:b7).length) 1) (some (v2++[(fg .u8 224 (IntKind.wrap .u8 (a / 4096))),(fg .u8 128 (g9 .u8 (IntKind.wrap .u8 (a / 64)) 63)),(fg .u8 128 (g9 .u8 (IntKind.wrap .u8 a) 63))])) else if (decide ((IntKind.wrap .u32 a)>65535)) then Av K n a v2 (decide ((IntKind.wrap .u32 a)≤1114111)) else Av K n a v2 false
def tz(K:Kn)(n:Nat)(a:Int)(v2:b7):Option b7:=if (decide ((IntKind.wrap .u32 a)≤2047)) then aE (fits (v2.length+([(fg .u8 192 (IntKind.wrap .u8 (a / 64))),(fg .u8 128 (g9 .u8 (IntKind.wrap .u8 a) 63))]:b7).length) 1) (some (v2++[(fg .u8 192 (IntKind.wrap .u8 (a / 64))),(fg .u8 128 (g9 .u8 (IntKind.wrap .u8 a) 63))])) else if (decide ((IntKind.wrap .u32 a)<55296)) then oD K n a v2 true else if (decide ((57343:Int)<(IntKind.wrap .u32 a))) then oD K n a v2 (decide ((IntKind.wrap .u32 a)≤65535)) else oD K n a v2 false
def ut(K:Kn)(n:Nat)(a:Int)(v2:b7):Option b7:=if (decide ((IntKind.wrap .u32 a)≤127)) then aE (fits (v2.length+([(IntKind.wrap .u8 a)]:b7).length) 1) (some (v2++[(IntKind.wrap .u8 a)])) else (tz K n a v2).bind fun b=>some b
def pk(K:Kn)(n:Nat)(b:Int)(v2:Bool)(a:b7):Option (Int×Unit×b7):=if v2 then (ut K n b a).bind fun v4=>some ((aa ((v4.length:Int)-(a.length:Int))),(),v4) else (ut K n b a).bind fun v5=>some ((aa ((v5.length:Int)-(a.length:Int))),(),v5)
def nW(K:Kn)(n:Nat)(a v2:Int):Option Int:=(lv K n a).bind fun b=>(q9 K n v2).bind fun v4=>some (aa (Int.tdiv (aa ((aa (b*v4))+15)) 16))
def xJ(K:Kn)(n:Nat)(a:ByteArray)(v2:Int)(b:Int→Nat→Option Int)(v5:Int)(v6:Nat):Option Int:=if decide (v6<a.size)=true then (nW K n ((Utf8.decode a v6).1:Int) v2).bind fun c=>b (aa (v5+c)) (v6+(Utf8.decode a v6).2) else some v5
def As(K:Kn)(n:Nat)(a:ByteArray)(v2:Int):Nat→Int→Nat→Option Int
 | 0=>fun _ _=>none
 | m+1=>xJ K n a v2 (As K n a v2 m)
def qX(K:Kn)(n:Nat)(a:ByteArray)(v2:Int):Option Int:=As K n a v2 n 0 0
def wD(K:Kn)(n:Nat)(v6:b7)(a:aR)(c:ByteArray)(d:Int):Option aB:=(qX K n c a.FontSize).bind fun e=>(ov K n a).bind fun b=>some ({ cX with Text:=(bytesOf v6),Width:=e,Space:=d,Above:=b.1,Below:=b.2 }:aB)
def zK(K:Kn)(n:Nat)(v6:b7)(a:aR)(c:ByteArray)(d:Int):Option aB:=(qX K n c a.FontSize).bind fun e=>(ov K n a).bind fun b=>some ({ cX with Text:=(bytesOf v6),Width:=e,Space:=d,Above:=b.1,Below:=b.2 }:aB)
def tJ(K:Kn)(n:Nat)(a:d6)(v6:b7)(j:Bool):Option aB:=if j then aE (aN (0:Int) a.length) ((some (((List.getD a (0:Int).toNat default).Box).Style)).bind fun b=>aE (qC v6) (aE (aN (aa ((a.length:Int)-1)) a.length) ((some ((List.getD a ((aa ((a.length:Int)-1))).toNat default).Soft)).bind fun d=>if d then aE (cD (0:Int) (aa (((bytesOf v6).size:Int)-1)) (bytesOf v6).size) ((some (ByteArray.extract (bytesOf v6) (0:Int).toNat ((aa (((bytesOf v6).size:Int)-1))).toNat)).bind fun e=>(nW K n 32 b.FontSize).bind fun f=>wD K n v6 b e f) else wD K n v6 b (bytesOf v6) 0))) else aE (aN (0:Int) a.length) ((some (((List.getD a (0:Int).toNat default).Box).Style)).bind fun c=>aE (qC v6) (aE (aN (aa ((a.length:Int)-1)) a.length) ((some ((List.getD a ((aa ((a.length:Int)-1))).toNat default).Soft)).bind fun g=>if g then aE (cD (0:Int) (aa (((bytesOf v6).size:Int)-1)) (bytesOf v6).size) ((some (ByteArray.extract (bytesOf v6) (0:Int).toNat ((aa (((bytesOf v6).size:Int)-1))).toNat)).bind fun h=>(nW K n 32 c.FontSize).bind fun i=>zK K n v6 c h i) else zK K n v6 c (bytesOf v6) 0)))
def Ah(K:Kn)(n:Nat)(a:d6)(b:Int→Bool→b7→Option aB)(v4:Int)(v5:Bool)(v6:b7):Option aB:=if v5 then if (decide (v4<(a.length:Int))) then aE (aN v4 a.length) ((pk K n ((List.getD a v4.toNat default).Char) true v6).bind fun c=>b (aa (v4+1)) true c.2.2) else tJ K n a v6 true else if (decide (v4<(a.length:Int))) then aE (aN v4 a.length) ((pk K n ((List.getD a v4.toNat default).Char) false v6).bind fun d=>b (aa (v4+1)) true d.2.2) else tJ K n a v6 false
def uJ(K:Kn)(n:Nat)(a:d6):Nat→Int→Bool→b7→Option aB
 | 0=>fun _ _ _=>none
 | m+1=>Ah K n a (uJ K n a m)
def tc(K:Kn)(n:Nat)(a:d6):Option aB:=uJ K n a n 0 false []
def lU(K:Kn)(n:Nat)(v2:Fv)(h:d6)(a:Int)(b:d4)(c:Bool)(i:Int→d4→Option d4)(g:Int)(d:aB):Option d4:=(some (((List.getD h a.toNat default).Box).Node)).bind fun e=>(some (((List.getD h a.toNat default).Box).Style)).bind fun f=>aE (fits (b.length+([({ d with Node:=e,Style:=f,Glued:=c }:aB)]:d4).length) 536) (i g (b++[({ d with Node:=e,Style:=f,Glued:=c }:aB)]))
def lz(K:Kn)(n:Nat)(v2:Fv)(c:d6)(b:Int)(d:d4)(e:Bool)(a:Int)(h:Int→d4→Option d4)(i:Int→Option d4)(f:Bool):Option d4:=if f then i (aa (a+1)) else aE (cD b a c.length) ((tc K n (List.drop b.toNat (List.take a.toNat c))).bind fun g=>lU K n v2 c b d e h a g)
def we(K:Kn)(n:Nat)(v2:Fv)(b:d6)(c:Int)(d:d4)(e:Bool)(f:Int→d4→Option d4)(g:Int→Option d4)(a:Int):Option d4:=if (decide (a<(b.length:Int))) then aE (aN a b.length) (if (((List.getD b a.toNat default).Kind) == 1) then aE (aN a b.length) (if (((List.getD b a.toNat default).Of) == ((List.getD b c.toNat default).Of)) then aE (aN (aa (a-1)) b.length) (aE (aN a b.length) ((l8 K n (List.getD b ((aa (a-1))).toNat default) (List.getD b a.toNat default)).bind fun h=>lz K n v2 b c d e a f g (!h))) else lz K n v2 b c d e a f g false) else lz K n v2 b c d e a f g false) else lz K n v2 b c d e a f g false
def uy(K:Kn)(n:Nat)(v2:Fv)(e:d6)(a:Int)(b:d4)(c:Bool)(d:Int→d4→Option d4):Nat→Int→Option d4
 | 0=>fun _=>none
 | m+1=>we K n v2 e a b c d (uy K n v2 e a b c d m)
def pY(K:Kn)(n:Nat)(v2:Fv)(d:d6)(a:Int)(b:d4)(e:Int→d4→Option d4)(c:Bool):Option d4:=(some (((List.getD d a.toNat default).Kind) == 2)).bind fun f=>if f then lU K n v2 d a b c e (aa (a+1)) ({ cX with Forced:=true }:aB) else (some (((List.getD d a.toNat default).Kind) == 3)).bind fun g=>if g then (K.sB v2 ((List.getD d a.toNat default).Box)).bind fun h=>lU K n v2 d a b c e (aa (a+1)) h else uy K n v2 d a b c e n (aa (a+1))
def wN(K:Kn)(n:Nat)(v2:Fv)(b:d6)(d:Int→d4→Option d4)(a:Int)(c:d4):Option d4:=if (decide (a<(b.length:Int))) then aE (aN a b.length) (if (decide (a>0)) then aE (aN (aa (a-1)) b.length) (if (((List.getD b ((aa (a-1))).toNat default).Kind) != 2) then aE (aN (aa (a-1)) b.length) ((l8 K n (List.getD b ((aa (a-1))).toNat default) (List.getD b a.toNat default)).bind fun e=>pY K n v2 b a c d (!e)) else pY K n v2 b a c d false) else pY K n v2 b a c d false) else some c
def uS(K:Kn)(n:Nat)(v2:Fv)(a:d6):Nat→Int→d4→Option d4
 | 0=>fun _ _=>none
 | m+1=>wN K n v2 a (uS K n v2 a m)
def uD(K:Kn)(n:Nat)(a:dO)(v2:Fv):Option d4:=(rt K n a).bind fun b=>uS K n v2 b n 0 []
def zG(K:Kn)(n:Nat)(b:ab)(v2:cf)(c:bB)(v4 v5:Int)(v6:dt):Option (ae×Int×Int×dt):=(jP K n b v2 false false c v4 v5 v6).bind fun a=>some (a.1,a.2.1,a.2.2.1,a.2.2.2)
def BF(K:Kn)(n:Nat)(b:ab)(v2 c:Int):Option Int:=(nJ K n b.Style v2 c).bind fun a=>some a
def FP(K:Kn)(n:Nat)(a:ab)(v2:Int)(b:bB):Option Int:=(dW K n a.Style.Width v2).bind fun v4=>if (!v4.2) then (lL K n a b).bind fun v5=>(ic K n v2).bind fun v6=>(jF K n a.Style v2 0).bind fun c=>(kQ K n c).bind fun d=>BF K n a v2 (min (max (aa (v6-d)) v5.1) v5.2) else BF K n a v2 v4.1
def F0(K:Kn)(n:Nat)(a:ab)(v2:Int)(b:bB):Option aB:=(FP K n a v2 b).bind fun v4=>(jF K n a.Style v2 v4).bind fun v5=>none
def zN(K:Kn)(n:Nat)(b:dO)(v2:Int)(a:bB):Option d4:=(uD K n b (Fv.c147 v2 a.Layout a.Widths a.Lines a.Spread)).bind fun v4=>some v4
def vo(K:Kn)(n:Nat)(b:d4)(v4:Int)(a:Int→Option Int)(v5:Bool):Option Int:=if v5 then a (aa (v4+1)) else some v4
def AC(K:Kn)(n:Nat)(a:d4)(b:Int→Option Int)(v4:Int):Option Int:=if (decide (v4<(a.length:Int))) then aE (aN v4 a.length) (vo K n a v4 b ((List.getD a v4.toNat default).Glued)) else vo K n a v4 b false
def wk(K:Kn)(n:Nat)(a:d4):Nat→Int→Option Int
 | 0=>fun _=>none
 | m+1=>AC K n a (wk K n a m)
def pW(K:Kn)(n:Nat)(a:d4)(v2:Int):Option Int:=wk K n a n (aa (v2+1))
def pT(K:Kn)(n:Nat)(b:d4)(c:Int→Option Int)(a:Int):Option Int:=if (decide (a≥0)) then aE (aN a b.length) (if (!(List.getD b a.toNat default).Forced) then some a else c (aa (a-1))) else some (-1)
def qq(K:Kn)(n:Nat)(a:d4):Nat→Int→Option Int
 | 0=>fun _=>none
 | m+1=>pT K n a (qq K n a m)
def oB(K:Kn)(n:Nat)(a:d4):Option Int:=qq K n a n (aa ((a.length:Int)-1))
def zk(K:Kn)(n:Nat)(v5:Int):Option Int:=some v5
def wh(K:Kn)(n:Nat)(a:d4)(c:Int→Int→Option Int)(v2 b:Int):Option Int:=if (decide (b<(a.length:Int))) then aE (aN b a.length) (c (aa (v2+(aa (((List.getD a b.toNat default).Width)+((List.getD a b.toNat default).Space))))) (aa (b+1))) else (oB K n a).bind fun v4=>if (decide (v4≥0)) then aE (aN v4 a.length) (zk K n (aa (v2-((List.getD a v4.toNat default).Space)))) else zk K n v2
def zi(K:Kn)(n:Nat)(a:d4):Nat→Int→Int→Option Int
 | 0=>fun _ _=>none
 | m+1=>wh K n a (zi K n a m)
def pP(K:Kn)(n:Nat)(a:d4):Option Int:=zi K n a n 0 0
def Ea(K:Kn)(n:Nat)(e:d4)(v2 a:Int)(b:b7)(c:Int)(d:Int→b7→Option b7):Option b7:=d c (b++[a])
def uR(K:Kn)(n:Nat)(d:d4)(v2 a:Int)(e:b7)(b:Int)(h:Int→b7→Option b7)(i:Int→Option b7)(f:Bool):Option b7:=if f then (pW K n d b).bind fun c=>aE (cD a c d.length) ((pP K n (List.drop a.toNat (List.take c.toNat d))).bind fun g=>if (decide (g>v2)) then Ea K n d v2 a e b h else i c) else Ea K n d v2 a e b h
def wH(K:Kn)(n:Nat)(b:d4)(v2 c:Int)(d:b7)(e:Int→b7→Option b7)(f:Int→Option b7)(a:Int):Option b7:=if (decide (a<(b.length:Int))) then aE (aN (aa (a-1)) b.length) (uR K n b v2 c d a e f (!(List.getD b ((aa (a-1))).toNat default).Forced)) else uR K n b v2 c d a e f false
def wu(K:Kn)(n:Nat)(d:d4)(v2 a:Int)(b:b7)(c:Int→b7→Option b7):Nat→Int→Option b7
 | 0=>fun _=>none
 | m+1=>wH K n d v2 a b c (wu K n d v2 a b c m)
def AO(K:Kn)(n:Nat)(c:d4)(v2:Int)(e:Int→b7→Option b7)(a:Int)(b:b7):Option b7:=if (decide (a<(c.length:Int))) then aE (fits (b.length+([a]:b7).length) 8) ((pW K n c a).bind fun d=>wu K n c v2 a b e n d) else some b
def AI(K:Kn)(n:Nat)(a:d4)(v2:Int):Nat→Int→b7→Option b7
 | 0=>fun _ _=>none
 | m+1=>AO K n a v2 (AI K n a v2 m)
def xr(K:Kn)(n:Nat)(a:d4)(v2:Int):Option b7:=AI K n a v2 n 0 []
def sP(K:Kn)(n:Nat)(b:aR)(v2 a:Int):Option Int:=if (decide (a≥v2)) then some 0 else if (b.TextAlign == 1) then some (aa (Int.tdiv (aa (v2-a)) 2)) else if (b.TextAlign == 2) then some (aa (v2-a)) else some 0
def wx(K:Kn)(n:Nat)(a:Bool):Option Bool:=some a
def EV(K:Kn)(n:Nat)(a v2:ByteArray):Option Bool:=if (decide ((a.size:Int)≥(v2.size:Int))) then aE (cD (aa ((a.size:Int)-(v2.size:Int))) (a.size:Int) a.size) (wx K n ((ByteArray.extract a ((aa ((a.size:Int)-(v2.size:Int)))).toNat ((a.size:Int)).toNat).toList == v2.toList)) else wx K n false
def Aq(K:Kn)(n:Nat)(a v2:ByteArray):Option Bool:=(EV K n a v2).bind fun b=>some b
def yU(K:Kn)(n:Nat)(e:d4)(v2:aR)(f a:Int)(d:Int→Int→Int→Option ae)(b c:Int):Option ae:=d b c (aa (a+1))
def xW(K:Kn)(n:Nat)(w:d4)(v2:aR)(x v y u q r:Int)(b:aB)(s:Int→Int→c6→Option ae)(t:Int→c6→Option ae)(a:Int)(c:c6):Option ae:=if (decide (a<(b.Box.length:Int))) then aE (aN a b.Box.length) ((some ((List.getD b.Box a.toNat default).Kind)).bind fun e=>(some ((List.getD b.Box a.toNat default).Node)).bind fun f=>(some (aa (((List.getD b.Box a.toNat default).X)+q))).bind fun g=>(some ((List.getD b.Box a.toNat default).aC)).bind fun h=>(some ((List.getD b.Box a.toNat default).Text)).bind fun i=>(some ((List.getD b.Box a.toNat default).Style)).bind fun j=>(some ((List.getD b.Box a.toNat default).Before)).bind fun k=>(some ((List.getD b.Box a.toNat default).After)).bind fun d=>(some ((List.getD b.Box a.toNat default).Empty)).bind fun l=>(some ((List.getD b.Box a.toNat default).Kids)).bind fun m=>(gC K n d).bind fun p=>(some (aa (((List.getD b.Box a.toNat default).Y)+(aa ((aa (v-((List.getD b.Box a.toNat default).H)))-p))))).bind fun o=>aE (fits (c.length+([(⟨e,f,g,o,(List.getD b.Box a.toNat default).W,(List.getD b.Box a.toNat default).H,h,i,j,k,d,l,m⟩:ae)]:c6).length) 584) (t (aa (a+1)) (c++[(⟨e,f,g,o,(List.getD b.Box a.toNat default).W,(List.getD b.Box a.toNat default).H,h,i,j,k,d,l,m⟩:ae)]))) else s (aa (q+(aa (b.Width+b.Space)))) (aa (r+1)) c
def xD(K:Kn)(n:Nat)(f:d4)(v2:aR)(g h i a b c:Int)(d:aB)(e:Int→Int→c6→Option ae):Nat→Int→c6→Option ae
 | 0=>fun _ _=>none
 | m+1=>xW K n f v2 g h i a b c d e (xD K n f v2 g h i a b c d e m)
def vy(K:Kn)(n:Nat)(g:d4)(v2:aR)(h i j a b c:Int)(d:aB)(f:Int→Int→c6→Option ae)(e:c6):Option ae:=xD K n g v2 h i j a b c d f n 0 e
def nU(K:Kn)(n:Nat)(k:d4)(v2:aR)(l h m d b e:Int)(c:c6)(j:Int→Int→c6→Option ae)(a:aB):Option ae:=(some (!(a.Text.toList == (⟨#[]⟩:ByteArray).toList))).bind fun i=>if i then (yB K n a.Style.FontSize).bind fun f=>(Af K n a.Style.FontSize).bind fun g=>aE (fits (c.length+([(⟨3,a.Node,b,(aa (h-f)),(aa (a.Width+a.Space)),g,0,a.Text,a.Style,dJ,dJ,false,[]⟩:ae)]:c6).length) 584) (vy K n k v2 l h m d b e a j (c++[(⟨3,a.Node,b,(aa (h-f)),(aa (a.Width+a.Space)),g,0,a.Text,a.Style,dJ,dJ,false,[]⟩:ae)])) else vy K n k v2 l h m d b e a j c
def om(K:Kn)(n:Nat)(b:d4)(v2:aR)(h i j c d a:Int)(e:c6)(g:Int→Int→c6→Option ae)(f:Bool):Option ae:=if f then aE (cD (0:Int) (aa ((((List.getD b a.toNat default).Text).size:Int)-1)) ((List.getD b a.toNat default).Text).size) (nU K n b v2 h i j c d a e g ({ (List.getD b a.toNat default)with Text:=(ByteArray.extract ((List.getD b a.toNat default).Text) (0:Int).toNat ((aa ((((List.getD b a.toNat default).Text).size:Int)-1))).toNat),Space:=0 }:aB)) else nU K n b v2 h i j c d a e g (List.getD b a.toNat default)
def z5(K:Kn)(n:Nat)(d:d4)(v2:aR)(g f h b:Int)(i:Int→Int→c6→Option ae)(e a:Int)(c:c6):Option ae:=if (decide (a<(d.length:Int))) then aE (aN a d.length) (if (a == b) then (Aq K n ((List.getD d a.toNat default).Text) (⟨#[32]⟩)).bind fun j=>if j then om K n d v2 g f h b e a c i ((((List.getD d a.toNat default).Style).WhiteSpace) != 2) else om K n d v2 g f h b e a c i false else om K n d v2 g f h b e a c i false) else some ({ bV with Kind:=2,W:=g,H:=(aa (f+h)),aC:=f,Style:=v2,Kids:=c }:ae)
def oK(K:Kn)(n:Nat)(b:d4)(v2:aR)(c d e a:Int):Nat→Int→Int→c6→Option ae
 | 0=>fun _ _ _=>none
 | m+1=>z5 K n b v2 c d e a (oK K n b v2 c d e a m)
def xu(K:Kn)(n:Nat)(b:d4)(v2:aR)(c:Int)(i:Int→Int→Int→Option ae)(g h a:Int):Option ae:=if (decide (a<(b.length:Int))) then aE (aN a b.length) (if (!(List.getD b a.toNat default).Forced) then yU K n b v2 c a i (max g ((List.getD b a.toNat default).Above)) (max h ((List.getD b a.toNat default).Below)) else yU K n b v2 c a i g h) else (pP K n b).bind fun d=>(sP K n v2 c d).bind fun e=>(oB K n b).bind fun f=>oK K n b v2 c g h f n e 0 []
def zX(K:Kn)(n:Nat)(a:d4)(v2:aR)(b:Int):Nat→Int→Int→Int→Option ae
 | 0=>fun _ _ _=>none
 | m+1=>xu K n a v2 b (zX K n a v2 b m)
def DZ(K:Kn)(n:Nat)(a:d4)(v2:aR)(b:Int):Option ae:=(ov K n v2).bind fun v4=>zX K n a v2 b n v4.1 v4.2 0
def zj(K:Kn)(n:Nat)(v2:aR)(g:Int)(v5:d4)(v6:b7)(f:Int→Int→Int→c6→Option (c6×Int))(b e a:Int)(c:c6):Option (c6×Int):=if (decide (a<e)) then aE (aN a (v6++[(v5.length:Int)]).length) (aE (aN (aa (a+1)) (v6++[(v5.length:Int)]).length) (aE (cD (List.getD (v6++[(v5.length:Int)]) a.toNat default) (List.getD (v6++[(v5.length:Int)]) ((aa (a+1))).toNat default) v5.length) ((DZ K n (List.drop ((List.getD (v6++[(v5.length:Int)]) a.toNat default)).toNat (List.take ((List.getD (v6++[(v5.length:Int)]) ((aa (a+1))).toNat default)).toNat v5)) v2 (min (max g 0) 1048576)).bind fun d=>aE (fits (c.length+([({ d with Y:=b }:ae)]:c6).length) 584) (f (aa (b+d.H)) e (aa (a+1)) (c++[({ d with Y:=b }:ae)]))))) else some (c,b)
def wR(K:Kn)(n:Nat)(v2:aR)(a:Int)(v5:d4)(v6:b7):Nat→Int→Int→Int→c6→Option (c6×Int)
 | 0=>fun _ _ _ _=>none
 | m+1=>zj K n v2 a v5 v6 (wR K n v2 a v5 v6 m)
def yt(K:Kn)(n:Nat)(b:dO)(v2:aR)(a:Int)(v4:bB):Option (c6×Int):=(zN K n b (min (max a 0) 1048576) v4).bind fun v5=>(xr K n v5 (min (max a 0) 1048576)).bind fun v6=>aE (fits (v6.length+([(v5.length:Int)]:b7).length) 8) (wR K n v2 a v5 v6 n 0 (aa (((v6++[(v5.length:Int)]).length:Int)-1)) 0 [])
def vP(K:Kn)(n:Nat)(a:dO)(v2:aR)(b:Int)(v4:bB):Option (c6×Int):=(yt K n a v2 b v4).bind fun v5=>some (v5.1,v5.2)
def D0(K:Kn)(n:Nat)(b:ab)(v2:bB)(a:b7):Option (aB×b7):=(K.gI v2.Widths b).bind fun v4=>aE (fits (a.length+([v4.2]:b7).length) 8) (some (({ cX with Width:=v4.1 }:aB),(a++[v4.2])))
def Ei(K:Kn)(n:Nat)(b:ab)(v2:Int)(a:b7):Option (aB×Int×b7):=aE (aN (aa ((aa (v2+1))-1)) a.length) (some (({ cX with Width:=(List.getD a ((aa ((aa (v2+1))-1))).toNat default) }:aB),(aa (v2+1)),a))
def lM(K:Kn)(n:Nat)(v2:bB)(v4:d6)(a:Int)(b:d4)(c:Bool)(i:Int→b7→d4→Option (d4×b7))(g:Int)(h:b7)(d:aB):Option (d4×b7):=(some (((List.getD v4 a.toNat default).Box).Node)).bind fun e=>(some (((List.getD v4 a.toNat default).Box).Style)).bind fun f=>aE (fits (b.length+([({ d with Node:=e,Style:=f,Glued:=c }:aB)]:d4).length) 536) (i g h (b++[({ d with Node:=e,Style:=f,Glued:=c }:aB)]))
def lT(K:Kn)(n:Nat)(v2:bB)(v4:d6)(b:Int)(c:b7)(d:d4)(e:Bool)(a:Int)(h:Int→b7→d4→Option (d4×b7))(i:Int→Option (d4×b7))(f:Bool):Option (d4×b7):=if f then i (aa (a+1)) else aE (cD b a v4.length) ((tc K n (List.drop b.toNat (List.take a.toNat v4))).bind fun g=>lM K n v2 v4 b d e h a c g)
def vW(K:Kn)(n:Nat)(v2:bB)(v4:d6)(b:Int)(c:b7)(d:d4)(e:Bool)(f:Int→b7→d4→Option (d4×b7))(g:Int→Option (d4×b7))(a:Int):Option (d4×b7):=if (decide (a<(v4.length:Int))) then aE (aN a v4.length) (if (((List.getD v4 a.toNat default).Kind) == 1) then aE (aN a v4.length) (if (((List.getD v4 a.toNat default).Of) == ((List.getD v4 b.toNat default).Of)) then aE (aN (aa (a-1)) v4.length) (aE (aN a v4.length) ((l8 K n (List.getD v4 ((aa (a-1))).toNat default) (List.getD v4 a.toNat default)).bind fun h=>lT K n v2 v4 b c d e a f g (!h))) else lT K n v2 v4 b c d e a f g false) else lT K n v2 v4 b c d e a f g false) else lT K n v2 v4 b c d e a f g false
def s4(K:Kn)(n:Nat)(v2:bB)(v4:d6)(a:Int)(b:b7)(c:d4)(d:Bool)(e:Int→b7→d4→Option (d4×b7)):Nat→Int→Option (d4×b7)
 | 0=>fun _=>none
 | m+1=>vW K n v2 v4 a b c d e (s4 K n v2 v4 a b c d e m)
def qe(K:Kn)(n:Nat)(v2:bB)(v4:d6)(a:Int)(b:b7)(c:d4)(f:Int→b7→d4→Option (d4×b7))(d:Bool):Option (d4×b7):=(some (((List.getD v4 a.toNat default).Kind) == 2)).bind fun g=>if g then lM K n v2 v4 a c d f (aa (a+1)) b ({ cX with Forced:=true }:aB) else (some (((List.getD v4 a.toNat default).Kind) == 3)).bind fun h=>if h then (D0 K n ((List.getD v4 a.toNat default).Box) v2 b).bind fun e=>lM K n v2 v4 a c d f (aa (a+1)) e.2 e.1 else s4 K n v2 v4 a b c d f n (aa (a+1))
def wZ(K:Kn)(n:Nat)(v2:bB)(v4:d6)(d:Int→b7→d4→Option (d4×b7))(a:Int)(b:b7)(c:d4):Option (d4×b7):=if (decide (a<(v4.length:Int))) then aE (aN a v4.length) (if (decide (a>0)) then aE (aN (aa (a-1)) v4.length) (if (((List.getD v4 ((aa (a-1))).toNat default).Kind) != 2) then aE (aN (aa (a-1)) v4.length) ((l8 K n (List.getD v4 ((aa (a-1))).toNat default) (List.getD v4 a.toNat default)).bind fun e=>qe K n v2 v4 a b c d (!e)) else qe K n v2 v4 a b c d false) else qe K n v2 v4 a b c d false) else some (c,b)
def tS(K:Kn)(n:Nat)(v2:bB)(v4:d6):Nat→Int→b7→d4→Option (d4×b7)
 | 0=>fun _ _ _=>none
 | m+1=>wZ K n v2 v4 (tS K n v2 v4 m)
def sq(K:Kn)(n:Nat)(a:dO)(v2:bB)(b:b7):Option (d4×b7):=(rt K n a).bind fun v4=>tS K n v2 v4 n 0 b []
def mf(K:Kn)(n:Nat)(v4:d6)(a:Int)(b:d4)(c:Bool)(j:Int→Int→b7→d4→Option (d4×Int×b7))(g h:Int)(i:b7)(d:aB):Option (d4×Int×b7):=(some (((List.getD v4 a.toNat default).Box).Node)).bind fun e=>(some (((List.getD v4 a.toNat default).Box).Style)).bind fun f=>aE (fits (b.length+([({ d with Node:=e,Style:=f,Glued:=c }:aB)]:d4).length) 536) (j g h i (b++[({ d with Node:=e,Style:=f,Glued:=c }:aB)]))
def md(K:Kn)(n:Nat)(v4:d6)(b c:Int)(d:b7)(e:d4)(f:Bool)(a:Int)(i:Int→Int→b7→d4→Option (d4×Int×b7))(j:Int→Option (d4×Int×b7))(g:Bool):Option (d4×Int×b7):=if g then j (aa (a+1)) else aE (cD b a v4.length) ((tc K n (List.drop b.toNat (List.take a.toNat v4))).bind fun h=>mf K n v4 b e f i a c d h)
def Az(K:Kn)(n:Nat)(v4:d6)(b c:Int)(d:b7)(e:d4)(f:Bool)(g:Int→Int→b7→d4→Option (d4×Int×b7))(h:Int→Option (d4×Int×b7))(a:Int):Option (d4×Int×b7):=if (decide (a<(v4.length:Int))) then aE (aN a v4.length) (if (((List.getD v4 a.toNat default).Kind) == 1) then aE (aN a v4.length) (if (((List.getD v4 a.toNat default).Of) == ((List.getD v4 b.toNat default).Of)) then aE (aN (aa (a-1)) v4.length) (aE (aN a v4.length) ((l8 K n (List.getD v4 ((aa (a-1))).toNat default) (List.getD v4 a.toNat default)).bind fun i=>md K n v4 b c d e f a g h (!i))) else md K n v4 b c d e f a g h false) else md K n v4 b c d e f a g h false) else md K n v4 b c d e f a g h false
def rJ(K:Kn)(n:Nat)(v4:d6)(a b:Int)(c:b7)(d:d4)(e:Bool)(f:Int→Int→b7→d4→Option (d4×Int×b7)):Nat→Int→Option (d4×Int×b7)
 | 0=>fun _=>none
 | m+1=>Az K n v4 a b c d e f (rJ K n v4 a b c d e f m)
def qQ(K:Kn)(n:Nat)(v4:d6)(a b:Int)(c:b7)(d:d4)(g:Int→Int→b7→d4→Option (d4×Int×b7))(e:Bool):Option (d4×Int×b7):=(some (((List.getD v4 a.toNat default).Kind) == 2)).bind fun h=>if h then mf K n v4 a d e g (aa (a+1)) b c ({ cX with Forced:=true }:aB) else (some (((List.getD v4 a.toNat default).Kind) == 3)).bind fun i=>if i then (Ei K n ((List.getD v4 a.toNat default).Box) b c).bind fun f=>mf K n v4 a d e g (aa (a+1)) f.2.1 f.2.2 f.1 else rJ K n v4 a b c d e g n (aa (a+1))
def yw(K:Kn)(n:Nat)(v4:d6)(e:Int→Int→b7→d4→Option (d4×Int×b7))(a b:Int)(c:b7)(d:d4):Option (d4×Int×b7):=if (decide (a<(v4.length:Int))) then aE (aN a v4.length) (if (decide (a>0)) then aE (aN (aa (a-1)) v4.length) (if (((List.getD v4 ((aa (a-1))).toNat default).Kind) != 2) then aE (aN (aa (a-1)) v4.length) ((l8 K n (List.getD v4 ((aa (a-1))).toNat default) (List.getD v4 a.toNat default)).bind fun f=>qQ K n v4 a b c d e (!f)) else qQ K n v4 a b c d e false) else qQ K n v4 a b c d e false) else some (d,b,c)
def tH(K:Kn)(n:Nat)(v4:d6):Nat→Int→Int→b7→d4→Option (d4×Int×b7)
 | 0=>fun _ _ _ _=>none
 | m+1=>yw K n v4 (tH K n v4 m)
def uf(K:Kn)(n:Nat)(a:dO)(v2:Int)(b:b7):Option (d4×Int×b7):=(rt K n a).bind fun v4=>tH K n v4 n 0 v2 b []
def zD(K:Kn)(n:Nat)(v4:d4×b7)(v5:d4×Int×b7)(a:Int)(c:Int→Int→Option eg)(b:Int):Option eg:=c b a
def AF(K:Kn)(n:Nat)(v5:d4×Int×b7)(d a:Int)(c:Int→Int→Option eg)(b:Int):Option eg:=c b a
def ra(K:Kn)(n:Nat)(v5:d4×Int×b7)(g b c a:Int)(f:Int→Int→Option eg)(h:Int→Option eg)(e:Bool):Option eg:=if e then h (aa (a+1)) else aE (cD c a v5.1.length) ((pP K n (List.drop c.toNat (List.take a.toNat v5.1))).bind fun d=>if (decide (d>b)) then AF K n v5 g a f d else AF K n v5 g a f b)
def yZ(K:Kn)(n:Nat)(v5:d4×Int×b7)(f b c:Int)(d:Int→Int→Option eg)(e:Int→Option eg)(a:Int):Option eg:=if (decide (a<(v5.1.length:Int))) then aE (aN (aa (a-1)) v5.1.length) (ra K n v5 f b c a d e (!(List.getD v5.1 ((aa (a-1))).toNat default).Forced)) else ra K n v5 f b c a d e false
def zB(K:Kn)(n:Nat)(v5:d4×Int×b7)(d a b:Int)(c:Int→Int→Option eg):Nat→Int→Option eg
 | 0=>fun _=>none
 | m+1=>yZ K n v5 d a b c (zB K n v5 d a b c m)
def wb(K:Kn)(n:Nat)(v5:d4×Int×b7)(c:Int)(d:Int→Int→Option eg)(b a:Int):Option eg:=if (decide (a<(v5.1.length:Int))) then zB K n v5 c b a d n (aa (a+1)) else some (c,b)
def yO(K:Kn)(n:Nat)(v5:d4×Int×b7)(a:Int):Nat→Int→Int→Option eg
 | 0=>fun _ _=>none
 | m+1=>wb K n v5 a (yO K n v5 a m)
def ya(K:Kn)(n:Nat)(v4:d4×b7)(v5:d4×Int×b7)(e:Int→Int→Option eg)(d a:Int):Option eg:=if (decide (a<(v4.1.length:Int))) then (pW K n v4.1 a).bind fun b=>aE (cD a b v4.1.length) ((pP K n (List.drop a.toNat (List.take b.toNat v4.1))).bind fun c=>if (decide (c>d)) then zD K n v4 v5 b e c else zD K n v4 v5 b e d) else yO K n v5 d n 0 0
def Ac(K:Kn)(n:Nat)(v4:d4×b7)(v5:d4×Int×b7):Nat→Int→Int→Option eg
 | 0=>fun _ _=>none
 | m+1=>ya K n v4 v5 (Ac K n v4 v5 m)
def xh(K:Kn)(n:Nat)(a:dO)(v2:aR)(b:bB):Option eg:=(sq K n a b ([]:b7)).bind fun v4=>(uf K n a 0 v4.2).bind fun v5=>Ac K n v4 v5 n 0 0
def Aa(K:Kn)(n:Nat)(a:dO)(v2:aR)(b:bB):Option eg:=(xh K n a v2 b).bind fun v4=>some (v4.1,v4.2)
def cR:Nat→Bool→Bool→bB
 | 0,_,_=>⟨.bot 43 3,.bot 48 1,.bot 52 1,.bot 54 1⟩
 | d+1,a,v2=>⟨.c43 a (cR d a v2).Layout (cR d a v2).Widths (cR d a v2).Lines (cR d a v2).Spread v2,.c48 (cR d a v2).Layout (cR d a v2).Widths (cR d a v2).Lines (cR d a v2).Spread,.c52 (cR d a v2).Layout (cR d a v2).Widths (cR d a v2).Lines (cR d a v2).Spread,.c54 (cR d a v2).Layout (cR d a v2).Widths (cR d a v2).Lines (cR d a v2).Spread⟩
def oc(K:Kn)(n:Nat)(a v2:Bool):Option bB:=some (cR n a v2)
def xi(K:Kn)(n:Nat)(a v2:ab):Option Bool:=(K.Df a v2).bind fun b=>some b
def z7(K:Kn)(n:Nat)(v5:Bool):Option Bool:=some v5
def rf(K:Kn)(n:Nat)(a v2:ab):Option Bool:=(ow K n a v2).bind fun b=>if b then z7 K n true else (oX K n a.Kids (Fv.c65 v2)).bind fun v4=>z7 K n v4
def Be(K:Kn)(n:Nat)(b:ae)(v2:c6)(a:Int→c6→Option ae)(v4:Int)(v5:c6):Option ae:=if (decide (v4<(v2.length:Int))) then aE (aN v4 v5.length) ((K.yx (List.getD v5 v4.toNat default)).bind fun v6=>aE (aN v4 v5.length) (a (aa (v4+1)) (List.set v5 v4.toNat v6))) else some ({ b with Kids:=v5 }:ae)
def zx(K:Kn)(n:Nat)(a:ae)(v2:c6):Nat→Int→c6→Option ae
 | 0=>fun _ _=>none
 | m+1=>Be K n a v2 (zx K n a v2 m)
def sJ(K:Kn)(n:Nat)(a:ae):Option ae:=(rd K n a.Kids).bind fun v2=>zx K n a v2 n 0 v2
def xk(K:Kn)(n:Nat)(a:b7):Option b7:=nY (List.isEmpty a) (aE (fits (([]:b7).length+a.length) 8) (some (([]:b7)++a)))
def pV(K:Kn)(n:Nat)(d:ib)(v2:ab)(v6:b7)(a:Int)(c:Int→Option Unit)(b:Bool):Option Unit:=if b then none else (K.rP d (List.getD v2.Kids a.toNat default) v6).bind fun e=>c (aa (a+1))
def BV(K:Kn)(n:Nat)(c:ib)(v2:ab)(v6:b7)(b:Int→Option Unit)(a:Int):Option Unit:=if (decide (a<(v2.Kids.length:Int))) then aE (aN a v2.Kids.length) (if (((List.getD v2.Kids a.toNat default).Kind) != 3) then if (((List.getD v2.Kids a.toNat default).Kind) != 4) then pV K n c v2 v6 a b ((((List.getD v2.Kids a.toNat default).Style).Position) == 2) else pV K n c v2 v6 a b false else pV K n c v2 v6 a b false) else some ()
def sU(K:Kn)(n:Nat)(a:ib)(v2:ab)(v6:b7):Nat→Int→Option Unit
 | 0=>fun _=>none
 | m+1=>BV K n a v2 v6 (sU K n a v2 v6 m)
def vt(K:Kn)(n:Nat)(a:ib)(v2:ab)(v6:b7):Option Unit:=sU K n a v2 v6 n 0
def su(K:Kn)(n:Nat)(a:ib)(v2:ab)(b:b7)(v4:Bool):Option Unit:=if v4 then (xk K n b).bind fun v5=>aE (fits (v5.length+([v2.Node]:b7).length) 8) (vt K n a v2 (v5++[v2.Node])) else vt K n a v2 b
def oV(K:Kn)(n:Nat)(a:ib)(v2:ab)(b:b7):Option Unit:=if (v2.Node != 0) then su K n a v2 b (v2.Style.Position != 0) else su K n a v2 b false
def nP(K:Kn)(n:Nat)(c:ab)(v2 e:Int)(v4:bB)(v5 v6:Int)(f:dt):Option (ae×Int×Int×dt):=(pS K n c.Style (min (max v2 0) 1048576)).bind fun g=>(zG K n c g v4 v5 v6 f).bind fun b=>(sJ K n b.1).bind fun a=>(oV K n ({ MR with env:=v4 }:ib) c []).bind fun d=>some (({ a with H:=(max a.H (min (max e 0) 1048576)) }:ae),b.2.1,b.2.2.1,b.2.2.2)
def Eh(K:Kn)(n:Nat)(a:dt)(v2:Fv)(b:Int→Option Int)(v4:Int):Option Int:=if (decide (v4<(a.length:Int))) then aE (aN v4 a.length) ((K.vc v2 (List.getD a v4.toNat default)).bind fun v5=>if v5 then some v4 else b (aa (v4+1))) else some (-1)
def wV(K:Kn)(n:Nat)(a:dt)(v2:Fv):Nat→Int→Option Int
 | 0=>fun _=>none
 | m+1=>Eh K n a v2 (wV K n a v2 m)
def CJ(K:Kn)(n:Nat)(a:dt)(v2:Fv):Option Int:=wV K n a v2 n 0
def wP(K:Kn)(n:Nat)(a:dt)(v2:Fv):Option Bool:=(CJ K n a v2).bind fun b=>some (decide (b≥0))
def DP(K:Kn)(n:Nat)(v4:Bool):Option Bool:=some v4
def Ap(K:Kn)(n:Nat)(a v2:aA):Option Bool:=if (a.Width == v2.Width) then (ow K n a.Box v2.Box).bind fun b=>DP K n b else DP K n false
def yl(K:Kn)(n:Nat)(d:ab)(e:ae×Int×Int×dt)(a:Int)(c:Int→dt→Option (ae×Int×Int×dt))(b:dt):Option (ae×Int×Int×dt):=c (aa (a+1)) b
def Al(K:Kn)(n:Nat)(f:ab)(c:ae×Int×Int×dt)(a:Int)(b:dt)(e:Int→dt→Option (ae×Int×Int×dt))(d:Bool):Option (ae×Int×Int×dt):=if d then aE (fits (b.length+([(List.getD c.2.2.2 a.toNat default)]:dt).length) 1112) (yl K n f c a e (b++[(List.getD c.2.2.2 a.toNat default)])) else yl K n f c a e b
def ER(K:Kn)(n:Nat)(d:ab)(c:ae×Int×Int×dt)(h:Int→dt→Option (ae×Int×Int×dt))(a:Int)(b:dt):Option (ae×Int×Int×dt):=if (decide (a<(c.2.2.2.length:Int))) then aE (aN a c.2.2.2.length) ((wP K n b (Fv.c39 (List.getD c.2.2.2 a.toNat default))).bind fun e=>if (!e) then (rf K n d ((List.getD c.2.2.2 a.toNat default).Box)).bind fun f=>Al K n d c a b h f else Al K n d c a b h false) else (oJ K n c.1).bind fun g=>some (g,c.2.1,c.2.2.1,b)
def tF(K:Kn)(n:Nat)(a:ab)(b:ae×Int×Int×dt):Nat→Int→dt→Option (ae×Int×Int×dt)
 | 0=>fun _ _=>none
 | m+1=>ER K n a b (tF K n a b m)
def qw(K:Kn)(n:Nat)(a:ab)(v2 b v4 v5:Int)(v6:dt):Option (ae×Int×Int×dt):=(oc K n true true).bind fun c=>(nP K n a v2 b c 0 0 v6).bind fun d=>tF K n a d n 0 []
def tO(K:Kn)(n:Nat)(a:Int):Option ab:=some ({ dd with Kind:=1,Node:=a,Style:=({ cv with Height:=(⟨1,20⟩:cI) }:aR) }:ab)
def rH(K:Kn)(n:Nat)(a:Bool):Option Bool:=some a
def A1(K:Kn)(n:Nat):Option Bool:=(tO K n 2).bind fun b=>(tO K n 3).bind fun v2=>(qw K n ({ dd with Kind:=1,Node:=1,Kids:=[b,v2] }:ab) 100 10 0 0 ([]:dt)).bind fun a=>(tO K n 2).bind fun v4=>(tO K n 4).bind fun v5=>(qw K n ({ dd with Kind:=1,Node:=1,Kids:=[v4,v5] }:ab) 100 10 a.2.1 a.2.2.1 a.2.2.2).bind fun v6=>if (a.1.H == 40) then if (a.2.1 == 2) then if (v6.2.1 == 1) then rH K n (v6.2.2.1 == 1) else rH K n false else rH K n false else rH K n false
def xL(K:Kn)(n:Nat)(v2:Bool):Option Bool:=some v2
def gh(K:Kn)(n:Nat)(a:cI):Option Bool:=if (decide (a.Value≥(-16777216))) then xL K n (decide (a.Value≤16777216)) else xL K n false
def tR(K:Kn)(n:Nat)(d:ew)(v2 a:Int)(c:Int→Option Bool)(b:Bool):Option Bool:=if b then some false else c (aa (a+1))
def xz(K:Kn)(n:Nat)(b:ew)(v2 a:Int)(f:Int→Option Bool)(c:Bool):Option Bool:=if c then some false else (gh K n ((((List.getD b a.toNat default).Style).Margin).a3)).bind fun d=>if (!d) then tR K n b v2 a f true else (gh K n ((((List.getD b a.toNat default).Style).Padding).a3)).bind fun e=>tR K n b v2 a f (!e)
def zu(K:Kn)(n:Nat)(b:ew)(v2 a:Int)(f:Int→Option Bool)(c:Bool):Option Bool:=if c then some false else (gh K n ((((List.getD b a.toNat default).Style).Margin).a2)).bind fun d=>if (!d) then xz K n b v2 a f true else (gh K n ((((List.getD b a.toNat default).Style).Padding).a2)).bind fun e=>xz K n b v2 a f (!e)
def y4(K:Kn)(n:Nat)(b:ew)(v2 a:Int)(f:Int→Option Bool)(c:Bool):Option Bool:=if c then some false else (gh K n ((((List.getD b a.toNat default).Style).Margin).a1)).bind fun d=>if (!d) then zu K n b v2 a f true else (gh K n ((((List.getD b a.toNat default).Style).Padding).a1)).bind fun e=>zu K n b v2 a f (!e)
def fz(K:Kn)(n:Nat)(b:ew)(v2 a:Int)(f:Int→Option Bool)(c:Bool):Option Bool:=if c then some false else (gh K n ((((List.getD b a.toNat default).Style).Margin).a0)).bind fun d=>if (!d) then y4 K n b v2 a f true else (gh K n ((((List.getD b a.toNat default).Style).Padding).a0)).bind fun e=>y4 K n b v2 a f (!e)
def nS(K:Kn)(n:Nat)(b:ew)(v2:Int)(c:Int→Option Bool)(a:Int):Option Bool:=if (decide (a<(b.length:Int))) then aE (aN a b.length) (aE (aN a b.length) (if (decide ((((List.getD b a.toNat default).Text).size:Int)>60)) then fz K n b v2 a c true else (gh K n (((List.getD b a.toNat default).Style).Left)).bind fun d=>if (!d) then fz K n b v2 a c true else (gh K n (((List.getD b a.toNat default).Style).Top)).bind fun e=>if (!e) then fz K n b v2 a c true else (gh K n (((List.getD b a.toNat default).Style).Width)).bind fun f=>if (!f) then fz K n b v2 a c true else (gh K n (((List.getD b a.toNat default).Style).Height)).bind fun g=>if (!g) then fz K n b v2 a c true else (gh K n (((List.getD b a.toNat default).Style).MinWidth)).bind fun h=>if (!h) then fz K n b v2 a c true else (gh K n (((List.getD b a.toNat default).Style).MaxWidth)).bind fun i=>if (!i) then fz K n b v2 a c true else (gh K n (((List.getD b a.toNat default).Style).Basis)).bind fun j=>if (!j) then fz K n b v2 a c true else if (decide ((((List.getD b a.toNat default).Style).LineHeight)<0)) then fz K n b v2 a c true else if (decide ((((List.getD b a.toNat default).Style).LineHeight)>65536)) then fz K n b v2 a c true else if (decide ((((List.getD b a.toNat default).Style).FontSize)<0)) then fz K n b v2 a c true else if (decide ((((List.getD b a.toNat default).Style).FontSize)>65536)) then fz K n b v2 a c true else if (decide ((((List.getD b a.toNat default).Style).Grow)<0)) then fz K n b v2 a c true else if (decide ((((List.getD b a.toNat default).Style).Grow)>1048576)) then fz K n b v2 a c true else if (decide ((((List.getD b a.toNat default).Style).Shrink)<0)) then fz K n b v2 a c true else fz K n b v2 a c (decide ((((List.getD b a.toNat default).Style).Shrink)>1048576)))) else some (decide ((b.length:Int)≤v2))
def uL(K:Kn)(n:Nat)(a:ew)(v2:Int):Nat→Int→Option Bool
 | 0=>fun _=>none
 | m+1=>nS K n a v2 (uL K n a v2 m)
def wt(K:Kn)(n:Nat)(a:ew)(v2:Int):Option Bool:=uL K n a v2 n 0
def tf(K:Kn)(n:Nat)(a:Bool):Option Bool:=some a
def CY(K:Kn)(n:Nat)(a:ew)(v2:List dL)(b:Int→Option Bool)(v4:Int):Option Bool:=if (decide (v4<(v2.length:Int))) then aE (aN v4 v2.length) ((wt K n [(List.getD v2 v4.toNat default).Spec] 1).bind fun v5=>if (!v5) then some false else b (aa (v4+1))) else (wt K n a 12).bind fun v6=>if v6 then if (decide ((a.length:Int)>0)) then tf K n (decide ((v2.length:Int)≤6)) else tf K n false else tf K n false
def y7(K:Kn)(n:Nat)(a:ew)(v2:List dL):Nat→Int→Option Bool
 | 0=>fun _=>none
 | m+1=>CY K n a v2 (y7 K n a v2 m)
def CW(K:Kn)(n:Nat)(a:ew)(v2:List dL):Option Bool:=y7 K n a v2 n 0
def mS(K:Kn)(n:Nat)(b:ew)(v2:Int)(g:Bool)(a:Int)(d:dO)(f:Int→dO→Option eq)(e:Bool):Option eq:=if e then if g then (K.kV b a).bind fun c=>aE (fits (d.length+([c.1]:dO).length) 520) (f c.2 (d++[c.1])) else aE (aN a b.length) (aE (aN a b.length) (aE (fits (d.length+([({ dd with Kind:=3,Style:=(List.getD b a.toNat default).Style,Text:=(List.getD b a.toNat default).Text }:ab)]:dO).length) 520) (f (aa (a+1)) (d++[({ dd with Kind:=3,Style:=(List.getD b a.toNat default).Style,Text:=(List.getD b a.toNat default).Text }:ab)])))) else some ((⟨1,(aa (10+v2)),(List.getD b v2.toNat default).Style,⟨#[]⟩,0,0,d⟩:ab),a)
def re(K:Kn)(n:Nat)(a:ew)(v2:Int)(d:Bool)(c:Int→dO→Option eq)(b:Int)(e:dO):Option eq:=if (decide (b<(a.length:Int))) then aE (aN b a.length) (mS K n a v2 d b e c (decide (((List.getD a b.toNat default).Depth)>((List.getD a v2.toNat default).Depth)))) else mS K n a v2 d b e c false
def nq(K:Kn)(n:Nat)(a:ew)(v2:Int)(b:Bool):Nat→Int→dO→Option eq
 | 0=>fun _ _=>none
 | m+1=>re K n a v2 b (nq K n a v2 b m)
def o4(K:Kn)(n:Nat)(a:ew)(v2:Int)(b:Bool):Option eq:=nq K n a v2 b n (aa (v2+1)) []
def o6(K:Kn)(n:Nat)(a:ew)(v2:Int):Option eq:=aE (aN v2 a.length) (aE (aN v2 a.length) (if (decide ((aa (v2+1))<(a.length:Int))) then aE (aN (aa (v2+1)) a.length) (if (decide (((List.getD a ((aa (v2+1))).toNat default).Depth)>((List.getD a v2.toNat default).Depth))) then aE (aN (aa (v2+1)) a.length) (o4 K n a v2 ((Int.tmod ((List.getD a ((aa (v2+1))).toNat default).Kind) 2) == 0)) else o4 K n a v2 false) else o4 K n a v2 false))
def jE(l:ew)(b:ab)(c:dO)(a:Bool):Option ab:=match a with
 | false=>some { b with Kids:=c }
 | true=>if (decide ((aa (b.Node-10))>0)) then aE (aN (aa (b.Node-10)) l.length) (if ((Int.tmod ((List.getD l ((aa (b.Node-10))).toNat default).Rows) 4) == 1) then some { b with Kind:=6,Kids:=c } else some { b with Kids:=c }) else some { b with Kids:=c }
def kS(f:ab→Option ab):dO→Option dO
 | []=>some []
 | k::r=>(if (k.Kind == 1) then f k else some k).bind fun a=>(kS f r).bind fun b=>some (a::b)
def iB(l:ew):Nat→ab→Option ab
 | 0,_=>none
 | m+1,b=>(kS (iB l m) b.Kids).bind fun a=>jE l b a (b.Kids.any fun k=>k.Kind == 1)
def kW(K:Kn)(n:Nat):Nat→ew→Int→Option eq
 | 0,_,_=>none
 | m+1,l,a=>o6 { K with kV:=kW K n m } n l a
def fB(s:aJ):aJ:=if (s.Style.Position == 2) then { s with Style:={ s.Style with Position:=0 } } else s
def uY(K:Kn)(n:Nat)(a:ew):Option ab:=aE (fits a.length 480) ((kW K n n (a.map fB) 0).bind fun r=>iB (a.map fB) n r.1)
def yH(K:Kn)(n:Nat)(a:ew):Option ew:=some a
def xE(K:Kn)(n:Nat)(a:ew)(v2:dL):Option ew:=aE (fits (([]:ew).length+a.length) 480) (if (decide ((a.length:Int)<2)) then aE (aN (0:Int) a.length) (aE (fits ((([]:ew)++a).length+([({ rQ with Depth:=(IntKind.wrap .u8 (((List.getD a (0:Int).toNat default).Depth)+1)),Style:=v2.Spec.Style }:aJ)]:ew).length) 480) (some ((([]:ew)++a)++[({ rQ with Depth:=(IntKind.wrap .u8 (((List.getD a (0:Int).toNat default).Depth)+1)),Style:=v2.Spec.Style }:aJ)]))) else aE (((aa ((a.length:Int)-1)) != 0)) ((some (aa (1+(Int.tmod (aa v2.At) (aa ((a.length:Int)-1)))))).bind fun b=>if ((Int.tmod v2.Kind 4) == 0) then aE (aN b (([]:ew)++a).length) (aE (aN b (([]:ew)++a).length) (aE (aN b (([]:ew)++a).length) ((some ((List.getD (([]:ew)++a) b.toNat default).Depth)).bind fun v4=>(some ((List.getD (([]:ew)++a) b.toNat default).Kind)).bind fun v5=>(some ((List.getD (([]:ew)++a) b.toNat default).Rows)).bind fun v6=>aE (aN b (([]:ew)++a).length) (yH K n (List.set (([]:ew)++a) b.toNat ({ v2.Spec with Depth:=v4,Kind:=v5,Rows:=v6 }:aJ)))))) else if ((Int.tmod v2.Kind 4) == 1) then aE (aN b (([]:ew)++a).length) (aE (tL ((List.getD (([]:ew)++a) b.toNat default).Text) (⟨#[120]⟩:ByteArray)) (aE (aN b (([]:ew)++a).length) (yH K n (List.set (([]:ew)++a) b.toNat ({ (List.getD (([]:ew)++a) b.toNat default)with Text:=(((List.getD (([]:ew)++a) b.toNat default).Text)++(⟨#[120]⟩:ByteArray)) }:aJ))))) else if ((Int.tmod v2.Kind 4) == 2) then aE (cD (0:Int) b (([]:ew)++a).length) (aE (cD (aa (b+1)) ((([]:ew)++a).length:Int) (([]:ew)++a).length) (aE (Nat.ble 1 (b.toNat-(0:Int).toNat)&&(Nat.ble (b.toNat-(0:Int).toNat) (((aa (b+1))).toNat)&&Nat.ble (((aa (b+1))).toNat+((((([]:ew)++a).length:Int)).toNat-((aa (b+1))).toNat)) (([]:ew)++a).length)) (some (List.take (b.toNat-(0:Int).toNat) (([]:ew)++a)++List.take ((((([]:ew)++a).length:Int)).toNat-((aa (b+1))).toNat) (List.drop (((aa (b+1))).toNat) (([]:ew)++a)))))) else aE (aN b (([]:ew)++a).length) ((some ((List.getD (([]:ew)++a) b.toNat default).Depth)).bind fun c=>aE (cD (0:Int) b (([]:ew)++a).length) (aE (fits (([]:ew).length+(List.drop ((0:Int)).toNat (List.take b.toNat (([]:ew)++a))).length) 480) (aE (fits ((([]:ew)++(List.drop ((0:Int)).toNat (List.take b.toNat (([]:ew)++a)))).length+([({ v2.Spec with Depth:=c }:aJ)]:ew).length) 480) (aE (cD b ((([]:ew)++a).length:Int) (([]:ew)++a).length) (aE (fits (((([]:ew)++(List.drop ((0:Int)).toNat (List.take b.toNat (([]:ew)++a))))++[({ v2.Spec with Depth:=c }:aJ)]).length+(List.drop b.toNat (List.take (((([]:ew)++a).length:Int)).toNat (([]:ew)++a))).length) 480) (some (((([]:ew)++(List.drop ((0:Int)).toNat (List.take b.toNat (([]:ew)++a))))++[({ v2.Spec with Depth:=c }:aJ)])++(List.drop b.toNat (List.take (((([]:ew)++a).length:Int)).toNat (([]:ew)++a))))))))))))
def DY(K:Kn)(n:Nat)(a v2:ae)(b:Int→Option Bool)(v6:Int):Option Bool:=if (decide (v6<(a.Kids.length:Int))) then aE (aN v6 a.Kids.length) (aE (aN v6 v2.Kids.length) ((K.wF (List.getD a.Kids v6.toNat default) (List.getD v2.Kids v6.toNat default)).bind fun c=>if (!c) then some false else b (aa (v6+1)))) else some true
def zJ(K:Kn)(n:Nat)(a v2:ae):Nat→Int→Option Bool
 | 0=>fun _=>none
 | m+1=>DY K n a v2 (zJ K n a v2 m)
def iq(K:Kn)(n:Nat)(a v2:ae)(b:Bool):Option Bool:=if b then some false else zJ K n a v2 n 0
def oh(K:Kn)(n:Nat)(a v2:ae):Option Bool:=if (a.Kind != v2.Kind) then iq K n a v2 true else if (a.Node != v2.Node) then iq K n a v2 true else if (a.X != v2.X) then iq K n a v2 true else if (a.Y != v2.Y) then iq K n a v2 true else if (a.W != v2.W) then iq K n a v2 true else if (a.H != v2.H) then iq K n a v2 true else if (a.aC != v2.aC) then iq K n a v2 true else if (!(a.Text.toList == v2.Text.toList)) then iq K n a v2 true else if (!(j8 a.Style v2.Style)) then iq K n a v2 true else if (!(Ba a.Before v2.Before)) then iq K n a v2 true else if (!(Ba a.After v2.After)) then iq K n a v2 true else if (!(a.Empty == v2.Empty)) then iq K n a v2 true else iq K n a v2 ((a.Kids.length:Int) != (v2.Kids.length:Int))
def yR(K:Kn)(n:Nat)(a:ab)(v2 b:Int):Option ae:=(oc K n false false).bind fun v4=>aE (Fv.dX v4.Layout) ((Option.map Prod.fst (nP K n a v2 b v4 0 0 [])).bind fun v5=>some v5)
def A9(K:Kn)(n:Nat)(a:bh)(v2:bB)(b:Int→Option Bool)(v6:Int):Option Bool:=if (decide (v6<(a.List.length:Int))) then aE (aN v6 a.List.length) (aE (Fv.dX v2.Layout) ((Option.map Prod.fst (K.dp v2.Layout ((List.getD a.List v6.toNat default).Box) ((List.getD a.List v6.toNat default).Width) 0 0 [])).bind fun c=>(oh K n ((List.getD a.List v6.toNat default).Fragment) c).bind fun d=>if (!d) then some false else b (aa (v6+1)))) else some true
def zl(K:Kn)(n:Nat)(a:bh)(v2:bB):Nat→Int→Option Bool
 | 0=>fun _=>none
 | m+1=>A9 K n a v2 (zl K n a v2 m)
def wA(K:Kn)(n:Nat)(a:bh):Option Bool:=(oc K n false false).bind fun v2=>zl K n a v2 n 0
def BE(K:Kn)(n:Nat)(a v2:ab)(b:Int→Option Bool)(v6:Int):Option Bool:=if (decide (v6<(a.Kids.length:Int))) then aE (aN v6 a.Kids.length) (aE (aN v6 v2.Kids.length) ((K.uC (List.getD a.Kids v6.toNat default) (List.getD v2.Kids v6.toNat default)).bind fun c=>if (!c) then some false else b (aa (v6+1)))) else some true
def yo(K:Kn)(n:Nat)(a v2:ab):Nat→Int→Option Bool
 | 0=>fun _=>none
 | m+1=>BE K n a v2 (yo K n a v2 m)
def jS(K:Kn)(n:Nat)(a v2:ab)(b:Bool):Option Bool:=if b then some false else yo K n a v2 n 0
def rh(K:Kn)(n:Nat)(a v2:ab):Option Bool:=if (a.Kind != v2.Kind) then jS K n a v2 true else if (a.Node != v2.Node) then jS K n a v2 true else if (!(j8 a.Style v2.Style)) then jS K n a v2 true else if (!(a.Text.toList == v2.Text.toList)) then jS K n a v2 true else if (a.Rows != v2.Rows) then jS K n a v2 true else if (a.Cols != v2.Cols) then jS K n a v2 true else jS K n a v2 ((a.Kids.length:Int) != (v2.Kids.length:Int))
def AZ(K:Kn)(n:Nat)(a v2:ab)(b:Int→Option Bool)(v6:Int):Option Bool:=if (decide (v6<(a.Kids.length:Int))) then aE (aN v6 a.Kids.length) ((K.tq (List.getD a.Kids v6.toNat default) v2).bind fun c=>if c then some true else b (aa (v6+1))) else some false
def ye(K:Kn)(n:Nat)(a v2:ab):Nat→Int→Option Bool
 | 0=>fun _=>none
 | m+1=>AZ K n a v2 (ye K n a v2 m)
def tE(K:Kn)(n:Nat)(a v2:ab):Option Bool:=(rh K n a v2).bind fun b=>if b then some true else ye K n a v2 n 0
def vf(K:Kn)(n:Nat)(v2:List dL)(m:V2 Int)(i:ew)(j:Int)(d:ab)(e:Int)(f:ae×Int×Int×dt)(g a b:Int)(k:ew→Int→Int→Int→Int→dt→Option Bool)(l:Int→Option Bool)(h:Int→Int→Option Bool)(c:Bool):Option Bool:=if c then some false else h a (aa (b+1))
def C4(K:Kn)(n:Nat)(v2:List dL)(o:V2 Int)(i:ew)(j:Int)(e:ab)(f:Int)(a:ae×Int×Int×dt)(b:Int)(l:ew→Int→Int→Int→Int→dt→Option Bool)(k:Int→Option Bool)(m:Int→Int→Option Bool)(d c:Int):Option Bool:=if (decide (c<d)) then aE (aN c (b.toNat-(0:Int).toNat)) (aE (decide (((0:Int).toNat+c.toNat)<a.2.2.2.length)) ((some (List.getD a.2.2.2 ((0:Int).toNat+c.toNat) default)).bind fun g=>if (g.Width == ((List.getD a.2.2.2 b.toNat default).Width)) then (rh K n g.Box ((List.getD a.2.2.2 b.toNat default).Box)).bind fun h=>vf K n v2 o i j e f a b d c l k m h else vf K n v2 o i j e f a b d c l k m false)) else k (aa (b+1))
def w7(K:Kn)(n:Nat)(v2:List dL)(i:V2 Int)(e:ew)(f:Int)(a:ab)(b:Int)(c:ae×Int×Int×dt)(d:Int)(g:ew→Int→Int→Int→Int→dt→Option Bool)(h:Int→Option Bool):Nat→Int→Int→Option Bool
 | 0=>fun _ _=>none
 | m+1=>C4 K n v2 i e f a b c d g h (w7 K n v2 i e f a b c d g h m)
def Ae(K:Kn)(n:Nat)(v2:List dL)(f:V2 Int)(d b:Int)(a:ae×Int×Int×dt)(e:ew→Int→Int→Int→Int→dt→Option Bool)(c:ew):Option Bool:=e c b (aa (d+1)) a.2.1 a.2.2.1 a.2.2.2
def rp(K:Kn)(n:Nat)(v2:List dL)(j:V2 Int)(g:ew)(c:Int)(e:ab)(d:Int)(a:ae×Int×Int×dt)(i:ew→Int→Int→Int→Int→dt→Option Bool)(k:Int→Option Bool)(b:Int):Option Bool:=if (decide (b<(a.2.2.2.length:Int))) then aE (aN b a.2.2.2.length) ((tE K n e ((List.getD a.2.2.2 b.toNat default).Box)).bind fun h=>if (!h) then some false else aE (cD (0:Int) b a.2.2.2.length) (w7 K n v2 j g c e d a b i k n (((b.toNat-(0:Int).toNat):Nat):Int) 0)) else if (decide (c<(v2.length:Int))) then aE (aN c v2.length) ((xE K n g (List.getD v2 c.toNat default)).bind fun f=>if (decide ((f.length:Int)>18)) then some true else Ae K n v2 j c d a i f) else Ae K n v2 j c d a i g
def pN(K:Kn)(n:Nat)(v2:List dL)(g:V2 Int)(d:ew)(e:Int)(a:ab)(b:Int)(c:ae×Int×Int×dt)(f:ew→Int→Int→Int→Int→dt→Option Bool):Nat→Int→Option Bool
 | 0=>fun _=>none
 | m+1=>rp K n v2 g d e a b c f (pN K n v2 g d e a b c f m)
def zS(K:Kn)(n:Nat)(v2:List dL)(h:V2 Int)(e:ew)(f:Int)(a:ab)(b:Int)(c:ae×Int×Int×dt)(g:ew→Int→Int→Int→Int→dt→Option Bool)(d:Bool):Option Bool:=if d then some false else pN K n v2 h e f a b c g n 0
def vu(K:Kn)(n:Nat)(v2:List dL)(i:V2 Int)(g:ew)(h j k:Int)(l:dt)(b:ab)(m:ew→Int→Int→Int→Int→dt→Option Bool)(c:Int):Option Bool:=(qw K n b c i.a1 j k l).bind fun a=>(yR K n b c i.a1).bind fun d=>(oh K n a.1 d).bind fun e=>if (!e) then zS K n v2 i g h b c a m true else (wA K n ((⟨a.2.2.2,a.2.1,a.2.2.1⟩:bh):bh)).bind fun f=>zS K n v2 i g h b c a m (!f)
def uE(K:Kn)(n:Nat)(v2:List dL)(i:V2 Int)(d:ew)(e f g:Int)(h:dt)(b:Int)(a:ab)(j:ew→Int→Int→Int→Int→dt→Option Bool)(c:Bool):Option Bool:=if c then vu K n v2 i d e f g h a j i.a1 else vu K n v2 i d e f g h a j b
def BH(K:Kn)(n:Nat)(v2:List dL)(i:V2 Int)(h:ew→Int→Int→Int→Int→dt→Option Bool)(d:ew)(b a e f:Int)(g:dt):Option Bool:=if (decide (a≤(v2.length:Int))) then (uY K n d).bind fun c=>if (decide (a>0)) then aE (aN (aa (a-1)) v2.length) (uE K n v2 i d a e f g b c h ((Int.tmod ((List.getD v2 ((aa (a-1))).toNat default).Kind) 8) == 7)) else uE K n v2 i d a e f g b c h false else some true
def qz(K:Kn)(n:Nat)(v2:List dL)(a:V2 Int):Nat→ew→Int→Int→Int→Int→dt→Option Bool
 | 0=>fun _ _ _ _ _ _=>none
 | m+1=>BH K n v2 a (qz K n v2 a m)
def Ep(K:Kn)(n:Nat)(a:ew)(v2:List dL)(b:V2 Int):Option Bool:=(A1 K n ).bind fun v4=>if (!v4) then some false else (CW K n a v2).bind fun v5=>if (!v5) then some true else qz K n v2 b n a b.a0 0 0 0 []
def KN:Nat→Kn
 | 0=>⟨fun _ _=>none,fun _ _=>none,fun _ _=>none,fun _ _=>none,fun _=>none,fun _ _=>none,fun _ _=>none,fun _=>none,fun _ _ _=>none,fun _ _ _=>none,fun _ _ _=>none,fun _ _ _ _=>none,fun _ _ _=>none,fun _ _ _ _ _ _=>none,fun _ _ _=>none,fun _ _=>none,fun _ _=>none,fun _ _=>none,fun _ _=>none⟩
 | n+1=>⟨fun b c=>oh (KN n) n b c, fun b c=>tE (KN n) n b c, fun b c=>rh (KN n) n b c, fun b c=>rf (KN n) n b c, fun b=>oJ (KN n) n b, fun b c=>o6 (KN n) n b c, fun b c=>none, fun b=>sJ (KN n) n b, fun b c e=>oV (KN n) n b c e, fun b c e=>m9 (KN n) n b c e, fun f b c=>match f with|.fn i=>none|.bot _ _=>none|.c39 a=>none|.c43 a x1_0 x1_1 x1_2 x1_3 d=>none|.c48 x0_0 x0_1 x0_2 x0_3=>none|.c52 x0_0 x0_1 x0_2 x0_3=>none|.c54 x0_0 x0_1 x0_2 x0_3=>none|.c65 a=>none|.c103 a=>none|.c147 a x1_0 x1_1 x1_2 x1_3=>none|.c165 a=>xG (KN n) n b c a|.c172 a=>vX (KN n) n b c a, fun f b c e=>match f with|.fn i=>none|.bot _ _=>none|.c39 a=>none|.c43 a x1_0 x1_1 x1_2 x1_3 d=>none|.c48 x0_0 x0_1 x0_2 x0_3=>none|.c52 x0_0 x0_1 x0_2 x0_3=>vP (KN n) n b c e (⟨x0_0,x0_1,x0_2,x0_3⟩:bB)|.c54 x0_0 x0_1 x0_2 x0_3=>none|.c65 a=>none|.c103 a=>none|.c147 a x1_0 x1_1 x1_2 x1_3=>none|.c165 a=>none|.c172 a=>none, fun f b c=>match f with|.fn i=>none|.bot _ _=>none|.c39 a=>none|.c43 a x1_0 x1_1 x1_2 x1_3 d=>none|.c48 x0_0 x0_1 x0_2 x0_3=>none|.c52 x0_0 x0_1 x0_2 x0_3=>none|.c54 x0_0 x0_1 x0_2 x0_3=>Aa (KN n) n b c (⟨x0_0,x0_1,x0_2,x0_3⟩:bB)|.c65 a=>none|.c103 a=>none|.c147 a x1_0 x1_1 x1_2 x1_3=>none|.c165 a=>none|.c172 a=>none, fun f b c e g h=>match f with|.fn i=>none|.bot _ _=>none|.c39 a=>none|.c43 a x1_0 x1_1 x1_2 x1_3 d=>jV (KN n) n b c a (⟨x1_0,x1_1,x1_2,x1_3⟩:bB) d e g h|.c48 x0_0 x0_1 x0_2 x0_3=>none|.c52 x0_0 x0_1 x0_2 x0_3=>none|.c54 x0_0 x0_1 x0_2 x0_3=>none|.c65 a=>none|.c103 a=>none|.c147 a x1_0 x1_1 x1_2 x1_3=>none|.c165 a=>none|.c172 a=>none, fun f b c=>match f with|.fn i=>if Nat.beq i 27=true then ow (KN n) n b c else none|.bot _ _=>none|.c39 a=>none|.c43 a x1_0 x1_1 x1_2 x1_3 d=>none|.c48 x0_0 x0_1 x0_2 x0_3=>none|.c52 x0_0 x0_1 x0_2 x0_3=>none|.c54 x0_0 x0_1 x0_2 x0_3=>none|.c65 a=>none|.c103 a=>none|.c147 a x1_0 x1_1 x1_2 x1_3=>none|.c165 a=>none|.c172 a=>none, fun f b=>match f with|.fn i=>if Nat.beq i 145=true then tp (KN n) n b else none|.bot _ _=>none|.c39 a=>none|.c43 a x1_0 x1_1 x1_2 x1_3 d=>none|.c48 x0_0 x0_1 x0_2 x0_3=>none|.c52 x0_0 x0_1 x0_2 x0_3=>none|.c54 x0_0 x0_1 x0_2 x0_3=>none|.c65 a=>xi (KN n) n b a|.c103 a=>none|.c147 a x1_0 x1_1 x1_2 x1_3=>none|.c165 a=>none|.c172 a=>none, fun f b=>match f with|.fn i=>none|.bot _ _=>none|.c39 a=>none|.c43 a x1_0 x1_1 x1_2 x1_3 d=>none|.c48 x0_0 x0_1 x0_2 x0_3=>ql (KN n) n b (⟨x0_0,x0_1,x0_2,x0_3⟩:bB)|.c52 x0_0 x0_1 x0_2 x0_3=>none|.c54 x0_0 x0_1 x0_2 x0_3=>none|.c65 a=>none|.c103 a=>none|.c147 a x1_0 x1_1 x1_2 x1_3=>none|.c165 a=>none|.c172 a=>none, fun f b=>match f with|.fn i=>none|.bot _ _=>none|.c39 a=>none|.c43 a x1_0 x1_1 x1_2 x1_3 d=>none|.c48 x0_0 x0_1 x0_2 x0_3=>none|.c52 x0_0 x0_1 x0_2 x0_3=>none|.c54 x0_0 x0_1 x0_2 x0_3=>none|.c65 a=>none|.c103 a=>none|.c147 a x1_0 x1_1 x1_2 x1_3=>F0 (KN n) n b a (⟨x1_0,x1_1,x1_2,x1_3⟩:bB)|.c165 a=>none|.c172 a=>none, fun f b=>match f with|.fn i=>none|.bot _ _=>none|.c39 a=>Ap (KN n) n b a|.c43 a x1_0 x1_1 x1_2 x1_3 d=>none|.c48 x0_0 x0_1 x0_2 x0_3=>none|.c52 x0_0 x0_1 x0_2 x0_3=>none|.c54 x0_0 x0_1 x0_2 x0_3=>none|.c65 a=>none|.c103 a=>none|.c147 a x1_0 x1_1 x1_2 x1_3=>none|.c165 a=>none|.c172 a=>none⟩
end
end Go.Proofs.YtocgkfoifehcbaaGreat

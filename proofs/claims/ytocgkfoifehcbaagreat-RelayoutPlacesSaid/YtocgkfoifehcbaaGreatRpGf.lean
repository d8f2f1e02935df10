/- Layer 22z's functions as plain Lean functions: K stands for calls that come back, n bounds the rounds of loops. Made by a program. -/
import Derived.Test.YtocgkfoifehcbaaGreatRpGt
namespace Go.Proofs.YtocgkfoifehcbaaGreat
open Go.RowKit
set_option maxRecDepth 20000
set_option linter.all false
noncomputable section
abbrev b7:=List ab
abbrev c6:=List ay
abbrev dn:=List ag
abbrev dw:=List aS
abbrev dO:=List aQ
abbrev d6:=List bd
abbrev d7:=List bG
abbrev eg:=ag×Int
abbrev eq:=List aK
def DG(K:Kn)(n:Nat)(a b:dn)(d:Fv)(c:Int→Option Bool)(v5:Int):Option Bool:=if (decide (v5<(a.length:Int))) then aA (aU v5 a.length) (aA (aU v5 b.length) ((K.sk d (List.getD a v5.toNat default) (List.getD b v5.toNat default)).bind fun v6=>if (!v6) then some false else c (aa (v5+1)))) else some true
def yh(K:Kn)(n:Nat)(a b:dn)(c:Fv):Nat→Int→Option Bool
 | 0=>fun _=>none
 | m+1=>DG K n a b c (yh K n a b c m)
def xP(K:Kn)(n:Nat)(a b:dn)(c:Fv):Option Bool:=if ((a.length:Int) != (b.length:Int)) then some false else yh K n a b c n 0
def mO(K:Kn)(n:Nat)(v4:Bool):Option Bool:=some v4
def oD(K:Kn)(n:Nat)(a b:ag):Option Bool:=if (a.Kind == b.Kind) then if (a.Node == b.Node) then if (ry a.Style b.Style) then if (a.Text.toList == b.Text.toList) then if (a.Rows == b.Rows) then if (a.Cols == b.Cols) then (xP K n a.Kids b.Kids (Fv.fn 27)).bind fun c=>mO K n c else mO K n false else mO K n false else mO K n false else mO K n false else mO K n false else mO K n false
def qF(K:Kn)(n:Nat)(a:b7):Option b7:=o5 (List.isEmpty a) (aA (fits (([]:b7).length+a.length) 584) (some (([]:b7)++a)))
def Eg(K:Kn)(n:Nat)(b:ab)(c:b7)(a:Int→b7→Option ab)(v4:Int)(v5:b7):Option ab:=if (decide (v4<(c.length:Int))) then aA (aU v4 v5.length) ((K.Al (List.getD v5 v4.toNat default)).bind fun v6=>aA (aU v4 v5.length) (a (aa (v4+1)) (List.set v5 v4.toNat v6))) else some ({ b with Kids:=v5 }:ab)
def Am(K:Kn)(n:Nat)(a:ab)(b:b7):Nat→Int→b7→Option ab
 | 0=>fun _ _=>none
 | m+1=>Eg K n a b (Am K n a b m)
def pK(K:Kn)(n:Nat)(a:ab):Option ab:=(qF K n a.Kids).bind fun b=>Am K n a b n 0 b
def zC(K:Kn)(n:Nat)(f:ag)(g e v4:Int)(v5:c6)(c:Int)(d:Int→Option (ab×Bool×Int×Int×c6))(a:Bool):Option (ab×Bool×Int×Int×c6):=if a then (pK K n ((List.getD v5 c.toNat default).Fragment)).bind fun b=>some (b,true,e,v4,v5) else d (aa (c+1))
def BE(K:Kn)(n:Nat)(b:ag)(d e v4:Int)(v5:c6)(f:Int→Option (ab×Bool×Int×Int×c6))(a:Int):Option (ab×Bool×Int×Int×c6):=if (decide (a<(v5.length:Int))) then aA (aU a v5.length) (if (((List.getD v5 a.toNat default).Width) == d) then (oD K n ((List.getD v5 a.toNat default).Box) b).bind fun c=>zC K n b d e v4 v5 a f c else zC K n b d e v4 v5 a f false) else some (bU,false,e,v4,v5)
def wW(K:Kn)(n:Nat)(a:ag)(b c v4:Int)(v5:c6):Nat→Int→Option (ab×Bool×Int×Int×c6)
 | 0=>fun _=>none
 | m+1=>BE K n a b c v4 v5 (wW K n a b c v4 v5 m)
def yX(K:Kn)(n:Nat)(a:ag)(b c v4:Int)(v5:c6):Option (ab×Bool×Int×Int×c6):=wW K n a b c v4 v5 n 0
def Dr(K:Kn)(n:Nat)(v6:ab×Bool×Int×Int×c6)(a:Int):Option (ab×Bool×Int×Int×c6):=some (v6.1,v6.2.1,v6.2.2.1,a,v6.2.2.2.2)
def zd(K:Kn)(n:Nat)(a:ag)(b c v4:Int)(v5:c6):Option (ab×Bool×Int×Int×c6):=(yX K n a b c v4 v5).bind fun v6=>if v6.2.1=true then Dr K n v6 (aa (v6.2.2.2.1+1)) else Dr K n v6 v6.2.2.2.1
def w5(K:Kn)(n:Nat)(a:ag)(b:Int)(d:ab)(v4 v5:Int)(v6:c6):Option (Int×Int×c6):=(pK K n d).bind fun c=>aA (fits (v6.length+([(⟨a,b,c⟩:ay)]:c6).length) 1112) (some ((aa (v4+1)),v5,(v6++[(⟨a,b,c⟩:ay)])))
def jA(K:Kn)(n:Nat)(a:Int):Option Int:=some (min (max a 0) 1048576)
def uT(K:Kn)(n:Nat)(v4:Int):Option (Int×Bool):=some ((min (max v4 (-1048576)) 1048576),true)
def ep(K:Kn)(n:Nat)(a:cL)(b:Int):Option (Int×Bool):=if (a.Kind == 1) then uT K n a.Value else if (a.Kind == 2) then (jA K n b).bind fun c=>uT K n (aa (Int.tdiv (aa (c*(min (max a.Value (-1000000)) 1000000))) 10000)) else some (0,false)
def lg(K:Kn)(n:Nat)(a:aO)(b i:Int):Option cb:=(ep K n a.Margin.a0 b).bind fun v4=>(jA K n a.Border.a0).bind fun v5=>(ep K n a.Padding.a0 b).bind fun v6=>(ep K n a.Margin.a1 b).bind fun j=>(jA K n a.Border.a1).bind fun k=>(ep K n a.Padding.a1 b).bind fun l=>(ep K n a.Margin.a2 b).bind fun c=>(jA K n a.Border.a2).bind fun d=>(ep K n a.Padding.a2 b).bind fun e=>(ep K n a.Margin.a3 b).bind fun f=>(jA K n a.Border.a3).bind fun g=>(ep K n a.Padding.a3 b).bind fun h=>some (⟨⟨v4.1,j.1,c.1,f.1⟩,⟨v5,k,d,g⟩,⟨(max v6.1 0),(max l.1 0),(max e.1 0),(max h.1 0)⟩,i⟩:cb)
def mM(K:Kn)(n:Nat)(a:cb):Option Int:=some (aa ((aa ((aa ((aa ((aa ((aa (a.Content+a.Margin.a1))+a.Margin.a3))+a.Border.a1))+a.Border.a3))+a.Padding.a1))+a.Padding.a3))
def xe(K:Kn)(n:Nat)(a:Int):Option Int:=some a
def wu(K:Kn)(n:Nat)(a:aO)(b v5:Int):Option Int:=(ep K n a.MinWidth b).bind fun v6=>if v6.2=true then xe K n (max v5 v6.1) else xe K n v5
def pf(K:Kn)(n:Nat)(a:aO)(b c:Int):Option Int:=(ep K n a.MaxWidth b).bind fun v4=>if v4.2=true then wu K n a b (min (max c 0) (max v4.1 0)) else wu K n a b (max c 0)
def qM(K:Kn)(n:Nat)(v4:cb)(b:Int)(a:V4 Int):Option cb:=some ({ v4 with Margin:=a,Content:=b }:cb)
def wZ(K:Kn)(n:Nat)(a:Int)(v4:cb)(c b:Int)(d e:Int×Bool)(f:Bool):Option cb:=if f then qM K n v4 c ⟨v4.Margin.a0,(aa ((aa (a-b))-(aa (Int.tdiv (aa (a-b)) 2)))),v4.Margin.a2,(aa (Int.tdiv (aa (a-b)) 2))⟩ else if (!d.2) then qM K n v4 c ⟨v4.Margin.a0,v4.Margin.a1,v4.Margin.a2,(aa (a-b))⟩ else if (!e.2) then qM K n v4 c ⟨v4.Margin.a0,(aa (a-b)),v4.Margin.a2,v4.Margin.a3⟩ else qM K n v4 c v4.Margin
def tX(K:Kn)(n:Nat)(e:aO)(c:Int)(v4:cb)(g:Int):Option cb:=(pf K n e c g).bind fun d=>(mM K n ({ v4 with Content:=d }:cb)).bind fun f=>if (decide ((aa (c-f))≤0)) then some ({ v4 with Content:=d }:cb) else (ep K n e.Margin.a3 c).bind fun a=>(ep K n e.Margin.a1 c).bind fun b=>if (!a.2) then wZ K n c v4 d f a b (!b.2) else wZ K n c v4 d f a b false
def qC(K:Kn)(n:Nat)(b:aO)(c:Int):Option cb:=(jA K n c).bind fun a=>(lg K n b a 0).bind fun v4=>(ep K n b.Width a).bind fun v5=>if (!v5.2) then (mM K n v4).bind fun v6=>tX K n b a v4 (aa (a-v6)) else tX K n b a v4 v5.1
def nc(K:Kn)(n:Nat)(a:Int):Option bh:=some (⟨(max a 0),(min a 0)⟩:bh)
def mZ(K:Kn)(n:Nat)(a:cL)(b c:Int):Option Int:=(ep K n a b).bind fun v4=>if v4.2=true then some v4.1 else some c
def vD(K:Kn)(n:Nat)(g h:Int)(v4:Fv)(c a:Int)(b:b5)(e f:Int→b5→Option b5)(d:Bool):Option b5:=if d then aA (aU (aa (a-1)) b.length) (aA (aU a b.length) (aA (aU a b.length) (aA (aU (aa (a-1)) (List.set b a.toNat (List.getD b ((aa (a-1))).toNat default)).length) (f (aa (a-1)) (List.set (List.set b a.toNat (List.getD b ((aa (a-1))).toNat default)) ((aa (a-1))).toNat (List.getD b a.toNat default)))))) else e (aa (c+1)) b
def D9(K:Kn)(n:Nat)(e h:Int)(v4:Fv)(c:Int)(f g:Int→b5→Option b5)(a:Int)(b:b5):Option b5:=if (decide (a>e)) then aA (aU a b.length) (aA (aU (aa (a-1)) b.length) ((K.ta v4 (List.getD b a.toNat default) (List.getD b ((aa (a-1))).toNat default)).bind fun d=>vD K n e h v4 c a b f g (decide (d<0)))) else vD K n e h v4 c a b f g false
def wV(K:Kn)(n:Nat)(c d:Int)(v4:Fv)(a:Int)(b:Int→b5→Option b5):Nat→Int→b5→Option b5
 | 0=>fun _ _=>none
 | m+1=>D9 K n c d v4 a b (wV K n c d v4 a b m)
def wT(K:Kn)(n:Nat)(e c:Int)(v4:Fv)(d:Int→b5→Option b5)(a:Int)(b:b5):Option b5:=if (decide (a<c)) then wV K n e c v4 a d n a b else some b
def sd(K:Kn)(n:Nat)(a b:Int)(v4:Fv):Nat→Int→b5→Option b5
 | 0=>fun _ _=>none
 | m+1=>wT K n a b v4 (sd K n a b v4 m)
def uN(K:Kn)(n:Nat)(b:b5)(a c:Int)(v4:Fv):Option b5:=sd K n a c v4 n (aa (a+1)) b
def G3(K:Kn)(n:Nat)(b:Int)(e:Fv)(f:b5)(a:Int)(c:Int→Option b5)(d:Option b5):Option b5:=if (decide ((aa (2*a))≤b)) then none else if (decide ((aa (0+a))<b)) then none else c (aa (a*2))
def Fj(K:Kn)(n:Nat)(c:Int)(d:Fv)(e:b5)(a:Int)(b:Int→Option b5):Nat→Option b5
 | 0=>none
 | m+1=>G3 K n c d e a b (Fj K n c d e a b m)
def EB(K:Kn)(n:Nat)(b:Int)(e:Fv)(c:b5)(d:Int→Option b5)(a:Int):Option b5:=if (decide (a<b)) then Fj K n b e c a d n else some c
def CD(K:Kn)(n:Nat)(a:Int)(b:Fv)(c:b5):Nat→Int→Option b5
 | 0=>fun _=>none
 | m+1=>EB K n a b c (CD K n a b c m)
def CS(K:Kn)(n:Nat)(a:Int)(b:Fv)(d:Int→Int→b5→Option b5)(v5 v6:Int)(c:b5):Option b5:=if (decide (v6≤a)) then (uN K n c v5 v6 b).bind fun e=>d v6 (aa (v6+20)) e else (uN K n c v5 a b).bind fun f=>CD K n a b f n 20
def EP(K:Kn)(n:Nat)(a:Int)(b:Fv):Nat→Int→Int→b5→Option b5
 | 0=>fun _ _ _=>none
 | m+1=>CS K n a b (EP K n a b m)
def Bw(K:Kn)(n:Nat)(a:b5)(b:Int)(c:Fv):Option b5:=EP K n b c n 0 20 a
def mo(K:Kn)(n:Nat)(a:b5)(b:Fv):Option b5:=(Bw K n a (a.length:Int) b).bind fun c=>some c
def y5(K:Kn)(n:Nat)(a:Bool):Option Bool:=some a
def kD(K:Kn)(n:Nat)(a:ag):Option Bool:=if (a.Kind == 3) then y5 K n true else y5 K n (a.Style.Position != 2)
def tZ(K:Kn)(n:Nat)(a:Int):Option Bool:=some (a != a)
def vQ(K:Kn)(n:Nat)(a b:Int):Option Int:=(tZ K n a).bind fun c=>(tZ K n b).bind fun v4=>if c then if v4 then some 0 else some (-1) else if v4 then some 1 else if (decide (a<b)) then some (-1) else if (decide (a>b)) then some 1 else some 0
def wF(K:Kn)(n:Nat)(b c:Int)(a:dn):Option Int:=aA (aU b a.length) (aA (aU c a.length) ((vQ K n (((List.getD a b.toNat default).Style).Order) (((List.getD a c.toNat default).Style).Order)).bind fun v4=>some v4))
def AM(K:Kn)(n:Nat)(c:dn)(v6:Int)(a:Int→b5→Option b5)(b:b5):Option b5:=a (aa (v6+1)) b
def EG(K:Kn)(n:Nat)(a:dn)(d:Int→b5→Option b5)(v6:Int)(b:b5):Option b5:=if (decide (v6<(a.length:Int))) then aA (aU v6 a.length) ((kD K n (List.getD a v6.toNat default)).bind fun e=>if e then aA (fits (b.length+([v6]:b5).length) 8) (AM K n a v6 d (b++[v6])) else AM K n a v6 d b) else (mo K n b (Fv.c172 a)).bind fun c=>some c
def AQ(K:Kn)(n:Nat)(a:dn):Nat→Int→b5→Option b5
 | 0=>fun _ _=>none
 | m+1=>EG K n a (AQ K n a m)
def uB(K:Kn)(n:Nat)(a:dn):Option b5:=AQ K n a n 0 []
def En(K:Kn)(n:Nat)(c:ag)(b:b5)(d:Int→dn→Option dn)(a:Int)(v4:dn):Option dn:=if (decide (a<(b.length:Int))) then aA (aU a b.length) (aA (aU (List.getD b a.toNat default) c.Kids.length) (aA (fits (v4.length+([(List.getD c.Kids ((List.getD b a.toNat default)).toNat default)]:dn).length) 520) (d (aa (a+1)) (v4++[(List.getD c.Kids ((List.getD b a.toNat default)).toNat default)])))) else some v4
def xg(K:Kn)(n:Nat)(a:ag)(b:b5):Nat→Int→dn→Option dn
 | 0=>fun _ _=>none
 | m+1=>En K n a b (xg K n a b m)
def lO(K:Kn)(n:Nat)(a:ag):Option dn:=(uB K n a.Kids).bind fun b=>xg K n a b n 0 []
def gK(K:Kn)(n:Nat)(a:bh):Option Int:=some (aa (a.Pos+a.Neg))
def tD(K:Kn)(n:Nat)(a:ab):Option Int:=if a.Empty=true then some 0 else (gK K n a.After).bind fun b=>some b
def jk(K:Kn)(n:Nat)(a b:Int):Option Int:=some (min (max a 0) b)
def zg(K:Kn)(n:Nat)(a:bG):Option bG:=(jk K n a.az 1048576).bind fun b=>(jk K n a.Grow 1048576).bind fun c=>(jk K n a.Shrink 1048576).bind fun v4=>(jk K n a.Min 1048576).bind fun v5=>(jk K n a.Max 1048576).bind fun v6=>some (⟨b,c,v4,v5,(max v6 v5)⟩:bG)
def qh(K:Kn)(n:Nat)(a:bG)(b:Int):Option Int:=some (min (max b a.Min) a.Max)
def vb(K:Kn)(n:Nat)(b:bG):Option Int:=(zg K n b).bind fun a=>(qh K n a a.az).bind fun c=>some c
def Af(K:Kn)(n:Nat)(b c:Int)(a:b5):Option Int:=aA (aU c a.length) (aA (aU b a.length) ((vQ K n (List.getD a c.toNat default) (List.getD a b.toNat default)).bind fun v4=>some v4))
def Br(K:Kn)(n:Nat)(e:b5→Int→Int→b5→Option b5)(b:b5)(d a:Int)(c:b5):Option b5:=if (decide (a<d)) then aA (aU a b.length) (aA (aU (List.getD b a.toNat default) c.length) (aA (aU (List.getD b a.toNat default) c.length) (e b d (aa (a+1)) (List.set c ((List.getD b a.toNat default)).toNat (aa ((List.getD c ((List.getD b a.toNat default)).toNat default)+1)))))) else some c
def sH(K:Kn)(n:Nat):Nat→b5→Int→Int→b5→Option b5
 | 0=>fun _ _ _ _=>none
 | m+1=>Br K n (sH K n m)
def C0(K:Kn)(n:Nat)(j:b5)(l i:Int)(m:Int→Int→b5→b5→b5→Option b5)(b a:Int)(c d e:b5):Option b5:=if (decide (a<(j.length:Int))) then aA (aU a j.length) ((jk K n (List.getD j a.toNat default) 2147483647).bind fun h=>aA ((i != 0)) (aA ((i != 0)) (aA (aU a c.length) (aA (aU a d.length) (aA (aU a e.length) ((some (List.set c a.toNat (aa (Int.tdiv (aa (l*h)) i)))).bind fun f=>(some (List.set d a.toNat (Int.tmod (aa (l*h)) i))).bind fun k=>aA (aU a f.length) (m (aa (b-(List.getD f a.toNat default))) (aa (a+1)) f k (List.set e a.toNat a)))))))) else (mo K n e (Fv.c165 d)).bind fun g=>aA (cT (0:Int) b g.length) (sH K n n (List.drop ((0:Int)).toNat (List.take b.toNat g)) ((List.drop ((0:Int)).toNat (List.take b.toNat g)).length:Int) 0 c)
def vY(K:Kn)(n:Nat)(a:b5)(b c:Int):Nat→Int→Int→b5→b5→b5→Option b5
 | 0=>fun _ _ _ _ _=>none
 | m+1=>C0 K n a b c (vY K n a b c m)
def B8(K:Kn)(n:Nat)(a:b5)(e:Int)(v4 v5 v6:b5)(f:Int→Int→Option b5)(d b:Int):Option b5:=if (decide (b<(a.length:Int))) then aA (aU b a.length) ((jk K n (List.getD a b.toNat default) 2147483647).bind fun c=>f (aa (d+c)) (aa (b+1))) else if (d == 0) then some v4 else vY K n a e d n e 0 v4 v5 v6
def yZ(K:Kn)(n:Nat)(a:b5)(b:Int)(v4 v5 v6:b5):Nat→Int→Int→Option b5
 | 0=>fun _ _=>none
 | m+1=>B8 K n a b v4 v5 v6 (yZ K n a b v4 v5 v6 m)
def xd(K:Kn)(n:Nat)(b:Int)(a:b5):Option b5:=(jk K n b 2147483647).bind fun c=>aA (fO (a.length:Int) 8) ((some (List.replicate ((a.length:Int)).toNat (0:Int))).bind fun v4=>aA (fO (a.length:Int) 8) ((some (List.replicate ((a.length:Int)).toNat (0:Int))).bind fun v5=>aA (fO (a.length:Int) 8) ((some (List.replicate ((a.length:Int)).toNat (0:Int))).bind fun v6=>yZ K n a c v4 v5 v6 n 0 0)))
def Aq(K:Kn)(n:Nat)(g:d6)(h a:Int)(f:Int→Int→Int→b5→b5→Option (Bool×d6))(b c:Int)(d e:b5):Option (Bool×d6):=f b c (aa (a+1)) d e
def yT(K:Kn)(n:Nat)(d:b5)(e:Int)(f:b5)(a:Int)(c:Int→d6→Option (Bool×d6))(b:d6):Option (Bool×d6):=c (aa (a+1)) b
def nP(K:Kn)(n:Nat)(a:b5)(d:Int)(e:b5)(b:Int)(c:d6)(f:Int)(h:Int→d6→Option (Bool×d6))(g:Bool):Option (Bool×d6):=if g then aA (decide (((List.getD a b.toNat default)).toNat<c.length)) (yT K n a d e b h (List.set (List.set c ((List.getD a b.toNat default)).toNat ({ (List.getD c ((List.getD a b.toNat default)).toNat default)with size:=f }:bd)) ((List.getD a b.toNat default)).toNat ({ (List.getD (List.set c ((List.getD a b.toNat default)).toNat ({ (List.getD c ((List.getD a b.toNat default)).toNat default)with size:=f }:bd)) ((List.getD a b.toNat default)).toNat default)with fixed:=true }:bd))) else yT K n a d e b h c
def Cq(K:Kn)(n:Nat)(c:b5)(d:Int)(b:b5)(g:Int→d6→Option (Bool×d6))(a:Int)(e:d6):Option (Bool×d6):=if (decide (a<(c.length:Int))) then aA (aU a c.length) (aA (aU (List.getD c a.toNat default) e.length) (aA (aU a b.length) ((qh K n ((List.getD e ((List.getD c a.toNat default)).toNat default).Item) (List.getD b a.toNat default)).bind fun f=>if (d == 0) then nP K n c d b a e f g true else if (decide (d>0)) then aA (aU a b.length) (if (decide (f>(List.getD b a.toNat default))) then nP K n c d b a e f g true else if (decide (d<0)) then aA (aU a b.length) (nP K n c d b a e f g (decide (f<(List.getD b a.toNat default)))) else nP K n c d b a e f g false) else if (decide (d<0)) then aA (aU a b.length) (nP K n c d b a e f g (decide (f<(List.getD b a.toNat default)))) else nP K n c d b a e f g false))) else some (true,e)
def uH(K:Kn)(n:Nat)(a:b5)(b:Int)(c:b5):Nat→Int→d6→Option (Bool×d6)
 | 0=>fun _ _=>none
 | m+1=>Cq K n a b c (uH K n a b c m)
def Dv(K:Kn)(n:Nat)(e:d6)(i:Int)(b:b5)(h:Int→Int→b5→Option (Bool×d6))(f a:Int)(c:b5):Option (Bool×d6):=if (decide (a<(b.length:Int))) then aA (aU a b.length) (aA (aU (List.getD b a.toNat default) e.length) (aA (aU a c.length) (aA (aU a c.length) ((some (List.set c a.toNat (aa ((((List.getD e ((List.getD b a.toNat default)).toNat default).Item).az)+(aa (i*(List.getD c a.toNat default))))))).bind fun d=>aA (aU (List.getD b a.toNat default) e.length) (aA (aU a d.length) ((qh K n ((List.getD e ((List.getD b a.toNat default)).toNat default).Item) (List.getD d a.toNat default)).bind fun g=>aA (aU a d.length) (h (aa (f+(aa (g-(List.getD d a.toNat default))))) (aa (a+1)) d))))))) else uH K n b f c n 0 e
def xu(K:Kn)(n:Nat)(b:d6)(c:Int)(a:b5):Nat→Int→Int→b5→Option (Bool×d6)
 | 0=>fun _ _ _=>none
 | m+1=>Dv K n b c a (xu K n b c a m)
def vo(K:Kn)(n:Nat)(e:d6)(f:Int)(a b:b5)(c:Int):Option (Bool×d6):=(xd K n c b).bind fun d=>xu K n e f a n 0 0 d
def DT(K:Kn)(n:Nat)(b:d6)(g:Int)(j:Int→Int→Int→b5→b5→Option (Bool×d6))(d e a:Int)(c f:b5):Option (Bool×d6):=if (decide (a<(b.length:Int))) then aA (aU a b.length) (if (List.getD b a.toNat default).fixed=true then Aq K n b g a j (aa (d-((List.getD b a.toNat default).size))) e c f else (some (aa (d-(((List.getD b a.toNat default).Item).az)))).bind fun h=>(some (aa (e+((List.getD b a.toNat default).factor)))).bind fun i=>aA (fits (c.length+([a]:b5).length) 8) (aA (fits (f.length+([(List.getD b a.toNat default).weight]:b5).length) 8) (Aq K n b g a j h i (c++[a]) (f++[(List.getD b a.toNat default).weight])))) else if ((c.length:Int) == 0) then some (false,b) else if (decide (e<1000)) then vo K n b g c f (aa ((aa ((aa (Int.tdiv (max (aa (d*g)) 0) 1000))*e))+(aa (Int.tdiv (aa ((Int.tmod (max (aa (d*g)) 0) 1000)*e)) 1000)))) else vo K n b g c f (max (aa (d*g)) 0)
def ze(K:Kn)(n:Nat)(a:d6)(b:Int):Nat→Int→Int→Int→b5→b5→Option (Bool×d6)
 | 0=>fun _ _ _ _ _=>none
 | m+1=>DT K n a b (ze K n a b m)
def vq(K:Kn)(n:Nat)(a:d6)(b c:Int):Option (Bool×d6):=ze K n a c n b 0 0 [] []
def yz(K:Kn)(n:Nat)(f:Int)(d:d6)(e a:Int)(c:Int→d6→Option b5)(b:d6):Option b5:=c (aa (a+1)) b
def wM(K:Kn)(n:Nat)(f:Int)(c:d6)(d a:Int)(e:Int→d6→Option b5)(b:d6):Option b5:=aA (decide (a.toNat<b.length)) (if (List.getD b a.toNat default).fixed=true then yz K n f c d a e (List.set b a.toNat ({ (List.getD b a.toNat default)with fixed:=true }:bd)) else yz K n f c d a e (List.set b a.toNat ({ (List.getD b a.toNat default)with fixed:=(((List.getD b a.toNat default).factor) == 0) }:bd)))
def CK(K:Kn)(n:Nat)(b:Bool×d6)(d:Int→b5→Option b5)(a:Int)(c:b5):Option b5:=if (decide (a<(b.2.length:Int))) then aA (aU a b.2.length) (aA (aU a c.length) (d (aa (a+1)) (List.set c a.toNat ((List.getD b.2 a.toNat default).size)))) else some c
def zP(K:Kn)(n:Nat)(a:Bool×d6):Nat→Int→b5→Option b5
 | 0=>fun _ _=>none
 | m+1=>CK K n a (zP K n a m)
def Dw(K:Kn)(n:Nat)(f b:Int)(e:d6→Option b5)(c:d6):Option b5:=(vq K n c f b).bind fun a=>if a.1=true then e a.2 else aA (fO (a.2.length:Int) 8) ((some (List.replicate ((a.2.length:Int)).toNat (0:Int))).bind fun d=>zP K n a n 0 d)
def sJ(K:Kn)(n:Nat)(b a:Int):Nat→d6→Option b5
 | 0=>fun _=>none
 | m+1=>Dw K n b a (sJ K n b a m)
def C7(K:Kn)(n:Nat)(g:Int)(f:d6)(c:Int)(h:Int→d6→Option b5)(a:Int)(b:d6):Option b5:=if (decide (a<(f.length:Int))) then aA (aU a b.length) (if (decide (c>0)) then (some (List.set (List.set b a.toNat ({ (List.getD b a.toNat default)with factor:=((List.getD b a.toNat default).Item).Grow }:bd)) a.toNat ({ (List.getD (List.set b a.toNat ({ (List.getD b a.toNat default)with factor:=((List.getD b a.toNat default).Item).Grow }:bd)) a.toNat default)with weight:=((List.getD b a.toNat default).Item).Grow }:bd))).bind fun d=>wM K n g f c a h (List.set d a.toNat ({ (List.getD d a.toNat default)with fixed:=(decide ((((List.getD d a.toNat default).Item).az)>((List.getD d a.toNat default).size))) }:bd)) else (some (List.set (List.set b a.toNat ({ (List.getD b a.toNat default)with factor:=((List.getD b a.toNat default).Item).Shrink }:bd)) a.toNat ({ (List.getD (List.set b a.toNat ({ (List.getD b a.toNat default)with factor:=((List.getD b a.toNat default).Item).Shrink }:bd)) a.toNat default)with weight:=(aa (Int.tdiv (aa ((((List.getD b a.toNat default).Item).az)*(((List.getD b a.toNat default).Item).Shrink))) 1000)) }:bd))).bind fun e=>wM K n g f c a h (List.set e a.toNat ({ (List.getD e a.toNat default)with fixed:=(decide ((((List.getD e a.toNat default).Item).az)<((List.getD e a.toNat default).size))) }:bd))) else sJ K n g c n b
def xL(K:Kn)(n:Nat)(c:Int)(a:d6)(b:Int):Nat→Int→d6→Option b5
 | 0=>fun _ _=>none
 | m+1=>C7 K n c a b (xL K n c a b m)
def vG(K:Kn)(n:Nat)(c:Int)(a:d6)(b:Int):Option b5:=xL K n c a b n 0 a
def E7(K:Kn)(n:Nat)(d:d7)(g:Int)(i:Int→Int→d6→Option b5)(h b:Int)(a:d6):Option b5:=if (decide (b<(d.length:Int))) then aA (aU b d.length) ((zg K n (List.getD d b.toNat default)).bind fun e=>(vb K n (List.getD d b.toNat default)).bind fun f=>aA (aU b a.length) ((some (List.set a b.toNat ({ i9 with Item:=e,size:=f }:bd))).bind fun c=>aA (aU b c.length) (i (aa (h+((List.getD c b.toNat default).size))) (aa (b+1)) c))) else if (decide (h<g)) then vG K n g a 1 else vG K n g a (-1)
def Ag(K:Kn)(n:Nat)(a:d7)(b:Int):Nat→Int→Int→d6→Option b5
 | 0=>fun _ _ _=>none
 | m+1=>E7 K n a b (Ag K n a b m)
def kh(K:Kn)(n:Nat)(a:d7)(b:Int):Option b5:=(some (min (max b (-1125899906842624)) 1125899906842624)).bind fun c=>aA (fO (a.length:Int) 72) ((some (List.replicate ((a.length:Int)).toNat (i9:bd))).bind fun v4=>Ag K n a c n 0 0 v4)
def o7(K:Kn)(n:Nat)(t:ag)(u:Int)(v:bN)(w:dn)(o p:Int)(i:b5)(j:d7)(k c:b5)(l:b7)(b:ab×Int×Int×c6)(a f g:Int)(s:Int→Int→b5→d7→b5→b5→b7→Int→Int→c6→Option (b7×Int×Int×Int×c6))(h:Int):Option (b7×Int×Int×Int×c6):=aA (fits (j.length+([(⟨h,f,g,0,1048576⟩:bG)]:d7).length) 40) ((some (j++[(⟨h,f,g,0,1048576⟩:bG)])).bind fun q=>aA (fits (k.length+([a]:b5).length) 8) ((gK K n b.1.Before).bind fun d=>(tD K n b.1).bind fun e=>aA (fits (c.length+([(aa ((aa (d+e))+a))]:b5).length) 8) (aA (aU (aa (((c++[(aa ((aa (d+e))+a))]).length:Int)-1)) (c++[(aa ((aa (d+e))+a))]).length) ((some (aa (o-(List.getD (c++[(aa ((aa (d+e))+a))]) ((aa (((c++[(aa ((aa (d+e))+a))]).length:Int)-1))).toNat default)))).bind fun r=>(vb K n (⟨h,f,g,0,1048576⟩:bG)).bind fun m=>aA (fits (i.length+([m]:b5).length) 8) (aA (fits (l.length+([b.1]:b7).length) 584) (s r (aa (p+1)) (i++[m]) q (k++[a]) (c++[(aa ((aa (d+e))+a))]) (l++[b.1]) b.2.1 b.2.2.1 b.2.2.2))))))
def Cm(K:Kn)(n:Nat)(f g:b5)(h:b7)(i j:Int)(k:c6)(c:b5)(o:Int→Int→b7→Option (b7×Int×Int×Int×c6))(e a:Int)(d:b7):Option (b7×Int×Int×Int×c6):=if (decide (a<(h.length:Int))) then aA (aU a c.length) (aA (aU a f.length) (aA (aU a d.length) ((some (List.set d a.toNat ({ (List.getD d a.toNat default)with H:=(aa ((List.getD c a.toNat default)+(List.getD f a.toNat default))) }:ab))).bind fun b=>aA (aU a b.length) ((gK K n ((List.getD b a.toNat default).Before)).bind fun l=>aA (aU a b.length) ((some (List.set b a.toNat ({ (List.getD b a.toNat default)with Y:=(aa (e+l)) }:ab))).bind fun m=>aA (aU a c.length) (aA (aU a g.length) (o (aa (e+(aa ((List.getD c a.toNat default)+(List.getD g a.toNat default))))) (aa (a+1)) m))))))) else some (d,e,i,j,k)
def zH(K:Kn)(n:Nat)(a b:b5)(c:b7)(d e:Int)(f:c6)(g:b5):Nat→Int→Int→b7→Option (b7×Int×Int×Int×c6)
 | 0=>fun _ _ _=>none
 | m+1=>Cm K n a b c d e f g (zH K n a b c d e f g m)
def kM(K:Kn)(n:Nat)(b c:b5)(a:b7)(d e:Int)(f:c6)(g:b5):Option (b7×Int×Int×Int×c6):=zH K n b c a d e f g n 0 0 a
def C3(K:Kn)(n:Nat)(s:ag)(r:Int)(t:bN)(c:dn)(y:Int→Int→b5→d7→b5→b5→b7→Int→Int→c6→Option (b7×Int×Int×Int×c6))(g a:Int)(h:b5)(i:d7)(d e:b5)(f:b7)(j k:Int)(l:c6):Option (b7×Int×Int×Int×c6):=if (decide (a<(c.length:Int))) then aA (aU a c.length) ((K.dE t.Layout (List.getD c a.toNat default) r j k l).bind fun m=>(lg K n ((List.getD c a.toNat default).Style) r 0).bind fun b=>(some (aa ((aa ((aa (b.Border.a0+b.Border.a2))+b.Padding.a0))+b.Padding.a2))).bind fun o=>(some (((((List.getD c a.toNat default).Style).Basis).Kind) == 1)).bind fun u=>(some (aa (m.1.H-(aa ((aa ((aa (b.Border.a0+b.Border.a2))+b.Padding.a0))+b.Padding.a2))))).bind fun v=>(some (((List.getD c a.toNat default).Style).Grow)).bind fun p=>(some (((List.getD c a.toNat default).Style).Shrink)).bind fun q=>if u then (mZ K n (((List.getD c a.toNat default).Style).Basis) 0 0).bind fun w=>o7 K n s r t c g a h i d e f m o p q y w else o7 K n s r t c g a h i d e f m o p q y v) else if (s.Style.Height.Kind == 1) then (kh K n i g).bind fun x=>kM K n d e f j k l x else kM K n d e f j k l h
def mL(K:Kn)(n:Nat)(a:ag)(b:Int)(c:bN)(d:dn):Nat→Int→Int→b5→d7→b5→b5→b7→Int→Int→c6→Option (b7×Int×Int×Int×c6)
 | 0=>fun _ _ _ _ _ _ _ _ _ _=>none
 | m+1=>C3 K n a b c d (mL K n a b c d m)
def zp(K:Kn)(n:Nat)(a:ag)(b:Int)(c:bN)(v4 v5:Int)(v6:c6):Option (b7×Int×Int×Int×c6):=(mZ K n a.Style.Height 0 0).bind fun d=>(lO K n a).bind fun e=>mL K n a b c e n (max d 0) 0 [] [] [] [] [] v4 v5 v6
def vx(K:Kn)(n:Nat)(d:b5)(e v4:Int)(a:Int→Int→b5→Option b5)(b:Int)(c:b5):Option b5:=a b (aa (v4+1)) c
def uE(K:Kn)(n:Nat)(a:b5)(c v4:Int)(v5:b5)(v6:Int)(b:Int→Int→b5→Option b5)(d:Bool):Option b5:=if d then aA (fits (v5.length+([v4]:b5).length) 8) (vx K n a c v4 b (List.getD a v4.toNat default) (v5++[v4])) else vx K n a c v4 b v6 v5
def Ah(K:Kn)(n:Nat)(a:b5)(b:Int)(c:Int→Int→b5→Option b5)(d v4:Int)(v5:b5):Option b5:=if (decide (v4<(a.length:Int))) then aA (aU v4 a.length) ((some (aa (d+(List.getD a v4.toNat default)))).bind fun v6=>if (v4 == 0) then uE K n a b v4 v5 v6 c true else uE K n a b v4 v5 v6 c (decide (v6>b))) else some v5
def wm(K:Kn)(n:Nat)(a:b5)(b:Int):Nat→Int→Int→b5→Option b5
 | 0=>fun _ _ _=>none
 | m+1=>Ah K n a b (wm K n a b m)
def qu(K:Kn)(n:Nat)(a:b5)(b:Int):Option b5:=wm K n a b n 0 0 []
def AK(K:Kn)(n:Nat)(b:ag)(c:Int)(a:V4 cL):Option ag:=some ({ b with Style:=({ b.Style with Width:=(⟨1,c⟩:cL),MinWidth:=cn,MaxWidth:=cn,Margin:=a }:aO) }:ag)
def uq(K:Kn)(n:Nat)(b:ag)(c:Int)(a:V4 cL):Option ag:=(ep K n b.Style.Margin.a3 0).bind fun d=>if (!d.2) then AK K n b c ⟨a.a0,a.a1,a.a2,({ cn with Kind:=1 }:cL)⟩ else AK K n b c a
def tn(K:Kn)(n:Nat)(a:ag)(b:Int)(v6:V4 cL):Option ag:=(ep K n a.Style.Margin.a2 0).bind fun c=>if (!c.2) then uq K n a b ⟨v6.a0,v6.a1,({ cn with Kind:=1 }:cL),v6.a3⟩ else uq K n a b v6
def td(K:Kn)(n:Nat)(a:ag)(b:Int)(v4:V4 cL):Option ag:=(ep K n a.Style.Margin.a1 0).bind fun v5=>if (!v5.2) then tn K n a b ⟨v4.a0,({ cn with Kind:=1 }:cL),v4.a2,v4.a3⟩ else tn K n a b v4
def wE(K:Kn)(n:Nat)(a:ag)(b:Int):Option ag:=(ep K n a.Style.Margin.a0 0).bind fun c=>if (!c.2) then td K n a b ⟨({ cn with Kind:=1 }:cL),a.Style.Margin.a1,a.Style.Margin.a2,a.Style.Margin.a3⟩ else td K n a b a.Style.Margin
def vF(K:Kn)(n:Nat)(o:ag)(p:Int)(q:bN)(v4 v5:Int)(v6:c6)(r:dn)(a:Int)(d:d7)(b e:b5)(c f g h i:Int)(m:Int→d7→b5→b5→Option (b7×Int×Int×Int×c6))(j:Int):Option (b7×Int×Int×Int×c6):=aA (aU a d.length) ((some (List.set d a.toNat (⟨j,h,i,f,g⟩:bG))).bind fun k=>(vb K n (⟨j,h,i,f,g⟩:bG)).bind fun l=>aA (aU a (List.set b a.toNat c).length) (aA (aU a e.length) (m (aa (a+1)) k (List.set b a.toNat c) (List.set e a.toNat (aa (l+(List.getD (List.set b a.toNat c) a.toNat default)))))))
def zV(K:Kn)(n:Nat)(s:ag)(t:Int)(k:bN)(v4 v5:Int)(v6:c6)(j:dn)(a:Int)(b:d7)(c d:b5)(e f g h i:Int)(r:Int→d7→b5→b5→Option (b7×Int×Int×Int×c6))(l:Int)(m:Bool):Option (b7×Int×Int×Int×c6):=if (!m) then (K.jD k.Widths (List.getD j a.toNat default)).bind fun o=>(lg K n ((List.getD j a.toNat default).Style) 0 0).bind fun p=>(mM K n p).bind fun q=>vF K n s t k v4 v5 v6 j a b c d e f g h i r (aa (o.2-q)) else vF K n s t k v4 v5 v6 j a b c d e f g h i r l
def Fd(K:Kn)(n:Nat)(x:Int)(z:bN)(u:dn)(y:d7)(t h:b5)(e c:Int)(d:b5)(v:Int→Int→b7→Int→Int→c6→Option (b7×Int×Int×Int×c6))(w:Int→Int→Int→b7→Int→Int→c6→Option (b7×Int×Int×Int×c6))(f i b:Int)(g:b7)(j k:Int)(l:c6):Option (b7×Int×Int×Int×c6):=if (decide (b<(d.length:Int))) then aA (aU b d.length) (aA (aU (aa ((List.getD h c.toNat default)+b)) u.length) ((wE K n (List.getD u ((aa ((List.getD h c.toNat default)+b))).toNat default) (List.getD d b.toNat default)).bind fun o=>(K.dE z.Layout o x j k l).bind fun a=>(gK K n a.1.Before).bind fun p=>(tD K n a.1).bind fun q=>(some (max i (aa ((aa (p+a.1.H))+q)))).bind fun r=>(gK K n a.1.Before).bind fun m=>aA (aU (aa ((List.getD h c.toNat default)+b)) t.length) ((some (aa (f+(aa ((List.getD d b.toNat default)+(List.getD t ((aa ((List.getD h c.toNat default)+b))).toNat default)))))).bind fun s=>aA (fits (g.length+([({ a.1 with X:=(aa (a.1.X+f)),Y:=(aa (e+m)) }:ab)]:b7).length) 584) (w s r (aa (b+1)) (g++[({ a.1 with X:=(aa (a.1.X+f)),Y:=(aa (e+m)) }:ab)]) a.2.1 a.2.2.1 a.2.2.2)))) else v (aa (e+i)) (aa (c+1)) g j k l
def tC(K:Kn)(n:Nat)(h:Int)(i:bN)(j:dn)(d:d7)(e f:b5)(a b:Int)(c:b5)(g:Int→Int→b7→Int→Int→c6→Option (b7×Int×Int×Int×c6)):Nat→Int→Int→Int→b7→Int→Int→c6→Option (b7×Int×Int×Int×c6)
 | 0=>fun _ _ _ _ _ _ _=>none
 | m+1=>Fd K n h i j d e f a b c g (tC K n h i j d e f a b c g m)
def Dd(K:Kn)(n:Nat)(s:Int)(t:bN)(u:dn)(g:d7)(p h:b5)(i b:Int)(j:b7)(k l:Int)(m:c6)(d:Int)(q:Int→Int→b7→Int→Int→c6→Option (b7×Int×Int×Int×c6))(r:Int→b5→Int→Int→Option (b7×Int×Int×Int×c6))(e:Int)(c:b5)(f a:Int):Option (b7×Int×Int×Int×c6):=if (decide (a<f)) then aA (aU a c.length) (r (aa (e-(List.getD c a.toNat default))) c f (aa (a+1))) else aA (cT (List.getD h b.toNat default) d g.length) ((kh K n (List.drop ((List.getD h b.toNat default)).toNat (List.take d.toNat g)) e).bind fun o=>tC K n s t u g p h i b o q n 0 0 0 j k l m)
def uS(K:Kn)(n:Nat)(l:Int)(o:bN)(p:dn)(h:d7)(i j:b5)(a b:Int)(c:b7)(d e:Int)(f:c6)(g:Int)(k:Int→Int→b7→Int→Int→c6→Option (b7×Int×Int×Int×c6)):Nat→Int→b5→Int→Int→Option (b7×Int×Int×Int×c6)
 | 0=>fun _ _ _ _=>none
 | m+1=>Dd K n l o p h i j a b c d e f g k (uS K n l o p h i j a b c d e f g k m)
def nY(K:Kn)(n:Nat)(k:Int)(m:bN)(o:dn)(j:d7)(c d:b5)(e a:Int)(f:b7)(g h:Int)(i:c6)(l:Int→Int→b7→Int→Int→c6→Option (b7×Int×Int×Int×c6))(b:Int):Option (b7×Int×Int×Int×c6):=aA (cT (List.getD d a.toNat default) b c.length) (uS K n k m o j c d e a f g h i b l n k (List.drop ((List.getD d a.toNat default)).toNat (List.take b.toNat c)) ((List.drop ((List.getD d a.toNat default)).toNat (List.take b.toNat c)).length:Int) 0)
def DL(K:Kn)(n:Nat)(m:Int)(o:bN)(k:dn)(i:d7)(j b:b5)(l:Int→Int→b7→Int→Int→c6→Option (b7×Int×Int×Int×c6))(c a:Int)(d:b7)(e f:Int)(g:c6):Option (b7×Int×Int×Int×c6):=if (decide (a<(b.length:Int))) then aA (aU a b.length) ((some (decide ((aa (a+1))<(b.length:Int)))).bind fun h=>if h then aA (aU (aa (a+1)) b.length) (nY K n m o k i j b c a d e f g l (List.getD b ((aa (a+1))).toNat default)) else nY K n m o k i j b c a d e f g l (k.length:Int)) else some (d,c,e,f,g)
def ki(K:Kn)(n:Nat)(d:Int)(e:bN)(f:dn)(a:d7)(b c:b5):Nat→Int→Int→b7→Int→Int→c6→Option (b7×Int×Int×Int×c6)
 | 0=>fun _ _ _ _ _ _=>none
 | m+1=>DL K n d e f a b c (ki K n d e f a b c m)
def mg(K:Kn)(n:Nat)(d:Int)(e:bN)(v4 v5:Int)(v6:c6)(f:dn)(a:d7)(b c:b5):Option (b7×Int×Int×Int×c6):=ki K n d e f a b c n 0 0 [] v4 v5 v6
def Ed(K:Kn)(n:Nat)(p:ag)(d:Int)(o:bN)(v4 v5:Int)(v6:c6)(b:dn)(s:Int→d7→b5→b5→Option (b7×Int×Int×Int×c6))(a:Int)(e:d7)(c f:b5):Option (b7×Int×Int×Int×c6):=if (decide (a<(b.length:Int))) then aA (aU a b.length) ((lg K n ((List.getD b a.toNat default).Style) d 0).bind fun q=>(mM K n q).bind fun h=>aA (aU a c.length) ((mZ K n (((List.getD b a.toNat default).Style).MinWidth) d 0).bind fun i=>(mZ K n (((List.getD b a.toNat default).Style).MaxWidth) d 1048576).bind fun j=>(some (((List.getD b a.toNat default).Style).Grow)).bind fun k=>(some (((List.getD b a.toNat default).Style).Shrink)).bind fun l=>(ep K n (((List.getD b a.toNat default).Style).Basis) d).bind fun g=>if (!g.2) then (ep K n (((List.getD b a.toNat default).Style).Width) d).bind fun m=>zV K n p d o v4 v5 v6 b a e c f h i j k l s m.1 m.2 else zV K n p d o v4 v5 v6 b a e c f h i j k l s g.1 g.2)) else if p.Style.Wrap=true then (qu K n f d).bind fun r=>mg K n d o v4 v5 v6 b e c r else mg K n d o v4 v5 v6 b e c [0]
def qX(K:Kn)(n:Nat)(a:ag)(b:Int)(c:bN)(v4 v5:Int)(v6:c6)(d:dn):Nat→Int→d7→b5→b5→Option (b7×Int×Int×Int×c6)
 | 0=>fun _ _ _ _=>none
 | m+1=>Ed K n a b c v4 v5 v6 d (qX K n a b c v4 v5 v6 d m)
def xz(K:Kn)(n:Nat)(c:ag)(d:Int)(e:bN)(v4 v5:Int)(v6:c6):Option (b7×Int×Int×Int×c6):=(lO K n c).bind fun a=>aA (fO (a.length:Int) 40) ((some (List.replicate ((a.length:Int)).toNat (kB:bG))).bind fun f=>aA (fO (a.length:Int) 8) ((some (List.replicate ((a.length:Int)).toNat (0:Int))).bind fun g=>aA (fO (a.length:Int) 8) ((some (List.replicate ((a.length:Int)).toNat (0:Int))).bind fun b=>qX K n c d e v4 v5 v6 a n 0 f g b)))
def ym(K:Kn)(n:Nat)(a:ab)(b:Int×Bool)(v5:Int):Option ab:=some ({ a with X:=(aa (a.X+b.1)),Y:=v5 }:ab)
def vR(K:Kn)(n:Nat)(a:ab)(c:Int):Option ab:=if (a.Style.Position != 1) then some a else (ep K n a.Style.Left c).bind fun b=>if (a.Style.Top.Kind == 1) then (ep K n a.Style.Top 0).bind fun v4=>ym K n a b (aa (a.Y+v4.1)) else ym K n a b a.Y
def D6(K:Kn)(n:Nat)(m:ag)(e:cb)(p q:bh)(f:b7)(g h:Int)(i:c6)(j k:Int)(o:Int→b7→Option (ab×Int×Int×c6))(a:Int)(b:b7):Option (ab×Int×Int×c6):=if (decide (a<(f.length:Int))) then aA (aU a b.length) (aA (aU a b.length) ((some (List.set b a.toNat ({ (List.getD b a.toNat default)with X:=(aa (((List.getD b a.toNat default).X)+(aa (e.Border.a3+e.Padding.a3)))) }:ab))).bind fun c=>aA (aU a c.length) (aA (aU a c.length) ((some (List.set c a.toNat ({ (List.getD c a.toNat default)with Y:=(aa (((List.getD c a.toNat default).Y)+(aa (e.Border.a0+e.Padding.a0)))) }:ab))).bind fun d=>aA (aU a d.length) ((vR K n (List.getD d a.toNat default) e.Content).bind fun l=>aA (aU a d.length) (o (aa (a+1)) (List.set d a.toNat l))))))) else some ((⟨1,m.Node,e.Margin.a3,0,j,k,0,⟨#[]⟩,m.Style,p,q,false,b⟩:ab),g,h,i)
def yK(K:Kn)(n:Nat)(g:ag)(h:cb)(i j:bh)(a:b7)(b c:Int)(d:c6)(e f:Int):Nat→Int→b7→Option (ab×Int×Int×c6)
 | 0=>fun _ _=>none
 | m+1=>D6 K n g h i j a b c d e f (yK K n g h i j a b c d e f m)
def vH(K:Kn)(n:Nat)(i:ag)(a:cb)(j k:bh)(b:b7)(c d:Int)(e:c6)(f:Int):Option (ab×Int×Int×c6):=(some (aa ((aa ((aa ((aa (a.Content+a.Border.a1))+a.Border.a3))+a.Padding.a1))+a.Padding.a3))).bind fun g=>(some (aa ((aa ((aa ((aa (f+a.Border.a0))+a.Border.a2))+a.Padding.a0))+a.Padding.a2))).bind fun h=>yK K n i a j k b c d e g h n 0 b
def uv(K:Kn)(n:Nat)(e:ag)(h:cb)(i j:bh)(f:Int)(a:b7)(b c:Int)(d:c6):Option (ab×Int×Int×c6):=if (e.Style.Height.Kind == 1) then (mZ K n e.Style.Height 0 0).bind fun g=>vH K n e h i j a b c d (max g 0) else vH K n e h i j a b c d (max f 0)
def oZ(K:Kn)(n:Nat)(c:ag)(h:Int)(e:bN)(v4 v5:Int)(v6:c6):Option (ab×Int×Int×c6):=(qC K n c.Style h).bind fun d=>(nc K n d.Margin.a0).bind fun f=>(nc K n d.Margin.a2).bind fun g=>if (c.Style.Direction == 1) then (zp K n c d.Content e v4 v5 v6).bind fun a=>uv K n c d f g a.2.1 a.1 a.2.2.1 a.2.2.2.1 a.2.2.2.2 else (xz K n c d.Content e v4 v5 v6).bind fun b=>uv K n c d f g b.2.1 b.1 b.2.2.1 b.2.2.2.1 b.2.2.2.2
def xi(K:Kn)(n:Nat)(a:dn)(c:Fv)(b:Int→Option Int)(v4:Int):Option Int:=if (decide (v4<(a.length:Int))) then aA (aU v4 a.length) ((K.mh c (List.getD a v4.toNat default)).bind fun v5=>if v5 then some v4 else b (aa (v4+1))) else some (-1)
def nB(K:Kn)(n:Nat)(a:dn)(b:Fv):Nat→Int→Option Int
 | 0=>fun _=>none
 | m+1=>xi K n a b (nB K n a b m)
def yY(K:Kn)(n:Nat)(a:dn)(b:Fv):Option Int:=nB K n a b n 0
def oC(K:Kn)(n:Nat)(a:dn)(b:Fv):Option Bool:=(yY K n a b).bind fun c=>some (decide (c≥0))
def Bl(K:Kn)(n:Nat)(d:ag)(c:Int)(b:Int→dn→Option (dn×Bool))(a:dn):Option (dn×Bool):=b (aa (c+1)) a
def Bp(K:Kn)(n:Nat)(a:ag)(f:Int→dn→Option (dn×Bool))(b:Int)(c:dn):Option (dn×Bool):=if (decide (b<(a.Kids.length:Int))) then aA (aU b a.Kids.length) ((kD K n (List.getD a.Kids b.toNat default)).bind fun d=>if d then aA (fits (c.length+([(List.getD a.Kids b.toNat default)]:dn).length) 520) (Bl K n a b f (c++[(List.getD a.Kids b.toNat default)])) else Bl K n a b f c) else (oC K n c (Fv.fn 145)).bind fun e=>some (c,e)
def z0(K:Kn)(n:Nat)(a:ag):Nat→Int→dn→Option (dn×Bool)
 | 0=>fun _ _=>none
 | m+1=>Bp K n a (z0 K n a m)
def t6(K:Kn)(n:Nat)(a:ag):Option (dn×Bool):=z0 K n a n 0 []
def kW(K:Kn)(n:Nat)(a b:bh):Option bh:=some (⟨(max a.Pos b.Pos),(min a.Neg b.Neg)⟩:bh)
def pR(K:Kn)(n:Nat)(h:b7)(a:Int)(b:b7)(c:Int)(i:Int→Bool→Int→bh→bh→b7→Option (b7×Int×bh×bh×Bool))(d:Int)(e:Bool)(f g:bh):Option (b7×Int×bh×bh×Bool):=aA (fits (b.length+([({ (List.getD h a.toNat default)with Y:=c }:ab)]:b7).length) 584) (i d e (aa (a+1)) f g (b++[({ (List.getD h a.toNat default)with Y:=c }:ab)]))
def rG(K:Kn)(n:Nat)(c:b7)(a:Int)(d:b7)(g:bh)(b:Int)(f:Int→Bool→Int→bh→bh→b7→Option (b7×Int×bh×bh×Bool))(e:bh):Option (b7×Int×bh×bh×Bool):=pR K n c a d b f (aa (b+((List.getD c a.toNat default).H))) false e ((List.getD c a.toNat default).After)
def rF(K:Kn)(n:Nat)(g:b7)(i:Int)(e:Bool)(a:Int)(f:bh)(c:b7)(b:bh)(h:Int→Bool→Int→bh→bh→b7→Option (b7×Int×bh×bh×Bool))(d:Int):Option (b7×Int×bh×bh×Bool):=if (!(List.getD g a.toNat default).Empty) then if e then rG K n g a c b d h b else rG K n g a c b d h f else pR K n g a c d h i e f b
def pH(K:Kn)(n:Nat)(a:Int)(b:Bool)(c:bh)(d:b7)(e:bh):Option (b7×Int×bh×bh×Bool):=some (d,a,e,c,b)
def sh(K:Kn)(n:Nat)(h:b7)(j:Int→Bool→Int→bh→bh→b7→Option (b7×Int×bh×bh×Bool))(b:Int)(a:Bool)(c:Int)(f d:bh)(e:b7):Option (b7×Int×bh×bh×Bool):=if (decide (c<(h.length:Int))) then aA (aU c h.length) ((kW K n d ((List.getD h c.toNat default).Before)).bind fun g=>if (!a) then (gK K n g).bind fun i=>rF K n h b a c f e g j (aa (b+i)) else rF K n h b a c f e g j 0) else if a then pH K n b a d e d else pH K n b a d e f
def iM(K:Kn)(n:Nat)(a:b7):Nat→Int→Bool→Int→bh→bh→b7→Option (b7×Int×bh×bh×Bool)
 | 0=>fun _ _ _ _ _ _=>none
 | m+1=>sh K n a (iM K n a m)
def kF(K:Kn)(n:Nat)(a:b7):Option (b7×Int×bh×bh×Bool):=iM K n a n 0 true 0 dD dD []
def Fb(K:Kn)(n:Nat)(a:cb):Option Int:=some (aa ((aa ((aa (a.Border.a3+a.Padding.a3))+a.Border.a1))+a.Padding.a1))
def vO(K:Kn)(n:Nat)(a:Bool):Option Bool:=some a
def uG(K:Kn)(n:Nat)(a:ag):Option Bool:=if (a.Kind == 1) then vO K n true else if (a.Kind == 6) then vO K n true else vO K n (a.Kind == 7)
def xC(K:Kn)(n:Nat)(o:ag)(p:cb)(q:dn×Bool)(d:b7)(e f:Int)(g:c6)(h:Int)(i j:bh)(k:Bool)(l m a:Int)(c:Int→b7→Option (ab×Int×Int×c6))(b:b7):Option (ab×Int×Int×c6):=c (aa (a+1)) b
def zN(K:Kn)(n:Nat)(r:ag)(m:cb)(s:dn×Bool)(c:b7)(d e:Int)(f:c6)(g:Int)(h i:bh)(j:Bool)(k l a:Int)(b:b7)(q:Int→b7→Option (ab×Int×Int×c6))(o:Bool):Option (ab×Int×Int×c6):=if o then aA (aU a b.length) ((vR K n (List.getD b a.toNat default) m.Content).bind fun p=>aA (aU a b.length) (xC K n r m s c d e f g h i j k l a q (List.set b a.toNat p))) else xC K n r m s c d e f g h i j k l a q b
def DP(K:Kn)(n:Nat)(r:ag)(d:cb)(q:dn×Bool)(e:b7)(f g:Int)(h:c6)(i:Int)(j k:bh)(l:Bool)(m o:Int)(t:Int→b7→Option (ab×Int×Int×c6))(a:Int)(b:b7):Option (ab×Int×Int×c6):=if (decide (a<(e.length:Int))) then aA (aU a b.length) (aA (aU a b.length) ((some (List.set b a.toNat ({ (List.getD b a.toNat default)with X:=(aa (((List.getD b a.toNat default).X)+(aa (d.Border.a3+d.Padding.a3)))) }:ab))).bind fun c=>aA (aU a c.length) (aA (aU a c.length) ((some (List.set c a.toNat ({ (List.getD c a.toNat default)with Y:=(aa (((List.getD c a.toNat default).Y)+(aa ((aa (d.Border.a0+d.Padding.a0))+i)))) }:ab))).bind fun p=>if q.2=true then aA (aU a q.1.length) ((uG K n (List.getD q.1 a.toNat default)).bind fun s=>zN K n r d q e f g h i j k l m o a p t s) else zN K n r d q e f g h i j k l m o a p t false)))) else some ((⟨1,r.Node,d.Margin.a3,0,(aa (d.Content+m)),o,0,⟨#[]⟩,r.Style,j,k,l,b⟩:ab),f,g,h)
def wC(K:Kn)(n:Nat)(k:ag)(l:cb)(o:dn×Bool)(a:b7)(b c:Int)(d:c6)(e:Int)(f g:bh)(h:Bool)(i j:Int):Nat→Int→b7→Option (ab×Int×Int×c6)
 | 0=>fun _ _=>none
 | m+1=>DP K n k l o a b c d e f g h i j (wC K n k l o a b c d e f g h i j m)
def vk(K:Kn)(n:Nat)(m:ag)(a:cb)(o:dn×Bool)(b:b7)(c d:Int)(e:c6)(f:Int)(g h:bh)(i:Bool)(j:Int):Option (ab×Int×Int×c6):=(Fb K n a).bind fun k=>(some (aa ((aa ((aa ((aa (j+a.Border.a0))+a.Padding.a0))+a.Border.a2))+a.Padding.a2))).bind fun l=>wC K n m a o b c d e f g h i k l n 0 b
def yE(K:Kn)(n:Nat)(l:ag)(m:cb)(o:dn×Bool)(a:b7)(b c:Int)(d:c6)(e i:Int)(f g:bh)(h:Bool)(j:Int×Bool)(k:Bool):Option (ab×Int×Int×c6):=if k then vk K n l m o a b c d e f g h (max j.1 0) else vk K n l m o a b c d e f g h (max i 0)
def nW(K:Kn)(n:Nat)(k:ag)(l:cb)(m:dn×Bool)(b:b7)(c d:Int)(e:c6)(f g:Int)(h i:bh)(j:Bool):Option (ab×Int×Int×c6):=(ep K n k.Style.Height 0).bind fun a=>if a.2=true then yE K n k l m b c d e f g h i j a (k.Style.Height.Kind == 1) else yE K n k l m b c d e f g h i j a false
def vW(K:Kn)(n:Nat)(h:ag)(i:cb)(v4:Bool)(m:dn×Bool)(j:Int)(o:Bool)(p k:bh)(b:b7)(c d:Int)(e:c6)(f:bh)(a:Int)(g:bh)(q:Bool):Option (ab×Int×Int×c6):=if q then (kW K n g f).bind fun l=>nW K n h i m b c d e a 0 l l true else if o then if v4 then (kW K n f p).bind fun r=>nW K n h i m b c d e a a g r false else nW K n h i m b c d e a a g f false else if v4 then (kW K n f k).bind fun s=>nW K n h i m b c d e a (aa (j+a)) g s false else (gK K n k).bind fun t=>nW K n h i m b c d e a (aa (j+(aa (a+t)))) g f false
def tV(K:Kn)(n:Nat)(l:ag)(m:cb)(p v4:Bool)(o:dn×Bool)(b:Int)(a:Bool)(c d:bh)(e:b7)(f g:Int)(h:c6)(i:bh)(j:Int)(k:bh):Option (ab×Int×Int×c6):=if a then if p then vW K n l m v4 o b a c d e f g h i j k v4 else vW K n l m v4 o b a c d e f g h i j k false else vW K n l m v4 o b a c d e f g h i j k false
def yI(K:Kn)(n:Nat)(m:ag)(o:cb)(p v4:Bool)(q:dn×Bool)(b:Int)(c:Bool)(a d:bh)(e:b7)(f g:Int)(h:c6)(i j:bh)(k:Bool):Option (ab×Int×Int×c6):=if k then (gK K n a).bind fun l=>tV K n m o p v4 q b c a d e f g h j l i else tV K n m o p v4 q b c a d e f g h j 0 i
def rp(K:Kn)(n:Nat)(m:ag)(k:cb)(l v4:Bool)(p:dn×Bool)(c:Int)(a:Bool)(b d:bh)(e:b7)(f g:Int)(h:c6):Option (ab×Int×Int×c6):=(nc K n k.Margin.a0).bind fun i=>(nc K n k.Margin.a2).bind fun j=>if l then (kW K n i b).bind fun o=>tV K n m k l v4 p c a b d e f g h j 0 o else if (!a) then yI K n m k l v4 p c a b d e f g h i j true else yI K n m k l v4 p c a b d e f g h i j (!v4)
def Dx(K:Kn)(n:Nat)(k:ag)(i:cb)(l v4:Bool)(v5:bN)(h:dn×Bool)(j:Int→b7→Int→Int→c6→Option (ab×Int×Int×c6))(c:Int)(d:b7)(e f:Int)(g:c6):Option (ab×Int×Int×c6):=if (decide (c<(h.1.length:Int))) then aA (aU c h.1.length) ((K.dE v5.Layout (List.getD h.1 c.toNat default) i.Content e f g).bind fun a=>aA (fits (d.length+([a.1]:b7).length) 584) (j (aa (c+1)) (d++[a.1]) a.2.1 a.2.2.1 a.2.2.2)) else (kF K n d).bind fun b=>rp K n k i l v4 h b.2.1 b.2.2.2.2 b.2.2.1 b.2.2.2.1 b.1 e f g
def sv(K:Kn)(n:Nat)(a:ag)(b:cb)(c v4:Bool)(v5:bN)(d:dn×Bool):Nat→Int→b7→Int→Int→c6→Option (ab×Int×Int×c6)
 | 0=>fun _ _ _ _ _=>none
 | m+1=>Dx K n a b c v4 v5 d (sv K n a b c v4 v5 d m)
def kH(K:Kn)(n:Nat)(c:ag)(e:cb)(f v4:Bool)(v5:bN)(v6 g:Int)(h:c6):Option (ab×Int×Int×c6):=(t6 K n c).bind fun d=>if d.2=true then sv K n c e f v4 v5 d n 0 [] v6 g h else (K.wH v5.Lines d.1 c.Style e.Content).bind fun a=>(qF K n a.1).bind fun b=>rp K n c e f v4 d a.2 ((b.length:Int) == 0) dD dD b v6 g h
def uz(K:Kn)(n:Nat)(b:ag)(c:bN)(v4 v5:Int)(v6:c6)(d:cb)(e f:Bool):Option (ab×Int×Int×c6):=(kH K n b d e f c v4 v5 v6).bind fun a=>some (a.1,a.2.1,a.2.2.1,a.2.2.2)
def oo(K:Kn)(n:Nat)(a:ag)(c:bN)(v4 v5:Int)(v6:c6)(b:cb)(d:Bool):Option (ab×Int×Int×c6):=if (a.Style.Overflow == 0) then if (b.Border.a2 == 0) then if (b.Padding.a2 == 0) then uz K n a c v4 v5 v6 b d (a.Style.Height.Kind != 1) else uz K n a c v4 v5 v6 b d false else uz K n a c v4 v5 v6 b d false else uz K n a c v4 v5 v6 b d false
def pL(K:Kn)(n:Nat)(a:ag)(d:Int)(c:bN)(v4 v5:Int)(v6:c6):Option (ab×Int×Int×c6):=(qC K n a.Style d).bind fun b=>if (a.Style.Overflow == 0) then if (b.Border.a0 == 0) then oo K n a c v4 v5 v6 b (b.Padding.a0 == 0) else oo K n a c v4 v5 v6 b false else oo K n a c v4 v5 v6 b false
def DY(K:Kn)(n:Nat)(a:ab)(b c:Int)(d:c6):Option (ab×Int×Int×c6):=some (a,b,c,d)
def vu(K:Kn)(n:Nat)(f:ag)(g:Int)(v5:Bool)(a:ab)(c d:Int)(e:c6):Option (ab×Int×Int×c6):=if v5 then aA v5 ((w5 K n f g a c d e).bind fun b=>DY K n a b.1 b.2.1 b.2.2) else DY K n a c d e
def tr(K:Kn)(n:Nat)(c:ag)(g:Int)(v4:bN)(v5:Bool)(d e:Int)(f:c6):Option (ab×Int×Int×c6):=if (c.Kind == 6) then (oZ K n c g v4 d e f).bind fun a=>vu K n c g v5 a.1 a.2.1 a.2.2.1 a.2.2.2 else if (c.Kind == 7) then none else if (c.Kind == 5) then none else (pL K n c g v4 d e f).bind fun b=>vu K n c g v5 b.1 b.2.1 b.2.2.1 b.2.2.2
def kz(K:Kn)(n:Nat)(b:ag)(c:Int)(d:Bool)(v4:bN)(v5:Bool)(v6 e:Int)(f:c6):Option (ab×Int×Int×c6):=if d then aA d ((zd K n b c v6 e f).bind fun a=>if a.2.1=true then some (a.1,a.2.2.1,a.2.2.2.1,a.2.2.2.2) else tr K n b c v4 v5 a.2.2.1 a.2.2.2.1 a.2.2.2.2) else tr K n b c v4 v5 v6 e f
def z8(K:Kn)(n:Nat)(a:aO):Option aO:=some a
def uF(K:Kn)(n:Nat)(a:aO):Option aO:=if (a.Padding.a3.Kind == 2) then z8 K n ({ a with Padding:=⟨a.Padding.a0,a.Padding.a1,a.Padding.a2,cn⟩ }:aO) else z8 K n a
def tB(K:Kn)(n:Nat)(a:aO):Option aO:=if (a.Margin.a3.Kind == 2) then uF K n ({ a with Margin:=⟨a.Margin.a0,a.Margin.a1,a.Margin.a2,cn⟩ }:aO) else uF K n a
def tL(K:Kn)(n:Nat)(a:aO):Option aO:=if (a.Padding.a2.Kind == 2) then tB K n ({ a with Padding:=⟨a.Padding.a0,a.Padding.a1,cn,a.Padding.a3⟩ }:aO) else tB K n a
def we(K:Kn)(n:Nat)(a:aO):Option aO:=if (a.Margin.a2.Kind == 2) then tL K n ({ a with Margin:=⟨a.Margin.a0,a.Margin.a1,cn,a.Margin.a3⟩ }:aO) else tL K n a
def tk(K:Kn)(n:Nat)(a:aO):Option aO:=if (a.Padding.a1.Kind == 2) then we K n ({ a with Padding:=⟨a.Padding.a0,cn,a.Padding.a2,a.Padding.a3⟩ }:aO) else we K n a
def wk(K:Kn)(n:Nat)(a:aO):Option aO:=if (a.Margin.a1.Kind == 2) then tk K n ({ a with Margin:=⟨a.Margin.a0,cn,a.Margin.a2,a.Margin.a3⟩ }:aO) else tk K n a
def tQ(K:Kn)(n:Nat)(v6:aO):Option aO:=if (v6.Padding.a0.Kind == 2) then wk K n ({ v6 with Padding:=⟨cn,v6.Padding.a1,v6.Padding.a2,v6.Padding.a3⟩ }:aO) else wk K n v6
def u9(K:Kn)(n:Nat)(v5:aO):Option aO:=if (v5.Margin.a0.Kind == 2) then tQ K n ({ v5 with Margin:=⟨cn,v5.Margin.a1,v5.Margin.a2,v5.Margin.a3⟩ }:aO) else tQ K n v5
def vL(K:Kn)(n:Nat)(v4:aO):Option aO:=if (v4.MaxWidth.Kind == 2) then u9 K n ({ v4 with MaxWidth:=cn }:aO) else u9 K n v4
def tq(K:Kn)(n:Nat)(a:aO):Option aO:=if (a.MinWidth.Kind == 2) then vL K n ({ a with MinWidth:=cn }:aO) else vL K n a
def AL(K:Kn)(n:Nat)(a:aO):Option aO:=if (a.Width.Kind == 2) then tq K n ({ a with Width:=cn }:aO) else tq K n a
def yj(K:Kn)(n:Nat)(b:Int)(a:aO):Option Int:=(jk K n b 1048576).bind fun c=>(pf K n a 0 c).bind fun v4=>(lg K n a 0 v4).bind fun v5=>(mM K n v5).bind fun v6=>some v6
def AU(K:Kn)(n:Nat)(e:ag)(f:bN)(g:aO)(v5:dn)(a:Int)(d:Int→Int→Int→Option eb)(b c:Int):Option eb:=d b c (aa (a+1))
def wX(K:Kn)(n:Nat)(f:ag)(g:bN)(h:aO)(v5:dn)(a b:Int)(c:Int×Int)(e:Int→Int→Int→Option eb)(d:Int):Option eb:=AU K n f g h v5 b e d (aa (a+c.2))
def ql(K:Kn)(n:Nat)(e:aO)(a b:Int):Option eb:=(yj K n a e).bind fun c=>(yj K n b e).bind fun d=>some (c,d)
def D4(K:Kn)(n:Nat)(e:ag)(f:bN)(g:aO)(v5:dn)(h:Int→Int→Int→Option eb)(c d a:Int):Option eb:=if (decide (a<(v5.length:Int))) then aA (aU a v5.length) ((K.jD f.Widths (List.getD v5 a.toNat default)).bind fun b=>if (e.Style.Direction == 1) then AU K n e f g v5 a h (max c b.1) (max d b.2) else if e.Style.Wrap=true then wX K n e f g v5 d a b h (max c b.1) else wX K n e f g v5 d a b h (aa (c+b.1))) else ql K n g c d
def AB(K:Kn)(n:Nat)(a:ag)(b:bN)(c:aO)(v5:dn):Nat→Int→Int→Int→Option eb
 | 0=>fun _ _ _=>none
 | m+1=>D4 K n a b c v5 (AB K n a b c v5 m)
def uK(K:Kn)(n:Nat)(a:ag)(c:bN):Option eb:=(AL K n a.Style).bind fun b=>(ep K n b.Width 0).bind fun v4=>if v4.2=true then ql K n b v4.1 v4.1 else (lO K n a).bind fun v5=>AB K n a c b v5 n 0 0 0
def yx(K:Kn)(n:Nat)(a:aO):Option aO:=some a
def wb(K:Kn)(n:Nat)(a:aO):Option aO:=if (a.Padding.a3.Kind == 2) then yx K n ({ a with Padding:=⟨a.Padding.a0,a.Padding.a1,a.Padding.a2,cn⟩ }:aO) else yx K n a
def wc(K:Kn)(n:Nat)(a:aO):Option aO:=if (a.Margin.a3.Kind == 2) then wb K n ({ a with Margin:=⟨a.Margin.a0,a.Margin.a1,a.Margin.a2,cn⟩ }:aO) else wb K n a
def s8(K:Kn)(n:Nat)(a:aO):Option aO:=if (a.Padding.a2.Kind == 2) then wc K n ({ a with Padding:=⟨a.Padding.a0,a.Padding.a1,cn,a.Padding.a3⟩ }:aO) else wc K n a
def tI(K:Kn)(n:Nat)(a:aO):Option aO:=if (a.Margin.a2.Kind == 2) then s8 K n ({ a with Margin:=⟨a.Margin.a0,a.Margin.a1,cn,a.Margin.a3⟩ }:aO) else s8 K n a
def vB(K:Kn)(n:Nat)(a:aO):Option aO:=if (a.Padding.a1.Kind == 2) then tI K n ({ a with Padding:=⟨a.Padding.a0,cn,a.Padding.a2,a.Padding.a3⟩ }:aO) else tI K n a
def ul(K:Kn)(n:Nat)(a:aO):Option aO:=if (a.Margin.a1.Kind == 2) then vB K n ({ a with Margin:=⟨a.Margin.a0,cn,a.Margin.a2,a.Margin.a3⟩ }:aO) else vB K n a
def tp(K:Kn)(n:Nat)(v6:aO):Option aO:=if (v6.Padding.a0.Kind == 2) then ul K n ({ v6 with Padding:=⟨cn,v6.Padding.a1,v6.Padding.a2,v6.Padding.a3⟩ }:aO) else ul K n v6
def tJ(K:Kn)(n:Nat)(v5:aO):Option aO:=if (v5.Margin.a0.Kind == 2) then tp K n ({ v5 with Margin:=⟨cn,v5.Margin.a1,v5.Margin.a2,v5.Margin.a3⟩ }:aO) else tp K n v5
def vw(K:Kn)(n:Nat)(v4:aO):Option aO:=if (v4.MaxWidth.Kind == 2) then tJ K n ({ v4 with MaxWidth:=cn }:aO) else tJ K n v4
def ut(K:Kn)(n:Nat)(a:aO):Option aO:=if (a.MinWidth.Kind == 2) then vw K n ({ a with MinWidth:=cn }:aO) else vw K n a
def vT(K:Kn)(n:Nat)(a:aO):Option aO:=if (a.Width.Kind == 2) then ut K n ({ a with Width:=cn }:aO) else ut K n a
def E0(K:Kn)(n:Nat)(h:bN)(v6:dn×Bool)(g:Int→Int→Int→Option eb)(b c a:Int):Option eb:=if (decide (a<(v6.1.length:Int))) then aA (aU a v6.1.length) ((K.jD h.Widths (List.getD v6.1 a.toNat default)).bind fun d=>g (max b d.1) (max c d.2) (aa (a+1))) else (jA K n b).bind fun e=>(jA K n c).bind fun f=>some (e,f)
def xf(K:Kn)(n:Nat)(a:bN)(v6:dn×Bool):Nat→Int→Int→Int→Option eb
 | 0=>fun _ _ _=>none
 | m+1=>E0 K n a v6 (xf K n a v6 m)
def nn(K:Kn)(n:Nat)(a:ag)(b:bN):Option eb:=(vT K n a.Style).bind fun d=>(ep K n d.Width 0).bind fun v4=>if v4.2=true then (jA K n v4.1).bind fun v5=>some (v5,v5) else (t6 K n a).bind fun v6=>if (!v6.2) then (K.xX b.Spread v6.1 a.Style).bind fun c=>(jA K n c.1).bind fun e=>(jA K n c.2).bind fun f=>some (e,f) else xf K n b v6 n 0 0 0
def xS(K:Kn)(n:Nat)(b:ag)(d:bN):Option eb:=(nn K n b d).bind fun c=>(vT K n b.Style).bind fun v4=>(pf K n v4 0 c.1).bind fun v5=>(lg K n v4 0 v5).bind fun v6=>(mM K n v6).bind fun e=>(pf K n v4 0 c.2).bind fun f=>(lg K n v4 0 f).bind fun g=>(mM K n g).bind fun a=>some (e,a)
def pV(K:Kn)(n:Nat)(a:ag)(b:bN):Option eb:=if (a.Kind == 6) then (uK K n a b).bind fun c=>some (c.1,c.2) else if (a.Kind == 7) then none else (xS K n a b).bind fun v4=>some (v4.1,v4.2)
def rM(K:Kn)(n:Nat)(a:dw)(b:aS):Option dw:=aA (fits (a.length+([({ b with Char:=32 }:aS)]:dw).length) 32) (some (a++[({ b with Char:=32 }:aS)]))
def nG(K:Kn)(n:Nat)(b:aS)(a:dw)(v6:Bool):Option dw:=if v6 then some a else rM K n a ({ b with Soft:=true }:aS)
def tT(K:Kn)(n:Nat)(b:aS)(a:dw)(v5:Bool):Option dw:=if v5 then some a else if (!(b.Box.Style.WhiteSpace == 2)) then if ((a.length:Int) == 0) then nG K n b a true else aA (aU (aa ((a.length:Int)-1)) a.length) (if (List.getD a ((aa ((a.length:Int)-1))).toNat default).Soft=true then nG K n b a true else aA (aU (aa ((a.length:Int)-1)) a.length) (nG K n b a (((List.getD a ((aa ((a.length:Int)-1))).toNat default).Kind) == 2))) else rM K n a b
def uZ(K:Kn)(n:Nat)(a:aS)(b:dw)(v4:Bool):Option dw:=if v4 then rM K n b ({ a with Kind:=2 }:aS) else if (a.Box.Style.WhiteSpace == 2) then tT K n a b (a.Char == 13) else tT K n a b false
def md(K:Kn)(n:Nat)(a:aS)(b:dw)(c:Bool):Option dw:=if c then if (a.Box.Style.WhiteSpace == 2) then uZ K n a b (a.Char == 10) else uZ K n a b false else aA (fits (b.length+([a]:dw).length) 32) (some (b++[a]))
def A4(K:Kn)(n:Nat)(a:aS)(b:dw):Option dw:=if (a.Char == 9) then md K n a b true else if (a.Char == 10) then md K n a b true else if (a.Char == 13) then md K n a b true else md K n a b (a.Char == 32)
def nN(K:Kn)(n:Nat)(e:dn)(a:Int)(d:Int→Int→dw→Option (Int×dw))(b:Int)(c:dw):Option (Int×dw):=d (aa (a+1)) b c
def k9(K:Kn)(n:Nat)(e:dn)(a:Int)(d:Int→Int→dw→Option (Int×dw))(b:Int)(c:dw):Option (Int×dw):=nN K n e a d b c
def yu(K:Kn)(n:Nat)(c:dn)(a d:Int)(i:Int→Int→dw→Option (Int×dw))(j:Nat→dw→Option (Int×dw))(b:Nat)(e:dw):Option (Int×dw):=if decide (b<((List.getD c a.toNat default).Text).size)=true then (some ((Utf8.decode ((List.getD c a.toNat default).Text) b).1:Int)).bind fun f=>(some (b+(Utf8.decode ((List.getD c a.toNat default).Text) b).2)).bind fun g=>(A4 K n (⟨1,(aa (d+1)),f,false,(List.getD c a.toNat default)⟩:aS) e).bind fun h=>j g h else k9 K n c a i (aa (d+1)) e
def wv(K:Kn)(n:Nat)(d:dn)(a b:Int)(c:Int→Int→dw→Option (Int×dw)):Nat→Nat→dw→Option (Int×dw)
 | 0=>fun _ _=>none
 | m+1=>yu K n d a b c (wv K n d a b c m)
def xW(K:Kn)(n:Nat)(d:dn)(e:Int→Int→dw→Option (Int×dw))(a b:Int)(c:dw):Option (Int×dw):=if (decide (a<(d.length:Int))) then aA (aU a d.length) ((kD K n (List.getD d a.toNat default)).bind fun g=>if (!g) then nN K n d a e b c else (some (((List.getD d a.toNat default).Kind) == 2)).bind fun h=>if h then (K.BB ((List.getD d a.toNat default).Kids) (aa (b+1)) c).bind fun f=>k9 K n d a e f.1 f.2 else (some (((List.getD d a.toNat default).Kind) == 4)).bind fun i=>if i then aA (fits (c.length+([(⟨2,(aa (b+1)),0,false,(List.getD d a.toNat default)⟩:aS)]:dw).length) 32) (k9 K n d a e (aa (b+1)) (c++[(⟨2,(aa (b+1)),0,false,(List.getD d a.toNat default)⟩:aS)])) else (some (((List.getD d a.toNat default).Kind) == 5)).bind fun j=>if j then aA (fits (c.length+([(⟨3,(aa (b+1)),0,false,(List.getD d a.toNat default)⟩:aS)]:dw).length) 32) (k9 K n d a e (aa (b+1)) (c++[(⟨3,(aa (b+1)),0,false,(List.getD d a.toNat default)⟩:aS)])) else (some (((List.getD d a.toNat default).Kind) == 3)).bind fun k=>if k then wv K n d a b e n 0 c else k9 K n d a e (aa (b+1)) c) else some (b,c)
def uX(K:Kn)(n:Nat)(a:dn):Nat→Int→Int→dw→Option (Int×dw)
 | 0=>fun _ _ _=>none
 | m+1=>xW K n a (uX K n a m)
def nL(K:Kn)(n:Nat)(a:dn)(b:Int)(c:dw):Option (Int×dw):=uX K n a n 0 b c
def yS(K:Kn)(n:Nat)(a:dn):Option dw:=(nL K n a 0 ([]:dw)).bind fun b=>some b.2
def tU(K:Kn)(n:Nat)(a:Bool):Option Bool:=some a
def nX(K:Kn)(n:Nat)(a:aS):Option Bool:=if (a.Kind == 1) then if (a.Box.Style.WhiteSpace != 1) then tU K n (a.Box.Style.WhiteSpace != 2) else tU K n false else tU K n false
def yg(K:Kn)(n:Nat)(v6:Bool):Option Int:=if v6 then some 10 else some 8
def oa(K:Kn)(n:Nat)(a:Int)(v5:Bool):Option Int:=if v5 then some 14 else if (decide (a≥65)) then yg K n (decide (a≤90)) else yg K n false
def gL(K:Kn)(n:Nat)(a:Int)(v4:Bool):Option Int:=if v4 then some 6 else if (a == 37) then oa K n a true else if (a == 64) then oa K n a true else if (a == 77) then oa K n a true else if (a == 87) then oa K n a true else if (a == 109) then oa K n a true else oa K n a (a == 119)
def iH(K:Kn)(n:Nat)(a:Int)(b:Bool):Option Int:=if b then some 4 else if (a == 34) then gL K n a true else if (a == 40) then gL K n a true else if (a == 41) then gL K n a true else if (a == 42) then gL K n a true else if (a == 45) then gL K n a true else if (a == 47) then gL K n a true else if (a == 91) then gL K n a true else if (a == 92) then gL K n a true else if (a == 93) then gL K n a true else if (a == 94) then gL K n a true else if (a == 102) then gL K n a true else if (a == 114) then gL K n a true else if (a == 116) then gL K n a true else if (a == 123) then gL K n a true else gL K n a (a == 125)
def my(K:Kn)(n:Nat)(a:Int)(b:Bool):Option Int:=if b then some 0 else if (decide (a≥4352)) then some 16 else if (a == 32) then iH K n a true else if (a == 160) then iH K n a true else if (a == 33) then iH K n a true else if (a == 39) then iH K n a true else if (a == 44) then iH K n a true else if (a == 46) then iH K n a true else if (a == 58) then iH K n a true else if (a == 59) then iH K n a true else if (a == 73) then iH K n a true else if (a == 105) then iH K n a true else if (a == 106) then iH K n a true else if (a == 108) then iH K n a true else iH K n a (a == 124)
def mA(K:Kn)(n:Nat)(a:Int):Option Int:=if (decide (a<32)) then my K n a true else if (decide (a>1114111)) then my K n a true else if (decide (a≥127)) then if (decide (a≤159)) then my K n a true else if (decide (a≥768)) then my K n a (decide (a≤879)) else my K n a false else if (decide (a≥768)) then my K n a (decide (a≤879)) else my K n a false
def qg(K:Kn)(n:Nat)(a:Bool):Option Bool:=if a then some true else some false
def vg(K:Kn)(n:Nat)(a:Int):Option Bool:=if (a == 9) then qg K n true else if (a == 10) then qg K n true else if (a == 13) then qg K n true else qg K n (a == 32)
def w7(K:Kn)(n:Nat)(a:Bool):Option Bool:=some a
def xQ(K:Kn)(n:Nat)(a b:Int)(c:Bool):Option Bool:=if c then some true else if (decide (a≥11904)) then w7 K n true else w7 K n (decide (b≥11904))
def zb(K:Kn)(n:Nat)(a b:Int)(v5:Bool):Option Bool:=if v5 then some false else (vg K n a).bind fun v6=>if v6 then some true else if (a == 45) then xQ K n a b (b != 45) else xQ K n a b false
def xG(K:Kn)(n:Nat)(b a:Int):Option Bool:=(vg K n a).bind fun c=>if c then zb K n b a true else (mA K n a).bind fun v4=>zb K n b a (v4 == 0)
def sa(K:Kn)(n:Nat)(c:ByteArray)(a:Nat)(d:Int→Nat→b5→Option b5)(b:b5):Option b5:=d ((Utf8.decode c a).1:Int) (a+(Utf8.decode c a).2) b
def sn(K:Kn)(n:Nat)(e:ByteArray)(a:Nat)(b:b5)(d:Int→Nat→b5→Option b5)(c:Bool):Option b5:=if c then aA (fits (b.length+([((a:Nat):Int)]:b5).length) 8) (sa K n e a d (b++[((a:Nat):Int)])) else sa K n e a d b
def oc(K:Kn)(n:Nat)(c:ByteArray)(e:Int→Nat→b5→Option b5)(f:Int)(a:Nat)(b:b5):Option b5:=if decide (a<c.size)=true then if (decide (((a:Nat):Int)>0)) then (xG K n f ((Utf8.decode c a).1:Int)).bind fun d=>sn K n c a b e d else sn K n c a b e false else some b
def qJ(K:Kn)(n:Nat)(a:ByteArray):Nat→Int→Nat→b5→Option b5
 | 0=>fun _ _ _=>none
 | m+1=>oc K n a (qJ K n a m)
def y8(K:Kn)(n:Nat)(a:ByteArray):Option b5:=qJ K n a n 0 0 []
def oE(K:Kn)(n:Nat)(a:Bool):Option Bool:=some a
def oU(K:Kn)(n:Nat)(c d:aS)(a:Bool):Option Bool:=if a then some false else (y8 K n (runesBytes [c.Char,d.Char])).bind fun b=>some (decide ((b.length:Int)>0))
def wN(K:Kn)(n:Nat)(b a:aS)(c:Bool):Option Bool:=if c then if (b.Kind == 3) then if (a.Kind == 3) then oE K n true else (nX K n a).bind fun v4=>oE K n v4 else (nX K n b).bind fun v5=>if v5 then if (a.Kind == 3) then oE K n true else (nX K n a).bind fun v6=>oE K n v6 else oE K n false else if (b.Kind != 1) then oU K n b a true else if (a.Kind != 1) then oU K n b a true else (nX K n b).bind fun d=>if (!d) then oU K n b a true else if (b.Char != 32) then (nX K n a).bind fun e=>oU K n b a (!e) else oU K n b a false
def sZ(K:Kn)(n:Nat)(a b:aS):Option Bool:=if (a.Kind == 3) then wN K n a b true else wN K n a b (b.Kind == 3)
def rU(K:Kn)(n:Nat)(a:Int):Option Int:=some (min (max a 0) 1048576)
def za(K:Kn)(n:Nat)(a:Int):Option Int:=(rU K n a).bind fun b=>some b
def wL(K:Kn)(n:Nat)(a:Int):Option Int:=(rU K n a).bind fun b=>(rU K n a).bind fun c=>some (aa (b+(aa (Int.tdiv (aa (c+3)) 4))))
def oT(K:Kn)(n:Nat)(a:aO):Option eb:=(za K n a.FontSize).bind fun b=>(wL K n a.FontSize).bind fun c=>some ((aa (b+((aa ((max a.LineHeight 0)-c)) / 2))),(aa ((max a.LineHeight 0)-(aa (b+((aa ((max a.LineHeight 0)-c)) / 2))))))
def yJ(K:Kn)(n:Nat)(a:Int)(b:b5)(v4:Bool):Option b5:=if v4 then aA (fits (b.length+([(fz .u8 240 (IntKind.wrap .u8 (a / 262144))),(fz .u8 128 (iQ .u8 (IntKind.wrap .u8 (a / 4096)) 63)),(fz .u8 128 (iQ .u8 (IntKind.wrap .u8 (a / 64)) 63)),(fz .u8 128 (iQ .u8 (IntKind.wrap .u8 a) 63))]:b5).length) 1) (some (b++[(fz .u8 240 (IntKind.wrap .u8 (a / 262144))),(fz .u8 128 (iQ .u8 (IntKind.wrap .u8 (a / 4096)) 63)),(fz .u8 128 (iQ .u8 (IntKind.wrap .u8 (a / 64)) 63)),(fz .u8 128 (iQ .u8 (IntKind.wrap .u8 a) 63))])) else aA (fits (b.length+([239,191,189]:b5).length) 1) (some (b++[239,191,189]))
def ox(K:Kn)(n:Nat)(a:Int)(b:b5)(c:Bool):Option b5:=if c then aA (fits (b.length+([(fz .u8 224 (IntKind.wrap .u8 (a / 4096))),(fz .u8 128 (iQ .u8 (IntKind.wrap .u8 (a / 64)) 63)),(fz .u8 128 (iQ .u8 (IntKind.wrap .u8 a) 63))]:b5).length) 1) (some (b++[(fz .u8 224 (IntKind.wrap .u8 (a / 4096))),(fz .u8 128 (iQ .u8 (IntKind.wrap .u8 (a / 64)) 63)),(fz .u8 128 (iQ .u8 (IntKind.wrap .u8 a) 63))])) else if (decide ((IntKind.wrap .u32 a)>65535)) then yJ K n a b (decide ((IntKind.wrap .u32 a)≤1114111)) else yJ K n a b false
def wh(K:Kn)(n:Nat)(a:Int)(b:b5):Option b5:=if (decide ((IntKind.wrap .u32 a)≤2047)) then aA (fits (b.length+([(fz .u8 192 (IntKind.wrap .u8 (a / 64))),(fz .u8 128 (iQ .u8 (IntKind.wrap .u8 a) 63))]:b5).length) 1) (some (b++[(fz .u8 192 (IntKind.wrap .u8 (a / 64))),(fz .u8 128 (iQ .u8 (IntKind.wrap .u8 a) 63))])) else if (decide ((IntKind.wrap .u32 a)<55296)) then ox K n a b true else if (decide ((57343:Int)<(IntKind.wrap .u32 a))) then ox K n a b (decide ((IntKind.wrap .u32 a)≤65535)) else ox K n a b false
def vf(K:Kn)(n:Nat)(a:Int)(b:b5):Option b5:=if (decide ((IntKind.wrap .u32 a)≤127)) then aA (fits (b.length+([(IntKind.wrap .u8 a)]:b5).length) 1) (some (b++[(IntKind.wrap .u8 a)])) else (wh K n a b).bind fun c=>some c
def qe(K:Kn)(n:Nat)(b:Int)(c:Bool)(a:b5):Option (Int×Unit×b5):=if c then (vf K n b a).bind fun v4=>some ((aa ((v4.length:Int)-(a.length:Int))),(),v4) else (vf K n b a).bind fun v5=>some ((aa ((v5.length:Int)-(a.length:Int))),(),v5)
def oV(K:Kn)(n:Nat)(a b:Int):Option Int:=(mA K n a).bind fun c=>(rU K n b).bind fun v4=>some (aa (Int.tdiv (aa ((aa (c*v4))+15)) 16))
def xp(K:Kn)(n:Nat)(a:ByteArray)(c:Int)(b:Int→Nat→Option Int)(v5:Int)(v6:Nat):Option Int:=if decide (v6<a.size)=true then (oV K n ((Utf8.decode a v6).1:Int) c).bind fun d=>b (aa (v5+d)) (v6+(Utf8.decode a v6).2) else some v5
def yt(K:Kn)(n:Nat)(a:ByteArray)(b:Int):Nat→Int→Nat→Option Int
 | 0=>fun _ _=>none
 | m+1=>xp K n a b (yt K n a b m)
def rE(K:Kn)(n:Nat)(a:ByteArray)(b:Int):Option Int:=yt K n a b n 0 0
def Ap(K:Kn)(n:Nat)(v6:b5)(a:aO)(c:ByteArray)(d:Int):Option aQ:=(rE K n c a.FontSize).bind fun e=>(oT K n a).bind fun b=>some ({ dX with Text:=(bytesOf v6),Width:=e,Space:=d,Above:=b.1,Below:=b.2 }:aQ)
def wB(K:Kn)(n:Nat)(v6:b5)(a:aO)(c:ByteArray)(d:Int):Option aQ:=(rE K n c a.FontSize).bind fun e=>(oT K n a).bind fun b=>some ({ dX with Text:=(bytesOf v6),Width:=e,Space:=d,Above:=b.1,Below:=b.2 }:aQ)
def ud(K:Kn)(n:Nat)(a:dw)(v6:b5)(j:Bool):Option aQ:=if j then aA (aU (0:Int) a.length) ((some (((List.getD a (0:Int).toNat default).Box).Style)).bind fun b=>aA (pj v6) (aA (aU (aa ((a.length:Int)-1)) a.length) ((some ((List.getD a ((aa ((a.length:Int)-1))).toNat default).Soft)).bind fun d=>if d then aA (cT (0:Int) (aa (((bytesOf v6).size:Int)-1)) (bytesOf v6).size) ((some (ByteArray.extract (bytesOf v6) (0:Int).toNat ((aa (((bytesOf v6).size:Int)-1))).toNat)).bind fun e=>(oV K n 32 b.FontSize).bind fun f=>Ap K n v6 b e f) else Ap K n v6 b (bytesOf v6) 0))) else aA (aU (0:Int) a.length) ((some (((List.getD a (0:Int).toNat default).Box).Style)).bind fun c=>aA (pj v6) (aA (aU (aa ((a.length:Int)-1)) a.length) ((some ((List.getD a ((aa ((a.length:Int)-1))).toNat default).Soft)).bind fun g=>if g then aA (cT (0:Int) (aa (((bytesOf v6).size:Int)-1)) (bytesOf v6).size) ((some (ByteArray.extract (bytesOf v6) (0:Int).toNat ((aa (((bytesOf v6).size:Int)-1))).toNat)).bind fun h=>(oV K n 32 c.FontSize).bind fun i=>wB K n v6 c h i) else wB K n v6 c (bytesOf v6) 0)))
def yM(K:Kn)(n:Nat)(a:dw)(b:Int→Bool→b5→Option aQ)(v4:Int)(v5:Bool)(v6:b5):Option aQ:=if v5 then if (decide (v4<(a.length:Int))) then aA (aU v4 a.length) ((qe K n ((List.getD a v4.toNat default).Char) true v6).bind fun c=>b (aa (v4+1)) true c.2.2) else ud K n a v6 true else if (decide (v4<(a.length:Int))) then aA (aU v4 a.length) ((qe K n ((List.getD a v4.toNat default).Char) false v6).bind fun d=>b (aa (v4+1)) true d.2.2) else ud K n a v6 false
def vj(K:Kn)(n:Nat)(a:dw):Nat→Int→Bool→b5→Option aQ
 | 0=>fun _ _ _=>none
 | m+1=>yM K n a (vj K n a m)
def EZ(K:Kn)(n:Nat)(a:dw):Option aQ:=vj K n a n 0 false []
def nV(K:Kn)(n:Nat)(h:dw)(a:Int)(b:dO)(c:Bool)(i:Int→dO→Option dO)(g:Int)(d:aQ):Option dO:=(some (((List.getD h a.toNat default).Box).Node)).bind fun e=>(some (((List.getD h a.toNat default).Box).Style)).bind fun f=>aA (fits (b.length+([({ d with Node:=e,Style:=f,Glued:=c }:aQ)]:dO).length) 536) (i g (b++[({ d with Node:=e,Style:=f,Glued:=c }:aQ)]))
def mE(K:Kn)(n:Nat)(d:dw)(b:Int)(c:dO)(e:Bool)(a:Int)(h:Int→dO→Option dO)(i:Int→Option dO)(f:Bool):Option dO:=if f then i (aa (a+1)) else aA (cT b a d.length) ((EZ K n (List.drop b.toNat (List.take a.toNat d))).bind fun g=>nV K n d b c e h a g)
def AZ(K:Kn)(n:Nat)(b:dw)(c:Int)(d:dO)(e:Bool)(f:Int→dO→Option dO)(g:Int→Option dO)(a:Int):Option dO:=if (decide (a<(b.length:Int))) then aA (aU a b.length) (if (((List.getD b a.toNat default).Kind) == 1) then aA (aU a b.length) (if (((List.getD b a.toNat default).Of) == ((List.getD b c.toNat default).Of)) then aA (aU (aa (a-1)) b.length) (aA (aU a b.length) ((sZ K n (List.getD b ((aa (a-1))).toNat default) (List.getD b a.toNat default)).bind fun h=>mE K n b c d e a f g (!h))) else mE K n b c d e a f g false) else mE K n b c d e a f g false) else mE K n b c d e a f g false
def uV(K:Kn)(n:Nat)(e:dw)(a:Int)(b:dO)(c:Bool)(d:Int→dO→Option dO):Nat→Int→Option dO
 | 0=>fun _=>none
 | m+1=>AZ K n e a b c d (uV K n e a b c d m)
def qz(K:Kn)(n:Nat)(d:dw)(a:Int)(b:dO)(g:Int→dO→Option dO)(c:Bool):Option dO:=(some (((List.getD d a.toNat default).Kind) == 2)).bind fun e=>if e then nV K n d a b c g (aa (a+1)) ({ dX with Forced:=true }:aQ) else (some (((List.getD d a.toNat default).Kind) == 3)).bind fun f=>if f then none else uV K n d a b c g n (aa (a+1))
def Bh(K:Kn)(n:Nat)(b:dw)(d:Int→dO→Option dO)(a:Int)(c:dO):Option dO:=if (decide (a<(b.length:Int))) then aA (aU a b.length) (if (decide (a>0)) then aA (aU (aa (a-1)) b.length) (if (((List.getD b ((aa (a-1))).toNat default).Kind) != 2) then aA (aU (aa (a-1)) b.length) ((sZ K n (List.getD b ((aa (a-1))).toNat default) (List.getD b a.toNat default)).bind fun e=>qz K n b a c d (!e)) else qz K n b a c d false) else qz K n b a c d false) else some c
def tf(K:Kn)(n:Nat)(a:dw):Nat→Int→dO→Option dO
 | 0=>fun _ _=>none
 | m+1=>Bh K n a (tf K n a m)
def nj(K:Kn)(n:Nat)(a:dn)(c:Unit):Option dO:=(yS K n a).bind fun b=>tf K n b n 0 []
def Bf(K:Kn)(n:Nat)(b:ag)(c:cb)(d:bN)(v4 v5:Int)(v6:c6):Option (ab×Int×Int×c6):=(kH K n b c false false d v4 v5 v6).bind fun a=>some (a.1,a.2.1,a.2.2.1,a.2.2.2)
def xl(K:Kn)(n:Nat)(a:dn)(b:Int)(c:bN):Option dO:=(nj K n a ()).bind fun v4=>some v4
def t9(K:Kn)(n:Nat)(b:dO)(v4:Int)(a:Int→Option Int)(v5:Bool):Option Int:=if v5 then a (aa (v4+1)) else some v4
def zW(K:Kn)(n:Nat)(a:dO)(b:Int→Option Int)(v4:Int):Option Int:=if (decide (v4<(a.length:Int))) then aA (aU v4 a.length) (t9 K n a v4 b ((List.getD a v4.toNat default).Glued)) else t9 K n a v4 b false
def AI(K:Kn)(n:Nat)(a:dO):Nat→Int→Option Int
 | 0=>fun _=>none
 | m+1=>zW K n a (AI K n a m)
def rz(K:Kn)(n:Nat)(a:dO)(b:Int):Option Int:=AI K n a n (aa (b+1))
def ru(K:Kn)(n:Nat)(b:dO)(c:Int→Option Int)(a:Int):Option Int:=if (decide (a≥0)) then aA (aU a b.length) (if (!(List.getD b a.toNat default).Forced) then some a else c (aa (a-1))) else some (-1)
def rT(K:Kn)(n:Nat)(a:dO):Nat→Int→Option Int
 | 0=>fun _=>none
 | m+1=>ru K n a (rT K n a m)
def pG(K:Kn)(n:Nat)(a:dO):Option Int:=rT K n a n (aa ((a.length:Int)-1))
def xv(K:Kn)(n:Nat)(v5:Int):Option Int:=some v5
def AW(K:Kn)(n:Nat)(a:dO)(d:Int→Int→Option Int)(c b:Int):Option Int:=if (decide (b<(a.length:Int))) then aA (aU b a.length) (d (aa (c+(aa (((List.getD a b.toNat default).Width)+((List.getD a b.toNat default).Space))))) (aa (b+1))) else (pG K n a).bind fun v4=>if (decide (v4≥0)) then aA (aU v4 a.length) (xv K n (aa (c-((List.getD a v4.toNat default).Space)))) else xv K n c
def Au(K:Kn)(n:Nat)(a:dO):Nat→Int→Int→Option Int
 | 0=>fun _ _=>none
 | m+1=>AW K n a (Au K n a m)
def pS(K:Kn)(n:Nat)(a:dO):Option Int:=Au K n a n 0 0
def DX(K:Kn)(n:Nat)(e:dO)(f a:Int)(b:b5)(c:Int)(d:Int→b5→Option b5):Option b5:=d c (b++[a])
def uf(K:Kn)(n:Nat)(d:dO)(f a:Int)(e:b5)(b:Int)(i:Int→b5→Option b5)(j:Int→Option b5)(g:Bool):Option b5:=if g then (rz K n d b).bind fun c=>aA (cT a c d.length) ((pS K n (List.drop a.toNat (List.take c.toNat d))).bind fun h=>if (decide (h>f)) then DX K n d f a e b i else j c) else DX K n d f a e b i
def zi(K:Kn)(n:Nat)(b:dO)(g c:Int)(d:b5)(e:Int→b5→Option b5)(f:Int→Option b5)(a:Int):Option b5:=if (decide (a<(b.length:Int))) then aA (aU (aa (a-1)) b.length) (uf K n b g c d a e f (!(List.getD b ((aa (a-1))).toNat default).Forced)) else uf K n b g c d a e f false
def AP(K:Kn)(n:Nat)(d:dO)(e a:Int)(b:b5)(c:Int→b5→Option b5):Nat→Int→Option b5
 | 0=>fun _=>none
 | m+1=>zi K n d e a b c (AP K n d e a b c m)
def Ba(K:Kn)(n:Nat)(c:dO)(f:Int)(e:Int→b5→Option b5)(a:Int)(b:b5):Option b5:=if (decide (a<(c.length:Int))) then aA (fits (b.length+([a]:b5).length) 8) ((rz K n c a).bind fun d=>AP K n c f a b e n d) else some b
def zF(K:Kn)(n:Nat)(a:dO)(b:Int):Nat→Int→b5→Option b5
 | 0=>fun _ _=>none
 | m+1=>Ba K n a b (zF K n a b m)
def z7(K:Kn)(n:Nat)(a:dO)(b:Int):Option b5:=zF K n a b n 0 []
def su(K:Kn)(n:Nat)(c:aO)(a b:Int):Option Int:=if (decide (b≥a)) then some 0 else if (c.TextAlign == 1) then some (aa (Int.tdiv (aa (a-b)) 2)) else if (c.TextAlign == 2) then some (aa (a-b)) else some 0
def Av(K:Kn)(n:Nat)(a:Bool):Option Bool:=some a
def Ek(K:Kn)(n:Nat)(a b:ByteArray):Option Bool:=if (decide ((a.size:Int)≥(b.size:Int))) then aA (cT (aa ((a.size:Int)-(b.size:Int))) (a.size:Int) a.size) (Av K n ((ByteArray.extract a ((aa ((a.size:Int)-(b.size:Int)))).toNat ((a.size:Int)).toNat).toList == b.toList)) else Av K n false
def xN(K:Kn)(n:Nat)(a b:ByteArray):Option Bool:=(Ek K n a b).bind fun c=>some c
def A5(K:Kn)(n:Nat)(e:dO)(f:aO)(g a:Int)(d:Int→Int→Int→Option ab)(b c:Int):Option ab:=d b c (aa (a+1))
def zf(K:Kn)(n:Nat)(w:dO)(x:aO)(y v z u q r:Int)(b:aQ)(s:Int→Int→b7→Option ab)(t:Int→b7→Option ab)(a:Int)(c:b7):Option ab:=if (decide (a<(b.Box.length:Int))) then aA (aU a b.Box.length) ((some ((List.getD b.Box a.toNat default).Kind)).bind fun e=>(some ((List.getD b.Box a.toNat default).Node)).bind fun f=>(some (aa (((List.getD b.Box a.toNat default).X)+q))).bind fun g=>(some ((List.getD b.Box a.toNat default).az)).bind fun h=>(some ((List.getD b.Box a.toNat default).Text)).bind fun i=>(some ((List.getD b.Box a.toNat default).Style)).bind fun j=>(some ((List.getD b.Box a.toNat default).Before)).bind fun k=>(some ((List.getD b.Box a.toNat default).After)).bind fun d=>(some ((List.getD b.Box a.toNat default).Empty)).bind fun l=>(some ((List.getD b.Box a.toNat default).Kids)).bind fun m=>(gK K n d).bind fun p=>(some (aa (((List.getD b.Box a.toNat default).Y)+(aa ((aa (v-((List.getD b.Box a.toNat default).H)))-p))))).bind fun o=>aA (fits (c.length+([(⟨e,f,g,o,(List.getD b.Box a.toNat default).W,(List.getD b.Box a.toNat default).H,h,i,j,k,d,l,m⟩:ab)]:b7).length) 584) (t (aa (a+1)) (c++[(⟨e,f,g,o,(List.getD b.Box a.toNat default).W,(List.getD b.Box a.toNat default).H,h,i,j,k,d,l,m⟩:ab)]))) else s (aa (q+(aa (b.Width+b.Space)))) (aa (r+1)) c
def AA(K:Kn)(n:Nat)(f:dO)(g:aO)(h i j a b c:Int)(d:aQ)(e:Int→Int→b7→Option ab):Nat→Int→b7→Option ab
 | 0=>fun _ _=>none
 | m+1=>zf K n f g h i j a b c d e (AA K n f g h i j a b c d e m)
def uQ(K:Kn)(n:Nat)(g:dO)(h:aO)(i j k a b c:Int)(d:aQ)(f:Int→Int→b7→Option ab)(e:b7):Option ab:=AA K n g h i j k a b c d f n 0 e
def ov(K:Kn)(n:Nat)(k:dO)(l:aO)(m h o d b e:Int)(c:b7)(j:Int→Int→b7→Option ab)(a:aQ):Option ab:=(some (!(a.Text.toList == (⟨#[]⟩:ByteArray).toList))).bind fun i=>if i then (za K n a.Style.FontSize).bind fun f=>(wL K n a.Style.FontSize).bind fun g=>aA (fits (c.length+([(⟨3,a.Node,b,(aa (h-f)),(aa (a.Width+a.Space)),g,0,a.Text,a.Style,dD,dD,false,[]⟩:ab)]:b7).length) 584) (uQ K n k l m h o d b e a j (c++[(⟨3,a.Node,b,(aa (h-f)),(aa (a.Width+a.Space)),g,0,a.Text,a.Style,dD,dD,false,[]⟩:ab)])) else uQ K n k l m h o d b e a j c
def pI(K:Kn)(n:Nat)(b:dO)(h:aO)(i j k c d a:Int)(e:b7)(g:Int→Int→b7→Option ab)(f:Bool):Option ab:=if f then aA (cT (0:Int) (aa ((((List.getD b a.toNat default).Text).size:Int)-1)) ((List.getD b a.toNat default).Text).size) (ov K n b h i j k c d a e g ({ (List.getD b a.toNat default)with Text:=(ByteArray.extract ((List.getD b a.toNat default).Text) (0:Int).toNat ((aa ((((List.getD b a.toNat default).Text).size:Int)-1))).toNat),Space:=0 }:aQ)) else ov K n b h i j k c d a e g (List.getD b a.toNat default)
def y3(K:Kn)(n:Nat)(d:dO)(g:aO)(h f i b:Int)(j:Int→Int→b7→Option ab)(e a:Int)(c:b7):Option ab:=if (decide (a<(d.length:Int))) then aA (aU a d.length) (if (a == b) then (xN K n ((List.getD d a.toNat default).Text) (⟨#[32]⟩)).bind fun k=>if k then pI K n d g h f i b e a c j ((((List.getD d a.toNat default).Style).WhiteSpace) != 2) else pI K n d g h f i b e a c j false else pI K n d g h f i b e a c j false) else some ({ bU with Kind:=2,W:=h,H:=(aa (f+i)),az:=f,Style:=g,Kids:=c }:ab)
def py(K:Kn)(n:Nat)(b:dO)(c:aO)(d e f a:Int):Nat→Int→Int→b7→Option ab
 | 0=>fun _ _ _=>none
 | m+1=>y3 K n b c d e f a (py K n b c d e f a m)
def yH(K:Kn)(n:Nat)(b:dO)(c:aO)(d:Int)(j:Int→Int→Int→Option ab)(h i a:Int):Option ab:=if (decide (a<(b.length:Int))) then aA (aU a b.length) (if (!(List.getD b a.toNat default).Forced) then A5 K n b c d a j (max h ((List.getD b a.toNat default).Above)) (max i ((List.getD b a.toNat default).Below)) else A5 K n b c d a j h i) else (pS K n b).bind fun e=>(su K n c d e).bind fun f=>(pG K n b).bind fun g=>py K n b c d h i g n f 0 []
def wJ(K:Kn)(n:Nat)(a:dO)(b:aO)(c:Int):Nat→Int→Int→Int→Option ab
 | 0=>fun _ _ _=>none
 | m+1=>yH K n a b c (wJ K n a b c m)
def ET(K:Kn)(n:Nat)(b:dO)(a:aO)(c:Int):Option ab:=(oT K n a).bind fun v4=>wJ K n b a c n v4.1 v4.2 0
def xq(K:Kn)(n:Nat)(g:aO)(h:Int)(v5:dO)(v6:b5)(f:Int→Int→Int→b7→Option (b7×Int))(b e a:Int)(c:b7):Option (b7×Int):=if (decide (a<e)) then aA (aU a (v6++[(v5.length:Int)]).length) (aA (aU (aa (a+1)) (v6++[(v5.length:Int)]).length) (aA (cT (List.getD (v6++[(v5.length:Int)]) a.toNat default) (List.getD (v6++[(v5.length:Int)]) ((aa (a+1))).toNat default) v5.length) ((ET K n (List.drop ((List.getD (v6++[(v5.length:Int)]) a.toNat default)).toNat (List.take ((List.getD (v6++[(v5.length:Int)]) ((aa (a+1))).toNat default)).toNat v5)) g (min (max h 0) 1048576)).bind fun d=>aA (fits (c.length+([({ d with Y:=b }:ab)]:b7).length) 584) (f (aa (b+d.H)) e (aa (a+1)) (c++[({ d with Y:=b }:ab)]))))) else some (c,b)
def AX(K:Kn)(n:Nat)(a:aO)(b:Int)(v5:dO)(v6:b5):Nat→Int→Int→Int→b7→Option (b7×Int)
 | 0=>fun _ _ _ _=>none
 | m+1=>xq K n a b v5 v6 (AX K n a b v5 v6 m)
def xw(K:Kn)(n:Nat)(b:dn)(c:aO)(a:Int)(v4:bN):Option (b7×Int):=(xl K n b (min (max a 0) 1048576) v4).bind fun v5=>(z7 K n v5 (min (max a 0) 1048576)).bind fun v6=>aA (fits (v6.length+([(v5.length:Int)]:b5).length) 8) (AX K n c a v5 v6 n 0 (aa (((v6++[(v5.length:Int)]).length:Int)-1)) 0 [])
def xI(K:Kn)(n:Nat)(a:dn)(b:aO)(c:Int)(v4:bN):Option (b7×Int):=(xw K n a b c v4).bind fun v5=>some (v5.1,v5.2)
def Ab(K:Kn)(n:Nat)(v4 v5:dO)(a:Int)(c:Int→Int→Option eb)(b:Int):Option eb:=c b a
def zR(K:Kn)(n:Nat)(v5:dO)(d a:Int)(c:Int→Int→Option eb)(b:Int):Option eb:=c b a
def rD(K:Kn)(n:Nat)(v5:dO)(b c d a:Int)(g:Int→Int→Option eb)(h:Int→Option eb)(f:Bool):Option eb:=if f then h (aa (a+1)) else aA (cT d a v5.length) ((pS K n (List.drop d.toNat (List.take a.toNat v5))).bind fun e=>if (decide (e>c)) then zR K n v5 b a g e else zR K n v5 b a g c)
def yc(K:Kn)(n:Nat)(v5:dO)(b c d:Int)(e:Int→Int→Option eb)(f:Int→Option eb)(a:Int):Option eb:=if (decide (a<(v5.length:Int))) then aA (aU (aa (a-1)) v5.length) (rD K n v5 b c d a e f (!(List.getD v5 ((aa (a-1))).toNat default).Forced)) else rD K n v5 b c d a e f false
def zz(K:Kn)(n:Nat)(v5:dO)(a b c:Int)(d:Int→Int→Option eb):Nat→Int→Option eb
 | 0=>fun _=>none
 | m+1=>yc K n v5 a b c d (zz K n v5 a b c d m)
def yV(K:Kn)(n:Nat)(v5:dO)(b:Int)(d:Int→Int→Option eb)(c a:Int):Option eb:=if (decide (a<(v5.length:Int))) then zz K n v5 b c a d n (aa (a+1)) else some (b,c)
def xF(K:Kn)(n:Nat)(v5:dO)(a:Int):Nat→Int→Int→Option eb
 | 0=>fun _ _=>none
 | m+1=>yV K n v5 a (xF K n v5 a m)
def y4(K:Kn)(n:Nat)(v4 v5:dO)(e:Int→Int→Option eb)(c a:Int):Option eb:=if (decide (a<(v4.length:Int))) then (rz K n v4 a).bind fun b=>aA (cT a b v4.length) ((pS K n (List.drop a.toNat (List.take b.toNat v4))).bind fun d=>if (decide (d>c)) then Ab K n v4 v5 b e d else Ab K n v4 v5 b e c) else xF K n v5 c n 0 0
def xA(K:Kn)(n:Nat)(v4 v5:dO):Nat→Int→Int→Option eb
 | 0=>fun _ _=>none
 | m+1=>y4 K n v4 v5 (xA K n v4 v5 m)
def wy(K:Kn)(n:Nat)(a:dn)(b:aO)(c:bN):Option eb:=(nj K n a ()).bind fun v4=>(nj K n a ()).bind fun v5=>xA K n v4 v5 n 0 0
def yl(K:Kn)(n:Nat)(a:dn)(b:aO)(c:bN):Option eb:=(wy K n a b c).bind fun v4=>some (v4.1,v4.2)
def cY:Nat→Bool→Bool→bN
 | 0,_,_=>⟨.bot 43 3,.bot 48 1,.bot 52 1,.bot 54 1⟩
 | d+1,a,b=>⟨.c43 a (cY d a b).Layout (cY d a b).Widths (cY d a b).Lines (cY d a b).Spread b,.c48 (cY d a b).Layout (cY d a b).Widths (cY d a b).Lines (cY d a b).Spread,.c52 (cY d a b).Layout (cY d a b).Widths (cY d a b).Lines (cY d a b).Spread,.c54 (cY d a b).Layout (cY d a b).Widths (cY d a b).Lines (cY d a b).Spread⟩
def tH(K:Kn)(n:Nat)(a b:Bool):Option bN:=some (cY n a b)
def AC(K:Kn)(n:Nat)(a b:ag):Option Bool:=(K.Ca a b).bind fun c=>some c
def zU(K:Kn)(n:Nat)(v5:Bool):Option Bool:=some v5
def rP(K:Kn)(n:Nat)(a b:ag):Option Bool:=(oD K n a b).bind fun c=>if c then zU K n true else (oC K n a.Kids (Fv.c65 b)).bind fun v4=>zU K n v4
def EE(K:Kn)(n:Nat)(b:ab)(c:b7)(a:Int→b7→Option ab)(v4:Int)(v5:b7):Option ab:=if (decide (v4<(c.length:Int))) then aA (aU v4 v5.length) ((K.xH (List.getD v5 v4.toNat default)).bind fun v6=>aA (aU v4 v5.length) (a (aa (v4+1)) (List.set v5 v4.toNat v6))) else some ({ b with Kids:=v5 }:ab)
def zI(K:Kn)(n:Nat)(a:ab)(b:b7):Nat→Int→b7→Option ab
 | 0=>fun _ _=>none
 | m+1=>EE K n a b (zI K n a b m)
def sX(K:Kn)(n:Nat)(a:ab):Option ab:=(qF K n a.Kids).bind fun b=>zI K n a b n 0 b
def yn(K:Kn)(n:Nat)(a:b5):Option b5:=o5 (List.isEmpty a) (aA (fits (([]:b5).length+a.length) 8) (some (([]:b5)++a)))
def qo(K:Kn)(n:Nat)(d:iy)(f:ag)(v6:b5)(a:Int)(c:Int→Option Unit)(b:Bool):Option Unit:=if b then none else (K.uL d (List.getD f.Kids a.toNat default) v6).bind fun e=>c (aa (a+1))
def CZ(K:Kn)(n:Nat)(d:iy)(b:ag)(v6:b5)(c:Int→Option Unit)(a:Int):Option Unit:=if (decide (a<(b.Kids.length:Int))) then aA (aU a b.Kids.length) (if (((List.getD b.Kids a.toNat default).Kind) != 3) then if (((List.getD b.Kids a.toNat default).Kind) != 4) then qo K n d b v6 a c ((((List.getD b.Kids a.toNat default).Style).Position) == 2) else qo K n d b v6 a c false else qo K n d b v6 a c false) else some ()
def uo(K:Kn)(n:Nat)(a:iy)(b:ag)(v6:b5):Nat→Int→Option Unit
 | 0=>fun _=>none
 | m+1=>CZ K n a b v6 (uo K n a b v6 m)
def sT(K:Kn)(n:Nat)(a:iy)(b:ag)(v6:b5):Option Unit:=uo K n a b v6 n 0
def sD(K:Kn)(n:Nat)(b:iy)(a:ag)(c:b5)(v4:Bool):Option Unit:=if v4 then (yn K n c).bind fun v5=>aA (fits (v5.length+([a.Node]:b5).length) 8) (sT K n b a (v5++[a.Node])) else sT K n b a c
def oA(K:Kn)(n:Nat)(b:iy)(a:ag)(c:b5):Option Unit:=if (a.Node != 0) then sD K n b a c (a.Style.Position != 0) else sD K n b a c false
def oS(K:Kn)(n:Nat)(c:ag)(e f:Int)(v4:bN)(v5 v6:Int)(g:c6):Option (ab×Int×Int×c6):=(qC K n c.Style (min (max e 0) 1048576)).bind fun h=>(Bf K n c h v4 v5 v6 g).bind fun b=>(sX K n b.1).bind fun a=>(oA K n ({ QB with env:=v4 }:iy) c []).bind fun d=>some (({ a with H:=(max a.H (min (max f 0) 1048576)) }:ab),b.2.1,b.2.2.1,b.2.2.2)
def De(K:Kn)(n:Nat)(a:c6)(c:Fv)(b:Int→Option Int)(v4:Int):Option Int:=if (decide (v4<(a.length:Int))) then aA (aU v4 a.length) ((K.sQ c (List.getD a v4.toNat default)).bind fun v5=>if v5 then some v4 else b (aa (v4+1))) else some (-1)
def wR(K:Kn)(n:Nat)(a:c6)(b:Fv):Nat→Int→Option Int
 | 0=>fun _=>none
 | m+1=>De K n a b (wR K n a b m)
def EQ(K:Kn)(n:Nat)(a:c6)(b:Fv):Option Int:=wR K n a b n 0
def ww(K:Kn)(n:Nat)(a:c6)(b:Fv):Option Bool:=(EQ K n a b).bind fun c=>some (decide (c≥0))
def Bn(K:Kn)(n:Nat)(v4:Bool):Option Bool:=some v4
def zO(K:Kn)(n:Nat)(a b:ay):Option Bool:=if (a.Width == b.Width) then (oD K n a.Box b.Box).bind fun c=>Bn K n c else Bn K n false
def yf(K:Kn)(n:Nat)(d:ag)(e:ab×Int×Int×c6)(a:Int)(c:Int→c6→Option (ab×Int×Int×c6))(b:c6):Option (ab×Int×Int×c6):=c (aa (a+1)) b
def AO(K:Kn)(n:Nat)(f:ag)(c:ab×Int×Int×c6)(a:Int)(b:c6)(e:Int→c6→Option (ab×Int×Int×c6))(d:Bool):Option (ab×Int×Int×c6):=if d then aA (fits (b.length+([(List.getD c.2.2.2 a.toNat default)]:c6).length) 1112) (yf K n f c a e (b++[(List.getD c.2.2.2 a.toNat default)])) else yf K n f c a e b
def Co(K:Kn)(n:Nat)(d:ag)(c:ab×Int×Int×c6)(h:Int→c6→Option (ab×Int×Int×c6))(a:Int)(b:c6):Option (ab×Int×Int×c6):=if (decide (a<(c.2.2.2.length:Int))) then aA (aU a c.2.2.2.length) ((ww K n b (Fv.c39 (List.getD c.2.2.2 a.toNat default))).bind fun e=>if (!e) then (rP K n d ((List.getD c.2.2.2 a.toNat default).Box)).bind fun f=>AO K n d c a b h f else AO K n d c a b h false) else (pK K n c.1).bind fun g=>some (g,c.2.1,c.2.2.1,b)
def uU(K:Kn)(n:Nat)(a:ag)(b:ab×Int×Int×c6):Nat→Int→c6→Option (ab×Int×Int×c6)
 | 0=>fun _ _=>none
 | m+1=>Co K n a b (uU K n a b m)
def oy(K:Kn)(n:Nat)(a:ag)(b c v4 v5:Int)(v6:c6):Option (ab×Int×Int×c6):=(tH K n true true).bind fun d=>(oS K n a b c d 0 0 v6).bind fun e=>uU K n a e n 0 []
def uM(K:Kn)(n:Nat)(a:Int):Option ag:=some ({ dk with Kind:=1,Node:=a,Style:=({ cu with Height:=(⟨1,20⟩:cL) }:aO) }:ag)
def vJ(K:Kn)(n:Nat)(a:Bool):Option Bool:=some a
def CF(K:Kn)(n:Nat):Option Bool:=(uM K n 2).bind fun b=>(uM K n 3).bind fun c=>(oy K n ({ dk with Kind:=1,Node:=1,Kids:=[b,c] }:ag) 100 10 0 0 ([]:c6)).bind fun a=>(uM K n 2).bind fun v4=>(uM K n 4).bind fun v5=>(oy K n ({ dk with Kind:=1,Node:=1,Kids:=[v4,v5] }:ag) 100 10 a.2.1 a.2.2.1 a.2.2.2).bind fun v6=>if (a.1.H == 40) then if (a.2.1 == 2) then if (v6.2.1 == 1) then vJ K n (v6.2.2.1 == 1) else vJ K n false else vJ K n false else vJ K n false
def zB(K:Kn)(n:Nat)(a:Bool):Option Bool:=some a
def gl(K:Kn)(n:Nat)(a:cL):Option Bool:=if (decide (a.Value≥(-16777216))) then zB K n (decide (a.Value≤16777216)) else zB K n false
def sN(K:Kn)(n:Nat)(d:eq)(e a:Int)(c:Int→Option Bool)(b:Bool):Option Bool:=if b then some false else c (aa (a+1))
def yR(K:Kn)(n:Nat)(b:eq)(g a:Int)(f:Int→Option Bool)(c:Bool):Option Bool:=if c then some false else (gl K n ((((List.getD b a.toNat default).Style).Margin).a3)).bind fun d=>if (!d) then sN K n b g a f true else (gl K n ((((List.getD b a.toNat default).Style).Padding).a3)).bind fun e=>sN K n b g a f (!e)
def xy(K:Kn)(n:Nat)(b:eq)(g a:Int)(f:Int→Option Bool)(c:Bool):Option Bool:=if c then some false else (gl K n ((((List.getD b a.toNat default).Style).Margin).a2)).bind fun d=>if (!d) then yR K n b g a f true else (gl K n ((((List.getD b a.toNat default).Style).Padding).a2)).bind fun e=>yR K n b g a f (!e)
def zQ(K:Kn)(n:Nat)(b:eq)(g a:Int)(f:Int→Option Bool)(c:Bool):Option Bool:=if c then some false else (gl K n ((((List.getD b a.toNat default).Style).Margin).a1)).bind fun d=>if (!d) then xy K n b g a f true else (gl K n ((((List.getD b a.toNat default).Style).Padding).a1)).bind fun e=>xy K n b g a f (!e)
def fu(K:Kn)(n:Nat)(b:eq)(g a:Int)(f:Int→Option Bool)(c:Bool):Option Bool:=if c then some false else (gl K n ((((List.getD b a.toNat default).Style).Margin).a0)).bind fun d=>if (!d) then zQ K n b g a f true else (gl K n ((((List.getD b a.toNat default).Style).Padding).a0)).bind fun e=>zQ K n b g a f (!e)
def oK(K:Kn)(n:Nat)(b:eq)(c:Int)(d:Int→Option Bool)(a:Int):Option Bool:=if (decide (a<(b.length:Int))) then aA (aU a b.length) (aA (aU a b.length) (if (decide ((((List.getD b a.toNat default).Text).size:Int)>60)) then fu K n b c a d true else (gl K n (((List.getD b a.toNat default).Style).Left)).bind fun e=>if (!e) then fu K n b c a d true else (gl K n (((List.getD b a.toNat default).Style).Top)).bind fun f=>if (!f) then fu K n b c a d true else (gl K n (((List.getD b a.toNat default).Style).Width)).bind fun g=>if (!g) then fu K n b c a d true else (gl K n (((List.getD b a.toNat default).Style).Height)).bind fun h=>if (!h) then fu K n b c a d true else (gl K n (((List.getD b a.toNat default).Style).MinWidth)).bind fun i=>if (!i) then fu K n b c a d true else (gl K n (((List.getD b a.toNat default).Style).MaxWidth)).bind fun j=>if (!j) then fu K n b c a d true else (gl K n (((List.getD b a.toNat default).Style).Basis)).bind fun k=>if (!k) then fu K n b c a d true else if (decide ((((List.getD b a.toNat default).Style).LineHeight)<0)) then fu K n b c a d true else if (decide ((((List.getD b a.toNat default).Style).LineHeight)>65536)) then fu K n b c a d true else if (decide ((((List.getD b a.toNat default).Style).FontSize)<0)) then fu K n b c a d true else if (decide ((((List.getD b a.toNat default).Style).FontSize)>65536)) then fu K n b c a d true else if (decide ((((List.getD b a.toNat default).Style).Grow)<0)) then fu K n b c a d true else if (decide ((((List.getD b a.toNat default).Style).Grow)>1048576)) then fu K n b c a d true else if (decide ((((List.getD b a.toNat default).Style).Shrink)<0)) then fu K n b c a d true else fu K n b c a d (decide ((((List.getD b a.toNat default).Style).Shrink)>1048576)))) else some (decide ((b.length:Int)≤c))
def uh(K:Kn)(n:Nat)(a:eq)(b:Int):Nat→Int→Option Bool
 | 0=>fun _=>none
 | m+1=>oK K n a b (uh K n a b m)
def xr(K:Kn)(n:Nat)(a:eq)(b:Int):Option Bool:=uh K n a b n 0
def sP(K:Kn)(n:Nat)(a:Bool):Option Bool:=some a
def Cg(K:Kn)(n:Nat)(b:eq)(a:List fi)(c:Int→Option Bool)(v4:Int):Option Bool:=if (decide (v4<(a.length:Int))) then aA (aU v4 a.length) ((xr K n [(List.getD a v4.toNat default).Spec] 1).bind fun v5=>if (!v5) then some false else c (aa (v4+1))) else (xr K n b 12).bind fun v6=>if v6 then if (decide ((b.length:Int)>0)) then sP K n (decide ((a.length:Int)≤6)) else sP K n false else sP K n false
def Bd(K:Kn)(n:Nat)(a:eq)(b:List fi):Nat→Int→Option Bool
 | 0=>fun _=>none
 | m+1=>Cg K n a b (Bd K n a b m)
def ES(K:Kn)(n:Nat)(a:eq)(b:List fi):Option Bool:=Bd K n a b n 0
def mX(K:Kn)(n:Nat)(b:eq)(g:Int)(h:Bool)(a:Int)(d:dn)(f:Int→dn→Option eg)(e:Bool):Option eg:=if e then if h then (K.k7 b a).bind fun c=>aA (fits (d.length+([c.1]:dn).length) 520) (f c.2 (d++[c.1])) else aA (aU a b.length) (aA (aU a b.length) (aA (fits (d.length+([({ dk with Kind:=3,Style:=(List.getD b a.toNat default).Style,Text:=(List.getD b a.toNat default).Text }:ag)]:dn).length) 520) (f (aa (a+1)) (d++[({ dk with Kind:=3,Style:=(List.getD b a.toNat default).Style,Text:=(List.getD b a.toNat default).Text }:ag)])))) else some ((⟨1,(aa (10+g)),(List.getD b g.toNat default).Style,⟨#[]⟩,0,0,d⟩:ag),a)
def se(K:Kn)(n:Nat)(a:eq)(c:Int)(e:Bool)(d:Int→dn→Option eg)(b:Int)(f:dn):Option eg:=if (decide (b<(a.length:Int))) then aA (aU b a.length) (mX K n a c e b f d (decide (((List.getD a b.toNat default).Depth)>((List.getD a c.toNat default).Depth)))) else mX K n a c e b f d false
def nZ(K:Kn)(n:Nat)(a:eq)(b:Int)(c:Bool):Nat→Int→dn→Option eg
 | 0=>fun _ _=>none
 | m+1=>se K n a b c (nZ K n a b c m)
def pb(K:Kn)(n:Nat)(b:eq)(a:Int)(c:Bool):Option eg:=nZ K n b a c n (aa (a+1)) []
def oI(K:Kn)(n:Nat)(a:eq)(b:Int):Option eg:=aA (aU b a.length) (aA (aU b a.length) (if (decide ((aa (b+1))<(a.length:Int))) then aA (aU (aa (b+1)) a.length) (if (decide (((List.getD a ((aa (b+1))).toNat default).Depth)>((List.getD a b.toNat default).Depth))) then aA (aU (aa (b+1)) a.length) (pb K n a b ((Int.tmod ((List.getD a ((aa (b+1))).toNat default).Kind) 2) == 0)) else pb K n a b false) else pb K n a b false))
def ku(l:eq)(b:ag)(c:dn)(a:Bool):Option ag:=match a with
 | false=>some { b with Kids:=c }
 | true=>if (decide ((aa (b.Node-10))>0)) then aA (aU (aa (b.Node-10)) l.length) (if ((Int.tmod ((List.getD l ((aa (b.Node-10))).toNat default).Rows) 4) == 1) then some { b with Kind:=6,Kids:=c } else some { b with Kids:=c }) else some { b with Kids:=c }
def li(f:ag→Option ag):dn→Option dn
 | []=>some []
 | k::r=>(if (k.Kind == 1) then f k else some k).bind fun a=>(li f r).bind fun b=>some (a::b)
def jr(l:eq):Nat→ag→Option ag
 | 0,_=>none
 | m+1,b=>(li (jr l m) b.Kids).bind fun a=>ku l b a (b.Kids.any fun k=>k.Kind == 1)
def lH(K:Kn)(n:Nat):Nat→eq→Int→Option eg
 | 0,_,_=>none
 | m+1,l,a=>oI { K with k7:=lH K n m } n l a
def fL(s:aK):aK:=if (s.Style.Position == 2) then { s with Style:={ s.Style with Position:=0 } } else s
def qq(K:Kn)(n:Nat)(a:eq):Option ag:=aA (fits a.length 480) ((lH K n n (a.map fL) 0).bind fun r=>jr (a.map fL) n r.1)
def zl(K:Kn)(n:Nat)(a:eq):Option eq:=some a
def xY(K:Kn)(n:Nat)(a:eq)(c:fi):Option eq:=aA (fits (([]:eq).length+a.length) 480) (if (decide ((a.length:Int)<2)) then aA (aU (0:Int) a.length) (aA (fits ((([]:eq)++a).length+([({ uC with Depth:=(IntKind.wrap .u8 (((List.getD a (0:Int).toNat default).Depth)+1)),Style:=c.Spec.Style }:aK)]:eq).length) 480) (some ((([]:eq)++a)++[({ uC with Depth:=(IntKind.wrap .u8 (((List.getD a (0:Int).toNat default).Depth)+1)),Style:=c.Spec.Style }:aK)]))) else aA (((aa ((a.length:Int)-1)) != 0)) ((some (aa (1+(Int.tmod (aa c.At) (aa ((a.length:Int)-1)))))).bind fun b=>if ((Int.tmod c.Kind 4) == 0) then aA (aU b (([]:eq)++a).length) (aA (aU b (([]:eq)++a).length) (aA (aU b (([]:eq)++a).length) ((some ((List.getD (([]:eq)++a) b.toNat default).Depth)).bind fun v4=>(some ((List.getD (([]:eq)++a) b.toNat default).Kind)).bind fun v5=>(some ((List.getD (([]:eq)++a) b.toNat default).Rows)).bind fun v6=>aA (aU b (([]:eq)++a).length) (zl K n (List.set (([]:eq)++a) b.toNat ({ c.Spec with Depth:=v4,Kind:=v5,Rows:=v6 }:aK)))))) else if ((Int.tmod c.Kind 4) == 1) then aA (aU b (([]:eq)++a).length) (aA (ur ((List.getD (([]:eq)++a) b.toNat default).Text) (⟨#[120]⟩:ByteArray)) (aA (aU b (([]:eq)++a).length) (zl K n (List.set (([]:eq)++a) b.toNat ({ (List.getD (([]:eq)++a) b.toNat default)with Text:=(((List.getD (([]:eq)++a) b.toNat default).Text)++(⟨#[120]⟩:ByteArray)) }:aK))))) else if ((Int.tmod c.Kind 4) == 2) then aA (cT (0:Int) b (([]:eq)++a).length) (aA (cT (aa (b+1)) ((([]:eq)++a).length:Int) (([]:eq)++a).length) (aA (Nat.ble 1 (b.toNat-(0:Int).toNat)&&(Nat.ble (b.toNat-(0:Int).toNat) (((aa (b+1))).toNat)&&Nat.ble (((aa (b+1))).toNat+((((([]:eq)++a).length:Int)).toNat-((aa (b+1))).toNat)) (([]:eq)++a).length)) (some (List.take (b.toNat-(0:Int).toNat) (([]:eq)++a)++List.take ((((([]:eq)++a).length:Int)).toNat-((aa (b+1))).toNat) (List.drop (((aa (b+1))).toNat) (([]:eq)++a)))))) else aA (aU b (([]:eq)++a).length) ((some ((List.getD (([]:eq)++a) b.toNat default).Depth)).bind fun d=>aA (cT (0:Int) b (([]:eq)++a).length) (aA (fits (([]:eq).length+(List.drop ((0:Int)).toNat (List.take b.toNat (([]:eq)++a))).length) 480) (aA (fits ((([]:eq)++(List.drop ((0:Int)).toNat (List.take b.toNat (([]:eq)++a)))).length+([({ c.Spec with Depth:=d }:aK)]:eq).length) 480) (aA (cT b ((([]:eq)++a).length:Int) (([]:eq)++a).length) (aA (fits (((([]:eq)++(List.drop ((0:Int)).toNat (List.take b.toNat (([]:eq)++a))))++[({ c.Spec with Depth:=d }:aK)]).length+(List.drop b.toNat (List.take (((([]:eq)++a).length:Int)).toNat (([]:eq)++a))).length) 480) (some (((([]:eq)++(List.drop ((0:Int)).toNat (List.take b.toNat (([]:eq)++a))))++[({ c.Spec with Depth:=d }:aK)])++(List.drop b.toNat (List.take (((([]:eq)++a).length:Int)).toNat (([]:eq)++a))))))))))))
def yD(K:Kn)(n:Nat)(a:ag)(b c:Int):Option ab:=(tH K n false false).bind fun v4=>aA (Fv.eu v4.Layout) ((Option.map Prod.fst (oS K n a b c v4 0 0 [])).bind fun v5=>some v5)
def La(K:Kn)(n:Nat)(a:ByteArray)(c:Bool)(b:b5):Option (Int×Unit×b5):=if c then aA (fits (b.length+a.size) 1) (some ((a.size:Int),(),(b++fT a))) else aA (fits (b.length+a.size) 1) (some ((a.size:Int),(),(b++fT a)))
def fy(f:ab)(x y:Int):cU:=⟨aa (x+f.X),aa (y+f.Y),f.W,f.H⟩
def pC(g:ab→Option (List (cU×ab))):b7→Option (List (cU×ab))
 | []=>some []
 | k::r=>(g k).bind fun l=>(pC g r).bind fun m=>some (l++m)
def jT:Nat→ab→Int→Int→Option (List (cU×ab))
 | 0,_,_,_=>none
 | n+1,f,x,y=>(pC (fun k=>jT n k (fy f x y).X (fy f x y).Y) f.Kids).bind fun l=>aA (fits f.Kids.length 480) (some ((fy f x y,f)::l))
def tK:b7→BS→BS
 | [],s=>s
 | k::r,s=>tK r (if (k.Kind == 3) then (true,s.2++fT k.Text) else s)
def tY(x:cU×ab)(s:BS):BS:=if (x.2.Kind != 2) then s else (true,(tK x.2.Kids s).2++[10])
def tF(l:List (cU×ab))(s:BS):BS:=l.foldl (fun s x=>tY x s) s
def rm(K:Kn)(n:Nat)(f:ab):Option ByteArray:=(jT n f 0 0).bind fun l=>aA (l.all fun x=>decide (x.2.Kids.length<9223372036854775807)) (aA (fits (tF l (false,[])).2.length 1) (some (bytesOf (tF l (false,[])).2)))
def lY(a:Int)(x:cU×ab)(s:BS):Option BS:=if ((a != 0)&&((x.2.Kind == 1)&&(x.2.Node == a))) then none else some s
def qQ(K:Kn)(n:Nat)(f:ab)(b:Int):Option (cU×Bool):=(jT n f 0 0).bind fun l=>some (match dj (lY b) l (false,[]) with
 | .inl _=>(⟨0,0,0,0⟩,false)
 | .inr a=>(a.1,true))
def zG(K:Kn)(n:Nat)(d:eq)(e:ab×Int×Int×c6)(f:ab)(a:Int)(c:Int→Option Bool)(b:Bool):Option Bool:=if b then some false else c (aa (a+1))
def B7(K:Kn)(n:Nat)(d:eq)(b:ab×Int×Int×c6)(c:ab)(j:Int→Option Bool)(a:Int):Option Bool:=(some (decide (a<(aa (10+(d.length:Int)))))).bind fun g=>if g then (qQ K n b.1 a).bind fun e=>(qQ K n c a).bind fun f=>if (!(Gw e.1 f.1)) then zG K n d b c a j true else zG K n d b c a j (!(e.2 == f.2)) else (rm K n b.1).bind fun h=>(rm K n c).bind fun i=>some (h.toList == i.toList)
def xb(K:Kn)(n:Nat)(a:eq)(b:ab×Int×Int×c6)(c:ab):Nat→Int→Option Bool
 | 0=>fun _=>none
 | m+1=>B7 K n a b c (xb K n a b c m)
def DU(K:Kn)(n:Nat)(i:List fi)(m:Int)(o:eq→Int→Int→Int→ab→c6→Option Bool)(a:eq)(b d e:Int)(p:ab)(f:c6):Option Bool:=if (decide (b<(i.length:Int))) then aA (aU b i.length) ((qq K n a).bind fun h=>(oy K n h m 0 d e f).bind fun c=>(xY K n a (List.getD i b.toNat default)).bind fun j=>o j (aa (b+1)) c.2.1 c.2.2.1 c.1 c.2.2.2) else (qq K n a).bind fun g=>(oy K n g m 0 d e f).bind fun k=>(yD K n g m 0).bind fun l=>xb K n a k l n 10
def y9(K:Kn)(n:Nat)(a:List fi)(b:Int):Nat→eq→Int→Int→Int→ab→c6→Option Bool
 | 0=>fun _ _ _ _ _ _=>none
 | m+1=>DU K n a b (y9 K n a b m)
def BQ(K:Kn)(n:Nat)(a:eq)(b:List fi)(c:Int):Option Bool:=(CF K n ).bind fun v4=>if (!v4) then some false else (ES K n a b).bind fun v5=>if (!v5) then some true else y9 K n b c n a 0 0 0 bU []
def KN:Nat→Kn
 | 0=>⟨fun _ _=>none,fun _=>none,fun _ _=>none,fun _ _=>none,fun _=>none,fun _ _ _=>none,fun _ _ _=>none,fun _ _ _=>none,fun _ _ _ _=>none,fun _ _ _=>none,fun _ _ _ _ _ _=>none,fun _ _ _=>none,fun _ _=>none,fun _ _=>none,fun _ _=>none⟩
 | n+1=>⟨fun b c=>rP (KN n) n b c, fun b=>pK (KN n) n b, fun b c=>oI (KN n) n b c, fun b c=>none, fun b=>sX (KN n) n b, fun b c e=>oA (KN n) n b c e, fun b c e=>nL (KN n) n b c e, fun f b c=>match f with|.fn i=>none|.bot _ _=>none|.c39 a=>none|.c43 a x1_0 x1_1 x1_2 x1_3 d=>none|.c48 x0_0 x0_1 x0_2 x0_3=>none|.c52 x0_0 x0_1 x0_2 x0_3=>none|.c54 x0_0 x0_1 x0_2 x0_3=>none|.c65 a=>none|.c103 a=>none|.c147 a x1_0 x1_1 x1_2 x1_3=>none|.c165 a=>Af (KN n) n b c a|.c172 a=>wF (KN n) n b c a, fun f b c e=>match f with|.fn i=>none|.bot _ _=>none|.c39 a=>none|.c43 a x1_0 x1_1 x1_2 x1_3 d=>none|.c48 x0_0 x0_1 x0_2 x0_3=>none|.c52 x0_0 x0_1 x0_2 x0_3=>xI (KN n) n b c e (⟨x0_0,x0_1,x0_2,x0_3⟩:bN)|.c54 x0_0 x0_1 x0_2 x0_3=>none|.c65 a=>none|.c103 a=>none|.c147 a x1_0 x1_1 x1_2 x1_3=>none|.c165 a=>none|.c172 a=>none, fun f b c=>match f with|.fn i=>none|.bot _ _=>none|.c39 a=>none|.c43 a x1_0 x1_1 x1_2 x1_3 d=>none|.c48 x0_0 x0_1 x0_2 x0_3=>none|.c52 x0_0 x0_1 x0_2 x0_3=>none|.c54 x0_0 x0_1 x0_2 x0_3=>yl (KN n) n b c (⟨x0_0,x0_1,x0_2,x0_3⟩:bN)|.c65 a=>none|.c103 a=>none|.c147 a x1_0 x1_1 x1_2 x1_3=>none|.c165 a=>none|.c172 a=>none, fun f b c e g h=>match f with|.fn i=>none|.bot _ _=>none|.c39 a=>none|.c43 a x1_0 x1_1 x1_2 x1_3 d=>kz (KN n) n b c a (⟨x1_0,x1_1,x1_2,x1_3⟩:bN) d e g h|.c48 x0_0 x0_1 x0_2 x0_3=>none|.c52 x0_0 x0_1 x0_2 x0_3=>none|.c54 x0_0 x0_1 x0_2 x0_3=>none|.c65 a=>none|.c103 a=>none|.c147 a x1_0 x1_1 x1_2 x1_3=>none|.c165 a=>none|.c172 a=>none, fun f b c=>match f with|.fn i=>if Nat.beq i 27=true then oD (KN n) n b c else none|.bot _ _=>none|.c39 a=>none|.c43 a x1_0 x1_1 x1_2 x1_3 d=>none|.c48 x0_0 x0_1 x0_2 x0_3=>none|.c52 x0_0 x0_1 x0_2 x0_3=>none|.c54 x0_0 x0_1 x0_2 x0_3=>none|.c65 a=>none|.c103 a=>none|.c147 a x1_0 x1_1 x1_2 x1_3=>none|.c165 a=>none|.c172 a=>none, fun f b=>match f with|.fn i=>if Nat.beq i 145=true then uG (KN n) n b else none|.bot _ _=>none|.c39 a=>none|.c43 a x1_0 x1_1 x1_2 x1_3 d=>none|.c48 x0_0 x0_1 x0_2 x0_3=>none|.c52 x0_0 x0_1 x0_2 x0_3=>none|.c54 x0_0 x0_1 x0_2 x0_3=>none|.c65 a=>AC (KN n) n b a|.c103 a=>none|.c147 a x1_0 x1_1 x1_2 x1_3=>none|.c165 a=>none|.c172 a=>none, fun f b=>match f with|.fn i=>none|.bot _ _=>none|.c39 a=>none|.c43 a x1_0 x1_1 x1_2 x1_3 d=>none|.c48 x0_0 x0_1 x0_2 x0_3=>pV (KN n) n b (⟨x0_0,x0_1,x0_2,x0_3⟩:bN)|.c52 x0_0 x0_1 x0_2 x0_3=>none|.c54 x0_0 x0_1 x0_2 x0_3=>none|.c65 a=>none|.c103 a=>none|.c147 a x1_0 x1_1 x1_2 x1_3=>none|.c165 a=>none|.c172 a=>none, fun f b=>match f with|.fn i=>none|.bot _ _=>none|.c39 a=>zO (KN n) n b a|.c43 a x1_0 x1_1 x1_2 x1_3 d=>none|.c48 x0_0 x0_1 x0_2 x0_3=>none|.c52 x0_0 x0_1 x0_2 x0_3=>none|.c54 x0_0 x0_1 x0_2 x0_3=>none|.c65 a=>none|.c103 a=>none|.c147 a x1_0 x1_1 x1_2 x1_3=>none|.c165 a=>none|.c172 a=>none⟩
end
end Go.Proofs.YtocgkfoifehcbaaGreat

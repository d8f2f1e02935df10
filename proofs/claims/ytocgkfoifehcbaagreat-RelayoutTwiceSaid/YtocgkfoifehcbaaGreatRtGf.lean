/- Layer 22z's functions as plain Lean functions: K stands for calls that come back, n bounds the rounds of loops. Made by a program. -/
import Derived.Test.YtocgkfoifehcbaaGreatRtGt
namespace Go.Proofs.YtocgkfoifehcbaaGreat
open Go.RowKit
set_option maxRecDepth 20000
set_option linter.all false
noncomputable section
abbrev dn:=List ae
abbrev dO:=List aA
abbrev d3:=List ab
abbrev d5:=List ay
abbrev eb:=List aJ
abbrev eg:=List bd
abbrev ek:=List bF
abbrev f6:=ab×Int
abbrev g7:=List aL
def xi(K:Kn)(n:Nat)(a v2:d3)(c:Fv)(b:Int→Option Bool)(v5:Int):Option Bool:=if (decide (v5<(a.length:Int))) then aE (aM v5 a.length) (aE (aM v5 v2.length) ((K.pw c (List.getD a v5.toNat default) (List.getD v2 v5.toNat default)).bind fun v6=>if (!v6) then some false else b (aa (v5+1)))) else some true
def vb(K:Kn)(n:Nat)(a v2:d3)(b:Fv):Nat→Int→Option Bool
 | 0=>fun _=>none
 | m+1=>xi K n a v2 b (vb K n a v2 b m)
def Aw(K:Kn)(n:Nat)(a v2:d3)(b:Fv):Option Bool:=if ((a.length:Int) != (v2.length:Int)) then some false else vb K n a v2 b n 0
def mb(K:Kn)(n:Nat)(v4:Bool):Option Bool:=some v4
def om(K:Kn)(n:Nat)(a v2:ab):Option Bool:=if (a.Kind == v2.Kind) then if (a.Node == v2.Node) then if (l7 a.Style v2.Style) then if (a.Text.toList == v2.Text.toList) then if (a.Rows == v2.Rows) then if (a.Cols == v2.Cols) then (Aw K n a.Kids v2.Kids (Fv.fn 27)).bind fun b=>mb K n b else mb K n false else mb K n false else mb K n false else mb K n false else mb K n false else mb K n false
def rb(K:Kn)(n:Nat)(a:dn):Option dn:=oa (List.isEmpty a) (aE (fits (([]:dn).length+a.length) 584) (some (([]:dn)++a)))
def xR(K:Kn)(n:Nat)(b:ae)(v2:dn)(a:Int→dn→Option ae)(v4:Int)(v5:dn):Option ae:=if (decide (v4<(v2.length:Int))) then aE (aM v4 v5.length) ((K.w5 (List.getD v5 v4.toNat default)).bind fun v6=>aE (aM v4 v5.length) (a (aa (v4+1)) (List.set v5 v4.toNat v6))) else some ({ b with Kids:=v5 }:ae)
def t7(K:Kn)(n:Nat)(a:ae)(v2:dn):Nat→Int→dn→Option ae
 | 0=>fun _ _=>none
 | m+1=>xR K n a v2 (t7 K n a v2 m)
def oZ(K:Kn)(n:Nat)(a:ae):Option ae:=(rb K n a.Kids).bind fun v2=>t7 K n a v2 n 0 v2
def xC(K:Kn)(n:Nat)(f:ab)(v2 e v4:Int)(v5:dO)(c:Int)(d:Int→Option (ae×Bool×Int×Int×dO))(a:Bool):Option (ae×Bool×Int×Int×dO):=if a then (oZ K n ((List.getD v5 c.toNat default).Fragment)).bind fun b=>some (b,true,e,v4,v5) else d (aa (c+1))
def yN(K:Kn)(n:Nat)(b:ab)(v2 d v4:Int)(v5:dO)(e:Int→Option (ae×Bool×Int×Int×dO))(a:Int):Option (ae×Bool×Int×Int×dO):=if (decide (a<(v5.length:Int))) then aE (aM a v5.length) (if (((List.getD v5 a.toNat default).Width) == v2) then (om K n ((List.getD v5 a.toNat default).Box) b).bind fun c=>xC K n b v2 d v4 v5 a e c else xC K n b v2 d v4 v5 a e false) else some (bU,false,d,v4,v5)
def sT(K:Kn)(n:Nat)(a:ab)(v2 b v4:Int)(v5:dO):Nat→Int→Option (ae×Bool×Int×Int×dO)
 | 0=>fun _=>none
 | m+1=>yN K n a v2 b v4 v5 (sT K n a v2 b v4 v5 m)
def ye(K:Kn)(n:Nat)(a:ab)(v2 b v4:Int)(v5:dO):Option (ae×Bool×Int×Int×dO):=sT K n a v2 b v4 v5 n 0
def CH(K:Kn)(n:Nat)(v6:ae×Bool×Int×Int×dO)(a:Int):Option (ae×Bool×Int×Int×dO):=some (v6.1,v6.2.1,v6.2.2.1,a,v6.2.2.2.2)
def wE(K:Kn)(n:Nat)(a:ab)(v2 b v4:Int)(v5:dO):Option (ae×Bool×Int×Int×dO):=(ye K n a v2 b v4 v5).bind fun v6=>if v6.2.1=true then CH K n v6 (aa (v6.2.2.2.1+1)) else CH K n v6 v6.2.2.2.1
def AR(K:Kn)(n:Nat)(a:ab)(v2:Int)(c:ae)(v4 v5:Int)(v6:dO):Option (Int×Int×dO):=(oZ K n c).bind fun b=>aE (fits (v6.length+([(⟨a,v2,b⟩:aA)]:dO).length) 1112) (some ((aa (v4+1)),v5,(v6++[(⟨a,v2,b⟩:aA)])))
def gI(K:Kn)(n:Nat)(a:Int):Option Int:=some (min (max a 0) 1048576)
def vB(K:Kn)(n:Nat)(v4:Int):Option (Int×Bool):=some ((min (max v4 (-1048576)) 1048576),true)
def dS(K:Kn)(n:Nat)(a:cF)(v2:Int):Option (Int×Bool):=if (a.Kind == 1) then vB K n a.Value else if (a.Kind == 2) then (gI K n v2).bind fun b=>vB K n (aa (Int.tdiv (aa (b*(min (max a.Value (-1000000)) 1000000))) 10000)) else some (0,false)
def jC(K:Kn)(n:Nat)(a:aP)(v2 h:Int):Option bZ:=(dS K n a.Margin.a0 v2).bind fun v4=>(gI K n a.Border.a0).bind fun v5=>(dS K n a.Padding.a0 v2).bind fun v6=>(dS K n a.Margin.a1 v2).bind fun i=>(gI K n a.Border.a1).bind fun j=>(dS K n a.Padding.a1 v2).bind fun k=>(dS K n a.Margin.a2 v2).bind fun b=>(gI K n a.Border.a2).bind fun c=>(dS K n a.Padding.a2 v2).bind fun d=>(dS K n a.Margin.a3 v2).bind fun e=>(gI K n a.Border.a3).bind fun f=>(dS K n a.Padding.a3 v2).bind fun g=>some (⟨⟨v4.1,i.1,b.1,e.1⟩,⟨v5,j,c,f⟩,⟨(max v6.1 0),(max k.1 0),(max d.1 0),(max g.1 0)⟩,h⟩:bZ)
def kH(K:Kn)(n:Nat)(a:bZ):Option Int:=some (aa ((aa ((aa ((aa ((aa ((aa (a.Content+a.Margin.a1))+a.Margin.a3))+a.Border.a1))+a.Border.a3))+a.Padding.a1))+a.Padding.a3))
def Ai(K:Kn)(n:Nat)(a:Int):Option Int:=some a
def y7(K:Kn)(n:Nat)(a:aP)(v2 v5:Int):Option Int:=(dS K n a.MinWidth v2).bind fun v6=>if v6.2=true then Ai K n (max v5 v6.1) else Ai K n v5
def mq(K:Kn)(n:Nat)(a:aP)(v2 b:Int):Option Int:=(dS K n a.MaxWidth v2).bind fun v4=>if v4.2=true then y7 K n a v2 (min (max b 0) (max v4.1 0)) else y7 K n a v2 (max b 0)
def qV(K:Kn)(n:Nat)(v4:bZ)(b:Int)(a:V4 Int):Option bZ:=some ({ v4 with Margin:=a,Content:=b }:bZ)
def zX(K:Kn)(n:Nat)(a:Int)(v4:bZ)(c b:Int)(d e:Int×Bool)(f:Bool):Option bZ:=if f then qV K n v4 c ⟨v4.Margin.a0,(aa ((aa (a-b))-(aa (Int.tdiv (aa (a-b)) 2)))),v4.Margin.a2,(aa (Int.tdiv (aa (a-b)) 2))⟩ else if (!d.2) then qV K n v4 c ⟨v4.Margin.a0,v4.Margin.a1,v4.Margin.a2,(aa (a-b))⟩ else if (!e.2) then qV K n v4 c ⟨v4.Margin.a0,(aa (a-b)),v4.Margin.a2,v4.Margin.a3⟩ else qV K n v4 c v4.Margin
def sG(K:Kn)(n:Nat)(e:aP)(c:Int)(v4:bZ)(g:Int):Option bZ:=(mq K n e c g).bind fun d=>(kH K n ({ v4 with Content:=d }:bZ)).bind fun f=>if (decide ((aa (c-f))≤0)) then some ({ v4 with Content:=d }:bZ) else (dS K n e.Margin.a3 c).bind fun a=>(dS K n e.Margin.a1 c).bind fun b=>if (!a.2) then zX K n c v4 d f a b (!b.2) else zX K n c v4 d f a b false
def rD(K:Kn)(n:Nat)(b:aP)(v2:Int):Option bZ:=(gI K n v2).bind fun a=>(jC K n b a 0).bind fun v4=>(dS K n b.Width a).bind fun v5=>if (!v5.2) then (kH K n v4).bind fun v6=>sG K n b a v4 (aa (a-v6)) else sG K n b a v4 v5.1
def nr(K:Kn)(n:Nat)(a:Int):Option bg:=some (⟨(max a 0),(min a 0)⟩:bg)
def mc(K:Kn)(n:Nat)(a:cF)(v2 b:Int):Option Int:=(dS K n a v2).bind fun v4=>if v4.2=true then some v4.1 else some b
def tD(K:Kn)(n:Nat)(v2 g:Int)(v4:Fv)(c a:Int)(b:ck)(e f:Int→ck→Option ck)(d:Bool):Option ck:=if d then aE (aM (aa (a-1)) b.length) (aE (aM a b.length) (aE (aM a b.length) (aE (aM (aa (a-1)) (List.set b a.toNat (List.getD b ((aa (a-1))).toNat default)).length) (f (aa (a-1)) (List.set (List.set b a.toNat (List.getD b ((aa (a-1))).toNat default)) ((aa (a-1))).toNat (List.getD b a.toNat default)))))) else e (aa (c+1)) b
def zS(K:Kn)(n:Nat)(v2 g:Int)(v4:Fv)(c:Int)(e f:Int→ck→Option ck)(a:Int)(b:ck):Option ck:=if (decide (a>v2)) then aE (aM a b.length) (aE (aM (aa (a-1)) b.length) ((K.tM v4 (List.getD b a.toNat default) (List.getD b ((aa (a-1))).toNat default)).bind fun d=>tD K n v2 g v4 c a b e f (decide (d<0)))) else tD K n v2 g v4 c a b e f false
def sV(K:Kn)(n:Nat)(v2 c:Int)(v4:Fv)(a:Int)(b:Int→ck→Option ck):Nat→Int→ck→Option ck
 | 0=>fun _ _=>none
 | m+1=>zS K n v2 c v4 a b (sV K n v2 c v4 a b m)
def uU(K:Kn)(n:Nat)(v2 c:Int)(v4:Fv)(d:Int→ck→Option ck)(a:Int)(b:ck):Option ck:=if (decide (a<c)) then sV K n v2 c v4 a d n a b else some b
def nD(K:Kn)(n:Nat)(v2 a:Int)(v4:Fv):Nat→Int→ck→Option ck
 | 0=>fun _ _=>none
 | m+1=>uU K n v2 a v4 (nD K n v2 a v4 m)
def sf(K:Kn)(n:Nat)(a:ck)(v2 b:Int)(v4:Fv):Option ck:=nD K n v2 b v4 n (aa (v2+1)) a
def DV(K:Kn)(n:Nat)(v2:Int)(d:Fv)(e:ck)(a:Int)(b:Int→Option ck)(c:Option ck):Option ck:=if (decide ((aa (2*a))≤v2)) then none else if (decide ((aa (0+a))<v2)) then none else b (aa (a*2))
def DP(K:Kn)(n:Nat)(v2:Int)(c:Fv)(d:ck)(a:Int)(b:Int→Option ck):Nat→Option ck
 | 0=>none
 | m+1=>DV K n v2 c d a b (DP K n v2 c d a b m)
def wO(K:Kn)(n:Nat)(v2:Int)(d:Fv)(b:ck)(c:Int→Option ck)(a:Int):Option ck:=if (decide (a<v2)) then DP K n v2 d b a c n else some b
def ze(K:Kn)(n:Nat)(v2:Int)(a:Fv)(b:ck):Nat→Int→Option ck
 | 0=>fun _=>none
 | m+1=>wO K n v2 a b (ze K n v2 a b m)
def y8(K:Kn)(n:Nat)(v2:Int)(a:Fv)(c:Int→Int→ck→Option ck)(v5 v6:Int)(b:ck):Option ck:=if (decide (v6≤v2)) then (sf K n b v5 v6 a).bind fun d=>c v6 (aa (v6+20)) d else (sf K n b v5 v2 a).bind fun e=>ze K n v2 a e n 20
def xc(K:Kn)(n:Nat)(v2:Int)(a:Fv):Nat→Int→Int→ck→Option ck
 | 0=>fun _ _ _=>none
 | m+1=>y8 K n v2 a (xc K n v2 a m)
def DC(K:Kn)(n:Nat)(a:ck)(v2:Int)(b:Fv):Option ck:=xc K n v2 b n 0 20 a
def lZ(K:Kn)(n:Nat)(a:ck)(v2:Fv):Option ck:=(DC K n a (a.length:Int) v2).bind fun b=>some b
def xt(K:Kn)(n:Nat)(v2:Bool):Option Bool:=some v2
def jN(K:Kn)(n:Nat)(a:ab):Option Bool:=if (a.Kind == 3) then xt K n true else xt K n (a.Style.Position != 2)
def wb(K:Kn)(n:Nat)(a:Int):Option Bool:=some (a != a)
def uu(K:Kn)(n:Nat)(a v2:Int):Option Int:=(wb K n a).bind fun b=>(wb K n v2).bind fun v4=>if b then if v4 then some 0 else some (-1) else if v4 then some 1 else if (decide (a<v2)) then some (-1) else if (decide (a>v2)) then some 1 else some 0
def zb(K:Kn)(n:Nat)(b v2:Int)(a:d3):Option Int:=aE (aM b a.length) (aE (aM v2 a.length) ((uu K n (((List.getD a b.toNat default).Style).Order) (((List.getD a v2.toNat default).Style).Order)).bind fun v4=>some v4))
def xP(K:Kn)(n:Nat)(c:d3)(v6:Int)(a:Int→ck→Option ck)(b:ck):Option ck:=a (aa (v6+1)) b
def AP(K:Kn)(n:Nat)(a:d3)(d:Int→ck→Option ck)(v6:Int)(b:ck):Option ck:=if (decide (v6<(a.length:Int))) then aE (aM v6 a.length) ((jN K n (List.getD a v6.toNat default)).bind fun e=>if e then aE (fits (b.length+([v6]:ck).length) 8) (xP K n a v6 d (b++[v6])) else xP K n a v6 d b) else (lZ K n b (Fv.c172 a)).bind fun c=>some c
def tx(K:Kn)(n:Nat)(a:d3):Nat→Int→ck→Option ck
 | 0=>fun _ _=>none
 | m+1=>AP K n a (tx K n a m)
def uy(K:Kn)(n:Nat)(a:d3):Option ck:=tx K n a n 0 []
def y9(K:Kn)(n:Nat)(b:ab)(v2:ck)(c:Int→d3→Option d3)(a:Int)(v4:d3):Option d3:=if (decide (a<(v2.length:Int))) then aE (aM a v2.length) (aE (aM (List.getD v2 a.toNat default) b.Kids.length) (aE (fits (v4.length+([(List.getD b.Kids ((List.getD v2 a.toNat default)).toNat default)]:d3).length) 520) (c (aa (a+1)) (v4++[(List.getD b.Kids ((List.getD v2 a.toNat default)).toNat default)])))) else some v4
def vt(K:Kn)(n:Nat)(a:ab)(v2:ck):Nat→Int→d3→Option d3
 | 0=>fun _ _=>none
 | m+1=>y9 K n a v2 (vt K n a v2 m)
def kB(K:Kn)(n:Nat)(a:ab):Option d3:=(uy K n a.Kids).bind fun v2=>vt K n a v2 n 0 []
def gy(K:Kn)(n:Nat)(a:bg):Option Int:=some (aa (a.Pos+a.Neg))
def t6(K:Kn)(n:Nat)(a:ae):Option Int:=if a.Empty=true then some 0 else (gy K n a.After).bind fun v2=>some v2
def iA(K:Kn)(n:Nat)(a v2:Int):Option Int:=some (min (max a 0) v2)
def zm(K:Kn)(n:Nat)(a:bF):Option bF:=(iA K n a.aC 1048576).bind fun v2=>(iA K n a.Grow 1048576).bind fun b=>(iA K n a.Shrink 1048576).bind fun v4=>(iA K n a.Min 1048576).bind fun v5=>(iA K n a.Max 1048576).bind fun v6=>some (⟨v2,b,v4,v5,(max v6 v5)⟩:bF)
def qx(K:Kn)(n:Nat)(a:bF)(v2:Int):Option Int:=some (min (max v2 a.Min) a.Max)
def vO(K:Kn)(n:Nat)(a:bF):Option Int:=(zm K n a).bind fun v2=>(qx K n v2 v2.aC).bind fun b=>some b
def Ak(K:Kn)(n:Nat)(b v2:Int)(a:ck):Option Int:=aE (aM v2 a.length) (aE (aM b a.length) ((uu K n (List.getD a v2.toNat default) (List.getD a b.toNat default)).bind fun v4=>some v4))
def xx(K:Kn)(n:Nat)(e:ck→Int→Int→ck→Option ck)(b:ck)(d a:Int)(c:ck):Option ck:=if (decide (a<d)) then aE (aM a b.length) (aE (aM (List.getD b a.toNat default) c.length) (aE (aM (List.getD b a.toNat default) c.length) (e b d (aa (a+1)) (List.set c ((List.getD b a.toNat default)).toNat (aa ((List.getD c ((List.getD b a.toNat default)).toNat default)+1)))))) else some c
def pX(K:Kn)(n:Nat):Nat→ck→Int→Int→ck→Option ck
 | 0=>fun _ _ _ _=>none
 | m+1=>xx K n (pX K n m)
def xl(K:Kn)(n:Nat)(v2:ck)(k i:Int)(l:Int→Int→ck→ck→ck→Option ck)(b a:Int)(c d e:ck):Option ck:=if (decide (a<(v2.length:Int))) then aE (aM a v2.length) ((iA K n (List.getD v2 a.toNat default) 2147483647).bind fun h=>aE ((i != 0)) (aE ((i != 0)) (aE (aM a c.length) (aE (aM a d.length) (aE (aM a e.length) ((some (List.set c a.toNat (aa (Int.tdiv (aa (k*h)) i)))).bind fun f=>(some (List.set d a.toNat (Int.tmod (aa (k*h)) i))).bind fun j=>aE (aM a f.length) (l (aa (b-(List.getD f a.toNat default))) (aa (a+1)) f j (List.set e a.toNat a)))))))) else (lZ K n e (Fv.c165 d)).bind fun g=>aE (cC (0:Int) b g.length) (pX K n n (List.drop ((0:Int)).toNat (List.take b.toNat g)) ((List.drop ((0:Int)).toNat (List.take b.toNat g)).length:Int) 0 c)
def qp(K:Kn)(n:Nat)(v2:ck)(a b:Int):Nat→Int→Int→ck→ck→ck→Option ck
 | 0=>fun _ _ _ _ _=>none
 | m+1=>xl K n v2 a b (qp K n v2 a b m)
def yU(K:Kn)(n:Nat)(v2:ck)(d:Int)(v4 v5 v6:ck)(e:Int→Int→Option ck)(c a:Int):Option ck:=if (decide (a<(v2.length:Int))) then aE (aM a v2.length) ((iA K n (List.getD v2 a.toNat default) 2147483647).bind fun b=>e (aa (c+b)) (aa (a+1))) else if (c == 0) then some v4 else qp K n v2 d c n d 0 v4 v5 v6
def vk(K:Kn)(n:Nat)(v2:ck)(a:Int)(v4 v5 v6:ck):Nat→Int→Int→Option ck
 | 0=>fun _ _=>none
 | m+1=>yU K n v2 a v4 v5 v6 (vk K n v2 a v4 v5 v6 m)
def ya(K:Kn)(n:Nat)(a:Int)(v2:ck):Option ck:=(iA K n a 2147483647).bind fun b=>aE (fB (v2.length:Int) 8) ((some (List.replicate ((v2.length:Int)).toNat (0:Int))).bind fun v4=>aE (fB (v2.length:Int) 8) ((some (List.replicate ((v2.length:Int)).toNat (0:Int))).bind fun v5=>aE (fB (v2.length:Int) 8) ((some (List.replicate ((v2.length:Int)).toNat (0:Int))).bind fun v6=>vk K n v2 b v4 v5 v6 n 0 0)))
def y4(K:Kn)(n:Nat)(g:eg)(h a:Int)(f:Int→Int→Int→ck→ck→Option (Bool×eg))(b c:Int)(d e:ck):Option (Bool×eg):=f b c (aa (a+1)) d e
def yr(K:Kn)(n:Nat)(d:ck)(e:Int)(f:ck)(a:Int)(c:Int→eg→Option (Bool×eg))(b:eg):Option (Bool×eg):=c (aa (a+1)) b
def mI(K:Kn)(n:Nat)(a:ck)(d:Int)(e:ck)(b:Int)(c:eg)(f:Int)(h:Int→eg→Option (Bool×eg))(g:Bool):Option (Bool×eg):=if g then aE (decide (((List.getD a b.toNat default)).toNat<c.length)) (yr K n a d e b h (List.set (List.set c ((List.getD a b.toNat default)).toNat ({ (List.getD c ((List.getD a b.toNat default)).toNat default)with size:=f }:bd)) ((List.getD a b.toNat default)).toNat ({ (List.getD (List.set c ((List.getD a b.toNat default)).toNat ({ (List.getD c ((List.getD a b.toNat default)).toNat default)with size:=f }:bd)) ((List.getD a b.toNat default)).toNat default)with fixed:=true }:bd))) else yr K n a d e b h c
def yO(K:Kn)(n:Nat)(c:ck)(d:Int)(b:ck)(g:Int→eg→Option (Bool×eg))(a:Int)(e:eg):Option (Bool×eg):=if (decide (a<(c.length:Int))) then aE (aM a c.length) (aE (aM (List.getD c a.toNat default) e.length) (aE (aM a b.length) ((qx K n ((List.getD e ((List.getD c a.toNat default)).toNat default).Item) (List.getD b a.toNat default)).bind fun f=>if (d == 0) then mI K n c d b a e f g true else if (decide (d>0)) then aE (aM a b.length) (if (decide (f>(List.getD b a.toNat default))) then mI K n c d b a e f g true else if (decide (d<0)) then aE (aM a b.length) (mI K n c d b a e f g (decide (f<(List.getD b a.toNat default)))) else mI K n c d b a e f g false) else if (decide (d<0)) then aE (aM a b.length) (mI K n c d b a e f g (decide (f<(List.getD b a.toNat default)))) else mI K n c d b a e f g false))) else some (true,e)
def rf(K:Kn)(n:Nat)(a:ck)(b:Int)(c:ck):Nat→Int→eg→Option (Bool×eg)
 | 0=>fun _ _=>none
 | m+1=>yO K n a b c (rf K n a b c m)
def A3(K:Kn)(n:Nat)(e:eg)(i:Int)(b:ck)(h:Int→Int→ck→Option (Bool×eg))(f a:Int)(c:ck):Option (Bool×eg):=if (decide (a<(b.length:Int))) then aE (aM a b.length) (aE (aM (List.getD b a.toNat default) e.length) (aE (aM a c.length) (aE (aM a c.length) ((some (List.set c a.toNat (aa ((((List.getD e ((List.getD b a.toNat default)).toNat default).Item).aC)+(aa (i*(List.getD c a.toNat default))))))).bind fun d=>aE (aM (List.getD b a.toNat default) e.length) (aE (aM a d.length) ((qx K n ((List.getD e ((List.getD b a.toNat default)).toNat default).Item) (List.getD d a.toNat default)).bind fun g=>aE (aM a d.length) (h (aa (f+(aa (g-(List.getD d a.toNat default))))) (aa (a+1)) d))))))) else rf K n b f c n 0 e
def rS(K:Kn)(n:Nat)(b:eg)(c:Int)(a:ck):Nat→Int→Int→ck→Option (Bool×eg)
 | 0=>fun _ _ _=>none
 | m+1=>A3 K n b c a (rS K n b c a m)
def uO(K:Kn)(n:Nat)(e:eg)(f:Int)(a b:ck)(c:Int):Option (Bool×eg):=(ya K n c b).bind fun d=>rS K n e f a n 0 0 d
def zR(K:Kn)(n:Nat)(b:eg)(g:Int)(j:Int→Int→Int→ck→ck→Option (Bool×eg))(d e a:Int)(c f:ck):Option (Bool×eg):=if (decide (a<(b.length:Int))) then aE (aM a b.length) (if (List.getD b a.toNat default).fixed=true then y4 K n b g a j (aa (d-((List.getD b a.toNat default).size))) e c f else (some (aa (d-(((List.getD b a.toNat default).Item).aC)))).bind fun h=>(some (aa (e+((List.getD b a.toNat default).factor)))).bind fun i=>aE (fits (c.length+([a]:ck).length) 8) (aE (fits (f.length+([(List.getD b a.toNat default).weight]:ck).length) 8) (y4 K n b g a j h i (c++[a]) (f++[(List.getD b a.toNat default).weight])))) else if ((c.length:Int) == 0) then some (false,b) else if (decide (e<1000)) then uO K n b g c f (aa ((aa ((aa (Int.tdiv (max (aa (d*g)) 0) 1000))*e))+(aa (Int.tdiv (aa ((Int.tmod (max (aa (d*g)) 0) 1000)*e)) 1000)))) else uO K n b g c f (max (aa (d*g)) 0)
def sk(K:Kn)(n:Nat)(a:eg)(b:Int):Nat→Int→Int→Int→ck→ck→Option (Bool×eg)
 | 0=>fun _ _ _ _ _=>none
 | m+1=>zR K n a b (sk K n a b m)
def uw(K:Kn)(n:Nat)(a:eg)(v2 b:Int):Option (Bool×eg):=sk K n a b n v2 0 0 [] []
def zY(K:Kn)(n:Nat)(f:Int)(d:eg)(e a:Int)(c:Int→eg→Option ck)(b:eg):Option ck:=c (aa (a+1)) b
def yT(K:Kn)(n:Nat)(f:Int)(c:eg)(d a:Int)(e:Int→eg→Option ck)(b:eg):Option ck:=aE (decide (a.toNat<b.length)) (if (List.getD b a.toNat default).fixed=true then zY K n f c d a e (List.set b a.toNat ({ (List.getD b a.toNat default)with fixed:=true }:bd)) else zY K n f c d a e (List.set b a.toNat ({ (List.getD b a.toNat default)with fixed:=(((List.getD b a.toNat default).factor) == 0) }:bd)))
def Aj(K:Kn)(n:Nat)(b:Bool×eg)(d:Int→ck→Option ck)(a:Int)(c:ck):Option ck:=if (decide (a<(b.2.length:Int))) then aE (aM a b.2.length) (aE (aM a c.length) (d (aa (a+1)) (List.set c a.toNat ((List.getD b.2 a.toNat default).size)))) else some c
def sn(K:Kn)(n:Nat)(a:Bool×eg):Nat→Int→ck→Option ck
 | 0=>fun _ _=>none
 | m+1=>Aj K n a (sn K n a m)
def xF(K:Kn)(n:Nat)(f b:Int)(e:eg→Option ck)(c:eg):Option ck:=(uw K n c f b).bind fun a=>if a.1=true then e a.2 else aE (fB (a.2.length:Int) 8) ((some (List.replicate ((a.2.length:Int)).toNat (0:Int))).bind fun d=>sn K n a n 0 d)
def ro(K:Kn)(n:Nat)(b a:Int):Nat→eg→Option ck
 | 0=>fun _=>none
 | m+1=>xF K n b a (ro K n b a m)
def AW(K:Kn)(n:Nat)(g:Int)(f:eg)(c:Int)(h:Int→eg→Option ck)(a:Int)(b:eg):Option ck:=if (decide (a<(f.length:Int))) then aE (aM a b.length) (if (decide (c>0)) then (some (List.set (List.set b a.toNat ({ (List.getD b a.toNat default)with factor:=((List.getD b a.toNat default).Item).Grow }:bd)) a.toNat ({ (List.getD (List.set b a.toNat ({ (List.getD b a.toNat default)with factor:=((List.getD b a.toNat default).Item).Grow }:bd)) a.toNat default)with weight:=((List.getD b a.toNat default).Item).Grow }:bd))).bind fun d=>yT K n g f c a h (List.set d a.toNat ({ (List.getD d a.toNat default)with fixed:=(decide ((((List.getD d a.toNat default).Item).aC)>((List.getD d a.toNat default).size))) }:bd)) else (some (List.set (List.set b a.toNat ({ (List.getD b a.toNat default)with factor:=((List.getD b a.toNat default).Item).Shrink }:bd)) a.toNat ({ (List.getD (List.set b a.toNat ({ (List.getD b a.toNat default)with factor:=((List.getD b a.toNat default).Item).Shrink }:bd)) a.toNat default)with weight:=(aa (Int.tdiv (aa ((((List.getD b a.toNat default).Item).aC)*(((List.getD b a.toNat default).Item).Shrink))) 1000)) }:bd))).bind fun e=>yT K n g f c a h (List.set e a.toNat ({ (List.getD e a.toNat default)with fixed:=(decide ((((List.getD e a.toNat default).Item).aC)<((List.getD e a.toNat default).size))) }:bd))) else ro K n g c n b
def uj(K:Kn)(n:Nat)(c:Int)(a:eg)(b:Int):Nat→Int→eg→Option ck
 | 0=>fun _ _=>none
 | m+1=>AW K n c a b (uj K n c a b m)
def uC(K:Kn)(n:Nat)(c:Int)(a:eg)(b:Int):Option ck:=uj K n c a b n 0 a
def xH(K:Kn)(n:Nat)(d:ek)(g:Int)(i:Int→Int→eg→Option ck)(h b:Int)(a:eg):Option ck:=if (decide (b<(d.length:Int))) then aE (aM b d.length) ((zm K n (List.getD d b.toNat default)).bind fun e=>(vO K n (List.getD d b.toNat default)).bind fun f=>aE (aM b a.length) ((some (List.set a b.toNat ({ iU with Item:=e,size:=f }:bd))).bind fun c=>aE (aM b c.length) (i (aa (h+((List.getD c b.toNat default).size))) (aa (b+1)) c))) else if (decide (h<g)) then uC K n g a 1 else uC K n g a (-1)
def vE(K:Kn)(n:Nat)(a:ek)(b:Int):Nat→Int→Int→eg→Option ck
 | 0=>fun _ _ _=>none
 | m+1=>xH K n a b (vE K n a b m)
def jx(K:Kn)(n:Nat)(a:ek)(v2:Int):Option ck:=(some (min (max v2 (-1125899906842624)) 1125899906842624)).bind fun b=>aE (fB (a.length:Int) 72) ((some (List.replicate ((a.length:Int)).toNat (iU:bd))).bind fun v4=>vE K n a b n 0 0 v4)
def oM(K:Kn)(n:Nat)(t:ab)(v2:Int)(u:bw)(v:d3)(o p:Int)(i:ck)(j:ek)(k c:ck)(l:dn)(b:ae×Int×Int×dO)(a f g:Int)(s:Int→Int→ck→ek→ck→ck→dn→Int→Int→dO→Option (dn×Int×Int×Int×dO))(h:Int):Option (dn×Int×Int×Int×dO):=aE (fits (j.length+([(⟨h,f,g,0,1048576⟩:bF)]:ek).length) 40) ((some (j++[(⟨h,f,g,0,1048576⟩:bF)])).bind fun q=>aE (fits (k.length+([a]:ck).length) 8) ((gy K n b.1.Before).bind fun d=>(t6 K n b.1).bind fun e=>aE (fits (c.length+([(aa ((aa (d+e))+a))]:ck).length) 8) (aE (aM (aa (((c++[(aa ((aa (d+e))+a))]).length:Int)-1)) (c++[(aa ((aa (d+e))+a))]).length) ((some (aa (o-(List.getD (c++[(aa ((aa (d+e))+a))]) ((aa (((c++[(aa ((aa (d+e))+a))]).length:Int)-1))).toNat default)))).bind fun r=>(vO K n (⟨h,f,g,0,1048576⟩:bF)).bind fun m=>aE (fits (i.length+([m]:ck).length) 8) (aE (fits (l.length+([b.1]:dn).length) 584) (s r (aa (p+1)) (i++[m]) q (k++[a]) (c++[(aa ((aa (d+e))+a))]) (l++[b.1]) b.2.1 b.2.2.1 b.2.2.2))))))
def zr(K:Kn)(n:Nat)(f g:ck)(h:dn)(i j:Int)(k:dO)(c:ck)(o:Int→Int→dn→Option (dn×Int×Int×Int×dO))(e a:Int)(d:dn):Option (dn×Int×Int×Int×dO):=if (decide (a<(h.length:Int))) then aE (aM a c.length) (aE (aM a f.length) (aE (aM a d.length) ((some (List.set d a.toNat ({ (List.getD d a.toNat default)with H:=(aa ((List.getD c a.toNat default)+(List.getD f a.toNat default))) }:ae))).bind fun b=>aE (aM a b.length) ((gy K n ((List.getD b a.toNat default).Before)).bind fun l=>aE (aM a b.length) ((some (List.set b a.toNat ({ (List.getD b a.toNat default)with Y:=(aa (e+l)) }:ae))).bind fun m=>aE (aM a c.length) (aE (aM a g.length) (o (aa (e+(aa ((List.getD c a.toNat default)+(List.getD g a.toNat default))))) (aa (a+1)) m))))))) else some (d,e,i,j,k)
def wz(K:Kn)(n:Nat)(a b:ck)(c:dn)(d e:Int)(f:dO)(g:ck):Nat→Int→Int→dn→Option (dn×Int×Int×Int×dO)
 | 0=>fun _ _ _=>none
 | m+1=>zr K n a b c d e f g (wz K n a b c d e f g m)
def jQ(K:Kn)(n:Nat)(b c:ck)(a:dn)(d e:Int)(f:dO)(g:ck):Option (dn×Int×Int×Int×dO):=wz K n b c a d e f g n 0 0 a
def A8(K:Kn)(n:Nat)(r:ab)(v2:Int)(s:bw)(c:d3)(x:Int→Int→ck→ek→ck→ck→dn→Int→Int→dO→Option (dn×Int×Int×Int×dO))(g a:Int)(h:ck)(i:ek)(d e:ck)(f:dn)(j k:Int)(l:dO):Option (dn×Int×Int×Int×dO):=if (decide (a<(c.length:Int))) then aE (aM a c.length) ((K.dw s.Layout (List.getD c a.toNat default) v2 j k l).bind fun m=>(jC K n ((List.getD c a.toNat default).Style) v2 0).bind fun b=>(some (aa ((aa ((aa (b.Border.a0+b.Border.a2))+b.Padding.a0))+b.Padding.a2))).bind fun o=>(some (((((List.getD c a.toNat default).Style).Basis).Kind) == 1)).bind fun t=>(some (aa (m.1.H-(aa ((aa ((aa (b.Border.a0+b.Border.a2))+b.Padding.a0))+b.Padding.a2))))).bind fun u=>(some (((List.getD c a.toNat default).Style).Grow)).bind fun p=>(some (((List.getD c a.toNat default).Style).Shrink)).bind fun q=>if t then (mc K n (((List.getD c a.toNat default).Style).Basis) 0 0).bind fun v=>oM K n r v2 s c g a h i d e f m o p q x v else oM K n r v2 s c g a h i d e f m o p q x u) else if (r.Style.Height.Kind == 1) then (jx K n i g).bind fun w=>jQ K n d e f j k l w else jQ K n d e f j k l h
def kG(K:Kn)(n:Nat)(a:ab)(v2:Int)(b:bw)(c:d3):Nat→Int→Int→ck→ek→ck→ck→dn→Int→Int→dO→Option (dn×Int×Int×Int×dO)
 | 0=>fun _ _ _ _ _ _ _ _ _ _=>none
 | m+1=>A8 K n a v2 b c (kG K n a v2 b c m)
def AE(K:Kn)(n:Nat)(a:ab)(v2:Int)(b:bw)(v4 v5:Int)(v6:dO):Option (dn×Int×Int×Int×dO):=(mc K n a.Style.Height 0 0).bind fun c=>(kB K n a).bind fun d=>kG K n a v2 b d n (max c 0) 0 [] [] [] [] [] v4 v5 v6
def rR(K:Kn)(n:Nat)(d:ck)(v2 v4:Int)(a:Int→Int→ck→Option ck)(b:Int)(c:ck):Option ck:=a b (aa (v4+1)) c
def uF(K:Kn)(n:Nat)(a:ck)(v2 v4:Int)(v5:ck)(v6:Int)(b:Int→Int→ck→Option ck)(c:Bool):Option ck:=if c then aE (fits (v5.length+([v4]:ck).length) 8) (rR K n a v2 v4 b (List.getD a v4.toNat default) (v5++[v4])) else rR K n a v2 v4 b v6 v5
def vZ(K:Kn)(n:Nat)(a:ck)(v2:Int)(b:Int→Int→ck→Option ck)(c v4:Int)(v5:ck):Option ck:=if (decide (v4<(a.length:Int))) then aE (aM v4 a.length) ((some (aa (c+(List.getD a v4.toNat default)))).bind fun v6=>if (v4 == 0) then uF K n a v2 v4 v5 v6 b true else uF K n a v2 v4 v5 v6 b (decide (v6>v2))) else some v5
def qG(K:Kn)(n:Nat)(a:ck)(v2:Int):Nat→Int→Int→ck→Option ck
 | 0=>fun _ _ _=>none
 | m+1=>vZ K n a v2 (qG K n a v2 m)
def pL(K:Kn)(n:Nat)(a:ck)(v2:Int):Option ck:=qG K n a v2 n 0 0 []
def z4(K:Kn)(n:Nat)(b:ab)(v2:Int)(a:V4 cF):Option ab:=some ({ b with Style:=({ b.Style with Width:=(⟨1,v2⟩:cF),MinWidth:=cj,MaxWidth:=cj,Margin:=a }:aP) }:ab)
def we(K:Kn)(n:Nat)(b:ab)(v2:Int)(a:V4 cF):Option ab:=(dS K n b.Style.Margin.a3 0).bind fun c=>if (!c.2) then z4 K n b v2 ⟨a.a0,a.a1,a.a2,({ cj with Kind:=1 }:cF)⟩ else z4 K n b v2 a
def ua(K:Kn)(n:Nat)(a:ab)(v2:Int)(v6:V4 cF):Option ab:=(dS K n a.Style.Margin.a2 0).bind fun b=>if (!b.2) then we K n a v2 ⟨v6.a0,v6.a1,({ cj with Kind:=1 }:cF),v6.a3⟩ else we K n a v2 v6
def uW(K:Kn)(n:Nat)(a:ab)(v2:Int)(v4:V4 cF):Option ab:=(dS K n a.Style.Margin.a1 0).bind fun v5=>if (!v5.2) then ua K n a v2 ⟨v4.a0,({ cj with Kind:=1 }:cF),v4.a2,v4.a3⟩ else ua K n a v2 v4
def z6(K:Kn)(n:Nat)(a:ab)(v2:Int):Option ab:=(dS K n a.Style.Margin.a0 0).bind fun b=>if (!b.2) then uW K n a v2 ⟨({ cj with Kind:=1 }:cF),a.Style.Margin.a1,a.Style.Margin.a2,a.Style.Margin.a3⟩ else uW K n a v2 a.Style.Margin
def vu(K:Kn)(n:Nat)(o:ab)(v2:Int)(p:bw)(v4 v5:Int)(v6:dO)(q:d3)(a:Int)(d:ek)(b e:ck)(c f g h i:Int)(m:Int→ek→ck→ck→Option (dn×Int×Int×Int×dO))(j:Int):Option (dn×Int×Int×Int×dO):=aE (aM a d.length) ((some (List.set d a.toNat (⟨j,h,i,f,g⟩:bF))).bind fun k=>(vO K n (⟨j,h,i,f,g⟩:bF)).bind fun l=>aE (aM a (List.set b a.toNat c).length) (aE (aM a e.length) (m (aa (a+1)) k (List.set b a.toNat c) (List.set e a.toNat (aa (l+(List.getD (List.set b a.toNat c) a.toNat default)))))))
def A6(K:Kn)(n:Nat)(s:ab)(v2:Int)(k:bw)(v4 v5:Int)(v6:dO)(j:d3)(a:Int)(b:ek)(c d:ck)(e f g h i:Int)(r:Int→ek→ck→ck→Option (dn×Int×Int×Int×dO))(l:Int)(m:Bool):Option (dn×Int×Int×Int×dO):=if (!m) then (K.gv k.Widths (List.getD j a.toNat default)).bind fun o=>(jC K n ((List.getD j a.toNat default).Style) 0 0).bind fun p=>(kH K n p).bind fun q=>vu K n s v2 k v4 v5 v6 j a b c d e f g h i r (aa (o.2-q)) else vu K n s v2 k v4 v5 v6 j a b c d e f g h i r l
def yf(K:Kn)(n:Nat)(v2:Int)(y:bw)(u:d3)(x:ek)(t h:ck)(e c:Int)(d:ck)(v:Int→Int→dn→Int→Int→dO→Option (dn×Int×Int×Int×dO))(w:Int→Int→Int→dn→Int→Int→dO→Option (dn×Int×Int×Int×dO))(f i b:Int)(g:dn)(j k:Int)(l:dO):Option (dn×Int×Int×Int×dO):=if (decide (b<(d.length:Int))) then aE (aM b d.length) (aE (aM (aa ((List.getD h c.toNat default)+b)) u.length) ((z6 K n (List.getD u ((aa ((List.getD h c.toNat default)+b))).toNat default) (List.getD d b.toNat default)).bind fun o=>(K.dw y.Layout o v2 j k l).bind fun a=>(gy K n a.1.Before).bind fun p=>(t6 K n a.1).bind fun q=>(some (max i (aa ((aa (p+a.1.H))+q)))).bind fun r=>(gy K n a.1.Before).bind fun m=>aE (aM (aa ((List.getD h c.toNat default)+b)) t.length) ((some (aa (f+(aa ((List.getD d b.toNat default)+(List.getD t ((aa ((List.getD h c.toNat default)+b))).toNat default)))))).bind fun s=>aE (fits (g.length+([({ a.1 with X:=(aa (a.1.X+f)),Y:=(aa (e+m)) }:ae)]:dn).length) 584) (w s r (aa (b+1)) (g++[({ a.1 with X:=(aa (a.1.X+f)),Y:=(aa (e+m)) }:ae)]) a.2.1 a.2.2.1 a.2.2.2)))) else v (aa (e+i)) (aa (c+1)) g j k l
def pT(K:Kn)(n:Nat)(v2:Int)(h:bw)(i:d3)(d:ek)(e f:ck)(a b:Int)(c:ck)(g:Int→Int→dn→Int→Int→dO→Option (dn×Int×Int×Int×dO)):Nat→Int→Int→Int→dn→Int→Int→dO→Option (dn×Int×Int×Int×dO)
 | 0=>fun _ _ _ _ _ _ _=>none
 | m+1=>yf K n v2 h i d e f a b c g (pT K n v2 h i d e f a b c g m)
def zK(K:Kn)(n:Nat)(v2:Int)(s:bw)(t:d3)(g:ek)(p h:ck)(i b:Int)(j:dn)(k l:Int)(m:dO)(d:Int)(q:Int→Int→dn→Int→Int→dO→Option (dn×Int×Int×Int×dO))(r:Int→ck→Int→Int→Option (dn×Int×Int×Int×dO))(e:Int)(c:ck)(f a:Int):Option (dn×Int×Int×Int×dO):=if (decide (a<f)) then aE (aM a c.length) (r (aa (e-(List.getD c a.toNat default))) c f (aa (a+1))) else aE (cC (List.getD h b.toNat default) d g.length) ((jx K n (List.drop ((List.getD h b.toNat default)).toNat (List.take d.toNat g)) e).bind fun o=>pT K n v2 s t g p h i b o q n 0 0 0 j k l m)
def pJ(K:Kn)(n:Nat)(v2:Int)(l:bw)(o:d3)(h:ek)(i j:ck)(a b:Int)(c:dn)(d e:Int)(f:dO)(g:Int)(k:Int→Int→dn→Int→Int→dO→Option (dn×Int×Int×Int×dO)):Nat→Int→ck→Int→Int→Option (dn×Int×Int×Int×dO)
 | 0=>fun _ _ _ _=>none
 | m+1=>zK K n v2 l o h i j a b c d e f g k (pJ K n v2 l o h i j a b c d e f g k m)
def mL(K:Kn)(n:Nat)(v2:Int)(l:bw)(m:d3)(j:ek)(c d:ck)(e a:Int)(f:dn)(g h:Int)(i:dO)(k:Int→Int→dn→Int→Int→dO→Option (dn×Int×Int×Int×dO))(b:Int):Option (dn×Int×Int×Int×dO):=aE (cC (List.getD d a.toNat default) b c.length) (pJ K n v2 l m j c d e a f g h i b k n v2 (List.drop ((List.getD d a.toNat default)).toNat (List.take b.toNat c)) ((List.drop ((List.getD d a.toNat default)).toNat (List.take b.toNat c)).length:Int) 0)
def xM(K:Kn)(n:Nat)(v2:Int)(m:bw)(k:d3)(i:ek)(j b:ck)(l:Int→Int→dn→Int→Int→dO→Option (dn×Int×Int×Int×dO))(c a:Int)(d:dn)(e f:Int)(g:dO):Option (dn×Int×Int×Int×dO):=if (decide (a<(b.length:Int))) then aE (aM a b.length) ((some (decide ((aa (a+1))<(b.length:Int)))).bind fun h=>if h then aE (aM (aa (a+1)) b.length) (mL K n v2 m k i j b c a d e f g l (List.getD b ((aa (a+1))).toNat default)) else mL K n v2 m k i j b c a d e f g l (k.length:Int)) else some (d,c,e,f,g)
def ja(K:Kn)(n:Nat)(v2:Int)(d:bw)(e:d3)(a:ek)(b c:ck):Nat→Int→Int→dn→Int→Int→dO→Option (dn×Int×Int×Int×dO)
 | 0=>fun _ _ _ _ _ _=>none
 | m+1=>xM K n v2 d e a b c (ja K n v2 d e a b c m)
def lY(K:Kn)(n:Nat)(v2:Int)(d:bw)(v4 v5:Int)(v6:dO)(e:d3)(a:ek)(b c:ck):Option (dn×Int×Int×Int×dO):=ja K n v2 d e a b c n 0 0 [] v4 v5 v6
def zD(K:Kn)(n:Nat)(o:ab)(v2:Int)(m:bw)(v4 v5:Int)(v6:dO)(b:d3)(r:Int→ek→ck→ck→Option (dn×Int×Int×Int×dO))(a:Int)(d:ek)(c e:ck):Option (dn×Int×Int×Int×dO):=if (decide (a<(b.length:Int))) then aE (aM a b.length) ((jC K n ((List.getD b a.toNat default).Style) v2 0).bind fun p=>(kH K n p).bind fun g=>aE (aM a c.length) ((mc K n (((List.getD b a.toNat default).Style).MinWidth) v2 0).bind fun h=>(mc K n (((List.getD b a.toNat default).Style).MaxWidth) v2 1048576).bind fun i=>(some (((List.getD b a.toNat default).Style).Grow)).bind fun j=>(some (((List.getD b a.toNat default).Style).Shrink)).bind fun k=>(dS K n (((List.getD b a.toNat default).Style).Basis) v2).bind fun f=>if (!f.2) then (dS K n (((List.getD b a.toNat default).Style).Width) v2).bind fun l=>A6 K n o v2 m v4 v5 v6 b a d c e g h i j k r l.1 l.2 else A6 K n o v2 m v4 v5 v6 b a d c e g h i j k r f.1 f.2)) else if o.Style.Wrap=true then (pL K n e v2).bind fun q=>lY K n v2 m v4 v5 v6 b d c q else lY K n v2 m v4 v5 v6 b d c [0]
def nU(K:Kn)(n:Nat)(a:ab)(v2:Int)(b:bw)(v4 v5:Int)(v6:dO)(c:d3):Nat→Int→ek→ck→ck→Option (dn×Int×Int×Int×dO)
 | 0=>fun _ _ _ _=>none
 | m+1=>zD K n a v2 b v4 v5 v6 c (nU K n a v2 b v4 v5 v6 c m)
def xU(K:Kn)(n:Nat)(c:ab)(v2:Int)(d:bw)(v4 v5:Int)(v6:dO):Option (dn×Int×Int×Int×dO):=(kB K n c).bind fun a=>aE (fB (a.length:Int) 40) ((some (List.replicate ((a.length:Int)).toNat (jY:bF))).bind fun e=>aE (fB (a.length:Int) 8) ((some (List.replicate ((a.length:Int)).toNat (0:Int))).bind fun f=>aE (fB (a.length:Int) 8) ((some (List.replicate ((a.length:Int)).toNat (0:Int))).bind fun b=>nU K n c v2 d v4 v5 v6 a n 0 e f b)))
def xw(K:Kn)(n:Nat)(a:ae)(b:Int×Bool)(v5:Int):Option ae:=some ({ a with X:=(aa (a.X+b.1)),Y:=v5 }:ae)
def s8(K:Kn)(n:Nat)(a:ae)(v2:Int):Option ae:=if (a.Style.Position != 1) then some a else (dS K n a.Style.Left v2).bind fun b=>if (a.Style.Top.Kind == 1) then (dS K n a.Style.Top 0).bind fun v4=>xw K n a b (aa (a.Y+v4.1)) else xw K n a b a.Y
def xG(K:Kn)(n:Nat)(m:ab)(e:bZ)(p q:bg)(f:dn)(g h:Int)(i:dO)(j k:Int)(o:Int→dn→Option (ae×Int×Int×dO))(a:Int)(b:dn):Option (ae×Int×Int×dO):=if (decide (a<(f.length:Int))) then aE (aM a b.length) (aE (aM a b.length) ((some (List.set b a.toNat ({ (List.getD b a.toNat default)with X:=(aa (((List.getD b a.toNat default).X)+(aa (e.Border.a3+e.Padding.a3)))) }:ae))).bind fun c=>aE (aM a c.length) (aE (aM a c.length) ((some (List.set c a.toNat ({ (List.getD c a.toNat default)with Y:=(aa (((List.getD c a.toNat default).Y)+(aa (e.Border.a0+e.Padding.a0)))) }:ae))).bind fun d=>aE (aM a d.length) ((s8 K n (List.getD d a.toNat default) e.Content).bind fun l=>aE (aM a d.length) (o (aa (a+1)) (List.set d a.toNat l))))))) else some ((⟨1,m.Node,e.Margin.a3,0,j,k,0,⟨#[]⟩,m.Style,p,q,false,b⟩:ae),g,h,i)
def vW(K:Kn)(n:Nat)(g:ab)(h:bZ)(i j:bg)(a:dn)(b c:Int)(d:dO)(e f:Int):Nat→Int→dn→Option (ae×Int×Int×dO)
 | 0=>fun _ _=>none
 | m+1=>xG K n g h i j a b c d e f (vW K n g h i j a b c d e f m)
def vX(K:Kn)(n:Nat)(i:ab)(a:bZ)(j k:bg)(b:dn)(c d:Int)(e:dO)(f:Int):Option (ae×Int×Int×dO):=(some (aa ((aa ((aa ((aa (a.Content+a.Border.a1))+a.Border.a3))+a.Padding.a1))+a.Padding.a3))).bind fun g=>(some (aa ((aa ((aa ((aa (f+a.Border.a0))+a.Border.a2))+a.Padding.a0))+a.Padding.a2))).bind fun h=>vW K n i a j k b c d e g h n 0 b
def tf(K:Kn)(n:Nat)(e:ab)(h:bZ)(i j:bg)(f:Int)(a:dn)(b c:Int)(d:dO):Option (ae×Int×Int×dO):=if (e.Style.Height.Kind == 1) then (mc K n e.Style.Height 0 0).bind fun g=>vX K n e h i j a b c d (max g 0) else vX K n e h i j a b c d (max f 0)
def oH(K:Kn)(n:Nat)(c:ab)(v2:Int)(e:bw)(v4 v5:Int)(v6:dO):Option (ae×Int×Int×dO):=(rD K n c.Style v2).bind fun d=>(nr K n d.Margin.a0).bind fun f=>(nr K n d.Margin.a2).bind fun g=>if (c.Style.Direction == 1) then (AE K n c d.Content e v4 v5 v6).bind fun a=>tf K n c d f g a.2.1 a.1 a.2.2.1 a.2.2.2.1 a.2.2.2.2 else (xU K n c d.Content e v4 v5 v6).bind fun b=>tf K n c d f g b.2.1 b.1 b.2.2.1 b.2.2.2.1 b.2.2.2.2
def su(K:Kn)(n:Nat)(a:d3)(v2:Fv)(b:Int→Option Int)(v4:Int):Option Int:=if (decide (v4<(a.length:Int))) then aE (aM v4 a.length) ((K.ld v2 (List.getD a v4.toNat default)).bind fun v5=>if v5 then some v4 else b (aa (v4+1))) else some (-1)
def lG(K:Kn)(n:Nat)(a:d3)(v2:Fv):Nat→Int→Option Int
 | 0=>fun _=>none
 | m+1=>su K n a v2 (lG K n a v2 m)
def xj(K:Kn)(n:Nat)(a:d3)(v2:Fv):Option Int:=lG K n a v2 n 0
def nH(K:Kn)(n:Nat)(a:d3)(v2:Fv):Option Bool:=(xj K n a v2).bind fun b=>some (decide (b≥0))
def zQ(K:Kn)(n:Nat)(d:ab)(c:Int)(b:Int→d3→Option (d3×Bool))(a:d3):Option (d3×Bool):=b (aa (c+1)) a
def yK(K:Kn)(n:Nat)(a:ab)(f:Int→d3→Option (d3×Bool))(b:Int)(c:d3):Option (d3×Bool):=if (decide (b<(a.Kids.length:Int))) then aE (aM b a.Kids.length) ((jN K n (List.getD a.Kids b.toNat default)).bind fun d=>if d then aE (fits (c.length+([(List.getD a.Kids b.toNat default)]:d3).length) 520) (zQ K n a b f (c++[(List.getD a.Kids b.toNat default)])) else zQ K n a b f c) else (nH K n c (Fv.fn 145)).bind fun e=>some (c,e)
def wB(K:Kn)(n:Nat)(a:ab):Nat→Int→d3→Option (d3×Bool)
 | 0=>fun _ _=>none
 | m+1=>yK K n a (wB K n a m)
def tS(K:Kn)(n:Nat)(a:ab):Option (d3×Bool):=wB K n a n 0 []
def kC(K:Kn)(n:Nat)(a v2:bg):Option bg:=some (⟨(max a.Pos v2.Pos),(min a.Neg v2.Neg)⟩:bg)
def s5(K:Kn)(n:Nat)(h:dn)(a:Int)(b:dn)(c:Int)(i:Int→Bool→Int→bg→bg→dn→Option (dn×Int×bg×bg×Bool))(d:Int)(e:Bool)(f g:bg):Option (dn×Int×bg×bg×Bool):=aE (fits (b.length+([({ (List.getD h a.toNat default)with Y:=c }:ae)]:dn).length) 584) (i d e (aa (a+1)) f g (b++[({ (List.getD h a.toNat default)with Y:=c }:ae)]))
def rZ(K:Kn)(n:Nat)(c:dn)(a:Int)(d:dn)(g:bg)(b:Int)(f:Int→Bool→Int→bg→bg→dn→Option (dn×Int×bg×bg×Bool))(e:bg):Option (dn×Int×bg×bg×Bool):=s5 K n c a d b f (aa (b+((List.getD c a.toNat default).H))) false e ((List.getD c a.toNat default).After)
def vC(K:Kn)(n:Nat)(g:dn)(i:Int)(e:Bool)(a:Int)(f:bg)(c:dn)(b:bg)(h:Int→Bool→Int→bg→bg→dn→Option (dn×Int×bg×bg×Bool))(d:Int):Option (dn×Int×bg×bg×Bool):=if (!(List.getD g a.toNat default).Empty) then if e then rZ K n g a c b d h b else rZ K n g a c b d h f else s5 K n g a c d h i e f b
def qw(K:Kn)(n:Nat)(a:Int)(b:Bool)(c:bg)(d:dn)(e:bg):Option (dn×Int×bg×bg×Bool):=some (d,a,e,c,b)
def pF(K:Kn)(n:Nat)(h:dn)(j:Int→Bool→Int→bg→bg→dn→Option (dn×Int×bg×bg×Bool))(b:Int)(a:Bool)(c:Int)(f d:bg)(e:dn):Option (dn×Int×bg×bg×Bool):=if (decide (c<(h.length:Int))) then aE (aM c h.length) ((kC K n d ((List.getD h c.toNat default).Before)).bind fun g=>if (!a) then (gy K n g).bind fun i=>vC K n h b a c f e g j (aa (b+i)) else vC K n h b a c f e g j 0) else if a then qw K n b a d e d else qw K n b a d e f
def jr(K:Kn)(n:Nat)(a:dn):Nat→Int→Bool→Int→bg→bg→dn→Option (dn×Int×bg×bg×Bool)
 | 0=>fun _ _ _ _ _ _=>none
 | m+1=>pF K n a (jr K n a m)
def lr(K:Kn)(n:Nat)(a:dn):Option (dn×Int×bg×bg×Bool):=jr K n a n 0 true 0 dF dF []
def Cz(K:Kn)(n:Nat)(a:bZ):Option Int:=some (aa ((aa ((aa (a.Border.a3+a.Padding.a3))+a.Border.a1))+a.Padding.a1))
def vY(K:Kn)(n:Nat)(v2:Bool):Option Bool:=some v2
def uE(K:Kn)(n:Nat)(a:ab):Option Bool:=if (a.Kind == 1) then vY K n true else if (a.Kind == 6) then vY K n true else vY K n (a.Kind == 7)
def Am(K:Kn)(n:Nat)(o:ab)(v2:bZ)(p:d3×Bool)(d:dn)(e f:Int)(g:dO)(h:Int)(i j:bg)(k:Bool)(l m a:Int)(c:Int→dn→Option (ae×Int×Int×dO))(b:dn):Option (ae×Int×Int×dO):=c (aa (a+1)) b
def xZ(K:Kn)(n:Nat)(q:ab)(v2:bZ)(r:d3×Bool)(c:dn)(d e:Int)(f:dO)(g:Int)(h i:bg)(j:Bool)(k l a:Int)(b:dn)(p:Int→dn→Option (ae×Int×Int×dO))(m:Bool):Option (ae×Int×Int×dO):=if m then aE (aM a b.length) ((s8 K n (List.getD b a.toNat default) v2.Content).bind fun o=>aE (aM a b.length) (Am K n q v2 r c d e f g h i j k l a p (List.set b a.toNat o))) else Am K n q v2 r c d e f g h i j k l a p b
def zj(K:Kn)(n:Nat)(q:ab)(v2:bZ)(p:d3×Bool)(d:dn)(e f:Int)(g:dO)(h:Int)(i j:bg)(k:Bool)(l m:Int)(s:Int→dn→Option (ae×Int×Int×dO))(a:Int)(b:dn):Option (ae×Int×Int×dO):=if (decide (a<(d.length:Int))) then aE (aM a b.length) (aE (aM a b.length) ((some (List.set b a.toNat ({ (List.getD b a.toNat default)with X:=(aa (((List.getD b a.toNat default).X)+(aa (v2.Border.a3+v2.Padding.a3)))) }:ae))).bind fun c=>aE (aM a c.length) (aE (aM a c.length) ((some (List.set c a.toNat ({ (List.getD c a.toNat default)with Y:=(aa (((List.getD c a.toNat default).Y)+(aa ((aa (v2.Border.a0+v2.Padding.a0))+h)))) }:ae))).bind fun o=>if p.2=true then aE (aM a p.1.length) ((uE K n (List.getD p.1 a.toNat default)).bind fun r=>xZ K n q v2 p d e f g h i j k l m a o s r) else xZ K n q v2 p d e f g h i j k l m a o s false)))) else some ((⟨1,q.Node,v2.Margin.a3,0,(aa (v2.Content+l)),m,0,⟨#[]⟩,q.Style,i,j,k,b⟩:ae),e,f,g)
def vn(K:Kn)(n:Nat)(k:ab)(v2:bZ)(l:d3×Bool)(a:dn)(b c:Int)(d:dO)(e:Int)(f g:bg)(h:Bool)(i j:Int):Nat→Int→dn→Option (ae×Int×Int×dO)
 | 0=>fun _ _=>none
 | m+1=>zj K n k v2 l a b c d e f g h i j (vn K n k v2 l a b c d e f g h i j m)
def rT(K:Kn)(n:Nat)(l:ab)(v2:bZ)(m:d3×Bool)(a:dn)(b c:Int)(d:dO)(e:Int)(f g:bg)(h:Bool)(i:Int):Option (ae×Int×Int×dO):=(Cz K n v2).bind fun j=>(some (aa ((aa ((aa ((aa (i+v2.Border.a0))+v2.Padding.a0))+v2.Border.a2))+v2.Padding.a2))).bind fun k=>vn K n l v2 m a b c d e f g h j k n 0 a
def za(K:Kn)(n:Nat)(l:ab)(v2:bZ)(m:d3×Bool)(a:dn)(b c:Int)(d:dO)(e i:Int)(f g:bg)(h:Bool)(j:Int×Bool)(k:Bool):Option (ae×Int×Int×dO):=if k then rT K n l v2 m a b c d e f g h (max j.1 0) else rT K n l v2 m a b c d e f g h (max i 0)
def mh(K:Kn)(n:Nat)(k:ab)(v2:bZ)(l:d3×Bool)(b:dn)(c d:Int)(e:dO)(f g:Int)(h i:bg)(j:Bool):Option (ae×Int×Int×dO):=(dS K n k.Style.Height 0).bind fun a=>if a.2=true then za K n k v2 l b c d e f g h i j a (k.Style.Height.Kind == 1) else za K n k v2 l b c d e f g h i j a false
def sC(K:Kn)(n:Nat)(h:ab)(v2:bZ)(v4:Bool)(l:d3×Bool)(i:Int)(m:Bool)(o j:bg)(b:dn)(c d:Int)(e:dO)(f:bg)(a:Int)(g:bg)(p:Bool):Option (ae×Int×Int×dO):=if p then (kC K n g f).bind fun k=>mh K n h v2 l b c d e a 0 k k true else if m then if v4 then (kC K n f o).bind fun q=>mh K n h v2 l b c d e a a g q false else mh K n h v2 l b c d e a a g f false else if v4 then (kC K n f j).bind fun r=>mh K n h v2 l b c d e a (aa (i+a)) g r false else (gy K n j).bind fun s=>mh K n h v2 l b c d e a (aa (i+(aa (a+s)))) g f false
def ub(K:Kn)(n:Nat)(l:ab)(v2:bZ)(o v4:Bool)(m:d3×Bool)(b:Int)(a:Bool)(c d:bg)(e:dn)(f g:Int)(h:dO)(i:bg)(j:Int)(k:bg):Option (ae×Int×Int×dO):=if a then if o then sC K n l v2 v4 m b a c d e f g h i j k v4 else sC K n l v2 v4 m b a c d e f g h i j k false else sC K n l v2 v4 m b a c d e f g h i j k false
def xJ(K:Kn)(n:Nat)(m:ab)(v2:bZ)(o v4:Bool)(p:d3×Bool)(b:Int)(c:Bool)(a d:bg)(e:dn)(f g:Int)(h:dO)(i j:bg)(k:Bool):Option (ae×Int×Int×dO):=if k then (gy K n a).bind fun l=>ub K n m v2 o v4 p b c a d e f g h j l i else ub K n m v2 o v4 p b c a d e f g h j 0 i
def pj(K:Kn)(n:Nat)(l:ab)(v2:bZ)(k v4:Bool)(o:d3×Bool)(c:Int)(a:Bool)(b d:bg)(e:dn)(f g:Int)(h:dO):Option (ae×Int×Int×dO):=(nr K n v2.Margin.a0).bind fun i=>(nr K n v2.Margin.a2).bind fun j=>if k then (kC K n i b).bind fun m=>ub K n l v2 k v4 o c a b d e f g h j 0 m else if (!a) then xJ K n l v2 k v4 o c a b d e f g h i j true else xJ K n l v2 k v4 o c a b d e f g h i j (!v4)
def Ah(K:Kn)(n:Nat)(j:ab)(v2:bZ)(k v4:Bool)(v5:bw)(h:d3×Bool)(i:Int→dn→Int→Int→dO→Option (ae×Int×Int×dO))(c:Int)(d:dn)(e f:Int)(g:dO):Option (ae×Int×Int×dO):=if (decide (c<(h.1.length:Int))) then aE (aM c h.1.length) ((K.dw v5.Layout (List.getD h.1 c.toNat default) v2.Content e f g).bind fun a=>aE (fits (d.length+([a.1]:dn).length) 584) (i (aa (c+1)) (d++[a.1]) a.2.1 a.2.2.1 a.2.2.2)) else (lr K n d).bind fun b=>pj K n j v2 k v4 h b.2.1 b.2.2.2.2 b.2.2.1 b.2.2.2.1 b.1 e f g
def qN(K:Kn)(n:Nat)(a:ab)(v2:bZ)(b v4:Bool)(v5:bw)(c:d3×Bool):Nat→Int→dn→Int→Int→dO→Option (ae×Int×Int×dO)
 | 0=>fun _ _ _ _ _=>none
 | m+1=>Ah K n a v2 b v4 v5 c (qN K n a v2 b v4 v5 c m)
def j7(K:Kn)(n:Nat)(c:ab)(v2:bZ)(e v4:Bool)(v5:bw)(v6 f:Int)(g:dO):Option (ae×Int×Int×dO):=(tS K n c).bind fun d=>if d.2=true then qN K n c v2 e v4 v5 d n 0 [] v6 f g else (K.wY v5.Lines d.1 c.Style v2.Content).bind fun a=>(rb K n a.1).bind fun b=>pj K n c v2 e v4 d a.2 ((b.length:Int) == 0) dF dF b v6 f g
def rX(K:Kn)(n:Nat)(b:ab)(c:bw)(v4 v5:Int)(v6:dO)(d:bZ)(e f:Bool):Option (ae×Int×Int×dO):=(j7 K n b d e f c v4 v5 v6).bind fun a=>some (a.1,a.2.1,a.2.2.1,a.2.2.2)
def oK(K:Kn)(n:Nat)(a:ab)(c:bw)(v4 v5:Int)(v6:dO)(b:bZ)(d:Bool):Option (ae×Int×Int×dO):=if (a.Style.Overflow == 0) then if (b.Border.a2 == 0) then if (b.Padding.a2 == 0) then rX K n a c v4 v5 v6 b d (a.Style.Height.Kind != 1) else rX K n a c v4 v5 v6 b d false else rX K n a c v4 v5 v6 b d false else rX K n a c v4 v5 v6 b d false
def nI(K:Kn)(n:Nat)(a:ab)(v2:Int)(c:bw)(v4 v5:Int)(v6:dO):Option (ae×Int×Int×dO):=(rD K n a.Style v2).bind fun b=>if (a.Style.Overflow == 0) then if (b.Border.a0 == 0) then oK K n a c v4 v5 v6 b (b.Padding.a0 == 0) else oK K n a c v4 v5 v6 b false else oK K n a c v4 v5 v6 b false
def Cw(K:Kn)(n:Nat)(a:ae)(b c:Int)(d:dO):Option (ae×Int×Int×dO):=some (a,b,c,d)
def tq(K:Kn)(n:Nat)(f:ab)(v2:Int)(v5:Bool)(a:ae)(c d:Int)(e:dO):Option (ae×Int×Int×dO):=if v5 then aE v5 ((AR K n f v2 a c d e).bind fun b=>Cw K n a b.1 b.2.1 b.2.2) else Cw K n a c d e
def ur(K:Kn)(n:Nat)(c:ab)(v2:Int)(v4:bw)(v5:Bool)(d e:Int)(f:dO):Option (ae×Int×Int×dO):=if (c.Kind == 6) then (oH K n c v2 v4 d e f).bind fun a=>tq K n c v2 v5 a.1 a.2.1 a.2.2.1 a.2.2.2 else if (c.Kind == 7) then none else if (c.Kind == 5) then none else (nI K n c v2 v4 d e f).bind fun b=>tq K n c v2 v5 b.1 b.2.1 b.2.2.1 b.2.2.2
def ki(K:Kn)(n:Nat)(b:ab)(v2:Int)(c:Bool)(v4:bw)(v5:Bool)(v6 d:Int)(e:dO):Option (ae×Int×Int×dO):=if c then aE c ((wE K n b v2 v6 d e).bind fun a=>if a.2.1=true then some (a.1,a.2.2.1,a.2.2.2.1,a.2.2.2.2) else ur K n b v2 v4 v5 a.2.2.1 a.2.2.2.1 a.2.2.2.2) else ur K n b v2 v4 v5 v6 d e
def yg(K:Kn)(n:Nat)(a:aP):Option aP:=some a
def vm(K:Kn)(n:Nat)(a:aP):Option aP:=if (a.Padding.a3.Kind == 2) then yg K n ({ a with Padding:=⟨a.Padding.a0,a.Padding.a1,a.Padding.a2,cj⟩ }:aP) else yg K n a
def uT(K:Kn)(n:Nat)(a:aP):Option aP:=if (a.Margin.a3.Kind == 2) then vm K n ({ a with Margin:=⟨a.Margin.a0,a.Margin.a1,a.Margin.a2,cj⟩ }:aP) else vm K n a
def vh(K:Kn)(n:Nat)(a:aP):Option aP:=if (a.Padding.a2.Kind == 2) then uT K n ({ a with Padding:=⟨a.Padding.a0,a.Padding.a1,cj,a.Padding.a3⟩ }:aP) else uT K n a
def rN(K:Kn)(n:Nat)(a:aP):Option aP:=if (a.Margin.a2.Kind == 2) then vh K n ({ a with Margin:=⟨a.Margin.a0,a.Margin.a1,cj,a.Margin.a3⟩ }:aP) else vh K n a
def ux(K:Kn)(n:Nat)(a:aP):Option aP:=if (a.Padding.a1.Kind == 2) then rN K n ({ a with Padding:=⟨a.Padding.a0,cj,a.Padding.a2,a.Padding.a3⟩ }:aP) else rN K n a
def uS(K:Kn)(n:Nat)(a:aP):Option aP:=if (a.Margin.a1.Kind == 2) then ux K n ({ a with Margin:=⟨a.Margin.a0,cj,a.Margin.a2,a.Margin.a3⟩ }:aP) else ux K n a
def uX(K:Kn)(n:Nat)(v6:aP):Option aP:=if (v6.Padding.a0.Kind == 2) then uS K n ({ v6 with Padding:=⟨cj,v6.Padding.a1,v6.Padding.a2,v6.Padding.a3⟩ }:aP) else uS K n v6
def s9(K:Kn)(n:Nat)(v5:aP):Option aP:=if (v5.Margin.a0.Kind == 2) then uX K n ({ v5 with Margin:=⟨cj,v5.Margin.a1,v5.Margin.a2,v5.Margin.a3⟩ }:aP) else uX K n v5
def uf(K:Kn)(n:Nat)(v4:aP):Option aP:=if (v4.MaxWidth.Kind == 2) then s9 K n ({ v4 with MaxWidth:=cj }:aP) else s9 K n v4
def s7(K:Kn)(n:Nat)(a:aP):Option aP:=if (a.MinWidth.Kind == 2) then uf K n ({ a with MinWidth:=cj }:aP) else uf K n a
def wT(K:Kn)(n:Nat)(a:aP):Option aP:=if (a.Width.Kind == 2) then s7 K n ({ a with Width:=cj }:aP) else s7 K n a
def xz(K:Kn)(n:Nat)(a:Int)(v2:aP):Option Int:=(iA K n a 1048576).bind fun b=>(mq K n v2 0 b).bind fun v4=>(jC K n v2 0 v4).bind fun v5=>(kH K n v5).bind fun v6=>some v6
def z9(K:Kn)(n:Nat)(e:ab)(v2:bw)(f:aP)(v5:d3)(a:Int)(d:Int→Int→Int→Option em)(b c:Int):Option em:=d b c (aa (a+1))
def A4(K:Kn)(n:Nat)(f:ab)(v2:bw)(g:aP)(v5:d3)(a b:Int)(c:Int×Int)(e:Int→Int→Int→Option em)(d:Int):Option em:=z9 K n f v2 g v5 b e d (aa (a+c.2))
def pD(K:Kn)(n:Nat)(e:aP)(a b:Int):Option em:=(xz K n a e).bind fun c=>(xz K n b e).bind fun d=>some (c,d)
def wN(K:Kn)(n:Nat)(e:ab)(v2:bw)(f:aP)(v5:d3)(g:Int→Int→Int→Option em)(c d a:Int):Option em:=if (decide (a<(v5.length:Int))) then aE (aM a v5.length) ((K.gv v2.Widths (List.getD v5 a.toNat default)).bind fun b=>if (e.Style.Direction == 1) then z9 K n e v2 f v5 a g (max c b.1) (max d b.2) else if e.Style.Wrap=true then A4 K n e v2 f v5 d a b g (max c b.1) else A4 K n e v2 f v5 d a b g (aa (c+b.1))) else pD K n f c d
def vo(K:Kn)(n:Nat)(a:ab)(v2:bw)(b:aP)(v5:d3):Nat→Int→Int→Int→Option em
 | 0=>fun _ _ _=>none
 | m+1=>wN K n a v2 b v5 (vo K n a v2 b v5 m)
def rP(K:Kn)(n:Nat)(a:ab)(v2:bw):Option em:=(wT K n a.Style).bind fun b=>(dS K n b.Width 0).bind fun v4=>if v4.2=true then pD K n b v4.1 v4.1 else (kB K n a).bind fun v5=>vo K n a v2 b v5 n 0 0 0
def yV(K:Kn)(n:Nat)(a:aP):Option aP:=some a
def uI(K:Kn)(n:Nat)(a:aP):Option aP:=if (a.Padding.a3.Kind == 2) then yV K n ({ a with Padding:=⟨a.Padding.a0,a.Padding.a1,a.Padding.a2,cj⟩ }:aP) else yV K n a
def tJ(K:Kn)(n:Nat)(a:aP):Option aP:=if (a.Margin.a3.Kind == 2) then uI K n ({ a with Margin:=⟨a.Margin.a0,a.Margin.a1,a.Margin.a2,cj⟩ }:aP) else uI K n a
def ta(K:Kn)(n:Nat)(a:aP):Option aP:=if (a.Padding.a2.Kind == 2) then tJ K n ({ a with Padding:=⟨a.Padding.a0,a.Padding.a1,cj,a.Padding.a3⟩ }:aP) else tJ K n a
def tc(K:Kn)(n:Nat)(a:aP):Option aP:=if (a.Margin.a2.Kind == 2) then ta K n ({ a with Margin:=⟨a.Margin.a0,a.Margin.a1,cj,a.Margin.a3⟩ }:aP) else ta K n a
def td(K:Kn)(n:Nat)(a:aP):Option aP:=if (a.Padding.a1.Kind == 2) then tc K n ({ a with Padding:=⟨a.Padding.a0,cj,a.Padding.a2,a.Padding.a3⟩ }:aP) else tc K n a
def wt(K:Kn)(n:Nat)(a:aP):Option aP:=if (a.Margin.a1.Kind == 2) then td K n ({ a with Margin:=⟨a.Margin.a0,cj,a.Margin.a2,a.Margin.a3⟩ }:aP) else td K n a
def vd(K:Kn)(n:Nat)(v6:aP):Option aP:=if (v6.Padding.a0.Kind == 2) then wt K n ({ v6 with Padding:=⟨cj,v6.Padding.a1,v6.Padding.a2,v6.Padding.a3⟩ }:aP) else wt K n v6
def uV(K:Kn)(n:Nat)(v5:aP):Option aP:=if (v5.Margin.a0.Kind == 2) then vd K n ({ v5 with Margin:=⟨cj,v5.Margin.a1,v5.Margin.a2,v5.Margin.a3⟩ }:aP) else vd K n v5
def sZ(K:Kn)(n:Nat)(v4:aP):Option aP:=if (v4.MaxWidth.Kind == 2) then uV K n ({ v4 with MaxWidth:=cj }:aP) else uV K n v4
def wu(K:Kn)(n:Nat)(a:aP):Option aP:=if (a.MinWidth.Kind == 2) then sZ K n ({ a with MinWidth:=cj }:aP) else sZ K n a
def uc(K:Kn)(n:Nat)(a:aP):Option aP:=if (a.Width.Kind == 2) then wu K n ({ a with Width:=cj }:aP) else wu K n a
def xo(K:Kn)(n:Nat)(v2:bw)(v6:d3×Bool)(g:Int→Int→Int→Option em)(b c a:Int):Option em:=if (decide (a<(v6.1.length:Int))) then aE (aM a v6.1.length) ((K.gv v2.Widths (List.getD v6.1 a.toNat default)).bind fun d=>g (max b d.1) (max c d.2) (aa (a+1))) else (gI K n b).bind fun e=>(gI K n c).bind fun f=>some (e,f)
def rY(K:Kn)(n:Nat)(v2:bw)(v6:d3×Bool):Nat→Int→Int→Int→Option em
 | 0=>fun _ _ _=>none
 | m+1=>xo K n v2 v6 (rY K n v2 v6 m)
def lL(K:Kn)(n:Nat)(a:ab)(v2:bw):Option em:=(uc K n a.Style).bind fun c=>(dS K n c.Width 0).bind fun v4=>if v4.2=true then (gI K n v4.1).bind fun v5=>some (v5,v5) else (tS K n a).bind fun v6=>if (!v6.2) then (K.wK v2.Spread v6.1 a.Style).bind fun b=>(gI K n b.1).bind fun d=>(gI K n b.2).bind fun e=>some (d,e) else rY K n v2 v6 n 0 0 0
def wU(K:Kn)(n:Nat)(b:ab)(v2:bw):Option em:=(lL K n b v2).bind fun c=>(uc K n b.Style).bind fun v4=>(mq K n v4 0 c.1).bind fun v5=>(jC K n v4 0 v5).bind fun v6=>(kH K n v6).bind fun d=>(mq K n v4 0 c.2).bind fun e=>(jC K n v4 0 e).bind fun f=>(kH K n f).bind fun a=>some (d,a)
def qE(K:Kn)(n:Nat)(a:ab)(v2:bw):Option em:=if (a.Kind == 6) then (rP K n a v2).bind fun b=>some (b.1,b.2) else if (a.Kind == 7) then none else (wU K n a v2).bind fun v4=>some (v4.1,v4.2)
def po(K:Kn)(n:Nat)(v2:eb)(a:aJ):Option eb:=aE (fits (v2.length+([({ a with Char:=32 }:aJ)]:eb).length) 32) (some (v2++[({ a with Char:=32 }:aJ)]))
def ny(K:Kn)(n:Nat)(a:aJ)(v2:eb)(v6:Bool):Option eb:=if v6 then some v2 else po K n v2 ({ a with Soft:=true }:aJ)
def vF(K:Kn)(n:Nat)(a:aJ)(v2:eb)(v5:Bool):Option eb:=if v5 then some v2 else if (!(a.Box.Style.WhiteSpace == 2)) then if ((v2.length:Int) == 0) then ny K n a v2 true else aE (aM (aa ((v2.length:Int)-1)) v2.length) (if (List.getD v2 ((aa ((v2.length:Int)-1))).toNat default).Soft=true then ny K n a v2 true else aE (aM (aa ((v2.length:Int)-1)) v2.length) (ny K n a v2 (((List.getD v2 ((aa ((v2.length:Int)-1))).toNat default).Kind) == 2))) else po K n v2 a
def uJ(K:Kn)(n:Nat)(a:aJ)(v2:eb)(v4:Bool):Option eb:=if v4 then po K n v2 ({ a with Kind:=2 }:aJ) else if (a.Box.Style.WhiteSpace == 2) then vF K n a v2 (a.Char == 13) else vF K n a v2 false
def lO(K:Kn)(n:Nat)(a:aJ)(v2:eb)(b:Bool):Option eb:=if b then if (a.Box.Style.WhiteSpace == 2) then uJ K n a v2 (a.Char == 10) else uJ K n a v2 false else aE (fits (v2.length+([a]:eb).length) 32) (some (v2++[a]))
def zO(K:Kn)(n:Nat)(a:aJ)(v2:eb):Option eb:=if (a.Char == 9) then lO K n a v2 true else if (a.Char == 10) then lO K n a v2 true else if (a.Char == 13) then lO K n a v2 true else lO K n a v2 (a.Char == 32)
def mG(K:Kn)(n:Nat)(e:d3)(a:Int)(d:Int→Int→eb→Option (Int×eb))(b:Int)(c:eb):Option (Int×eb):=d (aa (a+1)) b c
def kJ(K:Kn)(n:Nat)(e:d3)(a:Int)(d:Int→Int→eb→Option (Int×eb))(b:Int)(c:eb):Option (Int×eb):=mG K n e a d b c
def vL(K:Kn)(n:Nat)(c:d3)(a d:Int)(i:Int→Int→eb→Option (Int×eb))(j:Nat→eb→Option (Int×eb))(b:Nat)(e:eb):Option (Int×eb):=if decide (b<((List.getD c a.toNat default).Text).size)=true then (some ((Utf8.decode ((List.getD c a.toNat default).Text) b).1:Int)).bind fun f=>(some (b+(Utf8.decode ((List.getD c a.toNat default).Text) b).2)).bind fun g=>(zO K n (⟨1,(aa (d+1)),f,false,(List.getD c a.toNat default)⟩:aJ) e).bind fun h=>j g h else kJ K n c a i (aa (d+1)) e
def uv(K:Kn)(n:Nat)(d:d3)(a b:Int)(c:Int→Int→eb→Option (Int×eb)):Nat→Nat→eb→Option (Int×eb)
 | 0=>fun _ _=>none
 | m+1=>vL K n d a b c (uv K n d a b c m)
def uz(K:Kn)(n:Nat)(d:d3)(e:Int→Int→eb→Option (Int×eb))(a b:Int)(c:eb):Option (Int×eb):=if (decide (a<(d.length:Int))) then aE (aM a d.length) ((jN K n (List.getD d a.toNat default)).bind fun g=>if (!g) then mG K n d a e b c else (some (((List.getD d a.toNat default).Kind) == 2)).bind fun h=>if h then (K.D1 ((List.getD d a.toNat default).Kids) (aa (b+1)) c).bind fun f=>kJ K n d a e f.1 f.2 else (some (((List.getD d a.toNat default).Kind) == 4)).bind fun i=>if i then aE (fits (c.length+([(⟨2,(aa (b+1)),0,false,(List.getD d a.toNat default)⟩:aJ)]:eb).length) 32) (kJ K n d a e (aa (b+1)) (c++[(⟨2,(aa (b+1)),0,false,(List.getD d a.toNat default)⟩:aJ)])) else (some (((List.getD d a.toNat default).Kind) == 5)).bind fun j=>if j then aE (fits (c.length+([(⟨3,(aa (b+1)),0,false,(List.getD d a.toNat default)⟩:aJ)]:eb).length) 32) (kJ K n d a e (aa (b+1)) (c++[(⟨3,(aa (b+1)),0,false,(List.getD d a.toNat default)⟩:aJ)])) else (some (((List.getD d a.toNat default).Kind) == 3)).bind fun k=>if k then uv K n d a b e n 0 c else kJ K n d a e (aa (b+1)) c) else some (b,c)
def rj(K:Kn)(n:Nat)(a:d3):Nat→Int→Int→eb→Option (Int×eb)
 | 0=>fun _ _ _=>none
 | m+1=>uz K n a (rj K n a m)
def nh(K:Kn)(n:Nat)(a:d3)(v2:Int)(b:eb):Option (Int×eb):=rj K n a n 0 v2 b
def pE(K:Kn)(n:Nat)(a:d3):Option eb:=(nh K n a 0 ([]:eb)).bind fun v2=>some v2.2
def vw(K:Kn)(n:Nat)(v2:Bool):Option Bool:=some v2
def m9(K:Kn)(n:Nat)(a:aJ):Option Bool:=if (a.Kind == 1) then if (a.Box.Style.WhiteSpace != 1) then vw K n (a.Box.Style.WhiteSpace != 2) else vw K n false else vw K n false
def xa(K:Kn)(n:Nat)(v6:Bool):Option Int:=if v6 then some 10 else some 8
def mV(K:Kn)(n:Nat)(a:Int)(v5:Bool):Option Int:=if v5 then some 14 else if (decide (a≥65)) then xa K n (decide (a≤90)) else xa K n false
def gn(K:Kn)(n:Nat)(a:Int)(v4:Bool):Option Int:=if v4 then some 6 else if (a == 37) then mV K n a true else if (a == 64) then mV K n a true else if (a == 77) then mV K n a true else if (a == 87) then mV K n a true else if (a == 109) then mV K n a true else mV K n a (a == 119)
def gQ(K:Kn)(n:Nat)(a:Int)(b:Bool):Option Int:=if b then some 4 else if (a == 34) then gn K n a true else if (a == 40) then gn K n a true else if (a == 41) then gn K n a true else if (a == 42) then gn K n a true else if (a == 45) then gn K n a true else if (a == 47) then gn K n a true else if (a == 91) then gn K n a true else if (a == 92) then gn K n a true else if (a == 93) then gn K n a true else if (a == 94) then gn K n a true else if (a == 102) then gn K n a true else if (a == 114) then gn K n a true else if (a == 116) then gn K n a true else if (a == 123) then gn K n a true else gn K n a (a == 125)
def lI(K:Kn)(n:Nat)(a:Int)(v2:Bool):Option Int:=if v2 then some 0 else if (decide (a≥4352)) then some 16 else if (a == 32) then gQ K n a true else if (a == 160) then gQ K n a true else if (a == 33) then gQ K n a true else if (a == 39) then gQ K n a true else if (a == 44) then gQ K n a true else if (a == 46) then gQ K n a true else if (a == 58) then gQ K n a true else if (a == 59) then gQ K n a true else if (a == 73) then gQ K n a true else if (a == 105) then gQ K n a true else if (a == 106) then gQ K n a true else if (a == 108) then gQ K n a true else gQ K n a (a == 124)
def lj(K:Kn)(n:Nat)(a:Int):Option Int:=if (decide (a<32)) then lI K n a true else if (decide (a>1114111)) then lI K n a true else if (decide (a≥127)) then if (decide (a≤159)) then lI K n a true else if (decide (a≥768)) then lI K n a (decide (a≤879)) else lI K n a false else if (decide (a≥768)) then lI K n a (decide (a≤879)) else lI K n a false
def pO(K:Kn)(n:Nat)(v2:Bool):Option Bool:=if v2 then some true else some false
def ss(K:Kn)(n:Nat)(a:Int):Option Bool:=if (a == 9) then pO K n true else if (a == 10) then pO K n true else if (a == 13) then pO K n true else pO K n (a == 32)
def AG(K:Kn)(n:Nat)(a:Bool):Option Bool:=some a
def xd(K:Kn)(n:Nat)(a v2:Int)(b:Bool):Option Bool:=if b then some true else if (decide (a≥11904)) then AG K n true else AG K n (decide (v2≥11904))
def pI(K:Kn)(n:Nat)(a v2:Int)(v5:Bool):Option Bool:=if v5 then some false else (ss K n a).bind fun v6=>if v6 then some true else if (a == 45) then xd K n a v2 (v2 != 45) else xd K n a v2 false
def Ap(K:Kn)(n:Nat)(a v2:Int):Option Bool:=(ss K n v2).bind fun b=>if b then pI K n a v2 true else (lj K n v2).bind fun v4=>pI K n a v2 (v4 == 0)
def qY(K:Kn)(n:Nat)(c:ByteArray)(a:Nat)(d:Int→Nat→ck→Option ck)(b:ck):Option ck:=d ((Utf8.decode c a).1:Int) (a+(Utf8.decode c a).2) b
def qI(K:Kn)(n:Nat)(e:ByteArray)(a:Nat)(b:ck)(d:Int→Nat→ck→Option ck)(c:Bool):Option ck:=if c then aE (fits (b.length+([((a:Nat):Int)]:ck).length) 8) (qY K n e a d (b++[((a:Nat):Int)])) else qY K n e a d b
def lQ(K:Kn)(n:Nat)(c:ByteArray)(e:Int→Nat→ck→Option ck)(f:Int)(a:Nat)(b:ck):Option ck:=if decide (a<c.size)=true then if (decide (((a:Nat):Int)>0)) then (Ap K n f ((Utf8.decode c a).1:Int)).bind fun d=>qI K n c a b e d else qI K n c a b e false else some b
def oS(K:Kn)(n:Nat)(a:ByteArray):Nat→Int→Nat→ck→Option ck
 | 0=>fun _ _ _=>none
 | m+1=>lQ K n a (oS K n a m)
def xv(K:Kn)(n:Nat)(a:ByteArray):Option ck:=oS K n a n 0 0 []
def nK(K:Kn)(n:Nat)(a:Bool):Option Bool:=some a
def lP(K:Kn)(n:Nat)(c v2:aJ)(a:Bool):Option Bool:=if a then some false else (xv K n (runesBytes [c.Char,v2.Char])).bind fun b=>some (decide ((b.length:Int)>0))
def oF(K:Kn)(n:Nat)(a v2:aJ)(b:Bool):Option Bool:=if b then if (a.Kind == 3) then if (v2.Kind == 3) then nK K n true else (m9 K n v2).bind fun v4=>nK K n v4 else (m9 K n a).bind fun v5=>if v5 then if (v2.Kind == 3) then nK K n true else (m9 K n v2).bind fun v6=>nK K n v6 else nK K n false else if (a.Kind != 1) then lP K n a v2 true else if (v2.Kind != 1) then lP K n a v2 true else (m9 K n a).bind fun c=>if (!c) then lP K n a v2 true else if (a.Char != 32) then (m9 K n v2).bind fun d=>lP K n a v2 (!d) else lP K n a v2 false
def kX(K:Kn)(n:Nat)(a v2:aJ):Option Bool:=if (a.Kind == 3) then oF K n a v2 true else oF K n a v2 (v2.Kind == 3)
def qd(K:Kn)(n:Nat)(a:Int):Option Int:=some (min (max a 0) 1048576)
def yW(K:Kn)(n:Nat)(a:Int):Option Int:=(qd K n a).bind fun v2=>some v2
def zx(K:Kn)(n:Nat)(a:Int):Option Int:=(qd K n a).bind fun v2=>(qd K n a).bind fun b=>some (aa (v2+(aa (Int.tdiv (aa (b+3)) 4))))
def ou(K:Kn)(n:Nat)(a:aP):Option em:=(yW K n a.FontSize).bind fun v2=>(zx K n a.FontSize).bind fun b=>some ((aa (v2+((aa ((max a.LineHeight 0)-b)) / 2))),(aa ((max a.LineHeight 0)-(aa (v2+((aa ((max a.LineHeight 0)-b)) / 2))))))
def xT(K:Kn)(n:Nat)(a:Int)(v2:ck)(v4:Bool):Option ck:=if v4 then aE (fits (v2.length+([(fa .u8 240 (IntKind.wrap .u8 (a / 262144))),(fa .u8 128 (gT .u8 (IntKind.wrap .u8 (a / 4096)) 63)),(fa .u8 128 (gT .u8 (IntKind.wrap .u8 (a / 64)) 63)),(fa .u8 128 (gT .u8 (IntKind.wrap .u8 a) 63))]:ck).length) 1) (some (v2++[(fa .u8 240 (IntKind.wrap .u8 (a / 262144))),(fa .u8 128 (gT .u8 (IntKind.wrap .u8 (a / 4096)) 63)),(fa .u8 128 (gT .u8 (IntKind.wrap .u8 (a / 64)) 63)),(fa .u8 128 (gT .u8 (IntKind.wrap .u8 a) 63))])) else aE (fits (v2.length+([239,191,189]:ck).length) 1) (some (v2++[239,191,189]))
def o4(K:Kn)(n:Nat)(a:Int)(v2:ck)(b:Bool):Option ck:=if b then aE (fits (v2.length+([(fa .u8 224 (IntKind.wrap .u8 (a / 4096))),(fa .u8 128 (gT .u8 (IntKind.wrap .u8 (a / 64)) 63)),(fa .u8 128 (gT .u8 (IntKind.wrap .u8 a) 63))]:ck).length) 1) (some (v2++[(fa .u8 224 (IntKind.wrap .u8 (a / 4096))),(fa .u8 128 (gT .u8 (IntKind.wrap .u8 (a / 64)) 63)),(fa .u8 128 (gT .u8 (IntKind.wrap .u8 a) 63))])) else if (decide ((IntKind.wrap .u32 a)>65535)) then xT K n a v2 (decide ((IntKind.wrap .u32 a)≤1114111)) else xT K n a v2 false
def tR(K:Kn)(n:Nat)(a:Int)(v2:ck):Option ck:=if (decide ((IntKind.wrap .u32 a)≤2047)) then aE (fits (v2.length+([(fa .u8 192 (IntKind.wrap .u8 (a / 64))),(fa .u8 128 (gT .u8 (IntKind.wrap .u8 a) 63))]:ck).length) 1) (some (v2++[(fa .u8 192 (IntKind.wrap .u8 (a / 64))),(fa .u8 128 (gT .u8 (IntKind.wrap .u8 a) 63))])) else if (decide ((IntKind.wrap .u32 a)<55296)) then o4 K n a v2 true else if (decide ((57343:Int)<(IntKind.wrap .u32 a))) then o4 K n a v2 (decide ((IntKind.wrap .u32 a)≤65535)) else o4 K n a v2 false
def wm(K:Kn)(n:Nat)(a:Int)(v2:ck):Option ck:=if (decide ((IntKind.wrap .u32 a)≤127)) then aE (fits (v2.length+([(IntKind.wrap .u8 a)]:ck).length) 1) (some (v2++[(IntKind.wrap .u8 a)])) else (tR K n a v2).bind fun b=>some b
def ru(K:Kn)(n:Nat)(b:Int)(v2:Bool)(a:ck):Option (Int×Unit×ck):=if v2 then (wm K n b a).bind fun v4=>some ((aa ((v4.length:Int)-(a.length:Int))),(),v4) else (wm K n b a).bind fun v5=>some ((aa ((v5.length:Int)-(a.length:Int))),(),v5)
def n7(K:Kn)(n:Nat)(a v2:Int):Option Int:=(lj K n a).bind fun b=>(qd K n v2).bind fun v4=>some (aa (Int.tdiv (aa ((aa (b*v4))+15)) 16))
def wv(K:Kn)(n:Nat)(a:ByteArray)(v2:Int)(b:Int→Nat→Option Int)(v5:Int)(v6:Nat):Option Int:=if decide (v6<a.size)=true then (n7 K n ((Utf8.decode a v6).1:Int) v2).bind fun c=>b (aa (v5+c)) (v6+(Utf8.decode a v6).2) else some v5
def sL(K:Kn)(n:Nat)(a:ByteArray)(v2:Int):Nat→Int→Nat→Option Int
 | 0=>fun _ _=>none
 | m+1=>wv K n a v2 (sL K n a v2 m)
def ql(K:Kn)(n:Nat)(a:ByteArray)(v2:Int):Option Int:=sL K n a v2 n 0 0
def zA(K:Kn)(n:Nat)(v6:ck)(a:aP)(c:ByteArray)(d:Int):Option ay:=(ql K n c a.FontSize).bind fun e=>(ou K n a).bind fun b=>some ({ cV with Text:=(bytesOf v6),Width:=e,Space:=d,Above:=b.1,Below:=b.2 }:ay)
def zz(K:Kn)(n:Nat)(v6:ck)(a:aP)(c:ByteArray)(d:Int):Option ay:=(ql K n c a.FontSize).bind fun e=>(ou K n a).bind fun b=>some ({ cV with Text:=(bytesOf v6),Width:=e,Space:=d,Above:=b.1,Below:=b.2 }:ay)
def sQ(K:Kn)(n:Nat)(a:eb)(v6:ck)(j:Bool):Option ay:=if j then aE (aM (0:Int) a.length) ((some (((List.getD a (0:Int).toNat default).Box).Style)).bind fun b=>aE (rp v6) (aE (aM (aa ((a.length:Int)-1)) a.length) ((some ((List.getD a ((aa ((a.length:Int)-1))).toNat default).Soft)).bind fun d=>if d then aE (cC (0:Int) (aa (((bytesOf v6).size:Int)-1)) (bytesOf v6).size) ((some (ByteArray.extract (bytesOf v6) (0:Int).toNat ((aa (((bytesOf v6).size:Int)-1))).toNat)).bind fun e=>(n7 K n 32 b.FontSize).bind fun f=>zA K n v6 b e f) else zA K n v6 b (bytesOf v6) 0))) else aE (aM (0:Int) a.length) ((some (((List.getD a (0:Int).toNat default).Box).Style)).bind fun c=>aE (rp v6) (aE (aM (aa ((a.length:Int)-1)) a.length) ((some ((List.getD a ((aa ((a.length:Int)-1))).toNat default).Soft)).bind fun g=>if g then aE (cC (0:Int) (aa (((bytesOf v6).size:Int)-1)) (bytesOf v6).size) ((some (ByteArray.extract (bytesOf v6) (0:Int).toNat ((aa (((bytesOf v6).size:Int)-1))).toNat)).bind fun h=>(n7 K n 32 c.FontSize).bind fun i=>zz K n v6 c h i) else zz K n v6 c (bytesOf v6) 0)))
def wc(K:Kn)(n:Nat)(a:eb)(b:Int→Bool→ck→Option ay)(v4:Int)(v5:Bool)(v6:ck):Option ay:=if v5 then if (decide (v4<(a.length:Int))) then aE (aM v4 a.length) ((ru K n ((List.getD a v4.toNat default).Char) true v6).bind fun c=>b (aa (v4+1)) true c.2.2) else sQ K n a v6 true else if (decide (v4<(a.length:Int))) then aE (aM v4 a.length) ((ru K n ((List.getD a v4.toNat default).Char) false v6).bind fun d=>b (aa (v4+1)) true d.2.2) else sQ K n a v6 false
def qb(K:Kn)(n:Nat)(a:eb):Nat→Int→Bool→ck→Option ay
 | 0=>fun _ _ _=>none
 | m+1=>wc K n a (qb K n a m)
def pb(K:Kn)(n:Nat)(a:eb):Option ay:=qb K n a n 0 false []
def lA(K:Kn)(n:Nat)(v2:Fv)(h:eb)(a:Int)(b:d5)(c:Bool)(i:Int→d5→Option d5)(g:Int)(d:ay):Option d5:=(some (((List.getD h a.toNat default).Box).Node)).bind fun e=>(some (((List.getD h a.toNat default).Box).Style)).bind fun f=>aE (fits (b.length+([({ d with Node:=e,Style:=f,Glued:=c }:ay)]:d5).length) 536) (i g (b++[({ d with Node:=e,Style:=f,Glued:=c }:ay)]))
def lz(K:Kn)(n:Nat)(v2:Fv)(c:eb)(b:Int)(d:d5)(e:Bool)(a:Int)(h:Int→d5→Option d5)(i:Int→Option d5)(f:Bool):Option d5:=if f then i (aa (a+1)) else aE (cC b a c.length) ((pb K n (List.drop b.toNat (List.take a.toNat c))).bind fun g=>lA K n v2 c b d e h a g)
def sN(K:Kn)(n:Nat)(v2:Fv)(b:eb)(c:Int)(d:d5)(e:Bool)(f:Int→d5→Option d5)(g:Int→Option d5)(a:Int):Option d5:=if (decide (a<(b.length:Int))) then aE (aM a b.length) (if (((List.getD b a.toNat default).Kind) == 1) then aE (aM a b.length) (if (((List.getD b a.toNat default).Of) == ((List.getD b c.toNat default).Of)) then aE (aM (aa (a-1)) b.length) (aE (aM a b.length) ((kX K n (List.getD b ((aa (a-1))).toNat default) (List.getD b a.toNat default)).bind fun h=>lz K n v2 b c d e a f g (!h))) else lz K n v2 b c d e a f g false) else lz K n v2 b c d e a f g false) else lz K n v2 b c d e a f g false
def qy(K:Kn)(n:Nat)(v2:Fv)(e:eb)(a:Int)(b:d5)(c:Bool)(d:Int→d5→Option d5):Nat→Int→Option d5
 | 0=>fun _=>none
 | m+1=>sN K n v2 e a b c d (qy K n v2 e a b c d m)
def rC(K:Kn)(n:Nat)(v2:Fv)(d:eb)(a:Int)(b:d5)(e:Int→d5→Option d5)(c:Bool):Option d5:=(some (((List.getD d a.toNat default).Kind) == 2)).bind fun f=>if f then lA K n v2 d a b c e (aa (a+1)) ({ cV with Forced:=true }:ay) else (some (((List.getD d a.toNat default).Kind) == 3)).bind fun g=>if g then (K.sy v2 ((List.getD d a.toNat default).Box)).bind fun h=>lA K n v2 d a b c e (aa (a+1)) h else qy K n v2 d a b c e n (aa (a+1))
def si(K:Kn)(n:Nat)(v2:Fv)(b:eb)(d:Int→d5→Option d5)(a:Int)(c:d5):Option d5:=if (decide (a<(b.length:Int))) then aE (aM a b.length) (if (decide (a>0)) then aE (aM (aa (a-1)) b.length) (if (((List.getD b ((aa (a-1))).toNat default).Kind) != 2) then aE (aM (aa (a-1)) b.length) ((kX K n (List.getD b ((aa (a-1))).toNat default) (List.getD b a.toNat default)).bind fun e=>rC K n v2 b a c d (!e)) else rC K n v2 b a c d false) else rC K n v2 b a c d false) else some c
def pM(K:Kn)(n:Nat)(v2:Fv)(a:eb):Nat→Int→d5→Option d5
 | 0=>fun _ _=>none
 | m+1=>si K n v2 a (pM K n v2 a m)
def tK(K:Kn)(n:Nat)(a:d3)(v2:Fv):Option d5:=(pE K n a).bind fun b=>pM K n v2 b n 0 []
def DK(K:Kn)(n:Nat)(b:ab)(v2:bZ)(c:bw)(v4 v5:Int)(v6:dO):Option (ae×Int×Int×dO):=(j7 K n b v2 false false c v4 v5 v6).bind fun a=>some (a.1,a.2.1,a.2.2.1,a.2.2.2)
def CK(K:Kn)(n:Nat)(b:ab)(v2 c:Int):Option Int:=(mq K n b.Style v2 c).bind fun a=>some a
def Fp(K:Kn)(n:Nat)(a:ab)(v2:Int)(b:bw):Option Int:=(dS K n a.Style.Width v2).bind fun v4=>if (!v4.2) then (lL K n a b).bind fun v5=>(gI K n v2).bind fun v6=>(jC K n a.Style v2 0).bind fun c=>(kH K n c).bind fun d=>CK K n a v2 (min (max (aa (v6-d)) v5.1) v5.2) else CK K n a v2 v4.1
def Hq(K:Kn)(n:Nat)(a:ab)(v2:Int)(b:bw):Option ay:=(Fp K n a v2 b).bind fun v4=>(jC K n a.Style v2 v4).bind fun v5=>none
def A5(K:Kn)(n:Nat)(b:d3)(v2:Int)(a:bw):Option d5:=(tK K n b (Fv.c147 v2 a.Layout a.Widths a.Lines a.Spread)).bind fun v4=>some v4
def sv(K:Kn)(n:Nat)(b:d5)(v4:Int)(a:Int→Option Int)(v5:Bool):Option Int:=if v5 then a (aa (v4+1)) else some v4
def tm(K:Kn)(n:Nat)(a:d5)(b:Int→Option Int)(v4:Int):Option Int:=if (decide (v4<(a.length:Int))) then aE (aM v4 a.length) (sv K n a v4 b ((List.getD a v4.toNat default).Glued)) else sv K n a v4 b false
def sD(K:Kn)(n:Nat)(a:d5):Nat→Int→Option Int
 | 0=>fun _=>none
 | m+1=>tm K n a (sD K n a m)
def rz(K:Kn)(n:Nat)(a:d5)(v2:Int):Option Int:=sD K n a n (aa (v2+1))
def n4(K:Kn)(n:Nat)(b:d5)(c:Int→Option Int)(a:Int):Option Int:=if (decide (a≥0)) then aE (aM a b.length) (if (!(List.getD b a.toNat default).Forced) then some a else c (aa (a-1))) else some (-1)
def oY(K:Kn)(n:Nat)(a:d5):Nat→Int→Option Int
 | 0=>fun _=>none
 | m+1=>n4 K n a (oY K n a m)
def nS(K:Kn)(n:Nat)(a:d5):Option Int:=oY K n a n (aa ((a.length:Int)-1))
def xK(K:Kn)(n:Nat)(v5:Int):Option Int:=some v5
def tW(K:Kn)(n:Nat)(a:d5)(c:Int→Int→Option Int)(v2 b:Int):Option Int:=if (decide (b<(a.length:Int))) then aE (aM b a.length) (c (aa (v2+(aa (((List.getD a b.toNat default).Width)+((List.getD a b.toNat default).Space))))) (aa (b+1))) else (nS K n a).bind fun v4=>if (decide (v4≥0)) then aE (aM v4 a.length) (xK K n (aa (v2-((List.getD a v4.toNat default).Space)))) else xK K n v2
def rK(K:Kn)(n:Nat)(a:d5):Nat→Int→Int→Option Int
 | 0=>fun _ _=>none
 | m+1=>tW K n a (rK K n a m)
def oC(K:Kn)(n:Nat)(a:d5):Option Int:=rK K n a n 0 0
def Dd(K:Kn)(n:Nat)(e:d5)(v2 a:Int)(b:ck)(c:Int)(d:Int→ck→Option ck):Option ck:=d c (b++[a])
def sO(K:Kn)(n:Nat)(d:d5)(v2 a:Int)(e:ck)(b:Int)(h:Int→ck→Option ck)(i:Int→Option ck)(f:Bool):Option ck:=if f then (rz K n d b).bind fun c=>aE (cC a c d.length) ((oC K n (List.drop a.toNat (List.take c.toNat d))).bind fun g=>if (decide (g>v2)) then Dd K n d v2 a e b h else i c) else Dd K n d v2 a e b h
def vA(K:Kn)(n:Nat)(b:d5)(v2 c:Int)(d:ck)(e:Int→ck→Option ck)(f:Int→Option ck)(a:Int):Option ck:=if (decide (a<(b.length:Int))) then aE (aM (aa (a-1)) b.length) (sO K n b v2 c d a e f (!(List.getD b ((aa (a-1))).toNat default).Forced)) else sO K n b v2 c d a e f false
def ve(K:Kn)(n:Nat)(d:d5)(v2 a:Int)(b:ck)(c:Int→ck→Option ck):Nat→Int→Option ck
 | 0=>fun _=>none
 | m+1=>vA K n d v2 a b c (ve K n d v2 a b c m)
def wC(K:Kn)(n:Nat)(c:d5)(v2:Int)(e:Int→ck→Option ck)(a:Int)(b:ck):Option ck:=if (decide (a<(c.length:Int))) then aE (fits (b.length+([a]:ck).length) 8) ((rz K n c a).bind fun d=>ve K n c v2 a b e n d) else some b
def sq(K:Kn)(n:Nat)(a:d5)(v2:Int):Nat→Int→ck→Option ck
 | 0=>fun _ _=>none
 | m+1=>wC K n a v2 (sq K n a v2 m)
def yS(K:Kn)(n:Nat)(a:d5)(v2:Int):Option ck:=sq K n a v2 n 0 []
def vp(K:Kn)(n:Nat)(b:aP)(v2 a:Int):Option Int:=if (decide (a≥v2)) then some 0 else if (b.TextAlign == 1) then some (aa (Int.tdiv (aa (v2-a)) 2)) else if (b.TextAlign == 2) then some (aa (v2-a)) else some 0
def zL(K:Kn)(n:Nat)(a:Bool):Option Bool:=some a
def Cr(K:Kn)(n:Nat)(a v2:ByteArray):Option Bool:=if (decide ((a.size:Int)≥(v2.size:Int))) then aE (cC (aa ((a.size:Int)-(v2.size:Int))) (a.size:Int) a.size) (zL K n ((ByteArray.extract a ((aa ((a.size:Int)-(v2.size:Int)))).toNat ((a.size:Int)).toNat).toList == v2.toList)) else zL K n false
def AQ(K:Kn)(n:Nat)(a v2:ByteArray):Option Bool:=(Cr K n a v2).bind fun b=>some b
def zl(K:Kn)(n:Nat)(e:d5)(v2:aP)(f a:Int)(d:Int→Int→Int→Option ae)(b c:Int):Option ae:=d b c (aa (a+1))
def ue(K:Kn)(n:Nat)(w:d5)(v2:aP)(x v y u q r:Int)(b:ay)(s:Int→Int→dn→Option ae)(t:Int→dn→Option ae)(a:Int)(c:dn):Option ae:=if (decide (a<(b.Box.length:Int))) then aE (aM a b.Box.length) ((some ((List.getD b.Box a.toNat default).Kind)).bind fun e=>(some ((List.getD b.Box a.toNat default).Node)).bind fun f=>(some (aa (((List.getD b.Box a.toNat default).X)+q))).bind fun g=>(some ((List.getD b.Box a.toNat default).aC)).bind fun h=>(some ((List.getD b.Box a.toNat default).Text)).bind fun i=>(some ((List.getD b.Box a.toNat default).Style)).bind fun j=>(some ((List.getD b.Box a.toNat default).Before)).bind fun k=>(some ((List.getD b.Box a.toNat default).After)).bind fun d=>(some ((List.getD b.Box a.toNat default).Empty)).bind fun l=>(some ((List.getD b.Box a.toNat default).Kids)).bind fun m=>(gy K n d).bind fun p=>(some (aa (((List.getD b.Box a.toNat default).Y)+(aa ((aa (v-((List.getD b.Box a.toNat default).H)))-p))))).bind fun o=>aE (fits (c.length+([(⟨e,f,g,o,(List.getD b.Box a.toNat default).W,(List.getD b.Box a.toNat default).H,h,i,j,k,d,l,m⟩:ae)]:dn).length) 584) (t (aa (a+1)) (c++[(⟨e,f,g,o,(List.getD b.Box a.toNat default).W,(List.getD b.Box a.toNat default).H,h,i,j,k,d,l,m⟩:ae)]))) else s (aa (q+(aa (b.Width+b.Space)))) (aa (r+1)) c
def sH(K:Kn)(n:Nat)(f:d5)(v2:aP)(g h i a b c:Int)(d:ay)(e:Int→Int→dn→Option ae):Nat→Int→dn→Option ae
 | 0=>fun _ _=>none
 | m+1=>ue K n f v2 g h i a b c d e (sH K n f v2 g h i a b c d e m)
def sc(K:Kn)(n:Nat)(g:d5)(v2:aP)(h i j a b c:Int)(d:ay)(f:Int→Int→dn→Option ae)(e:dn):Option ae:=sH K n g v2 h i j a b c d f n 0 e
def n0(K:Kn)(n:Nat)(k:d5)(v2:aP)(l h m d b e:Int)(c:dn)(j:Int→Int→dn→Option ae)(a:ay):Option ae:=(some (!(a.Text.toList == (⟨#[]⟩:ByteArray).toList))).bind fun i=>if i then (yW K n a.Style.FontSize).bind fun f=>(zx K n a.Style.FontSize).bind fun g=>aE (fits (c.length+([(⟨3,a.Node,b,(aa (h-f)),(aa (a.Width+a.Space)),g,0,a.Text,a.Style,dF,dF,false,[]⟩:ae)]:dn).length) 584) (sc K n k v2 l h m d b e a j (c++[(⟨3,a.Node,b,(aa (h-f)),(aa (a.Width+a.Space)),g,0,a.Text,a.Style,dF,dF,false,[]⟩:ae)])) else sc K n k v2 l h m d b e a j c
def oQ(K:Kn)(n:Nat)(b:d5)(v2:aP)(h i j c d a:Int)(e:dn)(g:Int→Int→dn→Option ae)(f:Bool):Option ae:=if f then aE (cC (0:Int) (aa ((((List.getD b a.toNat default).Text).size:Int)-1)) ((List.getD b a.toNat default).Text).size) (n0 K n b v2 h i j c d a e g ({ (List.getD b a.toNat default)with Text:=(ByteArray.extract ((List.getD b a.toNat default).Text) (0:Int).toNat ((aa ((((List.getD b a.toNat default).Text).size:Int)-1))).toNat),Space:=0 }:ay)) else n0 K n b v2 h i j c d a e g (List.getD b a.toNat default)
def vJ(K:Kn)(n:Nat)(d:d5)(v2:aP)(g f h b:Int)(i:Int→Int→dn→Option ae)(e a:Int)(c:dn):Option ae:=if (decide (a<(d.length:Int))) then aE (aM a d.length) (if (a == b) then (AQ K n ((List.getD d a.toNat default).Text) (⟨#[32]⟩)).bind fun j=>if j then oQ K n d v2 g f h b e a c i ((((List.getD d a.toNat default).Style).WhiteSpace) != 2) else oQ K n d v2 g f h b e a c i false else oQ K n d v2 g f h b e a c i false) else some ({ bU with Kind:=2,W:=g,H:=(aa (f+h)),aC:=f,Style:=v2,Kids:=c }:ae)
def nc(K:Kn)(n:Nat)(b:d5)(v2:aP)(c d e a:Int):Nat→Int→Int→dn→Option ae
 | 0=>fun _ _ _=>none
 | m+1=>vJ K n b v2 c d e a (nc K n b v2 c d e a m)
def vV(K:Kn)(n:Nat)(b:d5)(v2:aP)(c:Int)(i:Int→Int→Int→Option ae)(g h a:Int):Option ae:=if (decide (a<(b.length:Int))) then aE (aM a b.length) (if (!(List.getD b a.toNat default).Forced) then zl K n b v2 c a i (max g ((List.getD b a.toNat default).Above)) (max h ((List.getD b a.toNat default).Below)) else zl K n b v2 c a i g h) else (oC K n b).bind fun d=>(vp K n v2 c d).bind fun e=>(nS K n b).bind fun f=>nc K n b v2 c g h f n e 0 []
def uY(K:Kn)(n:Nat)(a:d5)(v2:aP)(b:Int):Nat→Int→Int→Int→Option ae
 | 0=>fun _ _ _=>none
 | m+1=>vV K n a v2 b (uY K n a v2 b m)
def Eo(K:Kn)(n:Nat)(a:d5)(v2:aP)(b:Int):Option ae:=(ou K n v2).bind fun v4=>uY K n a v2 b n v4.1 v4.2 0
def tA(K:Kn)(n:Nat)(v2:aP)(g:Int)(v5:d5)(v6:ck)(f:Int→Int→Int→dn→Option (dn×Int))(b e a:Int)(c:dn):Option (dn×Int):=if (decide (a<e)) then aE (aM a (v6++[(v5.length:Int)]).length) (aE (aM (aa (a+1)) (v6++[(v5.length:Int)]).length) (aE (cC (List.getD (v6++[(v5.length:Int)]) a.toNat default) (List.getD (v6++[(v5.length:Int)]) ((aa (a+1))).toNat default) v5.length) ((Eo K n (List.drop ((List.getD (v6++[(v5.length:Int)]) a.toNat default)).toNat (List.take ((List.getD (v6++[(v5.length:Int)]) ((aa (a+1))).toNat default)).toNat v5)) v2 (min (max g 0) 1048576)).bind fun d=>aE (fits (c.length+([({ d with Y:=b }:ae)]:dn).length) 584) (f (aa (b+d.H)) e (aa (a+1)) (c++[({ d with Y:=b }:ae)]))))) else some (c,b)
def tz(K:Kn)(n:Nat)(v2:aP)(a:Int)(v5:d5)(v6:ck):Nat→Int→Int→Int→dn→Option (dn×Int)
 | 0=>fun _ _ _ _=>none
 | m+1=>tA K n v2 a v5 v6 (tz K n v2 a v5 v6 m)
def yZ(K:Kn)(n:Nat)(b:d3)(v2:aP)(a:Int)(v4:bw):Option (dn×Int):=(A5 K n b (min (max a 0) 1048576) v4).bind fun v5=>(yS K n v5 (min (max a 0) 1048576)).bind fun v6=>aE (fits (v6.length+([(v5.length:Int)]:ck).length) 8) (tz K n v2 a v5 v6 n 0 (aa (((v6++[(v5.length:Int)]).length:Int)-1)) 0 [])
def zk(K:Kn)(n:Nat)(a:d3)(v2:aP)(b:Int)(v4:bw):Option (dn×Int):=(yZ K n a v2 b v4).bind fun v5=>some (v5.1,v5.2)
def Bv(K:Kn)(n:Nat)(b:ab)(v2:bw)(a:ck):Option (ay×ck):=(K.gv v2.Widths b).bind fun v4=>aE (fits (a.length+([v4.2]:ck).length) 8) (some (({ cV with Width:=v4.1 }:ay),(a++[v4.2])))
def Ci(K:Kn)(n:Nat)(b:ab)(v2:Int)(a:ck):Option (ay×Int×ck):=aE (aM (aa ((aa (v2+1))-1)) a.length) (some (({ cV with Width:=(List.getD a ((aa ((aa (v2+1))-1))).toNat default) }:ay),(aa (v2+1)),a))
def kY(K:Kn)(n:Nat)(v2:bw)(v4:eb)(a:Int)(b:d5)(c:Bool)(i:Int→ck→d5→Option (d5×ck))(g:Int)(h:ck)(d:ay):Option (d5×ck):=(some (((List.getD v4 a.toNat default).Box).Node)).bind fun e=>(some (((List.getD v4 a.toNat default).Box).Style)).bind fun f=>aE (fits (b.length+([({ d with Node:=e,Style:=f,Glued:=c }:ay)]:d5).length) 536) (i g h (b++[({ d with Node:=e,Style:=f,Glued:=c }:ay)]))
def lS(K:Kn)(n:Nat)(v2:bw)(v4:eb)(b:Int)(c:ck)(d:d5)(e:Bool)(a:Int)(h:Int→ck→d5→Option (d5×ck))(i:Int→Option (d5×ck))(f:Bool):Option (d5×ck):=if f then i (aa (a+1)) else aE (cC b a v4.length) ((pb K n (List.drop b.toNat (List.take a.toNat v4))).bind fun g=>kY K n v2 v4 b d e h a c g)
def wj(K:Kn)(n:Nat)(v2:bw)(v4:eb)(b:Int)(c:ck)(d:d5)(e:Bool)(f:Int→ck→d5→Option (d5×ck))(g:Int→Option (d5×ck))(a:Int):Option (d5×ck):=if (decide (a<(v4.length:Int))) then aE (aM a v4.length) (if (((List.getD v4 a.toNat default).Kind) == 1) then aE (aM a v4.length) (if (((List.getD v4 a.toNat default).Of) == ((List.getD v4 b.toNat default).Of)) then aE (aM (aa (a-1)) v4.length) (aE (aM a v4.length) ((kX K n (List.getD v4 ((aa (a-1))).toNat default) (List.getD v4 a.toNat default)).bind fun h=>lS K n v2 v4 b c d e a f g (!h))) else lS K n v2 v4 b c d e a f g false) else lS K n v2 v4 b c d e a f g false) else lS K n v2 v4 b c d e a f g false
def qf(K:Kn)(n:Nat)(v2:bw)(v4:eb)(a:Int)(b:ck)(c:d5)(d:Bool)(e:Int→ck→d5→Option (d5×ck)):Nat→Int→Option (d5×ck)
 | 0=>fun _=>none
 | m+1=>wj K n v2 v4 a b c d e (qf K n v2 v4 a b c d e m)
def qr(K:Kn)(n:Nat)(v2:bw)(v4:eb)(a:Int)(b:ck)(c:d5)(f:Int→ck→d5→Option (d5×ck))(d:Bool):Option (d5×ck):=(some (((List.getD v4 a.toNat default).Kind) == 2)).bind fun g=>if g then kY K n v2 v4 a c d f (aa (a+1)) b ({ cV with Forced:=true }:ay) else (some (((List.getD v4 a.toNat default).Kind) == 3)).bind fun h=>if h then (Bv K n ((List.getD v4 a.toNat default).Box) v2 b).bind fun e=>kY K n v2 v4 a c d f (aa (a+1)) e.2 e.1 else qf K n v2 v4 a b c d f n (aa (a+1))
def tw(K:Kn)(n:Nat)(v2:bw)(v4:eb)(d:Int→ck→d5→Option (d5×ck))(a:Int)(b:ck)(c:d5):Option (d5×ck):=if (decide (a<(v4.length:Int))) then aE (aM a v4.length) (if (decide (a>0)) then aE (aM (aa (a-1)) v4.length) (if (((List.getD v4 ((aa (a-1))).toNat default).Kind) != 2) then aE (aM (aa (a-1)) v4.length) ((kX K n (List.getD v4 ((aa (a-1))).toNat default) (List.getD v4 a.toNat default)).bind fun e=>qr K n v2 v4 a b c d (!e)) else qr K n v2 v4 a b c d false) else qr K n v2 v4 a b c d false) else some (c,b)
def pN(K:Kn)(n:Nat)(v2:bw)(v4:eb):Nat→Int→ck→d5→Option (d5×ck)
 | 0=>fun _ _ _=>none
 | m+1=>tw K n v2 v4 (pN K n v2 v4 m)
def vT(K:Kn)(n:Nat)(a:d3)(v2:bw)(b:ck):Option (d5×ck):=(pE K n a).bind fun v4=>pN K n v2 v4 n 0 b []
def k8(K:Kn)(n:Nat)(v4:eb)(a:Int)(b:d5)(c:Bool)(j:Int→Int→ck→d5→Option (d5×Int×ck))(g h:Int)(i:ck)(d:ay):Option (d5×Int×ck):=(some (((List.getD v4 a.toNat default).Box).Node)).bind fun e=>(some (((List.getD v4 a.toNat default).Box).Style)).bind fun f=>aE (fits (b.length+([({ d with Node:=e,Style:=f,Glued:=c }:ay)]:d5).length) 536) (j g h i (b++[({ d with Node:=e,Style:=f,Glued:=c }:ay)]))
def l4(K:Kn)(n:Nat)(v4:eb)(b c:Int)(d:ck)(e:d5)(f:Bool)(a:Int)(i:Int→Int→ck→d5→Option (d5×Int×ck))(j:Int→Option (d5×Int×ck))(g:Bool):Option (d5×Int×ck):=if g then j (aa (a+1)) else aE (cC b a v4.length) ((pb K n (List.drop b.toNat (List.take a.toNat v4))).bind fun h=>k8 K n v4 b e f i a c d h)
def sA(K:Kn)(n:Nat)(v4:eb)(b c:Int)(d:ck)(e:d5)(f:Bool)(g:Int→Int→ck→d5→Option (d5×Int×ck))(h:Int→Option (d5×Int×ck))(a:Int):Option (d5×Int×ck):=if (decide (a<(v4.length:Int))) then aE (aM a v4.length) (if (((List.getD v4 a.toNat default).Kind) == 1) then aE (aM a v4.length) (if (((List.getD v4 a.toNat default).Of) == ((List.getD v4 b.toNat default).Of)) then aE (aM (aa (a-1)) v4.length) (aE (aM a v4.length) ((kX K n (List.getD v4 ((aa (a-1))).toNat default) (List.getD v4 a.toNat default)).bind fun i=>l4 K n v4 b c d e f a g h (!i))) else l4 K n v4 b c d e f a g h false) else l4 K n v4 b c d e f a g h false) else l4 K n v4 b c d e f a g h false
def pe(K:Kn)(n:Nat)(v4:eb)(a b:Int)(c:ck)(d:d5)(e:Bool)(f:Int→Int→ck→d5→Option (d5×Int×ck)):Nat→Int→Option (d5×Int×ck)
 | 0=>fun _=>none
 | m+1=>sA K n v4 a b c d e f (pe K n v4 a b c d e f m)
def qn(K:Kn)(n:Nat)(v4:eb)(a b:Int)(c:ck)(d:d5)(g:Int→Int→ck→d5→Option (d5×Int×ck))(e:Bool):Option (d5×Int×ck):=(some (((List.getD v4 a.toNat default).Kind) == 2)).bind fun h=>if h then k8 K n v4 a d e g (aa (a+1)) b c ({ cV with Forced:=true }:ay) else (some (((List.getD v4 a.toNat default).Kind) == 3)).bind fun i=>if i then (Ci K n ((List.getD v4 a.toNat default).Box) b c).bind fun f=>k8 K n v4 a d e g (aa (a+1)) f.2.1 f.2.2 f.1 else pe K n v4 a b c d e g n (aa (a+1))
def tn(K:Kn)(n:Nat)(v4:eb)(e:Int→Int→ck→d5→Option (d5×Int×ck))(a b:Int)(c:ck)(d:d5):Option (d5×Int×ck):=if (decide (a<(v4.length:Int))) then aE (aM a v4.length) (if (decide (a>0)) then aE (aM (aa (a-1)) v4.length) (if (((List.getD v4 ((aa (a-1))).toNat default).Kind) != 2) then aE (aM (aa (a-1)) v4.length) ((kX K n (List.getD v4 ((aa (a-1))).toNat default) (List.getD v4 a.toNat default)).bind fun f=>qn K n v4 a b c d e (!f)) else qn K n v4 a b c d e false) else qn K n v4 a b c d e false) else some (d,b,c)
def qC(K:Kn)(n:Nat)(v4:eb):Nat→Int→Int→ck→d5→Option (d5×Int×ck)
 | 0=>fun _ _ _ _=>none
 | m+1=>tn K n v4 (qC K n v4 m)
def vN(K:Kn)(n:Nat)(a:d3)(v2:Int)(b:ck):Option (d5×Int×ck):=(pE K n a).bind fun v4=>qC K n v4 n 0 v2 b []
def w7(K:Kn)(n:Nat)(v4:d5×ck)(v5:d5×Int×ck)(a:Int)(c:Int→Int→Option em)(b:Int):Option em:=c b a
def Af(K:Kn)(n:Nat)(v5:d5×Int×ck)(d a:Int)(c:Int→Int→Option em)(b:Int):Option em:=c b a
def qM(K:Kn)(n:Nat)(v5:d5×Int×ck)(g b c a:Int)(f:Int→Int→Option em)(h:Int→Option em)(e:Bool):Option em:=if e then h (aa (a+1)) else aE (cC c a v5.1.length) ((oC K n (List.drop c.toNat (List.take a.toNat v5.1))).bind fun d=>if (decide (d>b)) then Af K n v5 g a f d else Af K n v5 g a f b)
def uh(K:Kn)(n:Nat)(v5:d5×Int×ck)(f b c:Int)(d:Int→Int→Option em)(e:Int→Option em)(a:Int):Option em:=if (decide (a<(v5.1.length:Int))) then aE (aM (aa (a-1)) v5.1.length) (qM K n v5 f b c a d e (!(List.getD v5.1 ((aa (a-1))).toNat default).Forced)) else qM K n v5 f b c a d e false
def vx(K:Kn)(n:Nat)(v5:d5×Int×ck)(d a b:Int)(c:Int→Int→Option em):Nat→Int→Option em
 | 0=>fun _=>none
 | m+1=>uh K n v5 d a b c (vx K n v5 d a b c m)
def vH(K:Kn)(n:Nat)(v5:d5×Int×ck)(c:Int)(d:Int→Int→Option em)(b a:Int):Option em:=if (decide (a<(v5.1.length:Int))) then vx K n v5 c b a d n (aa (a+1)) else some (c,b)
def sX(K:Kn)(n:Nat)(v5:d5×Int×ck)(a:Int):Nat→Int→Int→Option em
 | 0=>fun _ _=>none
 | m+1=>vH K n v5 a (sX K n v5 a m)
def tI(K:Kn)(n:Nat)(v4:d5×ck)(v5:d5×Int×ck)(e:Int→Int→Option em)(d a:Int):Option em:=if (decide (a<(v4.1.length:Int))) then (rz K n v4.1 a).bind fun b=>aE (cC a b v4.1.length) ((oC K n (List.drop a.toNat (List.take b.toNat v4.1))).bind fun c=>if (decide (c>d)) then w7 K n v4 v5 b e c else w7 K n v4 v5 b e d) else sX K n v5 d n 0 0
def uZ(K:Kn)(n:Nat)(v4:d5×ck)(v5:d5×Int×ck):Nat→Int→Int→Option em
 | 0=>fun _ _=>none
 | m+1=>tI K n v4 v5 (uZ K n v4 v5 m)
def zG(K:Kn)(n:Nat)(a:d3)(v2:aP)(b:bw):Option em:=(vT K n a b ([]:ck)).bind fun v4=>(vN K n a 0 v4.2).bind fun v5=>uZ K n v4 v5 n 0 0
def Bc(K:Kn)(n:Nat)(a:d3)(v2:aP)(b:bw):Option em:=(zG K n a v2 b).bind fun v4=>some (v4.1,v4.2)
def dk:Nat→Bool→Bool→bw
 | 0,_,_=>⟨.bot 43 3,.bot 48 1,.bot 52 1,.bot 54 1⟩
 | d+1,a,v2=>⟨.c43 a (dk d a v2).Layout (dk d a v2).Widths (dk d a v2).Lines (dk d a v2).Spread v2,.c48 (dk d a v2).Layout (dk d a v2).Widths (dk d a v2).Lines (dk d a v2).Spread,.c52 (dk d a v2).Layout (dk d a v2).Widths (dk d a v2).Lines (dk d a v2).Spread,.c54 (dk d a v2).Layout (dk d a v2).Widths (dk d a v2).Lines (dk d a v2).Spread⟩
def Eh(K:Kn)(n:Nat)(a v2:Bool):Option bw:=some (dk n a v2)
def A9(K:Kn)(n:Nat)(a v2:ab):Option Bool:=(K.Dq a v2).bind fun b=>some b
def Ax(K:Kn)(n:Nat)(v5:Bool):Option Bool:=some v5
def pV(K:Kn)(n:Nat)(a v2:ab):Option Bool:=(om K n a v2).bind fun b=>if b then Ax K n true else (nH K n a.Kids (Fv.c65 v2)).bind fun v4=>Ax K n v4
def AU(K:Kn)(n:Nat)(b:ae)(v2:dn)(a:Int→dn→Option ae)(v4:Int)(v5:dn):Option ae:=if (decide (v4<(v2.length:Int))) then aE (aM v4 v5.length) ((K.zf (List.getD v5 v4.toNat default)).bind fun v6=>aE (aM v4 v5.length) (a (aa (v4+1)) (List.set v5 v4.toNat v6))) else some ({ b with Kids:=v5 }:ae)
def rM(K:Kn)(n:Nat)(a:ae)(v2:dn):Nat→Int→dn→Option ae
 | 0=>fun _ _=>none
 | m+1=>AU K n a v2 (rM K n a v2 m)
def sP(K:Kn)(n:Nat)(a:ae):Option ae:=(rb K n a.Kids).bind fun v2=>rM K n a v2 n 0 v2
def AA(K:Kn)(n:Nat)(a:ck):Option ck:=oa (List.isEmpty a) (aE (fits (([]:ck).length+a.length) 8) (some (([]:ck)++a)))
def pf(K:Kn)(n:Nat)(d:gX)(v2:ab)(v6:ck)(a:Int)(c:Int→Option Unit)(b:Bool):Option Unit:=if b then none else (K.ug d (List.getD v2.Kids a.toNat default) v6).bind fun e=>c (aa (a+1))
def Aa(K:Kn)(n:Nat)(c:gX)(v2:ab)(v6:ck)(b:Int→Option Unit)(a:Int):Option Unit:=if (decide (a<(v2.Kids.length:Int))) then aE (aM a v2.Kids.length) (if (((List.getD v2.Kids a.toNat default).Kind) != 3) then if (((List.getD v2.Kids a.toNat default).Kind) != 4) then pf K n c v2 v6 a b ((((List.getD v2.Kids a.toNat default).Style).Position) == 2) else pf K n c v2 v6 a b false else pf K n c v2 v6 a b false) else some ()
def pm(K:Kn)(n:Nat)(a:gX)(v2:ab)(v6:ck):Nat→Int→Option Unit
 | 0=>fun _=>none
 | m+1=>Aa K n a v2 v6 (pm K n a v2 v6 m)
def wo(K:Kn)(n:Nat)(a:gX)(v2:ab)(v6:ck):Option Unit:=pm K n a v2 v6 n 0
def uN(K:Kn)(n:Nat)(a:gX)(v2:ab)(b:ck)(v4:Bool):Option Unit:=if v4 then (AA K n b).bind fun v5=>aE (fits (v5.length+([v2.Node]:ck).length) 8) (wo K n a v2 (v5++[v2.Node])) else wo K n a v2 b
def ov(K:Kn)(n:Nat)(a:gX)(v2:ab)(b:ck):Option Unit:=if (v2.Node != 0) then uN K n a v2 b (v2.Style.Position != 0) else uN K n a v2 b false
def DH(K:Kn)(n:Nat)(c:ab)(v2 e:Int)(v4:bw)(v5 v6:Int)(f:dO):Option (ae×Int×Int×dO):=(rD K n c.Style (min (max v2 0) 1048576)).bind fun g=>(DK K n c g v4 v5 v6 f).bind fun b=>(sP K n b.1).bind fun a=>(ov K n ({ Nz with env:=v4 }:gX) c []).bind fun d=>some (({ a with H:=(max a.H (min (max e 0) 1048576)) }:ae),b.2.1,b.2.2.1,b.2.2.2)
def wJ(K:Kn)(n:Nat)(a:dO)(v2:Fv)(b:Int→Option Int)(v4:Int):Option Int:=if (decide (v4<(a.length:Int))) then aE (aM v4 a.length) ((K.uG v2 (List.getD a v4.toNat default)).bind fun v5=>if v5 then some v4 else b (aa (v4+1))) else some (-1)
def qD(K:Kn)(n:Nat)(a:dO)(v2:Fv):Nat→Int→Option Int
 | 0=>fun _=>none
 | m+1=>wJ K n a v2 (qD K n a v2 m)
def BN(K:Kn)(n:Nat)(a:dO)(v2:Fv):Option Int:=qD K n a v2 n 0
def AB(K:Kn)(n:Nat)(a:dO)(v2:Fv):Option Bool:=(BN K n a v2).bind fun b=>some (decide (b≥0))
def Df(K:Kn)(n:Nat)(v4:Bool):Option Bool:=some v4
def wF(K:Kn)(n:Nat)(a v2:aA):Option Bool:=if (a.Width == v2.Width) then (om K n a.Box v2.Box).bind fun b=>Df K n b else Df K n false
def yD(K:Kn)(n:Nat)(d:ab)(e:ae×Int×Int×dO)(a:Int)(c:Int→dO→Option (ae×Int×Int×dO))(b:dO):Option (ae×Int×Int×dO):=c (aa (a+1)) b
def y3(K:Kn)(n:Nat)(f:ab)(c:ae×Int×Int×dO)(a:Int)(b:dO)(e:Int→dO→Option (ae×Int×Int×dO))(d:Bool):Option (ae×Int×Int×dO):=if d then aE (fits (b.length+([(List.getD c.2.2.2 a.toNat default)]:dO).length) 1112) (yD K n f c a e (b++[(List.getD c.2.2.2 a.toNat default)])) else yD K n f c a e b
def yp(K:Kn)(n:Nat)(d:ab)(c:ae×Int×Int×dO)(h:Int→dO→Option (ae×Int×Int×dO))(a:Int)(b:dO):Option (ae×Int×Int×dO):=if (decide (a<(c.2.2.2.length:Int))) then aE (aM a c.2.2.2.length) ((AB K n b (Fv.c39 (List.getD c.2.2.2 a.toNat default))).bind fun e=>if (!e) then (pV K n d ((List.getD c.2.2.2 a.toNat default).Box)).bind fun f=>y3 K n d c a b h f else y3 K n d c a b h false) else (oZ K n c.1).bind fun g=>some (g,c.2.1,c.2.2.1,b)
def pu(K:Kn)(n:Nat)(a:ab)(b:ae×Int×Int×dO):Nat→Int→dO→Option (ae×Int×Int×dO)
 | 0=>fun _ _=>none
 | m+1=>yp K n a b (pu K n a b m)
def m8(K:Kn)(n:Nat)(a:ab)(v2 b v4 v5:Int)(v6:dO):Option (ae×Int×Int×dO):=(Eh K n true true).bind fun c=>(DH K n a v2 b c 0 0 v6).bind fun d=>pu K n a d n 0 []
def sE(K:Kn)(n:Nat)(a:Int):Option ab:=some ({ c9 with Kind:=1,Node:=a,Style:=({ cv with Height:=(⟨1,20⟩:cF) }:aP) }:ab)
def vr(K:Kn)(n:Nat)(a:Bool):Option Bool:=some a
def Da(K:Kn)(n:Nat):Option Bool:=(sE K n 2).bind fun b=>(sE K n 3).bind fun v2=>(m8 K n ({ c9 with Kind:=1,Node:=1,Kids:=[b,v2] }:ab) 100 10 0 0 ([]:dO)).bind fun a=>(sE K n 2).bind fun v4=>(sE K n 4).bind fun v5=>(m8 K n ({ c9 with Kind:=1,Node:=1,Kids:=[v4,v5] }:ab) 100 10 a.2.1 a.2.2.1 a.2.2.2).bind fun v6=>if (a.1.H == 40) then if (a.2.1 == 2) then if (v6.2.1 == 1) then vr K n (v6.2.2.1 == 1) else vr K n false else vr K n false else vr K n false
def wH(K:Kn)(n:Nat)(v2:Bool):Option Bool:=some v2
def ga(K:Kn)(n:Nat)(a:cF):Option Bool:=if (decide (a.Value≥(-16777216))) then wH K n (decide (a.Value≤16777216)) else wH K n false
def vq(K:Kn)(n:Nat)(d:g7)(v2 a:Int)(c:Int→Option Bool)(b:Bool):Option Bool:=if b then some false else c (aa (a+1))
def yE(K:Kn)(n:Nat)(b:g7)(v2 a:Int)(f:Int→Option Bool)(c:Bool):Option Bool:=if c then some false else (ga K n ((((List.getD b a.toNat default).Style).Margin).a3)).bind fun d=>if (!d) then vq K n b v2 a f true else (ga K n ((((List.getD b a.toNat default).Style).Padding).a3)).bind fun e=>vq K n b v2 a f (!e)
def y6(K:Kn)(n:Nat)(b:g7)(v2 a:Int)(f:Int→Option Bool)(c:Bool):Option Bool:=if c then some false else (ga K n ((((List.getD b a.toNat default).Style).Margin).a2)).bind fun d=>if (!d) then yE K n b v2 a f true else (ga K n ((((List.getD b a.toNat default).Style).Padding).a2)).bind fun e=>yE K n b v2 a f (!e)
def AZ(K:Kn)(n:Nat)(b:g7)(v2 a:Int)(f:Int→Option Bool)(c:Bool):Option Bool:=if c then some false else (ga K n ((((List.getD b a.toNat default).Style).Margin).a1)).bind fun d=>if (!d) then y6 K n b v2 a f true else (ga K n ((((List.getD b a.toNat default).Style).Padding).a1)).bind fun e=>y6 K n b v2 a f (!e)
def fd(K:Kn)(n:Nat)(b:g7)(v2 a:Int)(f:Int→Option Bool)(c:Bool):Option Bool:=if c then some false else (ga K n ((((List.getD b a.toNat default).Style).Margin).a0)).bind fun d=>if (!d) then AZ K n b v2 a f true else (ga K n ((((List.getD b a.toNat default).Style).Padding).a0)).bind fun e=>AZ K n b v2 a f (!e)
def mU(K:Kn)(n:Nat)(b:g7)(v2:Int)(c:Int→Option Bool)(a:Int):Option Bool:=if (decide (a<(b.length:Int))) then aE (aM a b.length) (aE (aM a b.length) (if (decide ((((List.getD b a.toNat default).Text).size:Int)>60)) then fd K n b v2 a c true else (ga K n (((List.getD b a.toNat default).Style).Left)).bind fun d=>if (!d) then fd K n b v2 a c true else (ga K n (((List.getD b a.toNat default).Style).Top)).bind fun e=>if (!e) then fd K n b v2 a c true else (ga K n (((List.getD b a.toNat default).Style).Width)).bind fun f=>if (!f) then fd K n b v2 a c true else (ga K n (((List.getD b a.toNat default).Style).Height)).bind fun g=>if (!g) then fd K n b v2 a c true else (ga K n (((List.getD b a.toNat default).Style).MinWidth)).bind fun h=>if (!h) then fd K n b v2 a c true else (ga K n (((List.getD b a.toNat default).Style).MaxWidth)).bind fun i=>if (!i) then fd K n b v2 a c true else (ga K n (((List.getD b a.toNat default).Style).Basis)).bind fun j=>if (!j) then fd K n b v2 a c true else if (decide ((((List.getD b a.toNat default).Style).LineHeight)<0)) then fd K n b v2 a c true else if (decide ((((List.getD b a.toNat default).Style).LineHeight)>65536)) then fd K n b v2 a c true else if (decide ((((List.getD b a.toNat default).Style).FontSize)<0)) then fd K n b v2 a c true else if (decide ((((List.getD b a.toNat default).Style).FontSize)>65536)) then fd K n b v2 a c true else if (decide ((((List.getD b a.toNat default).Style).Grow)<0)) then fd K n b v2 a c true else if (decide ((((List.getD b a.toNat default).Style).Grow)>1048576)) then fd K n b v2 a c true else if (decide ((((List.getD b a.toNat default).Style).Shrink)<0)) then fd K n b v2 a c true else fd K n b v2 a c (decide ((((List.getD b a.toNat default).Style).Shrink)>1048576)))) else some (decide ((b.length:Int)≤v2))
def pK(K:Kn)(n:Nat)(a:g7)(v2:Int):Nat→Int→Option Bool
 | 0=>fun _=>none
 | m+1=>mU K n a v2 (pK K n a v2 m)
def yY(K:Kn)(n:Nat)(a:g7)(v2:Int):Option Bool:=pK K n a v2 n 0
def rU(K:Kn)(n:Nat)(a:Bool):Option Bool:=some a
def zi(K:Kn)(n:Nat)(a:g7)(v2:List eK)(b:Int→Option Bool)(v4:Int):Option Bool:=if (decide (v4<(v2.length:Int))) then aE (aM v4 v2.length) ((yY K n [(List.getD v2 v4.toNat default).Spec] 1).bind fun v5=>if (!v5) then some false else b (aa (v4+1))) else (yY K n a 12).bind fun v6=>if v6 then if (decide ((a.length:Int)>0)) then rU K n (decide ((v2.length:Int)≤6)) else rU K n false else rU K n false
def vD(K:Kn)(n:Nat)(a:g7)(v2:List eK):Nat→Int→Option Bool
 | 0=>fun _=>none
 | m+1=>zi K n a v2 (vD K n a v2 m)
def CC(K:Kn)(n:Nat)(a:g7)(v2:List eK):Option Bool:=vD K n a v2 n 0
def nn(K:Kn)(n:Nat)(b:g7)(v2:Int)(g:Bool)(a:Int)(d:d3)(f:Int→d3→Option f6)(e:Bool):Option f6:=if e then if g then (K.kx b a).bind fun c=>aE (fits (d.length+([c.1]:d3).length) 520) (f c.2 (d++[c.1])) else aE (aM a b.length) (aE (aM a b.length) (aE (fits (d.length+([({ c9 with Kind:=3,Style:=(List.getD b a.toNat default).Style,Text:=(List.getD b a.toNat default).Text }:ab)]:d3).length) 520) (f (aa (a+1)) (d++[({ c9 with Kind:=3,Style:=(List.getD b a.toNat default).Style,Text:=(List.getD b a.toNat default).Text }:ab)])))) else some ((⟨1,(aa (10+v2)),(List.getD b v2.toNat default).Style,⟨#[]⟩,0,0,d⟩:ab),a)
def oe(K:Kn)(n:Nat)(a:g7)(v2:Int)(d:Bool)(c:Int→d3→Option f6)(b:Int)(e:d3):Option f6:=if (decide (b<(a.length:Int))) then aE (aM b a.length) (nn K n a v2 d b e c (decide (((List.getD a b.toNat default).Depth)>((List.getD a v2.toNat default).Depth)))) else nn K n a v2 d b e c false
def lW(K:Kn)(n:Nat)(a:g7)(v2:Int)(b:Bool):Nat→Int→d3→Option f6
 | 0=>fun _ _=>none
 | m+1=>oe K n a v2 b (lW K n a v2 b m)
def oG(K:Kn)(n:Nat)(a:g7)(v2:Int)(b:Bool):Option f6:=lW K n a v2 b n (aa (v2+1)) []
def nZ(K:Kn)(n:Nat)(a:g7)(v2:Int):Option f6:=aE (aM v2 a.length) (aE (aM v2 a.length) (if (decide ((aa (v2+1))<(a.length:Int))) then aE (aM (aa (v2+1)) a.length) (if (decide (((List.getD a ((aa (v2+1))).toNat default).Depth)>((List.getD a v2.toNat default).Depth))) then aE (aM (aa (v2+1)) a.length) (oG K n a v2 ((Int.tmod ((List.getD a ((aa (v2+1))).toNat default).Kind) 2) == 0)) else oG K n a v2 false) else oG K n a v2 false))
def jI(l:g7)(b:ab)(c:d3)(a:Bool):Option ab:=match a with
 | false=>some { b with Kids:=c }
 | true=>if (decide ((aa (b.Node-10))>0)) then aE (aM (aa (b.Node-10)) l.length) (if ((Int.tmod ((List.getD l ((aa (b.Node-10))).toNat default).Rows) 4) == 1) then some { b with Kind:=6,Kids:=c } else some { b with Kids:=c }) else some { b with Kids:=c }
def kO(f:ab→Option ab):d3→Option d3
 | []=>some []
 | k::r=>(if (k.Kind == 1) then f k else some k).bind fun a=>(kO f r).bind fun b=>some (a::b)
def iw(l:g7):Nat→ab→Option ab
 | 0,_=>none
 | m+1,b=>(kO (iw l m) b.Kids).bind fun a=>jI l b a (b.Kids.any fun k=>k.Kind == 1)
def kF(K:Kn)(n:Nat):Nat→g7→Int→Option f6
 | 0,_,_=>none
 | m+1,l,a=>nZ { K with kx:=kF K n m } n l a
def fy(s:aL):aL:=if (s.Style.Position == 2) then { s with Style:={ s.Style with Position:=0 } } else s
def qW(K:Kn)(n:Nat)(a:g7):Option ab:=aE (fits a.length 480) ((kF K n n (a.map fy) 0).bind fun r=>iw (a.map fy) n r.1)
def xu(K:Kn)(n:Nat)(a:g7):Option g7:=some a
def yt(K:Kn)(n:Nat)(a:g7)(v2:eK):Option g7:=aE (fits (([]:g7).length+a.length) 480) (if (decide ((a.length:Int)<2)) then aE (aM (0:Int) a.length) (aE (fits ((([]:g7)++a).length+([({ tH with Depth:=(IntKind.wrap .u8 (((List.getD a (0:Int).toNat default).Depth)+1)),Style:=v2.Spec.Style }:aL)]:g7).length) 480) (some ((([]:g7)++a)++[({ tH with Depth:=(IntKind.wrap .u8 (((List.getD a (0:Int).toNat default).Depth)+1)),Style:=v2.Spec.Style }:aL)]))) else aE (((aa ((a.length:Int)-1)) != 0)) ((some (aa (1+(Int.tmod (aa v2.At) (aa ((a.length:Int)-1)))))).bind fun b=>if ((Int.tmod v2.Kind 4) == 0) then aE (aM b (([]:g7)++a).length) (aE (aM b (([]:g7)++a).length) (aE (aM b (([]:g7)++a).length) ((some ((List.getD (([]:g7)++a) b.toNat default).Depth)).bind fun v4=>(some ((List.getD (([]:g7)++a) b.toNat default).Kind)).bind fun v5=>(some ((List.getD (([]:g7)++a) b.toNat default).Rows)).bind fun v6=>aE (aM b (([]:g7)++a).length) (xu K n (List.set (([]:g7)++a) b.toNat ({ v2.Spec with Depth:=v4,Kind:=v5,Rows:=v6 }:aL)))))) else if ((Int.tmod v2.Kind 4) == 1) then aE (aM b (([]:g7)++a).length) (aE (wx ((List.getD (([]:g7)++a) b.toNat default).Text) (⟨#[120]⟩:ByteArray)) (aE (aM b (([]:g7)++a).length) (xu K n (List.set (([]:g7)++a) b.toNat ({ (List.getD (([]:g7)++a) b.toNat default)with Text:=(((List.getD (([]:g7)++a) b.toNat default).Text)++(⟨#[120]⟩:ByteArray)) }:aL))))) else if ((Int.tmod v2.Kind 4) == 2) then aE (cC (0:Int) b (([]:g7)++a).length) (aE (cC (aa (b+1)) ((([]:g7)++a).length:Int) (([]:g7)++a).length) (aE (Nat.ble 1 (b.toNat-(0:Int).toNat)&&(Nat.ble (b.toNat-(0:Int).toNat) (((aa (b+1))).toNat)&&Nat.ble (((aa (b+1))).toNat+((((([]:g7)++a).length:Int)).toNat-((aa (b+1))).toNat)) (([]:g7)++a).length)) (some (List.take (b.toNat-(0:Int).toNat) (([]:g7)++a)++List.take ((((([]:g7)++a).length:Int)).toNat-((aa (b+1))).toNat) (List.drop (((aa (b+1))).toNat) (([]:g7)++a)))))) else aE (aM b (([]:g7)++a).length) ((some ((List.getD (([]:g7)++a) b.toNat default).Depth)).bind fun c=>aE (cC (0:Int) b (([]:g7)++a).length) (aE (fits (([]:g7).length+(List.drop ((0:Int)).toNat (List.take b.toNat (([]:g7)++a))).length) 480) (aE (fits ((([]:g7)++(List.drop ((0:Int)).toNat (List.take b.toNat (([]:g7)++a)))).length+([({ v2.Spec with Depth:=c }:aL)]:g7).length) 480) (aE (cC b ((([]:g7)++a).length:Int) (([]:g7)++a).length) (aE (fits (((([]:g7)++(List.drop ((0:Int)).toNat (List.take b.toNat (([]:g7)++a))))++[({ v2.Spec with Depth:=c }:aL)]).length+(List.drop b.toNat (List.take (((([]:g7)++a).length:Int)).toNat (([]:g7)++a))).length) 480) (some (((([]:g7)++(List.drop ((0:Int)).toNat (List.take b.toNat (([]:g7)++a))))++[({ v2.Spec with Depth:=c }:aL)])++(List.drop b.toNat (List.take (((([]:g7)++a).length:Int)).toNat (([]:g7)++a))))))))))))
def yI(K:Kn)(n:Nat)(d:ab)(c:Int)(b:Int→Int→Option Int)(a:Int):Option Int:=b a (aa (c+1))
def Ay(K:Kn)(n:Nat)(a:ab)(v6 b:Int)(c:Int→Int→Option Int)(d:Bool):Option Int:=if d then aE (aM b a.Kids.length) ((K.xE (List.getD a.Kids b.toNat default)).bind fun e=>yI K n a b c (aa (v6+(aa (1+e))))) else yI K n a b c v6
def zy(K:Kn)(n:Nat)(a:ab)(c:Int→Int→Option Int)(v6 b:Int):Option Int:=if (decide (b<(a.Kids.length:Int))) then aE (aM b a.Kids.length) (if (((List.getD a.Kids b.toNat default).Kind) == 1) then Ay K n a v6 b c true else aE (aM b a.Kids.length) (Ay K n a v6 b c (((List.getD a.Kids b.toNat default).Kind) == 6))) else some v6
def rk(K:Kn)(n:Nat)(a:ab):Nat→Int→Int→Option Int
 | 0=>fun _ _=>none
 | m+1=>zy K n a (rk K n a m)
def uA(K:Kn)(n:Nat)(a:ab):Option Int:=rk K n a n 0 0
def xn(K:Kn)(n:Nat)(a v2:ae)(b:Int→Option Bool)(v6:Int):Option Bool:=if (decide (v6<(a.Kids.length:Int))) then aE (aM v6 a.Kids.length) (aE (aM v6 v2.Kids.length) ((K.AM (List.getD a.Kids v6.toNat default) (List.getD v2.Kids v6.toNat default)).bind fun c=>if (!c) then some false else b (aa (v6+1)))) else some true
def tE(K:Kn)(n:Nat)(a v2:ae):Nat→Int→Option Bool
 | 0=>fun _=>none
 | m+1=>xn K n a v2 (tE K n a v2 m)
def gR(K:Kn)(n:Nat)(a v2:ae)(b:Bool):Option Bool:=if b then some false else tE K n a v2 n 0
def qz(K:Kn)(n:Nat)(a v2:ae):Option Bool:=if (a.Kind != v2.Kind) then gR K n a v2 true else if (a.Node != v2.Node) then gR K n a v2 true else if (a.X != v2.X) then gR K n a v2 true else if (a.Y != v2.Y) then gR K n a v2 true else if (a.W != v2.W) then gR K n a v2 true else if (a.H != v2.H) then gR K n a v2 true else if (a.aC != v2.aC) then gR K n a v2 true else if (!(a.Text.toList == v2.Text.toList)) then gR K n a v2 true else if (!(l7 a.Style v2.Style)) then gR K n a v2 true else if (!(DG a.Before v2.Before)) then gR K n a v2 true else if (!(DG a.After v2.After)) then gR K n a v2 true else if (!(a.Empty == v2.Empty)) then gR K n a v2 true else gR K n a v2 ((a.Kids.length:Int) != (v2.Kids.length:Int))
def se(K:Kn)(n:Nat)(a:Bool):Option Bool:=some a
def AO(K:Kn)(n:Nat)(v2:List eK)(j:V2 Int)(p:g7→Int→Int→Int→dO→Option Bool)(d:g7)(b g h:Int)(i:dO):Option Bool:=if (decide (b<(v2.length:Int))) then aE (aM b v2.length) ((qW K n d).bind fun k=>(m8 K n k j.a0 0 g h i).bind fun e=>(yt K n d (List.getD v2 b.toNat default)).bind fun l=>p l (aa (b+1)) e.2.1 e.2.2.1 e.2.2.2) else (qW K n d).bind fun f=>(m8 K n f j.a0 j.a1 g h i).bind fun a=>(m8 K n f j.a0 j.a1 a.2.1 a.2.2.1 a.2.2.2).bind fun c=>if (c.2.1 == 0) then if ((c.2.2.2.length:Int) == (a.2.2.2.length:Int)) then (uA K n f).bind fun m=>if ((decide (c.2.2.1>0)) == (decide (m>0))) then (qz K n a.1 c.1).bind fun o=>se K n o else se K n false else se K n false else se K n false
def rQ(K:Kn)(n:Nat)(v2:List eK)(a:V2 Int):Nat→g7→Int→Int→Int→dO→Option Bool
 | 0=>fun _ _ _ _ _=>none
 | m+1=>AO K n v2 a (rQ K n v2 a m)
def BD(K:Kn)(n:Nat)(a:g7)(v2:List eK)(b:V2 Int):Option Bool:=(Da K n ).bind fun v4=>if (!v4) then some false else (CC K n a v2).bind fun v5=>if (!v5) then some true else rQ K n v2 b n a 0 0 0 []
def KN:Nat→Kn
 | 0=>⟨fun _=>none,fun _ _=>none,fun _ _=>none,fun _=>none,fun _ _=>none,fun _ _=>none,fun _=>none,fun _ _ _=>none,fun _ _ _=>none,fun _ _ _=>none,fun _ _ _ _=>none,fun _ _ _=>none,fun _ _ _ _ _ _=>none,fun _ _ _=>none,fun _ _=>none,fun _ _=>none,fun _ _=>none,fun _ _=>none⟩
 | n+1=>⟨fun b=>uA (KN n) n b, fun b c=>qz (KN n) n b c, fun b c=>pV (KN n) n b c, fun b=>oZ (KN n) n b, fun b c=>nZ (KN n) n b c, fun b c=>none, fun b=>sP (KN n) n b, fun b c e=>ov (KN n) n b c e, fun b c e=>nh (KN n) n b c e, fun f b c=>match f with|.fn i=>none|.bot _ _=>none|.c39 a=>none|.c43 a x1_0 x1_1 x1_2 x1_3 d=>none|.c48 x0_0 x0_1 x0_2 x0_3=>none|.c52 x0_0 x0_1 x0_2 x0_3=>none|.c54 x0_0 x0_1 x0_2 x0_3=>none|.c65 a=>none|.c103 a=>none|.c147 a x1_0 x1_1 x1_2 x1_3=>none|.c165 a=>Ak (KN n) n b c a|.c172 a=>zb (KN n) n b c a, fun f b c e=>match f with|.fn i=>none|.bot _ _=>none|.c39 a=>none|.c43 a x1_0 x1_1 x1_2 x1_3 d=>none|.c48 x0_0 x0_1 x0_2 x0_3=>none|.c52 x0_0 x0_1 x0_2 x0_3=>zk (KN n) n b c e (⟨x0_0,x0_1,x0_2,x0_3⟩:bw)|.c54 x0_0 x0_1 x0_2 x0_3=>none|.c65 a=>none|.c103 a=>none|.c147 a x1_0 x1_1 x1_2 x1_3=>none|.c165 a=>none|.c172 a=>none, fun f b c=>match f with|.fn i=>none|.bot _ _=>none|.c39 a=>none|.c43 a x1_0 x1_1 x1_2 x1_3 d=>none|.c48 x0_0 x0_1 x0_2 x0_3=>none|.c52 x0_0 x0_1 x0_2 x0_3=>none|.c54 x0_0 x0_1 x0_2 x0_3=>Bc (KN n) n b c (⟨x0_0,x0_1,x0_2,x0_3⟩:bw)|.c65 a=>none|.c103 a=>none|.c147 a x1_0 x1_1 x1_2 x1_3=>none|.c165 a=>none|.c172 a=>none, fun f b c e g h=>match f with|.fn i=>none|.bot _ _=>none|.c39 a=>none|.c43 a x1_0 x1_1 x1_2 x1_3 d=>ki (KN n) n b c a (⟨x1_0,x1_1,x1_2,x1_3⟩:bw) d e g h|.c48 x0_0 x0_1 x0_2 x0_3=>none|.c52 x0_0 x0_1 x0_2 x0_3=>none|.c54 x0_0 x0_1 x0_2 x0_3=>none|.c65 a=>none|.c103 a=>none|.c147 a x1_0 x1_1 x1_2 x1_3=>none|.c165 a=>none|.c172 a=>none, fun f b c=>match f with|.fn i=>if Nat.beq i 27=true then om (KN n) n b c else none|.bot _ _=>none|.c39 a=>none|.c43 a x1_0 x1_1 x1_2 x1_3 d=>none|.c48 x0_0 x0_1 x0_2 x0_3=>none|.c52 x0_0 x0_1 x0_2 x0_3=>none|.c54 x0_0 x0_1 x0_2 x0_3=>none|.c65 a=>none|.c103 a=>none|.c147 a x1_0 x1_1 x1_2 x1_3=>none|.c165 a=>none|.c172 a=>none, fun f b=>match f with|.fn i=>if Nat.beq i 145=true then uE (KN n) n b else none|.bot _ _=>none|.c39 a=>none|.c43 a x1_0 x1_1 x1_2 x1_3 d=>none|.c48 x0_0 x0_1 x0_2 x0_3=>none|.c52 x0_0 x0_1 x0_2 x0_3=>none|.c54 x0_0 x0_1 x0_2 x0_3=>none|.c65 a=>A9 (KN n) n b a|.c103 a=>none|.c147 a x1_0 x1_1 x1_2 x1_3=>none|.c165 a=>none|.c172 a=>none, fun f b=>match f with|.fn i=>none|.bot _ _=>none|.c39 a=>none|.c43 a x1_0 x1_1 x1_2 x1_3 d=>none|.c48 x0_0 x0_1 x0_2 x0_3=>qE (KN n) n b (⟨x0_0,x0_1,x0_2,x0_3⟩:bw)|.c52 x0_0 x0_1 x0_2 x0_3=>none|.c54 x0_0 x0_1 x0_2 x0_3=>none|.c65 a=>none|.c103 a=>none|.c147 a x1_0 x1_1 x1_2 x1_3=>none|.c165 a=>none|.c172 a=>none, fun f b=>match f with|.fn i=>none|.bot _ _=>none|.c39 a=>none|.c43 a x1_0 x1_1 x1_2 x1_3 d=>none|.c48 x0_0 x0_1 x0_2 x0_3=>none|.c52 x0_0 x0_1 x0_2 x0_3=>none|.c54 x0_0 x0_1 x0_2 x0_3=>none|.c65 a=>none|.c103 a=>none|.c147 a x1_0 x1_1 x1_2 x1_3=>Hq (KN n) n b a (⟨x1_0,x1_1,x1_2,x1_3⟩:bw)|.c165 a=>none|.c172 a=>none, fun f b=>match f with|.fn i=>none|.bot _ _=>none|.c39 a=>wF (KN n) n b a|.c43 a x1_0 x1_1 x1_2 x1_3 d=>none|.c48 x0_0 x0_1 x0_2 x0_3=>none|.c52 x0_0 x0_1 x0_2 x0_3=>none|.c54 x0_0 x0_1 x0_2 x0_3=>none|.c65 a=>none|.c103 a=>none|.c147 a x1_0 x1_1 x1_2 x1_3=>none|.c165 a=>none|.c172 a=>none⟩
end
end Go.Proofs.YtocgkfoifehcbaaGreat

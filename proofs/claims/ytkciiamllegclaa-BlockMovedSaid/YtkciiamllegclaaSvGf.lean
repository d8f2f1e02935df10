/- Layer 17's functions as plain Lean functions: K stands for calls that come back, n bounds the rounds of loops. Made by a program. -/
import Derived.Test.YtkciiamllegclaaSvGt
namespace Go.Proofs.Ytkciiamllegclaa
open Go.RowKit
set_option maxRecDepth 20000
set_option linter.all false
abbrev bY:=List aa
abbrev b7:=List ai
abbrev eq:=List bo
variable[ZX]
noncomputable section
def jO(K:Kn)(n:Nat)(a:ag):Option Int:=some (ab (a.Pos+a.Neg))
def g6(K:Kn)(n:Nat)(a:Int):Option ag:=some (⟨(max a 0),(min a 0)⟩:ag)
def ex(K:Kn)(n:Nat)(a:Int):Option Int:=some (min (max a 0) 1048576)
def gP(K:Kn)(n:Nat)(a:Int):Option (Int×Bool):=some ((min (max a (-1048576)) 1048576),true)
def cp(K:Kn)(n:Nat)(a:bx)(b:Int):Option (Int×Bool):=if (a.Kind == 1) then gP K n a.Value else if (a.Kind == 2) then (ex K n b).bind fun c=>gP K n (ab (Int.tdiv (ab (c*(min (max a.Value (-1000000)) 1000000))) 10000)) else some (0,false)
def lc(K:Kn)(n:Nat)(a:Int):Option Int:=some a
def kv(K:Kn)(n:Nat)(c:aR)(d a:Int):Option Int:=(cp K n c.MinWidth d).bind fun b=>if b.2=true then lc K n (max a b.1) else lc K n a
def l3(K:Kn)(n:Nat)(a:aR)(b c:Int):Option Int:=(cp K n a.MaxWidth b).bind fun d=>if d.2=true then kv K n a b (min (max c 0) (max d.1 0)) else kv K n a b (max c 0)
def m5(K:Kn)(n:Nat)(a:aR)(b i:Int):Option az:=(cp K n a.Margin.a0 b).bind fun j=>(ex K n a.Border.a0).bind fun k=>(cp K n a.Padding.a0 b).bind fun l=>(cp K n a.Margin.a1 b).bind fun m=>(ex K n a.Border.a1).bind fun o=>(cp K n a.Padding.a1 b).bind fun p=>(cp K n a.Margin.a2 b).bind fun c=>(ex K n a.Border.a2).bind fun d=>(cp K n a.Padding.a2 b).bind fun e=>(cp K n a.Margin.a3 b).bind fun f=>(ex K n a.Border.a3).bind fun g=>(cp K n a.Padding.a3 b).bind fun h=>some (⟨⟨j.1,m.1,c.1,f.1⟩,⟨k,o,d,g⟩,⟨(max l.1 0),(max p.1 0),(max e.1 0),(max h.1 0)⟩,i⟩:az)
def kF(K:Kn)(n:Nat)(a:az):Option Int:=some (ab ((ab ((ab ((ab ((ab ((ab (a.Content+a.Margin.a1))+a.Margin.a3))+a.Border.a1))+a.Border.a3))+a.Padding.a1))+a.Padding.a3))
def gz(K:Kn)(n:Nat)(b:az)(c:Int)(a:V4 Int):Option az:=some ({ b with Margin:=a,Content:=c }:az)
def kI(K:Kn)(n:Nat)(b:Int)(a:az)(d c:Int)(e f:Int×Bool)(g:Bool):Option az:=if g then gz K n a d ⟨a.Margin.a0,(ab ((ab (b-c))-(ab (Int.tdiv (ab (b-c)) 2)))),a.Margin.a2,(ab (Int.tdiv (ab (b-c)) 2))⟩ else if (!e.2) then gz K n a d ⟨a.Margin.a0,a.Margin.a1,a.Margin.a2,(ab (b-c))⟩ else if (!f.2) then gz K n a d ⟨a.Margin.a0,(ab (b-c)),a.Margin.a2,a.Margin.a3⟩ else gz K n a d a.Margin
def lD(K:Kn)(n:Nat)(f:aR)(c:Int)(d:az)(h:Int):Option az:=(l3 K n f c h).bind fun e=>(kF K n ({ d with Content:=e }:az)).bind fun g=>if (decide ((ab (c-g))≤0)) then some ({ d with Content:=e }:az) else (cp K n f.Margin.a3 c).bind fun a=>(cp K n f.Margin.a1 c).bind fun b=>if (!a.2) then kI K n c d e g a b (!b.2) else kI K n c d e g a b false
def ma(K:Kn)(n:Nat)(b:aR)(e:Int):Option az:=(ex K n e).bind fun a=>(m5 K n b a 0).bind fun c=>(cp K n b.Width a).bind fun d=>if (!d.2) then (kF K n c).bind fun f=>lD K n b a c (ab (a-f)) else lD K n b a c d.1
def nt(K:Kn)(n:Nat)(a b:ag):Option ag:=some (⟨(max a.Pos b.Pos),(min a.Neg b.Neg)⟩:ag)
def lI(K:Kn)(n:Nat)(h:bY)(a:Int)(b:bY)(c:Int)(i:Int→Bool→Int→ag→ag→bY→Option (bY×Int×ag×ag×Bool))(d:Int)(e:Bool)(f g:ag):Option (bY×Int×ag×ag×Bool):=bn (fits (b.length+([({ (List.getD h a.toNat default)with Y:=c }:aa)]:bY).length) 584) (i d e (ab (a+1)) f g (b++[({ (List.getD h a.toNat default)with Y:=c }:aa)]))
def kX(K:Kn)(n:Nat)(c:bY)(a:Int)(d:bY)(g:ag)(b:Int)(f:Int→Bool→Int→ag→ag→bY→Option (bY×Int×ag×ag×Bool))(e:ag):Option (bY×Int×ag×ag×Bool):=lI K n c a d b f (ab (b+((List.getD c a.toNat default).H))) false e ((List.getD c a.toNat default).After)
def lH(K:Kn)(n:Nat)(g:bY)(i:Int)(e:Bool)(a:Int)(f:ag)(c:bY)(b:ag)(h:Int→Bool→Int→ag→ag→bY→Option (bY×Int×ag×ag×Bool))(d:Int):Option (bY×Int×ag×ag×Bool):=if (!(List.getD g a.toNat default).Empty) then if e then kX K n g a c b d h b else kX K n g a c b d h f else lI K n g a c d h i e f b
def lj(K:Kn)(n:Nat)(a:Int)(b:Bool)(c:ag)(d:bY)(e:ag):Option (bY×Int×ag×ag×Bool):=some (d,a,e,c,b)
def l4(K:Kn)(n:Nat)(h:bY)(j:Int→Bool→Int→ag→ag→bY→Option (bY×Int×ag×ag×Bool))(b:Int)(a:Bool)(c:Int)(f d:ag)(e:bY):Option (bY×Int×ag×ag×Bool):=if (decide (c<(h.length:Int))) then bn (br c h.length) ((nt K n d ((List.getD h c.toNat default).Before)).bind fun g=>if (!a) then (jO K n g).bind fun i=>lH K n h b a c f e g j (ab (b+i)) else lH K n h b a c f e g j 0) else if a then lj K n b a d e d else lj K n b a d e f
def nc(K:Kn)(n:Nat)(a:bY):Nat→Int→Bool→Int→ag→ag→bY→Option (bY×Int×ag×ag×Bool)
 | 0=>fun _ _ _ _ _ _=>none
 | m+1=>l4 K n a (nc K n a m)
def oe(K:Kn)(n:Nat)(a:bY):Option (bY×Int×ag×ag×Bool):=nc K n a n 0 true 0 b8 b8 []
def n6(K:Kn)(n:Nat)(a:Int):Option bx:=some (⟨1,a⟩:bx)
def eo(K:Kn)(n:Nat)(a:Bool):Option Bool:=some a
def lB(K:Kn)(n:Nat):Option Bool:=(n6 K n 100).bind fun c=>(ma K n ({ rQ with Width:=c }:aR) 301).bind fun b=>(g6 K n 10).bind fun d=>(g6 K n 10).bind fun e=>(g6 K n 10).bind fun f=>(g6 K n 10).bind fun g=>(oe K n [({ aS with H:=20,Before:=d,After:=e }:aa),({ aS with H:=20,Before:=f,After:=g }:aa)]).bind fun a=>if (b.Content == 100) then if (b.Margin.a3 == 100) then if (b.Margin.a1 == 101) then if (a.2.1 == 50) then (jO K n a.2.2.1).bind fun h=>if (h == 10) then (jO K n a.2.2.2.1).bind fun i=>if (i == 10) then eo K n (!a.2.2.2.2) else eo K n false else eo K n false else eo K n false else eo K n false else eo K n false else eo K n false
def jZ(K:Kn)(n:Nat)(a:Bool):Option Bool:=some a
def cm(K:Kn)(n:Nat)(a:bx):Option Bool:=if (decide (a.Value≥(-16777216))) then jZ K n (decide (a.Value≤16777216)) else jZ K n false
def gm(K:Kn)(n:Nat)(d:eq)(e a:Int)(c:Int→Option Bool)(b:Bool):Option Bool:=if b then some false else c (ab (a+1))
def iM(K:Kn)(n:Nat)(b:eq)(g a:Int)(f:Int→Option Bool)(c:Bool):Option Bool:=if c then some false else (cm K n ((((List.getD b a.toNat default).Style).Margin).a3)).bind fun d=>if (!d) then gm K n b g a f true else (cm K n ((((List.getD b a.toNat default).Style).Padding).a3)).bind fun e=>gm K n b g a f (!e)
def ji(K:Kn)(n:Nat)(b:eq)(g a:Int)(f:Int→Option Bool)(c:Bool):Option Bool:=if c then some false else (cm K n ((((List.getD b a.toNat default).Style).Margin).a2)).bind fun d=>if (!d) then iM K n b g a f true else (cm K n ((((List.getD b a.toNat default).Style).Padding).a2)).bind fun e=>iM K n b g a f (!e)
def jr(K:Kn)(n:Nat)(b:eq)(g a:Int)(f:Int→Option Bool)(c:Bool):Option Bool:=if c then some false else (cm K n ((((List.getD b a.toNat default).Style).Margin).a1)).bind fun d=>if (!d) then ji K n b g a f true else (cm K n ((((List.getD b a.toNat default).Style).Padding).a1)).bind fun e=>ji K n b g a f (!e)
def bU(K:Kn)(n:Nat)(b:eq)(g a:Int)(f:Int→Option Bool)(c:Bool):Option Bool:=if c then some false else (cm K n ((((List.getD b a.toNat default).Style).Margin).a0)).bind fun d=>if (!d) then jr K n b g a f true else (cm K n ((((List.getD b a.toNat default).Style).Padding).a0)).bind fun e=>jr K n b g a f (!e)
def fd(K:Kn)(n:Nat)(b:eq)(c:Int)(d:Int→Option Bool)(a:Int):Option Bool:=if (decide (a<(b.length:Int))) then bn (br a b.length) (bn (br a b.length) (if (decide ((((List.getD b a.toNat default).Text).size:Int)>60)) then bU K n b c a d true else (cm K n (((List.getD b a.toNat default).Style).Left)).bind fun e=>if (!e) then bU K n b c a d true else (cm K n (((List.getD b a.toNat default).Style).Top)).bind fun f=>if (!f) then bU K n b c a d true else (cm K n (((List.getD b a.toNat default).Style).Width)).bind fun g=>if (!g) then bU K n b c a d true else (cm K n (((List.getD b a.toNat default).Style).Height)).bind fun h=>if (!h) then bU K n b c a d true else (cm K n (((List.getD b a.toNat default).Style).MinWidth)).bind fun i=>if (!i) then bU K n b c a d true else (cm K n (((List.getD b a.toNat default).Style).MaxWidth)).bind fun j=>if (!j) then bU K n b c a d true else (cm K n (((List.getD b a.toNat default).Style).Basis)).bind fun k=>if (!k) then bU K n b c a d true else if (decide ((((List.getD b a.toNat default).Style).LineHeight)<0)) then bU K n b c a d true else if (decide ((((List.getD b a.toNat default).Style).LineHeight)>65536)) then bU K n b c a d true else if (decide ((((List.getD b a.toNat default).Style).FontSize)<0)) then bU K n b c a d true else if (decide ((((List.getD b a.toNat default).Style).FontSize)>65536)) then bU K n b c a d true else if (decide ((((List.getD b a.toNat default).Style).Grow)<0)) then bU K n b c a d true else if (decide ((((List.getD b a.toNat default).Style).Grow)>1048576)) then bU K n b c a d true else if (decide ((((List.getD b a.toNat default).Style).Shrink)<0)) then bU K n b c a d true else bU K n b c a d (decide ((((List.getD b a.toNat default).Style).Shrink)>1048576)))) else some (decide ((b.length:Int)≤c))
def hJ(K:Kn)(n:Nat)(a:eq)(b:Int):Nat→Int→Option Bool
 | 0=>fun _=>none
 | m+1=>fd K n a b (hJ K n a b m)
def lC(K:Kn)(n:Nat)(a:eq)(b:Int):Option Bool:=hJ K n a b n 0
def d9(K:Kn)(n:Nat)(b:eq)(g:Int)(h:Bool)(a:Int)(d:b7)(f:Int→b7→Option (ai×Int))(e:Bool):Option (ai×Int):=if e then if h then (K.fD b a).bind fun c=>bn (fits (d.length+([c.1]:b7).length) 520) (f c.2 (d++[c.1])) else bn (br a b.length) (bn (br a b.length) (bn (fits (d.length+([({ cX with Kind:=3,Style:=(List.getD b a.toNat default).Style,Text:=(List.getD b a.toNat default).Text }:ai)]:b7).length) 520) (f (ab (a+1)) (d++[({ cX with Kind:=3,Style:=(List.getD b a.toNat default).Style,Text:=(List.getD b a.toNat default).Text }:ai)])))) else some ((⟨1,(ab (10+g)),(List.getD b g.toNat default).Style,⟨#[]⟩,0,0,d⟩:ai),a)
def jj(K:Kn)(n:Nat)(a:eq)(c:Int)(e:Bool)(d:Int→b7→Option (ai×Int))(b:Int)(f:b7):Option (ai×Int):=if (decide (b<(a.length:Int))) then bn (br b a.length) (d9 K n a c e b f d (decide (((List.getD a b.toNat default).Depth)>((List.getD a c.toNat default).Depth)))) else d9 K n a c e b f d false
def dG(K:Kn)(n:Nat)(a:eq)(b:Int)(c:Bool):Nat→Int→b7→Option (ai×Int)
 | 0=>fun _ _=>none
 | m+1=>jj K n a b c (dG K n a b c m)
def fW(K:Kn)(n:Nat)(b:eq)(a:Int)(c:Bool):Option (ai×Int):=dG K n b a c n (ab (a+1)) []
def dU(K:Kn)(n:Nat)(a:eq)(b:Int):Option (ai×Int):=bn (br b a.length) (bn (br b a.length) (if (decide ((ab (b+1))<(a.length:Int))) then bn (br (ab (b+1)) a.length) (if (decide (((List.getD a ((ab (b+1))).toNat default).Depth)>((List.getD a b.toNat default).Depth))) then bn (br (ab (b+1)) a.length) (fW K n a b ((Int.tmod ((List.getD a ((ab (b+1))).toNat default).Kind) 2) == 0)) else fW K n a b false) else fW K n a b false))
def ef(K:Kn)(n:Nat)(a:Int):Option Int:=some (min (max a 0) 1048576)
def fv(K:Kn)(n:Nat)(a:Int):Option Int:=some (min (max a (-1048576)) 1048576)
def cn(K:Kn)(n:Nat)(a:bx)(b:Int):Option (Int×Bool):=if (a.Kind == 1) then (fv K n a.Value).bind fun c=>some (c,true) else if (a.Kind == 2) then (ef K n b).bind fun d=>(fv K n (ab (Int.tdiv (ab (d*(min (max a.Value (-1000000)) 1000000))) 10000))).bind fun e=>some (e,true) else some (0,false)
def jK(K:Kn)(n:Nat)(a:Int):Option Int:=some a
def iz(K:Kn)(n:Nat)(c:aR)(d a:Int):Option Int:=(cn K n c.MinWidth d).bind fun b=>if b.2=true then jK K n (max a b.1) else jK K n a
def kh(K:Kn)(n:Nat)(a:aR)(b c:Int):Option Int:=(cn K n a.MaxWidth b).bind fun d=>if d.2=true then iz K n a b (min (max c 0) (max d.1 0)) else iz K n a b (max c 0)
def im(K:Kn)(n:Nat)(a:aR)(b i:Int):Option az:=(cn K n a.Margin.a0 b).bind fun j=>(cn K n a.Padding.a0 b).bind fun k=>(ef K n a.Border.a0).bind fun l=>(cn K n a.Margin.a1 b).bind fun m=>(cn K n a.Padding.a1 b).bind fun o=>(ef K n a.Border.a1).bind fun p=>(cn K n a.Margin.a2 b).bind fun c=>(cn K n a.Padding.a2 b).bind fun d=>(ef K n a.Border.a2).bind fun e=>(cn K n a.Margin.a3 b).bind fun f=>(cn K n a.Padding.a3 b).bind fun g=>(ef K n a.Border.a3).bind fun h=>some (⟨⟨j.1,m.1,c.1,f.1⟩,⟨l,p,e,h⟩,⟨(max k.1 0),(max o.1 0),(max d.1 0),(max g.1 0)⟩,i⟩:az)
def kf(K:Kn)(n:Nat)(a:az):Option Int:=some (ab ((ab ((ab ((ab ((ab ((ab (a.Content+a.Margin.a1))+a.Margin.a3))+a.Border.a1))+a.Border.a3))+a.Padding.a1))+a.Padding.a3))
def fM(K:Kn)(n:Nat)(b:az)(c:Int)(a:V4 Int):Option az:=some ({ b with Margin:=a,Content:=c }:az)
def j2(K:Kn)(n:Nat)(b:Int)(a:az)(d c:Int)(e f:Int×Bool)(g:Bool):Option az:=if g then fM K n a d ⟨a.Margin.a0,(ab ((ab (b-c))-(ab (Int.tdiv (ab (b-c)) 2)))),a.Margin.a2,(ab (Int.tdiv (ab (b-c)) 2))⟩ else if (!e.2) then fM K n a d ⟨a.Margin.a0,a.Margin.a1,a.Margin.a2,(ab (b-c))⟩ else if (!f.2) then fM K n a d ⟨a.Margin.a0,(ab (b-c)),a.Margin.a2,a.Margin.a3⟩ else fM K n a d a.Margin
def gB(K:Kn)(n:Nat)(f:aR)(c:Int)(d:az)(h:Int):Option az:=(kh K n f c h).bind fun e=>(kf K n ({ d with Content:=e }:az)).bind fun g=>(cn K n f.Margin.a3 c).bind fun a=>(cn K n f.Margin.a1 c).bind fun b=>if (decide ((ab (c-g))≤0)) then some ({ d with Content:=e }:az) else if (!a.2) then j2 K n c d e g a b (!b.2) else j2 K n c d e g a b false
def iK(K:Kn)(n:Nat)(b:aR)(e:Int):Option az:=(ef K n e).bind fun a=>(im K n b a 0).bind fun c=>(cn K n b.Width a).bind fun d=>if (!d.2) then (kf K n c).bind fun f=>gB K n b a c (ab (a-f)) else gB K n b a c d.1
def ew(K:Kn)(n:Nat)(a b:ag):Option ag:=some (⟨(max a.Pos b.Pos),(min a.Neg b.Neg)⟩:ag)
def ju(K:Kn)(n:Nat)(a:Int):Option ag:=some (⟨(max a 0),(min a 0)⟩:ag)
def fS(K:Kn)(n:Nat)(a:ag):Option Int:=some (ab (a.Pos+a.Neg))
def jz(K:Kn)(n:Nat)(h:bY)(a:Int)(b:bY)(c:Int)(i:Int→Int→ag→Bool→ag→bY→Option bm)(d:Int)(e:ag)(f:Bool)(g:ag):Option bm:=bn (fits (b.length+([({ (List.getD h a.toNat default)with Y:=c }:aa)]:bY).length) 584) (i (ab (a+1)) d e f g (b++[({ (List.getD h a.toNat default)with Y:=c }:aa)]))
def jN(K:Kn)(n:Nat)(c:bY)(a g:Int)(h:Bool)(d:bY)(i:ag)(b:Int)(f:Int→Int→ag→Bool→ag→bY→Option bm)(e:ag):Option bm:=jz K n c a d b f (ab (b+((List.getD c a.toNat default).H))) e false ((List.getD c a.toNat default).After)
def jP(K:Kn)(n:Nat)(h:bY)(a d:Int)(g:ag)(b:Bool)(e:bY)(c:ag)(i:Int→Int→ag→Bool→ag→bY→Option bm)(f:Int):Option bm:=if (!(List.getD h a.toNat default).Empty) then if b then jN K n h a d b e c f i c else jN K n h a d b e c f i g else jz K n h a e f i d g b c
def iY(K:Kn)(n:Nat)(a:Int)(b:Bool)(c:ag)(d:bY)(e:ag):Option bm:=some (⟨d,a,e,c,b⟩:bm)
def k5(K:Kn)(n:Nat)(h:bY)(j:Int→Int→ag→Bool→ag→bY→Option bm)(b c:Int)(f:ag)(a:Bool)(d:ag)(e:bY):Option bm:=if (decide (b<(h.length:Int))) then bn (br b h.length) ((ew K n d ((List.getD h b.toNat default).Before)).bind fun g=>if (!a) then (fS K n g).bind fun i=>jP K n h b c f a e g j (ab (c+i)) else jP K n h b c f a e g j 0) else if a then iY K n c a d e d else iY K n c a d e f
def hI(K:Kn)(n:Nat)(a:bY):Nat→Int→Int→ag→Bool→ag→bY→Option bm
 | 0=>fun _ _ _ _ _ _=>none
 | m+1=>k5 K n a (hI K n a m)
def jh(K:Kn)(n:Nat)(a:bY):Option bm:=hI K n a n 0 0 b8 true b8 []
def jo(K:Kn)(n:Nat)(a:aa)(b:Int×Bool)(c:Int):Option aa:=some ({ a with X:=(ab (a.X+b.1)),Y:=c }:aa)
def gY(K:Kn)(n:Nat)(a:aa)(c:Int):Option aa:=if (a.Style.Position != 1) then some a else (cn K n a.Style.Left c).bind fun b=>if (a.Style.Top.Kind == 1) then (cn K n a.Style.Top 0).bind fun d=>jo K n a b (ab (a.Y+d.1)) else jo K n a b a.Y
def iQ(K:Kn)(n:Nat)(e:b7)(f:aR)(g a:Int)(d:Int→Int→bY→Option (bY×Int))(b:Int)(c:bY):Option (bY×Int):=d b (ab (a+1)) c
def la(K:Kn)(n:Nat)(d:b7)(e:aR)(f:Int)(h:Int→Int→bY→Option (bY×Int))(b a:Int)(c:bY):Option (bY×Int):=if (decide (a<(d.length:Int))) then bn (br a d.length) ((some (!(((List.getD d a.toNat default).Text).toList == (⟨#[]⟩:ByteArray).toList))).bind fun g=>if g then bn (br a d.length) (bn (fits (c.length+([({ aS with Kind:=2,Y:=b,W:=f,H:=e.LineHeight,Text:=(List.getD d a.toNat default).Text }:aa)]:bY).length) 584) (iQ K n d e f a h (ab (b+e.LineHeight)) (c++[({ aS with Kind:=2,Y:=b,W:=f,H:=e.LineHeight,Text:=(List.getD d a.toNat default).Text }:aa)]))) else iQ K n d e f a h b c) else some (c,b)
def iE(K:Kn)(n:Nat)(a:b7)(b:aR)(c:Int):Nat→Int→Int→bY→Option (bY×Int)
 | 0=>fun _ _ _=>none
 | m+1=>la K n a b c (iE K n a b c m)
def lQ(K:Kn)(n:Nat)(a:b7)(b:aR)(c:Int):Option (bY×Int):=iE K n a b c n 0 0 []
def jg(K:Kn)(n:Nat)(a:Bool):Option Bool:=some a
def jB(K:Kn)(n:Nat)(a:ai):Option Bool:=if (a.Kind == 3) then jg K n true else jg K n (a.Style.Position != 2)
def ib(K:Kn)(n:Nat)(d:ai)(c:Int)(b:Int→b7→Option b7)(a:b7):Option b7:=b (ab (c+1)) a
def lT(K:Kn)(n:Nat)(a:ai)(e:Int→b7→Option b7)(b:Int)(c:b7):Option b7:=if (decide (b<(a.Kids.length:Int))) then bn (br b a.Kids.length) ((jB K n (List.getD a.Kids b.toNat default)).bind fun d=>if d then bn (br b a.Kids.length) (bn (fits (c.length+([(List.getD a.Kids b.toNat default)]:b7).length) 520) (ib K n a b e (c++[(List.getD a.Kids b.toNat default)]))) else ib K n a b e c) else some c
def jJ(K:Kn)(n:Nat)(a:ai):Nat→Int→b7→Option b7
 | 0=>fun _ _=>none
 | m+1=>lT K n a (jJ K n a m)
def iy(K:Kn)(n:Nat)(a:ai):Option b7:=jJ K n a n 0 []
def lN(K:Kn)(n:Nat)(b:b7)(c:Int→Option Bool)(a:Int):Option Bool:=if (decide (a<(b.length:Int))) then bn (br a b.length) ((some (((List.getD b a.toNat default).Kind) == 1)).bind fun d=>if d then some true else c (ab (a+1))) else some false
def jc(K:Kn)(n:Nat)(a:b7):Nat→Int→Option Bool
 | 0=>fun _=>none
 | m+1=>lN K n a (jc K n a m)
def j7(K:Kn)(n:Nat)(a:ai):Option Bool:=(iy K n a).bind fun b=>jc K n b n 0
def i8(K:Kn)(n:Nat)(a:bx):Option (Int×Bool):=if (a.Kind != 1) then some (0,false) else (fv K n a.Value).bind fun b=>some ((max b 0),true)
def iU(K:Kn)(n:Nat)(p:ai)(q:az)(r:Int)(s:Bool)(f:Int)(g h:ag)(i:Bool)(j:bY)(k:Int)(l m:ag)(o:Bool)(c d:Int)(a:bY)(e:Int→Int→bY→Option aa)(b:aa):Option aa:=bn (fits (a.length+([b]:bY).length) 584) (e (ab (c+1)) d (a++[b]))
def lf(K:Kn)(n:Nat)(q:ai)(c:az)(r:Int)(s:Bool)(j:Int)(k l:ag)(m:Bool)(a:bY)(d:Int)(e f:ag)(g:Bool)(u:Int→Int→bY→Option aa)(b h:Int)(i:bY):Option aa:=if (decide (b<(a.length:Int))) then bn (br b a.length) ((some (ab (((List.getD a b.toNat default).X)+(ab (c.Border.a3+c.Padding.a3))))).bind fun o=>(some (ab (((List.getD a b.toNat default).Y)+(ab ((ab (c.Border.a0+c.Padding.a0))+d))))).bind fun p=>if s then (gY K n ({ (List.getD a b.toNat default)with X:=o,Y:=p }:aa) c.Content).bind fun t=>iU K n q c r s j k l m a d e f g b h i u t else iU K n q c r s j k l m a d e f g b h i u ({ (List.getD a b.toNat default)with X:=o,Y:=p }:aa)) else some (⟨1,q.Node,c.Margin.a3,0,r,h,0,⟨#[]⟩,q.Style,e,f,g,i⟩:aa)
def j6(K:Kn)(n:Nat)(j:ai)(k:az)(l:Int)(o:Bool)(a:Int)(b c:ag)(d:Bool)(e:bY)(f:Int)(g h:ag)(i:Bool):Nat→Int→Int→bY→Option aa
 | 0=>fun _ _ _=>none
 | m+1=>lf K n j k l o a b c d e f g h i (j6 K n j k l o a b c d e f g h i m)
def gF(K:Kn)(n:Nat)(l:ai)(a:az)(m:Int)(o:Bool)(b:Int)(c d:ag)(e:Bool)(f:bY)(g:Int)(h i:ag)(j:Bool)(k:Int):Option aa:=j6 K n l a m o b c d e f g h i j n 0 (ab ((ab ((ab ((ab (k+a.Border.a0))+a.Border.a2))+a.Padding.a0))+a.Padding.a2)) []
def ed(K:Kn)(n:Nat)(l:ai)(m:az)(o:Int)(p:Bool)(a:Int)(b c:ag)(d:Bool)(e:bY)(f:Int×Bool)(g k:Int)(h i:ag)(j:Bool):Option aa:=if f.2=true then gF K n l m o p a b c d e g h i j f.1 else gF K n l m o p a b c d e g h i j (max k 0)
def jm(K:Kn)(n:Nat)(k:ai)(l:az)(m:Int)(o:Bool)(c:Int)(a d:ag)(e:Bool)(f:bY)(g:Int×Bool)(p q:Bool)(h:ag)(b:Int)(i:ag)(r:Bool):Option aa:=if r then (ew K n i h).bind fun j=>ed K n k l m o c a d e f g b 0 j j true else if q then (ew K n h a).bind fun s=>ed K n k l m o c a d e f g b 0 i s false else if (!p) then ed K n k l m o c a d e f g b b i h false else ed K n k l m o c a d e f g b 0 i h false
def j9(K:Kn)(n:Nat)(l:ai)(m:az)(o:Int)(p:Bool)(a:Int)(e b:ag)(d:Bool)(f:bY)(g:Int×Bool)(j k:Bool)(h:ag)(c:Int)(i:ag)(q:Bool):Option aa:=if q then (ew K n h b).bind fun r=>ed K n l m o p a e b d f g c (ab (c+a)) i r false else if (!d) then (fS K n b).bind fun s=>ed K n l m o p a e b d f g c (ab ((ab (c+a))+s)) i h false else if j then jm K n l m o p a e b d f g j k h c i k else jm K n l m o p a e b d f g j k h c i false
def gX(K:Kn)(n:Nat)(l:ai)(m:az)(o:Int)(p:Bool)(c:Int)(d e:ag)(a:Bool)(f:bY)(g:Int×Bool)(h b:Bool)(i:ag)(j:Int)(k:ag):Option aa:=if (!a) then j9 K n l m o p c d e a f g h b i j k b else j9 K n l m o p c d e a f g h b i j k false
def iS(K:Kn)(n:Nat)(m:ai)(o:az)(p:Int)(q:Bool)(b:Int)(a c:ag)(d:Bool)(e:bY)(f:Int×Bool)(g h:Bool)(i j:ag)(k:Bool):Option aa:=if k then (fS K n a).bind fun l=>gX K n m o p q b a c d e f g h j l i else gX K n m o p q b a c d e f g h j 0 i
def eU(K:Kn)(n:Nat)(l:ai)(k:az)(o:Int)(p:Bool)(e:Int)(a f:ag)(b:Bool)(g:bY)(h:Int×Bool)(c d:Bool):Option aa:=(ju K n k.Margin.a0).bind fun i=>(ju K n k.Margin.a2).bind fun j=>if c then (ew K n i a).bind fun m=>gX K n l k o p e a f b g h c d j 0 m else if (!b) then iS K n l k o p e a f b g h c d i j true else iS K n l k o p e a f b g h c d i j (!d)
def ii(K:Kn)(n:Nat)(i:ai)(h:az)(k:Int)(l:Bool)(b:Int)(c d:ag)(e:Bool)(f:bY)(a:Int×Bool)(j g:Bool):Option aa:=if j then if ((ab (h.Border.a2+h.Padding.a2)) == 0) then eU K n i h k l b c d e f a g (!a.2) else eU K n i h k l b c d e f a g false else eU K n i h k l b c d e f a g false
def jW(K:Kn)(n:Nat)(i:ai)(h:az)(j:Int)(k:Bool)(b:Int)(c d:ag)(e:Bool)(f:bY)(g:Int×Bool)(a:Bool):Option aa:=if a then ii K n i h j k b c d e f g a ((ab (h.Border.a0+h.Padding.a0)) == 0) else ii K n i h j k b c d e f g a false
def eN(K:Kn)(n:Nat)(g:ai)(h:az)(k:Bool)(i:Int)(j:Bool)(a:Int)(b c:ag)(d:Bool)(e:bY):Option aa:=(i8 K n g.Style.Height).bind fun f=>if k then jW K n g h i j a b c d e f (g.Style.Overflow == 0) else jW K n g h i j a b c d e f false
def k6(K:Kn)(n:Nat)(h:ai)(f:az)(i:Bool)(j:Int)(k:Bool)(e:b7)(g:Int→bY→Option aa)(d:Int)(b:bY):Option aa:=if (decide (d<(e.length:Int))) then bn (br d e.length) ((K.de (List.getD e d.toNat default) f.Content).bind fun c=>bn (fits (b.length+([c]:bY).length) 584) (g (ab (d+1)) (b++[c]))) else (jh K n b).bind fun a=>eN K n h f i j k a.Height a.Before a.After a.Through a.List
def go(K:Kn)(n:Nat)(a:ai)(b:az)(c:Bool)(d:Int)(e:Bool)(f:b7):Nat→Int→bY→Option aa
 | 0=>fun _ _=>none
 | m+1=>k6 K n a b c d e f (go K n a b c d e f m)
def jY(K:Kn)(n:Nat)(c:ai)(a:az)(e:Bool):Option aa:=(some (ab ((ab ((ab ((ab (a.Content+a.Border.a1))+a.Border.a3))+a.Padding.a1))+a.Padding.a3))).bind fun f=>(j7 K n c).bind fun d=>(iy K n c).bind fun g=>if d then go K n c a e f d g n 0 [] else (lQ K n g c.Style a.Content).bind fun b=>eN K n c a e f d b.2 b8 b8 ((b.1.length:Int) == 0) b.1
def fR(K:Kn)(n:Nat)(a:ai)(b:Int):Option aa:=(iK K n a.Style b).bind fun c=>(jY K n a c true).bind fun d=>some d
def ir(K:Kn)(n:Nat)(a:aa)(b:Int×Bool)(c:Int):Option aa:=some ({ a with X:=(ab (a.X+b.1)),Y:=c }:aa)
def iq(K:Kn)(n:Nat)(a:aa)(c:Int):Option aa:=if (a.Style.Position != 1) then some a else (cp K n a.Style.Left c).bind fun b=>if (a.Style.Top.Kind == 1) then (cp K n a.Style.Top 0).bind fun d=>ir K n a b (ab (a.Y+d.1)) else ir K n a b a.Y
def lx(K:Kn)(n:Nat)(b c:aa)(d:Int→Option Bool)(a:Int):Option Bool:=if (decide (a<(b.Kids.length:Int))) then bn (br a b.Kids.length) (bn (br a c.Kids.length) ((K.i7 (List.getD b.Kids a.toNat default) (List.getD c.Kids a.toNat default)).bind fun e=>if (!e) then some false else d (ab (a+1)))) else some true
def il(K:Kn)(n:Nat)(a b:aa):Nat→Int→Option Bool
 | 0=>fun _=>none
 | m+1=>lx K n a b (il K n a b m)
def cK(K:Kn)(n:Nat)(a b:aa)(c:Bool):Option Bool:=if c then some false else il K n a b n 0
def fw(K:Kn)(n:Nat)(a b:aa):Option Bool:=if (a.Kind != b.Kind) then cK K n a b true else if (a.Node != b.Node) then cK K n a b true else if (a.X != b.X) then cK K n a b true else if (a.Y != b.Y) then cK K n a b true else if (a.W != b.W) then cK K n a b true else if (a.H != b.H) then cK K n a b true else if (a.aC != b.aC) then cK K n a b true else if (!(a.Text.toList == b.Text.toList)) then cK K n a b true else if (!(ge a.Style b.Style)) then cK K n a b true else if (!(ff a.Before b.Before)) then cK K n a b true else if (!(ff a.After b.After)) then cK K n a b true else if (!(a.Empty == b.Empty)) then cK K n a b true else cK K n a b ((a.Kids.length:Int) != (b.Kids.length:Int))
def lE(K:Kn)(n:Nat)(b c:bY)(e:Nat)(d:Int→Option Bool)(a:Int):Option Bool:=if (decide (a<(b.length:Int))) then bn (br a b.length) (bn (br a c.length) ((K.gS e (List.getD b a.toNat default) (List.getD c a.toNat default)).bind fun f=>if (!f) then some false else d (ab (a+1)))) else some true
def ix(K:Kn)(n:Nat)(a b:bY)(c:Nat):Nat→Int→Option Bool
 | 0=>fun _=>none
 | m+1=>lE K n a b c (ix K n a b c m)
def f9(K:Kn)(n:Nat)(a b:bY)(c:Nat):Option Bool:=if ((a.length:Int) != (b.length:Int)) then some false else ix K n a b c n 0
def cD(K:Kn)(n:Nat)(a:Bool):Option Bool:=some a
def cu(K:Kn)(n:Nat)(a b:aa):Option Bool:=if (a.Kind == b.Kind) then if (a.Node == b.Node) then if (a.X == b.X) then if (a.Y == b.Y) then if (a.W == b.W) then if (a.H == b.H) then if (a.aC == b.aC) then if (a.Text.toList == b.Text.toList) then if (ge a.Style b.Style) then if (ff a.Before b.Before) then if (ff a.After b.After) then if (a.Empty == b.Empty) then (f9 K n a.Kids b.Kids 40).bind fun c=>cD K n c else cD K n false else cD K n false else cD K n false else cD K n false else cD K n false else cD K n false else cD K n false else cD K n false else cD K n false else cD K n false else cD K n false else cD K n false
def jw(K:Kn)(n:Nat)(a:Bool):Option Bool:=some a
def iT(K:Kn)(n:Nat)(a:ai):Option Bool:=if (a.Kind == 3) then jw K n true else jw K n (a.Style.Position != 2)
def jX(K:Kn)(n:Nat)(a:Bool):Option Bool:=some a
def gZ(K:Kn)(n:Nat)(e:ai×Int)(f b:aa)(a:bY):Option Bool:=(cu K n f ({ b with Kids:=a }:aa)).bind fun c=>if (c == ((a.length:Int) == 0)) then (iT K n e.1).bind fun d=>jX K n (d == (e.1.Style.Position != 2)) else jX K n false
def eB(K:Kn)(n:Nat)(c:ai×Int)(d a:aa)(b:bY):Option Bool:=gZ K n c d a b
def eS(K:Kn)(n:Nat)(f b:Int)(c:ai×Int)(d:aa)(e:Bool):Option Bool:=if e then some false else (fR K n c.1 f).bind fun a=>if (decide ((a.Kids.length:Int)>0)) then bn (((a.Kids.length:Int) != 0)) (bn (br (Int.tmod (ab b) (a.Kids.length:Int)) a.Kids.length) (if ((Int.tmod b 5) == 0) then eB K n c d a (List.set a.Kids ((Int.tmod (ab b) (a.Kids.length:Int))).toNat ({ (List.getD a.Kids ((Int.tmod (ab b) (a.Kids.length:Int))).toNat default)with H:=(ab (((List.getD a.Kids ((Int.tmod (ab b) (a.Kids.length:Int))).toNat default).H)+1)) }:aa)) else if ((Int.tmod b 5) == 1) then bn (fE ((List.getD a.Kids ((Int.tmod (ab b) (a.Kids.length:Int))).toNat default).Text) (⟨#[120]⟩:ByteArray)) (eB K n c d a (List.set a.Kids ((Int.tmod (ab b) (a.Kids.length:Int))).toNat ({ (List.getD a.Kids ((Int.tmod (ab b) (a.Kids.length:Int))).toNat default)with Text:=(((List.getD a.Kids ((Int.tmod (ab b) (a.Kids.length:Int))).toNat default).Text)++(⟨#[120]⟩:ByteArray)) }:aa))) else if ((Int.tmod b 5) == 2) then bn (fE (⟨#[35]⟩:ByteArray) (((List.getD a.Kids ((Int.tmod (ab b) (a.Kids.length:Int))).toNat default).Style).Color)) (eB K n c d a (List.set a.Kids ((Int.tmod (ab b) (a.Kids.length:Int))).toNat ({ (List.getD a.Kids ((Int.tmod (ab b) (a.Kids.length:Int))).toNat default)with Style:=({ ((List.getD a.Kids ((Int.tmod (ab b) (a.Kids.length:Int))).toNat default).Style)with Color:=((⟨#[35]⟩:ByteArray)++(((List.getD a.Kids ((Int.tmod (ab b) (a.Kids.length:Int))).toNat default).Style).Color)) }:aR) }:aa))) else if ((Int.tmod b 5) == 3) then bn (!ZX.p&&fits (((List.getD a.Kids ((Int.tmod (ab b) (a.Kids.length:Int))).toNat default).Kids).length+1) 584) (eB K n c d a (List.set a.Kids ((Int.tmod (ab b) (a.Kids.length:Int))).toNat ({ (List.getD a.Kids ((Int.tmod (ab b) (a.Kids.length:Int))).toNat default)with Kids:=(((List.getD a.Kids ((Int.tmod (ab b) (a.Kids.length:Int))).toNat default).Kids)++[aS]) }:aa))) else eB K n c d a (List.set a.Kids ((Int.tmod (ab b) (a.Kids.length:Int))).toNat ({ (List.getD a.Kids ((Int.tmod (ab b) (a.Kids.length:Int))).toNat default)with Empty:=(!(List.getD a.Kids ((Int.tmod (ab b) (a.Kids.length:Int))).toNat default).Empty) }:aa)))) else gZ K n c d a a.Kids
def jI(K:Kn)(n:Nat)(j:eq)(b e:Int)(k:Bool):Option Bool:=if k then some true else (dU K n j 0).bind fun d=>(fR K n d.1 b).bind fun a=>(iq K n a b).bind fun f=>(gY K n a b).bind fun g=>(fw K n f g).bind fun h=>if (!h) then eS K n b e d a true else (cu K n a a).bind fun i=>if (!i) then eS K n b e d a true else (cu K n a f).bind fun c=>if (a.X == f.X) then eS K n b e d a (!(c == (a.Y == f.Y))) else eS K n b e d a (!(c == false))
def iP(K:Kn)(n:Nat)(a:eq)(b c:Int):Option Bool:=(lB K n ).bind fun d=>if (!d) then some false else (lC K n a 20).bind fun e=>if (!e) then jI K n a b c true else jI K n a b c ((a.length:Int) == 0)
def KN:Nat→Kn
 | 0=>⟨fun _ _=>none,fun _ _=>none,fun _ _=>none,fun _ _ _=>none⟩
 | n+1=>⟨fun a b=>dU (KN n) n a b, fun a b=>fR (KN n) n a b, fun a b=>fw (KN n) n a b, fun f a b=>if Nat.beq f 40=true then cu (KN n) n a b else none⟩
end
end Go.Proofs.Ytkciiamllegclaa

/- The runs of the functions that RelayoutDrops reaches do what their plain forms say, part 3. Made by a program. -/
import Derived.Test.YtocgkfoifehcbaaGreatRdP2
namespace Go.Proofs.YtocgkfoifehcbaaGreat
open Go.RowKit
set_option maxRecDepth 20000
set_option linter.all false
noncomputable section
variable[GS](M:Nat→Prop)(j:aB)(r:d7×ck)(z:d6)(v2:bz)(A:ck)(v4:eb)(a:Int)(g:ck)(f:d7)(i:Bool)(d:Int)(w:Bool)(q:Int)(t:ck)(u:az)(l x:Nat)(o:Int→ck→d7→Option (d7×ck))(y:Int→Option (d7×ck))
abbrev Ah:Cx:=⟨bb,120,M,j⟩
abbrev AD:=bodyPost bb Tryz.f112 (bI M j (fun v s=>v=.sl (lm aW r.1)∧cq s.o [(1,[.ref 9])]∧look 9 s.r=some (bk r.2)))
abbrev Ac(a:dt)(s:AS):=VE (Ah M j) (AD M j r) a .normal s
abbrev fJ(n:Nat):aq:=.c (cat Tryz.f112 (pn n))
abbrev H4:dt:=[.b 0,fJ 31]
abbrev lJ:dt:=kl (Ah M j) (AD M j r) H4 (cat Tryz.f112 (pn 244)) l::H4
abbrev Kp:dt:=.b 3::fJ 4009823 :: .b 2::fJ 31327 :: .b 1::lJ M j r l
abbrev Ui:dt:=kl (Ah M j) (AD M j r) (Kp M j r l) (cat Tryz.f112 (pn 16039288)) x::(Kp M j r l)
def ab8:AS:=⟨[(1,.fno 113 [.cptr (bL v2),.ptr 1 0]),(5,.sl (lm av v4)),(6,.ref 117),(8,.ptr 8 0),(9,.bool i),(10,.ptr 10 0),(11,iI q)],[(1,[.ref 9]),(8,av (gD v4 a)),(10,aW u)],[(9,(bk t)),(117,(b6 f))],[1,8,10,9,117,1000001,1]⟩
def ajs:AS:=⟨[(1,.fno 113 [.cptr (bL v2),.ptr 1 0]),(5,.sl (lm av v4)),(6,.ref 117),(7,iI a),(8,.ptr 8 0),(9,.bool i),(10,.ptr 10 0),(11,iI d),(81,.bool w)],[(1,[.ref 9]),(8,av (gD v4 a)),(10,List.set (aW cR) 61 (.nils))],[(9,(bk g)),(117,(b6 f))],[1,8,10,9,117,1000001,1]⟩
def Pm:AS:=⟨[(1,.fno 113 [.cptr (bL v2),.ptr 1 0]),(5,.sl (lm av v4)),(6,.ref 117),(7,iI a),(8,.ptr 8 0),(9,.bool i),(10,.ptr 10 0),(11,iI d)],[(1,[.ref 9]),(8,av (gD v4 a)),(10,List.set (aW cR) 61 (.nils))],[(9,(bk g)),(117,(b6 f))],[1,8,10,9,117,1000001,1]⟩
def YE:AS:=⟨[(1,.fno 113 [.cptr (bL v2),.ptr 1 0]),(5,.sl (lm av v4)),(6,.ref 117),(7,iI a),(8,.ptr 8 0),(9,.bool i)],[(1,[.ref 9]),(8,av (gD v4 a))],[(9,(bk g)),(117,(b6 f))],[1,8,9,117,1000001,1]⟩
def O6:AS:=⟨[(1,.fno 113 [.cptr (bL v2),.ptr 1 0]),(5,.sl (lm av v4)),(6,.ref 117),(7,iI a)],[(1,[.ref 9])],[(9,(bk g)),(117,(b6 f))],[1,9,117,1000001,1]⟩
abbrev pr:Prop:=∀{a:Int} {g:ck} {f:d7},o a g f=some r→LP (Ah M j) (AD M j r) H4 (cat Tryz.f112 (pn 244)) l (O6 v2 v4 a g f)
abbrev FO:Prop:=∀{d:Int},y d=some r→LP (Ah M j) (AD M j r) (Kp M j r l) (cat Tryz.f112 (pn 16039288)) x (Pm v2 v4 a g f i d)
variable{M j r z v2 A v4 a g f i d w q t u l x o y}{K:Kn}{n:Nat}
theorem HK(m:am K)(e:pr M j r v2 v4 l o)(h:md K n v2 v4 a f i o q t u=some r):Ac M j r (.b 2::fJ 31327 :: .b 1::lJ M j r l) (ab8 v2 v4 a f i q t u):=by
 unfold md at h;refine fN 2 3 2 (bP [1,5,6,8,9,10,11] [1,8,10] [9,117] (bQ 3 (nu 100 [.ptr 8 4,.cptr (aA ((gD v4 a).Box)),.cptr (aA ((gD v4 a).Box)),.cptr (List.drop 1 (aA ((gD v4 a).Box))),iI (((gD v4 a).Box).Node),.ptr 8 4,.cptr (aA ((gD v4 a).Box)),.cptr (aA ((gD v4 a).Box)),.cptr (List.drop 2 (aA ((gD v4 a).Box))),.agg (aH (((gD v4 a).Box).Style)),.bool i,.ptr 10 0,.ptr 10 2,.ptr 10 59]) [] [] [cf bb 120 Tryz.f112 (pn 62654) 12,cf bb 120 Tryz.f112 (pn 62654) 14,cf bb 120 Tryz.f112 (pn 62654) 16] (ay [.v 0 1,.v 0 1,.v 0 1,.v 0 1,.v 0 1,.v 0 2,.v 0 2,.v 0 2,.v 0 2,.v 0 2,.v 0 3,.v 0 1] (aj (cg 0) (ay [.v 1 1] (aj (cg 1) (ay [.v 2 1] (aj (cg 2) bR)))))) ?_));obtain⟨g,b,h⟩:=bU h;obtain⟨k,c,h⟩:=bU h;refine bA (ks':=fJ 125310::fJ 125311 :: .b 1::lJ M j r l) 1 ⟨[(1,.fno 113 [.cptr (bL v2),.ptr 1 0]),(5,.sl (lm av v4)),(6,.ref 117),(10,.ptr 10 0),(11,iI q)],[(1,[.ref 9]),(10,aW ({ u with Node:=g,Style:=k,Glued:=i }:az))],[(9,(bk t)),(117,(b6 f))],[1,10,9,117,1000001,1]⟩ ?_ (by subst c;subst b;kernel_rfl)
 refine ai 3 ?_;obtain⟨d,h⟩:=aF h;exact au (cG 117 117 165 62 aW (rfl) (iR) d) (ac (ag 2 (bn (e h))))
theorem Bo(s:am K)(p:pr M j r v2 v4 l o)(q:FO M j r v2 v4 a g f i l x y)(h:lU K n v2 v4 a g f i d o y w=some r):Ac M j r (fJ 64157153::fJ 32078577::Ui M j r l x) (ajs v2 v4 a g f i d w):=by
 unfold lU at h;obtain⟨b,h⟩|⟨b,h⟩:=ao h
 ·exact ah 81 b (ag 5 (bn (q h)))
 ·refine ah 81 b (bX (ks':=fJ 4009823 :: .b 2::fJ 31327 :: .b 1::lJ M j r l) 5 (ai 3 ?_));obtain⟨c,h⟩:=aF h;refine au (lx av v4 a d 206 (.tmp 84) (some (.tmp 85)) (some (.tmp 86)) 87 (e:=210) (sz:=5) (by kernel_rfl) (by kernel_rfl) (by kernel_rfl) (by kernel_rfl) (by kernel_rfl) (by kernel_rfl) (cQ) (fun k t=>by subst t;kernel_rfl) c) ?_;obtain⟨u,m,h⟩:=bind_some h;exact aP (HU s m) (ac (ag 0 (HK s p h)))
theorem act(v:am K)(m:pr M j r v2 v4 l o)(p:FO M j r v2 v4 a g f i l x y)(h:tm K n v2 v4 a g f i o y d=some r):Ac M j r (fJ 16039288::Ui M j r l x) (Pm v2 v4 a g f i d):=by
 unfold tm at h;refine cb 4 5 3 2 (bP [1,5,6,7,8,9,10,11] [1,8,10] [9,117] ?_);obtain⟨c,h⟩|⟨c,h⟩:=ao h
 ·obtain⟨q,h⟩:=aF h;obtain⟨k,h⟩|⟨k,h⟩:=ao h
  ·obtain⟨u,h⟩:=aF h;obtain⟨s,h⟩|⟨s,h⟩:=ao h
   ·obtain⟨w,h⟩:=aF h;obtain⟨z,h⟩:=aF h;obtain⟨t,A,h⟩:=bind_some h;exact bQ 0 (nu 47 [iI d,.sl (lm av v4),iI (v4.length:Int),.bool (decide (d<(v4.length:Int))),.bool true,.sl (lm av v4),iI d,.cptr (av (gD v4 d)),.cptr (List.drop 0 (av (gD v4 d))),iI ((gD v4 d).Kind),.bool (((gD v4 d).Kind) == 1),.bool (((gD v4 d).Kind) == 1),.bool true,.sl (lm av v4),iI d,.cptr (av (gD v4 d)),.cptr (List.drop 1 (av (gD v4 d))),iI ((gD v4 d).Of),.ptr 8 1,iI ((gD v4 a).Of),.bool (((gD v4 d).Of) == ((gD v4 a).Of)),.bool (((gD v4 d).Of) == ((gD v4 a).Of)),.bool true,.sl (lm av v4),iI d,iI (aa (d-1)),.cptr (av (gD v4 ((aa (d-1))))),.agg (av (gD v4 ((aa (d-1))))),.sl (lm av v4),iI d,.cptr (av (gD v4 d)),.agg (av (gD v4 d)),.bool t,.bool (!t),.bool (!t)]) [] [] [] (ay (vz 2) (bh (bv av v4) (ay [.v 0 1] (aj (cT 0 51 (e:=(decide (d<(v4.length:Int)))) (b:=true) c) (ay (vz 2) (bh (bD av av q (cQ) aT) (ay (vz 4) (aj (cT 0 59 (e:=(((gD v4 d).Kind) == 1)) (b:=true) k) (ay (vz 2) (bh (bD av av u (cQ) aT) (ay (vz 6) (aj (cT 0 69 (e:=(((gD v4 d).Of) == ((gD v4 a).Of))) (b:=true) s) (ay (vz 3) (bh (bD av av w (cQ) aT) (ay (vz 3) (bh (bD av av z (cQ) aT) (ay [.v 0 1] (aj (cv 0 1 79 (uA v A)) (ay (vz 2) bR))))))))))))))))))) (ag 0 (Bo v m p h))
   ·exact bQ 0 (nu 47 [iI d,.sl (lm av v4),iI (v4.length:Int),.bool (decide (d<(v4.length:Int))),.bool true,.sl (lm av v4),iI d,.cptr (av (gD v4 d)),.cptr (List.drop 0 (av (gD v4 d))),iI ((gD v4 d).Kind),.bool (((gD v4 d).Kind) == 1),.bool (((gD v4 d).Kind) == 1),.bool true,.sl (lm av v4),iI d,.cptr (av (gD v4 d)),.cptr (List.drop 1 (av (gD v4 d))),iI ((gD v4 d).Of),.ptr 8 1,iI ((gD v4 a).Of),.bool (((gD v4 d).Of) == ((gD v4 a).Of)),.bool (((gD v4 d).Of) == ((gD v4 a).Of)),.bool false,bf,bf,bf,bf,bf,bf,bf,bf,bf,bf,bf,.bool false]) [] [] [] (ay (vz 2) (bh (bv av v4) (ay [.v 0 1] (aj (cT 0 51 (e:=(decide (d<(v4.length:Int)))) (b:=true) c) (ay (vz 2) (bh (bD av av q (cQ) aT) (ay (vz 4) (aj (cT 0 59 (e:=(((gD v4 d).Kind) == 1)) (b:=true) k) (ay (vz 2) (bh (bD av av u (cQ) aT) (ay (vz 6) (aj (cT 0 69 (e:=(((gD v4 d).Of) == ((gD v4 a).Of))) (b:=false) s) (aj (aC 0 1) (aj (aC 0 1) (aj (aC 0 1) (aj (aC 0 1) (aj (aC 0 1) (aj (aC 0 1) (aj (aC 0 1) (aj (aC 0 1) (aj (aC 0 1) (aj (aC 0 1) (aj (aC 0 1) (ay [.v 0 1] bR)))))))))))))))))))))))) (ag 0 (Bo v m p h))
  ·exact bQ 0 (nu 47 [iI d,.sl (lm av v4),iI (v4.length:Int),.bool (decide (d<(v4.length:Int))),.bool true,.sl (lm av v4),iI d,.cptr (av (gD v4 d)),.cptr (List.drop 0 (av (gD v4 d))),iI ((gD v4 d).Kind),.bool (((gD v4 d).Kind) == 1),.bool (((gD v4 d).Kind) == 1),.bool false,bf,bf,bf,bf,bf,bf,bf,bf,.bool false,.bool false,bf,bf,bf,bf,bf,bf,bf,bf,bf,bf,bf,.bool false]) [] [] [] (ay (vz 2) (bh (bv av v4) (ay [.v 0 1] (aj (cT 0 51 (e:=(decide (d<(v4.length:Int)))) (b:=true) c) (ay (vz 2) (bh (bD av av q (cQ) aT) (ay (vz 4) (aj (cT 0 59 (e:=(((gD v4 d).Kind) == 1)) (b:=false) k) (aj (aC 0 1) (aj (aC 0 1) (aj (aC 0 1) (aj (aC 0 1) (aj (aC 0 1) (aj (aC 0 1) (aj (aC 0 1) (aj (aC 0 1) (ay (vz 2) (aj (aC 0 1) (aj (aC 0 1) (aj (aC 0 1) (aj (aC 0 1) (aj (aC 0 1) (aj (aC 0 1) (aj (aC 0 1) (aj (aC 0 1) (aj (aC 0 1) (aj (aC 0 1) (aj (aC 0 1) (ay [.v 0 1] bR))))))))))))))))))))))))))))) (ag 0 (Bo v m p h))
 ·exact bQ 0 (nu 47 [iI d,.sl (lm av v4),iI (v4.length:Int),.bool (decide (d<(v4.length:Int))),.bool false,bf,bf,bf,bf,bf,bf,.bool false,.bool false,bf,bf,bf,bf,bf,bf,bf,bf,.bool false,.bool false,bf,bf,bf,bf,bf,bf,bf,bf,bf,bf,bf,.bool false]) [] [] [] (ay (vz 2) (bh (bv av v4) (ay [.v 0 1] (aj (cT 0 51 (e:=(decide (d<(v4.length:Int)))) (b:=false) c) (aj (aC 0 1) (aj (aC 0 1) (aj (aC 0 1) (aj (aC 0 1) (aj (aC 0 1) (aj (aC 0 1) (ay (vz 2) (aj (aC 0 1) (aj (aC 0 1) (aj (aC 0 1) (aj (aC 0 1) (aj (aC 0 1) (aj (aC 0 1) (aj (aC 0 1) (aj (aC 0 1) (ay (vz 2) (aj (aC 0 1) (aj (aC 0 1) (aj (aC 0 1) (aj (aC 0 1) (aj (aC 0 1) (aj (aC 0 1) (aj (aC 0 1) (aj (aC 0 1) (aj (aC 0 1) (aj (aC 0 1) (aj (aC 0 1) (ay [.v 0 1] bR)))))))))))))))))))))))))))))))) (ag 0 (Bo v m p h))
theorem aij(c:am K)(b:pr M j r v2 v4 l o)(m:Nat):FO M j r v2 v4 a g f i l m (qq K n v2 v4 a g f i o m):=by
 induction m with
 | zero=>intro d h;cases h
 | succ m e=>intro d h;have h:tm K n v2 v4 a g f i o (qq K n v2 v4 a g f i o m) d=some r:=h;exact bj (act c b e h)
theorem FH(e:am K)(d:pr M j r v2 v4 l o)(h:qw K n v2 v4 a g f o i=some r):Ac M j r (fJ 3915 :: .b 1::lJ M j r l) (YE v2 v4 a g f i):=by
 unfold qw at h;obtain⟨s,k,h⟩:=bU h;refine bA (ks':=fJ 250613 :: .b 2::fJ 31327 :: .b 1::lJ M j r l) 10 ⟨[(1,.fno 113 [.cptr (bL v2),.ptr 1 0]),(5,.sl (lm av v4)),(6,.ref 117),(7,iI a),(8,.ptr 8 0),(9,.bool i),(10,.ptr 10 0),(11,iI (aa (a+1))),(46,iI ((gD v4 a).Kind)),(89,.bool s)],[(1,[.ref 9]),(8,av (gD v4 a)),(10,List.set (aW cR) 61 (.nils))],[(9,(bk g)),(117,(b6 f))],[1,8,10,9,117,1000001,1]⟩ ?_ (by subst k;kernel_rfl);obtain⟨b,h⟩|⟨b,h⟩:=ao h
 ·exact ah 89 b (bX (ks':=.b 2::fJ 31327 :: .b 1::lJ M j r l) 2 (nL 10 (ag 0 (HK e d h))))
 ·refine ah 89 b ?_;obtain⟨t,m,h⟩:=bU h;refine bA (ks':=fJ 1002455 :: .b 2::fJ 31327 :: .b 1::lJ M j r l) 3 ⟨[(1,.fno 113 [.cptr (bL v2),.ptr 1 0]),(5,.sl (lm av v4)),(6,.ref 117),(7,iI a),(8,.ptr 8 0),(9,.bool i),(10,.ptr 10 0),(11,iI (aa (a+1))),(92,.bool t)],[(1,[.ref 9]),(8,av (gD v4 a)),(10,List.set (aW cR) 61 (.nils))],[(9,(bk g)),(117,(b6 f))],[1,8,10,9,117,1000001,1]⟩ ?_ (by subst m;kernel_rfl);obtain⟨c,h⟩|⟨c,h⟩:=ao h
  ·refine ah 92 c (br 2 1 (ai 5 ?_));obtain⟨u,q,h⟩:=bind_some h;exact jw 9 9 [(1,1)] (X7 e q) (ac (ag 0 (HK e d h)))
  ·exact ah 92 c (ag 3 (ca (p:=pn 8019644) n (aij e d n h)))
theorem ag6(q:am K)(k:pr M j r v2 v4 l o)(h:vm K n v2 v4 o a g f=some r):Ac M j r (fJ 244::lJ M j r l) (O6 v2 v4 a g f):=by
 unfold vm at h;refine cb 4 5 3 2 (ai 2 (au (bv av v4) (ac ?_)));obtain⟨d,h⟩|⟨d,h⟩:=ao h
 ·refine ah 17 d (bX (ks':=fJ 1956::fJ 1957 :: .b 1::lJ M j r l) 4 (ai 2 ?_));obtain⟨s,h⟩:=aF h;refine au (bD av av s (cQ) aT) (ac (ax 2 3 1 (bP [1,5,6,7,8] [1,8] [9,117] ?_)));obtain⟨c,h⟩|⟨c,h⟩:=ao h
  ·obtain⟨p,h⟩:=aF h;obtain⟨i,h⟩|⟨i,h⟩:=ao h
   ·obtain⟨t,h⟩:=aF h;obtain⟨m,u,h⟩:=bind_some h;exact bQ 1 (nu 22 [iI a,.bool (decide (a>0)),.bool true,.sl (lm av v4),iI a,iI (aa (a-1)),.cptr (av (gD v4 ((aa (a-1))))),.cptr (List.drop 0 (av (gD v4 ((aa (a-1)))))),iI ((gD v4 ((aa (a-1)))).Kind),.bool (((gD v4 ((aa (a-1)))).Kind) != 2),.bool (((gD v4 ((aa (a-1)))).Kind) != 2),.bool true,.sl (lm av v4),iI a,iI (aa (a-1)),.cptr (av (gD v4 ((aa (a-1))))),.agg (av (gD v4 ((aa (a-1))))),.agg (av (gD v4 a)),.bool m,.bool (!m),.bool (!m)]) [] [] [cf bb 120 Tryz.f112 (pn 3914) 21] (ay (vz 2) (aj (cT 0 24 (e:=(decide (a>0))) (b:=true) c) (ay (vz 3) (bh (bD av av p (cQ) aT) (ay (vz 4) (aj (cT 0 33 (e:=(((gD v4 ((aa (a-1)))).Kind) != 2)) (b:=true) i) (ay (vz 3) (bh (bD av av t (cQ) aT) (ay (vz 2) (aj (cv 0 1 40 (uA q u)) (ay (vz 2) (aj (cg 0) bR)))))))))))) (ag 0 (FH q k h))
   ·exact bQ 1 (nu 22 [iI a,.bool (decide (a>0)),.bool true,.sl (lm av v4),iI a,iI (aa (a-1)),.cptr (av (gD v4 ((aa (a-1))))),.cptr (List.drop 0 (av (gD v4 ((aa (a-1)))))),iI ((gD v4 ((aa (a-1)))).Kind),.bool (((gD v4 ((aa (a-1)))).Kind) != 2),.bool (((gD v4 ((aa (a-1)))).Kind) != 2),.bool false,bf,bf,bf,bf,bf,bf,bf,bf,.bool false]) [] [] [cf bb 120 Tryz.f112 (pn 3914) 21] (ay (vz 2) (aj (cT 0 24 (e:=(decide (a>0))) (b:=true) c) (ay (vz 3) (bh (bD av av p (cQ) aT) (ay (vz 4) (aj (cT 0 33 (e:=(((gD v4 ((aa (a-1)))).Kind) != 2)) (b:=false) i) (aj (aC 0 1) (aj (aC 0 1) (aj (aC 0 1) (aj (aC 0 1) (aj (aC 0 1) (aj (aC 0 1) (aj (aC 0 1) (aj (aC 0 1) (ay [.v 0 1] (aj (cg 0) bR)))))))))))))))) (ag 0 (FH q k h))
  ·exact bQ 1 (nu 22 [iI a,.bool (decide (a>0)),.bool false,bf,bf,bf,bf,bf,bf,bf,.bool false,.bool false,bf,bf,bf,bf,bf,bf,bf,bf,.bool false]) [] [] [cf bb 120 Tryz.f112 (pn 3914) 21] (ay (vz 2) (aj (cT 0 24 (e:=(decide (a>0))) (b:=false) c) (aj (aC 0 1) (aj (aC 0 1) (aj (aC 0 1) (aj (aC 0 1) (aj (aC 0 1) (aj (aC 0 1) (aj (aC 0 1) (ay (vz 2) (aj (aC 0 1) (aj (aC 0 1) (aj (aC 0 1) (aj (aC 0 1) (aj (aC 0 1) (aj (aC 0 1) (aj (aC 0 1) (aj (aC 0 1) (ay [.v 0 1] (aj (cg 0) bR)))))))))))))))))))) (ag 0 (FH q k h))
 ·refine ah 17 d (aJ 8 (iz 117 ?_));cases h;exact ex
theorem ae6(b:am K)(m:Nat):pr M j r v2 v4 m (rR K n v2 v4 m):=by
 induction m with
 | zero=>intro a g f h;cases h
 | succ m c=>intro a g f h;have h:vm K n v2 v4 (rR K n v2 v4 m) a g f=some r:=h;exact bj (ag6 b c h)
theorem aav(a:am K)(h:sq K n z v2 A=some r):iX bb 112 [.sl (lm aL z),.fno 113 [.cptr (bL v2),.ptr 1 0]] [(1,[.ref 9])] 9 (bk A) [9,1,1000001] (fun v s=>v=.sl (lm aW r.1)∧cq s.o [(1,[.ref 9])]∧look 9 s.r=some (bk r.2)):=by
 refine lA (c:=cat Tryz.f112 (pn 1)) am0 (by kernel_rfl) _ amX (lc (by kernel_rfl)) fun M j=>(bg ⟨[(0,.sl (lm aL z)),(1,.fno 113 [.cptr (bL v2),.ptr 1 0])],[(1,[.ref 9])],[(9,(bk A))],[9,1,1000001]⟩ ?_);unfold sq at h;refine ax 6 7 3 (ai 1 ?_);obtain⟨v4,b,h⟩:=bind_some h;exact fg 1013 (KM a b) (ff 400003) (ac (gW 26 0 7 6 (bP [1,5,6,7] [1] [9,1013] (iz 1013 (eW 117 6 165 62 (ag 0 (ca (p:=pn 122) n (ae6 a n h))))))))
end
noncomputable section
variable[GS](M:Nat→Prop)(l:aB)(r:d7×Int×ck)(B:d6)(v2:Int)(C:ck)(v4:eb)(a g:Int)(i:ck)(f:d7)(j:Bool)(d:Int)(y:Bool)(t u:Int)(w:ck)(x:az)(o z:Nat)(q:Int→Int→ck→d7→Option (d7×Int×ck))(A:Int→Option (d7×Int×ck))
abbrev xA:Cx:=⟨bb,120,M,l⟩
abbrev zV:=bodyPost bb Tryz.f112 (bI M l (fun v s=>v=.sl (lm aW r.1)∧cq s.o [(1,[iI r.2.1]),(2,[.ref 9])]∧look 9 s.r=some (bk r.2.2)))
abbrev zq(a:dt)(s:AS):=VE (xA M l) (zV M l r) a .normal s
abbrev fM(n:Nat):aq:=.c (cat Tryz.f112 (pn n))
abbrev HM:dt:=[.b 0,fM 31]
abbrev ln:dt:=kl (xA M l) (zV M l r) HM (cat Tryz.f112 (pn 244)) o::HM
abbrev Gf:dt:=.b 3::fM 4009823 :: .b 2::fM 31327 :: .b 1::ln M l r o
abbrev RA:dt:=kl (xA M l) (zV M l r) (Gf M l r o) (cat Tryz.f112 (pn 16039288)) z::(Gf M l r o)
def YT:AS:=⟨[(1,.fno 114 [.ptr 1 0,.ptr 2 0]),(5,.sl (lm av v4)),(6,.ref 117),(8,.ptr 8 0),(9,.bool j),(10,.ptr 10 0),(11,iI t)],[(1,[iI u]),(2,[.ref 9]),(8,av (gD v4 a)),(10,aW x)],[(9,(bk w)),(117,(b6 f))],[1,2,8,10,9,117,1000001,1,1000002,2]⟩
def XV:AS:=⟨[(1,.fno 114 [.ptr 1 0,.ptr 2 0]),(5,.sl (lm av v4)),(6,.ref 117),(7,iI a),(8,.ptr 8 0),(9,.bool j),(10,.ptr 10 0),(11,iI d),(81,.bool y)],[(1,[iI g]),(2,[.ref 9]),(8,av (gD v4 a)),(10,List.set (aW cR) 61 (.nils))],[(9,(bk i)),(117,(b6 f))],[1,2,8,10,9,117,1000001,1,1000002,2]⟩
def TO:AS:=⟨[(1,.fno 114 [.ptr 1 0,.ptr 2 0]),(5,.sl (lm av v4)),(6,.ref 117),(7,iI a),(8,.ptr 8 0),(9,.bool j),(10,.ptr 10 0),(11,iI d)],[(1,[iI g]),(2,[.ref 9]),(8,av (gD v4 a)),(10,List.set (aW cR) 61 (.nils))],[(9,(bk i)),(117,(b6 f))],[1,2,8,10,9,117,1000001,1,1000002,2]⟩
def ack:AS:=⟨[(1,.fno 114 [.ptr 1 0,.ptr 2 0]),(5,.sl (lm av v4)),(6,.ref 117),(7,iI a),(8,.ptr 8 0),(9,.bool j)],[(1,[iI g]),(2,[.ref 9]),(8,av (gD v4 a))],[(9,(bk i)),(117,(b6 f))],[1,2,8,9,117,1000001,1,1000002,2]⟩
def OX:AS:=⟨[(1,.fno 114 [.ptr 1 0,.ptr 2 0]),(5,.sl (lm av v4)),(6,.ref 117),(7,iI a)],[(1,[iI g]),(2,[.ref 9])],[(9,(bk i)),(117,(b6 f))],[1,2,9,117,1000001,1,1000002,2]⟩
abbrev qb:Prop:=∀{a:Int} {g:Int} {i:ck} {f:d7},q a g i f=some r→LP (xA M l) (zV M l r) HM (cat Tryz.f112 (pn 244)) o (OX v4 a g i f)
abbrev HB:Prop:=∀{d:Int},A d=some r→LP (xA M l) (zV M l r) (Gf M l r o) (cat Tryz.f112 (pn 16039288)) z (TO v4 a g i f j d)
variable{M l r B v2 C v4 a g i f j d y t u w x o z q A}{K:Kn}{n:Nat}
theorem IE(k:am K)(e:qb M l r v4 o q)(h:mh K n v4 a f j q t u w x=some r):zq M l r (.b 2::fM 31327 :: .b 1::ln M l r o) (YT v4 a f j t u w x):=by
 unfold mh at h;refine fN 2 3 2 (bP [1,5,6,8,9,10,11] [1,2,8,10] [9,117] (bQ 3 (nu 100 [.ptr 8 4,.cptr (aA ((gD v4 a).Box)),.cptr (aA ((gD v4 a).Box)),.cptr (List.drop 1 (aA ((gD v4 a).Box))),iI (((gD v4 a).Box).Node),.ptr 8 4,.cptr (aA ((gD v4 a).Box)),.cptr (aA ((gD v4 a).Box)),.cptr (List.drop 2 (aA ((gD v4 a).Box))),.agg (aH (((gD v4 a).Box).Style)),.bool j,.ptr 10 0,.ptr 10 2,.ptr 10 59]) [] [] [cf bb 120 Tryz.f112 (pn 62654) 12,cf bb 120 Tryz.f112 (pn 62654) 14,cf bb 120 Tryz.f112 (pn 62654) 16] (ay [.v 0 1,.v 0 1,.v 0 1,.v 0 1,.v 0 1,.v 0 2,.v 0 2,.v 0 2,.v 0 2,.v 0 2,.v 0 3,.v 0 1] (aj (cg 0) (ay [.v 1 1] (aj (cg 1) (ay [.v 2 1] (aj (cg 2) bR)))))) ?_));obtain⟨g,b,h⟩:=bU h;obtain⟨i,c,h⟩:=bU h;refine bA (ks':=fM 125310::fM 125311 :: .b 1::ln M l r o) 1 ⟨[(1,.fno 114 [.ptr 1 0,.ptr 2 0]),(5,.sl (lm av v4)),(6,.ref 117),(10,.ptr 10 0),(11,iI t)],[(1,[iI u]),(2,[.ref 9]),(10,aW ({ x with Node:=g,Style:=i,Glued:=j }:az))],[(9,(bk w)),(117,(b6 f))],[1,2,10,9,117,1000001,1,1000002,2]⟩ ?_ (by subst c;subst b;kernel_rfl)
 refine ai 3 ?_;obtain⟨d,h⟩:=aF h;exact au (cG 117 117 165 62 aW (rfl) (iR) d) (ac (ag 2 (bn (e h))))
theorem BC(t:am K)(p:qb M l r v4 o q)(s:HB M l r v4 a g i f j o z A)(h:lQ K n v4 a g i f j d q A y=some r):zq M l r (fM 64157153::fM 32078577::RA M l r o z) (XV v4 a g i f j d y):=by
 unfold lQ at h;obtain⟨b,h⟩|⟨b,h⟩:=ao h
 ·exact ah 81 b (ag 5 (bn (s h)))
 ·refine ah 81 b (bX (ks':=fM 4009823 :: .b 2::fM 31327 :: .b 1::ln M l r o) 5 (ai 3 ?_));obtain⟨c,h⟩:=aF h;refine au (lx av v4 a d 206 (.tmp 84) (some (.tmp 85)) (some (.tmp 86)) 87 (e:=210) (sz:=5) (by kernel_rfl) (by kernel_rfl) (by kernel_rfl) (by kernel_rfl) (by kernel_rfl) (by kernel_rfl) (cQ) (fun k u=>by subst u;kernel_rfl) c) ?_;obtain⟨v,m,h⟩:=bind_some h;exact aP (HU t m) (ac (ag 0 (IE t p h)))
theorem aeN(w:am K)(m:qb M l r v4 o q)(p:HB M l r v4 a g i f j o z A)(h:sX K n v4 a g i f j q A d=some r):zq M l r (fM 16039288::RA M l r o z) (TO v4 a g i f j d):=by
 unfold sX at h;refine cb 4 5 3 2 (bP [1,5,6,7,8,9,10,11] [1,2,8,10] [9,117] ?_);obtain⟨c,h⟩|⟨c,h⟩:=ao h
 ·obtain⟨s,h⟩:=aF h;obtain⟨k,h⟩|⟨k,h⟩:=ao h
  ·obtain⟨v,h⟩:=aF h;obtain⟨t,h⟩|⟨t,h⟩:=ao h
   ·obtain⟨x,h⟩:=aF h;obtain⟨y,h⟩:=aF h;obtain⟨u,B,h⟩:=bind_some h;exact bQ 0 (nu 47 [iI d,.sl (lm av v4),iI (v4.length:Int),.bool (decide (d<(v4.length:Int))),.bool true,.sl (lm av v4),iI d,.cptr (av (gD v4 d)),.cptr (List.drop 0 (av (gD v4 d))),iI ((gD v4 d).Kind),.bool (((gD v4 d).Kind) == 1),.bool (((gD v4 d).Kind) == 1),.bool true,.sl (lm av v4),iI d,.cptr (av (gD v4 d)),.cptr (List.drop 1 (av (gD v4 d))),iI ((gD v4 d).Of),.ptr 8 1,iI ((gD v4 a).Of),.bool (((gD v4 d).Of) == ((gD v4 a).Of)),.bool (((gD v4 d).Of) == ((gD v4 a).Of)),.bool true,.sl (lm av v4),iI d,iI (aa (d-1)),.cptr (av (gD v4 ((aa (d-1))))),.agg (av (gD v4 ((aa (d-1))))),.sl (lm av v4),iI d,.cptr (av (gD v4 d)),.agg (av (gD v4 d)),.bool u,.bool (!u),.bool (!u)]) [] [] [] (ay (vz 2) (bh (bv av v4) (ay [.v 0 1] (aj (cT 0 51 (e:=(decide (d<(v4.length:Int)))) (b:=true) c) (ay (vz 2) (bh (bD av av s (cQ) aT) (ay (vz 4) (aj (cT 0 59 (e:=(((gD v4 d).Kind) == 1)) (b:=true) k) (ay (vz 2) (bh (bD av av v (cQ) aT) (ay (vz 6) (aj (cT 0 69 (e:=(((gD v4 d).Of) == ((gD v4 a).Of))) (b:=true) t) (ay (vz 3) (bh (bD av av x (cQ) aT) (ay (vz 3) (bh (bD av av y (cQ) aT) (ay [.v 0 1] (aj (cv 0 1 79 (uA w B)) (ay (vz 2) bR))))))))))))))))))) (ag 0 (BC w m p h))
   ·exact bQ 0 (nu 47 [iI d,.sl (lm av v4),iI (v4.length:Int),.bool (decide (d<(v4.length:Int))),.bool true,.sl (lm av v4),iI d,.cptr (av (gD v4 d)),.cptr (List.drop 0 (av (gD v4 d))),iI ((gD v4 d).Kind),.bool (((gD v4 d).Kind) == 1),.bool (((gD v4 d).Kind) == 1),.bool true,.sl (lm av v4),iI d,.cptr (av (gD v4 d)),.cptr (List.drop 1 (av (gD v4 d))),iI ((gD v4 d).Of),.ptr 8 1,iI ((gD v4 a).Of),.bool (((gD v4 d).Of) == ((gD v4 a).Of)),.bool (((gD v4 d).Of) == ((gD v4 a).Of)),.bool false,bf,bf,bf,bf,bf,bf,bf,bf,bf,bf,bf,.bool false]) [] [] [] (ay (vz 2) (bh (bv av v4) (ay [.v 0 1] (aj (cT 0 51 (e:=(decide (d<(v4.length:Int)))) (b:=true) c) (ay (vz 2) (bh (bD av av s (cQ) aT) (ay (vz 4) (aj (cT 0 59 (e:=(((gD v4 d).Kind) == 1)) (b:=true) k) (ay (vz 2) (bh (bD av av v (cQ) aT) (ay (vz 6) (aj (cT 0 69 (e:=(((gD v4 d).Of) == ((gD v4 a).Of))) (b:=false) t) (aj (aC 0 1) (aj (aC 0 1) (aj (aC 0 1) (aj (aC 0 1) (aj (aC 0 1) (aj (aC 0 1) (aj (aC 0 1) (aj (aC 0 1) (aj (aC 0 1) (aj (aC 0 1) (aj (aC 0 1) (ay [.v 0 1] bR)))))))))))))))))))))))) (ag 0 (BC w m p h))
  ·exact bQ 0 (nu 47 [iI d,.sl (lm av v4),iI (v4.length:Int),.bool (decide (d<(v4.length:Int))),.bool true,.sl (lm av v4),iI d,.cptr (av (gD v4 d)),.cptr (List.drop 0 (av (gD v4 d))),iI ((gD v4 d).Kind),.bool (((gD v4 d).Kind) == 1),.bool (((gD v4 d).Kind) == 1),.bool false,bf,bf,bf,bf,bf,bf,bf,bf,.bool false,.bool false,bf,bf,bf,bf,bf,bf,bf,bf,bf,bf,bf,.bool false]) [] [] [] (ay (vz 2) (bh (bv av v4) (ay [.v 0 1] (aj (cT 0 51 (e:=(decide (d<(v4.length:Int)))) (b:=true) c) (ay (vz 2) (bh (bD av av s (cQ) aT) (ay (vz 4) (aj (cT 0 59 (e:=(((gD v4 d).Kind) == 1)) (b:=false) k) (aj (aC 0 1) (aj (aC 0 1) (aj (aC 0 1) (aj (aC 0 1) (aj (aC 0 1) (aj (aC 0 1) (aj (aC 0 1) (aj (aC 0 1) (ay (vz 2) (aj (aC 0 1) (aj (aC 0 1) (aj (aC 0 1) (aj (aC 0 1) (aj (aC 0 1) (aj (aC 0 1) (aj (aC 0 1) (aj (aC 0 1) (aj (aC 0 1) (aj (aC 0 1) (aj (aC 0 1) (ay [.v 0 1] bR))))))))))))))))))))))))))))) (ag 0 (BC w m p h))
 ·exact bQ 0 (nu 47 [iI d,.sl (lm av v4),iI (v4.length:Int),.bool (decide (d<(v4.length:Int))),.bool false,bf,bf,bf,bf,bf,bf,.bool false,.bool false,bf,bf,bf,bf,bf,bf,bf,bf,.bool false,.bool false,bf,bf,bf,bf,bf,bf,bf,bf,bf,bf,bf,.bool false]) [] [] [] (ay (vz 2) (bh (bv av v4) (ay [.v 0 1] (aj (cT 0 51 (e:=(decide (d<(v4.length:Int)))) (b:=false) c) (aj (aC 0 1) (aj (aC 0 1) (aj (aC 0 1) (aj (aC 0 1) (aj (aC 0 1) (aj (aC 0 1) (ay (vz 2) (aj (aC 0 1) (aj (aC 0 1) (aj (aC 0 1) (aj (aC 0 1) (aj (aC 0 1) (aj (aC 0 1) (aj (aC 0 1) (aj (aC 0 1) (ay (vz 2) (aj (aC 0 1) (aj (aC 0 1) (aj (aC 0 1) (aj (aC 0 1) (aj (aC 0 1) (aj (aC 0 1) (aj (aC 0 1) (aj (aC 0 1) (aj (aC 0 1) (aj (aC 0 1) (aj (aC 0 1) (ay [.v 0 1] bR)))))))))))))))))))))))))))))))) (ag 0 (BC w m p h))
theorem aao(c:am K)(b:qb M l r v4 o q)(m:Nat):HB M l r v4 a g i f j o m (rH K n v4 a g i f j q m):=by
 induction m with
 | zero=>intro d h;cases h
 | succ m e=>intro d h;have h:sX K n v4 a g i f j q (rH K n v4 a g i f j q m) d=some r:=h;exact bj (aeN c b e h)
theorem FG(e:am K)(d:qb M l r v4 o q)(h:pU K n v4 a g i f q j=some r):zq M l r (fM 3915 :: .b 1::ln M l r o) (ack v4 a g i f j):=by
 unfold pU at h;obtain⟨t,k,h⟩:=bU h;refine bA (ks':=fM 250613 :: .b 2::fM 31327 :: .b 1::ln M l r o) 10 ⟨[(1,.fno 114 [.ptr 1 0,.ptr 2 0]),(5,.sl (lm av v4)),(6,.ref 117),(7,iI a),(8,.ptr 8 0),(9,.bool j),(10,.ptr 10 0),(11,iI (aa (a+1))),(46,iI ((gD v4 a).Kind)),(89,.bool t)],[(1,[iI g]),(2,[.ref 9]),(8,av (gD v4 a)),(10,List.set (aW cR) 61 (.nils))],[(9,(bk i)),(117,(b6 f))],[1,2,8,10,9,117,1000001,1,1000002,2]⟩ ?_ (by subst k;kernel_rfl);obtain⟨b,h⟩|⟨b,h⟩:=ao h
 ·exact ah 89 b (bX (ks':=.b 2::fM 31327 :: .b 1::ln M l r o) 2 (nL 10 (ag 0 (IE e d h))))
 ·refine ah 89 b ?_;obtain⟨u,m,h⟩:=bU h;refine bA (ks':=fM 1002455 :: .b 2::fM 31327 :: .b 1::ln M l r o) 3 ⟨[(1,.fno 114 [.ptr 1 0,.ptr 2 0]),(5,.sl (lm av v4)),(6,.ref 117),(7,iI a),(8,.ptr 8 0),(9,.bool j),(10,.ptr 10 0),(11,iI (aa (a+1))),(92,.bool u)],[(1,[iI g]),(2,[.ref 9]),(8,av (gD v4 a)),(10,List.set (aW cR) 61 (.nils))],[(9,(bk i)),(117,(b6 f))],[1,2,8,10,9,117,1000001,1,1000002,2]⟩ ?_ (by subst m;kernel_rfl);obtain⟨c,h⟩|⟨c,h⟩:=ao h
  ·refine ah 92 c (br 2 1 (ai 5 ?_));obtain⟨v,s,h⟩:=bind_some h;exact jw 9 9 [(1,1),(2,2)] (Yd e s) (ac (ag 0 (IE e d h)))
  ·exact ah 92 c (ag 3 (ca (p:=pn 8019644) n (aao e d n h)))
theorem aem(s:am K)(k:qb M l r v4 o q)(h:uR K n v4 q a g i f=some r):zq M l r (fM 244::ln M l r o) (OX v4 a g i f):=by
 unfold uR at h;refine cb 4 5 3 2 (ai 2 (au (bv av v4) (ac ?_)));obtain⟨d,h⟩|⟨d,h⟩:=ao h
 ·refine ah 17 d (bX (ks':=fM 1956::fM 1957 :: .b 1::ln M l r o) 4 (ai 2 ?_));obtain⟨t,h⟩:=aF h;refine au (bD av av t (cQ) aT) (ac (ax 2 3 1 (bP [1,5,6,7,8] [1,2,8] [9,117] ?_)));obtain⟨c,h⟩|⟨c,h⟩:=ao h
  ·obtain⟨p,h⟩:=aF h;obtain⟨j,h⟩|⟨j,h⟩:=ao h
   ·obtain⟨u,h⟩:=aF h;obtain⟨m,v,h⟩:=bind_some h;exact bQ 1 (nu 22 [iI a,.bool (decide (a>0)),.bool true,.sl (lm av v4),iI a,iI (aa (a-1)),.cptr (av (gD v4 ((aa (a-1))))),.cptr (List.drop 0 (av (gD v4 ((aa (a-1)))))),iI ((gD v4 ((aa (a-1)))).Kind),.bool (((gD v4 ((aa (a-1)))).Kind) != 2),.bool (((gD v4 ((aa (a-1)))).Kind) != 2),.bool true,.sl (lm av v4),iI a,iI (aa (a-1)),.cptr (av (gD v4 ((aa (a-1))))),.agg (av (gD v4 ((aa (a-1))))),.agg (av (gD v4 a)),.bool m,.bool (!m),.bool (!m)]) [] [] [cf bb 120 Tryz.f112 (pn 3914) 21] (ay (vz 2) (aj (cT 0 24 (e:=(decide (a>0))) (b:=true) c) (ay (vz 3) (bh (bD av av p (cQ) aT) (ay (vz 4) (aj (cT 0 33 (e:=(((gD v4 ((aa (a-1)))).Kind) != 2)) (b:=true) j) (ay (vz 3) (bh (bD av av u (cQ) aT) (ay (vz 2) (aj (cv 0 1 40 (uA s v)) (ay (vz 2) (aj (cg 0) bR)))))))))))) (ag 0 (FG s k h))
   ·exact bQ 1 (nu 22 [iI a,.bool (decide (a>0)),.bool true,.sl (lm av v4),iI a,iI (aa (a-1)),.cptr (av (gD v4 ((aa (a-1))))),.cptr (List.drop 0 (av (gD v4 ((aa (a-1)))))),iI ((gD v4 ((aa (a-1)))).Kind),.bool (((gD v4 ((aa (a-1)))).Kind) != 2),.bool (((gD v4 ((aa (a-1)))).Kind) != 2),.bool false,bf,bf,bf,bf,bf,bf,bf,bf,.bool false]) [] [] [cf bb 120 Tryz.f112 (pn 3914) 21] (ay (vz 2) (aj (cT 0 24 (e:=(decide (a>0))) (b:=true) c) (ay (vz 3) (bh (bD av av p (cQ) aT) (ay (vz 4) (aj (cT 0 33 (e:=(((gD v4 ((aa (a-1)))).Kind) != 2)) (b:=false) j) (aj (aC 0 1) (aj (aC 0 1) (aj (aC 0 1) (aj (aC 0 1) (aj (aC 0 1) (aj (aC 0 1) (aj (aC 0 1) (aj (aC 0 1) (ay [.v 0 1] (aj (cg 0) bR)))))))))))))))) (ag 0 (FG s k h))
  ·exact bQ 1 (nu 22 [iI a,.bool (decide (a>0)),.bool false,bf,bf,bf,bf,bf,bf,bf,.bool false,.bool false,bf,bf,bf,bf,bf,bf,bf,bf,.bool false]) [] [] [cf bb 120 Tryz.f112 (pn 3914) 21] (ay (vz 2) (aj (cT 0 24 (e:=(decide (a>0))) (b:=false) c) (aj (aC 0 1) (aj (aC 0 1) (aj (aC 0 1) (aj (aC 0 1) (aj (aC 0 1) (aj (aC 0 1) (aj (aC 0 1) (ay (vz 2) (aj (aC 0 1) (aj (aC 0 1) (aj (aC 0 1) (aj (aC 0 1) (aj (aC 0 1) (aj (aC 0 1) (aj (aC 0 1) (aj (aC 0 1) (ay [.v 0 1] (aj (cg 0) bR)))))))))))))))))))) (ag 0 (FG s k h))
 ·refine ah 17 d (aJ 8 (iz 117 ?_));cases h;exact ex
theorem W5(b:am K)(m:Nat):qb M l r v4 m (pQ K n v4 m):=by
 induction m with
 | zero=>intro a g i f h;cases h
 | succ m c=>intro a g i f h;have h:uR K n v4 (pQ K n v4 m) a g i f=some r:=h;exact bj (aem b c h)
theorem ai2(a:am K)(h:sc K n B v2 C=some r):iX bb 112 [.sl (lm aL B),.fno 114 [.ptr 1 0,.ptr 2 0]] [(1,[iI v2]),(2,[.ref 9])] 9 (bk C) [9,1,2,1000001,1000002] (fun v s=>v=.sl (lm aW r.1)∧cq s.o [(1,[iI r.2.1]),(2,[.ref 9])]∧look 9 s.r=some (bk r.2.2)):=by
 refine lA (c:=cat Tryz.f112 (pn 1)) am0 (by kernel_rfl) _ amX (lc (by kernel_rfl)) fun M l=>(bg ⟨[(0,.sl (lm aL B)),(1,.fno 114 [.ptr 1 0,.ptr 2 0])],[(1,[iI v2]),(2,[.ref 9])],[(9,(bk C))],[9,1,2,1000001,1000002]⟩ ?_);unfold sc at h;refine ax 6 7 3 (ai 1 ?_);obtain⟨v4,b,h⟩:=bind_some h;exact fg 1013 (KM a b) (ff 400003) (ac (gW 26 0 7 6 (bP [1,5,6,7] [1,2] [9,1013] (iz 1013 (eW 117 6 165 62 (ag 0 (ca (p:=pn 122) n (W5 a n h))))))))
end
noncomputable section
variable[GS](M:Nat→Prop)(c:aB)(r:Int×Int)(A:d6)(v2:aN)(z:bz)(v4:d7×ck)(v5:d7×Int×ck)(d g l o b a f:Int)(q:Bool)(t:Int)(u i w:Nat)(x j:Int→Int→Option eq)(y:Int→Option eq)
abbrev rS:Cx:=⟨bb,74,M,c⟩
abbrev rr:=bodyPost bb Tryz.f55 (bI M c (fun v _=>v=.tup [iI r.1,iI r.2]))
abbrev vo(a:dt)(s:AS):=VE (rS M c) (rr M c r) a .normal s
abbrev kt(n:Nat):aq:=.c (cat Tryz.f55 (pn n))
abbrev EK:dt:=[.b 2,kt 255]
abbrev Kt:dt:=kl (rS M c) (rr M c r) EK (cat Tryz.f55 (pn 2036)) i::EK
abbrev KK:dt:=[.b 0,kt 127]
abbrev GC:dt:=kl (rS M c) (rr M c r) KK (cat Tryz.f55 (pn 1012)) u::KK
abbrev Jk:dt:=.b 4::kt 32587 :: .b 3::Kt M c r i
abbrev Pi:dt:=kl (rS M c) (rr M c r) (Jk M c r i) (cat Tryz.f55 (pn 130344)) w::(Jk M c r i)
def aeT:AS:=⟨[(6,iI o),(7,iI 0),(9,.sl (lm aW v4.1)),(11,.sl (lm aW v5.1)),(13,iI l)],[],[],[]⟩
def Wb:AS:=⟨[(6,iI d),(7,iI t),(11,.sl (lm aW v5.1)),(16,iI f)],[],[],[]⟩
def WH:AS:=⟨[(6,iI d),(7,iI b),(11,.sl (lm aW v5.1)),(15,iI a),(16,iI f),(59,.bool q)],[],[],[]⟩
def Nt:AS:=⟨[(6,iI d),(7,iI b),(11,.sl (lm aW v5.1)),(15,iI a),(16,iI f)],[],[],[]⟩
def MN:AS:=⟨[(6,iI d),(7,iI b),(11,.sl (lm aW v5.1)),(15,iI a)],[],[],[]⟩
def ME:AS:=⟨[(6,iI d),(7,iI 0),(9,.sl (lm aW v4.1)),(11,.sl (lm aW v5.1)),(12,iI g)],[],[],[]⟩
abbrev KS:Prop:=∀{d:Int} {g:Int},x d g=some r→LP (rS M c) (rr M c r) KK (cat Tryz.f55 (pn 1012)) u (ME v4 v5 d g)
abbrev uk:Prop:=∀{b:Int} {a:Int},j b a=some r→LP (rS M c) (rr M c r) EK (cat Tryz.f55 (pn 2036)) i (MN v5 d b a)
abbrev Jc:Prop:=∀{f:Int},y f=some r→LP (rS M c) (rr M c r) (Jk M c r i) (cat Tryz.f55 (pn 130344)) w (Nt v5 d b a f)
variable{M c r A v2 z v4 v5 d g l o b a f q t u i w x j y}{K:Kn}{n:Nat}
theorem VR(b:am K)(a:KS M c r v4 v5 u x)(h:xd K n v4 v5 l x o=some r):vo M c r (kt 16203 :: .b 1::GC M c r u) (aeT v4 v5 l o):=by
 unfold xd at h;exact ag 2 (bn (a h))
theorem Um(b:am K)(a:uk M c r v5 d i j)(h:xY K n v5 d f j t=some r):vo M c r (kt 65175 :: .b 3::Kt M c r i) (Wb v5 d f t):=by
 unfold xY at h;exact ag 2 (bn (a h))
theorem Tb(s:am K)(m:uk M c r v5 d i j)(t:Jc M c r v5 d b a i w y)(h:pH K n v5 d b a f j y q=some r):vo M c r (kt 521377::kt 260689::Pi M c r i w) (WH v5 d b a f q):=by
 unfold pH at h;obtain⟨g,h⟩|⟨g,h⟩:=ao h
 ·exact ah 59 g (ag 5 (bn (t h)))
 ·refine ah 59 g (sv 4 5 3 7 (ai 3 ?_));obtain⟨o,h⟩:=aF h;refine au (lx aW v5.1 a f 159 (.tmp 62) (some (.tmp 63)) (some (.tmp 64)) 65 (e:=165) (sz:=62) (by kernel_rfl) (by kernel_rfl) (by kernel_rfl) (by kernel_rfl) (by kernel_rfl) (by kernel_rfl) (iR) (fun k u=>by subst u;kernel_rfl) o) ?_;obtain⟨v,p,h⟩:=bind_some h;refine aP (C8 s p) (ac (br 3 2 ?_));obtain⟨l,h⟩|⟨l,h⟩:=ao h
  ·exact ah 69 l (ag 2 (Um s m h))
  ·exact ah 69 l (ag 2 (Um s m h))
theorem WG(m:am K)(g:uk M c r v5 d i j)(k:Jc M c r v5 d b a i w y)(h:uv K n v5 d b a j y f=some r):vo M c r (kt 130344::Pi M c r i w) (Nt v5 d b a f):=by
 unfold uv at h;refine cb 4 5 3 2 (ai 2 (au (bv aW v5.1) (aQ 5 2 ?_)));obtain⟨e,h⟩|⟨e,h⟩:=ao h
 ·refine aD 51 e (aQ 8 3 ?_);obtain⟨l,h⟩:=aF h;exact au (bD aW aW l (iR) aT) (ac (ag 0 (Tb m g k h)))
 ·exact aD 51 e (ac (ag 0 (Tb m g k h)))
theorem ae4(g:am K)(e:uk M c r v5 d i j)(m:Nat):Jc M c r v5 d b a i m (vi K n v5 d b a j m):=by
 induction m with
 | zero=>intro f h;cases h
 | succ m k=>intro f h;have h:uv K n v5 d b a j (vi K n v5 d b a j m) f=some r:=h;exact bj (WG g e k h)
theorem agZ(g:am K)(f:uk M c r v5 d i j)(h:wD K n v5 d j b a=some r):vo M c r (kt 2036::Kt M c r i) (MN v5 d b a):=by
 unfold wD at h;refine cb 4 5 3 2 (ai 2 (au (bv aW v5.1) (ac ?_)));obtain⟨e,h⟩|⟨e,h⟩:=ao h
 ·exact ah 44 e (ag 7 (ca (p:=pn 65172) n (ae4 g f n h)))
 ·refine ah 44 e (aJ 8 ?_);cases h;exact jm
theorem Wy(e:am K)(m:Nat):uk M c r v5 d m (uG K n v5 d m):=by
 induction m with
 | zero=>intro b a h;cases h
 | succ m f=>intro b a h;have h:wD K n v5 d (uG K n v5 d m) b a=some r:=h;exact bj (agZ e f h)
theorem WN(b:am K)(f:KS M c r v4 v5 u x)(h:uz K n v4 v5 x d g=some r):vo M c r (kt 1012::GC M c r u) (ME v4 v5 d g):=by
 unfold uz at h;refine cb 4 5 3 2 (ai 2 (au (bv aW v4.1) (ac ?_)));obtain⟨m,h⟩|⟨m,h⟩:=ao h
 ·refine ah 27 m (bX (ks':=kt 8100::kt 8101 :: .b 1::GC M c r u) 4 (ai 2 ?_));obtain⟨l,o,h⟩:=bind_some h;refine aP (GD b o) (ac (cb 4 5 3 2 (ai 3 ?_)));obtain⟨i,h⟩:=aF h;refine au (lx aW v4.1 g l 159 (.tmp 31) (some (.tmp 32)) (some (.tmp 33)) 34 (e:=165) (sz:=62) (by kernel_rfl) (by kernel_rfl) (by kernel_rfl) (by kernel_rfl) (by kernel_rfl) (by kernel_rfl) (iR) (fun k q=>by subst q;kernel_rfl) i) ?_;obtain⟨s,j,h⟩:=bind_some h;refine aP (C8 b j) (ac (br 3 2 ?_));obtain⟨a,h⟩|⟨a,h⟩:=ao h
  ·exact ah 38 a (ag 2 (VR b f h))
  ·exact ah 38 a (ag 2 (VR b f h))
 ·exact ah 27 m (ag 9 (ca (p:=pn 1018) n (Wy b n h)))
theorem ahU(a:am K)(m:Nat):KS M c r v4 v5 m (vb K n v4 v5 m):=by
 induction m with
 | zero=>intro d g h;cases h
 | succ m b=>intro d g h;have h:uz K n v4 v5 (vb K n v4 v5 m) d g=some r:=h;exact bj (WN a b h)
theorem YZ(a:am K)(h:yV K n A v2 z=some r):aY bb 55 [.sl (lm aL A),.agg (aH v2),.agg (bL z)] (fun v _=>v=.tup [iI r.1,iI r.2]):=by
 refine bG (cat Tryz.f55 (pn 1)) Tryz.func55 Tryz.ntmps55 fun M c=>(bg ⟨[(0,.sl (lm aL A)),(1,.agg (aH v2)),(2,.agg (bL z))],[],[],[]⟩ ?_);unfold yV at h;refine ax 14 15 5 (ai 1 (ld 5 5 (bL z) (pM 113 #[(.tmp 5),(.tmp 8)] [.cptr (bL z),.ptr 8 0] (D5 400008 8 0 3 1 ?_))));obtain⟨v4,b,h⟩:=bind_some h;refine jw 400008 9 [(8,1)] (aav a b) (ac (ax 6 7 3 (ai 1 (pM 114 #[(.tmp 10),(.tmp 8)] [.ptr 10 0,.ptr 8 0] ?_))));obtain⟨v5,d,h⟩:=bind_some h;exact jw 400008 9 [(10,1),(8,2)] (ai2 a d) (ac (ag 4 (ca (p:=pn 506) n (ahU a n h))))
end
noncomputable section
variable[GS](M:Nat→Prop)(c:aB)(r:Int×Int)(a:d6)(v2:aN)(b:bz)  
variable{M c r a v2 b}{K:Kn}{n:Nat}
theorem ahJ(e:am K)(h:z8 K n a v2 b=some r):aY bb 54 [.sl (lm aL a),.agg (aH v2),.cptr (bL b)] (fun v _=>v=.tup [iI r.1,iI r.2]):=by
 refine bG (cat Tryz.f54 (pn 1)) Tryz.func54 Tryz.ntmps54 fun M c=>(bg ⟨[(0,.sl (lm aL a)),(1,.agg (aH v2)),(2,.cptr (bL b))],[],[],[]⟩ ?_);unfold z8 at h;refine ax 6 7 3 (ai 3 ?_);obtain⟨v4,d,h⟩:=bind_some h;refine aP (YZ e d) (ac (aJ 1 ?_));cases h;exact jm
end
noncomputable section
variable[GS](M:Nat→Prop)(b:aB)(r:bz)(a v2:Bool)  
variable{M b r a v2}{K:Kn}{n:Nat}
theorem Vf(a v2:Bool):∀d:Nat,nM [(2,[eE 36 a]),(3,[eE 37 v2]),(4,[.fno 43 [.ptr 2 0,.ptr 5 0,.ptr 3 0],.fno 48 [.ptr 5 0],.fno 52 [.ptr 5 0],.fno 54 [.ptr 5 0]]),(5,[.fno 43 [.ptr 2 0,.ptr 5 0,.ptr 3 0],.fno 48 [.ptr 5 0],.fno 52 [.ptr 5 0],.fno 54 [.ptr 5 0]])] 5 [.fno 43 [.ptr 2 0,.ptr 5 0,.ptr 3 0],.fno 48 [.ptr 5 0],.fno 52 [.ptr 5 0],.fno 54 [.ptr 5 0]] d=bL (db d a v2)
 | 0=>rfl
 | d+1=>by
   show lm (stepT [(2,[eE 36 a]),(3,[eE 37 v2]),(4,[.fno 43 [.ptr 2 0,.ptr 5 0,.ptr 3 0],.fno 48 [.ptr 5 0],.fno 52 [.ptr 5 0],.fno 54 [.ptr 5 0]]),(5,[.fno 43 [.ptr 2 0,.ptr 5 0,.ptr 3 0],.fno 48 [.ptr 5 0],.fno 52 [.ptr 5 0],.fno 54 [.ptr 5 0]])] 5 (nM [(2,[eE 36 a]),(3,[eE 37 v2]),(4,[.fno 43 [.ptr 2 0,.ptr 5 0,.ptr 3 0],.fno 48 [.ptr 5 0],.fno 52 [.ptr 5 0],.fno 54 [.ptr 5 0]]),(5,[.fno 43 [.ptr 2 0,.ptr 5 0,.ptr 3 0],.fno 48 [.ptr 5 0],.fno 52 [.ptr 5 0],.fno 54 [.ptr 5 0]])] 5 [.fno 43 [.ptr 2 0,.ptr 5 0,.ptr 3 0],.fno 48 [.ptr 5 0],.fno 52 [.ptr 5 0],.fno 54 [.ptr 5 0]] d)) [.fno 43 [.ptr 2 0,.ptr 5 0,.ptr 3 0],.fno 48 [.ptr 5 0],.fno 52 [.ptr 5 0],.fno 54 [.ptr 5 0]]=_;rw[Vf a v2 d];rfl
theorem Xx(c:am K)(h:CN K n a v2=some r):aY bb 18 [eE 36 a,eE 37 v2] (fun v _=>v=.agg (bL r)):=by
 refine bG (cat Tryz.f18 (pn 1)) Tryz.func18 Tryz.ntmps18 fun M b=>(bg ⟨[(0,eE 36 a),(1,eE 37 v2)],[],[],[]⟩ ?_);unfold CN at h;refine ax 14 15 5 (ai 0 (pM 43 #[(.tmp 2),(.tmp 5),(.tmp 3)] [.ptr 2 0,.ptr 5 0,.ptr 3 0] (ac (ax 2 3 1 (ai 0 (pM 48 #[(.tmp 5)] [.ptr 5 0] (ac (ax 2 3 1 (ai 0 (pM 52 #[(.tmp 5)] [.ptr 5 0] (ac (ax 2 3 1 (ai 0 (pM 54 #[(.tmp 5)] [.ptr 5 0] (ac (aJ 3 (bP [4] [2,3,4,5] [] (bg ⟨[(4,.ptr 4 0)],[(2,[eE 36 a]),(3,[eE 37 v2]),(4,[.fno 43 [.ptr 2 0,.ptr 5 0,.ptr 3 0],.fno 48 [.ptr 5 0],.fno 52 [.ptr 5 0],.fno 54 [.ptr 5 0]]),(5,[.fno 43 [.ptr 2 0,.ptr 5 0,.ptr 3 0],.fno 48 [.ptr 5 0],.fno 52 [.ptr 5 0],.fno 54 [.ptr 5 0]])],[],[2,3,4,5]⟩ (aeb 4 4 5 n (aju (s':=⟨[(4,.ptr 4 0)],[(4,bL (db n a v2))],[],[4]⟩) (amI (fun t=>(⟨[(4,.ptr 4 0)],[(4,t)],[],[4]⟩:AS)) (Vf a v2 n)) ?_))))))))))))))))))));cases h;exact bw
end
noncomputable section
variable[GS](M:Nat→Prop)(b:aB)(r:Bool)(a v2:ab)  
variable{M b r a v2}{K:Kn}{n:Nat}
theorem ahZ(d:am K)(h:ze K n a v2=some r):aY bb 65 [.agg (aA a),.cptr (aA v2)] (fun v _=>v=.bool r):=by
 refine bG (cat Tryz.f65 (pn 1)) Tryz.func65 Tryz.ntmps65 fun M b=>(bg ⟨[(0,.agg (aA a)),(1,.cptr (aA v2))],[],[],[]⟩ ?_);unfold ze at h;refine ax 6 7 3 (ai 2 ?_);obtain⟨e,c,h⟩:=bind_some h;refine aP (d.BN c) (ac (aJ 1 ?_));cases h;exact bw
end
noncomputable section
variable[GS](M:Nat→Prop)(a:aB)(r:Bool)(b v2:ab)(v5:Bool)  
abbrev acq(n:Nat):aq:=.c (cat Tryz.f28 (pn n))
abbrev abi:Cx:=⟨bb,14,M,a⟩
abbrev q28:=bodyPost bb Tryz.f28 (bI M a (fun v _=>v=.bool r))
abbrev adR(b:dt)(s:AS):=VE (abi M a) (q28 M a r) b .normal s
def ajZ:AS:=⟨[(4,.bool v5)],[],[],[]⟩
variable{M a r b v2 v5}{K:Kn}{n:Nat}
theorem Se(b:am K)(h:yw K n v5=some r):adR M a r [acq 7] (ajZ v5):=by
 unfold yw at h;refine aJ 1 ?_;cases h;exact bw
theorem R3(c:am K)(h:pA K n b v2=some r):aY bb 28 [.agg (aA b),.agg (aA v2)] (fun v _=>v=.bool r):=by
 refine bG (cat Tryz.f28 (pn 1)) Tryz.func28 Tryz.ntmps28 fun M a=>(bg ⟨[(0,.agg (aA b)),(1,.agg (aA v2))],[],[],[]⟩ ?_);unfold pA at h;refine ax 6 7 3 (ai 2 ?_);obtain⟨g,e,h⟩:=bind_some h;refine aP (Ci c e) (aQ 4 1 ?_);obtain⟨d,h⟩|⟨d,h⟩:=ao h
 ·exact aD 8 d (ac (ag 0 (Se c h)))
 ·refine aD 8 d (aQ 6 2 (ld 3 3 (aA v2) (nO 65 #[(.tmp 3)] [.cptr (aA v2)] ?_)));obtain⟨v4,f,h⟩:=bind_some h;exact aP (Jw c f) (ac (ag 0 (Se c h)))
end
noncomputable section
variable[GS](M:Nat→Prop)(a:aB)(r b:ae)(v2:dn)(v4:Int)(v5:dn)(c:Nat)(d:Int→dn→Option ae)
abbrev Fu:Cx:=⟨bb,26,M,a⟩
abbrev Fc:=bodyPost bb Tryz.f73 (bI M a (fun v s=>v=.agg (List.set (aG ({ r with Kids:=[] }:ae)) 66 (.ref 1006))∧look 1006 s.r=some (bx r.Kids)))
abbrev ajb(b:dt)(s:AS):=VE (Fu M a) (Fc M a r) b .normal s
abbrev SA(n:Nat):aq:=.c (cat Tryz.f73 (pn n))
abbrev JW:dt:=[.b 0,SA 15]
abbrev aku:dt:=kl (Fu M a) (Fc M a r) JW (cat Tryz.f73 (pn 116)) c::JW
def R8:AS:=⟨[(1,.ptr 1 0),(2,.ptr 2 0),(10,iI (v2.length:Int)),(11,iI v4)],[(1,List.set (aG ({ b with Kids:=[] }:ae)) 66 (.ref 1006)),(2,List.set (aG bT) 66 (.nils))],[(1006,(bx v5))],[1,2,1006]⟩
abbrev NA:Prop:=∀{v4:Int} {v5:dn},d v4 v5=some r→LP (Fu M a) (Fc M a r) JW (cat Tryz.f73 (pn 116)) c (R8 b v2 v4 v5)
variable{M a r b v2 v4 v5 c d}{K:Kn}{n:Nat}
theorem aaG(k:am K)(g:NA M a r b v2 c d)(h:xg K n b v2 d v4 v5=some r):ajb M a r (SA 116::aku M a r c) (R8 b v2 v4 v5):=by
 unfold xg at h;refine ax 6 7 3 ?_;obtain⟨e,h⟩|⟨e,h⟩:=ao h
 ·refine ah 12 e (FS 9 1 3 6 (bP [1,2,3,10,11] [1,2] [1006] ?_));obtain⟨i,h⟩:=aF h;obtain⟨v6,j,h⟩:=bind_some h;obtain⟨f,h⟩:=aF h;exact bQ 1 (nu 14 [.ptr 1 66,.ref 1006,iI v4,.ptr 1 66,.ref 1006,iI v4,.eptr 1006 67 (v4.toNat) 0,.agg (aG (gD v5 v4)),.agg (aG v6),.eptr 1006 67 (v4.toNat) 0]) [] [] [d8 1006 ⟨44,67,lm aM (List.set v5 v4.toNat v6)⟩] (ay (vz 6) (bh (cN 1006 67 aM (L:=v5) i) (bh (bJ 44 0 aM aG (bF f).2 (dH)) (aj (cv 0 1 22 (k.yP j)) (bh (cN 1006 67 aM (L:=v5) f) (aj (dp (m:=0) (dD 1006 44 67 0 aM aG v6 (bF f).2 (dH))) bR)))))) (ag 2 (bn (g h)))
 ·refine ah 12 e (aJ 8 ?_);cases h;exact fG
theorem Xh(c:am K)(m:Nat):NA M a r b v2 m (uC K n b v2 m):=by
 induction m with
 | zero=>intro v4 v5 h;cases h
 | succ m d=>intro v4 v5 h;have h:xg K n b v2 (uC K n b v2 m) v4 v5=some r:=h;exact bj (aaG c d h)
theorem Pe(c:am K)(h:tn K n b=some r):aY bb 73 [.agg (aG b)] (fun v s=>v=.agg (List.set (aG ({ r with Kids:=[] }:ae)) 66 (.ref 1006))∧look 1006 s.r=some (bx r.Kids)):=by
 refine bG (cat Tryz.f73 (pn 1)) Tryz.func73 Tryz.ntmps73 fun M a=>(bg ⟨[(0,.agg (aG b))],[],[],[]⟩ ?_);unfold tn at h;refine ax 6 7 3 (ai 2 ?_);obtain⟨v2,d,h⟩:=bind_some h;exact fg 1006 (I6 c d) (ff 5) (ac (cb 4 5 3 2 (ai 2 (au (bv aM v2) (ac (ag 1 (ca (p:=pn 58) n (Xh c n h))))))))
end
noncomputable section
variable[GS](M:Nat→Prop)(b:aB)(r a:ck)  
variable{M b r a}{K:Kn}{n:Nat}
theorem Z3(f:am K)(h:zE K n a=some r):aY bb 95 [.sl (lm (ak .i64) a)] (fun v s=>v=.ref 5∧look 5 s.r=some (bk r)):=by
 refine bG (cat Tryz.f95 (pn 1)) Tryz.func95 Tryz.ntmps95 fun M b=>(bg ⟨[(0,.sl (lm (ak .i64) a))],[],[],[]⟩ ?_);unfold zE at h;refine cb 12 13 7 4 (ai 1 ?_);refine VV (aS Tryz.f95 (pn 12) 1) (.eql) 72 72 (.tmp 3) (.const (.slice none 0 0)) 4 (lm (ak .i64) a) (r:=aU Tryz.f95 (pn 12) 2) (e:=3) (by kernel_rfl) (by kernel_rfl) (by kernel_rfl) (by kernel_rfl) (by kernel_rfl) (by kernel_rfl) (by kernel_rfl) (by kernel_rfl) (fun d=>?_) ?_
 ·have h:=Vs (by simpa using d) h;refine ac (aJ 5 (eW 5 2 3 1 ?_));cases h;exact fG
 ·have h:=Ms h;refine ac (fN 2 3 3 (ai 0 (Kg 72 5 (e:=3) (sz:=1) (aQ 2 1 ?_))));obtain⟨c,h⟩:=aF h;refine au (cG 7 5 3 1 (ak .i64) (rfl) aT c) (ac (aJ 1 ?_));cases h;exact fG
end
noncomputable section
variable[GS](M:Nat→Prop)(c:aB)(r:Unit)(b:ib)(v2:ab)(f:ck)(v4:Bool)(v6:ck)(a:Int)(d:Bool)(e:Nat)(g:Int→Option Unit)
abbrev Hv:Cx:=⟨bb,53,M,c⟩
abbrev GI:=bodyPost bb Tryz.f76 (bI M c (fun v _=>v=n6 r))
abbrev DG(a:dt)(s:AS):=VE (Hv M c) (GI M c r) a .normal s
abbrev mQ(n:Nat):aq:=.c (cat Tryz.f76 (pn n))
abbrev EW:dt:=[.b 0]
abbrev Ig:dt:=kl (Hv M c) (GI M c r) EW (cat Tryz.f76 (pn 60)) e::EW
def acl:AS:=⟨[(2,.sl (lm (ak .i64) v6)),(3,.ptr 3 0),(7,.ptr 7 0),(24,.sl (lm aL v2.Kids)),(25,iI (v2.Kids.length:Int)),(26,iI a),(43,.bool d)],[(3,pm b),(7,aA (gD v2.Kids a))],[],[3,7]⟩
def R9:AS:=⟨[(2,.sl (lm (ak .i64) v6)),(3,.ptr 3 0),(24,.sl (lm aL v2.Kids)),(25,iI (v2.Kids.length:Int)),(26,iI a)],[(3,pm b)],[],[3]⟩
def XP:AS:=⟨[(2,.sl (lm (ak .i64) v6)),(3,.ptr 3 0),(4,.ptr 4 0)],[(3,pm b),(4,aA v2)],[],[3,4]⟩
def abI:AS:=⟨[(2,.sl (lm (ak .i64) f)),(3,.ptr 3 0),(4,.ptr 4 0),(16,.bool v4)],[(3,pm b),(4,aA v2)],[],[3,4]⟩
abbrev I0:Prop:=∀{a:Int},g a=some r→LP (Hv M c) (GI M c r) EW (cat Tryz.f76 (pn 60)) e (R9 b v2 v6 a)
variable{M c r b v2 f v4 v6 a d e g}{K:Kn}{n:Nat}
theorem FT(k:am K)(j:I0 M c r b v2 v6 e g)(h:rb K n b v2 v6 a g d=some r):DG M c r (mQ 7781::mQ 3891 :: .b 1::mQ 487::Ig M c r e) (acl b v2 v6 a d):=by
 unfold rb at h;obtain⟨f,h⟩|⟨f,h⟩:=ao h
 ·refine ah 43 f ?_;cases h
 ·refine ah 43 f (bX (ks':=mQ 3891 :: .b 1::mQ 487::Ig M c r e) 2 (ai 3 ?_));obtain⟨l,i,h⟩:=bind_some h;exact aP (k.tL i) (ac (ag 2 (bn (j h))))
theorem acn(l:am K)(j:I0 M c r b v2 v6 e g)(h:A4 K n b v2 v6 g a=some r):DG M c r (mQ 60::Ig M c r e) (R9 b v2 v6 a):=by
 unfold A4 at h;refine ax 6 7 3 ?_;obtain⟨d,h⟩|⟨d,h⟩:=ao h
 ·refine ah 27 d (cL 8 9 1 3 5 (ai 0 ?_));obtain⟨k,h⟩:=aF h;refine au (bD aL aA k (fV) (dW)) (ac (cb 4 5 3 2 (ai 4 ?_)));obtain⟨f,h⟩|⟨f,h⟩:=ao h
  ·refine aD 33 f (aQ 9 5 ?_);obtain⟨i,h⟩|⟨i,h⟩:=ao h
   ·exact aD 38 i (ac (ag 0 (FT l j h)))
   ·exact aD 38 i (ac (ag 0 (FT l j h)))
  ·exact aD 33 f (ac (ag 0 (FT l j h)))
 ·refine ah 27 d (bX (ks':=[]) 5 (vF ?_));cases h;exact jm
theorem aaz(d:am K)(m:Nat):I0 M c r b v2 v6 m (qd K n b v2 v6 m):=by
 induction m with
 | zero=>intro a h;cases h
 | succ m e=>intro a h;have h:A4 K n b v2 v6 (qd K n b v2 v6 m) a=some r:=h;exact bj (acn d e h)
theorem Pj(a:am K)(h:uH K n b v2 v6=some r):DG M c r [mQ 7] (XP b v2 v6):=by
 unfold uH at h;exact ax 2 3 1 (ai 2 (au (bv aL v2.Kids) (ac (ag 1 (ca (p:=pn 30) n (aaz a n h))))))
theorem QQ(d:am K)(h:ve K n b v2 f v4=some r):DG M c r [mQ 13,mQ 7] (abI b v2 f v4):=by
 unfold ve at h;obtain⟨a,h⟩|⟨a,h⟩:=ao h
 ·refine ah 16 a (br 2 1 (bP [2,3,4] [3,4] [] ?_));obtain⟨v5,e,h⟩:=bind_some h;obtain⟨g,h⟩:=aF h;exact bQ 2 (nu 17 [.sl (lm (ak .i64) f),.ref 18,.ptr 4 1,iI v2.Node,.sl (lm (ak .i64) [v2.Node])]) [] [(18,(bk v5))] [g9 22 18 ⟨3,1,lm (ak .i64) (v5++[v2.Node])⟩,cf bb 53 Tryz.f76 (pn 26) 6] (ay [.v 0 2] (aj (FZ 0 1 18 (Z3 d e) (ff 5)) (ay [.v 0 2,.v 0 2,.v 0 1] (aj (dp (m:=0) (cG 22 18 3 1 (ak .i64) (rfl) aT g)) (aj (cg 1) bR))))) (iz 18 (ag 0 (Pj d h)))
 ·exact ah 16 a (ag 2 (Pj d h))
theorem T7(d:am K)(h:oB K n b v2 f=some r):aY bb 76 [.agg (pm b),.agg (aA v2),.sl (lm (ak .i64) f)] (fun v _=>v=n6 r):=by
 refine bG (cat Tryz.f76 (pn 1)) Tryz.func76 Tryz.ntmps76 fun M c=>(bg ⟨[(0,.agg (pm b)),(1,.agg (aA v2)),(2,.sl (lm (ak .i64) f))],[],[],[]⟩ ?_);unfold oB at h;refine cb 12 13 7 4 (ai 4 ?_);obtain⟨a,h⟩|⟨a,h⟩:=ao h
 ·exact aD 11 a (ac (ag 0 (QQ d h)))
 ·exact aD 11 a (ac (ag 0 (QQ d h)))
end
noncomputable section
variable[GS](M:Nat→Prop)(e:aB)(r:ae×Int×Int×dO)(a:ab)(v2 b:Int)(v4:bz)(v5 v6:Int)(d:dO)  
abbrev Rp(n:Nat):aq:=.c (cat Tryz.f35 (pn n))
variable{M e r a v2 b v4 v5 v6 d}{K:Kn}{n:Nat}[SG e]
theorem aeY(g:am K)(h:DW K n a v2 b v4 v5 v6 d=some r):eA bb 35 [.agg (aA a),iI v2,iI b,.agg (bL v4)] [(af v5 v6)] (bt d) (fun v s=>v=.agg (aG r.1)∧cq s.o [(af r.2.1 r.2.2.1)]∧look 440009 s.r=some (bt r.2.2.2)):=by
 refine jC (c:=cat Tryz.f35 []) Tryz.func35 (by kernel_rfl) _ Tryz.ntmps35 (lc (by kernel_rfl)) fun M e=>(bg ⟨[(0,.agg (aA a)),(1,iI v2),(2,iI b),(3,.agg (bL v4))],[(af v5 v6)],[(440009,(bt d))],[440009,440001,1440001]⟩ ?_);unfold DW at h;refine bX (ks':=[Rp 14,Rp 15]) 5 (bP [1,2,4,7,8,10] [4,7,8,440001] [440009] (ER 10 ?_));obtain⟨q,k,h⟩:=bind_some h;obtain⟨j,l,h⟩:=bind_some h;obtain⟨f,m,h⟩:=bind_some h;refine bQ 2 (nu 16 [.agg (aA a),.ptr 4 2,.agg (aH a.Style),iI (min (max v2 0) 1048576),.agg (ct q),.agg (bL v4)]++nu 23 [.agg (List.set (aG ({ f with Kids:=[] }:ae)) 66 (.ref 23))]++nu 9 [.ptr 9 0]) [(9,List.set (aG bT) 66 (.nils))] [(23,(bx f.Kids))] [B3 (some 22) (bt j.2.2.2) [(af j.2.1 j.2.2.1)] (.agg (aG j.1)),cf bb 34 Tryz.f35 (pn 14) 9] (ay [.v 0 1,.v 0 2,.v 0 2,.v 0 2] (aj (cv 0 1 20 (Fo g k)) (ay [.v 0 1] (aj (ET 0 10 (aeH g l)) (aj (FZ 1 1 23 (Pe g m) (Dw (i:=66) (by kernel_rfl))) (aj (rG 0 2 44 9 (List.set (aG bT) 66 (.nils))) (aj (cg 1) bR))))))) (ax 6 7 3 (ai 3 (akh 30 0 ?_)))
 obtain⟨p,o,h⟩:=bind_some h;refine aP (T7 g o) (ac (aJ 3 (iz 23 ?_)));cases h;exact ex
end
noncomputable section
variable[GS](M:Nat→Prop)(b:aB)(r:Int)(a:dO)(v2:Fv)(v4:Int)(c:Nat)(d:Int→Option Int)
abbrev JX:Cx:=⟨bb,19,M,b⟩
abbrev EG:=bodyPost bb Tryz.f77 (bI M b (fun v _=>v=iI r))
abbrev ajO(a:dt)(s:AS):=VE (JX M b) (EG M b r) a .normal s
abbrev Uo(n:Nat):aq:=.c (cat Tryz.f77 (pn n))
abbrev GA:dt:=[.b 0,Uo 7]
abbrev WY:dt:=kl (JX M b) (EG M b r) GA (cat Tryz.f77 (pn 52)) c::GA
def Re:AS:=⟨[(0,.sl (lm aK a)),(1,.fn v2.id v2.aR),(7,iI (a.length:Int)),(8,iI v4)],[],[],[]⟩
abbrev Ng:Prop:=∀{v4:Int},d v4=some r→LP (JX M b) (EG M b r) GA (cat Tryz.f77 (pn 52)) c (Re a v2 v4)
variable{M b r a v2 v4 c d}{K:Kn}{n:Nat}
theorem ad8(k:am K)(g:Ng M b r a v2 c d)(h:uP K n a v2 d v4=some r):ajO M b r (Uo 52::WY M b r c) (Re a v2 v4):=by
 unfold uP at h;refine ax 6 7 3 ?_;obtain⟨e,h⟩|⟨e,h⟩:=ao h
 ·refine ah 9 e (cL 18 19 1 3 7 (ai 3 ?_));obtain⟨i,h⟩:=aF h;refine au (bD aK aK i (Gs) aT) (aQ 5 1 ?_);obtain⟨v5,j,h⟩:=bind_some h;refine kG (k.mw j) (ac ?_);obtain⟨f,h⟩|⟨f,h⟩:=ao h
  ·refine ah 16 f (aJ 9 ?_);cases h;exact bw
  ·exact ah 16 f (ag 4 (bn (g h)))
 ·refine ah 9 e (aJ 8 ?_);cases h;exact bw
theorem Xr(c:am K)(m:Nat):Ng M b r a v2 m (lS K n a v2 m):=by
 induction m with
 | zero=>intro v4 h;cases h
 | succ m d=>intro v4 h;have h:uP K n a v2 (lS K n a v2 m) v4=some r:=h;exact bj (ad8 c d h)
theorem PV(c:am K)(h:vA K n a v2=some r):aY bb 77 [.sl (lm aK a),.fn v2.id v2.aR] (fun v _=>v=iI r):=by
 refine bG (cat Tryz.f77 (pn 1)) Tryz.func77 Tryz.ntmps77 fun M b=>(bg ⟨[(0,.sl (lm aK a)),(1,.fn v2.id v2.aR)],[],[],[]⟩ ?_);unfold vA at h;exact cb 12 13 7 4 (ai 1 (au (bv aK a) (ac (ag 1 (ca (p:=pn 26) n (Xr c n h))))))
end
noncomputable section
variable[GS](M:Nat→Prop)(b:aB)(r:Bool)(a:dO)(v2:Fv)  
variable{M b r a v2}{K:Kn}{n:Nat}
theorem ag9(d:am K)(h:zB K n a v2=some r):aY bb 38 [.sl (lm aK a),.fn v2.id v2.aR] (fun v _=>v=.bool r):=by
 refine bG (cat Tryz.f38 (pn 1)) Tryz.func38 Tryz.ntmps38 fun M b=>(bg ⟨[(0,.sl (lm aK a)),(1,.fn v2.id v2.aR)],[],[],[]⟩ ?_);unfold zB at h;refine ax 6 7 3 (ai 2 ?_);obtain⟨e,c,h⟩:=bind_some h;refine aP (PV d c) (ac (aJ 1 ?_));cases h;exact bw
end
noncomputable section
variable[GS](M:Nat→Prop)(a:aB)(r:Bool)(b v2:aw)(v4:Bool)  
abbrev ai8(n:Nat):aq:=.c (cat Tryz.f39 (pn n))
abbrev aiB:Cx:=⟨bb,16,M,a⟩
abbrev XS:=bodyPost bb Tryz.f39 (bI M a (fun v _=>v=.bool r))
abbrev ZW(b:dt)(s:AS):=VE (aiB M a) (XS M a r) b .normal s
def ahv:AS:=⟨[(3,.bool v4)],[],[],[]⟩
variable{M a r b v2 v4}{K:Kn}{n:Nat}
theorem PE(b:am K)(h:Ee K n v4=some r):ZW M a r [ai8 7] (ahv v4):=by
 unfold Ee at h;refine aJ 1 ?_;cases h;exact bw
theorem aeR(d:am K)(h:yO K n b v2=some r):aY bb 39 [.agg (aK b),.cptr (aK v2)] (fun v _=>v=.bool r):=by
 refine bG (cat Tryz.f39 (pn 1)) Tryz.func39 Tryz.ntmps39 fun M a=>(bg ⟨[(0,.agg (aK b)),(1,.cptr (aK v2))],[],[],[]⟩ ?_);unfold yO at h;refine ax 6 7 3 (ai 6 ?_);obtain⟨c,h⟩|⟨c,h⟩:=ao h
 ·refine aD 9 c (aQ 10 4 ?_);obtain⟨f,e,h⟩:=bind_some h;exact aP (Ci d e) (ac (ag 0 (PE d h)))
 ·exact aD 9 c (ac (ag 0 (PE d h)))
end
noncomputable section
variable[GS](M:Nat→Prop)(f:aB)(r:ae×Int×Int×dO)(e:ab)(v2 o v4 v5:Int)(v6:dO)(b:ae×Int×Int×dO)(a:Int)(d:dO)(j:Bool)(k:dO)(g:Nat)(l:Int→dO→Option hF)
abbrev Jq:Cx:=⟨bb,60,M,f⟩
abbrev EJ:=bodyPost bb Tryz.f12 (bI M f (fun v s=>v=.agg (aG r.1)∧cq s.o [(af r.2.1 r.2.2.1)]∧look 440009 s.r=some (bt r.2.2.2)))
abbrev Hb(a:dt)(s:AS):=VE (Jq M f) (EJ M f r) a .normal s
abbrev pR(n:Nat):aq:=.c (cat Tryz.f12 (pn n))
abbrev HI:dt:=[.b 0,pR 63]
abbrev JT:dt:=kl (Jq M f) (EJ M f r) HI (cat Tryz.f12 (pn 500)) g::HI
def abd:AS:=⟨[(0,.adr GS.g 0),(5,.ptr 5 0),(8,.ptr 8 0),(9,.ptr 9 0),(10,.ref 2010),(32,.ref 440009),(33,iI (b.2.2.2.length:Int)),(34,iI a)],[(5,aA e),(8,List.set (aG bT) 66 (.nils)),(9,aG b.1),(af b.2.1 b.2.2.1)],[(2010,(bt k)),(440009,(bt b.2.2.2))],[5,8,9,440001,2010,440009,1440001,440001]⟩
def acQ:AS:=⟨[(0,.adr GS.g 0),(5,.ptr 5 0),(8,.ptr 8 0),(9,.ptr 9 0),(10,.ref 2010),(12,.cptr (aK (gD b.2.2.2 a))),(32,.ref 440009),(33,iI (b.2.2.2.length:Int)),(34,iI a),(48,.bool j)],[(5,aA e),(8,List.set (aG bT) 66 (.nils)),(9,aG b.1),(af b.2.1 b.2.2.1)],[(2010,(bt d)),(440009,(bt b.2.2.2))],[5,8,9,440001,2010,440009,1440001,440001]⟩
def Ti:AS:=⟨[(0,.adr GS.g 0),(5,.ptr 5 0),(8,.ptr 8 0),(9,.ptr 9 0),(10,.ref 2010),(32,.ref 440009),(33,iI (b.2.2.2.length:Int)),(34,iI a)],[(5,aA e),(8,List.set (aG bT) 66 (.nils)),(9,aG b.1),(af b.2.1 b.2.2.1)],[(2010,(bt d)),(440009,(bt b.2.2.2))],[5,8,9,440001,2010,440009,1440001,440001]⟩
abbrev Ck:Prop:=∀{a:Int} {d:dO},l a d=some r→LP (Jq M f) (EJ M f r) HI (cat Tryz.f12 (pn 500)) g (Ti e b a d)
variable{M f r e v2 o v4 v5 v6 b a d j k g l}{K:Kn}{n:Nat}[SG f]
theorem QD(d:am K)(c:Ck M f r e b g l)(h:yQ K n e b a l k=some r):Hb M f r (.b 1::pR 4007::JT M f r g) (abd e b a k):=by
 unfold yQ at h;exact ag 2 (bn (c h))
theorem Na(m:am K)(i:Ck M f r e b g l)(h:y7 K n e b a d l j=some r):Hb M f r (pR 64103 :: .b 1::pR 4007::JT M f r g) (acQ e b a d j):=by
 unfold y7 at h;obtain⟨c,h⟩|⟨c,h⟩:=ao h
 ·refine ah 48 c (br 2 1 (ai 3 ?_));obtain⟨k,h⟩:=aF h;exact au (cG 52 2010 64 127 aK (rfl) (Gs) k) (ac (ag 0 (QD m i h)))
 ·exact ah 48 c (ag 2 (QD m i h))
theorem adX(m:am K)(o:Ck M f r e b g l)(h:xn K n e b l a d=some r):Hb M f r (pR 500::JT M f r g) (Ti e b a d):=by
 unfold xn at h;refine ax 6 7 3 ?_;obtain⟨c,h⟩|⟨c,h⟩:=ao h
 ·refine ah 35 c (cL 8 9 1 3 5 (ai 0 ?_));obtain⟨k,h⟩:=aF h;refine au (cp 440009 127 aK k) (au (bJ 64 0 aK aK (bF k).2 aT) (ac (ax 2 3 1 (ai 1 (ld 12 12 (aK (gD b.2.2.2 a)) (nO 39 #[(.tmp 12)] [.cptr (aK (gD b.2.2.2 a))] ?_))))));obtain⟨t,p,h⟩:=bind_some h;refine Ny (ag9 m p) (ac (ax 2 3 1 (ai 3 ?_)));obtain⟨j,h⟩|⟨j,h⟩:=ao h
  ·refine aD 43 j (aQ 6 3 ?_);obtain⟨u,q,h⟩:=bind_some h;exact aP (R3 m q) (ac (ag 0 (Na m o h)))
  ·exact aD 43 j (ac (ag 0 (Na m o h)))
 ·refine ah 35 c (gg 2 3 6 (ai 4 (Su 57 0 (ac (ax 2 3 1 (ai 1 ?_))))));obtain⟨v,s,h⟩:=bind_some h;refine fg 1059 (BD m s) (Dw (i:=66) (by kernel_rfl)) (ac (aJ 1 (bP [8] [8,440001] [1059,2010] (ta 2010 440009 (iz 1059 ?_)))));cases h;exact ex
theorem Zz(c:am K)(m:Nat):Ck M f r e b m (ri K n e b m):=by
 induction m with
 | zero=>intro a d h;cases h
 | succ m g=>intro a d h;have h:xn K n e b (ri K n e b m) a d=some r:=h;exact bj (adX c g h)
theorem z9(a:am K)(h:o4 K n e v2 o v4 v5 v6=some r):eA bb 12 [.ptr 440001 0,.agg (aA e),iI v2,iI o] [(af v4 v5)] (bt v6) (fun v s=>v=.agg (aG r.1)∧cq s.o [(af r.2.1 r.2.2.1)]∧look 440009 s.r=some (bt r.2.2.2)):=by
 refine jC (c:=cat Tryz.f12 []) Tryz.func12 (by kernel_rfl) _ Tryz.ntmps12 (lc (by kernel_rfl)) fun M f=>(bg ⟨[(0,.ptr 440001 0),(1,.agg (aA e)),(2,iI v2),(3,iI o)],[(af v4 v5)],[(440009,(bt v6))],[440009,440001,1440001]⟩ ?_);unfold o4 at h;refine bX (ks':=[pR 14,pR 15]) 5 (bP [0,2,3,5,8,14] [5,8,440001] [440009] (ER 14 (aat 0 0 ?_)));obtain⟨i,d,h⟩:=bind_some h;obtain⟨b,g,h⟩:=bind_some h;exact bQ 2 (nu 20 [.agg (aA e),iI v2,iI o,.adr GS.g 0,eE 36 true,.adr GS.g 0,eE 37 true,.agg (bL i)]++nu 9 [.ptr 9 0]) [(9,List.set (aG bT) 66 (.nils))] [] [B3 (some 28) (bt b.2.2.2) [(af b.2.1 b.2.2.1)] (.agg (aG b.1)),cf bb 60 Tryz.f12 (pn 14) 10] (ay [.v 0 1,.v 0 1,.v 0 1,.v 0 2,.v 0 2,.v 0 2,.v 0 2] (aj (cv 0 1 27 (Xx a d)) (aj (ET 0 14 (aeY a g)) (aj (rG 0 2 44 9 (List.set (aG bT) 66 (.nils))) (aj (cg 1) bR))))) (cb 12 13 7 4 (ai 3 (Su 31 0 (aQ 4 1 (au (bv aK b.2.2.2) (ac (gT 2 0 1 (bP [0,5,8,9,10,32,33,34] [5,8,9,440001] [440009] (eW 2010 10 64 127 (ag 0 (ca (p:=pn 250) n (Zz a n h))))))))))))
end
noncomputable section
variable[GS](M:Nat→Prop)(b:aB)(r:ab)(a:Int)  
variable{M b r a}{K:Kn}{n:Nat}
theorem BX(c:am K)(h:tW K n a=some r):aY bb 33 [iI a] (fun v _=>v=.agg (aA r)):=by
 refine bG (cat Tryz.f33 (pn 1)) Tryz.func33 Tryz.ntmps33 fun M b=>(bg ⟨[(0,iI a)],[],[],[]⟩ ?_);unfold tW at h;refine aJ 5 (nL 2 ?_);cases h;exact bw
end
noncomputable section
variable(M:Nat→Prop)(a:aB)(r b:Bool)  
abbrev YR(n:Nat):aq:=.c (cat Tryz.f10 (pn n))
abbrev ab6:Cx:=⟨bb,33,M,a⟩
abbrev q10:=bodyPost bb Tryz.f10 (bI M a (fun v _=>v=.bool r))
abbrev ahM(b:dt)(s:AS):=VE (ab6 M a) (q10 M a r) b .normal s
def abn:AS:=⟨[(0,.bool b)],[],[],[]⟩
variable{M a r b}{K:Kn}{n:Nat}
theorem Cb(c:∀ [GS],am K)(h:tK K n b=some r):ahM M a r [YR 127] (abn b):=by
 letI:GS:=⟨0⟩;have d:=@c ⟨0⟩
 unfold tK at h;refine aJ 1 ?_;cases h;exact bw
theorem XG(b:∀ [GS],am K)(h:Cf K n=some r):aY bb 10 [] (fun v _=>v=.bool r):=by
 letI:GS:=⟨0⟩;have c:=@b ⟨0⟩
 refine bG (cat Tryz.f10 (pn 1)) Tryz.func10 Tryz.ntmps10 fun M a=>(bg ⟨[],[],[],[]⟩ ?_);unfold Cf at h;refine ax 14 15 5 (ai 0 ?_);obtain⟨g,i,h⟩:=bind_some h;refine aP (BX c i) ?_;obtain⟨v2,j,h⟩:=bind_some h;refine aP (BX c j) (au (gt aL ([g,v2]:d6) (new:=[aA g,aA v2]) (by simp only[rl,Db,dW])) (aQ 4 1 (D5 400001 1 0 64 127 ?_)));obtain⟨p,k,h⟩:=bind_some h;refine CE 1 400001 (fun [GS]=>(z9 b k)) (ac (ax 6 7 3 (ai 0 ?_)));obtain⟨v4,l,h⟩:=bind_some h;refine aP (BX c l) ?_;obtain⟨v5,m,h⟩:=bind_some h;refine aP (BX c m) (au (gt aL ([v4,v5]:d6) (new:=[aA v4,aA v5]) (by simp only[rl,Db,dW])) (aQ 4 1 ?_));obtain⟨v6,o,h⟩:=bind_some h;refine CE 1 400001 (fun [GS]=>(z9 b o)) (ac (ax 2 3 1 (ai 4 ?_)));obtain⟨d,h⟩|⟨d,h⟩:=ao h
 ·refine aD 19 d (aQ 8 4 ?_);obtain⟨e,h⟩|⟨e,h⟩:=ao h
  ·refine aD 23 e (aQ 13 5 ?_);obtain⟨f,h⟩|⟨f,h⟩:=ao h
   ·exact aD 28 f (ac (ag 0 (Cb b h)))
   ·exact aD 28 f (ac (ag 0 (Cb b h)))
  ·exact aD 23 e (ac (ag 0 (Cb b h)))
 ·exact aD 19 d (ac (ag 0 (Cb b h)))
end
noncomputable section
variable[GS](M:Nat→Prop)(a:aB)(r:Bool)(b:cB)(v2:Bool)  
abbrev ahd(n:Nat):aq:=.c (cat Tryz.f72 (pn n))
abbrev ah3:Cx:=⟨bb,11,M,a⟩
abbrev Zy:=bodyPost bb Tryz.f72 (bI M a (fun v _=>v=.bool r))
abbrev afa(b:dt)(s:AS):=VE (ah3 M a) (Zy M a r) b .normal s
def ag1:AS:=⟨[(2,.bool v2)],[],[],[]⟩
variable{M a r b v2}{K:Kn}{n:Nat}
theorem PQ(b:am K)(h:zf K n v2=some r):afa M a r [ahd 7] (ag1 v2):=by
 unfold zf at h;refine aJ 1 ?_;cases h;exact bw
theorem iT(d:am K)(h:fU K n b=some r):aY bb 72 [.agg (fW b)] (fun v _=>v=.bool r):=by
 refine bG (cat Tryz.f72 (pn 1)) Tryz.func72 Tryz.ntmps72 fun M a=>(bg ⟨[(0,.agg (fW b))],[],[],[]⟩ ?_);unfold fU at h;refine ax 6 7 3 (ai 4 ?_);obtain⟨c,h⟩|⟨c,h⟩:=ao h
 ·exact aD 6 c (ac (ag 0 (PQ d h)))
 ·exact aD 6 c (ac (ag 0 (PQ d h)))
end
noncomputable section
variable[GS](M:Nat→Prop)(d:aB)(r:Bool)(b:h8)(v2 a:Int)(g i j k l:Bool)(e:Nat)(f:Int→Option Bool)
abbrev C1:Cx:=⟨bb,130,M,d⟩
abbrev Dg:=bodyPost bb Tryz.f34 (bI M d (fun v _=>v=.bool r))
abbrev ug(a:dt)(s:AS):=VE (C1 M d) (Dg M d r) a .normal s
abbrev fB(n:Nat):aq:=.c (cat Tryz.f34 (pn n))
abbrev GH:dt:=[.b 0,fB 7]
abbrev zW:dt:=kl (C1 M d) (Dg M d r) GH (cat Tryz.f34 (pn 52)) e::GH
def aji:AS:=⟨[(0,.sl (lm bp b)),(1,iI v2),(5,iI a),(6,.ptr 6 0),(7,iI 3),(125,.bool l)],[(6,aH ((gD b a).Style))],[],[6]⟩
def ahm:AS:=⟨[(0,.sl (lm bp b)),(1,iI v2),(5,iI a),(6,.ptr 6 0),(7,iI 2),(125,.bool k)],[(6,aH ((gD b a).Style))],[],[6]⟩
def ajg:AS:=⟨[(0,.sl (lm bp b)),(1,iI v2),(5,iI a),(6,.ptr 6 0),(7,iI 1),(125,.bool j)],[(6,aH ((gD b a).Style))],[],[6]⟩
def aeu:AS:=⟨[(0,.sl (lm bp b)),(1,iI v2),(5,iI a),(6,.ptr 6 0),(7,iI 0),(125,.bool i)],[(6,aH ((gD b a).Style))],[],[6]⟩
def aeP:AS:=⟨[(0,.sl (lm bp b)),(1,iI v2),(5,iI a),(6,.ptr 6 0),(107,.bool g)],[(6,aH ((gD b a).Style))],[],[6]⟩
def NK:AS:=⟨[(0,.sl (lm bp b)),(1,iI v2),(5,iI a)],[],[],[]⟩
abbrev rN:Prop:=∀{a:Int},f a=some r→LP (C1 M d) (Dg M d r) GH (cat Tryz.f34 (pn 52)) e (NK b v2 a)
abbrev nB(m:Nat):dt:=kl (C1 M d) (Dg M d r) (.b 2 :: .b 1::fB 211::zW M d r e) (cat Tryz.f34 (pn 13468)) m::(.b 2 :: .b 1::fB 211::zW M d r e)
variable{M d r b v2 a g i j k l e f}{K:Kn}{n:Nat}
theorem Vk(i:am K)(g:rN M d r b v2 e f)(h:vE K n b v2 a f l=some r):ug M d r (fB 215497 :: .b 3::fB 53875::nB M d r e 36) (aji b v2 a l):=by
 unfold vE at h;obtain⟨c,h⟩|⟨c,h⟩:=ao h
 ·refine ah 125 c (aJ 13 ?_);cases h;exact bw
 ·exact ah 125 c (bA (ks':=nB M d r e 36) 4 ⟨[(0,.sl (lm bp b)),(1,iI v2),(5,iI a),(6,.ptr 6 0),(7,iI 4)],[(6,aH ((gD b a).Style))],[],[6]⟩ (bn (bj (ag 10 (bn (g h))))))
theorem PA(j:am K)(i:rN M d r b v2 e f)(h:Bi K n b v2 a f k=some r):ug M d r (fB 215497 :: .b 3::fB 53875::nB M d r e 37) (ahm b v2 a k):=by
 unfold Bi at h;obtain⟨c,h⟩|⟨c,h⟩:=ao h
 ·refine ah 125 c (aJ 13 ?_);cases h;exact bw
 ·refine ah 125 c (bA (ks':=nB M d r e 37) 4 ⟨[(0,.sl (lm bp b)),(1,iI v2),(5,iI a),(6,.ptr 6 0),(7,iI 3)],[(6,aH ((gD b a).Style))],[],[6]⟩ (bn (bj (dA 24 25 3 7 8 (ai 4 ?_)))));obtain⟨o,l,h⟩:=bind_some h;refine aP (iT j l) (aQ 7 2 ?_);obtain⟨g,h⟩|⟨g,h⟩:=ao h
  ·exact aD 118 g (ac (ag 0 (Vk j i h)))
  ·refine aD 118 g (aQ 11 4 ?_);obtain⟨p,m,h⟩:=bind_some h;exact aP (iT j m) (ac (ag 0 (Vk j i h)))
theorem Lg(k:am K)(i:rN M d r b v2 e f)(h:zr K n b v2 a f j=some r):ug M d r (fB 215497 :: .b 3::fB 53875::nB M d r e 38) (ajg b v2 a j):=by
 unfold zr at h;obtain⟨c,h⟩|⟨c,h⟩:=ao h
 ·refine ah 125 c (aJ 13 ?_);cases h;exact bw
 ·refine ah 125 c (bA (ks':=nB M d r e 38) 4 ⟨[(0,.sl (lm bp b)),(1,iI v2),(5,iI a),(6,.ptr 6 0),(7,iI 2)],[(6,aH ((gD b a).Style))],[],[6]⟩ (bn (bj (dA 24 25 3 7 8 (ai 4 ?_)))));obtain⟨o,l,h⟩:=bind_some h;refine aP (iT k l) (aQ 7 2 ?_);obtain⟨g,h⟩|⟨g,h⟩:=ao h
  ·exact aD 118 g (ac (ag 0 (PA k i h)))
  ·refine aD 118 g (aQ 11 4 ?_);obtain⟨p,m,h⟩:=bind_some h;exact aP (iT k m) (ac (ag 0 (PA k i h)))
theorem Tt(k:am K)(j:rN M d r b v2 e f)(h:AX K n b v2 a f i=some r):ug M d r (fB 215497 :: .b 3::fB 53875::nB M d r e 39) (aeu b v2 a i):=by
 unfold AX at h;obtain⟨c,h⟩|⟨c,h⟩:=ao h
 ·refine ah 125 c (aJ 13 ?_);cases h;exact bw
 ·refine ah 125 c (bA (ks':=nB M d r e 39) 4 ⟨[(0,.sl (lm bp b)),(1,iI v2),(5,iI a),(6,.ptr 6 0),(7,iI 1)],[(6,aH ((gD b a).Style))],[],[6]⟩ (bn (bj (dA 24 25 3 7 8 (ai 4 ?_)))));obtain⟨o,l,h⟩:=bind_some h;refine aP (iT k l) (aQ 7 2 ?_);obtain⟨g,h⟩|⟨g,h⟩:=ao h
  ·exact aD 118 g (ac (ag 0 (Lg k j h)))
  ·refine aD 118 g (aQ 11 4 ?_);obtain⟨p,m,h⟩:=bind_some h;exact aP (iT k m) (ac (ag 0 (Lg k j h)))
theorem gQ(l:am K)(k:rN M d r b v2 e f)(h:fc K n b v2 a f g=some r):ug M d r (fB 3365::fB 1683 :: .b 1::fB 211::zW M d r e) (aeP b v2 a g):=by
 unfold fc at h;obtain⟨i,h⟩|⟨i,h⟩:=ao h
 ·refine ah 107 i (aJ 10 ?_);cases h;exact bw
 ·refine ah 107 i (bA (ks':=fB 6734 :: .b 2 :: .b 1::fB 211::zW M d r e) 5 ⟨[(0,.sl (lm bp b)),(1,iI v2),(5,iI a),(6,.ptr 6 0),(7,iI 0)],[(6,aH ((gD b a).Style))],[],[6]⟩ (nT 40 (c:=cat Tryz.f34 [1,0,1,0,0,1,0,0,1,1,1,0,0]) (by kernel_rfl) (bj (bX (ks':=fB 215496::fB 215497 :: .b 3::fB 53875::nB M d r e 39) 8 (ai 4 ?_)))));obtain⟨p,m,h⟩:=bind_some h;refine aP (iT l m) (aQ 7 2 ?_);obtain⟨j,h⟩|⟨j,h⟩:=ao h
  ·exact aD 118 j (ac (ag 0 (Tt l k h)))
  ·refine aD 118 j (aQ 11 4 ?_);obtain⟨q,o,h⟩:=bind_some h;exact aP (iT l o) (ac (ag 0 (Tt l k h)))
theorem Zt(g:am K)(c:rN M d r b v2 e f)(h:nC K n b v2 f a=some r):ug M d r (fB 52::zW M d r e) (NK b v2 a):=by
 unfold nC at h;refine cb 4 5 3 2 (ai 2 (au (bv bp b) (ac ?_)));obtain⟨i,h⟩|⟨i,h⟩:=ao h
 ·refine ah 11 i (cL 8 9 1 3 5 (ai 2 ?_));obtain⟨A,h⟩:=aF h;refine au (bD bp bp A (eK) aT) (ac (cb 4 5 3 2 (ai 2 ?_)));obtain⟨B,h⟩:=aF h;refine au (bD bp bp B (eK) aT) (aQ 8 5 ?_);obtain⟨j,h⟩|⟨j,h⟩:=ao h
  ·exact aD 26 j (ac (ag 0 (gQ g c h)))
  ·refine aD 26 j (aQ 10 2 ?_);obtain⟨J,C,h⟩:=bind_some h;refine aP (iT g C) (aQ 14 3 ?_);obtain⟨k,h⟩|⟨k,h⟩:=ao h
   ·exact aD 32 k (ac (ag 0 (gQ g c h)))
   ·refine aD 32 k (aQ 16 2 ?_);obtain⟨L,D,h⟩:=bind_some h;refine aP (iT g D) (aQ 20 3 ?_);obtain⟨l,h⟩|⟨l,h⟩:=ao h
    ·exact aD 38 l (ac (ag 0 (gQ g c h)))
    ·refine aD 38 l (aQ 22 2 ?_);obtain⟨N,E,h⟩:=bind_some h;refine aP (iT g E) (aQ 26 3 ?_);obtain⟨m,h⟩|⟨m,h⟩:=ao h
     ·exact aD 44 m (ac (ag 0 (gQ g c h)))
     ·refine aD 44 m (aQ 28 2 ?_);obtain⟨O,F,h⟩:=bind_some h;refine aP (iT g F) (aQ 32 3 ?_);obtain⟨o,h⟩|⟨o,h⟩:=ao h
      ·exact aD 50 o (ac (ag 0 (gQ g c h)))
      ·refine aD 50 o (aQ 34 2 ?_);obtain⟨P,G,h⟩:=bind_some h;refine aP (iT g G) (aQ 38 3 ?_);obtain⟨p,h⟩|⟨p,h⟩:=ao h
       ·exact aD 56 p (ac (ag 0 (gQ g c h)))
       ·refine aD 56 p (aQ 40 2 ?_);obtain⟨Q,H,h⟩:=bind_some h;refine aP (iT g H) (aQ 44 3 ?_);obtain⟨q,h⟩|⟨q,h⟩:=ao h
        ·exact aD 62 q (ac (ag 0 (gQ g c h)))
        ·refine aD 62 q (aQ 46 2 ?_);obtain⟨R,I,h⟩:=bind_some h;refine aP (iT g I) (aQ 50 3 ?_);obtain⟨s,h⟩|⟨s,h⟩:=ao h
         ·exact aD 68 s (ac (ag 0 (gQ g c h)))
         ·refine aD 68 s (aQ 55 5 ?_);obtain⟨t,h⟩|⟨t,h⟩:=ao h
          ·exact aD 73 t (ac (ag 0 (gQ g c h)))
          ·refine aD 73 t (aQ 60 5 ?_);obtain⟨u,h⟩|⟨u,h⟩:=ao h
           ·exact aD 78 u (ac (ag 0 (gQ g c h)))
           ·refine aD 78 u (aQ 65 5 ?_);obtain⟨v,h⟩|⟨v,h⟩:=ao h
            ·exact aD 83 v (ac (ag 0 (gQ g c h)))
            ·refine aD 83 v (aQ 70 5 ?_);obtain⟨w,h⟩|⟨w,h⟩:=ao h
             ·exact aD 88 w (ac (ag 0 (gQ g c h)))
             ·refine aD 88 w (aQ 75 5 ?_);obtain⟨x,h⟩|⟨x,h⟩:=ao h
              ·exact aD 93 x (ac (ag 0 (gQ g c h)))
              ·refine aD 93 x (aQ 80 5 ?_);obtain⟨y,h⟩|⟨y,h⟩:=ao h
               ·exact aD 98 y (ac (ag 0 (gQ g c h)))
               ·refine aD 98 y (aQ 85 5 ?_);obtain⟨z,h⟩|⟨z,h⟩:=ao h
                ·exact aD 103 z (ac (ag 0 (gQ g c h)))
                ·exact aD 103 z (ac (ag 0 (gQ g c h)))
 ·refine ah 11 i (gg 2 3 6 (ai 1 (au (bv bp b) (ac (aJ 1 ?_)))));cases h;exact bw
theorem YG(c:am K)(m:Nat):rN M d r b v2 m (qC K n b v2 m):=by
 induction m with
 | zero=>intro a h;cases h
 | succ m e=>intro a h;have h:nC K n b v2 (qC K n b v2 m) a=some r:=h;exact bj (Zt c e h)
theorem VC(a:am K)(h:xr K n b v2=some r):aY bb 34 [.sl (lm bp b),iI v2] (fun v _=>v=.bool r):=by
 refine bG (cat Tryz.f34 (pn 1)) Tryz.func34 Tryz.ntmps34 fun M d=>(bg ⟨[(0,.sl (lm bp b)),(1,iI v2)],[],[],[]⟩ ?_);unfold xr at h;exact ag 6 (ca (p:=pn 26) n (YG a n h))
end
noncomputable section
variable[GS](M:Nat→Prop)(a:aB)(r:Bool)(b:h8)(v2:List me)(v4:Int)(e:Bool)(c:Nat)(d:Int→Option Bool)
abbrev Ii:Cx:=⟨bb,31,M,a⟩
abbrev E4:=bodyPost bb Tryz.f11 (bI M a (fun v _=>v=.bool r))
abbrev Pw(b:dt)(s:AS):=VE (Ii M a) (E4 M a r) b .normal s
abbrev Ij(n:Nat):aq:=.c (cat Tryz.f11 (pn n))
abbrev Ia:dt:=[.b 0,Ij 7]
abbrev adQ:dt:=kl (Ii M a) (E4 M a r) Ia (cat Tryz.f11 (pn 52)) c::Ia
def Wj:AS:=⟨[(4,.bool e)],[],[],[]⟩
def PP:AS:=⟨[(0,.sl (lm bp b)),(1,.sl (lm mI v2)),(7,.sl (lm mI v2)),(8,iI (v2.length:Int)),(9,iI v4)],[],[],[]⟩
abbrev T3:Prop:=∀{v4:Int},d v4=some r→LP (Ii M a) (E4 M a r) Ia (cat Tryz.f11 (pn 52)) c (PP b v2 v4)
variable{M a r b v2 v4 e c d}{K:Kn}{n:Nat}
theorem EM(b:am K)(h:tG K n e=some r):Pw M a r [Ij 15] (Wj e):=by
 unfold tG at h;refine aJ 1 ?_;cases h;exact bw
theorem abV(g:am K)(k:T3 M a r b v2 c d)(h:xH K n b v2 d v4=some r):Pw M a r (Ij 52::adQ M a r c) (PP b v2 v4):=by
 unfold xH at h;refine ax 6 7 3 ?_;obtain⟨i,h⟩|⟨i,h⟩:=ao h
 ·refine ah 10 i (cL 8 9 1 3 5 (ai 0 ?_));obtain⟨l,h⟩:=aF h;refine au (bD mI mI l (WT) aT) (ac (ax 2 3 1 (ai 3 ?_)));obtain⟨v5,m,h⟩:=bind_some h;refine aP (VC g m) (ac ?_);obtain⟨j,h⟩|⟨j,h⟩:=ao h
  ·refine ah 17 j (aJ 9 ?_);cases h;exact bw
  ·exact ah 17 j (ag 4 (bn (k h)))
 ·refine ah 10 i (gg 2 3 6 (ai 1 ?_));obtain⟨v6,o,h⟩:=bind_some h;refine aP (VC g o) (aQ 3 1 ?_);obtain⟨e,h⟩|⟨e,h⟩:=ao h
  ·refine aD 21 e (aQ 4 1 (au (bv bp b) (aQ 8 3 ?_)));obtain⟨f,h⟩|⟨f,h⟩:=ao h
   ·exact aD 26 f (aQ 9 1 (au (bv mI v2) (ac (ag 0 (EM g h)))))
   ·exact aD 26 f (ac (ag 0 (EM g h)))
  ·exact aD 21 e (ac (ag 0 (EM g h)))
theorem agi(c:am K)(m:Nat):T3 M a r b v2 m (tD K n b v2 m):=by
 induction m with
 | zero=>intro v4 h;cases h
 | succ m d=>intro v4 h;have h:xH K n b v2 (tD K n b v2 m) v4=some r:=h;exact bj (abV c d h)
theorem Yg(c:am K)(h:Bw K n b v2=some r):aY bb 11 [.sl (lm bp b),.sl (lm mI v2)] (fun v _=>v=.bool r):=by
 refine bG (cat Tryz.f11 (pn 1)) Tryz.func11 Tryz.ntmps11 fun M a=>(bg ⟨[(0,.sl (lm bp b)),(1,.sl (lm mI v2))],[],[],[]⟩ ?_);unfold Bw at h;exact cb 12 13 7 4 (ai 1 (au (bv mI v2) (ac (ag 1 (ca (p:=pn 26) n (agi c n h))))))
end
noncomputable section
variable[GS](M:Nat→Prop)(c:aB)(r:ab×Int)(a:h8)(v2:Int)(d:Bool)(b:Int)(e:d6)(f:Bool)(g:Nat)(i:Int→d6→Option g6)
abbrev GX:Cx:=⟨bb,95,M,c⟩
abbrev IJ:=bodyPost bb Tryz.f41 (bI M c (fun v s=>v=.tup [.agg (List.set (aA ({ r.1 with Kids:=[] }:ab)) 58 (.ref 72)),iI r.2]∧look 72 s.r=some (bY r.1.Kids)))
abbrev GT(a:dt)(s:AS):=VE (GX M c) (IJ M c r) a .normal s
abbrev qn(n:Nat):aq:=.c (cat Tryz.f41 (pn n))
abbrev Ik:dt:=[.b 0,qn 127]
abbrev Hf:dt:=kl (GX M c) (IJ M c r) Ik (cat Tryz.f41 (pn 504)) g::Ik
def ahc:AS:=⟨[(0,.sl (lm bp a)),(1,iI b),(4,.ptr 4 0),(6,.ptr 6 0),(7,.int .u8 ((gD a v2).Depth)),(8,.bool d),(60,.bool f)],[(4,List.set (aA c7) 58 (.nils)),(6,List.set (aA ({ c7 with Kind:=1,Node:=(aa (10+v2)),Style:=(gD a v2).Style }:ab)) 58 (.ref 72))],[(72,(bY e))],[4,6,72]⟩
def NS:AS:=⟨[(0,.sl (lm bp a)),(1,iI b),(4,.ptr 4 0),(6,.ptr 6 0),(7,.int .u8 ((gD a v2).Depth)),(8,.bool d)],[(4,List.set (aA c7) 58 (.nils)),(6,List.set (aA ({ c7 with Kind:=1,Node:=(aa (10+v2)),Style:=(gD a v2).Style }:ab)) 58 (.ref 72))],[(72,(bY e))],[4,6,72]⟩
def afe:AS:=⟨[(0,.sl (lm bp a)),(1,iI (aa (v2+1))),(4,.ptr 4 0),(6,.ptr 6 0),(7,.int .u8 ((gD a v2).Depth)),(8,.bool d)],[(4,List.set (aA c7) 58 (.nils)),(6,List.set (aA ({ c7 with Kind:=1,Node:=(aa (10+v2)),Style:=(gD a v2).Style }:ab)) 58 (.nils))],[],[4,6]⟩
abbrev Fk:Prop:=∀{b:Int} {e:d6},i b e=some r→LP (GX M c) (IJ M c r) Ik (cat Tryz.f41 (pn 504)) g (NS a v2 d b e)
variable{M c r a v2 d b e f g i}{K:Kn}{n:Nat}
theorem LU(w:am K)(q:Fk M c r a v2 d g i)(h:mH K n a v2 d b e i f=some r):GT M c r (qn 2017::qn 1009::Hf M c r g) (ahc a v2 d b e f):=by
 unfold mH at h;obtain⟨j,h⟩|⟨j,h⟩:=ao h
 ·refine ah 60 j (bX (ks':=qn 8073::qn 4037 :: .b 1::Hf M c r g) 6 ?_);obtain⟨l,h⟩|⟨l,h⟩:=ao h
  ·refine ah 61 l (ax 4 5 2 (ai 2 ?_));obtain⟨s,t,h⟩:=bind_some h;refine aP (w.kI t) (ac (ax 2 3 1 (ai 3 (au (gt aL ([s.1]:d6) (new:=[aA s.1]) (by simp only[rl,Db,dW])) ?_))));obtain⟨u,h⟩:=aF h;exact au (cG 72 72 48 59 aL (rfl) (fV) u) (ac (ag 5 (bn (q h))))
  ·refine ah 61 l (fN 2 3 3 (bP [0,1,4,6,7,8] [4,6] [72] ?_));obtain⟨o,h⟩:=aF h;obtain⟨p,h⟩:=aF h;obtain⟨v,h⟩:=aF h;exact bQ 2 (nu 75 [.ptr 6 58,.ref 72,.sl (lm bp a),iI b,.cptr (bp (gD a b)),.cptr (List.drop 5 (bp (gD a b))),.agg (aH ((gD a b).Style)),.sl (lm bp a),iI b,.cptr (bp (gD a b)),.cptr (List.drop 2 (bp (gD a b))),.str ((gD a b).Text),.agg (List.set (aA ({ c7 with Kind:=3,Style:=(gD a b).Style,Text:=(gD a b).Text }:ab)) 58 (.nils)),.sl (lm aL [({ c7 with Kind:=3,Style:=(gD a b).Style,Text:=(gD a b).Text }:ab)])]++nu 90 [.ptr 6 58]) [] [] [g9 89 72 ⟨48,59,lm aL (e++[({ c7 with Kind:=3,Style:=(gD a b).Style,Text:=(gD a b).Text }:ab)])⟩,cf bb 95 Tryz.f41 (pn 8074) 16] (ay [.v 0 2,.v 0 1,.v 0 2,.v 0 2] (aj (ii (lo:=0) (k:=2) (dR ⟨(by kernel_rfl),(ep (bD bp bp o (eK) aT) (by kernel_rfl))⟩ (dR ⟨(by kernel_rfl),(ep (bD bp bp o (eK) aT) (by kernel_rfl))⟩ iJ))) (ay [.v 0 2,.v 0 2,.v 0 2,.v 0 2] (aj (ii (lo:=0) (k:=2) (dR ⟨(by kernel_rfl),(ep (bD bp bp p (eK) aT) (by kernel_rfl))⟩ (dR ⟨(by kernel_rfl),(ep (bD bp bp p (eK) aT) (by kernel_rfl))⟩ iJ))) (ay [.v 0 2,.v 0 2,.v 0 2] (bh (gt aL ([({ c7 with Kind:=3,Style:=(gD a b).Style,Text:=(gD a b).Text }:ab)]:d6) (new:=[aA ({ c7 with Kind:=3,Style:=(gD a b).Style,Text:=(gD a b).Text }:ab)]) (by simp only[rl,Db,dW])) (aj (dp (m:=0) (cG 89 72 48 59 aL (rfl) (fV) v)) (ay [.v 1 1] (aj (cg 1) bR))))))))) (ag 2 (bn (q h)))
 ·refine ah 60 j (aJ 8 ?_);cases h;exact pE
theorem ajl(l:am K)(j:Fk M c r a v2 d g i)(h:oo K n a v2 d i b e=some r):GT M c r (qn 504::Hf M c r g) (NS a v2 d b e):=by
 unfold oo at h;refine cb 4 5 3 2 (ai 2 (au (bv bp a) (aQ 5 2 ?_)));obtain⟨f,h⟩|⟨f,h⟩:=ao h
 ·refine aD 52 f (aQ 7 2 ?_);obtain⟨k,h⟩:=aF h;exact au (bD bp bp k (eK) aT) (ac (ag 0 (LU l j h)))
 ·exact aD 52 f (ac (ag 0 (LU l j h)))
theorem X4(f:am K)(m:Nat):Fk M c r a v2 d m (ly K n a v2 d m):=by
 induction m with
 | zero=>intro b e h;cases h
 | succ m g=>intro b e h;have h:oo K n a v2 d (ly K n a v2 d m) b e=some r:=h;exact bj (ajl f g h)
theorem HJ(b:am K)(h:oZ K n a v2 d=some r):GT M c r [qn 63] (afe a v2 d):=by
 unfold oZ at h;exact gW 4 0 3 2 (bP [0,1,4,6,7,8] [4,6] [] (Ca 72 6 58 48 59 (ag 0 (ca (p:=pn 252) n (X4 b n h)))))
theorem Ye(e:am K)(h:oG K n a v2=some r):aY bb 41 [.sl (lm bp a),iI v2] (fun v s=>v=.tup [.agg (List.set (aA ({ r.1 with Kids:=[] }:ab)) 58 (.ref 72)),iI r.2]∧look 72 s.r=some (bY r.1.Kids)):=by
 refine bG (cat Tryz.f41 (pn 1)) Tryz.func41 Tryz.ntmps41 fun M c=>(bg ⟨[(0,.sl (lm bp a)),(1,iI v2)],[],[],[]⟩ ?_);unfold oG at h;refine ax 6 7 3 (ai 4 ?_);obtain⟨f,h⟩:=aF h;refine au (bD bp bp f (eK) aT) (ac (ax 2 3 1 (ai 2 ?_)));obtain⟨g,h⟩:=aF h;refine au (bD bp bp g (eK) aT) (ac (ax 6 7 3 (ai 2 (au (bv bp a) (aQ 5 2 ?_)))));obtain⟨b,h⟩|⟨b,h⟩:=ao h
 ·refine aD 30 b (aQ 7 2 ?_);obtain⟨i,h⟩:=aF h;refine au (bD bp bp i (eK) aT) (aQ 14 6 ?_);obtain⟨d,h⟩|⟨d,h⟩:=ao h
  ·refine aD 39 d (aQ 16 2 ?_);obtain⟨j,h⟩:=aF h;exact au (bD bp bp j (eK) aT) (ac (ag 0 (HJ e h)))
  ·exact aD 39 d (ac (ag 0 (HJ e h)))
 ·exact aD 30 b (ac (ag 0 (HJ e h)))
end
end Go.Proofs.YtocgkfoifehcbaaGreat

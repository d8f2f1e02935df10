/- The runs of the functions that RelayoutFinds reaches do what their plain forms say, part 3. Made by a program. -/
import Derived.Test.YtocgkfoifehcbaaGreatRkP2
namespace Go.Proofs.YtocgkfoifehcbaaGreat
open Go.RowKit
set_option maxRecDepth 20000
set_option linter.all false
noncomputable section
variable[GS](M:Nat→Prop)(j:aA)(r:d5×ck)(z:d4)(v2:bu)(A:ck)(v4:d6)(a:Int)(g:ck)(f:d5)(i:Bool)(d:Int)(w:Bool)(q:Int)(t:ck)(u:az)(l x:Nat)(o:Int→ck→d5→Option (d5×ck))(y:Int→Option (d5×ck))
abbrev zb:Cx:=⟨bb,120,M,j⟩
abbrev A6:=bodyPost bb Tryz.f112 (bJ M j (fun v s=>v=.sl (lm aS r.1)∧cy s.o [(1,[.ref 9])]∧look 9 s.r=some (bk r.2)))
abbrev yl(a:dt)(s:AS):=VE (zb M j) (A6 M j r) a .normal s
abbrev fG(n:Nat):aq:=.c (cat Tryz.f112 (pn n))
abbrev Jc:dt:=[.b 0,fG 31]
abbrev lX:dt:=kl (zb M j) (A6 M j r) Jc (cat Tryz.f112 (pn 244)) l::Jc
abbrev FO:dt:=.b 3::fG 4009823 :: .b 2::fG 31327 :: .b 1::lX M j r l
abbrev Ql:dt:=kl (zb M j) (A6 M j r) (FO M j r l) (cat Tryz.f112 (pn 16039288)) x::(FO M j r l)
def abE:AS:=⟨[(1,.fno 113 [.cptr (bI v2),.ptr 1 0]),(5,.sl (lm aw v4)),(6,.ref 117),(8,.ptr 8 0),(9,.bool i),(10,.ptr 10 0),(11,iI q)],[(1,[.ref 9]),(8,aw (gD v4 a)),(10,aS u)],[(9,(bk t)),(117,(b6 f))],[1,8,10,9,117,1000001,1]⟩
def Zr:AS:=⟨[(1,.fno 113 [.cptr (bI v2),.ptr 1 0]),(5,.sl (lm aw v4)),(6,.ref 117),(7,iI a),(8,.ptr 8 0),(9,.bool i),(10,.ptr 10 0),(11,iI d),(81,.bool w)],[(1,[.ref 9]),(8,aw (gD v4 a)),(10,List.set (aS cR) 61 (.nils))],[(9,(bk g)),(117,(b6 f))],[1,8,10,9,117,1000001,1]⟩
def Ur:AS:=⟨[(1,.fno 113 [.cptr (bI v2),.ptr 1 0]),(5,.sl (lm aw v4)),(6,.ref 117),(7,iI a),(8,.ptr 8 0),(9,.bool i),(10,.ptr 10 0),(11,iI d)],[(1,[.ref 9]),(8,aw (gD v4 a)),(10,List.set (aS cR) 61 (.nils))],[(9,(bk g)),(117,(b6 f))],[1,8,10,9,117,1000001,1]⟩
def abx:AS:=⟨[(1,.fno 113 [.cptr (bI v2),.ptr 1 0]),(5,.sl (lm aw v4)),(6,.ref 117),(7,iI a),(8,.ptr 8 0),(9,.bool i)],[(1,[.ref 9]),(8,aw (gD v4 a))],[(9,(bk g)),(117,(b6 f))],[1,8,9,117,1000001,1]⟩
def Nb:AS:=⟨[(1,.fno 113 [.cptr (bI v2),.ptr 1 0]),(5,.sl (lm aw v4)),(6,.ref 117),(7,iI a)],[(1,[.ref 9])],[(9,(bk g)),(117,(b6 f))],[1,9,117,1000001,1]⟩
abbrev qU:Prop:=∀{a:Int} {g:ck} {f:d5},o a g f=some r→LP (zb M j) (A6 M j r) Jc (cat Tryz.f112 (pn 244)) l (Nb v2 v4 a g f)
abbrev GI:Prop:=∀{d:Int},y d=some r→LP (zb M j) (A6 M j r) (FO M j r l) (cat Tryz.f112 (pn 16039288)) x (Ur v2 v4 a g f i d)
variable{M j r z v2 A v4 a g f i d w q t u l x o y}{K:Kn}{n:Nat}
theorem Iu(m:ao K)(e:qU M j r v2 v4 l o)(h:lS K n v2 v4 a f i o q t u=some r):yl M j r (.b 2::fG 31327 :: .b 1::lX M j r l) (abE v2 v4 a f i q t u):=by
 unfold lS at h;refine fq 2 3 2 (bK [1,5,6,8,9,10,11] [1,8,10] [9,117] (bQ 3 (nu 100 [.ptr 8 4,.cptr (aB ((gD v4 a).Box)),.cptr (aB ((gD v4 a).Box)),.cptr (List.drop 1 (aB ((gD v4 a).Box))),iI (((gD v4 a).Box).Node),.ptr 8 4,.cptr (aB ((gD v4 a).Box)),.cptr (aB ((gD v4 a).Box)),.cptr (List.drop 2 (aB ((gD v4 a).Box))),.agg (aH (((gD v4 a).Box).Style)),.bool i,.ptr 10 0,.ptr 10 2,.ptr 10 59]) [] [] [cf bb 120 Tryz.f112 (pn 62654) 12,cf bb 120 Tryz.f112 (pn 62654) 14,cf bb 120 Tryz.f112 (pn 62654) 16] (ax [.v 0 1,.v 0 1,.v 0 1,.v 0 1,.v 0 1,.v 0 2,.v 0 2,.v 0 2,.v 0 2,.v 0 2,.v 0 3,.v 0 1] (aj (ce 0) (ax [.v 1 1] (aj (ce 1) (ax [.v 2 1] (aj (ce 2) bN)))))) ?_));obtain⟨g,b,h⟩:=bW h;obtain⟨k,c,h⟩:=bW h;refine bw (ks':=fG 125310::fG 125311 :: .b 1::lX M j r l) 1 ⟨[(1,.fno 113 [.cptr (bI v2),.ptr 1 0]),(5,.sl (lm aw v4)),(6,.ref 117),(10,.ptr 10 0),(11,iI q)],[(1,[.ref 9]),(10,aS ({ u with Node:=g,Style:=k,Glued:=i }:az))],[(9,(bk t)),(117,(b6 f))],[1,10,9,117,1000001,1]⟩ ?_ (by subst c;subst b;kernel_rfl)
 refine ai 3 ?_;obtain⟨d,h⟩:=aF h;exact au (cG 117 117 165 62 aS (rfl) (iW) d) (ac (ag 2 (bn (e h))))
theorem BB(s:ao K)(p:qU M j r v2 v4 l o)(q:GI M j r v2 v4 a g f i l x y)(h:lw K n v2 v4 a g f i d o y w=some r):yl M j r (fG 64157153::fG 32078577::Ql M j r l x) (Zr v2 v4 a g f i d w):=by
 unfold lw at h;obtain⟨b,h⟩|⟨b,h⟩:=am h
 ·exact ah 81 b (ag 5 (bn (q h)))
 ·refine ah 81 b (b8 (ks':=fG 4009823 :: .b 2::fG 31327 :: .b 1::lX M j r l) 5 (ai 3 ?_));obtain⟨c,h⟩:=aF h;refine au (l6 aw v4 a d 206 (.tmp 84) (some (.tmp 85)) (some (.tmp 86)) 87 (e:=210) (sz:=5) (by kernel_rfl) (by kernel_rfl) (by kernel_rfl) (by kernel_rfl) (by kernel_rfl) (by kernel_rfl) (cU) (fun k t=>by subst t;kernel_rfl) c) ?_;obtain⟨u,m,h⟩:=bind_some h;exact aK (EB s m) (ac (ag 0 (Iu s p h)))
theorem aiz(v:ao K)(m:qU M j r v2 v4 l o)(p:GI M j r v2 v4 a g f i l x y)(h:s4 K n v2 v4 a g f i o y d=some r):yl M j r (fG 16039288::Ql M j r l x) (Ur v2 v4 a g f i d):=by
 unfold s4 at h;refine cc 4 5 3 2 (bK [1,5,6,7,8,9,10,11] [1,8,10] [9,117] ?_);obtain⟨c,h⟩|⟨c,h⟩:=am h
 ·obtain⟨q,h⟩:=aF h;obtain⟨k,h⟩|⟨k,h⟩:=am h
  ·obtain⟨u,h⟩:=aF h;obtain⟨s,h⟩|⟨s,h⟩:=am h
   ·obtain⟨w,h⟩:=aF h;obtain⟨z,h⟩:=aF h;obtain⟨t,A,h⟩:=bind_some h;exact bQ 0 (nu 47 [iI d,.sl (lm aw v4),iI (v4.length:Int),.bool (decide (d<(v4.length:Int))),.bool true,.sl (lm aw v4),iI d,.cptr (aw (gD v4 d)),.cptr (List.drop 0 (aw (gD v4 d))),iI ((gD v4 d).Kind),.bool (((gD v4 d).Kind) == 1),.bool (((gD v4 d).Kind) == 1),.bool true,.sl (lm aw v4),iI d,.cptr (aw (gD v4 d)),.cptr (List.drop 1 (aw (gD v4 d))),iI ((gD v4 d).Of),.ptr 8 1,iI ((gD v4 a).Of),.bool (((gD v4 d).Of) == ((gD v4 a).Of)),.bool (((gD v4 d).Of) == ((gD v4 a).Of)),.bool true,.sl (lm aw v4),iI d,iI (aa (d-1)),.cptr (aw (gD v4 ((aa (d-1))))),.agg (aw (gD v4 ((aa (d-1))))),.sl (lm aw v4),iI d,.cptr (aw (gD v4 d)),.agg (aw (gD v4 d)),.bool t,.bool (!t),.bool (!t)]) [] [] [] (ax (vz 2) (bi (bA aw v4) (ax [.v 0 1] (aj (cS 0 51 (e:=(decide (d<(v4.length:Int)))) (b:=true) c) (ax (vz 2) (bi (bE aw aw q (cU) aT) (ax (vz 4) (aj (cS 0 59 (e:=(((gD v4 d).Kind) == 1)) (b:=true) k) (ax (vz 2) (bi (bE aw aw u (cU) aT) (ax (vz 6) (aj (cS 0 69 (e:=(((gD v4 d).Of) == ((gD v4 a).Of))) (b:=true) s) (ax (vz 3) (bi (bE aw aw w (cU) aT) (ax (vz 3) (bi (bE aw aw z (cU) aT) (ax [.v 0 1] (aj (cq 0 1 79 (ul v A)) (ax (vz 2) bN))))))))))))))))))) (ag 0 (BB v m p h))
   ·exact bQ 0 (nu 47 [iI d,.sl (lm aw v4),iI (v4.length:Int),.bool (decide (d<(v4.length:Int))),.bool true,.sl (lm aw v4),iI d,.cptr (aw (gD v4 d)),.cptr (List.drop 0 (aw (gD v4 d))),iI ((gD v4 d).Kind),.bool (((gD v4 d).Kind) == 1),.bool (((gD v4 d).Kind) == 1),.bool true,.sl (lm aw v4),iI d,.cptr (aw (gD v4 d)),.cptr (List.drop 1 (aw (gD v4 d))),iI ((gD v4 d).Of),.ptr 8 1,iI ((gD v4 a).Of),.bool (((gD v4 d).Of) == ((gD v4 a).Of)),.bool (((gD v4 d).Of) == ((gD v4 a).Of)),.bool false,bf,bf,bf,bf,bf,bf,bf,bf,bf,bf,bf,.bool false]) [] [] [] (ax (vz 2) (bi (bA aw v4) (ax [.v 0 1] (aj (cS 0 51 (e:=(decide (d<(v4.length:Int)))) (b:=true) c) (ax (vz 2) (bi (bE aw aw q (cU) aT) (ax (vz 4) (aj (cS 0 59 (e:=(((gD v4 d).Kind) == 1)) (b:=true) k) (ax (vz 2) (bi (bE aw aw u (cU) aT) (ax (vz 6) (aj (cS 0 69 (e:=(((gD v4 d).Of) == ((gD v4 a).Of))) (b:=false) s) (aj (aC 0 1) (aj (aC 0 1) (aj (aC 0 1) (aj (aC 0 1) (aj (aC 0 1) (aj (aC 0 1) (aj (aC 0 1) (aj (aC 0 1) (aj (aC 0 1) (aj (aC 0 1) (aj (aC 0 1) (ax [.v 0 1] bN)))))))))))))))))))))))) (ag 0 (BB v m p h))
  ·exact bQ 0 (nu 47 [iI d,.sl (lm aw v4),iI (v4.length:Int),.bool (decide (d<(v4.length:Int))),.bool true,.sl (lm aw v4),iI d,.cptr (aw (gD v4 d)),.cptr (List.drop 0 (aw (gD v4 d))),iI ((gD v4 d).Kind),.bool (((gD v4 d).Kind) == 1),.bool (((gD v4 d).Kind) == 1),.bool false,bf,bf,bf,bf,bf,bf,bf,bf,.bool false,.bool false,bf,bf,bf,bf,bf,bf,bf,bf,bf,bf,bf,.bool false]) [] [] [] (ax (vz 2) (bi (bA aw v4) (ax [.v 0 1] (aj (cS 0 51 (e:=(decide (d<(v4.length:Int)))) (b:=true) c) (ax (vz 2) (bi (bE aw aw q (cU) aT) (ax (vz 4) (aj (cS 0 59 (e:=(((gD v4 d).Kind) == 1)) (b:=false) k) (aj (aC 0 1) (aj (aC 0 1) (aj (aC 0 1) (aj (aC 0 1) (aj (aC 0 1) (aj (aC 0 1) (aj (aC 0 1) (aj (aC 0 1) (ax (vz 2) (aj (aC 0 1) (aj (aC 0 1) (aj (aC 0 1) (aj (aC 0 1) (aj (aC 0 1) (aj (aC 0 1) (aj (aC 0 1) (aj (aC 0 1) (aj (aC 0 1) (aj (aC 0 1) (aj (aC 0 1) (ax [.v 0 1] bN))))))))))))))))))))))))))))) (ag 0 (BB v m p h))
 ·exact bQ 0 (nu 47 [iI d,.sl (lm aw v4),iI (v4.length:Int),.bool (decide (d<(v4.length:Int))),.bool false,bf,bf,bf,bf,bf,bf,.bool false,.bool false,bf,bf,bf,bf,bf,bf,bf,bf,.bool false,.bool false,bf,bf,bf,bf,bf,bf,bf,bf,bf,bf,bf,.bool false]) [] [] [] (ax (vz 2) (bi (bA aw v4) (ax [.v 0 1] (aj (cS 0 51 (e:=(decide (d<(v4.length:Int)))) (b:=false) c) (aj (aC 0 1) (aj (aC 0 1) (aj (aC 0 1) (aj (aC 0 1) (aj (aC 0 1) (aj (aC 0 1) (ax (vz 2) (aj (aC 0 1) (aj (aC 0 1) (aj (aC 0 1) (aj (aC 0 1) (aj (aC 0 1) (aj (aC 0 1) (aj (aC 0 1) (aj (aC 0 1) (ax (vz 2) (aj (aC 0 1) (aj (aC 0 1) (aj (aC 0 1) (aj (aC 0 1) (aj (aC 0 1) (aj (aC 0 1) (aj (aC 0 1) (aj (aC 0 1) (aj (aC 0 1) (aj (aC 0 1) (aj (aC 0 1) (ax [.v 0 1] bN)))))))))))))))))))))))))))))))) (ag 0 (BB v m p h))
theorem Zf(c:ao K)(b:qU M j r v2 v4 l o)(m:Nat):GI M j r v2 v4 a g f i l m (qe K n v2 v4 a g f i o m):=by
 induction m with
 | zero=>intro d h;cases h
 | succ m e=>intro d h;have h:s4 K n v2 v4 a g f i o (qe K n v2 v4 a g f i o m) d=some r:=h;exact bh (aiz c b e h)
theorem FQ(e:ao K)(d:qU M j r v2 v4 l o)(h:rH K n v2 v4 a g f o i=some r):yl M j r (fG 3915 :: .b 1::lX M j r l) (abx v2 v4 a g f i):=by
 unfold rH at h;obtain⟨s,k,h⟩:=bW h;refine bw (ks':=fG 250613 :: .b 2::fG 31327 :: .b 1::lX M j r l) 10 ⟨[(1,.fno 113 [.cptr (bI v2),.ptr 1 0]),(5,.sl (lm aw v4)),(6,.ref 117),(7,iI a),(8,.ptr 8 0),(9,.bool i),(10,.ptr 10 0),(11,iI (aa (a+1))),(46,iI ((gD v4 a).Kind)),(89,.bool s)],[(1,[.ref 9]),(8,aw (gD v4 a)),(10,List.set (aS cR) 61 (.nils))],[(9,(bk g)),(117,(b6 f))],[1,8,10,9,117,1000001,1]⟩ ?_ (by subst k;kernel_rfl);obtain⟨b,h⟩|⟨b,h⟩:=am h
 ·exact ah 89 b (b8 (ks':=.b 2::fG 31327 :: .b 1::lX M j r l) 2 (nz 10 (ag 0 (Iu e d h))))
 ·refine ah 89 b ?_;obtain⟨t,m,h⟩:=bW h;refine bw (ks':=fG 1002455 :: .b 2::fG 31327 :: .b 1::lX M j r l) 3 ⟨[(1,.fno 113 [.cptr (bI v2),.ptr 1 0]),(5,.sl (lm aw v4)),(6,.ref 117),(7,iI a),(8,.ptr 8 0),(9,.bool i),(10,.ptr 10 0),(11,iI (aa (a+1))),(92,.bool t)],[(1,[.ref 9]),(8,aw (gD v4 a)),(10,List.set (aS cR) 61 (.nils))],[(9,(bk g)),(117,(b6 f))],[1,8,10,9,117,1000001,1]⟩ ?_ (by subst m;kernel_rfl);obtain⟨c,h⟩|⟨c,h⟩:=am h
  ·refine ah 92 c (bg 2 1 (ai 5 ?_));obtain⟨u,q,h⟩:=bind_some h;exact jR 9 9 [(1,1)] (ajQ e q) (ac (ag 0 (Iu e d h)))
  ·exact ah 92 c (ag 3 (cd (p:=pn 8019644) n (Zf e d n h)))
theorem ZZ(q:ao K)(k:qU M j r v2 v4 l o)(h:tk K n v2 v4 o a g f=some r):yl M j r (fG 244::lX M j r l) (Nb v2 v4 a g f):=by
 unfold tk at h;refine cc 4 5 3 2 (ai 2 (au (bA aw v4) (ac ?_)));obtain⟨d,h⟩|⟨d,h⟩:=am h
 ·refine ah 17 d (b8 (ks':=fG 1956::fG 1957 :: .b 1::lX M j r l) 4 (ai 2 ?_));obtain⟨s,h⟩:=aF h;refine au (bE aw aw s (cU) aT) (ac (av 2 3 1 (bK [1,5,6,7,8] [1,8] [9,117] ?_)));obtain⟨c,h⟩|⟨c,h⟩:=am h
  ·obtain⟨p,h⟩:=aF h;obtain⟨i,h⟩|⟨i,h⟩:=am h
   ·obtain⟨t,h⟩:=aF h;obtain⟨m,u,h⟩:=bind_some h;exact bQ 1 (nu 22 [iI a,.bool (decide (a>0)),.bool true,.sl (lm aw v4),iI a,iI (aa (a-1)),.cptr (aw (gD v4 ((aa (a-1))))),.cptr (List.drop 0 (aw (gD v4 ((aa (a-1)))))),iI ((gD v4 ((aa (a-1)))).Kind),.bool (((gD v4 ((aa (a-1)))).Kind) != 2),.bool (((gD v4 ((aa (a-1)))).Kind) != 2),.bool true,.sl (lm aw v4),iI a,iI (aa (a-1)),.cptr (aw (gD v4 ((aa (a-1))))),.agg (aw (gD v4 ((aa (a-1))))),.agg (aw (gD v4 a)),.bool m,.bool (!m),.bool (!m)]) [] [] [cf bb 120 Tryz.f112 (pn 3914) 21] (ax (vz 2) (aj (cS 0 24 (e:=(decide (a>0))) (b:=true) c) (ax (vz 3) (bi (bE aw aw p (cU) aT) (ax (vz 4) (aj (cS 0 33 (e:=(((gD v4 ((aa (a-1)))).Kind) != 2)) (b:=true) i) (ax (vz 3) (bi (bE aw aw t (cU) aT) (ax (vz 2) (aj (cq 0 1 40 (ul q u)) (ax (vz 2) (aj (ce 0) bN)))))))))))) (ag 0 (FQ q k h))
   ·exact bQ 1 (nu 22 [iI a,.bool (decide (a>0)),.bool true,.sl (lm aw v4),iI a,iI (aa (a-1)),.cptr (aw (gD v4 ((aa (a-1))))),.cptr (List.drop 0 (aw (gD v4 ((aa (a-1)))))),iI ((gD v4 ((aa (a-1)))).Kind),.bool (((gD v4 ((aa (a-1)))).Kind) != 2),.bool (((gD v4 ((aa (a-1)))).Kind) != 2),.bool false,bf,bf,bf,bf,bf,bf,bf,bf,.bool false]) [] [] [cf bb 120 Tryz.f112 (pn 3914) 21] (ax (vz 2) (aj (cS 0 24 (e:=(decide (a>0))) (b:=true) c) (ax (vz 3) (bi (bE aw aw p (cU) aT) (ax (vz 4) (aj (cS 0 33 (e:=(((gD v4 ((aa (a-1)))).Kind) != 2)) (b:=false) i) (aj (aC 0 1) (aj (aC 0 1) (aj (aC 0 1) (aj (aC 0 1) (aj (aC 0 1) (aj (aC 0 1) (aj (aC 0 1) (aj (aC 0 1) (ax [.v 0 1] (aj (ce 0) bN)))))))))))))))) (ag 0 (FQ q k h))
  ·exact bQ 1 (nu 22 [iI a,.bool (decide (a>0)),.bool false,bf,bf,bf,bf,bf,bf,bf,.bool false,.bool false,bf,bf,bf,bf,bf,bf,bf,bf,.bool false]) [] [] [cf bb 120 Tryz.f112 (pn 3914) 21] (ax (vz 2) (aj (cS 0 24 (e:=(decide (a>0))) (b:=false) c) (aj (aC 0 1) (aj (aC 0 1) (aj (aC 0 1) (aj (aC 0 1) (aj (aC 0 1) (aj (aC 0 1) (aj (aC 0 1) (ax (vz 2) (aj (aC 0 1) (aj (aC 0 1) (aj (aC 0 1) (aj (aC 0 1) (aj (aC 0 1) (aj (aC 0 1) (aj (aC 0 1) (aj (aC 0 1) (ax [.v 0 1] (aj (ce 0) bN)))))))))))))))))))) (ag 0 (FQ q k h))
 ·refine ah 17 d (aL 8 (iR 117 ?_));cases h;exact fa
theorem agN(b:ao K)(m:Nat):qU M j r v2 v4 m (qE K n v2 v4 m):=by
 induction m with
 | zero=>intro a g f h;cases h
 | succ m c=>intro a g f h;have h:tk K n v2 v4 (qE K n v2 v4 m) a g f=some r:=h;exact bh (ZZ b c h)
theorem aeY(a:ao K)(h:ux K n z v2 A=some r):jw bb 112 [.sl (lm aM z),.fno 113 [.cptr (bI v2),.ptr 1 0]] [(1,[.ref 9])] 9 (bk A) [9,1,1000001] (fun v s=>v=.sl (lm aS r.1)∧cy s.o [(1,[.ref 9])]∧look 9 s.r=some (bk r.2)):=by
 refine m9 (c:=cat Tryz.f112 (pn 1)) amr (by kernel_rfl) _ amp (kc (by kernel_rfl)) fun M j=>(bd ⟨[(0,.sl (lm aM z)),(1,.fno 113 [.cptr (bI v2),.ptr 1 0])],[(1,[.ref 9])],[(9,(bk A))],[9,1,1000001]⟩ ?_);unfold ux at h;refine av 6 7 3 (ai 1 ?_);obtain⟨v4,b,h⟩:=bind_some h;exact eS 1013 (Jz a b) (eX 400003) (ac (gn 26 0 7 6 (bK [1,5,6,7] [1] [9,1013] (iR 1013 (eL 117 6 165 62 (ag 0 (cd (p:=pn 122) n (agN a n h))))))))
end
noncomputable section
variable[GS](M:Nat→Prop)(l:aA)(r:d5×Int×ck)(B:d4)(v2:Int)(C:ck)(v4:d6)(a g:Int)(i:ck)(f:d5)(j:Bool)(d:Int)(y:Bool)(t u:Int)(w:ck)(x:az)(o z:Nat)(q:Int→Int→ck→d5→Option (d5×Int×ck))(A:Int→Option (d5×Int×ck))
abbrev AO:Cx:=⟨bb,120,M,l⟩
abbrev zD:=bodyPost bb Tryz.f112 (bJ M l (fun v s=>v=.sl (lm aS r.1)∧cy s.o [(1,[iI r.2.1]),(2,[.ref 9])]∧look 9 s.r=some (bk r.2.2)))
abbrev y6(a:dt)(s:AS):=VE (AO M l) (zD M l r) a .normal s
abbrev fI(n:Nat):aq:=.c (cat Tryz.f112 (pn n))
abbrev HV:dt:=[.b 0,fI 31]
abbrev lT:dt:=kl (AO M l) (zD M l r) HV (cat Tryz.f112 (pn 244)) o::HV
abbrev HX:dt:=.b 3::fI 4009823 :: .b 2::fI 31327 :: .b 1::lT M l r o
abbrev Nn:dt:=kl (AO M l) (zD M l r) (HX M l r o) (cat Tryz.f112 (pn 16039288)) z::(HX M l r o)
def ac7:AS:=⟨[(1,.fno 114 [.ptr 1 0,.ptr 2 0]),(5,.sl (lm aw v4)),(6,.ref 117),(8,.ptr 8 0),(9,.bool j),(10,.ptr 10 0),(11,iI t)],[(1,[iI u]),(2,[.ref 9]),(8,aw (gD v4 a)),(10,aS x)],[(9,(bk w)),(117,(b6 f))],[1,2,8,10,9,117,1000001,1,1000002,2]⟩
def Ye:AS:=⟨[(1,.fno 114 [.ptr 1 0,.ptr 2 0]),(5,.sl (lm aw v4)),(6,.ref 117),(7,iI a),(8,.ptr 8 0),(9,.bool j),(10,.ptr 10 0),(11,iI d),(81,.bool y)],[(1,[iI g]),(2,[.ref 9]),(8,aw (gD v4 a)),(10,List.set (aS cR) 61 (.nils))],[(9,(bk i)),(117,(b6 f))],[1,2,8,10,9,117,1000001,1,1000002,2]⟩
def Rn:AS:=⟨[(1,.fno 114 [.ptr 1 0,.ptr 2 0]),(5,.sl (lm aw v4)),(6,.ref 117),(7,iI a),(8,.ptr 8 0),(9,.bool j),(10,.ptr 10 0),(11,iI d)],[(1,[iI g]),(2,[.ref 9]),(8,aw (gD v4 a)),(10,List.set (aS cR) 61 (.nils))],[(9,(bk i)),(117,(b6 f))],[1,2,8,10,9,117,1000001,1,1000002,2]⟩
def aam:AS:=⟨[(1,.fno 114 [.ptr 1 0,.ptr 2 0]),(5,.sl (lm aw v4)),(6,.ref 117),(7,iI a),(8,.ptr 8 0),(9,.bool j)],[(1,[iI g]),(2,[.ref 9]),(8,aw (gD v4 a))],[(9,(bk i)),(117,(b6 f))],[1,2,8,9,117,1000001,1,1000002,2]⟩
def RL:AS:=⟨[(1,.fno 114 [.ptr 1 0,.ptr 2 0]),(5,.sl (lm aw v4)),(6,.ref 117),(7,iI a)],[(1,[iI g]),(2,[.ref 9])],[(9,(bk i)),(117,(b6 f))],[1,2,9,117,1000001,1,1000002,2]⟩
abbrev qm:Prop:=∀{a:Int} {g:Int} {i:ck} {f:d5},q a g i f=some r→LP (AO M l) (zD M l r) HV (cat Tryz.f112 (pn 244)) o (RL v4 a g i f)
abbrev Hx:Prop:=∀{d:Int},A d=some r→LP (AO M l) (zD M l r) (HX M l r o) (cat Tryz.f112 (pn 16039288)) z (Rn v4 a g i f j d)
variable{M l r B v2 C v4 a g i f j d y t u w x o z q A}{K:Kn}{n:Nat}
theorem JN(k:ao K)(e:qm M l r v4 o q)(h:lR K n v4 a f j q t u w x=some r):y6 M l r (.b 2::fI 31327 :: .b 1::lT M l r o) (ac7 v4 a f j t u w x):=by
 unfold lR at h;refine fq 2 3 2 (bK [1,5,6,8,9,10,11] [1,2,8,10] [9,117] (bQ 3 (nu 100 [.ptr 8 4,.cptr (aB ((gD v4 a).Box)),.cptr (aB ((gD v4 a).Box)),.cptr (List.drop 1 (aB ((gD v4 a).Box))),iI (((gD v4 a).Box).Node),.ptr 8 4,.cptr (aB ((gD v4 a).Box)),.cptr (aB ((gD v4 a).Box)),.cptr (List.drop 2 (aB ((gD v4 a).Box))),.agg (aH (((gD v4 a).Box).Style)),.bool j,.ptr 10 0,.ptr 10 2,.ptr 10 59]) [] [] [cf bb 120 Tryz.f112 (pn 62654) 12,cf bb 120 Tryz.f112 (pn 62654) 14,cf bb 120 Tryz.f112 (pn 62654) 16] (ax [.v 0 1,.v 0 1,.v 0 1,.v 0 1,.v 0 1,.v 0 2,.v 0 2,.v 0 2,.v 0 2,.v 0 2,.v 0 3,.v 0 1] (aj (ce 0) (ax [.v 1 1] (aj (ce 1) (ax [.v 2 1] (aj (ce 2) bN)))))) ?_));obtain⟨g,b,h⟩:=bW h;obtain⟨i,c,h⟩:=bW h;refine bw (ks':=fI 125310::fI 125311 :: .b 1::lT M l r o) 1 ⟨[(1,.fno 114 [.ptr 1 0,.ptr 2 0]),(5,.sl (lm aw v4)),(6,.ref 117),(10,.ptr 10 0),(11,iI t)],[(1,[iI u]),(2,[.ref 9]),(10,aS ({ x with Node:=g,Style:=i,Glued:=j }:az))],[(9,(bk w)),(117,(b6 f))],[1,2,10,9,117,1000001,1,1000002,2]⟩ ?_ (by subst c;subst b;kernel_rfl)
 refine ai 3 ?_;obtain⟨d,h⟩:=aF h;exact au (cG 117 117 165 62 aS (rfl) (iW) d) (ac (ag 2 (bn (e h))))
theorem D0(t:ao K)(p:qm M l r v4 o q)(s:Hx M l r v4 a g i f j o z A)(h:lQ K n v4 a g i f j d q A y=some r):y6 M l r (fI 64157153::fI 32078577::Nn M l r o z) (Ye v4 a g i f j d y):=by
 unfold lQ at h;obtain⟨b,h⟩|⟨b,h⟩:=am h
 ·exact ah 81 b (ag 5 (bn (s h)))
 ·refine ah 81 b (b8 (ks':=fI 4009823 :: .b 2::fI 31327 :: .b 1::lT M l r o) 5 (ai 3 ?_));obtain⟨c,h⟩:=aF h;refine au (l6 aw v4 a d 206 (.tmp 84) (some (.tmp 85)) (some (.tmp 86)) 87 (e:=210) (sz:=5) (by kernel_rfl) (by kernel_rfl) (by kernel_rfl) (by kernel_rfl) (by kernel_rfl) (by kernel_rfl) (cU) (fun k u=>by subst u;kernel_rfl) c) ?_;obtain⟨v,m,h⟩:=bind_some h;exact aK (EB t m) (ac (ag 0 (JN t p h)))
theorem ZR(w:ao K)(m:qm M l r v4 o q)(p:Hx M l r v4 a g i f j o z A)(h:sn K n v4 a g i f j q A d=some r):y6 M l r (fI 16039288::Nn M l r o z) (Rn v4 a g i f j d):=by
 unfold sn at h;refine cc 4 5 3 2 (bK [1,5,6,7,8,9,10,11] [1,2,8,10] [9,117] ?_);obtain⟨c,h⟩|⟨c,h⟩:=am h
 ·obtain⟨s,h⟩:=aF h;obtain⟨k,h⟩|⟨k,h⟩:=am h
  ·obtain⟨v,h⟩:=aF h;obtain⟨t,h⟩|⟨t,h⟩:=am h
   ·obtain⟨x,h⟩:=aF h;obtain⟨y,h⟩:=aF h;obtain⟨u,B,h⟩:=bind_some h;exact bQ 0 (nu 47 [iI d,.sl (lm aw v4),iI (v4.length:Int),.bool (decide (d<(v4.length:Int))),.bool true,.sl (lm aw v4),iI d,.cptr (aw (gD v4 d)),.cptr (List.drop 0 (aw (gD v4 d))),iI ((gD v4 d).Kind),.bool (((gD v4 d).Kind) == 1),.bool (((gD v4 d).Kind) == 1),.bool true,.sl (lm aw v4),iI d,.cptr (aw (gD v4 d)),.cptr (List.drop 1 (aw (gD v4 d))),iI ((gD v4 d).Of),.ptr 8 1,iI ((gD v4 a).Of),.bool (((gD v4 d).Of) == ((gD v4 a).Of)),.bool (((gD v4 d).Of) == ((gD v4 a).Of)),.bool true,.sl (lm aw v4),iI d,iI (aa (d-1)),.cptr (aw (gD v4 ((aa (d-1))))),.agg (aw (gD v4 ((aa (d-1))))),.sl (lm aw v4),iI d,.cptr (aw (gD v4 d)),.agg (aw (gD v4 d)),.bool u,.bool (!u),.bool (!u)]) [] [] [] (ax (vz 2) (bi (bA aw v4) (ax [.v 0 1] (aj (cS 0 51 (e:=(decide (d<(v4.length:Int)))) (b:=true) c) (ax (vz 2) (bi (bE aw aw s (cU) aT) (ax (vz 4) (aj (cS 0 59 (e:=(((gD v4 d).Kind) == 1)) (b:=true) k) (ax (vz 2) (bi (bE aw aw v (cU) aT) (ax (vz 6) (aj (cS 0 69 (e:=(((gD v4 d).Of) == ((gD v4 a).Of))) (b:=true) t) (ax (vz 3) (bi (bE aw aw x (cU) aT) (ax (vz 3) (bi (bE aw aw y (cU) aT) (ax [.v 0 1] (aj (cq 0 1 79 (ul w B)) (ax (vz 2) bN))))))))))))))))))) (ag 0 (D0 w m p h))
   ·exact bQ 0 (nu 47 [iI d,.sl (lm aw v4),iI (v4.length:Int),.bool (decide (d<(v4.length:Int))),.bool true,.sl (lm aw v4),iI d,.cptr (aw (gD v4 d)),.cptr (List.drop 0 (aw (gD v4 d))),iI ((gD v4 d).Kind),.bool (((gD v4 d).Kind) == 1),.bool (((gD v4 d).Kind) == 1),.bool true,.sl (lm aw v4),iI d,.cptr (aw (gD v4 d)),.cptr (List.drop 1 (aw (gD v4 d))),iI ((gD v4 d).Of),.ptr 8 1,iI ((gD v4 a).Of),.bool (((gD v4 d).Of) == ((gD v4 a).Of)),.bool (((gD v4 d).Of) == ((gD v4 a).Of)),.bool false,bf,bf,bf,bf,bf,bf,bf,bf,bf,bf,bf,.bool false]) [] [] [] (ax (vz 2) (bi (bA aw v4) (ax [.v 0 1] (aj (cS 0 51 (e:=(decide (d<(v4.length:Int)))) (b:=true) c) (ax (vz 2) (bi (bE aw aw s (cU) aT) (ax (vz 4) (aj (cS 0 59 (e:=(((gD v4 d).Kind) == 1)) (b:=true) k) (ax (vz 2) (bi (bE aw aw v (cU) aT) (ax (vz 6) (aj (cS 0 69 (e:=(((gD v4 d).Of) == ((gD v4 a).Of))) (b:=false) t) (aj (aC 0 1) (aj (aC 0 1) (aj (aC 0 1) (aj (aC 0 1) (aj (aC 0 1) (aj (aC 0 1) (aj (aC 0 1) (aj (aC 0 1) (aj (aC 0 1) (aj (aC 0 1) (aj (aC 0 1) (ax [.v 0 1] bN)))))))))))))))))))))))) (ag 0 (D0 w m p h))
  ·exact bQ 0 (nu 47 [iI d,.sl (lm aw v4),iI (v4.length:Int),.bool (decide (d<(v4.length:Int))),.bool true,.sl (lm aw v4),iI d,.cptr (aw (gD v4 d)),.cptr (List.drop 0 (aw (gD v4 d))),iI ((gD v4 d).Kind),.bool (((gD v4 d).Kind) == 1),.bool (((gD v4 d).Kind) == 1),.bool false,bf,bf,bf,bf,bf,bf,bf,bf,.bool false,.bool false,bf,bf,bf,bf,bf,bf,bf,bf,bf,bf,bf,.bool false]) [] [] [] (ax (vz 2) (bi (bA aw v4) (ax [.v 0 1] (aj (cS 0 51 (e:=(decide (d<(v4.length:Int)))) (b:=true) c) (ax (vz 2) (bi (bE aw aw s (cU) aT) (ax (vz 4) (aj (cS 0 59 (e:=(((gD v4 d).Kind) == 1)) (b:=false) k) (aj (aC 0 1) (aj (aC 0 1) (aj (aC 0 1) (aj (aC 0 1) (aj (aC 0 1) (aj (aC 0 1) (aj (aC 0 1) (aj (aC 0 1) (ax (vz 2) (aj (aC 0 1) (aj (aC 0 1) (aj (aC 0 1) (aj (aC 0 1) (aj (aC 0 1) (aj (aC 0 1) (aj (aC 0 1) (aj (aC 0 1) (aj (aC 0 1) (aj (aC 0 1) (aj (aC 0 1) (ax [.v 0 1] bN))))))))))))))))))))))))))))) (ag 0 (D0 w m p h))
 ·exact bQ 0 (nu 47 [iI d,.sl (lm aw v4),iI (v4.length:Int),.bool (decide (d<(v4.length:Int))),.bool false,bf,bf,bf,bf,bf,bf,.bool false,.bool false,bf,bf,bf,bf,bf,bf,bf,bf,.bool false,.bool false,bf,bf,bf,bf,bf,bf,bf,bf,bf,bf,bf,.bool false]) [] [] [] (ax (vz 2) (bi (bA aw v4) (ax [.v 0 1] (aj (cS 0 51 (e:=(decide (d<(v4.length:Int)))) (b:=false) c) (aj (aC 0 1) (aj (aC 0 1) (aj (aC 0 1) (aj (aC 0 1) (aj (aC 0 1) (aj (aC 0 1) (ax (vz 2) (aj (aC 0 1) (aj (aC 0 1) (aj (aC 0 1) (aj (aC 0 1) (aj (aC 0 1) (aj (aC 0 1) (aj (aC 0 1) (aj (aC 0 1) (ax (vz 2) (aj (aC 0 1) (aj (aC 0 1) (aj (aC 0 1) (aj (aC 0 1) (aj (aC 0 1) (aj (aC 0 1) (aj (aC 0 1) (aj (aC 0 1) (aj (aC 0 1) (aj (aC 0 1) (aj (aC 0 1) (ax [.v 0 1] bN)))))))))))))))))))))))))))))))) (ag 0 (D0 w m p h))
theorem adY(c:ao K)(b:qm M l r v4 o q)(m:Nat):Hx M l r v4 a g i f j o m (pO K n v4 a g i f j q m):=by
 induction m with
 | zero=>intro d h;cases h
 | succ m e=>intro d h;have h:sn K n v4 a g i f j q (pO K n v4 a g i f j q m) d=some r:=h;exact bh (ZR c b e h)
theorem Ff(e:ao K)(d:qm M l r v4 o q)(h:pe K n v4 a g i f q j=some r):y6 M l r (fI 3915 :: .b 1::lT M l r o) (aam v4 a g i f j):=by
 unfold pe at h;obtain⟨t,k,h⟩:=bW h;refine bw (ks':=fI 250613 :: .b 2::fI 31327 :: .b 1::lT M l r o) 10 ⟨[(1,.fno 114 [.ptr 1 0,.ptr 2 0]),(5,.sl (lm aw v4)),(6,.ref 117),(7,iI a),(8,.ptr 8 0),(9,.bool j),(10,.ptr 10 0),(11,iI (aa (a+1))),(46,iI ((gD v4 a).Kind)),(89,.bool t)],[(1,[iI g]),(2,[.ref 9]),(8,aw (gD v4 a)),(10,List.set (aS cR) 61 (.nils))],[(9,(bk i)),(117,(b6 f))],[1,2,8,10,9,117,1000001,1,1000002,2]⟩ ?_ (by subst k;kernel_rfl);obtain⟨b,h⟩|⟨b,h⟩:=am h
 ·exact ah 89 b (b8 (ks':=.b 2::fI 31327 :: .b 1::lT M l r o) 2 (nz 10 (ag 0 (JN e d h))))
 ·refine ah 89 b ?_;obtain⟨u,m,h⟩:=bW h;refine bw (ks':=fI 1002455 :: .b 2::fI 31327 :: .b 1::lT M l r o) 3 ⟨[(1,.fno 114 [.ptr 1 0,.ptr 2 0]),(5,.sl (lm aw v4)),(6,.ref 117),(7,iI a),(8,.ptr 8 0),(9,.bool j),(10,.ptr 10 0),(11,iI (aa (a+1))),(92,.bool u)],[(1,[iI g]),(2,[.ref 9]),(8,aw (gD v4 a)),(10,List.set (aS cR) 61 (.nils))],[(9,(bk i)),(117,(b6 f))],[1,2,8,10,9,117,1000001,1,1000002,2]⟩ ?_ (by subst m;kernel_rfl);obtain⟨c,h⟩|⟨c,h⟩:=am h
  ·refine ah 92 c (bg 2 1 (ai 5 ?_));obtain⟨v,s,h⟩:=bind_some h;exact jR 9 9 [(1,1),(2,2)] (aex e s) (ac (ag 0 (JN e d h)))
  ·exact ah 92 c (ag 3 (cd (p:=pn 8019644) n (adY e d n h)))
theorem ajX(s:ao K)(k:qm M l r v4 o q)(h:vx K n v4 q a g i f=some r):y6 M l r (fI 244::lT M l r o) (RL v4 a g i f):=by
 unfold vx at h;refine cc 4 5 3 2 (ai 2 (au (bA aw v4) (ac ?_)));obtain⟨d,h⟩|⟨d,h⟩:=am h
 ·refine ah 17 d (b8 (ks':=fI 1956::fI 1957 :: .b 1::lT M l r o) 4 (ai 2 ?_));obtain⟨t,h⟩:=aF h;refine au (bE aw aw t (cU) aT) (ac (av 2 3 1 (bK [1,5,6,7,8] [1,2,8] [9,117] ?_)));obtain⟨c,h⟩|⟨c,h⟩:=am h
  ·obtain⟨p,h⟩:=aF h;obtain⟨j,h⟩|⟨j,h⟩:=am h
   ·obtain⟨u,h⟩:=aF h;obtain⟨m,v,h⟩:=bind_some h;exact bQ 1 (nu 22 [iI a,.bool (decide (a>0)),.bool true,.sl (lm aw v4),iI a,iI (aa (a-1)),.cptr (aw (gD v4 ((aa (a-1))))),.cptr (List.drop 0 (aw (gD v4 ((aa (a-1)))))),iI ((gD v4 ((aa (a-1)))).Kind),.bool (((gD v4 ((aa (a-1)))).Kind) != 2),.bool (((gD v4 ((aa (a-1)))).Kind) != 2),.bool true,.sl (lm aw v4),iI a,iI (aa (a-1)),.cptr (aw (gD v4 ((aa (a-1))))),.agg (aw (gD v4 ((aa (a-1))))),.agg (aw (gD v4 a)),.bool m,.bool (!m),.bool (!m)]) [] [] [cf bb 120 Tryz.f112 (pn 3914) 21] (ax (vz 2) (aj (cS 0 24 (e:=(decide (a>0))) (b:=true) c) (ax (vz 3) (bi (bE aw aw p (cU) aT) (ax (vz 4) (aj (cS 0 33 (e:=(((gD v4 ((aa (a-1)))).Kind) != 2)) (b:=true) j) (ax (vz 3) (bi (bE aw aw u (cU) aT) (ax (vz 2) (aj (cq 0 1 40 (ul s v)) (ax (vz 2) (aj (ce 0) bN)))))))))))) (ag 0 (Ff s k h))
   ·exact bQ 1 (nu 22 [iI a,.bool (decide (a>0)),.bool true,.sl (lm aw v4),iI a,iI (aa (a-1)),.cptr (aw (gD v4 ((aa (a-1))))),.cptr (List.drop 0 (aw (gD v4 ((aa (a-1)))))),iI ((gD v4 ((aa (a-1)))).Kind),.bool (((gD v4 ((aa (a-1)))).Kind) != 2),.bool (((gD v4 ((aa (a-1)))).Kind) != 2),.bool false,bf,bf,bf,bf,bf,bf,bf,bf,.bool false]) [] [] [cf bb 120 Tryz.f112 (pn 3914) 21] (ax (vz 2) (aj (cS 0 24 (e:=(decide (a>0))) (b:=true) c) (ax (vz 3) (bi (bE aw aw p (cU) aT) (ax (vz 4) (aj (cS 0 33 (e:=(((gD v4 ((aa (a-1)))).Kind) != 2)) (b:=false) j) (aj (aC 0 1) (aj (aC 0 1) (aj (aC 0 1) (aj (aC 0 1) (aj (aC 0 1) (aj (aC 0 1) (aj (aC 0 1) (aj (aC 0 1) (ax [.v 0 1] (aj (ce 0) bN)))))))))))))))) (ag 0 (Ff s k h))
  ·exact bQ 1 (nu 22 [iI a,.bool (decide (a>0)),.bool false,bf,bf,bf,bf,bf,bf,bf,.bool false,.bool false,bf,bf,bf,bf,bf,bf,bf,bf,.bool false]) [] [] [cf bb 120 Tryz.f112 (pn 3914) 21] (ax (vz 2) (aj (cS 0 24 (e:=(decide (a>0))) (b:=false) c) (aj (aC 0 1) (aj (aC 0 1) (aj (aC 0 1) (aj (aC 0 1) (aj (aC 0 1) (aj (aC 0 1) (aj (aC 0 1) (ax (vz 2) (aj (aC 0 1) (aj (aC 0 1) (aj (aC 0 1) (aj (aC 0 1) (aj (aC 0 1) (aj (aC 0 1) (aj (aC 0 1) (aj (aC 0 1) (ax [.v 0 1] (aj (ce 0) bN)))))))))))))))))))) (ag 0 (Ff s k h))
 ·refine ah 17 d (aL 8 (iR 117 ?_));cases h;exact fa
theorem WU(b:ao K)(m:Nat):qm M l r v4 m (qV K n v4 m):=by
 induction m with
 | zero=>intro a g i f h;cases h
 | succ m c=>intro a g i f h;have h:vx K n v4 (qV K n v4 m) a g i f=some r:=h;exact bh (ajX b c h)
theorem ajG(a:ao K)(h:sB K n B v2 C=some r):jw bb 112 [.sl (lm aM B),.fno 114 [.ptr 1 0,.ptr 2 0]] [(1,[iI v2]),(2,[.ref 9])] 9 (bk C) [9,1,2,1000001,1000002] (fun v s=>v=.sl (lm aS r.1)∧cy s.o [(1,[iI r.2.1]),(2,[.ref 9])]∧look 9 s.r=some (bk r.2.2)):=by
 refine m9 (c:=cat Tryz.f112 (pn 1)) amr (by kernel_rfl) _ amp (kc (by kernel_rfl)) fun M l=>(bd ⟨[(0,.sl (lm aM B)),(1,.fno 114 [.ptr 1 0,.ptr 2 0])],[(1,[iI v2]),(2,[.ref 9])],[(9,(bk C))],[9,1,2,1000001,1000002]⟩ ?_);unfold sB at h;refine av 6 7 3 (ai 1 ?_);obtain⟨v4,b,h⟩:=bind_some h;exact eS 1013 (Jz a b) (eX 400003) (ac (gn 26 0 7 6 (bK [1,5,6,7] [1,2] [9,1013] (iR 1013 (eL 117 6 165 62 (ag 0 (cd (p:=pn 122) n (WU a n h))))))))
end
noncomputable section
variable[GS](M:Nat→Prop)(c:aA)(r:Int×Int)(A:d4)(v2:aI)(z:bu)(v4:d5×ck)(v5:d5×Int×ck)(d g l o b a f:Int)(q:Bool)(t:Int)(u i w:Nat)(x j:Int→Int→Option em)(y:Int→Option em)
abbrev pU:Cx:=⟨bb,74,M,c⟩
abbrev rE:=bodyPost bb Tryz.f55 (bJ M c (fun v _=>v=.tup [iI r.1,iI r.2]))
abbrev uf(a:dt)(s:AS):=VE (pU M c) (rE M c r) a .normal s
abbrev kh(n:Nat):aq:=.c (cat Tryz.f55 (pn n))
abbrev Jw:dt:=[.b 2,kh 255]
abbrev GA:dt:=kl (pU M c) (rE M c r) Jw (cat Tryz.f55 (pn 2036)) i::Jw
abbrev F4:dt:=[.b 0,kh 127]
abbrev IQ:dt:=kl (pU M c) (rE M c r) F4 (cat Tryz.f55 (pn 1012)) u::F4
abbrev JD:dt:=.b 4::kh 32587 :: .b 3::GA M c r i
abbrev Pb:dt:=kl (pU M c) (rE M c r) (JD M c r i) (cat Tryz.f55 (pn 130344)) w::(JD M c r i)
def ah6:AS:=⟨[(6,iI o),(7,iI 0),(9,.sl (lm aS v4.1)),(11,.sl (lm aS v5.1)),(13,iI l)],[],[],[]⟩
def aib:AS:=⟨[(6,iI d),(7,iI t),(11,.sl (lm aS v5.1)),(16,iI f)],[],[],[]⟩
def WL:AS:=⟨[(6,iI d),(7,iI b),(11,.sl (lm aS v5.1)),(15,iI a),(16,iI f),(59,.bool q)],[],[],[]⟩
def N6:AS:=⟨[(6,iI d),(7,iI b),(11,.sl (lm aS v5.1)),(15,iI a),(16,iI f)],[],[],[]⟩
def Mc:AS:=⟨[(6,iI d),(7,iI b),(11,.sl (lm aS v5.1)),(15,iI a)],[],[],[]⟩
def Vc:AS:=⟨[(6,iI d),(7,iI 0),(9,.sl (lm aS v4.1)),(11,.sl (lm aS v5.1)),(12,iI g)],[],[],[]⟩
abbrev FP:Prop:=∀{d:Int} {g:Int},x d g=some r→LP (pU M c) (rE M c r) F4 (cat Tryz.f55 (pn 1012)) u (Vc v4 v5 d g)
abbrev uL:Prop:=∀{b:Int} {a:Int},j b a=some r→LP (pU M c) (rE M c r) Jw (cat Tryz.f55 (pn 2036)) i (Mc v5 d b a)
abbrev Ey:Prop:=∀{f:Int},y f=some r→LP (pU M c) (rE M c r) (JD M c r i) (cat Tryz.f55 (pn 130344)) w (N6 v5 d b a f)
variable{M c r A v2 z v4 v5 d g l o b a f q t u i w x j y}{K:Kn}{n:Nat}
theorem N5(b:ao K)(a:FP M c r v4 v5 u x)(h:xy K n v4 v5 l x o=some r):uf M c r (kh 16203 :: .b 1::IQ M c r u) (ah6 v4 v5 l o):=by
 unfold xy at h;exact ag 2 (bn (a h))
theorem S6(b:ao K)(a:uL M c r v5 d i j)(h:Ax K n v5 d f j t=some r):uf M c r (kh 65175 :: .b 3::GA M c r i) (aib v5 d f t):=by
 unfold Ax at h;exact ag 2 (bn (a h))
theorem Pj(s:ao K)(m:uL M c r v5 d i j)(t:Ey M c r v5 d b a i w y)(h:qj K n v5 d b a f j y q=some r):uf M c r (kh 521377::kh 260689::Pb M c r i w) (WL v5 d b a f q):=by
 unfold qj at h;obtain⟨g,h⟩|⟨g,h⟩:=am h
 ·exact ah 59 g (ag 5 (bn (t h)))
 ·refine ah 59 g (tS 4 5 3 7 (ai 3 ?_));obtain⟨o,h⟩:=aF h;refine au (l6 aS v5.1 a f 159 (.tmp 62) (some (.tmp 63)) (some (.tmp 64)) 65 (e:=165) (sz:=62) (by kernel_rfl) (by kernel_rfl) (by kernel_rfl) (by kernel_rfl) (by kernel_rfl) (by kernel_rfl) (iW) (fun k u=>by subst u;kernel_rfl) o) ?_;obtain⟨v,p,h⟩:=bind_some h;refine aK (D6 s p) (ac (bg 3 2 ?_));obtain⟨l,h⟩|⟨l,h⟩:=am h
  ·exact ah 69 l (ag 2 (S6 s m h))
  ·exact ah 69 l (ag 2 (S6 s m h))
theorem aaL(m:ao K)(g:uL M c r v5 d i j)(k:Ey M c r v5 d b a i w y)(h:tu K n v5 d b a j y f=some r):uf M c r (kh 130344::Pb M c r i w) (N6 v5 d b a f):=by
 unfold tu at h;refine cc 4 5 3 2 (ai 2 (au (bA aS v5.1) (aQ 5 2 ?_)));obtain⟨e,h⟩|⟨e,h⟩:=am h
 ·refine aD 51 e (aQ 8 3 ?_);obtain⟨l,h⟩:=aF h;exact au (bE aS aS l (iW) aT) (ac (ag 0 (Pj m g k h)))
 ·exact aD 51 e (ac (ag 0 (Pj m g k h)))
theorem aco(g:ao K)(e:uL M c r v5 d i j)(m:Nat):Ey M c r v5 d b a i m (tO K n v5 d b a j m):=by
 induction m with
 | zero=>intro f h;cases h
 | succ m k=>intro f h;have h:tu K n v5 d b a j (tO K n v5 d b a j m) f=some r:=h;exact bh (aaL g e k h)
theorem aeh(g:ao K)(f:uL M c r v5 d i j)(h:sh K n v5 d j b a=some r):uf M c r (kh 2036::GA M c r i) (Mc v5 d b a):=by
 unfold sh at h;refine cc 4 5 3 2 (ai 2 (au (bA aS v5.1) (ac ?_)));obtain⟨e,h⟩|⟨e,h⟩:=am h
 ·exact ah 44 e (ag 7 (cd (p:=pn 65172) n (aco g f n h)))
 ·refine ah 44 e (aL 8 ?_);cases h;exact gx
theorem XF(e:ao K)(m:Nat):uL M c r v5 d m (vX K n v5 d m):=by
 induction m with
 | zero=>intro b a h;cases h
 | succ m f=>intro b a h;have h:sh K n v5 d (vX K n v5 d m) b a=some r:=h;exact bh (aeh e f h)
theorem af6(b:ao K)(f:FP M c r v4 v5 u x)(h:tz K n v4 v5 x d g=some r):uf M c r (kh 1012::IQ M c r u) (Vc v4 v5 d g):=by
 unfold tz at h;refine cc 4 5 3 2 (ai 2 (au (bA aS v4.1) (ac ?_)));obtain⟨m,h⟩|⟨m,h⟩:=am h
 ·refine ah 27 m (b8 (ks':=kh 8100::kh 8101 :: .b 1::IQ M c r u) 4 (ai 2 ?_));obtain⟨l,o,h⟩:=bind_some h;refine aK (JY b o) (ac (cc 4 5 3 2 (ai 3 ?_)));obtain⟨i,h⟩:=aF h;refine au (l6 aS v4.1 g l 159 (.tmp 31) (some (.tmp 32)) (some (.tmp 33)) 34 (e:=165) (sz:=62) (by kernel_rfl) (by kernel_rfl) (by kernel_rfl) (by kernel_rfl) (by kernel_rfl) (by kernel_rfl) (iW) (fun k q=>by subst q;kernel_rfl) i) ?_;obtain⟨s,j,h⟩:=bind_some h;refine aK (D6 b j) (ac (bg 3 2 ?_));obtain⟨a,h⟩|⟨a,h⟩:=am h
  ·exact ah 38 a (ag 2 (N5 b f h))
  ·exact ah 38 a (ag 2 (N5 b f h))
 ·exact ah 27 m (ag 9 (cd (p:=pn 1018) n (XF b n h)))
theorem ajK(a:ao K)(m:Nat):FP M c r v4 v5 m (ud K n v4 v5 m):=by
 induction m with
 | zero=>intro d g h;cases h
 | succ m b=>intro d g h;have h:tz K n v4 v5 (ud K n v4 v5 m) d g=some r:=h;exact bh (af6 a b h)
theorem acP(a:ao K)(h:xm K n A v2 z=some r):aX bb 55 [.sl (lm aM A),.agg (aH v2),.agg (bI z)] (fun v _=>v=.tup [iI r.1,iI r.2]):=by
 refine bF (cat Tryz.f55 (pn 1)) Tryz.func55 Tryz.ntmps55 fun M c=>(bd ⟨[(0,.sl (lm aM A)),(1,.agg (aH v2)),(2,.agg (bI z))],[],[],[]⟩ ?_);unfold xm at h;refine av 14 15 5 (ai 1 (oJ 5 5 (bI z) (rd 113 #[(.tmp 5),(.tmp 8)] [.cptr (bI z),.ptr 8 0] (Ex 400008 8 0 3 1 ?_))));obtain⟨v4,b,h⟩:=bind_some h;refine jR 400008 9 [(8,1)] (aeY a b) (ac (av 6 7 3 (ai 1 (rd 114 #[(.tmp 10),(.tmp 8)] [.ptr 10 0,.ptr 8 0] ?_))));obtain⟨v5,d,h⟩:=bind_some h;exact jR 400008 9 [(10,1),(8,2)] (ajG a d) (ac (ag 4 (cd (p:=pn 506) n (ajK a n h))))
end
noncomputable section
variable[GS](M:Nat→Prop)(c:aA)(r:Int×Int)(a:d4)(v2:aI)(b:bu)  
variable{M c r a v2 b}{K:Kn}{n:Nat}
theorem aaG(e:ao K)(h:z8 K n a v2 b=some r):aX bb 54 [.sl (lm aM a),.agg (aH v2),.cptr (bI b)] (fun v _=>v=.tup [iI r.1,iI r.2]):=by
 refine bF (cat Tryz.f54 (pn 1)) Tryz.func54 Tryz.ntmps54 fun M c=>(bd ⟨[(0,.sl (lm aM a)),(1,.agg (aH v2)),(2,.cptr (bI b))],[],[],[]⟩ ?_);unfold z8 at h;refine av 6 7 3 (ai 3 ?_);obtain⟨v4,d,h⟩:=bind_some h;refine aK (acP e d) (ac (aL 1 ?_));cases h;exact gx
end
noncomputable section
variable[GS](M:Nat→Prop)(b:aA)(r:bu)(a v2:Bool)  
variable{M b r a v2}{K:Kn}{n:Nat}
theorem MQ(a v2:Bool):∀d:Nat,nA [(2,[ex 36 a]),(3,[ex 37 v2]),(4,[.fno 43 [.ptr 2 0,.ptr 5 0,.ptr 3 0],.fno 48 [.ptr 5 0],.fno 52 [.ptr 5 0],.fno 54 [.ptr 5 0]]),(5,[.fno 43 [.ptr 2 0,.ptr 5 0,.ptr 3 0],.fno 48 [.ptr 5 0],.fno 52 [.ptr 5 0],.fno 54 [.ptr 5 0]])] 5 [.fno 43 [.ptr 2 0,.ptr 5 0,.ptr 3 0],.fno 48 [.ptr 5 0],.fno 52 [.ptr 5 0],.fno 54 [.ptr 5 0]] d=bI (cO d a v2)
 | 0=>rfl
 | d+1=>by
   show lm (stepT [(2,[ex 36 a]),(3,[ex 37 v2]),(4,[.fno 43 [.ptr 2 0,.ptr 5 0,.ptr 3 0],.fno 48 [.ptr 5 0],.fno 52 [.ptr 5 0],.fno 54 [.ptr 5 0]]),(5,[.fno 43 [.ptr 2 0,.ptr 5 0,.ptr 3 0],.fno 48 [.ptr 5 0],.fno 52 [.ptr 5 0],.fno 54 [.ptr 5 0]])] 5 (nA [(2,[ex 36 a]),(3,[ex 37 v2]),(4,[.fno 43 [.ptr 2 0,.ptr 5 0,.ptr 3 0],.fno 48 [.ptr 5 0],.fno 52 [.ptr 5 0],.fno 54 [.ptr 5 0]]),(5,[.fno 43 [.ptr 2 0,.ptr 5 0,.ptr 3 0],.fno 48 [.ptr 5 0],.fno 52 [.ptr 5 0],.fno 54 [.ptr 5 0]])] 5 [.fno 43 [.ptr 2 0,.ptr 5 0,.ptr 3 0],.fno 48 [.ptr 5 0],.fno 52 [.ptr 5 0],.fno 54 [.ptr 5 0]] d)) [.fno 43 [.ptr 2 0,.ptr 5 0,.ptr 3 0],.fno 48 [.ptr 5 0],.fno 52 [.ptr 5 0],.fno 54 [.ptr 5 0]]=_;rw[MQ a v2 d];rfl
theorem RA(c:ao K)(h:ue K n a v2=some r):aX bb 18 [ex 36 a,ex 37 v2] (fun v _=>v=.agg (bI r)):=by
 refine bF (cat Tryz.f18 (pn 1)) Tryz.func18 Tryz.ntmps18 fun M b=>(bd ⟨[(0,ex 36 a),(1,ex 37 v2)],[],[],[]⟩ ?_);unfold ue at h;refine av 14 15 5 (ai 0 (rd 43 #[(.tmp 2),(.tmp 5),(.tmp 3)] [.ptr 2 0,.ptr 5 0,.ptr 3 0] (ac (av 2 3 1 (ai 0 (rd 48 #[(.tmp 5)] [.ptr 5 0] (ac (av 2 3 1 (ai 0 (rd 52 #[(.tmp 5)] [.ptr 5 0] (ac (av 2 3 1 (ai 0 (rd 54 #[(.tmp 5)] [.ptr 5 0] (ac (aL 3 (bK [4] [2,3,4,5] [] (bd ⟨[(4,.ptr 4 0)],[(2,[ex 36 a]),(3,[ex 37 v2]),(4,[.fno 43 [.ptr 2 0,.ptr 5 0,.ptr 3 0],.fno 48 [.ptr 5 0],.fno 52 [.ptr 5 0],.fno 54 [.ptr 5 0]]),(5,[.fno 43 [.ptr 2 0,.ptr 5 0,.ptr 3 0],.fno 48 [.ptr 5 0],.fno 52 [.ptr 5 0],.fno 54 [.ptr 5 0]])],[],[2,3,4,5]⟩ (aau 4 4 5 n (ajy (s':=⟨[(4,.ptr 4 0)],[(4,bI (cO n a v2))],[],[4]⟩) (congrArg (fun t=>(⟨[(4,.ptr 4 0)],[(4,t)],[],[4]⟩:AS)) (MQ a v2 n)) ?_))))))))))))))))))));cases h;exact bv
end
noncomputable section
variable[GS](M:Nat→Prop)(b:aA)(r:Bool)(a v2:ab)  
variable{M b r a v2}{K:Kn}{n:Nat}
theorem ad7(d:ao K)(h:yn K n a v2=some r):aX bb 65 [.agg (aB a),.cptr (aB v2)] (fun v _=>v=.bool r):=by
 refine bF (cat Tryz.f65 (pn 1)) Tryz.func65 Tryz.ntmps65 fun M b=>(bd ⟨[(0,.agg (aB a)),(1,.cptr (aB v2))],[],[],[]⟩ ?_);unfold yn at h;refine av 6 7 3 (ai 2 ?_);obtain⟨e,c,h⟩:=bind_some h;refine aK (d.Bx c) (ac (aL 1 ?_));cases h;exact bv
end
noncomputable section
variable[GS](M:Nat→Prop)(a:aA)(r:Bool)(b v2:ab)(v5:Bool)  
abbrev acq(n:Nat):aq:=.c (cat Tryz.f28 (pn n))
abbrev aiS:Cx:=⟨bb,14,M,a⟩
abbrev W9:=bodyPost bb Tryz.f28 (bJ M a (fun v _=>v=.bool r))
abbrev VN(b:dt)(s:AS):=VE (aiS M a) (W9 M a r) b .normal s
def aeR:AS:=⟨[(4,.bool v5)],[],[],[]⟩
variable{M a r b v2 v5}{K:Kn}{n:Nat}
theorem Rc(b:ao K)(h:zV K n v5=some r):VN M a r [acq 7] (aeR v5):=by
 unfold zV at h;refine aL 1 ?_;cases h;exact bv
theorem UH(c:ao K)(h:qM K n b v2=some r):aX bb 28 [.agg (aB b),.agg (aB v2)] (fun v _=>v=.bool r):=by
 refine bF (cat Tryz.f28 (pn 1)) Tryz.func28 Tryz.ntmps28 fun M a=>(bd ⟨[(0,.agg (aB b)),(1,.agg (aB v2))],[],[],[]⟩ ?_);unfold qM at h;refine av 6 7 3 (ai 2 ?_);obtain⟨g,e,h⟩:=bind_some h;refine aK (CE c e) (aQ 4 1 ?_);obtain⟨d,h⟩|⟨d,h⟩:=am h
 ·exact aD 8 d (ac (ag 0 (Rc c h)))
 ·refine aD 8 d (aQ 6 2 (oJ 3 3 (aB v2) (tY 65 #[(.tmp 3)] [.cptr (aB v2)] ?_)));obtain⟨v4,f,h⟩:=bind_some h;exact aK (Ol c f) (ac (ag 0 (Rc c h)))
end
noncomputable section
variable[GS](M:Nat→Prop)(a:aA)(r b:ae)(v2:dn)(v4:Int)(v5:dn)(c:Nat)(d:Int→dn→Option ae)
abbrev Gk:Cx:=⟨bb,26,M,a⟩
abbrev H1:=bodyPost bb Tryz.f73 (bJ M a (fun v s=>v=.agg (List.set (aG ({ r with Kids:=[] }:ae)) 66 (.ref 1006))∧look 1006 s.r=some (bx r.Kids)))
abbrev ZC(b:dt)(s:AS):=VE (Gk M a) (H1 M a r) b .normal s
abbrev RK(n:Nat):aq:=.c (cat Tryz.f73 (pn n))
abbrev Iz:dt:=[.b 0,RK 15]
abbrev ZH:dt:=kl (Gk M a) (H1 M a r) Iz (cat Tryz.f73 (pn 116)) c::Iz
def SD:AS:=⟨[(1,.ptr 1 0),(2,.ptr 2 0),(10,iI (v2.length:Int)),(11,iI v4)],[(1,List.set (aG ({ b with Kids:=[] }:ae)) 66 (.ref 1006)),(2,List.set (aG bT) 66 (.nils))],[(1006,(bx v5))],[1,2,1006]⟩
abbrev NU:Prop:=∀{v4:Int} {v5:dn},d v4 v5=some r→LP (Gk M a) (H1 M a r) Iz (cat Tryz.f73 (pn 116)) c (SD b v2 v4 v5)
variable{M a r b v2 v4 v5 c d}{K:Kn}{n:Nat}
theorem W5(k:ao K)(g:NU M a r b v2 c d)(h:xt K n b v2 d v4 v5=some r):ZC M a r (RK 116::ZH M a r c) (SD b v2 v4 v5):=by
 unfold xt at h;refine av 6 7 3 ?_;obtain⟨e,h⟩|⟨e,h⟩:=am h
 ·refine ah 12 e (IG 9 1 3 6 (bK [1,2,3,10,11] [1,2] [1006] ?_));obtain⟨i,h⟩:=aF h;obtain⟨v6,j,h⟩:=bind_some h;obtain⟨f,h⟩:=aF h;exact bQ 1 (nu 14 [.ptr 1 66,.ref 1006,iI v4,.ptr 1 66,.ref 1006,iI v4,.eptr 1006 67 (v4.toNat) 0,.agg (aG (gD v5 v4)),.agg (aG v6),.eptr 1006 67 (v4.toNat) 0]) [] [] [d9 1006 ⟨44,67,lm aN (List.set v5 v4.toNat v6)⟩] (ax (vz 6) (bi (cK 1006 67 aN (L:=v5) i) (bi (bO 44 0 aN aG (bH f).2 (dM)) (aj (cq 0 1 22 (k.xr j)) (bi (cK 1006 67 aN (L:=v5) f) (aj (dr (m:=0) (dC 1006 44 67 0 aN aG v6 (bH f).2 (dM))) bN)))))) (ag 2 (bn (g h)))
 ·refine ah 12 e (aL 8 ?_);cases h;exact fC
theorem acG(c:ao K)(m:Nat):NU M a r b v2 m (t7 K n b v2 m):=by
 induction m with
 | zero=>intro v4 v5 h;cases h
 | succ m d=>intro v4 v5 h;have h:xt K n b v2 (t7 K n b v2 m) v4 v5=some r:=h;exact bh (W5 c d h)
theorem Ug(c:ao K)(h:sO K n b=some r):aX bb 73 [.agg (aG b)] (fun v s=>v=.agg (List.set (aG ({ r with Kids:=[] }:ae)) 66 (.ref 1006))∧look 1006 s.r=some (bx r.Kids)):=by
 refine bF (cat Tryz.f73 (pn 1)) Tryz.func73 Tryz.ntmps73 fun M a=>(bd ⟨[(0,.agg (aG b))],[],[],[]⟩ ?_);unfold sO at h;refine av 6 7 3 (ai 2 ?_);obtain⟨v2,d,h⟩:=bind_some h;exact eS 1006 (GD c d) (eX 5) (ac (cc 4 5 3 2 (ai 2 (au (bA aN v2) (ac (ag 1 (cd (p:=pn 58) n (acG c n h))))))))
end
noncomputable section
variable[GS](M:Nat→Prop)(b:aA)(r a:ck)  
variable{M b r a}{K:Kn}{n:Nat}
theorem aho(f:ao K)(h:yI K n a=some r):aX bb 95 [.sl (lm (ak .i64) a)] (fun v s=>v=.ref 5∧look 5 s.r=some (bk r)):=by
 refine bF (cat Tryz.f95 (pn 1)) Tryz.func95 Tryz.ntmps95 fun M b=>(bd ⟨[(0,.sl (lm (ak .i64) a))],[],[],[]⟩ ?_);unfold yI at h;refine cc 12 13 7 4 (ai 1 ?_);refine N0 (aW Tryz.f95 (pn 12) 1) (.eql) 72 72 (.tmp 3) (.const (.slice none 0 0)) 4 (lm (ak .i64) a) (r:=aV Tryz.f95 (pn 12) 2) (e:=3) (by kernel_rfl) (by kernel_rfl) (by kernel_rfl) (by kernel_rfl) (by kernel_rfl) (by kernel_rfl) (by kernel_rfl) (by kernel_rfl) (fun d=>?_) ?_
 ·have h:=QV (by simpa using d) h;refine ac (aL 5 (eL 5 2 3 1 ?_));cases h;exact fC
 ·have h:=Ps h;refine ac (fq 2 3 3 (ai 0 (Ce 72 5 (e:=3) (sz:=1) (aQ 2 1 ?_))));obtain⟨c,h⟩:=aF h;refine au (cG 7 5 3 1 (ak .i64) (rfl) aT c) (ac (aL 1 ?_));cases h;exact fC
end
noncomputable section
variable[GS](M:Nat→Prop)(c:aA)(r:Unit)(b:im)(v2:ab)(f:ck)(v4:Bool)(v6:ck)(a:Int)(d:Bool)(e:Nat)(g:Int→Option Unit)
abbrev Gr:Cx:=⟨bb,53,M,c⟩
abbrev GE:=bodyPost bb Tryz.f76 (bJ M c (fun v _=>v=nM r))
abbrev Dh(a:dt)(s:AS):=VE (Gr M c) (GE M c r) a .normal s
abbrev ni(n:Nat):aq:=.c (cat Tryz.f76 (pn n))
abbrev EY:dt:=[.b 0]
abbrev JH:dt:=kl (Gr M c) (GE M c r) EY (cat Tryz.f76 (pn 60)) e::EY
def VJ:AS:=⟨[(2,.sl (lm (ak .i64) v6)),(3,.ptr 3 0),(7,.ptr 7 0),(24,.sl (lm aM v2.Kids)),(25,iI (v2.Kids.length:Int)),(26,iI a),(43,.bool d)],[(3,rb b),(7,aB (gD v2.Kids a))],[],[3,7]⟩
def Sd:AS:=⟨[(2,.sl (lm (ak .i64) v6)),(3,.ptr 3 0),(24,.sl (lm aM v2.Kids)),(25,iI (v2.Kids.length:Int)),(26,iI a)],[(3,rb b)],[],[3]⟩
def Yi:AS:=⟨[(2,.sl (lm (ak .i64) v6)),(3,.ptr 3 0),(4,.ptr 4 0)],[(3,rb b),(4,aB v2)],[],[3,4]⟩
def afJ:AS:=⟨[(2,.sl (lm (ak .i64) f)),(3,.ptr 3 0),(4,.ptr 4 0),(16,.bool v4)],[(3,rb b),(4,aB v2)],[],[3,4]⟩
abbrev Iw:Prop:=∀{a:Int},g a=some r→LP (Gr M c) (GE M c r) EY (cat Tryz.f76 (pn 60)) e (Sd b v2 v6 a)
variable{M c r b v2 f v4 v6 a d e g}{K:Kn}{n:Nat}
theorem JI(k:ao K)(j:Iw M c r b v2 v6 e g)(h:qB K n b v2 v6 a g d=some r):Dh M c r (ni 7781::ni 3891 :: .b 1::ni 487::JH M c r e) (VJ b v2 v6 a d):=by
 unfold qB at h;obtain⟨f,h⟩|⟨f,h⟩:=am h
 ·refine ah 43 f ?_;cases h
 ·refine ah 43 f (b8 (ks':=ni 3891 :: .b 1::ni 487::JH M c r e) 2 (ai 3 ?_));obtain⟨l,i,h⟩:=bind_some h;exact aK (k.vn i) (ac (ag 2 (bn (j h))))
theorem ahH(l:ao K)(j:Iw M c r b v2 v6 e g)(h:yN K n b v2 v6 g a=some r):Dh M c r (ni 60::JH M c r e) (Sd b v2 v6 a):=by
 unfold yN at h;refine av 6 7 3 ?_;obtain⟨d,h⟩|⟨d,h⟩:=am h
 ·refine ah 27 d (cN 8 9 1 3 5 (ai 0 ?_));obtain⟨k,h⟩:=aF h;refine au (bE aM aB k (fV) (d7)) (ac (cc 4 5 3 2 (ai 4 ?_)));obtain⟨f,h⟩|⟨f,h⟩:=am h
  ·refine aD 33 f (aQ 9 5 ?_);obtain⟨i,h⟩|⟨i,h⟩:=am h
   ·exact aD 38 i (ac (ag 0 (JI l j h)))
   ·exact aD 38 i (ac (ag 0 (JI l j h)))
  ·exact aD 33 f (ac (ag 0 (JI l j h)))
 ·refine ah 27 d (b8 (ks':=[]) 5 (tK ?_));cases h;exact gx
theorem akf(d:ao K)(m:Nat):Iw M c r b v2 v6 m (pd K n b v2 v6 m):=by
 induction m with
 | zero=>intro a h;cases h
 | succ m e=>intro a h;have h:yN K n b v2 v6 (pd K n b v2 v6 m) a=some r:=h;exact bh (ahH d e h)
theorem O7(a:ao K)(h:sP K n b v2 v6=some r):Dh M c r [ni 7] (Yi b v2 v6):=by
 unfold sP at h;exact av 2 3 1 (ai 2 (au (bA aM v2.Kids) (ac (ag 1 (cd (p:=pn 30) n (akf a n h))))))
theorem K1(d:ao K)(h:un K n b v2 f v4=some r):Dh M c r [ni 13,ni 7] (afJ b v2 f v4):=by
 unfold un at h;obtain⟨a,h⟩|⟨a,h⟩:=am h
 ·refine ah 16 a (bg 2 1 (bK [2,3,4] [3,4] [] ?_));obtain⟨v5,e,h⟩:=bind_some h;obtain⟨g,h⟩:=aF h;exact bQ 2 (nu 17 [.sl (lm (ak .i64) f),.ref 18,.ptr 4 1,iI v2.Node,.sl (lm (ak .i64) [v2.Node])]) [] [(18,(bk v5))] [gA 22 18 ⟨3,1,lm (ak .i64) (v5++[v2.Node])⟩,cf bb 53 Tryz.f76 (pn 26) 6] (ax [.v 0 2] (aj (Gf 0 1 18 (aho d e) (eX 5)) (ax [.v 0 2,.v 0 2,.v 0 1] (aj (dr (m:=0) (cG 22 18 3 1 (ak .i64) (rfl) aT g)) (aj (ce 1) bN))))) (iR 18 (ag 0 (O7 d h)))
 ·exact ah 16 a (ag 2 (O7 d h))
theorem Qp(d:ao K)(h:oa K n b v2 f=some r):aX bb 76 [.agg (rb b),.agg (aB v2),.sl (lm (ak .i64) f)] (fun v _=>v=nM r):=by
 refine bF (cat Tryz.f76 (pn 1)) Tryz.func76 Tryz.ntmps76 fun M c=>(bd ⟨[(0,.agg (rb b)),(1,.agg (aB v2)),(2,.sl (lm (ak .i64) f))],[],[],[]⟩ ?_);unfold oa at h;refine cc 12 13 7 4 (ai 4 ?_);obtain⟨a,h⟩|⟨a,h⟩:=am h
 ·exact aD 11 a (ac (ag 0 (K1 d h)))
 ·exact aD 11 a (ac (ag 0 (K1 d h)))
end
noncomputable section
variable[GS](M:Nat→Prop)(e:aA)(r:ae×Int×Int×dO)(a:ab)(v2 b:Int)(v4:bu)(v5 v6:Int)(d:dO)  
abbrev MY(n:Nat):aq:=.c (cat Tryz.f35 (pn n))
variable{M e r a v2 b v4 v5 v6 d}{K:Kn}{n:Nat}[SG e]
theorem aag(g:ao K)(h:BE K n a v2 b v4 v5 v6 d=some r):eo bb 35 [.agg (aB a),iI v2,iI b,.agg (bI v4)] [(af v5 v6)] (bt d) (fun v s=>v=.agg (aG r.1)∧cy s.o [(af r.2.1 r.2.2.1)]∧look 440009 s.r=some (bt r.2.2.2)):=by
 refine jO (c:=cat Tryz.f35 []) Tryz.func35 (by kernel_rfl) _ Tryz.ntmps35 (kc (by kernel_rfl)) fun M e=>(bd ⟨[(0,.agg (aB a)),(1,iI v2),(2,iI b),(3,.agg (bI v4))],[(af v5 v6)],[(440009,(bt d))],[440009,440001,1440001]⟩ ?_);unfold BE at h;refine b8 (ks':=[MY 14,MY 15]) 5 (bK [1,2,4,7,8,10] [4,7,8,440001] [440009] (J3 10 ?_));obtain⟨q,k,h⟩:=bind_some h;obtain⟨j,l,h⟩:=bind_some h;obtain⟨f,m,h⟩:=bind_some h;refine bQ 2 (nu 16 [.agg (aB a),.ptr 4 2,.agg (aH a.Style),iI (min (max v2 0) 1048576),.agg (bV q),.agg (bI v4)]++nu 23 [.agg (List.set (aG ({ f with Kids:=[] }:ae)) 66 (.ref 23))]++nu 9 [.ptr 9 0]) [(9,List.set (aG bT) 66 (.nils))] [(23,(bx f.Kids))] [Cw (some 22) (bt j.2.2.2) [(af j.2.1 j.2.2.1)] (.agg (aG j.1)),cf bb 34 Tryz.f35 (pn 14) 9] (ax [.v 0 1,.v 0 2,.v 0 2,.v 0 2] (aj (cq 0 1 20 (Hd g k)) (ax [.v 0 1] (aj (Hy 0 10 (ajk g l)) (aj (Gf 1 1 23 (Ug g m) (Dw (i:=66) (by kernel_rfl))) (aj (nO 0 2 44 9 (List.set (aG bT) 66 (.nils))) (aj (ce 1) bN))))))) (av 6 7 3 (ai 3 (adW 30 0 ?_)))
 obtain⟨p,o,h⟩:=bind_some h;refine aK (Qp g o) (ac (aL 3 (iR 23 ?_)));cases h;exact fa
end
noncomputable section
variable[GS](M:Nat→Prop)(b:aA)(r:Int)(a:dO)(v2:Fv)(v4:Int)(c:Nat)(d:Int→Option Int)
abbrev Ie:Cx:=⟨bb,19,M,b⟩
abbrev Ji:=bodyPost bb Tryz.f77 (bJ M b (fun v _=>v=iI r))
abbrev aiE(a:dt)(s:AS):=VE (Ie M b) (Ji M b r) a .normal s
abbrev OL(n:Nat):aq:=.c (cat Tryz.f77 (pn n))
abbrev JS:dt:=[.b 0,OL 7]
abbrev aaK:dt:=kl (Ie M b) (Ji M b r) JS (cat Tryz.f77 (pn 52)) c::JS
def PK:AS:=⟨[(0,.sl (lm aR a)),(1,.fn v2.id v2.aO),(7,iI (a.length:Int)),(8,iI v4)],[],[],[]⟩
abbrev Q2:Prop:=∀{v4:Int},d v4=some r→LP (Ie M b) (Ji M b r) JS (cat Tryz.f77 (pn 52)) c (PK a v2 v4)
variable{M b r a v2 v4 c d}{K:Kn}{n:Nat}
theorem Wp(k:ao K)(g:Q2 M b r a v2 c d)(h:A2 K n a v2 d v4=some r):aiE M b r (OL 52::aaK M b r c) (PK a v2 v4):=by
 unfold A2 at h;refine av 6 7 3 ?_;obtain⟨e,h⟩|⟨e,h⟩:=am h
 ·refine ah 9 e (cN 18 19 1 3 7 (ai 3 ?_));obtain⟨i,h⟩:=aF h;refine au (bE aR aR i (J2) aT) (aQ 5 1 ?_);obtain⟨v5,j,h⟩:=bind_some h;refine ld (k.tx j) (ac ?_);obtain⟨f,h⟩|⟨f,h⟩:=am h
  ·refine ah 16 f (aL 9 ?_);cases h;exact bv
  ·exact ah 16 f (ag 4 (bn (g h)))
 ·refine ah 9 e (aL 8 ?_);cases h;exact bv
theorem ajP(c:ao K)(m:Nat):Q2 M b r a v2 m (ry K n a v2 m):=by
 induction m with
 | zero=>intro v4 h;cases h
 | succ m d=>intro v4 h;have h:A2 K n a v2 (ry K n a v2 m) v4=some r:=h;exact bh (Wp c d h)
theorem WE(c:ao K)(h:BI K n a v2=some r):aX bb 77 [.sl (lm aR a),.fn v2.id v2.aO] (fun v _=>v=iI r):=by
 refine bF (cat Tryz.f77 (pn 1)) Tryz.func77 Tryz.ntmps77 fun M b=>(bd ⟨[(0,.sl (lm aR a)),(1,.fn v2.id v2.aO)],[],[],[]⟩ ?_);unfold BI at h;exact cc 12 13 7 4 (ai 1 (au (bA aR a) (ac (ag 1 (cd (p:=pn 26) n (ajP c n h))))))
end
noncomputable section
variable[GS](M:Nat→Prop)(b:aA)(r:Bool)(a:dO)(v2:Fv)  
variable{M b r a v2}{K:Kn}{n:Nat}
theorem aad(d:ao K)(h:Aq K n a v2=some r):aX bb 38 [.sl (lm aR a),.fn v2.id v2.aO] (fun v _=>v=.bool r):=by
 refine bF (cat Tryz.f38 (pn 1)) Tryz.func38 Tryz.ntmps38 fun M b=>(bd ⟨[(0,.sl (lm aR a)),(1,.fn v2.id v2.aO)],[],[],[]⟩ ?_);unfold Aq at h;refine av 6 7 3 (ai 2 ?_);obtain⟨e,c,h⟩:=bind_some h;refine aK (WE d c) (ac (aL 1 ?_));cases h;exact bv
end
noncomputable section
variable[GS](M:Nat→Prop)(a:aA)(r:Bool)(b v2:ay)(v4:Bool)  
abbrev aeE(n:Nat):aq:=.c (cat Tryz.f39 (pn n))
abbrev adN:Cx:=⟨bb,16,M,a⟩
abbrev q39:=bodyPost bb Tryz.f39 (bJ M a (fun v _=>v=.bool r))
abbrev acd(b:dt)(s:AS):=VE (adN M a) (q39 M a r) b .normal s
def af4:AS:=⟨[(3,.bool v4)],[],[],[]⟩
variable{M a r b v2 v4}{K:Kn}{n:Nat}
theorem PU(b:ao K)(h:BN K n v4=some r):acd M a r [aeE 7] (af4 v4):=by
 unfold BN at h;refine aL 1 ?_;cases h;exact bv
theorem WF(d:ao K)(h:Am K n b v2=some r):aX bb 39 [.agg (aR b),.cptr (aR v2)] (fun v _=>v=.bool r):=by
 refine bF (cat Tryz.f39 (pn 1)) Tryz.func39 Tryz.ntmps39 fun M a=>(bd ⟨[(0,.agg (aR b)),(1,.cptr (aR v2))],[],[],[]⟩ ?_);unfold Am at h;refine av 6 7 3 (ai 6 ?_);obtain⟨c,h⟩|⟨c,h⟩:=am h
 ·refine aD 9 c (aQ 10 4 ?_);obtain⟨f,e,h⟩:=bind_some h;exact aK (CE d e) (ac (ag 0 (PU d h)))
 ·exact aD 9 c (ac (ag 0 (PU d h)))
end
noncomputable section
variable[GS](M:Nat→Prop)(f:aA)(r:ae×Int×Int×dO)(e:ab)(v2 o v4 v5:Int)(v6:dO)(b:ae×Int×Int×dO)(a:Int)(d:dO)(j:Bool)(k:dO)(g:Nat)(l:Int→dO→Option g7)
abbrev EE:Cx:=⟨bb,60,M,f⟩
abbrev HE:=bodyPost bb Tryz.f12 (bJ M f (fun v s=>v=.agg (aG r.1)∧cy s.o [(af r.2.1 r.2.2.1)]∧look 440009 s.r=some (bt r.2.2.2)))
abbrev GZ(a:dt)(s:AS):=VE (EE M f) (HE M f r) a .normal s
abbrev qF(n:Nat):aq:=.c (cat Tryz.f12 (pn n))
abbrev Gp:dt:=[.b 0,qF 63]
abbrev Jx:dt:=kl (EE M f) (HE M f r) Gp (cat Tryz.f12 (pn 500)) g::Gp
def XD:AS:=⟨[(0,.adr GS.g 0),(5,.ptr 5 0),(8,.ptr 8 0),(9,.ptr 9 0),(10,.ref 2010),(32,.ref 440009),(33,iI (b.2.2.2.length:Int)),(34,iI a)],[(5,aB e),(8,List.set (aG bT) 66 (.nils)),(9,aG b.1),(af b.2.1 b.2.2.1)],[(2010,(bt k)),(440009,(bt b.2.2.2))],[5,8,9,440001,2010,440009,1440001,440001]⟩
def aae:AS:=⟨[(0,.adr GS.g 0),(5,.ptr 5 0),(8,.ptr 8 0),(9,.ptr 9 0),(10,.ref 2010),(12,.cptr (aR (gD b.2.2.2 a))),(32,.ref 440009),(33,iI (b.2.2.2.length:Int)),(34,iI a),(48,.bool j)],[(5,aB e),(8,List.set (aG bT) 66 (.nils)),(9,aG b.1),(af b.2.1 b.2.2.1)],[(2010,(bt d)),(440009,(bt b.2.2.2))],[5,8,9,440001,2010,440009,1440001,440001]⟩
def MR:AS:=⟨[(0,.adr GS.g 0),(5,.ptr 5 0),(8,.ptr 8 0),(9,.ptr 9 0),(10,.ref 2010),(32,.ref 440009),(33,iI (b.2.2.2.length:Int)),(34,iI a)],[(5,aB e),(8,List.set (aG bT) 66 (.nils)),(9,aG b.1),(af b.2.1 b.2.2.1)],[(2010,(bt d)),(440009,(bt b.2.2.2))],[5,8,9,440001,2010,440009,1440001,440001]⟩
abbrev C0:Prop:=∀{a:Int} {d:dO},l a d=some r→LP (EE M f) (HE M f r) Gp (cat Tryz.f12 (pn 500)) g (MR e b a d)
variable{M f r e v2 o v4 v5 v6 b a d j k g l}{K:Kn}{n:Nat}[SG f]
theorem On(d:ao K)(c:C0 M f r e b g l)(h:A3 K n e b a l k=some r):GZ M f r (.b 1::qF 4007::Jx M f r g) (XD e b a k):=by
 unfold A3 at h;exact ag 2 (bn (c h))
theorem Tq(m:ao K)(i:C0 M f r e b g l)(h:xf K n e b a d l j=some r):GZ M f r (qF 64103 :: .b 1::qF 4007::Jx M f r g) (aae e b a d j):=by
 unfold xf at h;obtain⟨c,h⟩|⟨c,h⟩:=am h
 ·refine ah 48 c (bg 2 1 (ai 3 ?_));obtain⟨k,h⟩:=aF h;exact au (cG 52 2010 64 127 aR (rfl) (J2) k) (ac (ag 0 (On m i h)))
 ·exact ah 48 c (ag 2 (On m i h))
theorem agZ(m:ao K)(o:C0 M f r e b g l)(h:xp K n e b l a d=some r):GZ M f r (qF 500::Jx M f r g) (MR e b a d):=by
 unfold xp at h;refine av 6 7 3 ?_;obtain⟨c,h⟩|⟨c,h⟩:=am h
 ·refine ah 35 c (cN 8 9 1 3 5 (ai 0 ?_));obtain⟨k,h⟩:=aF h;refine au (ct 440009 127 aR k) (au (bO 64 0 aR aR (bH k).2 aT) (ac (av 2 3 1 (ai 1 (oJ 12 12 (aR (gD b.2.2.2 a)) (tY 39 #[(.tmp 12)] [.cptr (aR (gD b.2.2.2 a))] ?_))))));obtain⟨t,p,h⟩:=bind_some h;refine ad5 (aad m p) (ac (av 2 3 1 (ai 3 ?_)));obtain⟨j,h⟩|⟨j,h⟩:=am h
  ·refine aD 43 j (aQ 6 3 ?_);obtain⟨u,q,h⟩:=bind_some h;exact aK (UH m q) (ac (ag 0 (Tq m o h)))
  ·exact aD 43 j (ac (ag 0 (Tq m o h)))
 ·refine ah 35 c (gH 2 3 6 (ai 4 (U4 57 0 (ac (av 2 3 1 (ai 1 ?_))))));obtain⟨v,s,h⟩:=bind_some h;refine eS 1059 (B4 m s) (Dw (i:=66) (by kernel_rfl)) (ac (aL 1 (bK [8] [8,440001] [1059,2010] (vH 2010 440009 (iR 1059 ?_)))));cases h;exact fa
theorem ag1(c:ao K)(m:Nat):C0 M f r e b m (qd K n e b m):=by
 induction m with
 | zero=>intro a d h;cases h
 | succ m g=>intro a d h;have h:xp K n e b (qd K n e b m) a d=some r:=h;exact bh (agZ c g h)
theorem Ih(a:ao K)(h:qG K n e v2 o v4 v5 v6=some r):eo bb 12 [.ptr 440001 0,.agg (aB e),iI v2,iI o] [(af v4 v5)] (bt v6) (fun v s=>v=.agg (aG r.1)∧cy s.o [(af r.2.1 r.2.2.1)]∧look 440009 s.r=some (bt r.2.2.2)):=by
 refine jO (c:=cat Tryz.f12 []) Tryz.func12 (by kernel_rfl) _ Tryz.ntmps12 (kc (by kernel_rfl)) fun M f=>(bd ⟨[(0,.ptr 440001 0),(1,.agg (aB e)),(2,iI v2),(3,iI o)],[(af v4 v5)],[(440009,(bt v6))],[440009,440001,1440001]⟩ ?_);unfold qG at h;refine b8 (ks':=[qF 14,qF 15]) 5 (bK [0,2,3,5,8,14] [5,8,440001] [440009] (J3 14 (ahj 0 0 ?_)));obtain⟨i,d,h⟩:=bind_some h;obtain⟨b,g,h⟩:=bind_some h;exact bQ 2 (nu 20 [.agg (aB e),iI v2,iI o,.adr GS.g 0,ex 36 true,.adr GS.g 0,ex 37 true,.agg (bI i)]++nu 9 [.ptr 9 0]) [(9,List.set (aG bT) 66 (.nils))] [] [Cw (some 28) (bt b.2.2.2) [(af b.2.1 b.2.2.1)] (.agg (aG b.1)),cf bb 60 Tryz.f12 (pn 14) 10] (ax [.v 0 1,.v 0 1,.v 0 1,.v 0 2,.v 0 2,.v 0 2,.v 0 2] (aj (cq 0 1 27 (RA a d)) (aj (Hy 0 14 (aag a g)) (aj (nO 0 2 44 9 (List.set (aG bT) 66 (.nils))) (aj (ce 1) bN))))) (cc 12 13 7 4 (ai 3 (U4 31 0 (aQ 4 1 (au (bA aR b.2.2.2) (ac (ib 2 0 1 (bK [0,5,8,9,10,32,33,34] [5,8,9,440001] [440009] (eL 2010 10 64 127 (ag 0 (cd (p:=pn 250) n (ag1 a n h))))))))))))
end
noncomputable section
variable[GS](M:Nat→Prop)(b:aA)(r:ab)(a:Int)  
variable{M b r a}{K:Kn}{n:Nat}
theorem Cd(c:ao K)(h:tc K n a=some r):aX bb 33 [iI a] (fun v _=>v=.agg (aB r)):=by
 refine bF (cat Tryz.f33 (pn 1)) Tryz.func33 Tryz.ntmps33 fun M b=>(bd ⟨[(0,iI a)],[],[],[]⟩ ?_);unfold tc at h;refine aL 5 (nz 2 ?_);cases h;exact bv
end
noncomputable section
variable(M:Nat→Prop)(a:aA)(r b:Bool)  
abbrev ahb(n:Nat):aq:=.c (cat Tryz.f10 (pn n))
abbrev aiR:Cx:=⟨bb,33,M,a⟩
abbrev q10:=bodyPost bb Tryz.f10 (bJ M a (fun v _=>v=.bool r))
abbrev adR(b:dt)(s:AS):=VE (aiR M a) (q10 M a r) b .normal s
def abN:AS:=⟨[(0,.bool b)],[],[],[]⟩
variable{M a r b}{K:Kn}{n:Nat}
theorem Bv(c:∀ [GS],ao K)(h:tH K n b=some r):adR M a r [ahb 127] (abN b):=by
 letI:GS:=⟨0⟩;have d:=@c ⟨0⟩
 unfold tH at h;refine aL 1 ?_;cases h;exact bv
theorem aeJ(b:∀ [GS],ao K)(h:Ek K n=some r):aX bb 10 [] (fun v _=>v=.bool r):=by
 letI:GS:=⟨0⟩;have c:=@b ⟨0⟩
 refine bF (cat Tryz.f10 (pn 1)) Tryz.func10 Tryz.ntmps10 fun M a=>(bd ⟨[],[],[],[]⟩ ?_);unfold Ek at h;refine av 14 15 5 (ai 0 ?_);obtain⟨g,i,h⟩:=bind_some h;refine aK (Cd c i) ?_;obtain⟨v2,j,h⟩:=bind_some h;refine aK (Cd c j) (au (gq aM ([g,v2]:d4) (new:=[aB g,aB v2]) (by simp only[q6,yk,d7])) (aQ 4 1 (Ex 400001 1 0 64 127 ?_)));obtain⟨p,k,h⟩:=bind_some h;refine tv 1 400001 (fun [GS]=>(Ih b k)) (ac (av 6 7 3 (ai 0 ?_)));obtain⟨v4,l,h⟩:=bind_some h;refine aK (Cd c l) ?_;obtain⟨v5,m,h⟩:=bind_some h;refine aK (Cd c m) (au (gq aM ([v4,v5]:d4) (new:=[aB v4,aB v5]) (by simp only[q6,yk,d7])) (aQ 4 1 ?_));obtain⟨v6,o,h⟩:=bind_some h;refine tv 1 400001 (fun [GS]=>(Ih b o)) (ac (av 2 3 1 (ai 4 ?_)));obtain⟨d,h⟩|⟨d,h⟩:=am h
 ·refine aD 19 d (aQ 8 4 ?_);obtain⟨e,h⟩|⟨e,h⟩:=am h
  ·refine aD 23 e (aQ 13 5 ?_);obtain⟨f,h⟩|⟨f,h⟩:=am h
   ·exact aD 28 f (ac (ag 0 (Bv b h)))
   ·exact aD 28 f (ac (ag 0 (Bv b h)))
  ·exact aD 23 e (ac (ag 0 (Bv b h)))
 ·exact aD 19 d (ac (ag 0 (Bv b h)))
end
noncomputable section
variable[GS](M:Nat→Prop)(a:aA)(r:Bool)(b:cw)(v2:Bool)  
abbrev ahQ(n:Nat):aq:=.c (cat Tryz.f72 (pn n))
abbrev aiX:Cx:=⟨bb,11,M,a⟩
abbrev q72:=bodyPost bb Tryz.f72 (bJ M a (fun v _=>v=.bool r))
abbrev YM(b:dt)(s:AS):=VE (aiX M a) (q72 M a r) b .normal s
def ajB:AS:=⟨[(2,.bool v2)],[],[],[]⟩
variable{M a r b v2}{K:Kn}{n:Nat}
theorem Rv(b:ao K)(h:xb K n v2=some r):YM M a r [ahQ 7] (ajB v2):=by
 unfold xb at h;refine aL 1 ?_;cases h;exact bv
theorem iA(d:ao K)(h:fS K n b=some r):aX bb 72 [.agg (fh b)] (fun v _=>v=.bool r):=by
 refine bF (cat Tryz.f72 (pn 1)) Tryz.func72 Tryz.ntmps72 fun M a=>(bd ⟨[(0,.agg (fh b))],[],[],[]⟩ ?_);unfold fS at h;refine av 6 7 3 (ai 4 ?_);obtain⟨c,h⟩|⟨c,h⟩:=am h
 ·exact aD 6 c (ac (ag 0 (Rv d h)))
 ·exact aD 6 c (ac (ag 0 (Rv d h)))
end
noncomputable section
variable[GS](M:Nat→Prop)(d:aA)(r:Bool)(b:h7)(v2 a:Int)(g i j k l:Bool)(e:Nat)(f:Int→Option Bool)
abbrev CS:Cx:=⟨bb,130,M,d⟩
abbrev Et:=bodyPost bb Tryz.f34 (bJ M d (fun v _=>v=.bool r))
abbrev tr(a:dt)(s:AS):=VE (CS M d) (Et M d r) a .normal s
abbrev fJ(n:Nat):aq:=.c (cat Tryz.f34 (pn n))
abbrev G1:dt:=[.b 0,fJ 7]
abbrev zF:dt:=kl (CS M d) (Et M d r) G1 (cat Tryz.f34 (pn 52)) e::G1
def XK:AS:=⟨[(0,.sl (lm bp b)),(1,iI v2),(5,iI a),(6,.ptr 6 0),(7,iI 3),(125,.bool l)],[(6,aH ((gD b a).Style))],[],[6]⟩
def YX:AS:=⟨[(0,.sl (lm bp b)),(1,iI v2),(5,iI a),(6,.ptr 6 0),(7,iI 2),(125,.bool k)],[(6,aH ((gD b a).Style))],[],[6]⟩
def ab9:AS:=⟨[(0,.sl (lm bp b)),(1,iI v2),(5,iI a),(6,.ptr 6 0),(7,iI 1),(125,.bool j)],[(6,aH ((gD b a).Style))],[],[6]⟩
def afz:AS:=⟨[(0,.sl (lm bp b)),(1,iI v2),(5,iI a),(6,.ptr 6 0),(7,iI 0),(125,.bool i)],[(6,aH ((gD b a).Style))],[],[6]⟩
def aaw:AS:=⟨[(0,.sl (lm bp b)),(1,iI v2),(5,iI a),(6,.ptr 6 0),(107,.bool g)],[(6,aH ((gD b a).Style))],[],[6]⟩
def Lp:AS:=⟨[(0,.sl (lm bp b)),(1,iI v2),(5,iI a)],[],[],[]⟩
abbrev rr:Prop:=∀{a:Int},f a=some r→LP (CS M d) (Et M d r) G1 (cat Tryz.f34 (pn 52)) e (Lp b v2 a)
abbrev mU(m:Nat):dt:=kl (CS M d) (Et M d r) (.b 2 :: .b 1::fJ 211::zF M d r e) (cat Tryz.f34 (pn 13468)) m::(.b 2 :: .b 1::fJ 211::zF M d r e)
variable{M d r b v2 a g i j k l e f}{K:Kn}{n:Nat}
theorem M9(i:ao K)(g:rr M d r b v2 e f)(h:u0 K n b v2 a f l=some r):tr M d r (fJ 215497 :: .b 3::fJ 53875::mU M d r e 36) (XK b v2 a l):=by
 unfold u0 at h;obtain⟨c,h⟩|⟨c,h⟩:=am h
 ·refine ah 125 c (aL 13 ?_);cases h;exact bv
 ·exact ah 125 c (bw (ks':=mU M d r e 36) 4 ⟨[(0,.sl (lm bp b)),(1,iI v2),(5,iI a),(6,.ptr 6 0),(7,iI 4)],[(6,aH ((gD b a).Style))],[],[6]⟩ (bn (bh (ag 10 (bn (g h))))))
theorem PL(j:ao K)(i:rr M d r b v2 e f)(h:Bc K n b v2 a f k=some r):tr M d r (fJ 215497 :: .b 3::fJ 53875::mU M d r e 37) (YX b v2 a k):=by
 unfold Bc at h;obtain⟨c,h⟩|⟨c,h⟩:=am h
 ·refine ah 125 c (aL 13 ?_);cases h;exact bv
 ·refine ah 125 c (bw (ks':=mU M d r e 37) 4 ⟨[(0,.sl (lm bp b)),(1,iI v2),(5,iI a),(6,.ptr 6 0),(7,iI 3)],[(6,aH ((gD b a).Style))],[],[6]⟩ (bn (bh (du 24 25 3 7 8 (ai 4 ?_)))));obtain⟨o,l,h⟩:=bind_some h;refine aK (iA j l) (aQ 7 2 ?_);obtain⟨g,h⟩|⟨g,h⟩:=am h
  ·exact aD 118 g (ac (ag 0 (M9 j i h)))
  ·refine aD 118 g (aQ 11 4 ?_);obtain⟨p,m,h⟩:=bind_some h;exact aK (iA j m) (ac (ag 0 (M9 j i h)))
theorem NV(k:ao K)(i:rr M d r b v2 e f)(h:zg K n b v2 a f j=some r):tr M d r (fJ 215497 :: .b 3::fJ 53875::mU M d r e 38) (ab9 b v2 a j):=by
 unfold zg at h;obtain⟨c,h⟩|⟨c,h⟩:=am h
 ·refine ah 125 c (aL 13 ?_);cases h;exact bv
 ·refine ah 125 c (bw (ks':=mU M d r e 38) 4 ⟨[(0,.sl (lm bp b)),(1,iI v2),(5,iI a),(6,.ptr 6 0),(7,iI 2)],[(6,aH ((gD b a).Style))],[],[6]⟩ (bn (bh (du 24 25 3 7 8 (ai 4 ?_)))));obtain⟨o,l,h⟩:=bind_some h;refine aK (iA k l) (aQ 7 2 ?_);obtain⟨g,h⟩|⟨g,h⟩:=am h
  ·exact aD 118 g (ac (ag 0 (PL k i h)))
  ·refine aD 118 g (aQ 11 4 ?_);obtain⟨p,m,h⟩:=bind_some h;exact aK (iA k m) (ac (ag 0 (PL k i h)))
theorem SP(k:ao K)(j:rr M d r b v2 e f)(h:wO K n b v2 a f i=some r):tr M d r (fJ 215497 :: .b 3::fJ 53875::mU M d r e 39) (afz b v2 a i):=by
 unfold wO at h;obtain⟨c,h⟩|⟨c,h⟩:=am h
 ·refine ah 125 c (aL 13 ?_);cases h;exact bv
 ·refine ah 125 c (bw (ks':=mU M d r e 39) 4 ⟨[(0,.sl (lm bp b)),(1,iI v2),(5,iI a),(6,.ptr 6 0),(7,iI 1)],[(6,aH ((gD b a).Style))],[],[6]⟩ (bn (bh (du 24 25 3 7 8 (ai 4 ?_)))));obtain⟨o,l,h⟩:=bind_some h;refine aK (iA k l) (aQ 7 2 ?_);obtain⟨g,h⟩|⟨g,h⟩:=am h
  ·exact aD 118 g (ac (ag 0 (NV k j h)))
  ·refine aD 118 g (aQ 11 4 ?_);obtain⟨p,m,h⟩:=bind_some h;exact aK (iA k m) (ac (ag 0 (NV k j h)))
theorem gO(l:ao K)(k:rr M d r b v2 e f)(h:eT K n b v2 a f g=some r):tr M d r (fJ 3365::fJ 1683 :: .b 1::fJ 211::zF M d r e) (aaw b v2 a g):=by
 unfold eT at h;obtain⟨i,h⟩|⟨i,h⟩:=am h
 ·refine ah 107 i (aL 10 ?_);cases h;exact bv
 ·refine ah 107 i (bw (ks':=fJ 6734 :: .b 2 :: .b 1::fJ 211::zF M d r e) 5 ⟨[(0,.sl (lm bp b)),(1,iI v2),(5,iI a),(6,.ptr 6 0),(7,iI 0)],[(6,aH ((gD b a).Style))],[],[6]⟩ (nf 40 (c:=cat Tryz.f34 [1,0,1,0,0,1,0,0,1,1,1,0,0]) (by kernel_rfl) (bh (b8 (ks':=fJ 215496::fJ 215497 :: .b 3::fJ 53875::mU M d r e 39) 8 (ai 4 ?_)))));obtain⟨p,m,h⟩:=bind_some h;refine aK (iA l m) (aQ 7 2 ?_);obtain⟨j,h⟩|⟨j,h⟩:=am h
  ·exact aD 118 j (ac (ag 0 (SP l k h)))
  ·refine aD 118 j (aQ 11 4 ?_);obtain⟨q,o,h⟩:=bind_some h;exact aK (iA l o) (ac (ag 0 (SP l k h)))
theorem ajH(g:ao K)(c:rr M d r b v2 e f)(h:mZ K n b v2 f a=some r):tr M d r (fJ 52::zF M d r e) (Lp b v2 a):=by
 unfold mZ at h;refine cc 4 5 3 2 (ai 2 (au (bA bp b) (ac ?_)));obtain⟨i,h⟩|⟨i,h⟩:=am h
 ·refine ah 11 i (cN 8 9 1 3 5 (ai 2 ?_));obtain⟨A,h⟩:=aF h;refine au (bE bp bp A (eH) aT) (ac (cc 4 5 3 2 (ai 2 ?_)));obtain⟨B,h⟩:=aF h;refine au (bE bp bp B (eH) aT) (aQ 8 5 ?_);obtain⟨j,h⟩|⟨j,h⟩:=am h
  ·exact aD 26 j (ac (ag 0 (gO g c h)))
  ·refine aD 26 j (aQ 10 2 ?_);obtain⟨J,C,h⟩:=bind_some h;refine aK (iA g C) (aQ 14 3 ?_);obtain⟨k,h⟩|⟨k,h⟩:=am h
   ·exact aD 32 k (ac (ag 0 (gO g c h)))
   ·refine aD 32 k (aQ 16 2 ?_);obtain⟨L,D,h⟩:=bind_some h;refine aK (iA g D) (aQ 20 3 ?_);obtain⟨l,h⟩|⟨l,h⟩:=am h
    ·exact aD 38 l (ac (ag 0 (gO g c h)))
    ·refine aD 38 l (aQ 22 2 ?_);obtain⟨N,E,h⟩:=bind_some h;refine aK (iA g E) (aQ 26 3 ?_);obtain⟨m,h⟩|⟨m,h⟩:=am h
     ·exact aD 44 m (ac (ag 0 (gO g c h)))
     ·refine aD 44 m (aQ 28 2 ?_);obtain⟨O,F,h⟩:=bind_some h;refine aK (iA g F) (aQ 32 3 ?_);obtain⟨o,h⟩|⟨o,h⟩:=am h
      ·exact aD 50 o (ac (ag 0 (gO g c h)))
      ·refine aD 50 o (aQ 34 2 ?_);obtain⟨P,G,h⟩:=bind_some h;refine aK (iA g G) (aQ 38 3 ?_);obtain⟨p,h⟩|⟨p,h⟩:=am h
       ·exact aD 56 p (ac (ag 0 (gO g c h)))
       ·refine aD 56 p (aQ 40 2 ?_);obtain⟨Q,H,h⟩:=bind_some h;refine aK (iA g H) (aQ 44 3 ?_);obtain⟨q,h⟩|⟨q,h⟩:=am h
        ·exact aD 62 q (ac (ag 0 (gO g c h)))
        ·refine aD 62 q (aQ 46 2 ?_);obtain⟨R,I,h⟩:=bind_some h;refine aK (iA g I) (aQ 50 3 ?_);obtain⟨s,h⟩|⟨s,h⟩:=am h
         ·exact aD 68 s (ac (ag 0 (gO g c h)))
         ·refine aD 68 s (aQ 55 5 ?_);obtain⟨t,h⟩|⟨t,h⟩:=am h
          ·exact aD 73 t (ac (ag 0 (gO g c h)))
          ·refine aD 73 t (aQ 60 5 ?_);obtain⟨u,h⟩|⟨u,h⟩:=am h
           ·exact aD 78 u (ac (ag 0 (gO g c h)))
           ·refine aD 78 u (aQ 65 5 ?_);obtain⟨v,h⟩|⟨v,h⟩:=am h
            ·exact aD 83 v (ac (ag 0 (gO g c h)))
            ·refine aD 83 v (aQ 70 5 ?_);obtain⟨w,h⟩|⟨w,h⟩:=am h
             ·exact aD 88 w (ac (ag 0 (gO g c h)))
             ·refine aD 88 w (aQ 75 5 ?_);obtain⟨x,h⟩|⟨x,h⟩:=am h
              ·exact aD 93 x (ac (ag 0 (gO g c h)))
              ·refine aD 93 x (aQ 80 5 ?_);obtain⟨y,h⟩|⟨y,h⟩:=am h
               ·exact aD 98 y (ac (ag 0 (gO g c h)))
               ·refine aD 98 y (aQ 85 5 ?_);obtain⟨z,h⟩|⟨z,h⟩:=am h
                ·exact aD 103 z (ac (ag 0 (gO g c h)))
                ·exact aD 103 z (ac (ag 0 (gO g c h)))
 ·refine ah 11 i (gH 2 3 6 (ai 1 (au (bA bp b) (ac (aL 1 ?_)))));cases h;exact bv
theorem aat(c:ao K)(m:Nat):rr M d r b v2 m (pV K n b v2 m):=by
 induction m with
 | zero=>intro a h;cases h
 | succ m e=>intro a h;have h:mZ K n b v2 (pV K n b v2 m) a=some r:=h;exact bh (ajH c e h)
theorem Rd(a:ao K)(h:AR K n b v2=some r):aX bb 34 [.sl (lm bp b),iI v2] (fun v _=>v=.bool r):=by
 refine bF (cat Tryz.f34 (pn 1)) Tryz.func34 Tryz.ntmps34 fun M d=>(bd ⟨[(0,.sl (lm bp b)),(1,iI v2)],[],[],[]⟩ ?_);unfold AR at h;exact ag 6 (cd (p:=pn 26) n (aat a n h))
end
noncomputable section
variable[GS](M:Nat→Prop)(a:aA)(r:Bool)(b:h7)(v2:List iX)(v4:Int)(e:Bool)(c:Nat)(d:Int→Option Bool)
abbrev Fg:Cx:=⟨bb,31,M,a⟩
abbrev J5:=bodyPost bb Tryz.f11 (bJ M a (fun v _=>v=.bool r))
abbrev Oi(b:dt)(s:AS):=VE (Fg M a) (J5 M a r) b .normal s
abbrev FL(n:Nat):aq:=.c (cat Tryz.f11 (pn n))
abbrev EN:dt:=[.b 0,FL 7]
abbrev ab4:dt:=kl (Fg M a) (J5 M a r) EN (cat Tryz.f11 (pn 52)) c::EN
def ahm:AS:=⟨[(4,.bool e)],[],[],[]⟩
def NJ:AS:=⟨[(0,.sl (lm bp b)),(1,.sl (lm jA v2)),(7,.sl (lm jA v2)),(8,iI (v2.length:Int)),(9,iI v4)],[],[],[]⟩
abbrev K6:Prop:=∀{v4:Int},d v4=some r→LP (Fg M a) (J5 M a r) EN (cat Tryz.f11 (pn 52)) c (NJ b v2 v4)
variable{M a r b v2 v4 e c d}{K:Kn}{n:Nat}
theorem Fd(b:ao K)(h:sN K n e=some r):Oi M a r [FL 15] (ahm e):=by
 unfold sN at h;refine aL 1 ?_;cases h;exact bv
theorem agP(g:ao K)(k:K6 M a r b v2 c d)(h:yU K n b v2 d v4=some r):Oi M a r (FL 52::ab4 M a r c) (NJ b v2 v4):=by
 unfold yU at h;refine av 6 7 3 ?_;obtain⟨i,h⟩|⟨i,h⟩:=am h
 ·refine ah 10 i (cN 8 9 1 3 5 (ai 0 ?_));obtain⟨l,h⟩:=aF h;refine au (bE jA jA l (af5) aT) (ac (av 2 3 1 (ai 3 ?_)));obtain⟨v5,m,h⟩:=bind_some h;refine aK (Rd g m) (ac ?_);obtain⟨j,h⟩|⟨j,h⟩:=am h
  ·refine ah 17 j (aL 9 ?_);cases h;exact bv
  ·exact ah 17 j (ag 4 (bn (k h)))
 ·refine ah 10 i (gH 2 3 6 (ai 1 ?_));obtain⟨v6,o,h⟩:=bind_some h;refine aK (Rd g o) (aQ 3 1 ?_);obtain⟨e,h⟩|⟨e,h⟩:=am h
  ·refine aD 21 e (aQ 4 1 (au (bA bp b) (aQ 8 3 ?_)));obtain⟨f,h⟩|⟨f,h⟩:=am h
   ·exact aD 26 f (aQ 9 1 (au (bA jA v2) (ac (ag 0 (Fd g h)))))
   ·exact aD 26 f (ac (ag 0 (Fd g h)))
  ·exact aD 21 e (ac (ag 0 (Fd g h)))
theorem afO(c:ao K)(m:Nat):K6 M a r b v2 m (vW K n b v2 m):=by
 induction m with
 | zero=>intro v4 h;cases h
 | succ m d=>intro v4 h;have h:yU K n b v2 (vW K n b v2 m) v4=some r:=h;exact bh (agP c d h)
theorem ajE(c:ao K)(h:DE K n b v2=some r):aX bb 11 [.sl (lm bp b),.sl (lm jA v2)] (fun v _=>v=.bool r):=by
 refine bF (cat Tryz.f11 (pn 1)) Tryz.func11 Tryz.ntmps11 fun M a=>(bd ⟨[(0,.sl (lm bp b)),(1,.sl (lm jA v2))],[],[],[]⟩ ?_);unfold DE at h;exact cc 12 13 7 4 (ai 1 (au (bA jA v2) (ac (ag 1 (cd (p:=pn 26) n (afO c n h))))))
end
noncomputable section
variable[GS](M:Nat→Prop)(c:aA)(r:ab×Int)(a:h7)(v2:Int)(d:Bool)(b:Int)(e:d4)(f:Bool)(g:Nat)(i:Int→d4→Option f6)
abbrev Gu:Cx:=⟨bb,95,M,c⟩
abbrev EG:=bodyPost bb Tryz.f41 (bJ M c (fun v s=>v=.tup [.agg (List.set (aB ({ r.1 with Kids:=[] }:ab)) 58 (.ref 72)),iI r.2]∧look 72 s.r=some (bY r.1.Kids)))
abbrev KO(a:dt)(s:AS):=VE (Gu M c) (EG M c r) a .normal s
abbrev rj(n:Nat):aq:=.c (cat Tryz.f41 (pn n))
abbrev Gi:dt:=[.b 0,rj 127]
abbrev Kj:dt:=kl (Gu M c) (EG M c r) Gi (cat Tryz.f41 (pn 504)) g::Gi
def XB:AS:=⟨[(0,.sl (lm bp a)),(1,iI b),(4,.ptr 4 0),(6,.ptr 6 0),(7,.int .u8 ((gD a v2).Depth)),(8,.bool d),(60,.bool f)],[(4,List.set (aB c9) 58 (.nils)),(6,List.set (aB ({ c9 with Kind:=1,Node:=(aa (10+v2)),Style:=(gD a v2).Style }:ab)) 58 (.ref 72))],[(72,(bY e))],[4,6,72]⟩
def Nk:AS:=⟨[(0,.sl (lm bp a)),(1,iI b),(4,.ptr 4 0),(6,.ptr 6 0),(7,.int .u8 ((gD a v2).Depth)),(8,.bool d)],[(4,List.set (aB c9) 58 (.nils)),(6,List.set (aB ({ c9 with Kind:=1,Node:=(aa (10+v2)),Style:=(gD a v2).Style }:ab)) 58 (.ref 72))],[(72,(bY e))],[4,6,72]⟩
def aiQ:AS:=⟨[(0,.sl (lm bp a)),(1,iI (aa (v2+1))),(4,.ptr 4 0),(6,.ptr 6 0),(7,.int .u8 ((gD a v2).Depth)),(8,.bool d)],[(4,List.set (aB c9) 58 (.nils)),(6,List.set (aB ({ c9 with Kind:=1,Node:=(aa (10+v2)),Style:=(gD a v2).Style }:ab)) 58 (.nils))],[],[4,6]⟩
abbrev JK:Prop:=∀{b:Int} {e:d4},i b e=some r→LP (Gu M c) (EG M c r) Gi (cat Tryz.f41 (pn 504)) g (Nk a v2 d b e)
variable{M c r a v2 d b e f g i}{K:Kn}{n:Nat}
theorem Tw(w:ao K)(q:JK M c r a v2 d g i)(h:ng K n a v2 d b e i f=some r):KO M c r (rj 2017::rj 1009::Kj M c r g) (XB a v2 d b e f):=by
 unfold ng at h;obtain⟨j,h⟩|⟨j,h⟩:=am h
 ·refine ah 60 j (b8 (ks':=rj 8073::rj 4037 :: .b 1::Kj M c r g) 6 ?_);obtain⟨l,h⟩|⟨l,h⟩:=am h
  ·refine ah 61 l (av 4 5 2 (ai 2 ?_));obtain⟨s,t,h⟩:=bind_some h;refine aK (w.kW t) (ac (av 2 3 1 (ai 3 (au (gq aM ([s.1]:d4) (new:=[aB s.1]) (by simp only[q6,yk,d7])) ?_))));obtain⟨u,h⟩:=aF h;exact au (cG 72 72 48 59 aM (rfl) (fV) u) (ac (ag 5 (bn (q h))))
  ·refine ah 61 l (fq 2 3 3 (bK [0,1,4,6,7,8] [4,6] [72] ?_));obtain⟨o,h⟩:=aF h;obtain⟨p,h⟩:=aF h;obtain⟨v,h⟩:=aF h;exact bQ 2 (nu 75 [.ptr 6 58,.ref 72,.sl (lm bp a),iI b,.cptr (bp (gD a b)),.cptr (List.drop 5 (bp (gD a b))),.agg (aH ((gD a b).Style)),.sl (lm bp a),iI b,.cptr (bp (gD a b)),.cptr (List.drop 2 (bp (gD a b))),.str ((gD a b).Text),.agg (List.set (aB ({ c9 with Kind:=3,Style:=(gD a b).Style,Text:=(gD a b).Text }:ab)) 58 (.nils)),.sl (lm aM [({ c9 with Kind:=3,Style:=(gD a b).Style,Text:=(gD a b).Text }:ab)])]++nu 90 [.ptr 6 58]) [] [] [gA 89 72 ⟨48,59,lm aM (e++[({ c9 with Kind:=3,Style:=(gD a b).Style,Text:=(gD a b).Text }:ab)])⟩,cf bb 95 Tryz.f41 (pn 8074) 16] (ax [.v 0 2,.v 0 1,.v 0 2,.v 0 2] (aj (gV (lo:=0) (k:=2) (dZ ⟨(by kernel_rfl),(d8 (bE bp bp o (eH) aT) (by kernel_rfl))⟩ (dZ ⟨(by kernel_rfl),(d8 (bE bp bp o (eH) aT) (by kernel_rfl))⟩ iw))) (ax [.v 0 2,.v 0 2,.v 0 2,.v 0 2] (aj (gV (lo:=0) (k:=2) (dZ ⟨(by kernel_rfl),(d8 (bE bp bp p (eH) aT) (by kernel_rfl))⟩ (dZ ⟨(by kernel_rfl),(d8 (bE bp bp p (eH) aT) (by kernel_rfl))⟩ iw))) (ax [.v 0 2,.v 0 2,.v 0 2] (bi (gq aM ([({ c9 with Kind:=3,Style:=(gD a b).Style,Text:=(gD a b).Text }:ab)]:d4) (new:=[aB ({ c9 with Kind:=3,Style:=(gD a b).Style,Text:=(gD a b).Text }:ab)]) (by simp only[q6,yk,d7])) (aj (dr (m:=0) (cG 89 72 48 59 aM (rfl) (fV) v)) (ax [.v 1 1] (aj (ce 1) bN))))))))) (ag 2 (bn (q h)))
 ·refine ah 60 j (aL 8 ?_);cases h;exact pq
theorem Zi(l:ao K)(j:JK M c r a v2 d g i)(h:nS K n a v2 d i b e=some r):KO M c r (rj 504::Kj M c r g) (Nk a v2 d b e):=by
 unfold nS at h;refine cc 4 5 3 2 (ai 2 (au (bA bp a) (aQ 5 2 ?_)));obtain⟨f,h⟩|⟨f,h⟩:=am h
 ·refine aD 52 f (aQ 7 2 ?_);obtain⟨k,h⟩:=aF h;exact au (bE bp bp k (eH) aT) (ac (ag 0 (Tw l j h)))
 ·exact aD 52 f (ac (ag 0 (Tw l j h)))
theorem ZA(f:ao K)(m:Nat):JK M c r a v2 d m (lz K n a v2 d m):=by
 induction m with
 | zero=>intro b e h;cases h
 | succ m g=>intro b e h;have h:nS K n a v2 d (lz K n a v2 d m) b e=some r:=h;exact bh (Zi f g h)
theorem J4(b:ao K)(h:nZ K n a v2 d=some r):KO M c r [rj 63] (aiQ a v2 d):=by
 unfold nZ at h;exact gn 4 0 3 2 (bK [0,1,4,6,7,8] [4,6] [] (Ed 72 6 58 48 59 (ag 0 (cd (p:=pn 252) n (ZA b n h)))))
theorem ag6(e:ao K)(h:n4 K n a v2=some r):aX bb 41 [.sl (lm bp a),iI v2] (fun v s=>v=.tup [.agg (List.set (aB ({ r.1 with Kids:=[] }:ab)) 58 (.ref 72)),iI r.2]∧look 72 s.r=some (bY r.1.Kids)):=by
 refine bF (cat Tryz.f41 (pn 1)) Tryz.func41 Tryz.ntmps41 fun M c=>(bd ⟨[(0,.sl (lm bp a)),(1,iI v2)],[],[],[]⟩ ?_);unfold n4 at h;refine av 6 7 3 (ai 4 ?_);obtain⟨f,h⟩:=aF h;refine au (bE bp bp f (eH) aT) (ac (av 2 3 1 (ai 2 ?_)));obtain⟨g,h⟩:=aF h;refine au (bE bp bp g (eH) aT) (ac (av 6 7 3 (ai 2 (au (bA bp a) (aQ 5 2 ?_)))));obtain⟨b,h⟩|⟨b,h⟩:=am h
 ·refine aD 30 b (aQ 7 2 ?_);obtain⟨i,h⟩:=aF h;refine au (bE bp bp i (eH) aT) (aQ 14 6 ?_);obtain⟨d,h⟩|⟨d,h⟩:=am h
  ·refine aD 39 d (aQ 16 2 ?_);obtain⟨j,h⟩:=aF h;exact au (bE bp bp j (eH) aT) (ac (ag 0 (J4 e h)))
  ·exact aD 39 d (ac (ag 0 (J4 e h)))
 ·exact aD 30 b (ac (ag 0 (J4 e h)))
end
end Go.Proofs.YtocgkfoifehcbaaGreat

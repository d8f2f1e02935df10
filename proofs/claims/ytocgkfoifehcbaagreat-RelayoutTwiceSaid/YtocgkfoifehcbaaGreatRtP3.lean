/- The runs of the functions that RelayoutTwice reaches do what their plain forms say, part 3. Made by a program. -/
import Derived.Test.YtocgkfoifehcbaaGreatRtP2
namespace Go.Proofs.YtocgkfoifehcbaaGreat
open Go.RowKit
set_option maxRecDepth 20000
set_option linter.all false
noncomputable section
variable[GS](M:Nat→Prop)(j:aC)(r:d5×ck)(z:d3)(v2:bw)(A:ck)(v4:eb)(a:Int)(g:ck)(f:d5)(i:Bool)(d:Int)(w:Bool)(q:Int)(t:ck)(u:ay)(l x:Nat)(o:Int→ck→d5→Option (d5×ck))(y:Int→Option (d5×ck))
abbrev yc:Cx:=⟨bb,120,M,j⟩
abbrev xy:=bodyPost bb Tryz.f112 (bP M j (fun v s=>v=.sl (lm aX r.1)∧cB s.o [(1,[.ref 9])]∧look 9 s.r=some (bk r.2)))
abbrev wR(a:dt)(s:AS):=VE (yc M j) (xy M j r) a .normal s
abbrev fM(n:Nat):aq:=.c (cat Tryz.f112 (pn n))
abbrev Gc:dt:=[.b 0,fM 31]
abbrev kZ:dt:=kl (yc M j) (xy M j r) Gc (cat Tryz.f112 (pn 244)) l::Gc
abbrev GT:dt:=.b 3::fM 4009823 :: .b 2::fM 31327 :: .b 1::kZ M j r l
abbrev Pa:dt:=kl (yc M j) (xy M j r) (GT M j r l) (cat Tryz.f112 (pn 16039288)) x::(GT M j r l)
def ac0:AS:=⟨[(1,.fno 113 [.cptr (bO v2),.ptr 1 0]),(5,.sl (lm aw v4)),(6,.ref 117),(8,.ptr 8 0),(9,.bool i),(10,.ptr 10 0),(11,iI q)],[(1,[.ref 9]),(8,aw (gD v4 a)),(10,aX u)],[(9,(bk t)),(117,(b6 f))],[1,8,10,9,117,1000001,1]⟩
def V6:AS:=⟨[(1,.fno 113 [.cptr (bO v2),.ptr 1 0]),(5,.sl (lm aw v4)),(6,.ref 117),(7,iI a),(8,.ptr 8 0),(9,.bool i),(10,.ptr 10 0),(11,iI d),(81,.bool w)],[(1,[.ref 9]),(8,aw (gD v4 a)),(10,List.set (aX cV) 61 (.nils))],[(9,(bk g)),(117,(b6 f))],[1,8,10,9,117,1000001,1]⟩
def RD:AS:=⟨[(1,.fno 113 [.cptr (bO v2),.ptr 1 0]),(5,.sl (lm aw v4)),(6,.ref 117),(7,iI a),(8,.ptr 8 0),(9,.bool i),(10,.ptr 10 0),(11,iI d)],[(1,[.ref 9]),(8,aw (gD v4 a)),(10,List.set (aX cV) 61 (.nils))],[(9,(bk g)),(117,(b6 f))],[1,8,10,9,117,1000001,1]⟩
def aiL:AS:=⟨[(1,.fno 113 [.cptr (bO v2),.ptr 1 0]),(5,.sl (lm aw v4)),(6,.ref 117),(7,iI a),(8,.ptr 8 0),(9,.bool i)],[(1,[.ref 9]),(8,aw (gD v4 a))],[(9,(bk g)),(117,(b6 f))],[1,8,9,117,1000001,1]⟩
def OP:AS:=⟨[(1,.fno 113 [.cptr (bO v2),.ptr 1 0]),(5,.sl (lm aw v4)),(6,.ref 117),(7,iI a)],[(1,[.ref 9])],[(9,(bk g)),(117,(b6 f))],[1,9,117,1000001,1]⟩
abbrev pS:Prop:=∀{a:Int} {g:ck} {f:d5},o a g f=some r→LP (yc M j) (xy M j r) Gc (cat Tryz.f112 (pn 244)) l (OP v2 v4 a g f)
abbrev Hf:Prop:=∀{d:Int},y d=some r→LP (yc M j) (xy M j r) (GT M j r l) (cat Tryz.f112 (pn 16039288)) x (RD v2 v4 a g f i d)
variable{M j r z v2 A v4 a g f i d w q t u l x o y}{K:Kn}{n:Nat}
theorem GO(m:ao K)(e:pS M j r v2 v4 l o)(h:kY K n v2 v4 a f i o q t u=some r):wR M j r (.b 2::fM 31327 :: .b 1::kZ M j r l) (ac0 v2 v4 a f i q t u):=by
 unfold kY at h;refine fV 2 3 2 (bJ [1,5,6,8,9,10,11] [1,8,10] [9,117] (bN 3 (nu 100 [.ptr 8 4,.cptr (aB ((gD v4 a).Box)),.cptr (aB ((gD v4 a).Box)),.cptr (List.drop 1 (aB ((gD v4 a).Box))),iI (((gD v4 a).Box).Node),.ptr 8 4,.cptr (aB ((gD v4 a).Box)),.cptr (aB ((gD v4 a).Box)),.cptr (List.drop 2 (aB ((gD v4 a).Box))),.agg (aH (((gD v4 a).Box).Style)),.bool i,.ptr 10 0,.ptr 10 2,.ptr 10 59]) [] [] [cd bb 120 Tryz.f112 (pn 62654) 12,cd bb 120 Tryz.f112 (pn 62654) 14,cd bb 120 Tryz.f112 (pn 62654) 16] (av [.v 0 1,.v 0 1,.v 0 1,.v 0 1,.v 0 1,.v 0 2,.v 0 2,.v 0 2,.v 0 2,.v 0 2,.v 0 3,.v 0 1] (ai (cb 0) (av [.v 1 1] (ai (cb 1) (av [.v 2 1] (ai (cb 2) bL)))))) ?_));obtain⟨g,b,h⟩:=bV h;obtain⟨k,c,h⟩:=bV h;refine bz (ks':=fM 125310::fM 125311 :: .b 1::kZ M j r l) 1 ⟨[(1,.fno 113 [.cptr (bO v2),.ptr 1 0]),(5,.sl (lm aw v4)),(6,.ref 117),(10,.ptr 10 0),(11,iI q)],[(1,[.ref 9]),(10,aX ({ u with Node:=g,Style:=k,Glued:=i }:ay))],[(9,(bk t)),(117,(b6 f))],[1,10,9,117,1000001,1]⟩ ?_ (by subst c;subst b;kernel_rfl)
 refine aj 3 ?_;obtain⟨d,h⟩:=aD h;exact au (cw 117 117 165 62 aX (rfl) (iH) d) (ac (ag 2 (bq (e h))))
theorem DE(s:ao K)(p:pS M j r v2 v4 l o)(q:Hf M j r v2 v4 a g f i l x y)(h:lS K n v2 v4 a g f i d o y w=some r):wR M j r (fM 64157153::fM 32078577::Pa M j r l x) (V6 v2 v4 a g f i d w):=by
 unfold lS at h;obtain⟨b,h⟩|⟨b,h⟩:=am h
 ·exact ah 81 b (ag 5 (bq (q h)))
 ·refine ah 81 b (bX (ks':=fM 4009823 :: .b 2::fM 31327 :: .b 1::kZ M j r l) 5 (aj 3 ?_));obtain⟨c,h⟩:=aD h;refine au (i7 aw v4 a d 206 (.tmp 84) (some (.tmp 85)) (some (.tmp 86)) 87 (e:=210) (sz:=5) (by kernel_rfl) (by kernel_rfl) (by kernel_rfl) (by kernel_rfl) (by kernel_rfl) (by kernel_rfl) (cU) (fun k t=>by subst t;kernel_rfl) c) ?_;obtain⟨u,m,h⟩:=bind_some h;exact aU (Jh s m) (ac (ag 0 (GO s p h)))
theorem abY(v:ao K)(m:pS M j r v2 v4 l o)(p:Hf M j r v2 v4 a g f i l x y)(h:wj K n v2 v4 a g f i o y d=some r):wR M j r (fM 16039288::Pa M j r l x) (RD v2 v4 a g f i d):=by
 unfold wj at h;refine cf 4 5 3 2 (bJ [1,5,6,7,8,9,10,11] [1,8,10] [9,117] ?_);obtain⟨c,h⟩|⟨c,h⟩:=am h
 ·obtain⟨q,h⟩:=aD h;obtain⟨k,h⟩|⟨k,h⟩:=am h
  ·obtain⟨u,h⟩:=aD h;obtain⟨s,h⟩|⟨s,h⟩:=am h
   ·obtain⟨w,h⟩:=aD h;obtain⟨z,h⟩:=aD h;obtain⟨t,A,h⟩:=bind_some h;exact bN 0 (nu 47 [iI d,.sl (lm aw v4),iI (v4.length:Int),.bool (decide (d<(v4.length:Int))),.bool true,.sl (lm aw v4),iI d,.cptr (aw (gD v4 d)),.cptr (List.drop 0 (aw (gD v4 d))),iI ((gD v4 d).Kind),.bool (((gD v4 d).Kind) == 1),.bool (((gD v4 d).Kind) == 1),.bool true,.sl (lm aw v4),iI d,.cptr (aw (gD v4 d)),.cptr (List.drop 1 (aw (gD v4 d))),iI ((gD v4 d).Of),.ptr 8 1,iI ((gD v4 a).Of),.bool (((gD v4 d).Of) == ((gD v4 a).Of)),.bool (((gD v4 d).Of) == ((gD v4 a).Of)),.bool true,.sl (lm aw v4),iI d,iI (aa (d-1)),.cptr (aw (gD v4 ((aa (d-1))))),.agg (aw (gD v4 ((aa (d-1))))),.sl (lm aw v4),iI d,.cptr (aw (gD v4 d)),.agg (aw (gD v4 d)),.bool t,.bool (!t),.bool (!t)]) [] [] [] (av (vz 2) (bh (bu aw v4) (av [.v 0 1] (ai (cH 0 51 (e:=(decide (d<(v4.length:Int)))) (b:=true) c) (av (vz 2) (bh (bB aw aw q (cU) aT) (av (vz 4) (ai (cH 0 59 (e:=(((gD v4 d).Kind) == 1)) (b:=true) k) (av (vz 2) (bh (bB aw aw u (cU) aT) (av (vz 6) (ai (cH 0 69 (e:=(((gD v4 d).Of) == ((gD v4 a).Of))) (b:=true) s) (av (vz 3) (bh (bB aw aw w (cU) aT) (av (vz 3) (bh (bB aw aw z (cU) aT) (av [.v 0 1] (ai (co 0 1 79 (tV v A)) (av (vz 2) bL))))))))))))))))))) (ag 0 (DE v m p h))
   ·exact bN 0 (nu 47 [iI d,.sl (lm aw v4),iI (v4.length:Int),.bool (decide (d<(v4.length:Int))),.bool true,.sl (lm aw v4),iI d,.cptr (aw (gD v4 d)),.cptr (List.drop 0 (aw (gD v4 d))),iI ((gD v4 d).Kind),.bool (((gD v4 d).Kind) == 1),.bool (((gD v4 d).Kind) == 1),.bool true,.sl (lm aw v4),iI d,.cptr (aw (gD v4 d)),.cptr (List.drop 1 (aw (gD v4 d))),iI ((gD v4 d).Of),.ptr 8 1,iI ((gD v4 a).Of),.bool (((gD v4 d).Of) == ((gD v4 a).Of)),.bool (((gD v4 d).Of) == ((gD v4 a).Of)),.bool false,bf,bf,bf,bf,bf,bf,bf,bf,bf,bf,bf,.bool false]) [] [] [] (av (vz 2) (bh (bu aw v4) (av [.v 0 1] (ai (cH 0 51 (e:=(decide (d<(v4.length:Int)))) (b:=true) c) (av (vz 2) (bh (bB aw aw q (cU) aT) (av (vz 4) (ai (cH 0 59 (e:=(((gD v4 d).Kind) == 1)) (b:=true) k) (av (vz 2) (bh (bB aw aw u (cU) aT) (av (vz 6) (ai (cH 0 69 (e:=(((gD v4 d).Of) == ((gD v4 a).Of))) (b:=false) s) (ai (az 0 1) (ai (az 0 1) (ai (az 0 1) (ai (az 0 1) (ai (az 0 1) (ai (az 0 1) (ai (az 0 1) (ai (az 0 1) (ai (az 0 1) (ai (az 0 1) (ai (az 0 1) (av [.v 0 1] bL)))))))))))))))))))))))) (ag 0 (DE v m p h))
  ·exact bN 0 (nu 47 [iI d,.sl (lm aw v4),iI (v4.length:Int),.bool (decide (d<(v4.length:Int))),.bool true,.sl (lm aw v4),iI d,.cptr (aw (gD v4 d)),.cptr (List.drop 0 (aw (gD v4 d))),iI ((gD v4 d).Kind),.bool (((gD v4 d).Kind) == 1),.bool (((gD v4 d).Kind) == 1),.bool false,bf,bf,bf,bf,bf,bf,bf,bf,.bool false,.bool false,bf,bf,bf,bf,bf,bf,bf,bf,bf,bf,bf,.bool false]) [] [] [] (av (vz 2) (bh (bu aw v4) (av [.v 0 1] (ai (cH 0 51 (e:=(decide (d<(v4.length:Int)))) (b:=true) c) (av (vz 2) (bh (bB aw aw q (cU) aT) (av (vz 4) (ai (cH 0 59 (e:=(((gD v4 d).Kind) == 1)) (b:=false) k) (ai (az 0 1) (ai (az 0 1) (ai (az 0 1) (ai (az 0 1) (ai (az 0 1) (ai (az 0 1) (ai (az 0 1) (ai (az 0 1) (av (vz 2) (ai (az 0 1) (ai (az 0 1) (ai (az 0 1) (ai (az 0 1) (ai (az 0 1) (ai (az 0 1) (ai (az 0 1) (ai (az 0 1) (ai (az 0 1) (ai (az 0 1) (ai (az 0 1) (av [.v 0 1] bL))))))))))))))))))))))))))))) (ag 0 (DE v m p h))
 ·exact bN 0 (nu 47 [iI d,.sl (lm aw v4),iI (v4.length:Int),.bool (decide (d<(v4.length:Int))),.bool false,bf,bf,bf,bf,bf,bf,.bool false,.bool false,bf,bf,bf,bf,bf,bf,bf,bf,.bool false,.bool false,bf,bf,bf,bf,bf,bf,bf,bf,bf,bf,bf,.bool false]) [] [] [] (av (vz 2) (bh (bu aw v4) (av [.v 0 1] (ai (cH 0 51 (e:=(decide (d<(v4.length:Int)))) (b:=false) c) (ai (az 0 1) (ai (az 0 1) (ai (az 0 1) (ai (az 0 1) (ai (az 0 1) (ai (az 0 1) (av (vz 2) (ai (az 0 1) (ai (az 0 1) (ai (az 0 1) (ai (az 0 1) (ai (az 0 1) (ai (az 0 1) (ai (az 0 1) (ai (az 0 1) (av (vz 2) (ai (az 0 1) (ai (az 0 1) (ai (az 0 1) (ai (az 0 1) (ai (az 0 1) (ai (az 0 1) (ai (az 0 1) (ai (az 0 1) (ai (az 0 1) (ai (az 0 1) (ai (az 0 1) (av [.v 0 1] bL)))))))))))))))))))))))))))))))) (ag 0 (DE v m p h))
theorem afR(c:ao K)(b:pS M j r v2 v4 l o)(m:Nat):Hf M j r v2 v4 a g f i l m (qf K n v2 v4 a g f i o m):=by
 induction m with
 | zero=>intro d h;cases h
 | succ m e=>intro d h;have h:wj K n v2 v4 a g f i o (qf K n v2 v4 a g f i o m) d=some r:=h;exact bn (abY c b e h)
theorem Jx(e:ao K)(d:pS M j r v2 v4 l o)(h:qr K n v2 v4 a g f o i=some r):wR M j r (fM 3915 :: .b 1::kZ M j r l) (aiL v2 v4 a g f i):=by
 unfold qr at h;obtain⟨s,k,h⟩:=bV h;refine bz (ks':=fM 250613 :: .b 2::fM 31327 :: .b 1::kZ M j r l) 10 ⟨[(1,.fno 113 [.cptr (bO v2),.ptr 1 0]),(5,.sl (lm aw v4)),(6,.ref 117),(7,iI a),(8,.ptr 8 0),(9,.bool i),(10,.ptr 10 0),(11,iI (aa (a+1))),(46,iI ((gD v4 a).Kind)),(89,.bool s)],[(1,[.ref 9]),(8,aw (gD v4 a)),(10,List.set (aX cV) 61 (.nils))],[(9,(bk g)),(117,(b6 f))],[1,8,10,9,117,1000001,1]⟩ ?_ (by subst k;kernel_rfl);obtain⟨b,h⟩|⟨b,h⟩:=am h
 ·exact ah 89 b (bX (ks':=.b 2::fM 31327 :: .b 1::kZ M j r l) 2 (mJ 10 (ag 0 (GO e d h))))
 ·refine ah 89 b ?_;obtain⟨t,m,h⟩:=bV h;refine bz (ks':=fM 1002455 :: .b 2::fM 31327 :: .b 1::kZ M j r l) 3 ⟨[(1,.fno 113 [.cptr (bO v2),.ptr 1 0]),(5,.sl (lm aw v4)),(6,.ref 117),(7,iI a),(8,.ptr 8 0),(9,.bool i),(10,.ptr 10 0),(11,iI (aa (a+1))),(92,.bool t)],[(1,[.ref 9]),(8,aw (gD v4 a)),(10,List.set (aX cV) 61 (.nils))],[(9,(bk g)),(117,(b6 f))],[1,8,10,9,117,1000001,1]⟩ ?_ (by subst m;kernel_rfl);obtain⟨c,h⟩|⟨c,h⟩:=am h
  ·refine ah 92 c (bp 2 1 (aj 5 ?_));obtain⟨u,q,h⟩:=bind_some h;exact kp 9 9 [(1,1)] (adX e q) (ac (ag 0 (GO e d h)))
  ·exact ah 92 c (ag 3 (ce (p:=pn 8019644) n (afR e d n h)))
theorem WL(q:ao K)(k:pS M j r v2 v4 l o)(h:tw K n v2 v4 o a g f=some r):wR M j r (fM 244::kZ M j r l) (OP v2 v4 a g f):=by
 unfold tw at h;refine cf 4 5 3 2 (aj 2 (au (bu aw v4) (ac ?_)));obtain⟨d,h⟩|⟨d,h⟩:=am h
 ·refine ah 17 d (bX (ks':=fM 1956::fM 1957 :: .b 1::kZ M j r l) 4 (aj 2 ?_));obtain⟨s,h⟩:=aD h;refine au (bB aw aw s (cU) aT) (ac (ax 2 3 1 (bJ [1,5,6,7,8] [1,8] [9,117] ?_)));obtain⟨c,h⟩|⟨c,h⟩:=am h
  ·obtain⟨p,h⟩:=aD h;obtain⟨i,h⟩|⟨i,h⟩:=am h
   ·obtain⟨t,h⟩:=aD h;obtain⟨m,u,h⟩:=bind_some h;exact bN 1 (nu 22 [iI a,.bool (decide (a>0)),.bool true,.sl (lm aw v4),iI a,iI (aa (a-1)),.cptr (aw (gD v4 ((aa (a-1))))),.cptr (List.drop 0 (aw (gD v4 ((aa (a-1)))))),iI ((gD v4 ((aa (a-1)))).Kind),.bool (((gD v4 ((aa (a-1)))).Kind) != 2),.bool (((gD v4 ((aa (a-1)))).Kind) != 2),.bool true,.sl (lm aw v4),iI a,iI (aa (a-1)),.cptr (aw (gD v4 ((aa (a-1))))),.agg (aw (gD v4 ((aa (a-1))))),.agg (aw (gD v4 a)),.bool m,.bool (!m),.bool (!m)]) [] [] [cd bb 120 Tryz.f112 (pn 3914) 21] (av (vz 2) (ai (cH 0 24 (e:=(decide (a>0))) (b:=true) c) (av (vz 3) (bh (bB aw aw p (cU) aT) (av (vz 4) (ai (cH 0 33 (e:=(((gD v4 ((aa (a-1)))).Kind) != 2)) (b:=true) i) (av (vz 3) (bh (bB aw aw t (cU) aT) (av (vz 2) (ai (co 0 1 40 (tV q u)) (av (vz 2) (ai (cb 0) bL)))))))))))) (ag 0 (Jx q k h))
   ·exact bN 1 (nu 22 [iI a,.bool (decide (a>0)),.bool true,.sl (lm aw v4),iI a,iI (aa (a-1)),.cptr (aw (gD v4 ((aa (a-1))))),.cptr (List.drop 0 (aw (gD v4 ((aa (a-1)))))),iI ((gD v4 ((aa (a-1)))).Kind),.bool (((gD v4 ((aa (a-1)))).Kind) != 2),.bool (((gD v4 ((aa (a-1)))).Kind) != 2),.bool false,bf,bf,bf,bf,bf,bf,bf,bf,.bool false]) [] [] [cd bb 120 Tryz.f112 (pn 3914) 21] (av (vz 2) (ai (cH 0 24 (e:=(decide (a>0))) (b:=true) c) (av (vz 3) (bh (bB aw aw p (cU) aT) (av (vz 4) (ai (cH 0 33 (e:=(((gD v4 ((aa (a-1)))).Kind) != 2)) (b:=false) i) (ai (az 0 1) (ai (az 0 1) (ai (az 0 1) (ai (az 0 1) (ai (az 0 1) (ai (az 0 1) (ai (az 0 1) (ai (az 0 1) (av [.v 0 1] (ai (cb 0) bL)))))))))))))))) (ag 0 (Jx q k h))
  ·exact bN 1 (nu 22 [iI a,.bool (decide (a>0)),.bool false,bf,bf,bf,bf,bf,bf,bf,.bool false,.bool false,bf,bf,bf,bf,bf,bf,bf,bf,.bool false]) [] [] [cd bb 120 Tryz.f112 (pn 3914) 21] (av (vz 2) (ai (cH 0 24 (e:=(decide (a>0))) (b:=false) c) (ai (az 0 1) (ai (az 0 1) (ai (az 0 1) (ai (az 0 1) (ai (az 0 1) (ai (az 0 1) (ai (az 0 1) (av (vz 2) (ai (az 0 1) (ai (az 0 1) (ai (az 0 1) (ai (az 0 1) (ai (az 0 1) (ai (az 0 1) (ai (az 0 1) (ai (az 0 1) (av [.v 0 1] (ai (cb 0) bL)))))))))))))))))))) (ag 0 (Jx q k h))
 ·refine ah 17 d (aN 8 (gq 117 ?_));cases h;exact fm
theorem agD(b:ao K)(m:Nat):pS M j r v2 v4 m (pN K n v2 v4 m):=by
 induction m with
 | zero=>intro a g f h;cases h
 | succ m c=>intro a g f h;have h:tw K n v2 v4 (pN K n v2 v4 m) a g f=some r:=h;exact bn (WL b c h)
theorem acr(a:ao K)(h:vT K n z v2 A=some r):jE bb 112 [.sl (lm aK z),.fno 113 [.cptr (bO v2),.ptr 1 0]] [(1,[.ref 9])] 9 (bk A) [9,1,1000001] (fun v s=>v=.sl (lm aX r.1)∧cB s.o [(1,[.ref 9])]∧look 9 s.r=some (bk r.2)):=by
 refine mZ (c:=cat Tryz.f112 (pn 1)) ama (by kernel_rfl) _ al8 (lp (by kernel_rfl)) fun M j=>(bm ⟨[(0,.sl (lm aK z)),(1,.fno 113 [.cptr (bO v2),.ptr 1 0])],[(1,[.ref 9])],[(9,(bk A))],[9,1,1000001]⟩ ?_);unfold vT at h;refine ax 6 7 3 (aj 1 ?_);obtain⟨v4,b,h⟩:=bind_some h;exact eT 1013 (Hi a b) (eO 400003) (ac (gJ 26 0 7 6 (bJ [1,5,6,7] [1] [9,1013] (gq 1013 (eQ 117 6 165 62 (ag 0 (ce (p:=pn 122) n (agD a n h))))))))
end
noncomputable section
variable[GS](M:Nat→Prop)(l:aC)(r:d5×Int×ck)(B:d3)(v2:Int)(C:ck)(v4:eb)(a g:Int)(i:ck)(f:d5)(j:Bool)(d:Int)(y:Bool)(t u:Int)(w:ck)(x:ay)(o z:Nat)(q:Int→Int→ck→d5→Option (d5×Int×ck))(A:Int→Option (d5×Int×ck))
abbrev wW:Cx:=⟨bb,120,M,l⟩
abbrev Av:=bodyPost bb Tryz.f112 (bP M l (fun v s=>v=.sl (lm aX r.1)∧cB s.o [(1,[iI r.2.1]),(2,[.ref 9])]∧look 9 s.r=some (bk r.2.2)))
abbrev xq(a:dt)(s:AS):=VE (wW M l) (Av M l r) a .normal s
abbrev fF(n:Nat):aq:=.c (cat Tryz.f112 (pn n))
abbrev Gn:dt:=[.b 0,fF 31]
abbrev lH:dt:=kl (wW M l) (Av M l r) Gn (cat Tryz.f112 (pn 244)) o::Gn
abbrev KV:dt:=.b 3::fF 4009823 :: .b 2::fF 31327 :: .b 1::lH M l r o
abbrev SZ:dt:=kl (wW M l) (Av M l r) (KV M l r o) (cat Tryz.f112 (pn 16039288)) z::(KV M l r o)
def agx:AS:=⟨[(1,.fno 114 [.ptr 1 0,.ptr 2 0]),(5,.sl (lm aw v4)),(6,.ref 117),(8,.ptr 8 0),(9,.bool j),(10,.ptr 10 0),(11,iI t)],[(1,[iI u]),(2,[.ref 9]),(8,aw (gD v4 a)),(10,aX x)],[(9,(bk w)),(117,(b6 f))],[1,2,8,10,9,117,1000001,1,1000002,2]⟩
def afj:AS:=⟨[(1,.fno 114 [.ptr 1 0,.ptr 2 0]),(5,.sl (lm aw v4)),(6,.ref 117),(7,iI a),(8,.ptr 8 0),(9,.bool j),(10,.ptr 10 0),(11,iI d),(81,.bool y)],[(1,[iI g]),(2,[.ref 9]),(8,aw (gD v4 a)),(10,List.set (aX cV) 61 (.nils))],[(9,(bk i)),(117,(b6 f))],[1,2,8,10,9,117,1000001,1,1000002,2]⟩
def Ld:AS:=⟨[(1,.fno 114 [.ptr 1 0,.ptr 2 0]),(5,.sl (lm aw v4)),(6,.ref 117),(7,iI a),(8,.ptr 8 0),(9,.bool j),(10,.ptr 10 0),(11,iI d)],[(1,[iI g]),(2,[.ref 9]),(8,aw (gD v4 a)),(10,List.set (aX cV) 61 (.nils))],[(9,(bk i)),(117,(b6 f))],[1,2,8,10,9,117,1000001,1,1000002,2]⟩
def ajC:AS:=⟨[(1,.fno 114 [.ptr 1 0,.ptr 2 0]),(5,.sl (lm aw v4)),(6,.ref 117),(7,iI a),(8,.ptr 8 0),(9,.bool j)],[(1,[iI g]),(2,[.ref 9]),(8,aw (gD v4 a))],[(9,(bk i)),(117,(b6 f))],[1,2,8,9,117,1000001,1,1000002,2]⟩
def Ot:AS:=⟨[(1,.fno 114 [.ptr 1 0,.ptr 2 0]),(5,.sl (lm aw v4)),(6,.ref 117),(7,iI a)],[(1,[iI g]),(2,[.ref 9])],[(9,(bk i)),(117,(b6 f))],[1,2,9,117,1000001,1,1000002,2]⟩
abbrev pr:Prop:=∀{a:Int} {g:Int} {i:ck} {f:d5},q a g i f=some r→LP (wW M l) (Av M l r) Gn (cat Tryz.f112 (pn 244)) o (Ot v4 a g i f)
abbrev FD:Prop:=∀{d:Int},A d=some r→LP (wW M l) (Av M l r) (KV M l r o) (cat Tryz.f112 (pn 16039288)) z (Ld v4 a g i f j d)
variable{M l r B v2 C v4 a g i f j d y t u w x o z q A}{K:Kn}{n:Nat}
theorem KP(k:ao K)(e:pr M l r v4 o q)(h:k8 K n v4 a f j q t u w x=some r):xq M l r (.b 2::fF 31327 :: .b 1::lH M l r o) (agx v4 a f j t u w x):=by
 unfold k8 at h;refine fV 2 3 2 (bJ [1,5,6,8,9,10,11] [1,2,8,10] [9,117] (bN 3 (nu 100 [.ptr 8 4,.cptr (aB ((gD v4 a).Box)),.cptr (aB ((gD v4 a).Box)),.cptr (List.drop 1 (aB ((gD v4 a).Box))),iI (((gD v4 a).Box).Node),.ptr 8 4,.cptr (aB ((gD v4 a).Box)),.cptr (aB ((gD v4 a).Box)),.cptr (List.drop 2 (aB ((gD v4 a).Box))),.agg (aH (((gD v4 a).Box).Style)),.bool j,.ptr 10 0,.ptr 10 2,.ptr 10 59]) [] [] [cd bb 120 Tryz.f112 (pn 62654) 12,cd bb 120 Tryz.f112 (pn 62654) 14,cd bb 120 Tryz.f112 (pn 62654) 16] (av [.v 0 1,.v 0 1,.v 0 1,.v 0 1,.v 0 1,.v 0 2,.v 0 2,.v 0 2,.v 0 2,.v 0 2,.v 0 3,.v 0 1] (ai (cb 0) (av [.v 1 1] (ai (cb 1) (av [.v 2 1] (ai (cb 2) bL)))))) ?_));obtain⟨g,b,h⟩:=bV h;obtain⟨i,c,h⟩:=bV h;refine bz (ks':=fF 125310::fF 125311 :: .b 1::lH M l r o) 1 ⟨[(1,.fno 114 [.ptr 1 0,.ptr 2 0]),(5,.sl (lm aw v4)),(6,.ref 117),(10,.ptr 10 0),(11,iI t)],[(1,[iI u]),(2,[.ref 9]),(10,aX ({ x with Node:=g,Style:=i,Glued:=j }:ay))],[(9,(bk w)),(117,(b6 f))],[1,2,10,9,117,1000001,1,1000002,2]⟩ ?_ (by subst c;subst b;kernel_rfl)
 refine aj 3 ?_;obtain⟨d,h⟩:=aD h;exact au (cw 117 117 165 62 aX (rfl) (iH) d) (ac (ag 2 (bq (e h))))
theorem DD(t:ao K)(p:pr M l r v4 o q)(s:FD M l r v4 a g i f j o z A)(h:l4 K n v4 a g i f j d q A y=some r):xq M l r (fF 64157153::fF 32078577::SZ M l r o z) (afj v4 a g i f j d y):=by
 unfold l4 at h;obtain⟨b,h⟩|⟨b,h⟩:=am h
 ·exact ah 81 b (ag 5 (bq (s h)))
 ·refine ah 81 b (bX (ks':=fF 4009823 :: .b 2::fF 31327 :: .b 1::lH M l r o) 5 (aj 3 ?_));obtain⟨c,h⟩:=aD h;refine au (i7 aw v4 a d 206 (.tmp 84) (some (.tmp 85)) (some (.tmp 86)) 87 (e:=210) (sz:=5) (by kernel_rfl) (by kernel_rfl) (by kernel_rfl) (by kernel_rfl) (by kernel_rfl) (by kernel_rfl) (cU) (fun k u=>by subst u;kernel_rfl) c) ?_;obtain⟨v,m,h⟩:=bind_some h;exact aU (Jh t m) (ac (ag 0 (KP t p h)))
theorem afk(w:ao K)(m:pr M l r v4 o q)(p:FD M l r v4 a g i f j o z A)(h:sA K n v4 a g i f j q A d=some r):xq M l r (fF 16039288::SZ M l r o z) (Ld v4 a g i f j d):=by
 unfold sA at h;refine cf 4 5 3 2 (bJ [1,5,6,7,8,9,10,11] [1,2,8,10] [9,117] ?_);obtain⟨c,h⟩|⟨c,h⟩:=am h
 ·obtain⟨s,h⟩:=aD h;obtain⟨k,h⟩|⟨k,h⟩:=am h
  ·obtain⟨v,h⟩:=aD h;obtain⟨t,h⟩|⟨t,h⟩:=am h
   ·obtain⟨x,h⟩:=aD h;obtain⟨y,h⟩:=aD h;obtain⟨u,B,h⟩:=bind_some h;exact bN 0 (nu 47 [iI d,.sl (lm aw v4),iI (v4.length:Int),.bool (decide (d<(v4.length:Int))),.bool true,.sl (lm aw v4),iI d,.cptr (aw (gD v4 d)),.cptr (List.drop 0 (aw (gD v4 d))),iI ((gD v4 d).Kind),.bool (((gD v4 d).Kind) == 1),.bool (((gD v4 d).Kind) == 1),.bool true,.sl (lm aw v4),iI d,.cptr (aw (gD v4 d)),.cptr (List.drop 1 (aw (gD v4 d))),iI ((gD v4 d).Of),.ptr 8 1,iI ((gD v4 a).Of),.bool (((gD v4 d).Of) == ((gD v4 a).Of)),.bool (((gD v4 d).Of) == ((gD v4 a).Of)),.bool true,.sl (lm aw v4),iI d,iI (aa (d-1)),.cptr (aw (gD v4 ((aa (d-1))))),.agg (aw (gD v4 ((aa (d-1))))),.sl (lm aw v4),iI d,.cptr (aw (gD v4 d)),.agg (aw (gD v4 d)),.bool u,.bool (!u),.bool (!u)]) [] [] [] (av (vz 2) (bh (bu aw v4) (av [.v 0 1] (ai (cH 0 51 (e:=(decide (d<(v4.length:Int)))) (b:=true) c) (av (vz 2) (bh (bB aw aw s (cU) aT) (av (vz 4) (ai (cH 0 59 (e:=(((gD v4 d).Kind) == 1)) (b:=true) k) (av (vz 2) (bh (bB aw aw v (cU) aT) (av (vz 6) (ai (cH 0 69 (e:=(((gD v4 d).Of) == ((gD v4 a).Of))) (b:=true) t) (av (vz 3) (bh (bB aw aw x (cU) aT) (av (vz 3) (bh (bB aw aw y (cU) aT) (av [.v 0 1] (ai (co 0 1 79 (tV w B)) (av (vz 2) bL))))))))))))))))))) (ag 0 (DD w m p h))
   ·exact bN 0 (nu 47 [iI d,.sl (lm aw v4),iI (v4.length:Int),.bool (decide (d<(v4.length:Int))),.bool true,.sl (lm aw v4),iI d,.cptr (aw (gD v4 d)),.cptr (List.drop 0 (aw (gD v4 d))),iI ((gD v4 d).Kind),.bool (((gD v4 d).Kind) == 1),.bool (((gD v4 d).Kind) == 1),.bool true,.sl (lm aw v4),iI d,.cptr (aw (gD v4 d)),.cptr (List.drop 1 (aw (gD v4 d))),iI ((gD v4 d).Of),.ptr 8 1,iI ((gD v4 a).Of),.bool (((gD v4 d).Of) == ((gD v4 a).Of)),.bool (((gD v4 d).Of) == ((gD v4 a).Of)),.bool false,bf,bf,bf,bf,bf,bf,bf,bf,bf,bf,bf,.bool false]) [] [] [] (av (vz 2) (bh (bu aw v4) (av [.v 0 1] (ai (cH 0 51 (e:=(decide (d<(v4.length:Int)))) (b:=true) c) (av (vz 2) (bh (bB aw aw s (cU) aT) (av (vz 4) (ai (cH 0 59 (e:=(((gD v4 d).Kind) == 1)) (b:=true) k) (av (vz 2) (bh (bB aw aw v (cU) aT) (av (vz 6) (ai (cH 0 69 (e:=(((gD v4 d).Of) == ((gD v4 a).Of))) (b:=false) t) (ai (az 0 1) (ai (az 0 1) (ai (az 0 1) (ai (az 0 1) (ai (az 0 1) (ai (az 0 1) (ai (az 0 1) (ai (az 0 1) (ai (az 0 1) (ai (az 0 1) (ai (az 0 1) (av [.v 0 1] bL)))))))))))))))))))))))) (ag 0 (DD w m p h))
  ·exact bN 0 (nu 47 [iI d,.sl (lm aw v4),iI (v4.length:Int),.bool (decide (d<(v4.length:Int))),.bool true,.sl (lm aw v4),iI d,.cptr (aw (gD v4 d)),.cptr (List.drop 0 (aw (gD v4 d))),iI ((gD v4 d).Kind),.bool (((gD v4 d).Kind) == 1),.bool (((gD v4 d).Kind) == 1),.bool false,bf,bf,bf,bf,bf,bf,bf,bf,.bool false,.bool false,bf,bf,bf,bf,bf,bf,bf,bf,bf,bf,bf,.bool false]) [] [] [] (av (vz 2) (bh (bu aw v4) (av [.v 0 1] (ai (cH 0 51 (e:=(decide (d<(v4.length:Int)))) (b:=true) c) (av (vz 2) (bh (bB aw aw s (cU) aT) (av (vz 4) (ai (cH 0 59 (e:=(((gD v4 d).Kind) == 1)) (b:=false) k) (ai (az 0 1) (ai (az 0 1) (ai (az 0 1) (ai (az 0 1) (ai (az 0 1) (ai (az 0 1) (ai (az 0 1) (ai (az 0 1) (av (vz 2) (ai (az 0 1) (ai (az 0 1) (ai (az 0 1) (ai (az 0 1) (ai (az 0 1) (ai (az 0 1) (ai (az 0 1) (ai (az 0 1) (ai (az 0 1) (ai (az 0 1) (ai (az 0 1) (av [.v 0 1] bL))))))))))))))))))))))))))))) (ag 0 (DD w m p h))
 ·exact bN 0 (nu 47 [iI d,.sl (lm aw v4),iI (v4.length:Int),.bool (decide (d<(v4.length:Int))),.bool false,bf,bf,bf,bf,bf,bf,.bool false,.bool false,bf,bf,bf,bf,bf,bf,bf,bf,.bool false,.bool false,bf,bf,bf,bf,bf,bf,bf,bf,bf,bf,bf,.bool false]) [] [] [] (av (vz 2) (bh (bu aw v4) (av [.v 0 1] (ai (cH 0 51 (e:=(decide (d<(v4.length:Int)))) (b:=false) c) (ai (az 0 1) (ai (az 0 1) (ai (az 0 1) (ai (az 0 1) (ai (az 0 1) (ai (az 0 1) (av (vz 2) (ai (az 0 1) (ai (az 0 1) (ai (az 0 1) (ai (az 0 1) (ai (az 0 1) (ai (az 0 1) (ai (az 0 1) (ai (az 0 1) (av (vz 2) (ai (az 0 1) (ai (az 0 1) (ai (az 0 1) (ai (az 0 1) (ai (az 0 1) (ai (az 0 1) (ai (az 0 1) (ai (az 0 1) (ai (az 0 1) (ai (az 0 1) (ai (az 0 1) (av [.v 0 1] bL)))))))))))))))))))))))))))))))) (ag 0 (DD w m p h))
theorem af1(c:ao K)(b:pr M l r v4 o q)(m:Nat):FD M l r v4 a g i f j o m (pe K n v4 a g i f j q m):=by
 induction m with
 | zero=>intro d h;cases h
 | succ m e=>intro d h;have h:sA K n v4 a g i f j q (pe K n v4 a g i f j q m) d=some r:=h;exact bn (afk c b e h)
theorem GR(e:ao K)(d:pr M l r v4 o q)(h:qn K n v4 a g i f q j=some r):xq M l r (fF 3915 :: .b 1::lH M l r o) (ajC v4 a g i f j):=by
 unfold qn at h;obtain⟨t,k,h⟩:=bV h;refine bz (ks':=fF 250613 :: .b 2::fF 31327 :: .b 1::lH M l r o) 10 ⟨[(1,.fno 114 [.ptr 1 0,.ptr 2 0]),(5,.sl (lm aw v4)),(6,.ref 117),(7,iI a),(8,.ptr 8 0),(9,.bool j),(10,.ptr 10 0),(11,iI (aa (a+1))),(46,iI ((gD v4 a).Kind)),(89,.bool t)],[(1,[iI g]),(2,[.ref 9]),(8,aw (gD v4 a)),(10,List.set (aX cV) 61 (.nils))],[(9,(bk i)),(117,(b6 f))],[1,2,8,10,9,117,1000001,1,1000002,2]⟩ ?_ (by subst k;kernel_rfl);obtain⟨b,h⟩|⟨b,h⟩:=am h
 ·exact ah 89 b (bX (ks':=.b 2::fF 31327 :: .b 1::lH M l r o) 2 (mJ 10 (ag 0 (KP e d h))))
 ·refine ah 89 b ?_;obtain⟨u,m,h⟩:=bV h;refine bz (ks':=fF 1002455 :: .b 2::fF 31327 :: .b 1::lH M l r o) 3 ⟨[(1,.fno 114 [.ptr 1 0,.ptr 2 0]),(5,.sl (lm aw v4)),(6,.ref 117),(7,iI a),(8,.ptr 8 0),(9,.bool j),(10,.ptr 10 0),(11,iI (aa (a+1))),(92,.bool u)],[(1,[iI g]),(2,[.ref 9]),(8,aw (gD v4 a)),(10,List.set (aX cV) 61 (.nils))],[(9,(bk i)),(117,(b6 f))],[1,2,8,10,9,117,1000001,1,1000002,2]⟩ ?_ (by subst m;kernel_rfl);obtain⟨c,h⟩|⟨c,h⟩:=am h
  ·refine ah 92 c (bp 2 1 (aj 5 ?_));obtain⟨v,s,h⟩:=bind_some h;exact kp 9 9 [(1,1),(2,2)] (Wc e s) (ac (ag 0 (KP e d h)))
  ·exact ah 92 c (ag 3 (ce (p:=pn 8019644) n (af1 e d n h)))
theorem Yh(s:ao K)(k:pr M l r v4 o q)(h:tn K n v4 q a g i f=some r):xq M l r (fF 244::lH M l r o) (Ot v4 a g i f):=by
 unfold tn at h;refine cf 4 5 3 2 (aj 2 (au (bu aw v4) (ac ?_)));obtain⟨d,h⟩|⟨d,h⟩:=am h
 ·refine ah 17 d (bX (ks':=fF 1956::fF 1957 :: .b 1::lH M l r o) 4 (aj 2 ?_));obtain⟨t,h⟩:=aD h;refine au (bB aw aw t (cU) aT) (ac (ax 2 3 1 (bJ [1,5,6,7,8] [1,2,8] [9,117] ?_)));obtain⟨c,h⟩|⟨c,h⟩:=am h
  ·obtain⟨p,h⟩:=aD h;obtain⟨j,h⟩|⟨j,h⟩:=am h
   ·obtain⟨u,h⟩:=aD h;obtain⟨m,v,h⟩:=bind_some h;exact bN 1 (nu 22 [iI a,.bool (decide (a>0)),.bool true,.sl (lm aw v4),iI a,iI (aa (a-1)),.cptr (aw (gD v4 ((aa (a-1))))),.cptr (List.drop 0 (aw (gD v4 ((aa (a-1)))))),iI ((gD v4 ((aa (a-1)))).Kind),.bool (((gD v4 ((aa (a-1)))).Kind) != 2),.bool (((gD v4 ((aa (a-1)))).Kind) != 2),.bool true,.sl (lm aw v4),iI a,iI (aa (a-1)),.cptr (aw (gD v4 ((aa (a-1))))),.agg (aw (gD v4 ((aa (a-1))))),.agg (aw (gD v4 a)),.bool m,.bool (!m),.bool (!m)]) [] [] [cd bb 120 Tryz.f112 (pn 3914) 21] (av (vz 2) (ai (cH 0 24 (e:=(decide (a>0))) (b:=true) c) (av (vz 3) (bh (bB aw aw p (cU) aT) (av (vz 4) (ai (cH 0 33 (e:=(((gD v4 ((aa (a-1)))).Kind) != 2)) (b:=true) j) (av (vz 3) (bh (bB aw aw u (cU) aT) (av (vz 2) (ai (co 0 1 40 (tV s v)) (av (vz 2) (ai (cb 0) bL)))))))))))) (ag 0 (GR s k h))
   ·exact bN 1 (nu 22 [iI a,.bool (decide (a>0)),.bool true,.sl (lm aw v4),iI a,iI (aa (a-1)),.cptr (aw (gD v4 ((aa (a-1))))),.cptr (List.drop 0 (aw (gD v4 ((aa (a-1)))))),iI ((gD v4 ((aa (a-1)))).Kind),.bool (((gD v4 ((aa (a-1)))).Kind) != 2),.bool (((gD v4 ((aa (a-1)))).Kind) != 2),.bool false,bf,bf,bf,bf,bf,bf,bf,bf,.bool false]) [] [] [cd bb 120 Tryz.f112 (pn 3914) 21] (av (vz 2) (ai (cH 0 24 (e:=(decide (a>0))) (b:=true) c) (av (vz 3) (bh (bB aw aw p (cU) aT) (av (vz 4) (ai (cH 0 33 (e:=(((gD v4 ((aa (a-1)))).Kind) != 2)) (b:=false) j) (ai (az 0 1) (ai (az 0 1) (ai (az 0 1) (ai (az 0 1) (ai (az 0 1) (ai (az 0 1) (ai (az 0 1) (ai (az 0 1) (av [.v 0 1] (ai (cb 0) bL)))))))))))))))) (ag 0 (GR s k h))
  ·exact bN 1 (nu 22 [iI a,.bool (decide (a>0)),.bool false,bf,bf,bf,bf,bf,bf,bf,.bool false,.bool false,bf,bf,bf,bf,bf,bf,bf,bf,.bool false]) [] [] [cd bb 120 Tryz.f112 (pn 3914) 21] (av (vz 2) (ai (cH 0 24 (e:=(decide (a>0))) (b:=false) c) (ai (az 0 1) (ai (az 0 1) (ai (az 0 1) (ai (az 0 1) (ai (az 0 1) (ai (az 0 1) (ai (az 0 1) (av (vz 2) (ai (az 0 1) (ai (az 0 1) (ai (az 0 1) (ai (az 0 1) (ai (az 0 1) (ai (az 0 1) (ai (az 0 1) (ai (az 0 1) (av [.v 0 1] (ai (cb 0) bL)))))))))))))))))))) (ag 0 (GR s k h))
 ·refine ah 17 d (aN 8 (gq 117 ?_));cases h;exact fm
theorem aee(b:ao K)(m:Nat):pr M l r v4 m (qC K n v4 m):=by
 induction m with
 | zero=>intro a g i f h;cases h
 | succ m c=>intro a g i f h;have h:tn K n v4 (qC K n v4 m) a g i f=some r:=h;exact bn (Yh b c h)
theorem adh(a:ao K)(h:vN K n B v2 C=some r):jE bb 112 [.sl (lm aK B),.fno 114 [.ptr 1 0,.ptr 2 0]] [(1,[iI v2]),(2,[.ref 9])] 9 (bk C) [9,1,2,1000001,1000002] (fun v s=>v=.sl (lm aX r.1)∧cB s.o [(1,[iI r.2.1]),(2,[.ref 9])]∧look 9 s.r=some (bk r.2.2)):=by
 refine mZ (c:=cat Tryz.f112 (pn 1)) ama (by kernel_rfl) _ al8 (lp (by kernel_rfl)) fun M l=>(bm ⟨[(0,.sl (lm aK B)),(1,.fno 114 [.ptr 1 0,.ptr 2 0])],[(1,[iI v2]),(2,[.ref 9])],[(9,(bk C))],[9,1,2,1000001,1000002]⟩ ?_);unfold vN at h;refine ax 6 7 3 (aj 1 ?_);obtain⟨v4,b,h⟩:=bind_some h;exact eT 1013 (Hi a b) (eO 400003) (ac (gJ 26 0 7 6 (bJ [1,5,6,7] [1,2] [9,1013] (gq 1013 (eQ 117 6 165 62 (ag 0 (ce (p:=pn 122) n (aee a n h))))))))
end
noncomputable section
variable[GS](M:Nat→Prop)(c:aC)(r:Int×Int)(A:d3)(v2:aP)(z:bw)(v4:d5×ck)(v5:d5×Int×ck)(d g l o b a f:Int)(q:Bool)(t:Int)(u i w:Nat)(x j:Int→Int→Option em)(y:Int→Option em)
abbrev qh:Cx:=⟨bb,74,M,c⟩
abbrev pP:=bodyPost bb Tryz.f55 (bP M c (fun v _=>v=.tup [iI r.1,iI r.2]))
abbrev rW(a:dt)(s:AS):=VE (qh M c) (pP M c r) a .normal s
abbrev jT(n:Nat):aq:=.c (cat Tryz.f55 (pn n))
abbrev Kk:dt:=[.b 2,jT 255]
abbrev Jm:dt:=kl (qh M c) (pP M c r) Kk (cat Tryz.f55 (pn 2036)) i::Kk
abbrev KB:dt:=[.b 0,jT 127]
abbrev Gk:dt:=kl (qh M c) (pP M c r) KB (cat Tryz.f55 (pn 1012)) u::KB
abbrev Gz:dt:=.b 4::jT 32587 :: .b 3::Jm M c r i
abbrev Nv:dt:=kl (qh M c) (pP M c r) (Gz M c r i) (cat Tryz.f55 (pn 130344)) w::(Gz M c r i)
def adl:AS:=⟨[(6,iI o),(7,iI 0),(9,.sl (lm aX v4.1)),(11,.sl (lm aX v5.1)),(13,iI l)],[],[],[]⟩
def YC:AS:=⟨[(6,iI d),(7,iI t),(11,.sl (lm aX v5.1)),(16,iI f)],[],[],[]⟩
def aa9:AS:=⟨[(6,iI d),(7,iI b),(11,.sl (lm aX v5.1)),(15,iI a),(16,iI f),(59,.bool q)],[],[],[]⟩
def U6:AS:=⟨[(6,iI d),(7,iI b),(11,.sl (lm aX v5.1)),(15,iI a),(16,iI f)],[],[],[]⟩
def PV:AS:=⟨[(6,iI d),(7,iI b),(11,.sl (lm aX v5.1)),(15,iI a)],[],[],[]⟩
def Ry:AS:=⟨[(6,iI d),(7,iI 0),(9,.sl (lm aX v4.1)),(11,.sl (lm aX v5.1)),(12,iI g)],[],[],[]⟩
abbrev IA:Prop:=∀{d:Int} {g:Int},x d g=some r→LP (qh M c) (pP M c r) KB (cat Tryz.f55 (pn 1012)) u (Ry v4 v5 d g)
abbrev tv:Prop:=∀{b:Int} {a:Int},j b a=some r→LP (qh M c) (pP M c r) Kk (cat Tryz.f55 (pn 2036)) i (PV v5 d b a)
abbrev FN:Prop:=∀{f:Int},y f=some r→LP (qh M c) (pP M c r) (Gz M c r i) (cat Tryz.f55 (pn 130344)) w (U6 v5 d b a f)
variable{M c r A v2 z v4 v5 d g l o b a f q t u i w x j y}{K:Kn}{n:Nat}
theorem QG(b:ao K)(a:IA M c r v4 v5 u x)(h:w7 K n v4 v5 l x o=some r):rW M c r (jT 16203 :: .b 1::Gk M c r u) (adl v4 v5 l o):=by
 unfold w7 at h;exact ag 2 (bq (a h))
theorem MJ(b:ao K)(a:tv M c r v5 d i j)(h:Af K n v5 d f j t=some r):rW M c r (jT 65175 :: .b 3::Jm M c r i) (YC v5 d f t):=by
 unfold Af at h;exact ag 2 (bq (a h))
theorem NQ(s:ao K)(m:tv M c r v5 d i j)(t:FN M c r v5 d b a i w y)(h:qM K n v5 d b a f j y q=some r):rW M c r (jT 521377::jT 260689::Nv M c r i w) (aa9 v5 d b a f q):=by
 unfold qM at h;obtain⟨g,h⟩|⟨g,h⟩:=am h
 ·exact ah 59 g (ag 5 (bq (t h)))
 ·refine ah 59 g (yx 4 5 3 7 (aj 3 ?_));obtain⟨o,h⟩:=aD h;refine au (i7 aX v5.1 a f 159 (.tmp 62) (some (.tmp 63)) (some (.tmp 64)) 65 (e:=165) (sz:=62) (by kernel_rfl) (by kernel_rfl) (by kernel_rfl) (by kernel_rfl) (by kernel_rfl) (by kernel_rfl) (iH) (fun k u=>by subst u;kernel_rfl) o) ?_;obtain⟨v,p,h⟩:=bind_some h;refine aU (CD s p) (ac (bp 3 2 ?_));obtain⟨l,h⟩|⟨l,h⟩:=am h
  ·exact ah 69 l (ag 2 (MJ s m h))
  ·exact ah 69 l (ag 2 (MJ s m h))
theorem XB(m:ao K)(g:tv M c r v5 d i j)(k:FN M c r v5 d b a i w y)(h:uh K n v5 d b a j y f=some r):rW M c r (jT 130344::Nv M c r i w) (U6 v5 d b a f):=by
 unfold uh at h;refine cf 4 5 3 2 (aj 2 (au (bu aX v5.1) (aQ 5 2 ?_)));obtain⟨e,h⟩|⟨e,h⟩:=am h
 ·refine aF 51 e (aQ 8 3 ?_);obtain⟨l,h⟩:=aD h;exact au (bB aX aX l (iH) aT) (ac (ag 0 (NQ m g k h)))
 ·exact aF 51 e (ac (ag 0 (NQ m g k h)))
theorem Zi(g:ao K)(e:tv M c r v5 d i j)(m:Nat):FN M c r v5 d b a i m (vx K n v5 d b a j m):=by
 induction m with
 | zero=>intro f h;cases h
 | succ m k=>intro f h;have h:uh K n v5 d b a j (vx K n v5 d b a j m) f=some r:=h;exact bn (XB g e k h)
theorem Xt(g:ao K)(f:tv M c r v5 d i j)(h:vH K n v5 d j b a=some r):rW M c r (jT 2036::Jm M c r i) (PV v5 d b a):=by
 unfold vH at h;refine cf 4 5 3 2 (aj 2 (au (bu aX v5.1) (ac ?_)));obtain⟨e,h⟩|⟨e,h⟩:=am h
 ·exact ah 44 e (ag 7 (ce (p:=pn 65172) n (Zi g f n h)))
 ·refine ah 44 e (aN 8 ?_);cases h;exact jk
theorem ahY(e:ao K)(m:Nat):tv M c r v5 d m (sX K n v5 d m):=by
 induction m with
 | zero=>intro b a h;cases h
 | succ m f=>intro b a h;have h:vH K n v5 d (sX K n v5 d m) b a=some r:=h;exact bn (Xt e f h)
theorem aes(b:ao K)(f:IA M c r v4 v5 u x)(h:tI K n v4 v5 x d g=some r):rW M c r (jT 1012::Gk M c r u) (Ry v4 v5 d g):=by
 unfold tI at h;refine cf 4 5 3 2 (aj 2 (au (bu aX v4.1) (ac ?_)));obtain⟨m,h⟩|⟨m,h⟩:=am h
 ·refine ah 27 m (bX (ks':=jT 8100::jT 8101 :: .b 1::Gk M c r u) 4 (aj 2 ?_));obtain⟨l,o,h⟩:=bind_some h;refine aU (H8 b o) (ac (cf 4 5 3 2 (aj 3 ?_)));obtain⟨i,h⟩:=aD h;refine au (i7 aX v4.1 g l 159 (.tmp 31) (some (.tmp 32)) (some (.tmp 33)) 34 (e:=165) (sz:=62) (by kernel_rfl) (by kernel_rfl) (by kernel_rfl) (by kernel_rfl) (by kernel_rfl) (by kernel_rfl) (iH) (fun k q=>by subst q;kernel_rfl) i) ?_;obtain⟨s,j,h⟩:=bind_some h;refine aU (CD b j) (ac (bp 3 2 ?_));obtain⟨a,h⟩|⟨a,h⟩:=am h
  ·exact ah 38 a (ag 2 (QG b f h))
  ·exact ah 38 a (ag 2 (QG b f h))
 ·exact ah 27 m (ag 9 (ce (p:=pn 1018) n (ahY b n h)))
theorem agE(a:ao K)(m:Nat):IA M c r v4 v5 m (uZ K n v4 v5 m):=by
 induction m with
 | zero=>intro d g h;cases h
 | succ m b=>intro d g h;have h:tI K n v4 v5 (uZ K n v4 v5 m) d g=some r:=h;exact bn (aes a b h)
theorem Xu(a:ao K)(h:zG K n A v2 z=some r):bc bb 55 [.sl (lm aK A),.agg (aH v2),.agg (bO z)] (fun v _=>v=.tup [iI r.1,iI r.2]):=by
 refine bH (cat Tryz.f55 (pn 1)) Tryz.func55 Tryz.ntmps55 fun M c=>(bm ⟨[(0,.sl (lm aK A)),(1,.agg (aH v2)),(2,.agg (bO z))],[],[],[]⟩ ?_);unfold zG at h;refine ax 14 15 5 (aj 1 (nO 5 5 (bO z) (q8 113 #[(.tmp 5),(.tmp 8)] [.cptr (bO z),.ptr 8 0] (EC 400008 8 0 3 1 ?_))));obtain⟨v4,b,h⟩:=bind_some h;refine kp 400008 9 [(8,1)] (acr a b) (ac (ax 6 7 3 (aj 1 (q8 114 #[(.tmp 10),(.tmp 8)] [.ptr 10 0,.ptr 8 0] ?_))));obtain⟨v5,d,h⟩:=bind_some h;exact kp 400008 9 [(10,1),(8,2)] (adh a d) (ac (ag 4 (ce (p:=pn 506) n (agE a n h))))
end
noncomputable section
variable[GS](M:Nat→Prop)(c:aC)(r:Int×Int)(a:d3)(v2:aP)(b:bw)  
variable{M c r a v2 b}{K:Kn}{n:Nat}
theorem afa(e:ao K)(h:Bc K n a v2 b=some r):bc bb 54 [.sl (lm aK a),.agg (aH v2),.cptr (bO b)] (fun v _=>v=.tup [iI r.1,iI r.2]):=by
 refine bH (cat Tryz.f54 (pn 1)) Tryz.func54 Tryz.ntmps54 fun M c=>(bm ⟨[(0,.sl (lm aK a)),(1,.agg (aH v2)),(2,.cptr (bO b))],[],[],[]⟩ ?_);unfold Bc at h;refine ax 6 7 3 (aj 3 ?_);obtain⟨v4,d,h⟩:=bind_some h;refine aU (Xu e d) (ac (aN 1 ?_));cases h;exact jk
end
noncomputable section
variable[GS](M:Nat→Prop)(b:aC)(r:bw)(a v2:Bool)  
variable{M b r a v2}{K:Kn}{n:Nat}
theorem RE(a v2:Bool):∀d:Nat,mH [(2,[ey 36 a]),(3,[ey 37 v2]),(4,[.fno 43 [.ptr 2 0,.ptr 5 0,.ptr 3 0],.fno 48 [.ptr 5 0],.fno 52 [.ptr 5 0],.fno 54 [.ptr 5 0]]),(5,[.fno 43 [.ptr 2 0,.ptr 5 0,.ptr 3 0],.fno 48 [.ptr 5 0],.fno 52 [.ptr 5 0],.fno 54 [.ptr 5 0]])] 5 [.fno 43 [.ptr 2 0,.ptr 5 0,.ptr 3 0],.fno 48 [.ptr 5 0],.fno 52 [.ptr 5 0],.fno 54 [.ptr 5 0]] d=bO (dk d a v2)
 | 0=>rfl
 | d+1=>by
   show lm (stepT [(2,[ey 36 a]),(3,[ey 37 v2]),(4,[.fno 43 [.ptr 2 0,.ptr 5 0,.ptr 3 0],.fno 48 [.ptr 5 0],.fno 52 [.ptr 5 0],.fno 54 [.ptr 5 0]]),(5,[.fno 43 [.ptr 2 0,.ptr 5 0,.ptr 3 0],.fno 48 [.ptr 5 0],.fno 52 [.ptr 5 0],.fno 54 [.ptr 5 0]])] 5 (mH [(2,[ey 36 a]),(3,[ey 37 v2]),(4,[.fno 43 [.ptr 2 0,.ptr 5 0,.ptr 3 0],.fno 48 [.ptr 5 0],.fno 52 [.ptr 5 0],.fno 54 [.ptr 5 0]]),(5,[.fno 43 [.ptr 2 0,.ptr 5 0,.ptr 3 0],.fno 48 [.ptr 5 0],.fno 52 [.ptr 5 0],.fno 54 [.ptr 5 0]])] 5 [.fno 43 [.ptr 2 0,.ptr 5 0,.ptr 3 0],.fno 48 [.ptr 5 0],.fno 52 [.ptr 5 0],.fno 54 [.ptr 5 0]] d)) [.fno 43 [.ptr 2 0,.ptr 5 0,.ptr 3 0],.fno 48 [.ptr 5 0],.fno 52 [.ptr 5 0],.fno 54 [.ptr 5 0]]=_;rw[RE a v2 d];rfl
theorem ajV(c:ao K)(h:Eh K n a v2=some r):bc bb 18 [ey 36 a,ey 37 v2] (fun v _=>v=.agg (bO r)):=by
 refine bH (cat Tryz.f18 (pn 1)) Tryz.func18 Tryz.ntmps18 fun M b=>(bm ⟨[(0,ey 36 a),(1,ey 37 v2)],[],[],[]⟩ ?_);unfold Eh at h;refine ax 14 15 5 (aj 0 (q8 43 #[(.tmp 2),(.tmp 5),(.tmp 3)] [.ptr 2 0,.ptr 5 0,.ptr 3 0] (ac (ax 2 3 1 (aj 0 (q8 48 #[(.tmp 5)] [.ptr 5 0] (ac (ax 2 3 1 (aj 0 (q8 52 #[(.tmp 5)] [.ptr 5 0] (ac (ax 2 3 1 (aj 0 (q8 54 #[(.tmp 5)] [.ptr 5 0] (ac (aN 3 (bJ [4] [2,3,4,5] [] (bm ⟨[(4,.ptr 4 0)],[(2,[ey 36 a]),(3,[ey 37 v2]),(4,[.fno 43 [.ptr 2 0,.ptr 5 0,.ptr 3 0],.fno 48 [.ptr 5 0],.fno 52 [.ptr 5 0],.fno 54 [.ptr 5 0]]),(5,[.fno 43 [.ptr 2 0,.ptr 5 0,.ptr 3 0],.fno 48 [.ptr 5 0],.fno 52 [.ptr 5 0],.fno 54 [.ptr 5 0]])],[],[2,3,4,5]⟩ (ae0 4 4 5 n (aiS (s':=⟨[(4,.ptr 4 0)],[(4,bO (dk n a v2))],[],[4]⟩) (congrArg (fun t=>(⟨[(4,.ptr 4 0)],[(4,t)],[],[4]⟩:AS)) (RE a v2 n)) ?_))))))))))))))))))));cases h;exact bE
end
noncomputable section
variable[GS](M:Nat→Prop)(b:aC)(r:Bool)(a v2:ab)  
variable{M b r a v2}{K:Kn}{n:Nat}
theorem aii(d:ao K)(h:A9 K n a v2=some r):bc bb 65 [.agg (aB a),.cptr (aB v2)] (fun v _=>v=.bool r):=by
 refine bH (cat Tryz.f65 (pn 1)) Tryz.func65 Tryz.ntmps65 fun M b=>(bm ⟨[(0,.agg (aB a)),(1,.cptr (aB v2))],[],[],[]⟩ ?_);unfold A9 at h;refine ax 6 7 3 (aj 2 ?_);obtain⟨e,c,h⟩:=bind_some h;refine aU (d.Dq c) (ac (aN 1 ?_));cases h;exact bE
end
noncomputable section
variable[GS](M:Nat→Prop)(a:aC)(r:Bool)(b v2:ab)(v5:Bool)  
abbrev acP(n:Nat):aq:=.c (cat Tryz.f28 (pn n))
abbrev aeG:Cx:=⟨bb,14,M,a⟩
abbrev XL:=bodyPost bb Tryz.f28 (bP M a (fun v _=>v=.bool r))
abbrev agk(b:dt)(s:AS):=VE (aeG M a) (XL M a r) b .normal s
def ahG:AS:=⟨[(4,.bool v5)],[],[],[]⟩
variable{M a r b v2 v5}{K:Kn}{n:Nat}
theorem TJ(b:ao K)(h:Ax K n v5=some r):agk M a r [acP 7] (ahG v5):=by
 unfold Ax at h;refine aN 1 ?_;cases h;exact bE
theorem MS(c:ao K)(h:pV K n b v2=some r):bc bb 28 [.agg (aB b),.agg (aB v2)] (fun v _=>v=.bool r):=by
 refine bH (cat Tryz.f28 (pn 1)) Tryz.func28 Tryz.ntmps28 fun M a=>(bm ⟨[(0,.agg (aB b)),(1,.agg (aB v2))],[],[],[]⟩ ?_);unfold pV at h;refine ax 6 7 3 (aj 2 ?_);obtain⟨g,e,h⟩:=bind_some h;refine aU (B0 c e) (aQ 4 1 ?_);obtain⟨d,h⟩|⟨d,h⟩:=am h
 ·exact aF 8 d (ac (ag 0 (TJ c h)))
 ·refine aF 8 d (aQ 6 2 (nO 3 3 (aB v2) (sd 65 #[(.tmp 3)] [.cptr (aB v2)] ?_)));obtain⟨v4,f,h⟩:=bind_some h;exact aU (T3 c f) (ac (ag 0 (TJ c h)))
end
noncomputable section
variable[GS](M:Nat→Prop)(a:aC)(r b:ae)(v2:dn)(v4:Int)(v5:dn)(c:Nat)(d:Int→dn→Option ae)
abbrev G5:Cx:=⟨bb,26,M,a⟩
abbrev Ic:=bodyPost bb Tryz.f73 (bP M a (fun v s=>v=.agg (List.set (aG ({ r with Kids:=[] }:ae)) 66 (.ref 1006))∧look 1006 s.r=some (bx r.Kids)))
abbrev agB(b:dt)(s:AS):=VE (G5 M a) (Ic M a r) b .normal s
abbrev Sn(n:Nat):aq:=.c (cat Tryz.f73 (pn n))
abbrev Jj:dt:=[.b 0,Sn 15]
abbrev aez:dt:=kl (G5 M a) (Ic M a r) Jj (cat Tryz.f73 (pn 116)) c::Jj
def PK:AS:=⟨[(1,.ptr 1 0),(2,.ptr 2 0),(10,iI (v2.length:Int)),(11,iI v4)],[(1,List.set (aG ({ b with Kids:=[] }:ae)) 66 (.ref 1006)),(2,List.set (aG bU) 66 (.nils))],[(1006,(bx v5))],[1,2,1006]⟩
abbrev O8:Prop:=∀{v4:Int} {v5:dn},d v4 v5=some r→LP (G5 M a) (Ic M a r) Jj (cat Tryz.f73 (pn 116)) c (PK b v2 v4 v5)
variable{M a r b v2 v4 v5 c d}{K:Kn}{n:Nat}
theorem aan(k:ao K)(g:O8 M a r b v2 c d)(h:AU K n b v2 d v4 v5=some r):agB M a r (Sn 116::aez M a r c) (PK b v2 v4 v5):=by
 unfold AU at h;refine ax 6 7 3 ?_;obtain⟨e,h⟩|⟨e,h⟩:=am h
 ·refine ah 12 e (GM 9 1 3 6 (bJ [1,2,3,10,11] [1,2] [1006] ?_));obtain⟨i,h⟩:=aD h;obtain⟨v6,j,h⟩:=bind_some h;obtain⟨f,h⟩:=aD h;exact bN 1 (nu 14 [.ptr 1 66,.ref 1006,iI v4,.ptr 1 66,.ref 1006,iI v4,.eptr 1006 67 (v4.toNat) 0,.agg (aG (gD v5 v4)),.agg (aG v6),.eptr 1006 67 (v4.toNat) 0]) [] [] [ec 1006 ⟨44,67,lm aO (List.set v5 v4.toNat v6)⟩] (av (vz 6) (bh (cD 1006 67 aO (L:=v5) i) (bh (bI 44 0 aO aG (bD f).2 (dN)) (ai (co 0 1 22 (k.zf j)) (bh (cD 1006 67 aO (L:=v5) f) (ai (dd (m:=0) (dz 1006 44 67 0 aO aG v6 (bD f).2 (dN))) bL)))))) (ag 2 (bq (g h)))
 ·refine ah 12 e (aN 8 ?_);cases h;exact eB
theorem abU(c:ao K)(m:Nat):O8 M a r b v2 m (rM K n b v2 m):=by
 induction m with
 | zero=>intro v4 v5 h;cases h
 | succ m d=>intro v4 v5 h;have h:AU K n b v2 (rM K n b v2 m) v4 v5=some r:=h;exact bn (aan c d h)
theorem UQ(c:ao K)(h:sP K n b=some r):bc bb 73 [.agg (aG b)] (fun v s=>v=.agg (List.set (aG ({ r with Kids:=[] }:ae)) 66 (.ref 1006))∧look 1006 s.r=some (bx r.Kids)):=by
 refine bH (cat Tryz.f73 (pn 1)) Tryz.func73 Tryz.ntmps73 fun M a=>(bm ⟨[(0,.agg (aG b))],[],[],[]⟩ ?_);unfold sP at h;refine ax 6 7 3 (aj 2 ?_);obtain⟨v2,d,h⟩:=bind_some h;exact eT 1006 (Iz c d) (eO 5) (ac (cf 4 5 3 2 (aj 2 (au (bu aO v2) (ac (ag 1 (ce (p:=pn 58) n (abU c n h))))))))
end
noncomputable section
variable[GS](M:Nat→Prop)(b:aC)(r a:ck)  
variable{M b r a}{K:Kn}{n:Nat}
theorem aiu(f:ao K)(h:AA K n a=some r):bc bb 95 [.sl (lm (ak .i64) a)] (fun v s=>v=.ref 5∧look 5 s.r=some (bk r)):=by
 refine bH (cat Tryz.f95 (pn 1)) Tryz.func95 Tryz.ntmps95 fun M b=>(bm ⟨[(0,.sl (lm (ak .i64) a))],[],[],[]⟩ ?_);unfold AA at h;refine cf 12 13 7 4 (aj 1 ?_);refine Rj (aW Tryz.f95 (pn 12) 1) (.eql) 72 72 (.tmp 3) (.const (.slice none 0 0)) 4 (lm (ak .i64) a) (r:=aR Tryz.f95 (pn 12) 2) (e:=3) (by kernel_rfl) (by kernel_rfl) (by kernel_rfl) (by kernel_rfl) (by kernel_rfl) (by kernel_rfl) (by kernel_rfl) (by kernel_rfl) (fun d=>?_) ?_
 ·have h:=UK (by simpa using d) h;refine ac (aN 5 (eQ 5 2 3 1 ?_));cases h;exact eB
 ·have h:=ML h;refine ac (fV 2 3 3 (aj 0 (Cf 72 5 (e:=3) (sz:=1) (aQ 2 1 ?_))));obtain⟨c,h⟩:=aD h;refine au (cw 7 5 3 1 (ak .i64) (rfl) aT c) (ac (aN 1 ?_));cases h;exact eB
end
noncomputable section
variable[GS](M:Nat→Prop)(c:aC)(r:Unit)(b:gX)(v2:ab)(f:ck)(v4:Bool)(v6:ck)(a:Int)(d:Bool)(e:Nat)(g:Int→Option Unit)
abbrev HY:Cx:=⟨bb,53,M,c⟩
abbrev J8:=bodyPost bb Tryz.f76 (bP M c (fun v _=>v=nX r))
abbrev Ct(a:dt)(s:AS):=VE (HY M c) (J8 M c r) a .normal s
abbrev ml(n:Nat):aq:=.c (cat Tryz.f76 (pn n))
abbrev F1:dt:=[.b 0]
abbrev GX:dt:=kl (HY M c) (J8 M c r) F1 (cat Tryz.f76 (pn 60)) e::F1
def ah1:AS:=⟨[(2,.sl (lm (ak .i64) v6)),(3,.ptr 3 0),(7,.ptr 7 0),(24,.sl (lm aK v2.Kids)),(25,iI (v2.Kids.length:Int)),(26,iI a),(43,.bool d)],[(3,ri b),(7,aB (gD v2.Kids a))],[],[3,7]⟩
def OI:AS:=⟨[(2,.sl (lm (ak .i64) v6)),(3,.ptr 3 0),(24,.sl (lm aK v2.Kids)),(25,iI (v2.Kids.length:Int)),(26,iI a)],[(3,ri b)],[],[3]⟩
def afo:AS:=⟨[(2,.sl (lm (ak .i64) v6)),(3,.ptr 3 0),(4,.ptr 4 0)],[(3,ri b),(4,aB v2)],[],[3,4]⟩
def acF:AS:=⟨[(2,.sl (lm (ak .i64) f)),(3,.ptr 3 0),(4,.ptr 4 0),(16,.bool v4)],[(3,ri b),(4,aB v2)],[],[3,4]⟩
abbrev FX:Prop:=∀{a:Int},g a=some r→LP (HY M c) (J8 M c r) F1 (cat Tryz.f76 (pn 60)) e (OI b v2 v6 a)
variable{M c r b v2 f v4 v6 a d e g}{K:Kn}{n:Nat}
theorem F3(k:ao K)(j:FX M c r b v2 v6 e g)(h:pf K n b v2 v6 a g d=some r):Ct M c r (ml 7781::ml 3891 :: .b 1::ml 487::GX M c r e) (ah1 b v2 v6 a d):=by
 unfold pf at h;obtain⟨f,h⟩|⟨f,h⟩:=am h
 ·refine ah 43 f ?_;cases h
 ·refine ah 43 f (bX (ks':=ml 3891 :: .b 1::ml 487::GX M c r e) 2 (aj 3 ?_));obtain⟨l,i,h⟩:=bind_some h;exact aU (k.ug i) (ac (ag 2 (bq (j h))))
theorem YE(l:ao K)(j:FX M c r b v2 v6 e g)(h:Aa K n b v2 v6 g a=some r):Ct M c r (ml 60::GX M c r e) (OI b v2 v6 a):=by
 unfold Aa at h;refine ax 6 7 3 ?_;obtain⟨d,h⟩|⟨d,h⟩:=am h
 ·refine ah 27 d (cT 8 9 1 3 5 (aj 0 ?_));obtain⟨k,h⟩:=aD h;refine au (bB aK aB k (fu) (dR)) (ac (cf 4 5 3 2 (aj 4 ?_)));obtain⟨f,h⟩|⟨f,h⟩:=am h
  ·refine aF 33 f (aQ 9 5 ?_);obtain⟨i,h⟩|⟨i,h⟩:=am h
   ·exact aF 38 i (ac (ag 0 (F3 l j h)))
   ·exact aF 38 i (ac (ag 0 (F3 l j h)))
  ·exact aF 33 f (ac (ag 0 (F3 l j h)))
 ·refine ah 27 d (bX (ks':=[]) 5 (uo ?_));cases h;exact jk
theorem XP(d:ao K)(m:Nat):FX M c r b v2 v6 m (pm K n b v2 v6 m):=by
 induction m with
 | zero=>intro a h;cases h
 | succ m e=>intro a h;have h:Aa K n b v2 v6 (pm K n b v2 v6 m) a=some r:=h;exact bn (YE d e h)
theorem Um(a:ao K)(h:wo K n b v2 v6=some r):Ct M c r [ml 7] (afo b v2 v6):=by
 unfold wo at h;exact ax 2 3 1 (aj 2 (au (bu aK v2.Kids) (ac (ag 1 (ce (p:=pn 30) n (XP a n h))))))
theorem QY(d:ao K)(h:uN K n b v2 f v4=some r):Ct M c r [ml 13,ml 7] (acF b v2 f v4):=by
 unfold uN at h;obtain⟨a,h⟩|⟨a,h⟩:=am h
 ·refine ah 16 a (bp 2 1 (bJ [2,3,4] [3,4] [] ?_));obtain⟨v5,e,h⟩:=bind_some h;obtain⟨g,h⟩:=aD h;exact bN 2 (nu 17 [.sl (lm (ak .i64) f),.ref 18,.ptr 4 1,iI v2.Node,.sl (lm (ak .i64) [v2.Node])]) [] [(18,(bk v5))] [fS 22 18 ⟨3,1,lm (ak .i64) (v5++[v2.Node])⟩,cd bb 53 Tryz.f76 (pn 26) 6] (av [.v 0 2] (ai (Jp 0 1 18 (aiu d e) (eO 5)) (av [.v 0 2,.v 0 2,.v 0 1] (ai (dd (m:=0) (cw 22 18 3 1 (ak .i64) (rfl) aT g)) (ai (cb 1) bL))))) (gq 18 (ag 0 (Um d h)))
 ·exact ah 16 a (ag 2 (Um d h))
theorem T5(d:ao K)(h:ov K n b v2 f=some r):bc bb 76 [.agg (ri b),.agg (aB v2),.sl (lm (ak .i64) f)] (fun v _=>v=nX r):=by
 refine bH (cat Tryz.f76 (pn 1)) Tryz.func76 Tryz.ntmps76 fun M c=>(bm ⟨[(0,.agg (ri b)),(1,.agg (aB v2)),(2,.sl (lm (ak .i64) f))],[],[],[]⟩ ?_);unfold ov at h;refine cf 12 13 7 4 (aj 4 ?_);obtain⟨a,h⟩|⟨a,h⟩:=am h
 ·exact aF 11 a (ac (ag 0 (QY d h)))
 ·exact aF 11 a (ac (ag 0 (QY d h)))
end
noncomputable section
variable[GS](M:Nat→Prop)(e:aC)(r:ae×Int×Int×dO)(a:ab)(v2 b:Int)(v4:bw)(v5 v6:Int)(d:dO)  
abbrev Sm(n:Nat):aq:=.c (cat Tryz.f35 (pn n))
variable{M e r a v2 b v4 v5 v6 d}{K:Kn}{n:Nat}[SG e]
theorem agN(g:ao K)(h:DH K n a v2 b v4 v5 v6 d=some r):eP bb 35 [.agg (aB a),iI v2,iI b,.agg (bO v4)] [(af v5 v6)] (bt d) (fun v s=>v=.agg (aG r.1)∧cB s.o [(af r.2.1 r.2.2.1)]∧look 440009 s.r=some (bt r.2.2.2)):=by
 refine jK (c:=cat Tryz.f35 []) Tryz.func35 (by kernel_rfl) _ Tryz.ntmps35 (lp (by kernel_rfl)) fun M e=>(bm ⟨[(0,.agg (aB a)),(1,iI v2),(2,iI b),(3,.agg (bO v4))],[(af v5 v6)],[(440009,(bt d))],[440009,440001,1440001]⟩ ?_);unfold DH at h;refine bX (ks':=[Sm 14,Sm 15]) 5 (bJ [1,2,4,7,8,10] [4,7,8,440001] [440009] (E1 10 ?_));obtain⟨q,k,h⟩:=bind_some h;obtain⟨j,l,h⟩:=bind_some h;obtain⟨f,m,h⟩:=bind_some h;refine bN 2 (nu 16 [.agg (aB a),.ptr 4 2,.agg (aH a.Style),iI (min (max v2 0) 1048576),.agg (cr q),.agg (bO v4)]++nu 23 [.agg (List.set (aG ({ f with Kids:=[] }:ae)) 66 (.ref 23))]++nu 9 [.ptr 9 0]) [(9,List.set (aG bU) 66 (.nils))] [(23,(bx f.Kids))] [Ee (some 22) (bt j.2.2.2) [(af j.2.1 j.2.2.1)] (.agg (aG j.1)),cd bb 34 Tryz.f35 (pn 14) 9] (av [.v 0 1,.v 0 2,.v 0 2,.v 0 2] (ai (co 0 1 20 (JS g k)) (av [.v 0 1] (ai (Kc 0 10 (abI g l)) (ai (Jp 1 1 23 (UQ g m) (D5 (i:=66) (by kernel_rfl))) (ai (py 0 2 44 9 (List.set (aG bU) 66 (.nils))) (ai (cb 1) bL))))))) (ax 6 7 3 (aj 3 (Xw 30 0 ?_)))
 obtain⟨p,o,h⟩:=bind_some h;refine aU (T5 g o) (ac (aN 3 (gq 23 ?_)));cases h;exact fm
end
noncomputable section
variable[GS](M:Nat→Prop)(b:aC)(r:Int)(a:dO)(v2:Fv)(v4:Int)(c:Nat)(d:Int→Option Int)
abbrev Ff:Cx:=⟨bb,19,M,b⟩
abbrev FG:=bodyPost bb Tryz.f77 (bP M b (fun v _=>v=iI r))
abbrev abm(a:dt)(s:AS):=VE (Ff M b) (FG M b r) a .normal s
abbrev Pt(n:Nat):aq:=.c (cat Tryz.f77 (pn n))
abbrev GK:dt:=[.b 0,Pt 7]
abbrev aau:dt:=kl (Ff M b) (FG M b r) GK (cat Tryz.f77 (pn 52)) c::GK
def Tt:AS:=⟨[(0,.sl (lm aZ a)),(1,.fn v2.id v2.aS),(7,iI (a.length:Int)),(8,iI v4)],[],[],[]⟩
abbrev N6:Prop:=∀{v4:Int},d v4=some r→LP (Ff M b) (FG M b r) GK (cat Tryz.f77 (pn 52)) c (Tt a v2 v4)
variable{M b r a v2 v4 c d}{K:Kn}{n:Nat}
theorem Wn(k:ao K)(g:N6 M b r a v2 c d)(h:wJ K n a v2 d v4=some r):abm M b r (Pt 52::aau M b r c) (Tt a v2 v4):=by
 unfold wJ at h;refine ax 6 7 3 ?_;obtain⟨e,h⟩|⟨e,h⟩:=am h
 ·refine ah 9 e (cT 18 19 1 3 7 (aj 3 ?_));obtain⟨i,h⟩:=aD h;refine au (bB aZ aZ i (JK) aT) (aQ 5 1 ?_);obtain⟨v5,j,h⟩:=bind_some h;refine lT (k.uG j) (ac ?_);obtain⟨f,h⟩|⟨f,h⟩:=am h
  ·refine ah 16 f (aN 9 ?_);cases h;exact bE
  ·exact ah 16 f (ag 4 (bq (g h)))
 ·refine ah 9 e (aN 8 ?_);cases h;exact bE
theorem ah0(c:ao K)(m:Nat):N6 M b r a v2 m (qD K n a v2 m):=by
 induction m with
 | zero=>intro v4 h;cases h
 | succ m d=>intro v4 h;have h:wJ K n a v2 (qD K n a v2 m) v4=some r:=h;exact bn (Wn c d h)
theorem VH(c:ao K)(h:BN K n a v2=some r):bc bb 77 [.sl (lm aZ a),.fn v2.id v2.aS] (fun v _=>v=iI r):=by
 refine bH (cat Tryz.f77 (pn 1)) Tryz.func77 Tryz.ntmps77 fun M b=>(bm ⟨[(0,.sl (lm aZ a)),(1,.fn v2.id v2.aS)],[],[],[]⟩ ?_);unfold BN at h;exact cf 12 13 7 4 (aj 1 (au (bu aZ a) (ac (ag 1 (ce (p:=pn 26) n (ah0 c n h))))))
end
noncomputable section
variable[GS](M:Nat→Prop)(b:aC)(r:Bool)(a:dO)(v2:Fv)  
variable{M b r a v2}{K:Kn}{n:Nat}
theorem afK(d:ao K)(h:AB K n a v2=some r):bc bb 38 [.sl (lm aZ a),.fn v2.id v2.aS] (fun v _=>v=.bool r):=by
 refine bH (cat Tryz.f38 (pn 1)) Tryz.func38 Tryz.ntmps38 fun M b=>(bm ⟨[(0,.sl (lm aZ a)),(1,.fn v2.id v2.aS)],[],[],[]⟩ ?_);unfold AB at h;refine ax 6 7 3 (aj 2 ?_);obtain⟨e,c,h⟩:=bind_some h;refine aU (VH d c) (ac (aN 1 ?_));cases h;exact bE
end
noncomputable section
variable[GS](M:Nat→Prop)(a:aC)(r:Bool)(b v2:aA)(v4:Bool)  
abbrev af3(n:Nat):aq:=.c (cat Tryz.f39 (pn n))
abbrev acu:Cx:=⟨bb,16,M,a⟩
abbrev Xa:=bodyPost bb Tryz.f39 (bP M a (fun v _=>v=.bool r))
abbrev afZ(b:dt)(s:AS):=VE (acu M a) (Xa M a r) b .normal s
def ahf:AS:=⟨[(3,.bool v4)],[],[],[]⟩
variable{M a r b v2 v4}{K:Kn}{n:Nat}
theorem SV(b:ao K)(h:Df K n v4=some r):afZ M a r [af3 7] (ahf v4):=by
 unfold Df at h;refine aN 1 ?_;cases h;exact bE
theorem abl(d:ao K)(h:wF K n b v2=some r):bc bb 39 [.agg (aZ b),.cptr (aZ v2)] (fun v _=>v=.bool r):=by
 refine bH (cat Tryz.f39 (pn 1)) Tryz.func39 Tryz.ntmps39 fun M a=>(bm ⟨[(0,.agg (aZ b)),(1,.cptr (aZ v2))],[],[],[]⟩ ?_);unfold wF at h;refine ax 6 7 3 (aj 6 ?_);obtain⟨c,h⟩|⟨c,h⟩:=am h
 ·refine aF 9 c (aQ 10 4 ?_);obtain⟨f,e,h⟩:=bind_some h;exact aU (B0 d e) (ac (ag 0 (SV d h)))
 ·exact aF 9 c (ac (ag 0 (SV d h)))
end
noncomputable section
variable[GS](M:Nat→Prop)(f:aC)(r:ae×Int×Int×dO)(e:ab)(v2 o v4 v5:Int)(v6:dO)(b:ae×Int×Int×dO)(a:Int)(d:dO)(j:Bool)(k:dO)(g:Nat)(l:Int→dO→Option hF)
abbrev Ik:Cx:=⟨bb,60,M,f⟩
abbrev H7:=bodyPost bb Tryz.f12 (bP M f (fun v s=>v=.agg (aG r.1)∧cB s.o [(af r.2.1 r.2.2.1)]∧look 440009 s.r=some (bt r.2.2.2)))
abbrev H6(a:dt)(s:AS):=VE (Ik M f) (H7 M f r) a .normal s
abbrev rt(n:Nat):aq:=.c (cat Tryz.f12 (pn n))
abbrev Hw:dt:=[.b 0,rt 63]
abbrev IU:dt:=kl (Ik M f) (H7 M f r) Hw (cat Tryz.f12 (pn 500)) g::Hw
def ahJ:AS:=⟨[(0,.adr GS.g 0),(5,.ptr 5 0),(8,.ptr 8 0),(9,.ptr 9 0),(10,.ref 2010),(32,.ref 440009),(33,iI (b.2.2.2.length:Int)),(34,iI a)],[(5,aB e),(8,List.set (aG bU) 66 (.nils)),(9,aG b.1),(af b.2.1 b.2.2.1)],[(2010,(bt k)),(440009,(bt b.2.2.2))],[5,8,9,440001,2010,440009,1440001,440001]⟩
def afp:AS:=⟨[(0,.adr GS.g 0),(5,.ptr 5 0),(8,.ptr 8 0),(9,.ptr 9 0),(10,.ref 2010),(12,.cptr (aZ (gD b.2.2.2 a))),(32,.ref 440009),(33,iI (b.2.2.2.length:Int)),(34,iI a),(48,.bool j)],[(5,aB e),(8,List.set (aG bU) 66 (.nils)),(9,aG b.1),(af b.2.1 b.2.2.1)],[(2010,(bt d)),(440009,(bt b.2.2.2))],[5,8,9,440001,2010,440009,1440001,440001]⟩
def QE:AS:=⟨[(0,.adr GS.g 0),(5,.ptr 5 0),(8,.ptr 8 0),(9,.ptr 9 0),(10,.ref 2010),(32,.ref 440009),(33,iI (b.2.2.2.length:Int)),(34,iI a)],[(5,aB e),(8,List.set (aG bU) 66 (.nils)),(9,aG b.1),(af b.2.1 b.2.2.1)],[(2010,(bt d)),(440009,(bt b.2.2.2))],[5,8,9,440001,2010,440009,1440001,440001]⟩
abbrev De:Prop:=∀{a:Int} {d:dO},l a d=some r→LP (Ik M f) (H7 M f r) Hw (cat Tryz.f12 (pn 500)) g (QE e b a d)
variable{M f r e v2 o v4 v5 v6 b a d j k g l}{K:Kn}{n:Nat}[SG f]
theorem Vc(d:ao K)(c:De M f r e b g l)(h:yD K n e b a l k=some r):H6 M f r (.b 1::rt 4007::IU M f r g) (ahJ e b a k):=by
 unfold yD at h;exact ag 2 (bq (c h))
theorem N4(m:ao K)(i:De M f r e b g l)(h:y3 K n e b a d l j=some r):H6 M f r (rt 64103 :: .b 1::rt 4007::IU M f r g) (afp e b a d j):=by
 unfold y3 at h;obtain⟨c,h⟩|⟨c,h⟩:=am h
 ·refine ah 48 c (bp 2 1 (aj 3 ?_));obtain⟨k,h⟩:=aD h;exact au (cw 52 2010 64 127 aZ (rfl) (JK) k) (ac (ag 0 (Vc m i h)))
 ·exact ah 48 c (ag 2 (Vc m i h))
theorem abW(m:ao K)(o:De M f r e b g l)(h:yp K n e b l a d=some r):H6 M f r (rt 500::IU M f r g) (QE e b a d):=by
 unfold yp at h;refine ax 6 7 3 ?_;obtain⟨c,h⟩|⟨c,h⟩:=am h
 ·refine ah 35 c (cT 8 9 1 3 5 (aj 0 ?_));obtain⟨k,h⟩:=aD h;refine au (cp 440009 127 aZ k) (au (bI 64 0 aZ aZ (bD k).2 aT) (ac (ax 2 3 1 (aj 1 (nO 12 12 (aZ (gD b.2.2.2 a)) (sd 39 #[(.tmp 12)] [.cptr (aZ (gD b.2.2.2 a))] ?_))))));obtain⟨t,p,h⟩:=bind_some h;refine afi (afK m p) (ac (ax 2 3 1 (aj 3 ?_)));obtain⟨j,h⟩|⟨j,h⟩:=am h
  ·refine aF 43 j (aQ 6 3 ?_);obtain⟨u,q,h⟩:=bind_some h;exact aU (MS m q) (ac (ag 0 (N4 m o h)))
  ·exact aF 43 j (ac (ag 0 (N4 m o h)))
 ·refine ah 35 c (gB 2 3 6 (aj 4 (Tg 57 0 (ac (ax 2 3 1 (aj 1 ?_))))));obtain⟨v,s,h⟩:=bind_some h;refine eT 1059 (CM m s) (D5 (i:=66) (by kernel_rfl)) (ac (aN 1 (bJ [8] [8,440001] [1059,2010] (pG 2010 440009 (gq 1059 ?_)))));cases h;exact fm
theorem adb(c:ao K)(m:Nat):De M f r e b m (pu K n e b m):=by
 induction m with
 | zero=>intro a d h;cases h
 | succ m g=>intro a d h;have h:yp K n e b (pu K n e b m) a d=some r:=h;exact bn (abW c g h)
theorem z8(a:ao K)(h:m8 K n e v2 o v4 v5 v6=some r):eP bb 12 [.ptr 440001 0,.agg (aB e),iI v2,iI o] [(af v4 v5)] (bt v6) (fun v s=>v=.agg (aG r.1)∧cB s.o [(af r.2.1 r.2.2.1)]∧look 440009 s.r=some (bt r.2.2.2)):=by
 refine jK (c:=cat Tryz.f12 []) Tryz.func12 (by kernel_rfl) _ Tryz.ntmps12 (lp (by kernel_rfl)) fun M f=>(bm ⟨[(0,.ptr 440001 0),(1,.agg (aB e)),(2,iI v2),(3,iI o)],[(af v4 v5)],[(440009,(bt v6))],[440009,440001,1440001]⟩ ?_);unfold m8 at h;refine bX (ks':=[rt 14,rt 15]) 5 (bJ [0,2,3,5,8,14] [5,8,440001] [440009] (E1 14 (agC 0 0 ?_)));obtain⟨i,d,h⟩:=bind_some h;obtain⟨b,g,h⟩:=bind_some h;exact bN 2 (nu 20 [.agg (aB e),iI v2,iI o,.adr GS.g 0,ey 36 true,.adr GS.g 0,ey 37 true,.agg (bO i)]++nu 9 [.ptr 9 0]) [(9,List.set (aG bU) 66 (.nils))] [] [Ee (some 28) (bt b.2.2.2) [(af b.2.1 b.2.2.1)] (.agg (aG b.1)),cd bb 60 Tryz.f12 (pn 14) 10] (av [.v 0 1,.v 0 1,.v 0 1,.v 0 2,.v 0 2,.v 0 2,.v 0 2] (ai (co 0 1 27 (ajV a d)) (ai (Kc 0 14 (agN a g)) (ai (py 0 2 44 9 (List.set (aG bU) 66 (.nils))) (ai (cb 1) bL))))) (cf 12 13 7 4 (aj 3 (Tg 31 0 (aQ 4 1 (au (bu aZ b.2.2.2) (ac (gC 2 0 1 (bJ [0,5,8,9,10,32,33,34] [5,8,9,440001] [440009] (eQ 2010 10 64 127 (ag 0 (ce (p:=pn 250) n (adb a n h))))))))))))
end
noncomputable section
variable[GS](M:Nat→Prop)(b:aC)(r:ab)(a:Int)  
variable{M b r a}{K:Kn}{n:Nat}
theorem BX(c:ao K)(h:sE K n a=some r):bc bb 33 [iI a] (fun v _=>v=.agg (aB r)):=by
 refine bH (cat Tryz.f33 (pn 1)) Tryz.func33 Tryz.ntmps33 fun M b=>(bm ⟨[(0,iI a)],[],[],[]⟩ ?_);unfold sE at h;refine aN 5 (mJ 2 ?_);cases h;exact bE
end
noncomputable section
variable(M:Nat→Prop)(a:aC)(r b:Bool)  
abbrev adB(n:Nat):aq:=.c (cat Tryz.f10 (pn n))
abbrev aek:Cx:=⟨bb,33,M,a⟩
abbrev Yx:=bodyPost bb Tryz.f10 (bP M a (fun v _=>v=.bool r))
abbrev aeI(b:dt)(s:AS):=VE (aek M a) (Yx M a r) b .normal s
def aiO:AS:=⟨[(0,.bool b)],[],[],[]⟩
variable{M a r b}{K:Kn}{n:Nat}
theorem Bw(c:∀ [GS],ao K)(h:vr K n b=some r):aeI M a r [adB 127] (aiO b):=by
 letI:GS:=⟨0⟩;have d:=@c ⟨0⟩
 unfold vr at h;refine aN 1 ?_;cases h;exact bE
theorem ajD(b:∀ [GS],ao K)(h:Da K n=some r):bc bb 10 [] (fun v _=>v=.bool r):=by
 letI:GS:=⟨0⟩;have c:=@b ⟨0⟩
 refine bH (cat Tryz.f10 (pn 1)) Tryz.func10 Tryz.ntmps10 fun M a=>(bm ⟨[],[],[],[]⟩ ?_);unfold Da at h;refine ax 14 15 5 (aj 0 ?_);obtain⟨g,i,h⟩:=bind_some h;refine aU (BX c i) ?_;obtain⟨v2,j,h⟩:=bind_some h;refine aU (BX c j) (au (gu aK ([g,v2]:d3) (new:=[aB g,aB v2]) (by simp only[th,By,dR])) (aQ 4 1 (EC 400001 1 0 64 127 ?_)));obtain⟨p,k,h⟩:=bind_some h;refine Ba 1 400001 (fun [GS]=>(z8 b k)) (ac (ax 6 7 3 (aj 0 ?_)));obtain⟨v4,l,h⟩:=bind_some h;refine aU (BX c l) ?_;obtain⟨v5,m,h⟩:=bind_some h;refine aU (BX c m) (au (gu aK ([v4,v5]:d3) (new:=[aB v4,aB v5]) (by simp only[th,By,dR])) (aQ 4 1 ?_));obtain⟨v6,o,h⟩:=bind_some h;refine Ba 1 400001 (fun [GS]=>(z8 b o)) (ac (ax 2 3 1 (aj 4 ?_)));obtain⟨d,h⟩|⟨d,h⟩:=am h
 ·refine aF 19 d (aQ 8 4 ?_);obtain⟨e,h⟩|⟨e,h⟩:=am h
  ·refine aF 23 e (aQ 13 5 ?_);obtain⟨f,h⟩|⟨f,h⟩:=am h
   ·exact aF 28 f (ac (ag 0 (Bw b h)))
   ·exact aF 28 f (ac (ag 0 (Bw b h)))
  ·exact aF 23 e (ac (ag 0 (Bw b h)))
 ·exact aF 19 d (ac (ag 0 (Bw b h)))
end
noncomputable section
variable[GS](M:Nat→Prop)(a:aC)(r:Bool)(b:cF)(v2:Bool)  
abbrev ahe(n:Nat):aq:=.c (cat Tryz.f72 (pn n))
abbrev Xq:Cx:=⟨bb,11,M,a⟩
abbrev ZU:=bodyPost bb Tryz.f72 (bP M a (fun v _=>v=.bool r))
abbrev Yt(b:dt)(s:AS):=VE (Xq M a) (ZU M a r) b .normal s
def ai9:AS:=⟨[(2,.bool v2)],[],[],[]⟩
variable{M a r b v2}{K:Kn}{n:Nat}
theorem LF(b:ao K)(h:wH K n v2=some r):Yt M a r [ahe 7] (ai9 v2):=by
 unfold wH at h;refine aN 1 ?_;cases h;exact bE
theorem iu(d:ao K)(h:ga K n b=some r):bc bb 72 [.agg (fX b)] (fun v _=>v=.bool r):=by
 refine bH (cat Tryz.f72 (pn 1)) Tryz.func72 Tryz.ntmps72 fun M a=>(bm ⟨[(0,.agg (fX b))],[],[],[]⟩ ?_);unfold ga at h;refine ax 6 7 3 (aj 4 ?_);obtain⟨c,h⟩|⟨c,h⟩:=am h
 ·exact aF 6 c (ac (ag 0 (LF d h)))
 ·exact aF 6 c (ac (ag 0 (LF d h)))
end
noncomputable section
variable[GS](M:Nat→Prop)(d:aC)(r:Bool)(b:g7)(v2 a:Int)(g i j k l:Bool)(e:Nat)(f:Int→Option Bool)
abbrev Bq:Cx:=⟨bb,130,M,d⟩
abbrev Bj:=bodyPost bb Tryz.f34 (bP M d (fun v _=>v=.bool r))
abbrev vP(a:dt)(s:AS):=VE (Bq M d) (Bj M d r) a .normal s
abbrev fL(n:Nat):aq:=.c (cat Tryz.f34 (pn n))
abbrev Jo:dt:=[.b 0,fL 7]
abbrev yH:dt:=kl (Bq M d) (Bj M d r) Jo (cat Tryz.f34 (pn 52)) e::Jo
def X1:AS:=⟨[(0,.sl (lm aI b)),(1,iI v2),(5,iI a),(6,.ptr 6 0),(7,iI 3),(125,.bool l)],[(6,aH ((gD b a).Style))],[],[6]⟩
def aff:AS:=⟨[(0,.sl (lm aI b)),(1,iI v2),(5,iI a),(6,.ptr 6 0),(7,iI 2),(125,.bool k)],[(6,aH ((gD b a).Style))],[],[6]⟩
def ajc:AS:=⟨[(0,.sl (lm aI b)),(1,iI v2),(5,iI a),(6,.ptr 6 0),(7,iI 1),(125,.bool j)],[(6,aH ((gD b a).Style))],[],[6]⟩
def aih:AS:=⟨[(0,.sl (lm aI b)),(1,iI v2),(5,iI a),(6,.ptr 6 0),(7,iI 0),(125,.bool i)],[(6,aH ((gD b a).Style))],[],[6]⟩
def XQ:AS:=⟨[(0,.sl (lm aI b)),(1,iI v2),(5,iI a),(6,.ptr 6 0),(107,.bool g)],[(6,aH ((gD b a).Style))],[],[6]⟩
def UG:AS:=⟨[(0,.sl (lm aI b)),(1,iI v2),(5,iI a)],[],[],[]⟩
abbrev pA:Prop:=∀{a:Int},f a=some r→LP (Bq M d) (Bj M d r) Jo (cat Tryz.f34 (pn 52)) e (UG b v2 a)
abbrev mO(m:Nat):dt:=kl (Bq M d) (Bj M d r) (.b 2 :: .b 1::fL 211::yH M d r e) (cat Tryz.f34 (pn 13468)) m::(.b 2 :: .b 1::fL 211::yH M d r e)
variable{M d r b v2 a g i j k l e f}{K:Kn}{n:Nat}
theorem Qz(i:ao K)(g:pA M d r b v2 e f)(h:vq K n b v2 a f l=some r):vP M d r (fL 215497 :: .b 3::fL 53875::mO M d r e 36) (X1 b v2 a l):=by
 unfold vq at h;obtain⟨c,h⟩|⟨c,h⟩:=am h
 ·refine ah 125 c (aN 13 ?_);cases h;exact bE
 ·exact ah 125 c (bz (ks':=mO M d r e 36) 4 ⟨[(0,.sl (lm aI b)),(1,iI v2),(5,iI a),(6,.ptr 6 0),(7,iI 4)],[(6,aH ((gD b a).Style))],[],[6]⟩ (bq (bn (ag 10 (bq (g h))))))
theorem PA(j:ao K)(i:pA M d r b v2 e f)(h:yE K n b v2 a f k=some r):vP M d r (fL 215497 :: .b 3::fL 53875::mO M d r e 37) (aff b v2 a k):=by
 unfold yE at h;obtain⟨c,h⟩|⟨c,h⟩:=am h
 ·refine ah 125 c (aN 13 ?_);cases h;exact bE
 ·refine ah 125 c (bz (ks':=mO M d r e 37) 4 ⟨[(0,.sl (lm aI b)),(1,iI v2),(5,iI a),(6,.ptr 6 0),(7,iI 3)],[(6,aH ((gD b a).Style))],[],[6]⟩ (bq (bn (dE 24 25 3 7 8 (aj 4 ?_)))));obtain⟨o,l,h⟩:=bind_some h;refine aU (iu j l) (aQ 7 2 ?_);obtain⟨g,h⟩|⟨g,h⟩:=am h
  ·exact aF 118 g (ac (ag 0 (Qz j i h)))
  ·refine aF 118 g (aQ 11 4 ?_);obtain⟨p,m,h⟩:=bind_some h;exact aU (iu j m) (ac (ag 0 (Qz j i h)))
theorem UP(k:ao K)(i:pA M d r b v2 e f)(h:y6 K n b v2 a f j=some r):vP M d r (fL 215497 :: .b 3::fL 53875::mO M d r e 38) (ajc b v2 a j):=by
 unfold y6 at h;obtain⟨c,h⟩|⟨c,h⟩:=am h
 ·refine ah 125 c (aN 13 ?_);cases h;exact bE
 ·refine ah 125 c (bz (ks':=mO M d r e 38) 4 ⟨[(0,.sl (lm aI b)),(1,iI v2),(5,iI a),(6,.ptr 6 0),(7,iI 2)],[(6,aH ((gD b a).Style))],[],[6]⟩ (bq (bn (dE 24 25 3 7 8 (aj 4 ?_)))));obtain⟨o,l,h⟩:=bind_some h;refine aU (iu k l) (aQ 7 2 ?_);obtain⟨g,h⟩|⟨g,h⟩:=am h
  ·exact aF 118 g (ac (ag 0 (PA k i h)))
  ·refine aF 118 g (aQ 11 4 ?_);obtain⟨p,m,h⟩:=bind_some h;exact aU (iu k m) (ac (ag 0 (PA k i h)))
theorem La(k:ao K)(j:pA M d r b v2 e f)(h:AZ K n b v2 a f i=some r):vP M d r (fL 215497 :: .b 3::fL 53875::mO M d r e 39) (aih b v2 a i):=by
 unfold AZ at h;obtain⟨c,h⟩|⟨c,h⟩:=am h
 ·refine ah 125 c (aN 13 ?_);cases h;exact bE
 ·refine ah 125 c (bz (ks':=mO M d r e 39) 4 ⟨[(0,.sl (lm aI b)),(1,iI v2),(5,iI a),(6,.ptr 6 0),(7,iI 1)],[(6,aH ((gD b a).Style))],[],[6]⟩ (bq (bn (dE 24 25 3 7 8 (aj 4 ?_)))));obtain⟨o,l,h⟩:=bind_some h;refine aU (iu k l) (aQ 7 2 ?_);obtain⟨g,h⟩|⟨g,h⟩:=am h
  ·exact aF 118 g (ac (ag 0 (UP k j h)))
  ·refine aF 118 g (aQ 11 4 ?_);obtain⟨p,m,h⟩:=bind_some h;exact aU (iu k m) (ac (ag 0 (UP k j h)))
theorem gS(l:ao K)(k:pA M d r b v2 e f)(h:fd K n b v2 a f g=some r):vP M d r (fL 3365::fL 1683 :: .b 1::fL 211::yH M d r e) (XQ b v2 a g):=by
 unfold fd at h;obtain⟨i,h⟩|⟨i,h⟩:=am h
 ·refine ah 107 i (aN 10 ?_);cases h;exact bE
 ·refine ah 107 i (bz (ks':=fL 6734 :: .b 2 :: .b 1::fL 211::yH M d r e) 5 ⟨[(0,.sl (lm aI b)),(1,iI v2),(5,iI a),(6,.ptr 6 0),(7,iI 0)],[(6,aH ((gD b a).Style))],[],[6]⟩ (oE 40 (c:=cat Tryz.f34 [1,0,1,0,0,1,0,0,1,1,1,0,0]) (by kernel_rfl) (bn (bX (ks':=fL 215496::fL 215497 :: .b 3::fL 53875::mO M d r e 39) 8 (aj 4 ?_)))));obtain⟨p,m,h⟩:=bind_some h;refine aU (iu l m) (aQ 7 2 ?_);obtain⟨j,h⟩|⟨j,h⟩:=am h
  ·exact aF 118 j (ac (ag 0 (La l k h)))
  ·refine aF 118 j (aQ 11 4 ?_);obtain⟨q,o,h⟩:=bind_some h;exact aU (iu l o) (ac (ag 0 (La l k h)))
theorem ah7(g:ao K)(c:pA M d r b v2 e f)(h:mU K n b v2 f a=some r):vP M d r (fL 52::yH M d r e) (UG b v2 a):=by
 unfold mU at h;refine cf 4 5 3 2 (aj 2 (au (bu aI b) (ac ?_)));obtain⟨i,h⟩|⟨i,h⟩:=am h
 ·refine ah 11 i (cT 8 9 1 3 5 (aj 2 ?_));obtain⟨A,h⟩:=aD h;refine au (bB aI aI A (dB) aT) (ac (cf 4 5 3 2 (aj 2 ?_)));obtain⟨B,h⟩:=aD h;refine au (bB aI aI B (dB) aT) (aQ 8 5 ?_);obtain⟨j,h⟩|⟨j,h⟩:=am h
  ·exact aF 26 j (ac (ag 0 (gS g c h)))
  ·refine aF 26 j (aQ 10 2 ?_);obtain⟨J,C,h⟩:=bind_some h;refine aU (iu g C) (aQ 14 3 ?_);obtain⟨k,h⟩|⟨k,h⟩:=am h
   ·exact aF 32 k (ac (ag 0 (gS g c h)))
   ·refine aF 32 k (aQ 16 2 ?_);obtain⟨L,D,h⟩:=bind_some h;refine aU (iu g D) (aQ 20 3 ?_);obtain⟨l,h⟩|⟨l,h⟩:=am h
    ·exact aF 38 l (ac (ag 0 (gS g c h)))
    ·refine aF 38 l (aQ 22 2 ?_);obtain⟨N,E,h⟩:=bind_some h;refine aU (iu g E) (aQ 26 3 ?_);obtain⟨m,h⟩|⟨m,h⟩:=am h
     ·exact aF 44 m (ac (ag 0 (gS g c h)))
     ·refine aF 44 m (aQ 28 2 ?_);obtain⟨O,F,h⟩:=bind_some h;refine aU (iu g F) (aQ 32 3 ?_);obtain⟨o,h⟩|⟨o,h⟩:=am h
      ·exact aF 50 o (ac (ag 0 (gS g c h)))
      ·refine aF 50 o (aQ 34 2 ?_);obtain⟨P,G,h⟩:=bind_some h;refine aU (iu g G) (aQ 38 3 ?_);obtain⟨p,h⟩|⟨p,h⟩:=am h
       ·exact aF 56 p (ac (ag 0 (gS g c h)))
       ·refine aF 56 p (aQ 40 2 ?_);obtain⟨Q,H,h⟩:=bind_some h;refine aU (iu g H) (aQ 44 3 ?_);obtain⟨q,h⟩|⟨q,h⟩:=am h
        ·exact aF 62 q (ac (ag 0 (gS g c h)))
        ·refine aF 62 q (aQ 46 2 ?_);obtain⟨R,I,h⟩:=bind_some h;refine aU (iu g I) (aQ 50 3 ?_);obtain⟨s,h⟩|⟨s,h⟩:=am h
         ·exact aF 68 s (ac (ag 0 (gS g c h)))
         ·refine aF 68 s (aQ 55 5 ?_);obtain⟨t,h⟩|⟨t,h⟩:=am h
          ·exact aF 73 t (ac (ag 0 (gS g c h)))
          ·refine aF 73 t (aQ 60 5 ?_);obtain⟨u,h⟩|⟨u,h⟩:=am h
           ·exact aF 78 u (ac (ag 0 (gS g c h)))
           ·refine aF 78 u (aQ 65 5 ?_);obtain⟨v,h⟩|⟨v,h⟩:=am h
            ·exact aF 83 v (ac (ag 0 (gS g c h)))
            ·refine aF 83 v (aQ 70 5 ?_);obtain⟨w,h⟩|⟨w,h⟩:=am h
             ·exact aF 88 w (ac (ag 0 (gS g c h)))
             ·refine aF 88 w (aQ 75 5 ?_);obtain⟨x,h⟩|⟨x,h⟩:=am h
              ·exact aF 93 x (ac (ag 0 (gS g c h)))
              ·refine aF 93 x (aQ 80 5 ?_);obtain⟨y,h⟩|⟨y,h⟩:=am h
               ·exact aF 98 y (ac (ag 0 (gS g c h)))
               ·refine aF 98 y (aQ 85 5 ?_);obtain⟨z,h⟩|⟨z,h⟩:=am h
                ·exact aF 103 z (ac (ag 0 (gS g c h)))
                ·exact aF 103 z (ac (ag 0 (gS g c h)))
 ·refine ah 11 i (gB 2 3 6 (aj 1 (au (bu aI b) (ac (aN 1 ?_)))));cases h;exact bE
theorem ago(c:ao K)(m:Nat):pA M d r b v2 m (pK K n b v2 m):=by
 induction m with
 | zero=>intro a h;cases h
 | succ m e=>intro a h;have h:mU K n b v2 (pK K n b v2 m) a=some r:=h;exact bn (ah7 c e h)
theorem Vj(a:ao K)(h:yY K n b v2=some r):bc bb 34 [.sl (lm aI b),iI v2] (fun v _=>v=.bool r):=by
 refine bH (cat Tryz.f34 (pn 1)) Tryz.func34 Tryz.ntmps34 fun M d=>(bm ⟨[(0,.sl (lm aI b)),(1,iI v2)],[],[],[]⟩ ?_);unfold yY at h;exact ag 6 (ce (p:=pn 26) n (ago a n h))
end
noncomputable section
variable[GS](M:Nat→Prop)(a:aC)(r:Bool)(b:g7)(v2:List eK)(v4:Int)(e:Bool)(c:Nat)(d:Int→Option Bool)
abbrev J9:Cx:=⟨bb,31,M,a⟩
abbrev KF:=bodyPost bb Tryz.f11 (bP M a (fun v _=>v=.bool r))
abbrev LQ(b:dt)(s:AS):=VE (J9 M a) (KF M a r) b .normal s
abbrev IW(n:Nat):aq:=.c (cat Tryz.f11 (pn n))
abbrev E2:dt:=[.b 0,IW 7]
abbrev WP:dt:=kl (J9 M a) (KF M a r) E2 (cat Tryz.f11 (pn 52)) c::E2
def aim:AS:=⟨[(4,.bool e)],[],[],[]⟩
def Ut:AS:=⟨[(0,.sl (lm aI b)),(1,.sl (lm d9 v2)),(7,.sl (lm d9 v2)),(8,iI (v2.length:Int)),(9,iI v4)],[],[],[]⟩
abbrev Vg:Prop:=∀{v4:Int},d v4=some r→LP (J9 M a) (KF M a r) E2 (cat Tryz.f11 (pn 52)) c (Ut b v2 v4)
variable{M a r b v2 v4 e c d}{K:Kn}{n:Nat}
theorem G2(b:ao K)(h:rU K n e=some r):LQ M a r [IW 15] (aim e):=by
 unfold rU at h;refine aN 1 ?_;cases h;exact bE
theorem aaa(g:ao K)(k:Vg M a r b v2 c d)(h:zi K n b v2 d v4=some r):LQ M a r (IW 52::WP M a r c) (Ut b v2 v4):=by
 unfold zi at h;refine ax 6 7 3 ?_;obtain⟨i,h⟩|⟨i,h⟩:=am h
 ·refine ah 10 i (cT 8 9 1 3 5 (aj 0 ?_));obtain⟨l,h⟩:=aD h;refine au (bB d9 d9 l (LZ) aT) (ac (ax 2 3 1 (aj 3 ?_)));obtain⟨v5,m,h⟩:=bind_some h;refine aU (Vj g m) (ac ?_);obtain⟨j,h⟩|⟨j,h⟩:=am h
  ·refine ah 17 j (aN 9 ?_);cases h;exact bE
  ·exact ah 17 j (ag 4 (bq (k h)))
 ·refine ah 10 i (gB 2 3 6 (aj 1 ?_));obtain⟨v6,o,h⟩:=bind_some h;refine aU (Vj g o) (aQ 3 1 ?_);obtain⟨e,h⟩|⟨e,h⟩:=am h
  ·refine aF 21 e (aQ 4 1 (au (bu aI b) (aQ 8 3 ?_)));obtain⟨f,h⟩|⟨f,h⟩:=am h
   ·exact aF 26 f (aQ 9 1 (au (bu d9 v2) (ac (ag 0 (G2 g h)))))
   ·exact aF 26 f (ac (ag 0 (G2 g h)))
  ·exact aF 21 e (ac (ag 0 (G2 g h)))
theorem YW(c:ao K)(m:Nat):Vg M a r b v2 m (vD K n b v2 m):=by
 induction m with
 | zero=>intro v4 h;cases h
 | succ m d=>intro v4 h;have h:zi K n b v2 (vD K n b v2 m) v4=some r:=h;exact bn (aaa c d h)
theorem ad5(c:ao K)(h:CC K n b v2=some r):bc bb 11 [.sl (lm aI b),.sl (lm d9 v2)] (fun v _=>v=.bool r):=by
 refine bH (cat Tryz.f11 (pn 1)) Tryz.func11 Tryz.ntmps11 fun M a=>(bm ⟨[(0,.sl (lm aI b)),(1,.sl (lm d9 v2))],[],[],[]⟩ ?_);unfold CC at h;exact cf 12 13 7 4 (aj 1 (au (bu d9 v2) (ac (ag 1 (ce (p:=pn 26) n (YW c n h))))))
end
noncomputable section
variable[GS](M:Nat→Prop)(c:aC)(r:ab×Int)(a:g7)(v2:Int)(d:Bool)(b:Int)(e:d3)(f:Bool)(g:Nat)(i:Int→d3→Option f6)
abbrev GJ:Cx:=⟨bb,95,M,c⟩
abbrev EK:=bodyPost bb Tryz.f41 (bP M c (fun v s=>v=.tup [.agg (List.set (aB ({ r.1 with Kids:=[] }:ab)) 58 (.ref 72)),iI r.2]∧look 72 s.r=some (bY r.1.Kids)))
abbrev Fc(a:dt)(s:AS):=VE (GJ M c) (EK M c r) a .normal s
abbrev pW(n:Nat):aq:=.c (cat Tryz.f41 (pn n))
abbrev FW:dt:=[.b 0,pW 127]
abbrev Ig:dt:=kl (GJ M c) (EK M c r) FW (cat Tryz.f41 (pn 504)) g::FW
def aiZ:AS:=⟨[(0,.sl (lm aI a)),(1,iI b),(4,.ptr 4 0),(6,.ptr 6 0),(7,.int .u8 ((gD a v2).Depth)),(8,.bool d),(60,.bool f)],[(4,List.set (aB c9) 58 (.nils)),(6,List.set (aB ({ c9 with Kind:=1,Node:=(aa (10+v2)),Style:=(gD a v2).Style }:ab)) 58 (.ref 72))],[(72,(bY e))],[4,6,72]⟩
def LU:AS:=⟨[(0,.sl (lm aI a)),(1,iI b),(4,.ptr 4 0),(6,.ptr 6 0),(7,.int .u8 ((gD a v2).Depth)),(8,.bool d)],[(4,List.set (aB c9) 58 (.nils)),(6,List.set (aB ({ c9 with Kind:=1,Node:=(aa (10+v2)),Style:=(gD a v2).Style }:ab)) 58 (.ref 72))],[(72,(bY e))],[4,6,72]⟩
def Yo:AS:=⟨[(0,.sl (lm aI a)),(1,iI (aa (v2+1))),(4,.ptr 4 0),(6,.ptr 6 0),(7,.int .u8 ((gD a v2).Depth)),(8,.bool d)],[(4,List.set (aB c9) 58 (.nils)),(6,List.set (aB ({ c9 with Kind:=1,Node:=(aa (10+v2)),Style:=(gD a v2).Style }:ab)) 58 (.nils))],[],[4,6]⟩
abbrev Jv:Prop:=∀{b:Int} {e:d3},i b e=some r→LP (GJ M c) (EK M c r) FW (cat Tryz.f41 (pn 504)) g (LU a v2 d b e)
variable{M c r a v2 d b e f g i}{K:Kn}{n:Nat}
theorem Pw(w:ao K)(q:Jv M c r a v2 d g i)(h:nn K n a v2 d b e i f=some r):Fc M c r (pW 2017::pW 1009::Ig M c r g) (aiZ a v2 d b e f):=by
 unfold nn at h;obtain⟨j,h⟩|⟨j,h⟩:=am h
 ·refine ah 60 j (bX (ks':=pW 8073::pW 4037 :: .b 1::Ig M c r g) 6 ?_);obtain⟨l,h⟩|⟨l,h⟩:=am h
  ·refine ah 61 l (ax 4 5 2 (aj 2 ?_));obtain⟨s,t,h⟩:=bind_some h;refine aU (w.kx t) (ac (ax 2 3 1 (aj 3 (au (gu aK ([s.1]:d3) (new:=[aB s.1]) (by simp only[th,By,dR])) ?_))));obtain⟨u,h⟩:=aD h;exact au (cw 72 72 48 59 aK (rfl) (fu) u) (ac (ag 5 (bq (q h))))
  ·refine ah 61 l (fV 2 3 3 (bJ [0,1,4,6,7,8] [4,6] [72] ?_));obtain⟨o,h⟩:=aD h;obtain⟨p,h⟩:=aD h;obtain⟨v,h⟩:=aD h;exact bN 2 (nu 75 [.ptr 6 58,.ref 72,.sl (lm aI a),iI b,.cptr (aI (gD a b)),.cptr (List.drop 5 (aI (gD a b))),.agg (aH ((gD a b).Style)),.sl (lm aI a),iI b,.cptr (aI (gD a b)),.cptr (List.drop 2 (aI (gD a b))),.str ((gD a b).Text),.agg (List.set (aB ({ c9 with Kind:=3,Style:=(gD a b).Style,Text:=(gD a b).Text }:ab)) 58 (.nils)),.sl (lm aK [({ c9 with Kind:=3,Style:=(gD a b).Style,Text:=(gD a b).Text }:ab)])]++nu 90 [.ptr 6 58]) [] [] [fS 89 72 ⟨48,59,lm aK (e++[({ c9 with Kind:=3,Style:=(gD a b).Style,Text:=(gD a b).Text }:ab)])⟩,cd bb 95 Tryz.f41 (pn 8074) 16] (av [.v 0 2,.v 0 1,.v 0 2,.v 0 2] (ai (fh (lo:=0) (k:=2) (da ⟨(by kernel_rfl),(dc (bB aI aI o (dB) aT) (by kernel_rfl))⟩ (da ⟨(by kernel_rfl),(dc (bB aI aI o (dB) aT) (by kernel_rfl))⟩ ft))) (av [.v 0 2,.v 0 2,.v 0 2,.v 0 2] (ai (fh (lo:=0) (k:=2) (da ⟨(by kernel_rfl),(dc (bB aI aI p (dB) aT) (by kernel_rfl))⟩ (da ⟨(by kernel_rfl),(dc (bB aI aI p (dB) aT) (by kernel_rfl))⟩ ft))) (av [.v 0 2,.v 0 2,.v 0 2] (bh (gu aK ([({ c9 with Kind:=3,Style:=(gD a b).Style,Text:=(gD a b).Text }:ab)]:d3) (new:=[aB ({ c9 with Kind:=3,Style:=(gD a b).Style,Text:=(gD a b).Text }:ab)]) (by simp only[th,By,dR])) (ai (dd (m:=0) (cw 89 72 48 59 aK (rfl) (fu) v)) (av [.v 1 1] (ai (cb 1) bL))))))))) (ag 2 (bq (q h)))
 ·refine ah 60 j (aN 8 ?_);cases h;exact qt
theorem abw(l:ao K)(j:Jv M c r a v2 d g i)(h:oe K n a v2 d i b e=some r):Fc M c r (pW 504::Ig M c r g) (LU a v2 d b e):=by
 unfold oe at h;refine cf 4 5 3 2 (aj 2 (au (bu aI a) (aQ 5 2 ?_)));obtain⟨f,h⟩|⟨f,h⟩:=am h
 ·refine aF 52 f (aQ 7 2 ?_);obtain⟨k,h⟩:=aD h;exact au (bB aI aI k (dB) aT) (ac (ag 0 (Pw l j h)))
 ·exact aF 52 f (ac (ag 0 (Pw l j h)))
theorem ac5(f:ao K)(m:Nat):Jv M c r a v2 d m (lW K n a v2 d m):=by
 induction m with
 | zero=>intro b e h;cases h
 | succ m g=>intro b e h;have h:oe K n a v2 d (lW K n a v2 d m) b e=some r:=h;exact bn (abw f g h)
theorem J7(b:ao K)(h:oG K n a v2 d=some r):Fc M c r [pW 63] (Yo a v2 d):=by
 unfold oG at h;exact gJ 4 0 3 2 (bJ [0,1,4,6,7,8] [4,6] [] (yB 72 6 58 48 59 (ag 0 (ce (p:=pn 252) n (ac5 b n h)))))
theorem ajS(e:ao K)(h:nZ K n a v2=some r):bc bb 41 [.sl (lm aI a),iI v2] (fun v s=>v=.tup [.agg (List.set (aB ({ r.1 with Kids:=[] }:ab)) 58 (.ref 72)),iI r.2]∧look 72 s.r=some (bY r.1.Kids)):=by
 refine bH (cat Tryz.f41 (pn 1)) Tryz.func41 Tryz.ntmps41 fun M c=>(bm ⟨[(0,.sl (lm aI a)),(1,iI v2)],[],[],[]⟩ ?_);unfold nZ at h;refine ax 6 7 3 (aj 4 ?_);obtain⟨f,h⟩:=aD h;refine au (bB aI aI f (dB) aT) (ac (ax 2 3 1 (aj 2 ?_)));obtain⟨g,h⟩:=aD h;refine au (bB aI aI g (dB) aT) (ac (ax 6 7 3 (aj 2 (au (bu aI a) (aQ 5 2 ?_)))));obtain⟨b,h⟩|⟨b,h⟩:=am h
 ·refine aF 30 b (aQ 7 2 ?_);obtain⟨i,h⟩:=aD h;refine au (bB aI aI i (dB) aT) (aQ 14 6 ?_);obtain⟨d,h⟩|⟨d,h⟩:=am h
  ·refine aF 39 d (aQ 16 2 ?_);obtain⟨j,h⟩:=aD h;exact au (bB aI aI j (dB) aT) (ac (ag 0 (J7 e h)))
  ·exact aF 39 d (ac (ag 0 (J7 e h)))
 ·exact aF 30 b (ac (ag 0 (J7 e h)))
end
end Go.Proofs.YtocgkfoifehcbaaGreat

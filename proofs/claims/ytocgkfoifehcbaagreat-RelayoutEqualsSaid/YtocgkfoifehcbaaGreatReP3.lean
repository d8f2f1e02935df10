/- The runs of the functions that RelayoutEquals reaches do what their plain forms say, part 3. Made by a program. -/
import Derived.Test.YtocgkfoifehcbaaGreatReP2
namespace Go.Proofs.YtocgkfoifehcbaaGreat
noncomputable section
open Go.RowKit
set_option maxRecDepth 20000
set_option linter.all false
section
variable[GS](M:Nat→Prop)(j:aC)(r:d4×b7)(z:dO)(v2:bB)(A:b7)(v4:d6)(a:Int)(g:b7)(f:d4)(i:Bool)(d:Int)(w:Bool)(q:Int)(t:b7)(u:aB)(l x:Nat)(o:Int→b7→d4→Option (d4×b7))(y:Int→Option (d4×b7))
abbrev xU:Cx:=⟨bb,120,M,j⟩
abbrev AN:=bodyPost bb Tryz.f112 (bR M j (fun v s=>v=.sl (lm aZ r.1)∧cw s.o [(1,[.ref 9])]∧look 9 s.r=some (bf r.2)))
abbrev Aw(a:dn)(s:AS):=VE (xU M j) (AN M j r) a .normal s
abbrev fK(n:Nat):aq:=.c (cat Tryz.f112 (pn n))
abbrev K9:dn:=[.b 0,fK 31]
abbrev lw:dn:=kl (xU M j) (AN M j r) K9 (cat Tryz.f112 (pn 244)) l::K9
abbrev JP:dn:=.b 3::fK 4009823 :: .b 2::fK 31327 :: .b 1::lw M j r l
abbrev Q1:dn:=kl (xU M j) (AN M j r) (JP M j r l) (cat Tryz.f112 (pn 16039288)) x::(JP M j r l)
def aaJ:AS:=⟨[(1,.fno 113 [.cptr (bP v2),.ptr 1 0]),(5,.sl (lm ax v4)),(6,.ref 117),(8,.ptr 8 0),(9,.bool i),(10,.ptr 10 0),(11,iI q)],[(1,[.ref 9]),(8,ax (gD v4 a)),(10,aZ u)],[(9,(bf t)),(117,(b5 f))],[1,8,10,9,117,1000001,1]⟩
def aai:AS:=⟨[(1,.fno 113 [.cptr (bP v2),.ptr 1 0]),(5,.sl (lm ax v4)),(6,.ref 117),(7,iI a),(8,.ptr 8 0),(9,.bool i),(10,.ptr 10 0),(11,iI d),(81,.bool w)],[(1,[.ref 9]),(8,ax (gD v4 a)),(10,List.set (aZ cX) 61 (.nils))],[(9,(bf g)),(117,(b5 f))],[1,8,10,9,117,1000001,1]⟩
def SR:AS:=⟨[(1,.fno 113 [.cptr (bP v2),.ptr 1 0]),(5,.sl (lm ax v4)),(6,.ref 117),(7,iI a),(8,.ptr 8 0),(9,.bool i),(10,.ptr 10 0),(11,iI d)],[(1,[.ref 9]),(8,ax (gD v4 a)),(10,List.set (aZ cX) 61 (.nils))],[(9,(bf g)),(117,(b5 f))],[1,8,10,9,117,1000001,1]⟩
def aiY:AS:=⟨[(1,.fno 113 [.cptr (bP v2),.ptr 1 0]),(5,.sl (lm ax v4)),(6,.ref 117),(7,iI a),(8,.ptr 8 0),(9,.bool i)],[(1,[.ref 9]),(8,ax (gD v4 a))],[(9,(bf g)),(117,(b5 f))],[1,8,9,117,1000001,1]⟩
def Sn:AS:=⟨[(1,.fno 113 [.cptr (bP v2),.ptr 1 0]),(5,.sl (lm ax v4)),(6,.ref 117),(7,iI a)],[(1,[.ref 9])],[(9,(bf g)),(117,(b5 f))],[1,9,117,1000001,1]⟩
abbrev pi:Prop:=∀{a:Int} {g:b7} {f:d4},o a g f=some r→LP (xU M j) (AN M j r) K9 (cat Tryz.f112 (pn 244)) l (Sn v2 v4 a g f)
abbrev Jh:Prop:=∀{d:Int},y d=some r→LP (xU M j) (AN M j r) (JP M j r l) (cat Tryz.f112 (pn 16039288)) x (SR v2 v4 a g f i d)
variable{M j r z v2 A v4 a g f i d w q t u l x o y}{K:Kn}{n:Nat}
def Jd(m:ao K)(e:pi M j r v2 v4 l o)(h:lM K n v2 v4 a f i o q t u=some r):Aw M j r (.b 2::fK 31327 :: .b 1::lw M j r l) (aaJ v2 v4 a f i q t u):=by
 unfold lM at h;refine fO 2 3 2 (bJ [1,5,6,8,9,10,11] [1,8,10] [9,117] (bQ 3 (nu 100 [.ptr 8 4,.cptr (az ((gD v4 a).Box)),.cptr (az ((gD v4 a).Box)),.cptr (List.drop 1 (az ((gD v4 a).Box))),iI (((gD v4 a).Box).Node),.ptr 8 4,.cptr (az ((gD v4 a).Box)),.cptr (az ((gD v4 a).Box)),.cptr (List.drop 2 (az ((gD v4 a).Box))),.agg (aI (((gD v4 a).Box).Style)),.bool i,.ptr 10 0,.ptr 10 2,.ptr 10 59]) [] [] [ci bb 120 Tryz.f112 (pn 62654) 12,ci bb 120 Tryz.f112 (pn 62654) 14,ci bb 120 Tryz.f112 (pn 62654) 16] (av [.v 0 1,.v 0 1,.v 0 1,.v 0 1,.v 0 1,.v 0 2,.v 0 2,.v 0 2,.v 0 2,.v 0 2,.v 0 3,.v 0 1] (aj (cg 0) (av [.v 1 1] (aj (cg 1) (av [.v 2 1] (aj (cg 2) bS)))))) ?_));obtain⟨g,b,h⟩:=bU h;obtain⟨k,c,h⟩:=bU h;refine bC (ks':=fK 125310::fK 125311 :: .b 1::lw M j r l) 1 ⟨[(1,.fno 113 [.cptr (bP v2),.ptr 1 0]),(5,.sl (lm ax v4)),(6,.ref 117),(10,.ptr 10 0),(11,iI q)],[(1,[.ref 9]),(10,aZ ({ u with Node:=g,Style:=k,Glued:=i }:aB))],[(9,(bf t)),(117,(b5 f))],[1,10,9,117,1000001,1]⟩ ?_ (by subst c;subst b;kernel_rfl)
 refine ai 3 ?_;obtain⟨d,h⟩:=aD h;exact au (cA 117 117 165 62 aZ (rfl) (iJ) d) (ac (ag 2 (bu (e h))))
def EI(s:ao K)(p:pi M j r v2 v4 l o)(q:Jh M j r v2 v4 a g f i l x y)(h:lT K n v2 v4 a g f i d o y w=some r):Aw M j r (fK 64157153::fK 32078577::Q1 M j r l x) (aai v2 v4 a g f i d w):=by
 unfold lT at h;obtain⟨b,h⟩|⟨b,h⟩:=am h
 ·exact ah 81 b (ag 5 (bu (q h)))
 ·refine ah 81 b (cd (ks':=fK 4009823 :: .b 2::fK 31327 :: .b 1::lw M j r l) 5 (ai 3 ?_));obtain⟨c,h⟩:=aD h;refine au (jp ax v4 a d 206 (.tmp 84) (some (.tmp 85)) (some (.tmp 86)) 87 (e:=210) (sz:=5) (by kernel_rfl) (by kernel_rfl) (by kernel_rfl) (by kernel_rfl) (by kernel_rfl) (by kernel_rfl) (cY) (fun k t=>by subst t;kernel_rfl) c) ?_;obtain⟨u,m,h⟩:=aw h;exact aS (FK s m) (ac (ag 0 (Jd s p h)))
def akc(v:ao K)(m:pi M j r v2 v4 l o)(p:Jh M j r v2 v4 a g f i l x y)(h:vW K n v2 v4 a g f i o y d=some r):Aw M j r (fK 16039288::Q1 M j r l x) (SR v2 v4 a g f i d):=by
 unfold vW at h;refine bX 4 5 3 2 (bJ [1,5,6,7,8,9,10,11] [1,8,10] [9,117] ?_);obtain⟨c,h⟩|⟨c,h⟩:=am h
 ·obtain⟨q,h⟩:=aD h;obtain⟨k,h⟩|⟨k,h⟩:=am h
  ·obtain⟨u,h⟩:=aD h;obtain⟨s,h⟩|⟨s,h⟩:=am h
   ·obtain⟨w,h⟩:=aD h;obtain⟨z,h⟩:=aD h;obtain⟨t,A,h⟩:=aw h;exact bQ 0 (nu 47 [iI d,.sl (lm ax v4),iI (v4.length:Int),.bool (decide (d<(v4.length:Int))),.bool true,.sl (lm ax v4),iI d,.cptr (ax (gD v4 d)),.cptr (List.drop 0 (ax (gD v4 d))),iI ((gD v4 d).Kind),.bool (((gD v4 d).Kind) == 1),.bool (((gD v4 d).Kind) == 1),.bool true,.sl (lm ax v4),iI d,.cptr (ax (gD v4 d)),.cptr (List.drop 1 (ax (gD v4 d))),iI ((gD v4 d).Of),.ptr 8 1,iI ((gD v4 a).Of),.bool (((gD v4 d).Of) == ((gD v4 a).Of)),.bool (((gD v4 d).Of) == ((gD v4 a).Of)),.bool true,.sl (lm ax v4),iI d,iI (aa (d-1)),.cptr (ax (gD v4 ((aa (d-1))))),.agg (ax (gD v4 ((aa (d-1))))),.sl (lm ax v4),iI d,.cptr (ax (gD v4 d)),.agg (ax (gD v4 d)),.bool t,.bool (!t),.bool (!t)]) [] [] [] (av (vz 2) (bi (bz ax v4) (av [.v 0 1] (aj (cW 0 51 (e:=(decide (d<(v4.length:Int)))) (b:=true) c) (av (vz 2) (bi (bD ax ax q (cY) aT) (av (vz 4) (aj (cW 0 59 (e:=(((gD v4 d).Kind) == 1)) (b:=true) k) (av (vz 2) (bi (bD ax ax u (cY) aT) (av (vz 6) (aj (cW 0 69 (e:=(((gD v4 d).Of) == ((gD v4 a).Of))) (b:=true) s) (av (vz 3) (bi (bD ax ax w (cY) aT) (av (vz 3) (bi (bD ax ax z (cY) aT) (av [.v 0 1] (aj (cj 0 1 79 (uB v A)) (av (vz 2) bS))))))))))))))))))) (ag 0 (EI v m p h))
   ·exact bQ 0 (nu 47 [iI d,.sl (lm ax v4),iI (v4.length:Int),.bool (decide (d<(v4.length:Int))),.bool true,.sl (lm ax v4),iI d,.cptr (ax (gD v4 d)),.cptr (List.drop 0 (ax (gD v4 d))),iI ((gD v4 d).Kind),.bool (((gD v4 d).Kind) == 1),.bool (((gD v4 d).Kind) == 1),.bool true,.sl (lm ax v4),iI d,.cptr (ax (gD v4 d)),.cptr (List.drop 1 (ax (gD v4 d))),iI ((gD v4 d).Of),.ptr 8 1,iI ((gD v4 a).Of),.bool (((gD v4 d).Of) == ((gD v4 a).Of)),.bool (((gD v4 d).Of) == ((gD v4 a).Of)),.bool false,be,be,be,be,be,be,be,be,be,be,be,.bool false]) [] [] [] (av (vz 2) (bi (bz ax v4) (av [.v 0 1] (aj (cW 0 51 (e:=(decide (d<(v4.length:Int)))) (b:=true) c) (av (vz 2) (bi (bD ax ax q (cY) aT) (av (vz 4) (aj (cW 0 59 (e:=(((gD v4 d).Kind) == 1)) (b:=true) k) (av (vz 2) (bi (bD ax ax u (cY) aT) (av (vz 6) (aj (cW 0 69 (e:=(((gD v4 d).Of) == ((gD v4 a).Of))) (b:=false) s) (aj (aF 0 1) (aj (aF 0 1) (aj (aF 0 1) (aj (aF 0 1) (aj (aF 0 1) (aj (aF 0 1) (aj (aF 0 1) (aj (aF 0 1) (aj (aF 0 1) (aj (aF 0 1) (aj (aF 0 1) (av [.v 0 1] bS)))))))))))))))))))))))) (ag 0 (EI v m p h))
  ·exact bQ 0 (nu 47 [iI d,.sl (lm ax v4),iI (v4.length:Int),.bool (decide (d<(v4.length:Int))),.bool true,.sl (lm ax v4),iI d,.cptr (ax (gD v4 d)),.cptr (List.drop 0 (ax (gD v4 d))),iI ((gD v4 d).Kind),.bool (((gD v4 d).Kind) == 1),.bool (((gD v4 d).Kind) == 1),.bool false,be,be,be,be,be,be,be,be,.bool false,.bool false,be,be,be,be,be,be,be,be,be,be,be,.bool false]) [] [] [] (av (vz 2) (bi (bz ax v4) (av [.v 0 1] (aj (cW 0 51 (e:=(decide (d<(v4.length:Int)))) (b:=true) c) (av (vz 2) (bi (bD ax ax q (cY) aT) (av (vz 4) (aj (cW 0 59 (e:=(((gD v4 d).Kind) == 1)) (b:=false) k) (aj (aF 0 1) (aj (aF 0 1) (aj (aF 0 1) (aj (aF 0 1) (aj (aF 0 1) (aj (aF 0 1) (aj (aF 0 1) (aj (aF 0 1) (av (vz 2) (aj (aF 0 1) (aj (aF 0 1) (aj (aF 0 1) (aj (aF 0 1) (aj (aF 0 1) (aj (aF 0 1) (aj (aF 0 1) (aj (aF 0 1) (aj (aF 0 1) (aj (aF 0 1) (aj (aF 0 1) (av [.v 0 1] bS))))))))))))))))))))))))))))) (ag 0 (EI v m p h))
 ·exact bQ 0 (nu 47 [iI d,.sl (lm ax v4),iI (v4.length:Int),.bool (decide (d<(v4.length:Int))),.bool false,be,be,be,be,be,be,.bool false,.bool false,be,be,be,be,be,be,be,be,.bool false,.bool false,be,be,be,be,be,be,be,be,be,be,be,.bool false]) [] [] [] (av (vz 2) (bi (bz ax v4) (av [.v 0 1] (aj (cW 0 51 (e:=(decide (d<(v4.length:Int)))) (b:=false) c) (aj (aF 0 1) (aj (aF 0 1) (aj (aF 0 1) (aj (aF 0 1) (aj (aF 0 1) (aj (aF 0 1) (av (vz 2) (aj (aF 0 1) (aj (aF 0 1) (aj (aF 0 1) (aj (aF 0 1) (aj (aF 0 1) (aj (aF 0 1) (aj (aF 0 1) (aj (aF 0 1) (av (vz 2) (aj (aF 0 1) (aj (aF 0 1) (aj (aF 0 1) (aj (aF 0 1) (aj (aF 0 1) (aj (aF 0 1) (aj (aF 0 1) (aj (aF 0 1) (aj (aF 0 1) (aj (aF 0 1) (aj (aF 0 1) (av [.v 0 1] bS)))))))))))))))))))))))))))))))) (ag 0 (EI v m p h))
def abQ(c:ao K)(b:pi M j r v2 v4 l o)(m:Nat):Jh M j r v2 v4 a g f i l m (s4 K n v2 v4 a g f i o m):=by
 induction m with
 | zero=>exact fun h=>nomatch h
 | succ m d=>exact fun h=>bp (akc c b d h)
def Kt(e:ao K)(d:pi M j r v2 v4 l o)(h:qe K n v2 v4 a g f o i=some r):Aw M j r (fK 3915 :: .b 1::lw M j r l) (aiY v2 v4 a g f i):=by
 unfold qe at h;obtain⟨s,k,h⟩:=bU h;refine bC (ks':=fK 250613 :: .b 2::fK 31327 :: .b 1::lw M j r l) 10 ⟨[(1,.fno 113 [.cptr (bP v2),.ptr 1 0]),(5,.sl (lm ax v4)),(6,.ref 117),(7,iI a),(8,.ptr 8 0),(9,.bool i),(10,.ptr 10 0),(11,iI (aa (a+1))),(46,iI ((gD v4 a).Kind)),(89,.bool s)],[(1,[.ref 9]),(8,ax (gD v4 a)),(10,List.set (aZ cX) 61 (.nils))],[(9,(bf g)),(117,(b5 f))],[1,8,10,9,117,1000001,1]⟩ ?_ (by subst k;kernel_rfl);obtain⟨b,h⟩|⟨b,h⟩:=am h
 ·exact ah 89 b (cd (ks':=.b 2::fK 31327 :: .b 1::lw M j r l) 2 (mP 10 (ag 0 (Jd e d h))))
 ·refine ah 89 b ?_;obtain⟨t,m,h⟩:=bU h;refine bC (ks':=fK 1002455 :: .b 2::fK 31327 :: .b 1::lw M j r l) 3 ⟨[(1,.fno 113 [.cptr (bP v2),.ptr 1 0]),(5,.sl (lm ax v4)),(6,.ref 117),(7,iI a),(8,.ptr 8 0),(9,.bool i),(10,.ptr 10 0),(11,iI (aa (a+1))),(92,.bool t)],[(1,[.ref 9]),(8,ax (gD v4 a)),(10,List.set (aZ cX) 61 (.nils))],[(9,(bf g)),(117,(b5 f))],[1,8,10,9,117,1000001,1]⟩ ?_ (by subst m;kernel_rfl);obtain⟨c,h⟩|⟨c,h⟩:=am h
  ·refine ah 92 c (bv 2 1 (ai 5 ?_));obtain⟨u,q,h⟩:=aw h;exact kA 9 9 [(1,1)] (Y4 e q) (ac (ag 0 (Jd e d h)))
  ·exact ah 92 c (ag 3 (cc (p:=pn 8019644) n (abQ e d n h)))
def ak9(q:ao K)(k:pi M j r v2 v4 l o)(h:wZ K n v2 v4 o a g f=some r):Aw M j r (fK 244::lw M j r l) (Sn v2 v4 a g f):=by
 unfold wZ at h;refine bX 4 5 3 2 (ai 2 (au (bz ax v4) (ac ?_)));obtain⟨d,h⟩|⟨d,h⟩:=am h
 ·refine ah 17 d (cd (ks':=fK 1956::fK 1957 :: .b 1::lw M j r l) 4 (ai 2 ?_));obtain⟨s,h⟩:=aD h;refine au (bD ax ax s (cY) aT) (ac (ay 2 3 1 (bJ [1,5,6,7,8] [1,8] [9,117] ?_)));obtain⟨c,h⟩|⟨c,h⟩:=am h
  ·obtain⟨p,h⟩:=aD h;obtain⟨i,h⟩|⟨i,h⟩:=am h
   ·obtain⟨t,h⟩:=aD h;obtain⟨m,u,h⟩:=aw h;exact bQ 1 (nu 22 [iI a,.bool (decide (a>0)),.bool true,.sl (lm ax v4),iI a,iI (aa (a-1)),.cptr (ax (gD v4 ((aa (a-1))))),.cptr (List.drop 0 (ax (gD v4 ((aa (a-1)))))),iI ((gD v4 ((aa (a-1)))).Kind),.bool (((gD v4 ((aa (a-1)))).Kind) != 2),.bool (((gD v4 ((aa (a-1)))).Kind) != 2),.bool true,.sl (lm ax v4),iI a,iI (aa (a-1)),.cptr (ax (gD v4 ((aa (a-1))))),.agg (ax (gD v4 ((aa (a-1))))),.agg (ax (gD v4 a)),.bool m,.bool (!m),.bool (!m)]) [] [] [ci bb 120 Tryz.f112 (pn 3914) 21] (av (vz 2) (aj (cW 0 24 (e:=(decide (a>0))) (b:=true) c) (av (vz 3) (bi (bD ax ax p (cY) aT) (av (vz 4) (aj (cW 0 33 (e:=(((gD v4 ((aa (a-1)))).Kind) != 2)) (b:=true) i) (av (vz 3) (bi (bD ax ax t (cY) aT) (av (vz 2) (aj (cj 0 1 40 (uB q u)) (av (vz 2) (aj (cg 0) bS)))))))))))) (ag 0 (Kt q k h))
   ·exact bQ 1 (nu 22 [iI a,.bool (decide (a>0)),.bool true,.sl (lm ax v4),iI a,iI (aa (a-1)),.cptr (ax (gD v4 ((aa (a-1))))),.cptr (List.drop 0 (ax (gD v4 ((aa (a-1)))))),iI ((gD v4 ((aa (a-1)))).Kind),.bool (((gD v4 ((aa (a-1)))).Kind) != 2),.bool (((gD v4 ((aa (a-1)))).Kind) != 2),.bool false,be,be,be,be,be,be,be,be,.bool false]) [] [] [ci bb 120 Tryz.f112 (pn 3914) 21] (av (vz 2) (aj (cW 0 24 (e:=(decide (a>0))) (b:=true) c) (av (vz 3) (bi (bD ax ax p (cY) aT) (av (vz 4) (aj (cW 0 33 (e:=(((gD v4 ((aa (a-1)))).Kind) != 2)) (b:=false) i) (aj (aF 0 1) (aj (aF 0 1) (aj (aF 0 1) (aj (aF 0 1) (aj (aF 0 1) (aj (aF 0 1) (aj (aF 0 1) (aj (aF 0 1) (av [.v 0 1] (aj (cg 0) bS)))))))))))))))) (ag 0 (Kt q k h))
  ·exact bQ 1 (nu 22 [iI a,.bool (decide (a>0)),.bool false,be,be,be,be,be,be,be,.bool false,.bool false,be,be,be,be,be,be,be,be,.bool false]) [] [] [ci bb 120 Tryz.f112 (pn 3914) 21] (av (vz 2) (aj (cW 0 24 (e:=(decide (a>0))) (b:=false) c) (aj (aF 0 1) (aj (aF 0 1) (aj (aF 0 1) (aj (aF 0 1) (aj (aF 0 1) (aj (aF 0 1) (aj (aF 0 1) (av (vz 2) (aj (aF 0 1) (aj (aF 0 1) (aj (aF 0 1) (aj (aF 0 1) (aj (aF 0 1) (aj (aF 0 1) (aj (aF 0 1) (aj (aF 0 1) (av [.v 0 1] (aj (cg 0) bS)))))))))))))))))))) (ag 0 (Kt q k h))
 ·refine ah 17 d (aL 8 (gG 117 ?_));cases h;exact fj
def abA(a:ao K)(m:Nat):pi M j r v2 v4 m (tS K n v2 v4 m):=by
 induction m with
 | zero=>exact fun h=>nomatch h
 | succ m b=>exact fun h=>bp (ak9 a b h)
def adU(a:ao K)(h:sq K n z v2 A=some r):jM bb 112 [.sl (lm aM z),.fno 113 [.cptr (bP v2),.ptr 1 0]] [(1,[.ref 9])] 9 (bf A) [9,1,1000001] (fun v s=>v=.sl (lm aZ r.1)∧cw s.o [(1,[.ref 9])]∧look 9 s.r=some (bf r.2)):=by
 refine mM (c:=cat Tryz.f112 (pn 1)) anC (by kernel_rfl) _ anA (jt (by kernel_rfl)) fun M j=>(bn ⟨[(0,.sl (lm aM z)),(1,.fno 113 [.cptr (bP v2),.ptr 1 0])],[(1,[.ref 9])],[(9,(bf A))],[9,1,1000001]⟩ ?_);unfold sq at h;refine ay 6 7 3 (ai 1 ?_);obtain⟨v4,b,h⟩:=aw h;exact eZ 1013 (G9 a b) (fa 400003) (ac (ir 26 0 7 6 (bJ [1,5,6,7] [1] [9,1013] (gG 1013 (fb 117 6 165 62 (ag 0 (cc (p:=pn 122) n (abA a n h))))))))
end
section
variable[GS](M:Nat→Prop)(l:aC)(r:d4×Int×b7)(B:dO)(v2:Int)(C:b7)(v4:d6)(a g:Int)(i:b7)(f:d4)(j:Bool)(d:Int)(y:Bool)(t u:Int)(w:b7)(x:aB)(o z:Nat)(q:Int→Int→b7→d4→Option (d4×Int×b7))(A:Int→Option (d4×Int×b7))
abbrev w4:Cx:=⟨bb,120,M,l⟩
abbrev y6:=bodyPost bb Tryz.f112 (bR M l (fun v s=>v=.sl (lm aZ r.1)∧cw s.o [(1,[iI r.2.1]),(2,[.ref 9])]∧look 9 s.r=some (bf r.2.2)))
abbrev yN(a:dn)(s:AS):=VE (w4 M l) (y6 M l r) a .normal s
abbrev fN(n:Nat):aq:=.c (cat Tryz.f112 (pn n))
abbrev Gp:dn:=[.b 0,fN 31]
abbrev lZ:dn:=kl (w4 M l) (y6 M l r) Gp (cat Tryz.f112 (pn 244)) o::Gp
abbrev GQ:dn:=.b 3::fN 4009823 :: .b 2::fN 31327 :: .b 1::lZ M l r o
abbrev Vs:dn:=kl (w4 M l) (y6 M l r) (GQ M l r o) (cat Tryz.f112 (pn 16039288)) z::(GQ M l r o)
def aff:AS:=⟨[(1,.fno 114 [.ptr 1 0,.ptr 2 0]),(5,.sl (lm ax v4)),(6,.ref 117),(8,.ptr 8 0),(9,.bool j),(10,.ptr 10 0),(11,iI t)],[(1,[iI u]),(2,[.ref 9]),(8,ax (gD v4 a)),(10,aZ x)],[(9,(bf w)),(117,(b5 f))],[1,2,8,10,9,117,1000001,1,1000002,2]⟩
def Zb:AS:=⟨[(1,.fno 114 [.ptr 1 0,.ptr 2 0]),(5,.sl (lm ax v4)),(6,.ref 117),(7,iI a),(8,.ptr 8 0),(9,.bool j),(10,.ptr 10 0),(11,iI d),(81,.bool y)],[(1,[iI g]),(2,[.ref 9]),(8,ax (gD v4 a)),(10,List.set (aZ cX) 61 (.nils))],[(9,(bf i)),(117,(b5 f))],[1,2,8,10,9,117,1000001,1,1000002,2]⟩
def Ro:AS:=⟨[(1,.fno 114 [.ptr 1 0,.ptr 2 0]),(5,.sl (lm ax v4)),(6,.ref 117),(7,iI a),(8,.ptr 8 0),(9,.bool j),(10,.ptr 10 0),(11,iI d)],[(1,[iI g]),(2,[.ref 9]),(8,ax (gD v4 a)),(10,List.set (aZ cX) 61 (.nils))],[(9,(bf i)),(117,(b5 f))],[1,2,8,10,9,117,1000001,1,1000002,2]⟩
def aeL:AS:=⟨[(1,.fno 114 [.ptr 1 0,.ptr 2 0]),(5,.sl (lm ax v4)),(6,.ref 117),(7,iI a),(8,.ptr 8 0),(9,.bool j)],[(1,[iI g]),(2,[.ref 9]),(8,ax (gD v4 a))],[(9,(bf i)),(117,(b5 f))],[1,2,8,9,117,1000001,1,1000002,2]⟩
def Md:AS:=⟨[(1,.fno 114 [.ptr 1 0,.ptr 2 0]),(5,.sl (lm ax v4)),(6,.ref 117),(7,iI a)],[(1,[iI g]),(2,[.ref 9])],[(9,(bf i)),(117,(b5 f))],[1,2,9,117,1000001,1,1000002,2]⟩
abbrev qP:Prop:=∀{a:Int} {g:Int} {i:b7} {f:d4},q a g i f=some r→LP (w4 M l) (y6 M l r) Gp (cat Tryz.f112 (pn 244)) o (Md v4 a g i f)
abbrev Fo:Prop:=∀{d:Int},A d=some r→LP (w4 M l) (y6 M l r) (GQ M l r o) (cat Tryz.f112 (pn 16039288)) z (Ro v4 a g i f j d)
variable{M l r B v2 C v4 a g i f j d y t u w x o z q A}{K:Kn}{n:Nat}
def J1(k:ao K)(e:qP M l r v4 o q)(h:mf K n v4 a f j q t u w x=some r):yN M l r (.b 2::fN 31327 :: .b 1::lZ M l r o) (aff v4 a f j t u w x):=by
 unfold mf at h;refine fO 2 3 2 (bJ [1,5,6,8,9,10,11] [1,2,8,10] [9,117] (bQ 3 (nu 100 [.ptr 8 4,.cptr (az ((gD v4 a).Box)),.cptr (az ((gD v4 a).Box)),.cptr (List.drop 1 (az ((gD v4 a).Box))),iI (((gD v4 a).Box).Node),.ptr 8 4,.cptr (az ((gD v4 a).Box)),.cptr (az ((gD v4 a).Box)),.cptr (List.drop 2 (az ((gD v4 a).Box))),.agg (aI (((gD v4 a).Box).Style)),.bool j,.ptr 10 0,.ptr 10 2,.ptr 10 59]) [] [] [ci bb 120 Tryz.f112 (pn 62654) 12,ci bb 120 Tryz.f112 (pn 62654) 14,ci bb 120 Tryz.f112 (pn 62654) 16] (av [.v 0 1,.v 0 1,.v 0 1,.v 0 1,.v 0 1,.v 0 2,.v 0 2,.v 0 2,.v 0 2,.v 0 2,.v 0 3,.v 0 1] (aj (cg 0) (av [.v 1 1] (aj (cg 1) (av [.v 2 1] (aj (cg 2) bS)))))) ?_));obtain⟨g,b,h⟩:=bU h;obtain⟨i,c,h⟩:=bU h;refine bC (ks':=fN 125310::fN 125311 :: .b 1::lZ M l r o) 1 ⟨[(1,.fno 114 [.ptr 1 0,.ptr 2 0]),(5,.sl (lm ax v4)),(6,.ref 117),(10,.ptr 10 0),(11,iI t)],[(1,[iI u]),(2,[.ref 9]),(10,aZ ({ x with Node:=g,Style:=i,Glued:=j }:aB))],[(9,(bf w)),(117,(b5 f))],[1,2,10,9,117,1000001,1,1000002,2]⟩ ?_ (by subst c;subst b;kernel_rfl)
 refine ai 3 ?_;obtain⟨d,h⟩:=aD h;exact au (cA 117 117 165 62 aZ (rfl) (iJ) d) (ac (ag 2 (bu (e h))))
def DJ(t:ao K)(p:qP M l r v4 o q)(s:Fo M l r v4 a g i f j o z A)(h:md K n v4 a g i f j d q A y=some r):yN M l r (fN 64157153::fN 32078577::Vs M l r o z) (Zb v4 a g i f j d y):=by
 unfold md at h;obtain⟨b,h⟩|⟨b,h⟩:=am h
 ·exact ah 81 b (ag 5 (bu (s h)))
 ·refine ah 81 b (cd (ks':=fN 4009823 :: .b 2::fN 31327 :: .b 1::lZ M l r o) 5 (ai 3 ?_));obtain⟨c,h⟩:=aD h;refine au (jp ax v4 a d 206 (.tmp 84) (some (.tmp 85)) (some (.tmp 86)) 87 (e:=210) (sz:=5) (by kernel_rfl) (by kernel_rfl) (by kernel_rfl) (by kernel_rfl) (by kernel_rfl) (by kernel_rfl) (cY) (fun k u=>by subst u;kernel_rfl) c) ?_;obtain⟨v,m,h⟩:=aw h;exact aS (FK t m) (ac (ag 0 (J1 t p h)))
def ale(w:ao K)(m:qP M l r v4 o q)(p:Fo M l r v4 a g i f j o z A)(h:Az K n v4 a g i f j q A d=some r):yN M l r (fN 16039288::Vs M l r o z) (Ro v4 a g i f j d):=by
 unfold Az at h;refine bX 4 5 3 2 (bJ [1,5,6,7,8,9,10,11] [1,2,8,10] [9,117] ?_);obtain⟨c,h⟩|⟨c,h⟩:=am h
 ·obtain⟨s,h⟩:=aD h;obtain⟨k,h⟩|⟨k,h⟩:=am h
  ·obtain⟨v,h⟩:=aD h;obtain⟨t,h⟩|⟨t,h⟩:=am h
   ·obtain⟨x,h⟩:=aD h;obtain⟨y,h⟩:=aD h;obtain⟨u,B,h⟩:=aw h;exact bQ 0 (nu 47 [iI d,.sl (lm ax v4),iI (v4.length:Int),.bool (decide (d<(v4.length:Int))),.bool true,.sl (lm ax v4),iI d,.cptr (ax (gD v4 d)),.cptr (List.drop 0 (ax (gD v4 d))),iI ((gD v4 d).Kind),.bool (((gD v4 d).Kind) == 1),.bool (((gD v4 d).Kind) == 1),.bool true,.sl (lm ax v4),iI d,.cptr (ax (gD v4 d)),.cptr (List.drop 1 (ax (gD v4 d))),iI ((gD v4 d).Of),.ptr 8 1,iI ((gD v4 a).Of),.bool (((gD v4 d).Of) == ((gD v4 a).Of)),.bool (((gD v4 d).Of) == ((gD v4 a).Of)),.bool true,.sl (lm ax v4),iI d,iI (aa (d-1)),.cptr (ax (gD v4 ((aa (d-1))))),.agg (ax (gD v4 ((aa (d-1))))),.sl (lm ax v4),iI d,.cptr (ax (gD v4 d)),.agg (ax (gD v4 d)),.bool u,.bool (!u),.bool (!u)]) [] [] [] (av (vz 2) (bi (bz ax v4) (av [.v 0 1] (aj (cW 0 51 (e:=(decide (d<(v4.length:Int)))) (b:=true) c) (av (vz 2) (bi (bD ax ax s (cY) aT) (av (vz 4) (aj (cW 0 59 (e:=(((gD v4 d).Kind) == 1)) (b:=true) k) (av (vz 2) (bi (bD ax ax v (cY) aT) (av (vz 6) (aj (cW 0 69 (e:=(((gD v4 d).Of) == ((gD v4 a).Of))) (b:=true) t) (av (vz 3) (bi (bD ax ax x (cY) aT) (av (vz 3) (bi (bD ax ax y (cY) aT) (av [.v 0 1] (aj (cj 0 1 79 (uB w B)) (av (vz 2) bS))))))))))))))))))) (ag 0 (DJ w m p h))
   ·exact bQ 0 (nu 47 [iI d,.sl (lm ax v4),iI (v4.length:Int),.bool (decide (d<(v4.length:Int))),.bool true,.sl (lm ax v4),iI d,.cptr (ax (gD v4 d)),.cptr (List.drop 0 (ax (gD v4 d))),iI ((gD v4 d).Kind),.bool (((gD v4 d).Kind) == 1),.bool (((gD v4 d).Kind) == 1),.bool true,.sl (lm ax v4),iI d,.cptr (ax (gD v4 d)),.cptr (List.drop 1 (ax (gD v4 d))),iI ((gD v4 d).Of),.ptr 8 1,iI ((gD v4 a).Of),.bool (((gD v4 d).Of) == ((gD v4 a).Of)),.bool (((gD v4 d).Of) == ((gD v4 a).Of)),.bool false,be,be,be,be,be,be,be,be,be,be,be,.bool false]) [] [] [] (av (vz 2) (bi (bz ax v4) (av [.v 0 1] (aj (cW 0 51 (e:=(decide (d<(v4.length:Int)))) (b:=true) c) (av (vz 2) (bi (bD ax ax s (cY) aT) (av (vz 4) (aj (cW 0 59 (e:=(((gD v4 d).Kind) == 1)) (b:=true) k) (av (vz 2) (bi (bD ax ax v (cY) aT) (av (vz 6) (aj (cW 0 69 (e:=(((gD v4 d).Of) == ((gD v4 a).Of))) (b:=false) t) (aj (aF 0 1) (aj (aF 0 1) (aj (aF 0 1) (aj (aF 0 1) (aj (aF 0 1) (aj (aF 0 1) (aj (aF 0 1) (aj (aF 0 1) (aj (aF 0 1) (aj (aF 0 1) (aj (aF 0 1) (av [.v 0 1] bS)))))))))))))))))))))))) (ag 0 (DJ w m p h))
  ·exact bQ 0 (nu 47 [iI d,.sl (lm ax v4),iI (v4.length:Int),.bool (decide (d<(v4.length:Int))),.bool true,.sl (lm ax v4),iI d,.cptr (ax (gD v4 d)),.cptr (List.drop 0 (ax (gD v4 d))),iI ((gD v4 d).Kind),.bool (((gD v4 d).Kind) == 1),.bool (((gD v4 d).Kind) == 1),.bool false,be,be,be,be,be,be,be,be,.bool false,.bool false,be,be,be,be,be,be,be,be,be,be,be,.bool false]) [] [] [] (av (vz 2) (bi (bz ax v4) (av [.v 0 1] (aj (cW 0 51 (e:=(decide (d<(v4.length:Int)))) (b:=true) c) (av (vz 2) (bi (bD ax ax s (cY) aT) (av (vz 4) (aj (cW 0 59 (e:=(((gD v4 d).Kind) == 1)) (b:=false) k) (aj (aF 0 1) (aj (aF 0 1) (aj (aF 0 1) (aj (aF 0 1) (aj (aF 0 1) (aj (aF 0 1) (aj (aF 0 1) (aj (aF 0 1) (av (vz 2) (aj (aF 0 1) (aj (aF 0 1) (aj (aF 0 1) (aj (aF 0 1) (aj (aF 0 1) (aj (aF 0 1) (aj (aF 0 1) (aj (aF 0 1) (aj (aF 0 1) (aj (aF 0 1) (aj (aF 0 1) (av [.v 0 1] bS))))))))))))))))))))))))))))) (ag 0 (DJ w m p h))
 ·exact bQ 0 (nu 47 [iI d,.sl (lm ax v4),iI (v4.length:Int),.bool (decide (d<(v4.length:Int))),.bool false,be,be,be,be,be,be,.bool false,.bool false,be,be,be,be,be,be,be,be,.bool false,.bool false,be,be,be,be,be,be,be,be,be,be,be,.bool false]) [] [] [] (av (vz 2) (bi (bz ax v4) (av [.v 0 1] (aj (cW 0 51 (e:=(decide (d<(v4.length:Int)))) (b:=false) c) (aj (aF 0 1) (aj (aF 0 1) (aj (aF 0 1) (aj (aF 0 1) (aj (aF 0 1) (aj (aF 0 1) (av (vz 2) (aj (aF 0 1) (aj (aF 0 1) (aj (aF 0 1) (aj (aF 0 1) (aj (aF 0 1) (aj (aF 0 1) (aj (aF 0 1) (aj (aF 0 1) (av (vz 2) (aj (aF 0 1) (aj (aF 0 1) (aj (aF 0 1) (aj (aF 0 1) (aj (aF 0 1) (aj (aF 0 1) (aj (aF 0 1) (aj (aF 0 1) (aj (aF 0 1) (aj (aF 0 1) (aj (aF 0 1) (av [.v 0 1] bS)))))))))))))))))))))))))))))))) (ag 0 (DJ w m p h))
def ajt(c:ao K)(b:qP M l r v4 o q)(m:Nat):Fo M l r v4 a g i f j o m (rJ K n v4 a g i f j q m):=by
 induction m with
 | zero=>exact fun h=>nomatch h
 | succ m d=>exact fun h=>bp (ale c b d h)
def K0(e:ao K)(d:qP M l r v4 o q)(h:qQ K n v4 a g i f q j=some r):yN M l r (fN 3915 :: .b 1::lZ M l r o) (aeL v4 a g i f j):=by
 unfold qQ at h;obtain⟨t,k,h⟩:=bU h;refine bC (ks':=fN 250613 :: .b 2::fN 31327 :: .b 1::lZ M l r o) 10 ⟨[(1,.fno 114 [.ptr 1 0,.ptr 2 0]),(5,.sl (lm ax v4)),(6,.ref 117),(7,iI a),(8,.ptr 8 0),(9,.bool j),(10,.ptr 10 0),(11,iI (aa (a+1))),(46,iI ((gD v4 a).Kind)),(89,.bool t)],[(1,[iI g]),(2,[.ref 9]),(8,ax (gD v4 a)),(10,List.set (aZ cX) 61 (.nils))],[(9,(bf i)),(117,(b5 f))],[1,2,8,10,9,117,1000001,1,1000002,2]⟩ ?_ (by subst k;kernel_rfl);obtain⟨b,h⟩|⟨b,h⟩:=am h
 ·exact ah 89 b (cd (ks':=.b 2::fN 31327 :: .b 1::lZ M l r o) 2 (mP 10 (ag 0 (J1 e d h))))
 ·refine ah 89 b ?_;obtain⟨u,m,h⟩:=bU h;refine bC (ks':=fN 1002455 :: .b 2::fN 31327 :: .b 1::lZ M l r o) 3 ⟨[(1,.fno 114 [.ptr 1 0,.ptr 2 0]),(5,.sl (lm ax v4)),(6,.ref 117),(7,iI a),(8,.ptr 8 0),(9,.bool j),(10,.ptr 10 0),(11,iI (aa (a+1))),(92,.bool u)],[(1,[iI g]),(2,[.ref 9]),(8,ax (gD v4 a)),(10,List.set (aZ cX) 61 (.nils))],[(9,(bf i)),(117,(b5 f))],[1,2,8,10,9,117,1000001,1,1000002,2]⟩ ?_ (by subst m;kernel_rfl);obtain⟨c,h⟩|⟨c,h⟩:=am h
  ·refine ah 92 c (bv 2 1 (ai 5 ?_));obtain⟨v,s,h⟩:=aw h;exact kA 9 9 [(1,1),(2,2)] (Xf e s) (ac (ag 0 (J1 e d h)))
  ·exact ah 92 c (ag 3 (cc (p:=pn 8019644) n (ajt e d n h)))
def aaE(s:ao K)(k:qP M l r v4 o q)(h:yw K n v4 q a g i f=some r):yN M l r (fN 244::lZ M l r o) (Md v4 a g i f):=by
 unfold yw at h;refine bX 4 5 3 2 (ai 2 (au (bz ax v4) (ac ?_)));obtain⟨d,h⟩|⟨d,h⟩:=am h
 ·refine ah 17 d (cd (ks':=fN 1956::fN 1957 :: .b 1::lZ M l r o) 4 (ai 2 ?_));obtain⟨t,h⟩:=aD h;refine au (bD ax ax t (cY) aT) (ac (ay 2 3 1 (bJ [1,5,6,7,8] [1,2,8] [9,117] ?_)));obtain⟨c,h⟩|⟨c,h⟩:=am h
  ·obtain⟨p,h⟩:=aD h;obtain⟨j,h⟩|⟨j,h⟩:=am h
   ·obtain⟨u,h⟩:=aD h;obtain⟨m,v,h⟩:=aw h;exact bQ 1 (nu 22 [iI a,.bool (decide (a>0)),.bool true,.sl (lm ax v4),iI a,iI (aa (a-1)),.cptr (ax (gD v4 ((aa (a-1))))),.cptr (List.drop 0 (ax (gD v4 ((aa (a-1)))))),iI ((gD v4 ((aa (a-1)))).Kind),.bool (((gD v4 ((aa (a-1)))).Kind) != 2),.bool (((gD v4 ((aa (a-1)))).Kind) != 2),.bool true,.sl (lm ax v4),iI a,iI (aa (a-1)),.cptr (ax (gD v4 ((aa (a-1))))),.agg (ax (gD v4 ((aa (a-1))))),.agg (ax (gD v4 a)),.bool m,.bool (!m),.bool (!m)]) [] [] [ci bb 120 Tryz.f112 (pn 3914) 21] (av (vz 2) (aj (cW 0 24 (e:=(decide (a>0))) (b:=true) c) (av (vz 3) (bi (bD ax ax p (cY) aT) (av (vz 4) (aj (cW 0 33 (e:=(((gD v4 ((aa (a-1)))).Kind) != 2)) (b:=true) j) (av (vz 3) (bi (bD ax ax u (cY) aT) (av (vz 2) (aj (cj 0 1 40 (uB s v)) (av (vz 2) (aj (cg 0) bS)))))))))))) (ag 0 (K0 s k h))
   ·exact bQ 1 (nu 22 [iI a,.bool (decide (a>0)),.bool true,.sl (lm ax v4),iI a,iI (aa (a-1)),.cptr (ax (gD v4 ((aa (a-1))))),.cptr (List.drop 0 (ax (gD v4 ((aa (a-1)))))),iI ((gD v4 ((aa (a-1)))).Kind),.bool (((gD v4 ((aa (a-1)))).Kind) != 2),.bool (((gD v4 ((aa (a-1)))).Kind) != 2),.bool false,be,be,be,be,be,be,be,be,.bool false]) [] [] [ci bb 120 Tryz.f112 (pn 3914) 21] (av (vz 2) (aj (cW 0 24 (e:=(decide (a>0))) (b:=true) c) (av (vz 3) (bi (bD ax ax p (cY) aT) (av (vz 4) (aj (cW 0 33 (e:=(((gD v4 ((aa (a-1)))).Kind) != 2)) (b:=false) j) (aj (aF 0 1) (aj (aF 0 1) (aj (aF 0 1) (aj (aF 0 1) (aj (aF 0 1) (aj (aF 0 1) (aj (aF 0 1) (aj (aF 0 1) (av [.v 0 1] (aj (cg 0) bS)))))))))))))))) (ag 0 (K0 s k h))
  ·exact bQ 1 (nu 22 [iI a,.bool (decide (a>0)),.bool false,be,be,be,be,be,be,be,.bool false,.bool false,be,be,be,be,be,be,be,be,.bool false]) [] [] [ci bb 120 Tryz.f112 (pn 3914) 21] (av (vz 2) (aj (cW 0 24 (e:=(decide (a>0))) (b:=false) c) (aj (aF 0 1) (aj (aF 0 1) (aj (aF 0 1) (aj (aF 0 1) (aj (aF 0 1) (aj (aF 0 1) (aj (aF 0 1) (av (vz 2) (aj (aF 0 1) (aj (aF 0 1) (aj (aF 0 1) (aj (aF 0 1) (aj (aF 0 1) (aj (aF 0 1) (aj (aF 0 1) (aj (aF 0 1) (av [.v 0 1] (aj (cg 0) bS)))))))))))))))))))) (ag 0 (K0 s k h))
 ·refine ah 17 d (aL 8 (gG 117 ?_));cases h;exact fj
def ak3(a:ao K)(m:Nat):qP M l r v4 m (tH K n v4 m):=by
 induction m with
 | zero=>exact fun h=>nomatch h
 | succ m b=>exact fun h=>bp (aaE a b h)
def akF(a:ao K)(h:uf K n B v2 C=some r):jM bb 112 [.sl (lm aM B),.fno 114 [.ptr 1 0,.ptr 2 0]] [(1,[iI v2]),(2,[.ref 9])] 9 (bf C) [9,1,2,1000001,1000002] (fun v s=>v=.sl (lm aZ r.1)∧cw s.o [(1,[iI r.2.1]),(2,[.ref 9])]∧look 9 s.r=some (bf r.2.2)):=by
 refine mM (c:=cat Tryz.f112 (pn 1)) anC (by kernel_rfl) _ anA (jt (by kernel_rfl)) fun M l=>(bn ⟨[(0,.sl (lm aM B)),(1,.fno 114 [.ptr 1 0,.ptr 2 0])],[(1,[iI v2]),(2,[.ref 9])],[(9,(bf C))],[9,1,2,1000001,1000002]⟩ ?_);unfold uf at h;refine ay 6 7 3 (ai 1 ?_);obtain⟨v4,b,h⟩:=aw h;exact eZ 1013 (G9 a b) (fa 400003) (ac (ir 26 0 7 6 (bJ [1,5,6,7] [1,2] [9,1013] (gG 1013 (fb 117 6 165 62 (ag 0 (cc (p:=pn 122) n (ak3 a n h))))))))
end
section
variable[GS](M:Nat→Prop)(a:aC)(r:Int×Int)(A:dO)(v2:aR)(z:bB)(v4:d4×b7)(v5:d4×Int×b7)(d i j o c b f:Int)(q:Bool)(t:Int)(u g w:Nat)(x l:Int→Int→Option eg)(y:Int→Option eg)
abbrev qb:Cx:=⟨bb,74,M,a⟩
abbrev rq:=bodyPost bb Tryz.f55 (bR M a (fun v _=>v=.tup [iI r.1,iI r.2]))
abbrev vi(b:dn)(s:AS):=VE (qb M a) (rq M a r) b .normal s
abbrev j7(n:Nat):aq:=.c (cat Tryz.f55 (pn n))
abbrev Hw:dn:=[.b 2,j7 255]
abbrev Lp:dn:=kl (qb M a) (rq M a r) Hw (cat Tryz.f55 (pn 2036)) g::Hw
abbrev Km:dn:=[.b 0,j7 127]
abbrev Jo:dn:=kl (qb M a) (rq M a r) Km (cat Tryz.f55 (pn 1012)) u::Km
abbrev Kj:dn:=.b 4::j7 32587 :: .b 3::Lp M a r g
abbrev Qb:dn:=kl (qb M a) (rq M a r) (Kj M a r g) (cat Tryz.f55 (pn 130344)) w::(Kj M a r g)
def ahV:AS:=⟨[(6,iI o),(7,iI 0),(9,.sl (lm aZ v4.1)),(11,.sl (lm aZ v5.1)),(13,iI j)],[],[],[]⟩
def aiz:AS:=⟨[(6,iI d),(7,iI t),(11,.sl (lm aZ v5.1)),(16,iI f)],[],[],[]⟩
def acY:AS:=⟨[(6,iI d),(7,iI c),(11,.sl (lm aZ v5.1)),(15,iI b),(16,iI f),(59,.bool q)],[],[],[]⟩
def Ue:AS:=⟨[(6,iI d),(7,iI c),(11,.sl (lm aZ v5.1)),(15,iI b),(16,iI f)],[],[],[]⟩
def Ni:AS:=⟨[(6,iI d),(7,iI c),(11,.sl (lm aZ v5.1)),(15,iI b)],[],[],[]⟩
def Ti:AS:=⟨[(6,iI d),(7,iI 0),(9,.sl (lm aZ v4.1)),(11,.sl (lm aZ v5.1)),(12,iI i)],[],[],[]⟩
abbrev LH:Prop:=∀{d:Int} {i:Int},x d i=some r→LP (qb M a) (rq M a r) Km (cat Tryz.f55 (pn 1012)) u (Ti v4 v5 d i)
abbrev sA:Prop:=∀{c:Int} {b:Int},l c b=some r→LP (qb M a) (rq M a r) Hw (cat Tryz.f55 (pn 2036)) g (Ni v5 d c b)
abbrev Jw:Prop:=∀{f:Int},y f=some r→LP (qb M a) (rq M a r) (Kj M a r g) (cat Tryz.f55 (pn 130344)) w (Ue v5 d c b f)
variable{M a r A v2 z v4 v5 d i j o c b f q t u g w x l y}{K:Kn}{n:Nat}
def WE(c:ao K)(b:LH M a r v4 v5 u x)(h:zD K n v4 v5 j x o=some r):vi M a r (j7 16203 :: .b 1::Jo M a r u) (ahV v4 v5 j o):=by
 unfold zD at h;exact ag 2 (bu (b h))
def MV(c:ao K)(b:sA M a r v5 d g l)(h:AF K n v5 d f l t=some r):vi M a r (j7 65175 :: .b 3::Lp M a r g) (aiz v5 d f t):=by
 unfold AF at h;exact ag 2 (bu (b h))
def NW(s:ao K)(m:sA M a r v5 d g l)(t:Jw M a r v5 d c b g w y)(h:ra K n v5 d c b f l y q=some r):vi M a r (j7 521377::j7 260689::Qb M a r g w) (acY v5 d c b f q):=by
 unfold ra at h;obtain⟨i,h⟩|⟨i,h⟩:=am h
 ·exact ah 59 i (ag 5 (bu (t h)))
 ·refine ah 59 i (xg 4 5 3 7 (ai 3 ?_));obtain⟨o,h⟩:=aD h;refine au (jp aZ v5.1 b f 159 (.tmp 62) (some (.tmp 63)) (some (.tmp 64)) 65 (e:=165) (sz:=62) (by kernel_rfl) (by kernel_rfl) (by kernel_rfl) (by kernel_rfl) (by kernel_rfl) (by kernel_rfl) (iJ) (fun k u=>by subst u;kernel_rfl) o) ?_;obtain⟨v,p,h⟩:=aw h;refine aS (EY s p) (ac (bv 3 2 ?_));obtain⟨j,h⟩|⟨j,h⟩:=am h
  ·exact ah 69 j (ag 2 (MV s m h))
  ·exact ah 69 j (ag 2 (MV s m h))
def akk(m:ao K)(i:sA M a r v5 d g l)(j:Jw M a r v5 d c b g w y)(h:yZ K n v5 d c b l y f=some r):vi M a r (j7 130344::Qb M a r g w) (Ue v5 d c b f):=by
 unfold yZ at h;refine bX 4 5 3 2 (ai 2 (au (bz aZ v5.1) (aP 5 2 ?_)));obtain⟨e,h⟩|⟨e,h⟩:=am h
 ·refine aG 51 e (aP 8 3 ?_);obtain⟨k,h⟩:=aD h;exact au (bD aZ aZ k (iJ) aT) (ac (ag 0 (NW m i j h)))
 ·exact aG 51 e (ac (ag 0 (NW m i j h)))
def aiL(f:ao K)(e:sA M a r v5 d g l)(m:Nat):Jw M a r v5 d c b g m (zB K n v5 d c b l m):=by
 induction m with
 | zero=>exact fun h=>nomatch h
 | succ m i=>exact fun h=>bp (akk f e i h)
def Z3(i:ao K)(f:sA M a r v5 d g l)(h:wb K n v5 d l c b=some r):vi M a r (j7 2036::Lp M a r g) (Ni v5 d c b):=by
 unfold wb at h;refine bX 4 5 3 2 (ai 2 (au (bz aZ v5.1) (ac ?_)));obtain⟨e,h⟩|⟨e,h⟩:=am h
 ·exact ah 44 e (ag 7 (cc (p:=pn 65172) n (aiL i f n h)))
 ·refine ah 44 e (aL 8 ?_);cases h;exact jj
def abo(b:ao K)(m:Nat):sA M a r v5 d m (yO K n v5 d m):=by
 induction m with
 | zero=>exact fun h=>nomatch h
 | succ m c=>exact fun h=>bp (Z3 b c h)
def aen(c:ao K)(f:LH M a r v4 v5 u x)(h:ya K n v4 v5 x d i=some r):vi M a r (j7 1012::Jo M a r u) (Ti v4 v5 d i):=by
 unfold ya at h;refine bX 4 5 3 2 (ai 2 (au (bz aZ v4.1) (ac ?_)));obtain⟨m,h⟩|⟨m,h⟩:=am h
 ·refine ah 27 m (cd (ks':=j7 8100::j7 8101 :: .b 1::Jo M a r u) 4 (ai 2 ?_));obtain⟨j,o,h⟩:=aw h;refine aS (HX c o) (ac (bX 4 5 3 2 (ai 3 ?_)));obtain⟨g,h⟩:=aD h;refine au (jp aZ v4.1 i j 159 (.tmp 31) (some (.tmp 32)) (some (.tmp 33)) 34 (e:=165) (sz:=62) (by kernel_rfl) (by kernel_rfl) (by kernel_rfl) (by kernel_rfl) (by kernel_rfl) (by kernel_rfl) (iJ) (fun k q=>by subst q;kernel_rfl) g) ?_;obtain⟨s,l,h⟩:=aw h;refine aS (EY c l) (ac (bv 3 2 ?_));obtain⟨b,h⟩|⟨b,h⟩:=am h
  ·exact ah 38 b (ag 2 (WE c f h))
  ·exact ah 38 b (ag 2 (WE c f h))
 ·exact ah 27 m (ag 9 (cc (p:=pn 1018) n (abo c n h)))
def ak8(b:ao K)(m:Nat):LH M a r v4 v5 m (Ac K n v4 v5 m):=by
 induction m with
 | zero=>exact fun h=>nomatch h
 | succ m c=>exact fun h=>bp (aen b c h)
def Zo(b:ao K)(h:xh K n A v2 z=some r):ba bb 55 [.sl (lm aM A),.agg (aI v2),.agg (bP z)] (fun v _=>v=.tup [iI r.1,iI r.2]):=by
 refine bI (cat Tryz.f55 (pn 1)) Tryz.func55 Tryz.ntmps55 fun M a=>(bn ⟨[(0,.sl (lm aM A)),(1,.agg (aI v2)),(2,.agg (bP z))],[],[],[]⟩ ?_);unfold xh at h;refine ay 14 15 5 (ai 1 (n6 5 5 (bP z) (po 113 #[(.tmp 5),(.tmp 8)] [.cptr (bP z),.ptr 8 0] (Hd 400008 8 0 3 1 ?_))));obtain⟨v4,c,h⟩:=aw h;refine kA 400008 9 [(8,1)] (adU b c) (ac (ay 6 7 3 (ai 1 (po 114 #[(.tmp 10),(.tmp 8)] [.ptr 10 0,.ptr 8 0] ?_))));obtain⟨v5,d,h⟩:=aw h;exact kA 400008 9 [(10,1),(8,2)] (akF b d) (ac (ag 4 (cc (p:=pn 506) n (ak8 b n h))))
end
section
variable[GS](M:Nat→Prop)(c:aC)(r:Int×Int)(a:dO)(v2:aR)(b:bB)  
variable{M c r a v2 b}{K:Kn}{n:Nat}
def Xp(e:ao K)(h:Aa K n a v2 b=some r):ba bb 54 [.sl (lm aM a),.agg (aI v2),.cptr (bP b)] (fun v _=>v=.tup [iI r.1,iI r.2]):=by
 refine bI (cat Tryz.f54 (pn 1)) Tryz.func54 Tryz.ntmps54 fun M c=>(bn ⟨[(0,.sl (lm aM a)),(1,.agg (aI v2)),(2,.cptr (bP b))],[],[],[]⟩ ?_);unfold Aa at h;refine ay 6 7 3 (ai 3 ?_);obtain⟨v4,d,h⟩:=aw h;refine aS (Zo e d) (ac (aL 1 ?_));cases h;exact jj
end
section
variable[GS](M:Nat→Prop)(b:aC)(r:bB)(a v2:Bool)  
variable{M b r a v2}{K:Kn}{n:Nat}
def On(a v2:Bool):∀d:Nat,nz [(2,[eI 36 a]),(3,[eI 37 v2]),(4,[.fno 43 [.ptr 2 0,.ptr 5 0,.ptr 3 0],.fno 48 [.ptr 5 0],.fno 52 [.ptr 5 0],.fno 54 [.ptr 5 0]]),(5,[.fno 43 [.ptr 2 0,.ptr 5 0,.ptr 3 0],.fno 48 [.ptr 5 0],.fno 52 [.ptr 5 0],.fno 54 [.ptr 5 0]])] 5 [.fno 43 [.ptr 2 0,.ptr 5 0,.ptr 3 0],.fno 48 [.ptr 5 0],.fno 52 [.ptr 5 0],.fno 54 [.ptr 5 0]] d=bP (cR d a v2)
 | 0=>rfl
 | d+1=>by
   show lm (stepT [(2,[eI 36 a]),(3,[eI 37 v2]),(4,[.fno 43 [.ptr 2 0,.ptr 5 0,.ptr 3 0],.fno 48 [.ptr 5 0],.fno 52 [.ptr 5 0],.fno 54 [.ptr 5 0]]),(5,[.fno 43 [.ptr 2 0,.ptr 5 0,.ptr 3 0],.fno 48 [.ptr 5 0],.fno 52 [.ptr 5 0],.fno 54 [.ptr 5 0]])] 5 (nz [(2,[eI 36 a]),(3,[eI 37 v2]),(4,[.fno 43 [.ptr 2 0,.ptr 5 0,.ptr 3 0],.fno 48 [.ptr 5 0],.fno 52 [.ptr 5 0],.fno 54 [.ptr 5 0]]),(5,[.fno 43 [.ptr 2 0,.ptr 5 0,.ptr 3 0],.fno 48 [.ptr 5 0],.fno 52 [.ptr 5 0],.fno 54 [.ptr 5 0]])] 5 [.fno 43 [.ptr 2 0,.ptr 5 0,.ptr 3 0],.fno 48 [.ptr 5 0],.fno 52 [.ptr 5 0],.fno 54 [.ptr 5 0]] d)) [.fno 43 [.ptr 2 0,.ptr 5 0,.ptr 3 0],.fno 48 [.ptr 5 0],.fno 52 [.ptr 5 0],.fno 54 [.ptr 5 0]]=_;rw[On a v2 d];rfl
def Ho(c:ao K)(h:oc K n a v2=some r):ba bb 18 [eI 36 a,eI 37 v2] (fun v _=>v=.agg (bP r)):=by
 refine bI (cat Tryz.f18 (pn 1)) Tryz.func18 Tryz.ntmps18 fun M b=>(bn ⟨[(0,eI 36 a),(1,eI 37 v2)],[],[],[]⟩ ?_);unfold oc at h;refine ay 14 15 5 (ai 0 (po 43 #[(.tmp 2),(.tmp 5),(.tmp 3)] [.ptr 2 0,.ptr 5 0,.ptr 3 0] (ac (ay 2 3 1 (ai 0 (po 48 #[(.tmp 5)] [.ptr 5 0] (ac (ay 2 3 1 (ai 0 (po 52 #[(.tmp 5)] [.ptr 5 0] (ac (ay 2 3 1 (ai 0 (po 54 #[(.tmp 5)] [.ptr 5 0] (ac (aL 3 (bJ [4] [2,3,4,5] [] (bn ⟨[(4,.ptr 4 0)],[(2,[eI 36 a]),(3,[eI 37 v2]),(4,[.fno 43 [.ptr 2 0,.ptr 5 0,.ptr 3 0],.fno 48 [.ptr 5 0],.fno 52 [.ptr 5 0],.fno 54 [.ptr 5 0]]),(5,[.fno 43 [.ptr 2 0,.ptr 5 0,.ptr 3 0],.fno 48 [.ptr 5 0],.fno 52 [.ptr 5 0],.fno 54 [.ptr 5 0]])],[],[2,3,4,5]⟩ (ad4 4 4 5 n (akb (s':=⟨[(4,.ptr 4 0)],[(4,bP (cR n a v2))],[],[4]⟩) (congrArg (fun t=>(⟨[(4,.ptr 4 0)],[(4,t)],[],[4]⟩:AS)) (On a v2 n)) ?_))))))))))))))))))));cases h;exact bA
end
section
variable[GS](M:Nat→Prop)(b:aC)(r:Bool)(a v2:ab)  
variable{M b r a v2}{K:Kn}{n:Nat}
def acH(d:ao K)(h:xi K n a v2=some r):ba bb 65 [.agg (az a),.cptr (az v2)] (fun v _=>v=.bool r):=by
 refine bI (cat Tryz.f65 (pn 1)) Tryz.func65 Tryz.ntmps65 fun M b=>(bn ⟨[(0,.agg (az a)),(1,.cptr (az v2))],[],[],[]⟩ ?_);unfold xi at h;refine ay 6 7 3 (ai 2 ?_);obtain⟨e,c,h⟩:=aw h;refine aS (d.Df c) (ac (aL 1 ?_));cases h;exact bA
end
section
variable[GS](M:Nat→Prop)(a:aC)(r:Bool)(b v2:ab)(v5:Bool)  
abbrev WI(n:Nat):aq:=.c (cat Tryz.f28 (pn n))
abbrev ahx:Cx:=⟨bb,14,M,a⟩
abbrev q28:=bodyPost bb Tryz.f28 (bR M a (fun v _=>v=.bool r))
abbrev WV(b:dn)(s:AS):=VE (ahx M a) (q28 M a r) b .normal s
def aea:AS:=⟨[(4,.bool v5)],[],[],[]⟩
variable{M a r b v2 v5}{K:Kn}{n:Nat}
def VS(b:ao K)(h:z7 K n v5=some r):WV M a r [WI 7] (aea v5):=by
 unfold z7 at h;refine aL 1 ?_;cases h;exact bA
def PR(c:ao K)(h:rf K n b v2=some r):ba bb 28 [.agg (az b),.agg (az v2)] (fun v _=>v=.bool r):=by
 refine bI (cat Tryz.f28 (pn 1)) Tryz.func28 Tryz.ntmps28 fun M a=>(bn ⟨[(0,.agg (az b)),(1,.agg (az v2))],[],[],[]⟩ ?_);unfold rf at h;refine ay 6 7 3 (ai 2 ?_);obtain⟨g,e,h⟩:=aw h;refine aS (D4 c e) (aP 4 1 ?_);obtain⟨d,h⟩|⟨d,h⟩:=am h
 ·exact aG 8 d (ac (ag 0 (VS c h)))
 ·refine aG 8 d (aP 6 2 (n6 3 3 (az v2) (sg 65 #[(.tmp 3)] [.cptr (az v2)] ?_)));obtain⟨v4,f,h⟩:=aw h;exact aS (MD c f) (ac (ag 0 (VS c h)))
end
section
variable[GS](M:Nat→Prop)(a:aC)(r b:ae)(v2:c6)(v4:Int)(v5:c6)(c:Nat)(d:Int→c6→Option ae)
abbrev Ia:Cx:=⟨bb,26,M,a⟩
abbrev KY:=bodyPost bb Tryz.f73 (bR M a (fun v s=>v=.agg (List.set (aH ({ r with Kids:=[] }:ae)) 66 (.ref 1006))∧look 1006 s.r=some (bt r.Kids)))
abbrev adc(b:dn)(s:AS):=VE (Ia M a) (KY M a r) b .normal s
abbrev VM(n:Nat):aq:=.c (cat Tryz.f73 (pn n))
abbrev JE:dn:=[.b 0,VM 15]
abbrev adu:dn:=kl (Ia M a) (KY M a r) JE (cat Tryz.f73 (pn 116)) c::JE
def PN:AS:=⟨[(1,.ptr 1 0),(2,.ptr 2 0),(10,iI (v2.length:Int)),(11,iI v4)],[(1,List.set (aH ({ b with Kids:=[] }:ae)) 66 (.ref 1006)),(2,List.set (aH bV) 66 (.nils))],[(1006,(bt v5))],[1,2,1006]⟩
abbrev P9:Prop:=∀{v4:Int} {v5:c6},d v4 v5=some r→LP (Ia M a) (KY M a r) JE (cat Tryz.f73 (pn 116)) c (PN b v2 v4 v5)
variable{M a r b v2 v4 v5 c d}{K:Kn}{n:Nat}
def acz(k:ao K)(g:P9 M a r b v2 c d)(h:Be K n b v2 d v4 v5=some r):adc M a r (VM 116::adu M a r c) (PN b v2 v4 v5):=by
 unfold Be at h;refine ay 6 7 3 ?_;obtain⟨e,h⟩|⟨e,h⟩:=am h
 ·refine ah 12 e (EK 9 1 3 6 (bJ [1,2,3,10,11] [1,2] [1006] ?_));obtain⟨i,h⟩:=aD h;obtain⟨v6,j,h⟩:=aw h;obtain⟨f,h⟩:=aD h;exact bQ 1 (nu 14 [.ptr 1 66,.ref 1006,iI v4,.ptr 1 66,.ref 1006,iI v4,.eptr 1006 67 (v4.toNat) 0,.agg (aH (gD v5 v4)),.agg (aH v6),.eptr 1006 67 (v4.toNat) 0]) [] [] [eC 1006 ⟨44,67,lm aQ (List.set v5 v4.toNat v6)⟩] (av (vz 6) (bi (cF 1006 67 aQ (L:=v5) i) (bi (bK 44 0 aQ aH (bE f).2 (dP)) (aj (cj 0 1 22 (k.yx j)) (bi (cF 1006 67 aQ (L:=v5) f) (aj (dm (m:=0) (dF 1006 44 67 0 aQ aH v6 (bE f).2 (dP))) bS)))))) (ag 2 (bu (g h)))
 ·refine ah 12 e (aL 8 ?_);cases h;exact eO
def YL(c:ao K)(m:Nat):P9 M a r b v2 m (zx K n b v2 m):=by
 induction m with
 | zero=>exact fun h=>nomatch h
 | succ m d=>exact fun h=>bp (acz c d h)
def So(c:ao K)(h:sJ K n b=some r):ba bb 73 [.agg (aH b)] (fun v s=>v=.agg (List.set (aH ({ r with Kids:=[] }:ae)) 66 (.ref 1006))∧look 1006 s.r=some (bt r.Kids)):=by
 refine bI (cat Tryz.f73 (pn 1)) Tryz.func73 Tryz.ntmps73 fun M a=>(bn ⟨[(0,.agg (aH b))],[],[],[]⟩ ?_);unfold sJ at h;refine ay 6 7 3 (ai 2 ?_);obtain⟨v2,d,h⟩:=aw h;exact eZ 1006 (GT c d) (fa 5) (ac (bX 4 5 3 2 (ai 2 (au (bz aQ v2) (ac (ag 1 (cc (p:=pn 58) n (YL c n h))))))))
end
section
variable[GS](M:Nat→Prop)(b:aC)(r a:b7)  
variable{M b r a}{K:Kn}{n:Nat}
def aly(f:ao K)(h:xk K n a=some r):ba bb 95 [.sl (lm (ak .i64) a)] (fun v s=>v=.ref 5∧look 5 s.r=some (bf r)):=by
 refine bI (cat Tryz.f95 (pn 1)) Tryz.func95 Tryz.ntmps95 fun M b=>(bn ⟨[(0,.sl (lm (ak .i64) a))],[],[],[]⟩ ?_);unfold xk at h;refine bX 12 13 7 4 (ai 1 ?_);refine MS (aY Tryz.f95 (pn 12) 1) (.eql) 72 72 (.tmp 3) (.const (.slice none 0 0)) 4 (lm (ak .i64) a) (r:=aW Tryz.f95 (pn 12) 2) (e:=3) (by kernel_rfl) (by kernel_rfl) (by kernel_rfl) (by kernel_rfl) (by kernel_rfl) (by kernel_rfl) (by kernel_rfl) (by kernel_rfl) (fun d=>?_) ?_
 ·have h:=Oh (by simpa using d) h;refine ac (aL 5 (fb 5 2 3 1 ?_));cases h;exact eO
 ·have h:=VD h;refine ac (fO 2 3 3 (ai 0 (BU 72 5 (e:=3) (sz:=1) (aP 2 1 ?_))));obtain⟨c,h⟩:=aD h;refine au (cA 7 5 3 1 (ak .i64) (rfl) aT c) (ac (aL 1 ?_));cases h;exact eO
end
section
variable[GS](M:Nat→Prop)(c:aC)(r:Unit)(b:ib)(v2:ab)(f:b7)(v4:Bool)(v6:b7)(a:Int)(d:Bool)(e:Nat)(g:Int→Option Unit)
abbrev HA:Cx:=⟨bb,53,M,c⟩
abbrev F4:=bodyPost bb Tryz.f76 (bR M c (fun v _=>v=nZ r))
abbrev CM(a:dn)(s:AS):=VE (HA M c) (F4 M c r) a .normal s
abbrev mB(n:Nat):aq:=.c (cat Tryz.f76 (pn n))
abbrev Jn:dn:=[.b 0]
abbrev I7:dn:=kl (HA M c) (F4 M c r) Jn (cat Tryz.f76 (pn 60)) e::Jn
def abY:AS:=⟨[(2,.sl (lm (ak .i64) v6)),(3,.ptr 3 0),(7,.ptr 7 0),(24,.sl (lm aM v2.Kids)),(25,iI (v2.Kids.length:Int)),(26,iI a),(43,.bool d)],[(3,pj b),(7,az (gD v2.Kids a))],[],[3,7]⟩
def Qq:AS:=⟨[(2,.sl (lm (ak .i64) v6)),(3,.ptr 3 0),(24,.sl (lm aM v2.Kids)),(25,iI (v2.Kids.length:Int)),(26,iI a)],[(3,pj b)],[],[3]⟩
def YE:AS:=⟨[(2,.sl (lm (ak .i64) v6)),(3,.ptr 3 0),(4,.ptr 4 0)],[(3,pj b),(4,az v2)],[],[3,4]⟩
def afp:AS:=⟨[(2,.sl (lm (ak .i64) f)),(3,.ptr 3 0),(4,.ptr 4 0),(16,.bool v4)],[(3,pj b),(4,az v2)],[],[3,4]⟩
abbrev Hi:Prop:=∀{a:Int},g a=some r→LP (HA M c) (F4 M c r) Jn (cat Tryz.f76 (pn 60)) e (Qq b v2 v6 a)
variable{M c r b v2 f v4 v6 a d e g}{K:Kn}{n:Nat}
def IZ(k:ao K)(j:Hi M c r b v2 v6 e g)(h:pV K n b v2 v6 a g d=some r):CM M c r (mB 7781::mB 3891 :: .b 1::mB 487::I7 M c r e) (abY b v2 v6 a d):=by
 unfold pV at h;obtain⟨f,h⟩|⟨f,h⟩:=am h
 ·refine ah 43 f ?_;cases h
 ·refine ah 43 f (cd (ks':=mB 3891 :: .b 1::mB 487::I7 M c r e) 2 (ai 3 ?_));obtain⟨l,i,h⟩:=aw h;exact aS (k.rP i) (ac (ag 2 (bu (j h))))
def adF(l:ao K)(j:Hi M c r b v2 v6 e g)(h:BV K n b v2 v6 g a=some r):CM M c r (mB 60::I7 M c r e) (Qq b v2 v6 a):=by
 unfold BV at h;refine ay 6 7 3 ?_;obtain⟨d,h⟩|⟨d,h⟩:=am h
 ·refine ah 27 d (cQ 8 9 1 3 5 (ai 0 ?_));obtain⟨k,h⟩:=aD h;refine au (bD aM az k (fE) (dV)) (ac (bX 4 5 3 2 (ai 4 ?_)));obtain⟨f,h⟩|⟨f,h⟩:=am h
  ·refine aG 33 f (aP 9 5 ?_);obtain⟨i,h⟩|⟨i,h⟩:=am h
   ·exact aG 38 i (ac (ag 0 (IZ l j h)))
   ·exact aG 38 i (ac (ag 0 (IZ l j h)))
  ·exact aG 33 f (ac (ag 0 (IZ l j h)))
 ·refine ah 27 d (cd (ks':=[]) 5 (uh ?_));cases h;exact jj
def ZP(a:ao K)(m:Nat):Hi M c r b v2 v6 m (sU K n b v2 v6 m):=by
 induction m with
 | zero=>exact fun h=>nomatch h
 | succ m d=>exact fun h=>bp (adF a d h)
def UB(a:ao K)(h:vt K n b v2 v6=some r):CM M c r [mB 7] (YE b v2 v6):=by
 unfold vt at h;exact ay 2 3 1 (ai 2 (au (bz aM v2.Kids) (ac (ag 1 (cc (p:=pn 30) n (ZP a n h))))))
def M1(d:ao K)(h:su K n b v2 f v4=some r):CM M c r [mB 13,mB 7] (afp b v2 f v4):=by
 unfold su at h;obtain⟨a,h⟩|⟨a,h⟩:=am h
 ·refine ah 16 a (bv 2 1 (bJ [2,3,4] [3,4] [] ?_));obtain⟨v5,e,h⟩:=aw h;obtain⟨g,h⟩:=aD h;exact bQ 2 (nu 17 [.sl (lm (ak .i64) f),.ref 18,.ptr 4 1,iI v2.Node,.sl (lm (ak .i64) [v2.Node])]) [] [(18,(bf v5))] [f9 22 18 ⟨3,1,lm (ak .i64) (v5++[v2.Node])⟩,ci bb 53 Tryz.f76 (pn 26) 6] (av [.v 0 2] (aj (Ks 0 1 18 (aly d e) (fa 5)) (av [.v 0 2,.v 0 2,.v 0 1] (aj (dm (m:=0) (cA 22 18 3 1 (ak .i64) (rfl) aT g)) (aj (cg 1) bS))))) (gG 18 (ag 0 (UB d h)))
 ·exact ah 16 a (ag 2 (UB d h))
def Wc(d:ao K)(h:oV K n b v2 f=some r):ba bb 76 [.agg (pj b),.agg (az v2),.sl (lm (ak .i64) f)] (fun v _=>v=nZ r):=by
 refine bI (cat Tryz.f76 (pn 1)) Tryz.func76 Tryz.ntmps76 fun M c=>(bn ⟨[(0,.agg (pj b)),(1,.agg (az v2)),(2,.sl (lm (ak .i64) f))],[],[],[]⟩ ?_);unfold oV at h;refine bX 12 13 7 4 (ai 4 ?_);obtain⟨a,h⟩|⟨a,h⟩:=am h
 ·exact aG 11 a (ac (ag 0 (M1 d h)))
 ·exact aG 11 a (ac (ag 0 (M1 d h)))
end
section
variable[GS](M:Nat→Prop)(e:aC)(r:ae×Int×Int×dt)(a:ab)(v2 b:Int)(v4:bB)(v5 v6:Int)(d:dt)  
abbrev L5(n:Nat):aq:=.c (cat Tryz.f35 (pn n))
variable{M e r a v2 b v4 v5 v6 d}{K:Kn}{n:Nat}[SG e][PF v4.Layout]
def UR(g:ao K)(h:nP K n a v2 b v4 v5 v6 d=some r):d8 bb 35 [.agg (az a),iI v2,iI b,.agg (bP v4)] [(af v5 v6)] (bk d) (fun v s=>v=.agg (aH r.1)∧cw s.o [(af r.2.1 r.2.2.1)]∧look 440009 s.r=some (bk r.2.2.2)):=by
 refine kn (c:=cat Tryz.f35 []) Tryz.func35 (by kernel_rfl) _ Tryz.ntmps35 (jt (by kernel_rfl)) fun M e=>(bn ⟨[(0,.agg (az a)),(1,iI v2),(2,iI b),(3,.agg (bP v4))],[(af v5 v6)],[(440009,(bk d))],[440009,440001,1440001]⟩ ?_);unfold nP at h;refine cd (ks':=[L5 14,L5 15]) 5 (bJ [1,2,4,7,8,10] [4,7,8,440001] [440009] (Gf 10 ?_));obtain⟨q,k,h⟩:=aw h;obtain⟨j,l,h⟩:=aw h;obtain⟨f,m,h⟩:=aw h;refine bQ 2 (nu 16 [.agg (az a),.ptr 4 2,.agg (aI a.Style),iI (min (max v2 0) 1048576),.agg (cu q),.agg (bP v4)]++nu 23 [.agg (List.set (aH ({ f with Kids:=[] }:ae)) 66 (.ref 23))]++nu 9 [.ptr 9 0]) [(9,List.set (aH bV) 66 (.nils))] [(23,(bt f.Kids))] [Bi (some 22) (bk j.2.2.2) [(af j.2.1 j.2.2.1)] (.agg (aH j.1)),ci bb 34 Tryz.f35 (pn 14) 9] (av [.v 0 1,.v 0 2,.v 0 2,.v 0 2] (aj (cj 0 1 20 (Fh g k)) (av [.v 0 1] (aj (Hz 0 10 (adG g l)) (aj (Ks 1 1 23 (So g m) (Ex (i:=66) (by kernel_rfl))) (aj (qy 0 2 44 9 (List.set (aH bV) 66 (.nils))) (aj (cg 1) bS))))))) (ay 6 7 3 (ai 3 (aa4 30 0 ?_)))
 obtain⟨p,o,h⟩:=aw h;refine aS (Wc g o) (ac (aL 3 (gG 23 ?_)));cases h;exact fj
end
section
variable[GS](M:Nat→Prop)(a:aC)(r:Int)(b:dt)(v2:Fv)(v4:Int)(c:Nat)(d:Int→Option Int)
abbrev JO:Cx:=⟨bb,19,M,a⟩
abbrev KP:=bodyPost bb Tryz.f77 (bR M a (fun v _=>v=iI r))
abbrev ae5(b:dn)(s:AS):=VE (JO M a) (KP M a r) b .normal s
abbrev Uv(n:Nat):aq:=.c (cat Tryz.f77 (pn n))
abbrev Gs:dn:=[.b 0,Uv 7]
abbrev Xq:dn:=kl (JO M a) (KP M a r) Gs (cat Tryz.f77 (pn 52)) c::Gs
def Tw:AS:=⟨[(0,.sl (lm aU b)),(1,.fn v2.id v2.aV),(7,iI (b.length:Int)),(8,iI v4)],[],[],[]⟩
abbrev Wp:Prop:=∀{v4:Int},d v4=some r→LP (JO M a) (KP M a r) Gs (cat Tryz.f77 (pn 52)) c (Tw b v2 v4)
variable{M a r b v2 v4 c d}{K:Kn}{n:Nat}
def aeu(k:ao K)(g:Wp M a r b v2 c d)(h:Eh K n b v2 d v4=some r):ae5 M a r (Uv 52::Xq M a r c) (Tw b v2 v4):=by
 unfold Eh at h;refine ay 6 7 3 ?_;obtain⟨e,h⟩|⟨e,h⟩:=am h
 ·refine ah 9 e (cQ 18 19 1 3 7 (ai 3 ?_));obtain⟨i,h⟩:=aD h;refine au (bD aU aU i (Du) aT) (aP 5 1 ?_);obtain⟨v5,j,h⟩:=aw h;refine lS (k.vc j) (ac ?_);obtain⟨f,h⟩|⟨f,h⟩:=am h
  ·refine ah 16 f (aL 9 ?_);cases h;exact bA
  ·exact ah 16 f (ag 4 (bu (g h)))
 ·refine ah 9 e (aL 8 ?_);cases h;exact bA
def akf(c:ao K)(m:Nat):Wp M a r b v2 m (wV K n b v2 m):=by
 induction m with
 | zero=>exact fun h=>nomatch h
 | succ m d=>exact fun h=>bp (aeu c d h)
def akx(c:ao K)(h:CJ K n b v2=some r):ba bb 77 [.sl (lm aU b),.fn v2.id v2.aV] (fun v _=>v=iI r):=by
 refine bI (cat Tryz.f77 (pn 1)) Tryz.func77 Tryz.ntmps77 fun M a=>(bn ⟨[(0,.sl (lm aU b)),(1,.fn v2.id v2.aV)],[],[],[]⟩ ?_);unfold CJ at h;exact bX 12 13 7 4 (ai 1 (au (bz aU b) (ac (ag 1 (cc (p:=pn 26) n (akf c n h))))))
end
section
variable[GS](M:Nat→Prop)(b:aC)(r:Bool)(a:dt)(v2:Fv)  
variable{M b r a v2}{K:Kn}{n:Nat}
def afU(d:ao K)(h:wP K n a v2=some r):ba bb 38 [.sl (lm aU a),.fn v2.id v2.aV] (fun v _=>v=.bool r):=by
 refine bI (cat Tryz.f38 (pn 1)) Tryz.func38 Tryz.ntmps38 fun M b=>(bn ⟨[(0,.sl (lm aU a)),(1,.fn v2.id v2.aV)],[],[],[]⟩ ?_);unfold wP at h;refine ay 6 7 3 (ai 2 ?_);obtain⟨e,c,h⟩:=aw h;refine aS (akx d c) (ac (aL 1 ?_));cases h;exact bA
end
section
variable[GS](M:Nat→Prop)(a:aC)(r:Bool)(b v2:aA)(v4:Bool)  
abbrev afs(n:Nat):aq:=.c (cat Tryz.f39 (pn n))
abbrev Y5:Cx:=⟨bb,16,M,a⟩
abbrev q39:=bodyPost bb Tryz.f39 (bR M a (fun v _=>v=.bool r))
abbrev alb(b:dn)(s:AS):=VE (Y5 M a) (q39 M a r) b .normal s
def aiv:AS:=⟨[(3,.bool v4)],[],[],[]⟩
variable{M a r b v2 v4}{K:Kn}{n:Nat}
def QF(b:ao K)(h:DP K n v4=some r):alb M a r [afs 7] (aiv v4):=by
 unfold DP at h;refine aL 1 ?_;cases h;exact bA
def ajP(d:ao K)(h:Ap K n b v2=some r):ba bb 39 [.agg (aU b),.cptr (aU v2)] (fun v _=>v=.bool r):=by
 refine bI (cat Tryz.f39 (pn 1)) Tryz.func39 Tryz.ntmps39 fun M a=>(bn ⟨[(0,.agg (aU b)),(1,.cptr (aU v2))],[],[],[]⟩ ?_);unfold Ap at h;refine ay 6 7 3 (ai 6 ?_);obtain⟨c,h⟩|⟨c,h⟩:=am h
 ·refine aG 9 c (aP 10 4 ?_);obtain⟨f,e,h⟩:=aw h;exact aS (D4 d e) (ac (ag 0 (QF d h)))
 ·exact aG 9 c (ac (ag 0 (QF d h)))
end
section
variable[GS](M:Nat→Prop)(e:aC)(r:ae×Int×Int×dt)(f:ab)(v2 o v4 v5:Int)(v6:dt)(a:ae×Int×Int×dt)(b:Int)(d:dt)(j:Bool)(k:dt)(g:Nat)(l:Int→dt→Option g6)
abbrev Lm:Cx:=⟨bb,60,M,e⟩
abbrev FW:=bodyPost bb Tryz.f12 (bR M e (fun v s=>v=.agg (aH r.1)∧cw s.o [(af r.2.1 r.2.2.1)]∧look 440009 s.r=some (bk r.2.2.2)))
abbrev J7(a:dn)(s:AS):=VE (Lm M e) (FW M e r) a .normal s
abbrev pI(n:Nat):aq:=.c (cat Tryz.f12 (pn n))
abbrev KO:dn:=[.b 0,pI 63]
abbrev Im:dn:=kl (Lm M e) (FW M e r) KO (cat Tryz.f12 (pn 500)) g::KO
def aaG:AS:=⟨[(0,.adr GS.g 0),(5,.ptr 5 0),(8,.ptr 8 0),(9,.ptr 9 0),(10,.ref 2010),(32,.ref 440009),(33,iI (a.2.2.2.length:Int)),(34,iI b)],[(5,az f),(8,List.set (aH bV) 66 (.nils)),(9,aH a.1),(af a.2.1 a.2.2.1)],[(2010,(bk k)),(440009,(bk a.2.2.2))],[5,8,9,440001,2010,440009,1440001,440001]⟩
def acD:AS:=⟨[(0,.adr GS.g 0),(5,.ptr 5 0),(8,.ptr 8 0),(9,.ptr 9 0),(10,.ref 2010),(12,.cptr (aU (gD a.2.2.2 b))),(32,.ref 440009),(33,iI (a.2.2.2.length:Int)),(34,iI b),(48,.bool j)],[(5,az f),(8,List.set (aH bV) 66 (.nils)),(9,aH a.1),(af a.2.1 a.2.2.1)],[(2010,(bk d)),(440009,(bk a.2.2.2))],[5,8,9,440001,2010,440009,1440001,440001]⟩
def OQ:AS:=⟨[(0,.adr GS.g 0),(5,.ptr 5 0),(8,.ptr 8 0),(9,.ptr 9 0),(10,.ref 2010),(32,.ref 440009),(33,iI (a.2.2.2.length:Int)),(34,iI b)],[(5,az f),(8,List.set (aH bV) 66 (.nils)),(9,aH a.1),(af a.2.1 a.2.2.1)],[(2010,(bk d)),(440009,(bk a.2.2.2))],[5,8,9,440001,2010,440009,1440001,440001]⟩
abbrev A7:Prop:=∀{b:Int} {d:dt},l b d=some r→LP (Lm M e) (FW M e r) KO (cat Tryz.f12 (pn 500)) g (OQ f a b d)
variable{M e r f v2 o v4 v5 v6 a b d j k g l}{K:Kn}{n:Nat}[SG e][RG]
def Ps(d:ao K)(c:A7 M e r f a g l)(h:yl K n f a b l k=some r):J7 M e r (.b 1::pI 4007::Im M e r g) (aaG f a b k):=by
 unfold yl at h;exact ag 2 (bu (c h))
def Sy(m:ao K)(i:A7 M e r f a g l)(h:Al K n f a b d l j=some r):J7 M e r (pI 64103 :: .b 1::pI 4007::Im M e r g) (acD f a b d j):=by
 unfold Al at h;obtain⟨c,h⟩|⟨c,h⟩:=am h
 ·refine ah 48 c (bv 2 1 (ai 3 ?_));obtain⟨k,h⟩:=aD h;exact au (cA 52 2010 64 127 aU (rfl) (Du) k) (ac (ag 0 (Ps m i h)))
 ·exact ah 48 c (ag 2 (Ps m i h))
def aku(m:ao K)(o:A7 M e r f a g l)(h:ER K n f a l b d=some r):J7 M e r (pI 500::Im M e r g) (OQ f a b d):=by
 unfold ER at h;refine ay 6 7 3 ?_;obtain⟨c,h⟩|⟨c,h⟩:=am h
 ·refine ah 35 c (cQ 8 9 1 3 5 (ai 0 ?_));obtain⟨k,h⟩:=aD h;refine au (cp 440009 127 aU k) (au (bK 64 0 aU aU (bE k).2 aT) (ac (ay 2 3 1 (ai 1 (n6 12 12 (aU (gD a.2.2.2 b)) (sg 39 #[(.tmp 12)] [.cptr (aU (gD a.2.2.2 b))] ?_))))));obtain⟨t,p,h⟩:=aw h;refine acl (afU m p) (ac (ay 2 3 1 (ai 3 ?_)));obtain⟨j,h⟩|⟨j,h⟩:=am h
  ·refine aG 43 j (aP 6 3 ?_);obtain⟨u,q,h⟩:=aw h;exact aS (PR m q) (ac (ag 0 (Sy m o h)))
  ·exact aG 43 j (ac (ag 0 (Sy m o h)))
 ·refine ah 35 c (gB 2 3 6 (ai 4 (Th 57 0 (ac (ay 2 3 1 (ai 1 ?_))))));obtain⟨v,s,h⟩:=aw h;refine eZ 1059 (CQ m s) (Ex (i:=66) (by kernel_rfl)) (ac (aL 1 (bJ [8] [8,440001] [1059,2010] (qN 2010 440009 (gG 1059 ?_)))));cases h;exact fj
def agC(b:ao K)(m:Nat):A7 M e r f a m (tF K n f a m):=by
 induction m with
 | zero=>exact fun h=>nomatch h
 | succ m c=>exact fun h=>bp (aku b c h)
def CR(b:ao K)(h:qw K n f v2 o v4 v5 v6=some r):d8 bb 12 [.ptr 440001 0,.agg (az f),iI v2,iI o] [(af v4 v5)] (bk v6) (fun v s=>v=.agg (aH r.1)∧cw s.o [(af r.2.1 r.2.2.1)]∧look 440009 s.r=some (bk r.2.2.2)):=by
 refine kn (c:=cat Tryz.f12 []) Tryz.func12 (by kernel_rfl) _ Tryz.ntmps12 (jt (by kernel_rfl)) fun M e=>(bn ⟨[(0,.ptr 440001 0),(1,.agg (az f)),(2,iI v2),(3,iI o)],[(af v4 v5)],[(440009,(bk v6))],[440009,440001,1440001]⟩ ?_);unfold qw at h;refine cd (ks':=[pI 14,pI 15]) 5 (bJ [0,2,3,5,8,14] [5,8,440001] [440009] (Gf 14 (ak6 0 0 ?_)));obtain⟨i,d,h⟩:=aw h;obtain⟨a,g,h⟩:=aw h;exact bQ 2 (nu 20 [.agg (az f),iI v2,iI o,.adr GS.g 0,eI 36 true,.adr GS.g 0,eI 37 true,.agg (bP i)]++nu 9 [.ptr 9 0]) [(9,List.set (aH bV) 66 (.nils))] [] [Bi (some 28) (bk a.2.2.2) [(af a.2.1 a.2.2.1)] (.agg (aH a.1)),ci bb 60 Tryz.f12 (pn 14) 10] (av [.v 0 1,.v 0 1,.v 0 1,.v 0 2,.v 0 2,.v 0 2,.v 0 2] (aj (cj 0 1 27 (Ho b d)) (aj (Hz 0 14 (UR b g)) (aj (qy 0 2 44 9 (List.set (aH bV) 66 (.nils))) (aj (cg 1) bS))))) (bX 12 13 7 4 (ai 3 (Th 31 0 (aP 4 1 (au (bz aU a.2.2.2) (ac (ig 2 0 1 (bJ [0,5,8,9,10,32,33,34] [5,8,9,440001] [440009] (fb 2010 10 64 127 (ag 0 (cc (p:=pn 250) n (agC b n h))))))))))))
end
section
variable[GS](M:Nat→Prop)(b:aC)(r:ab)(a:Int)  
variable{M b r a}{K:Kn}{n:Nat}
def Dc(c:ao K)(h:tO K n a=some r):ba bb 33 [iI a] (fun v _=>v=.agg (az r)):=by
 refine bI (cat Tryz.f33 (pn 1)) Tryz.func33 Tryz.ntmps33 fun M b=>(bn ⟨[(0,iI a)],[],[],[]⟩ ?_);unfold tO at h;refine aL 5 (mP 2 ?_);cases h;exact bA
end
section
variable(M:Nat→Prop)(a:aC)(r b:Bool)  
abbrev abB(n:Nat):aq:=.c (cat Tryz.f10 (pn n))
abbrev aan:Cx:=⟨bb,33,M,a⟩
abbrev q10:=bodyPost bb Tryz.f10 (bR M a (fun v _=>v=.bool r))
abbrev agL(b:dn)(s:AS):=VE (aan M a) (q10 M a r) b .normal s
def Yt:AS:=⟨[(0,.bool b)],[],[],[]⟩
variable{M a r b}{K:Kn}{n:Nat}
def Cd(c:∀ [GS],ao K)(h:rH K n b=some r):agL M a r [abB 127] (Yt b):=by
 letI:GS:=⟨0,true⟩;have d:=@c ⟨0,true⟩
 unfold rH at h;refine aL 1 ?_;cases h;exact bA
def aiJ(b:∀ [GS],ao K)(h:A1 K n=some r):ba bb 10 [] (fun v _=>v=.bool r):=by
 letI:GS:=⟨0,true⟩;have c:=@b ⟨0,true⟩
 refine bI (cat Tryz.f10 (pn 1)) Tryz.func10 Tryz.ntmps10 fun M a=>(bn ⟨[],[],[],[]⟩ ?_);unfold A1 at h;refine ay 14 15 5 (ai 0 ?_);obtain⟨g,i,h⟩:=aw h;refine aS (Dc c i) ?_;obtain⟨v2,j,h⟩:=aw h;refine aS (Dc c j) (au (gz aM ([g,v2]:dO) (new:=[az g,az v2]) (by simp only[rv,zt,dV])) (aP 4 1 (Hd 400001 1 0 64 127 ?_)));obtain⟨p,k,h⟩:=aw h;refine Nu 1 400001 (fun [GS] [RG]=>(CR b k)) (ac (ay 6 7 3 (ai 0 ?_)));obtain⟨v4,l,h⟩:=aw h;refine aS (Dc c l) ?_;obtain⟨v5,m,h⟩:=aw h;refine aS (Dc c m) (au (gz aM ([v4,v5]:dO) (new:=[az v4,az v5]) (by simp only[rv,zt,dV])) (aP 4 1 ?_));obtain⟨v6,o,h⟩:=aw h;refine Nu 1 400001 (fun [GS] [RG]=>(CR b o)) (ac (ay 2 3 1 (ai 4 ?_)));obtain⟨d,h⟩|⟨d,h⟩:=am h
 ·refine aG 19 d (aP 8 4 ?_);obtain⟨e,h⟩|⟨e,h⟩:=am h
  ·refine aG 23 e (aP 13 5 ?_);obtain⟨f,h⟩|⟨f,h⟩:=am h
   ·exact aG 28 f (ac (ag 0 (Cd b h)))
   ·exact aG 28 f (ac (ag 0 (Cd b h)))
  ·exact aG 23 e (ac (ag 0 (Cd b h)))
 ·exact aG 19 d (ac (ag 0 (Cd b h)))
end
section
variable[GS](M:Nat→Prop)(a:aC)(r:Bool)(b:cI)(v2:Bool)  
abbrev aca(n:Nat):aq:=.c (cat Tryz.f72 (pn n))
abbrev ahj:Cx:=⟨bb,11,M,a⟩
abbrev q72:=bodyPost bb Tryz.f72 (bR M a (fun v _=>v=.bool r))
abbrev afH(b:dn)(s:AS):=VE (ahj M a) (q72 M a r) b .normal s
def acd:AS:=⟨[(2,.bool v2)],[],[],[]⟩
variable{M a r b v2}{K:Kn}{n:Nat}
def RK(b:ao K)(h:xL K n v2=some r):afH M a r [aca 7] (acd v2):=by
 unfold xL at h;refine aL 1 ?_;cases h;exact bA
def iC(d:ao K)(h:gh K n b=some r):ba bb 72 [.agg (gg b)] (fun v _=>v=.bool r):=by
 refine bI (cat Tryz.f72 (pn 1)) Tryz.func72 Tryz.ntmps72 fun M a=>(bn ⟨[(0,.agg (gg b))],[],[],[]⟩ ?_);unfold gh at h;refine ay 6 7 3 (ai 4 ?_);obtain⟨c,h⟩|⟨c,h⟩:=am h
 ·exact aG 6 c (ac (ag 0 (RK d h)))
 ·exact aG 6 c (ac (ag 0 (RK d h)))
end
section
variable[GS](M:Nat→Prop)(d:aC)(r:Bool)(b:ew)(v2 a:Int)(g i j k l:Bool)(e:Nat)(f:Int→Option Bool)
abbrev D5:Cx:=⟨bb,130,M,d⟩
abbrev BP:=bodyPost bb Tryz.f34 (bR M d (fun v _=>v=.bool r))
abbrev sQ(a:dn)(s:AS):=VE (D5 M d) (BP M d r) a .normal s
abbrev fY(n:Nat):aq:=.c (cat Tryz.f34 (pn n))
abbrev F1:dn:=[.b 0,fY 7]
abbrev wU:dn:=kl (D5 M d) (BP M d r) F1 (cat Tryz.f34 (pn 52)) e::F1
def ahc:AS:=⟨[(0,.sl (lm aK b)),(1,iI v2),(5,iI a),(6,.ptr 6 0),(7,iI 3),(125,.bool l)],[(6,aI ((gD b a).Style))],[],[6]⟩
def Y6:AS:=⟨[(0,.sl (lm aK b)),(1,iI v2),(5,iI a),(6,.ptr 6 0),(7,iI 2),(125,.bool k)],[(6,aI ((gD b a).Style))],[],[6]⟩
def XM:AS:=⟨[(0,.sl (lm aK b)),(1,iI v2),(5,iI a),(6,.ptr 6 0),(7,iI 1),(125,.bool j)],[(6,aI ((gD b a).Style))],[],[6]⟩
def ajw:AS:=⟨[(0,.sl (lm aK b)),(1,iI v2),(5,iI a),(6,.ptr 6 0),(7,iI 0),(125,.bool i)],[(6,aI ((gD b a).Style))],[],[6]⟩
def ag5:AS:=⟨[(0,.sl (lm aK b)),(1,iI v2),(5,iI a),(6,.ptr 6 0),(107,.bool g)],[(6,aI ((gD b a).Style))],[],[6]⟩
def PP:AS:=⟨[(0,.sl (lm aK b)),(1,iI v2),(5,iI a)],[],[],[]⟩
abbrev rm:Prop:=∀{a:Int},f a=some r→LP (D5 M d) (BP M d r) F1 (cat Tryz.f34 (pn 52)) e (PP b v2 a)
abbrev nG(m:Nat):dn:=kl (D5 M d) (BP M d r) (.b 2 :: .b 1::fY 211::wU M d r e) (cat Tryz.f34 (pn 13468)) m::(.b 2 :: .b 1::fY 211::wU M d r e)
variable{M d r b v2 a g i j k l e f}{K:Kn}{n:Nat}
def QJ(i:ao K)(g:rm M d r b v2 e f)(h:tR K n b v2 a f l=some r):sQ M d r (fY 215497 :: .b 3::fY 53875::nG M d r e 36) (ahc b v2 a l):=by
 unfold tR at h;obtain⟨c,h⟩|⟨c,h⟩:=am h
 ·refine ah 125 c (aL 13 ?_);cases h;exact bA
 ·exact ah 125 c (bC (ks':=nG M d r e 36) 4 ⟨[(0,.sl (lm aK b)),(1,iI v2),(5,iI a),(6,.ptr 6 0),(7,iI 4)],[(6,aI ((gD b a).Style))],[],[6]⟩ (bu (bp (ag 10 (bu (g h))))))
def T5(j:ao K)(i:rm M d r b v2 e f)(h:xz K n b v2 a f k=some r):sQ M d r (fY 215497 :: .b 3::fY 53875::nG M d r e 37) (Y6 b v2 a k):=by
 unfold xz at h;obtain⟨c,h⟩|⟨c,h⟩:=am h
 ·refine ah 125 c (aL 13 ?_);cases h;exact bA
 ·refine ah 125 c (bC (ks':=nG M d r e 37) 4 ⟨[(0,.sl (lm aK b)),(1,iI v2),(5,iI a),(6,.ptr 6 0),(7,iI 3)],[(6,aI ((gD b a).Style))],[],[6]⟩ (bu (bp (dI 24 25 3 7 8 (ai 4 ?_)))));obtain⟨o,l,h⟩:=aw h;refine aS (iC j l) (aP 7 2 ?_);obtain⟨g,h⟩|⟨g,h⟩:=am h
  ·exact aG 118 g (ac (ag 0 (QJ j i h)))
  ·refine aG 118 g (aP 11 4 ?_);obtain⟨p,m,h⟩:=aw h;exact aS (iC j m) (ac (ag 0 (QJ j i h)))
def Vg(k:ao K)(i:rm M d r b v2 e f)(h:zu K n b v2 a f j=some r):sQ M d r (fY 215497 :: .b 3::fY 53875::nG M d r e 38) (XM b v2 a j):=by
 unfold zu at h;obtain⟨c,h⟩|⟨c,h⟩:=am h
 ·refine ah 125 c (aL 13 ?_);cases h;exact bA
 ·refine ah 125 c (bC (ks':=nG M d r e 38) 4 ⟨[(0,.sl (lm aK b)),(1,iI v2),(5,iI a),(6,.ptr 6 0),(7,iI 2)],[(6,aI ((gD b a).Style))],[],[6]⟩ (bu (bp (dI 24 25 3 7 8 (ai 4 ?_)))));obtain⟨o,l,h⟩:=aw h;refine aS (iC k l) (aP 7 2 ?_);obtain⟨g,h⟩|⟨g,h⟩:=am h
  ·exact aG 118 g (ac (ag 0 (T5 k i h)))
  ·refine aG 118 g (aP 11 4 ?_);obtain⟨p,m,h⟩:=aw h;exact aS (iC k m) (ac (ag 0 (T5 k i h)))
def PU(k:ao K)(j:rm M d r b v2 e f)(h:y4 K n b v2 a f i=some r):sQ M d r (fY 215497 :: .b 3::fY 53875::nG M d r e 39) (ajw b v2 a i):=by
 unfold y4 at h;obtain⟨c,h⟩|⟨c,h⟩:=am h
 ·refine ah 125 c (aL 13 ?_);cases h;exact bA
 ·refine ah 125 c (bC (ks':=nG M d r e 39) 4 ⟨[(0,.sl (lm aK b)),(1,iI v2),(5,iI a),(6,.ptr 6 0),(7,iI 1)],[(6,aI ((gD b a).Style))],[],[6]⟩ (bu (bp (dI 24 25 3 7 8 (ai 4 ?_)))));obtain⟨o,l,h⟩:=aw h;refine aS (iC k l) (aP 7 2 ?_);obtain⟨g,h⟩|⟨g,h⟩:=am h
  ·exact aG 118 g (ac (ag 0 (Vg k j h)))
  ·refine aG 118 g (aP 11 4 ?_);obtain⟨p,m,h⟩:=aw h;exact aS (iC k m) (ac (ag 0 (Vg k j h)))
def g8(l:ao K)(k:rm M d r b v2 e f)(h:fz K n b v2 a f g=some r):sQ M d r (fY 3365::fY 1683 :: .b 1::fY 211::wU M d r e) (ag5 b v2 a g):=by
 unfold fz at h;obtain⟨i,h⟩|⟨i,h⟩:=am h
 ·refine ah 107 i (aL 10 ?_);cases h;exact bA
 ·refine ah 107 i (bC (ks':=fY 6734 :: .b 2 :: .b 1::fY 211::wU M d r e) 5 ⟨[(0,.sl (lm aK b)),(1,iI v2),(5,iI a),(6,.ptr 6 0),(7,iI 0)],[(6,aI ((gD b a).Style))],[],[6]⟩ (ox 40 (c:=cat Tryz.f34 [1,0,1,0,0,1,0,0,1,1,1,0,0]) (by kernel_rfl) (bp (cd (ks':=fY 215496::fY 215497 :: .b 3::fY 53875::nG M d r e 39) 8 (ai 4 ?_)))));obtain⟨p,m,h⟩:=aw h;refine aS (iC l m) (aP 7 2 ?_);obtain⟨j,h⟩|⟨j,h⟩:=am h
  ·exact aG 118 j (ac (ag 0 (PU l k h)))
  ·refine aG 118 j (aP 11 4 ?_);obtain⟨q,o,h⟩:=aw h;exact aS (iC l o) (ac (ag 0 (PU l k h)))
def ZO(g:ao K)(c:rm M d r b v2 e f)(h:nS K n b v2 f a=some r):sQ M d r (fY 52::wU M d r e) (PP b v2 a):=by
 unfold nS at h;refine bX 4 5 3 2 (ai 2 (au (bz aK b) (ac ?_)));obtain⟨i,h⟩|⟨i,h⟩:=am h
 ·refine ah 11 i (cQ 8 9 1 3 5 (ai 2 ?_));obtain⟨A,h⟩:=aD h;refine au (bD aK aK A (dE) aT) (ac (bX 4 5 3 2 (ai 2 ?_)));obtain⟨B,h⟩:=aD h;refine au (bD aK aK B (dE) aT) (aP 8 5 ?_);obtain⟨j,h⟩|⟨j,h⟩:=am h
  ·exact aG 26 j (ac (ag 0 (g8 g c h)))
  ·refine aG 26 j (aP 10 2 ?_);obtain⟨J,C,h⟩:=aw h;refine aS (iC g C) (aP 14 3 ?_);obtain⟨k,h⟩|⟨k,h⟩:=am h
   ·exact aG 32 k (ac (ag 0 (g8 g c h)))
   ·refine aG 32 k (aP 16 2 ?_);obtain⟨L,D,h⟩:=aw h;refine aS (iC g D) (aP 20 3 ?_);obtain⟨l,h⟩|⟨l,h⟩:=am h
    ·exact aG 38 l (ac (ag 0 (g8 g c h)))
    ·refine aG 38 l (aP 22 2 ?_);obtain⟨N,E,h⟩:=aw h;refine aS (iC g E) (aP 26 3 ?_);obtain⟨m,h⟩|⟨m,h⟩:=am h
     ·exact aG 44 m (ac (ag 0 (g8 g c h)))
     ·refine aG 44 m (aP 28 2 ?_);obtain⟨O,F,h⟩:=aw h;refine aS (iC g F) (aP 32 3 ?_);obtain⟨o,h⟩|⟨o,h⟩:=am h
      ·exact aG 50 o (ac (ag 0 (g8 g c h)))
      ·refine aG 50 o (aP 34 2 ?_);obtain⟨P,G,h⟩:=aw h;refine aS (iC g G) (aP 38 3 ?_);obtain⟨p,h⟩|⟨p,h⟩:=am h
       ·exact aG 56 p (ac (ag 0 (g8 g c h)))
       ·refine aG 56 p (aP 40 2 ?_);obtain⟨Q,H,h⟩:=aw h;refine aS (iC g H) (aP 44 3 ?_);obtain⟨q,h⟩|⟨q,h⟩:=am h
        ·exact aG 62 q (ac (ag 0 (g8 g c h)))
        ·refine aG 62 q (aP 46 2 ?_);obtain⟨R,I,h⟩:=aw h;refine aS (iC g I) (aP 50 3 ?_);obtain⟨s,h⟩|⟨s,h⟩:=am h
         ·exact aG 68 s (ac (ag 0 (g8 g c h)))
         ·refine aG 68 s (aP 55 5 ?_);obtain⟨t,h⟩|⟨t,h⟩:=am h
          ·exact aG 73 t (ac (ag 0 (g8 g c h)))
          ·refine aG 73 t (aP 60 5 ?_);obtain⟨u,h⟩|⟨u,h⟩:=am h
           ·exact aG 78 u (ac (ag 0 (g8 g c h)))
           ·refine aG 78 u (aP 65 5 ?_);obtain⟨v,h⟩|⟨v,h⟩:=am h
            ·exact aG 83 v (ac (ag 0 (g8 g c h)))
            ·refine aG 83 v (aP 70 5 ?_);obtain⟨w,h⟩|⟨w,h⟩:=am h
             ·exact aG 88 w (ac (ag 0 (g8 g c h)))
             ·refine aG 88 w (aP 75 5 ?_);obtain⟨x,h⟩|⟨x,h⟩:=am h
              ·exact aG 93 x (ac (ag 0 (g8 g c h)))
              ·refine aG 93 x (aP 80 5 ?_);obtain⟨y,h⟩|⟨y,h⟩:=am h
               ·exact aG 98 y (ac (ag 0 (g8 g c h)))
               ·refine aG 98 y (aP 85 5 ?_);obtain⟨z,h⟩|⟨z,h⟩:=am h
                ·exact aG 103 z (ac (ag 0 (g8 g c h)))
                ·exact aG 103 z (ac (ag 0 (g8 g c h)))
 ·refine ah 11 i (gB 2 3 6 (ai 1 (au (bz aK b) (ac (aL 1 ?_)))));cases h;exact bA
def Yn(a:ao K)(m:Nat):rm M d r b v2 m (uL K n b v2 m):=by
 induction m with
 | zero=>exact fun h=>nomatch h
 | succ m c=>exact fun h=>bp (ZO a c h)
def Pu(a:ao K)(h:wt K n b v2=some r):ba bb 34 [.sl (lm aK b),iI v2] (fun v _=>v=.bool r):=by
 refine bI (cat Tryz.f34 (pn 1)) Tryz.func34 Tryz.ntmps34 fun M d=>(bn ⟨[(0,.sl (lm aK b)),(1,iI v2)],[],[],[]⟩ ?_);unfold wt at h;exact ag 6 (cc (p:=pn 26) n (Yn a n h))
end
section
variable[GS](M:Nat→Prop)(a:aC)(r:Bool)(b:ew)(v2:List dL)(v4:Int)(e:Bool)(c:Nat)(d:Int→Option Bool)
abbrev LL:Cx:=⟨bb,31,M,a⟩
abbrev Fn:=bodyPost bb Tryz.f11 (bR M a (fun v _=>v=.bool r))
abbrev TY(b:dn)(s:AS):=VE (LL M a) (Fn M a r) b .normal s
abbrev Ip(n:Nat):aq:=.c (cat Tryz.f11 (pn n))
abbrev FM:dn:=[.b 0,Ip 7]
abbrev acI:dn:=kl (LL M a) (Fn M a r) FM (cat Tryz.f11 (pn 52)) c::FM
def acm:AS:=⟨[(4,.bool e)],[],[],[]⟩
def Va:AS:=⟨[(0,.sl (lm aK b)),(1,.sl (lm dw v2)),(7,.sl (lm dw v2)),(8,iI (v2.length:Int)),(9,iI v4)],[],[],[]⟩
abbrev O3:Prop:=∀{v4:Int},d v4=some r→LP (LL M a) (Fn M a r) FM (cat Tryz.f11 (pn 52)) c (Va b v2 v4)
variable{M a r b v2 v4 e c d}{K:Kn}{n:Nat}
def Hv(b:ao K)(h:tf K n e=some r):TY M a r [Ip 15] (acm e):=by
 unfold tf at h;refine aL 1 ?_;cases h;exact bA
def akU(g:ao K)(k:O3 M a r b v2 c d)(h:CY K n b v2 d v4=some r):TY M a r (Ip 52::acI M a r c) (Va b v2 v4):=by
 unfold CY at h;refine ay 6 7 3 ?_;obtain⟨i,h⟩|⟨i,h⟩:=am h
 ·refine ah 10 i (cQ 8 9 1 3 5 (ai 0 ?_));obtain⟨l,h⟩:=aD h;refine au (bD dw dw l (KV) aT) (ac (ay 2 3 1 (ai 3 ?_)));obtain⟨v5,m,h⟩:=aw h;refine aS (Pu g m) (ac ?_);obtain⟨j,h⟩|⟨j,h⟩:=am h
  ·refine ah 17 j (aL 9 ?_);cases h;exact bA
  ·exact ah 17 j (ag 4 (bu (k h)))
 ·refine ah 10 i (gB 2 3 6 (ai 1 ?_));obtain⟨v6,o,h⟩:=aw h;refine aS (Pu g o) (aP 3 1 ?_);obtain⟨e,h⟩|⟨e,h⟩:=am h
  ·refine aG 21 e (aP 4 1 (au (bz aK b) (aP 8 3 ?_)));obtain⟨f,h⟩|⟨f,h⟩:=am h
   ·exact aG 26 f (aP 9 1 (au (bz dw v2) (ac (ag 0 (Hv g h)))))
   ·exact aG 26 f (ac (ag 0 (Hv g h)))
  ·exact aG 21 e (ac (ag 0 (Hv g h)))
def XO(c:ao K)(m:Nat):O3 M a r b v2 m (y7 K n b v2 m):=by
 induction m with
 | zero=>exact fun h=>nomatch h
 | succ m d=>exact fun h=>bp (akU c d h)
def WK(c:ao K)(h:CW K n b v2=some r):ba bb 11 [.sl (lm aK b),.sl (lm dw v2)] (fun v _=>v=.bool r):=by
 refine bI (cat Tryz.f11 (pn 1)) Tryz.func11 Tryz.ntmps11 fun M a=>(bn ⟨[(0,.sl (lm aK b)),(1,.sl (lm dw v2))],[],[],[]⟩ ?_);unfold CW at h;exact bX 12 13 7 4 (ai 1 (au (bz dw v2) (ac (ag 1 (cc (p:=pn 26) n (XO c n h))))))
end
section
variable[GS](M:Nat→Prop)(c:aC)(r:ab×Int)(a:ew)(v2:Int)(d:Bool)(b:Int)(e:dO)(f:Bool)(g:Nat)(i:Int→dO→Option eq)
abbrev HG:Cx:=⟨bb,95,M,c⟩
abbrev LG:=bodyPost bb Tryz.f41 (bR M c (fun v s=>v=.tup [.agg (List.set (az ({ r.1 with Kids:=[] }:ab)) 58 (.ref 72)),iI r.2]∧look 72 s.r=some (bx r.1.Kids)))
abbrev HI(a:dn)(s:AS):=VE (HG M c) (LG M c r) a .normal s
abbrev qO(n:Nat):aq:=.c (cat Tryz.f41 (pn n))
abbrev JR:dn:=[.b 0,qO 127]
abbrev KH:dn:=kl (HG M c) (LG M c r) JR (cat Tryz.f41 (pn 504)) g::JR
def aab:AS:=⟨[(0,.sl (lm aK a)),(1,iI b),(4,.ptr 4 0),(6,.ptr 6 0),(7,.int .u8 ((gD a v2).Depth)),(8,.bool d),(60,.bool f)],[(4,List.set (az dd) 58 (.nils)),(6,List.set (az ({ dd with Kind:=1,Node:=(aa (10+v2)),Style:=(gD a v2).Style }:ab)) 58 (.ref 72))],[(72,(bx e))],[4,6,72]⟩
def N5:AS:=⟨[(0,.sl (lm aK a)),(1,iI b),(4,.ptr 4 0),(6,.ptr 6 0),(7,.int .u8 ((gD a v2).Depth)),(8,.bool d)],[(4,List.set (az dd) 58 (.nils)),(6,List.set (az ({ dd with Kind:=1,Node:=(aa (10+v2)),Style:=(gD a v2).Style }:ab)) 58 (.ref 72))],[(72,(bx e))],[4,6,72]⟩
def X8:AS:=⟨[(0,.sl (lm aK a)),(1,iI (aa (v2+1))),(4,.ptr 4 0),(6,.ptr 6 0),(7,.int .u8 ((gD a v2).Depth)),(8,.bool d)],[(4,List.set (az dd) 58 (.nils)),(6,List.set (az ({ dd with Kind:=1,Node:=(aa (10+v2)),Style:=(gD a v2).Style }:ab)) 58 (.nils))],[],[4,6]⟩
abbrev Ix:Prop:=∀{b:Int} {e:dO},i b e=some r→LP (HG M c) (LG M c r) JR (cat Tryz.f41 (pn 504)) g (N5 a v2 d b e)
variable{M c r a v2 d b e f g i}{K:Kn}{n:Nat}
def Qv(w:ao K)(q:Ix M c r a v2 d g i)(h:mS K n a v2 d b e i f=some r):HI M c r (qO 2017::qO 1009::KH M c r g) (aab a v2 d b e f):=by
 unfold mS at h;obtain⟨j,h⟩|⟨j,h⟩:=am h
 ·refine ah 60 j (cd (ks':=qO 8073::qO 4037 :: .b 1::KH M c r g) 6 ?_);obtain⟨l,h⟩|⟨l,h⟩:=am h
  ·refine ah 61 l (ay 4 5 2 (ai 2 ?_));obtain⟨s,t,h⟩:=aw h;refine aS (w.kV t) (ac (ay 2 3 1 (ai 3 (au (gz aM ([s.1]:dO) (new:=[az s.1]) (by simp only[rv,zt,dV])) ?_))));obtain⟨u,h⟩:=aD h;exact au (cA 72 72 48 59 aM (rfl) (fE) u) (ac (ag 5 (bu (q h))))
  ·refine ah 61 l (fO 2 3 3 (bJ [0,1,4,6,7,8] [4,6] [72] ?_));obtain⟨o,h⟩:=aD h;obtain⟨p,h⟩:=aD h;obtain⟨v,h⟩:=aD h;exact bQ 2 (nu 75 [.ptr 6 58,.ref 72,.sl (lm aK a),iI b,.cptr (aK (gD a b)),.cptr (List.drop 5 (aK (gD a b))),.agg (aI ((gD a b).Style)),.sl (lm aK a),iI b,.cptr (aK (gD a b)),.cptr (List.drop 2 (aK (gD a b))),.str ((gD a b).Text),.agg (List.set (az ({ dd with Kind:=3,Style:=(gD a b).Style,Text:=(gD a b).Text }:ab)) 58 (.nils)),.sl (lm aM [({ dd with Kind:=3,Style:=(gD a b).Style,Text:=(gD a b).Text }:ab)])]++nu 90 [.ptr 6 58]) [] [] [f9 89 72 ⟨48,59,lm aM (e++[({ dd with Kind:=3,Style:=(gD a b).Style,Text:=(gD a b).Text }:ab)])⟩,ci bb 95 Tryz.f41 (pn 8074) 16] (av [.v 0 2,.v 0 1,.v 0 2,.v 0 2] (aj (fi (lo:=0) (k:=2) (db ⟨(by kernel_rfl),(de (bD aK aK o (dE) aT) (by kernel_rfl))⟩ (db ⟨(by kernel_rfl),(de (bD aK aK o (dE) aT) (by kernel_rfl))⟩ fI))) (av [.v 0 2,.v 0 2,.v 0 2,.v 0 2] (aj (fi (lo:=0) (k:=2) (db ⟨(by kernel_rfl),(de (bD aK aK p (dE) aT) (by kernel_rfl))⟩ (db ⟨(by kernel_rfl),(de (bD aK aK p (dE) aT) (by kernel_rfl))⟩ fI))) (av [.v 0 2,.v 0 2,.v 0 2] (bi (gz aM ([({ dd with Kind:=3,Style:=(gD a b).Style,Text:=(gD a b).Text }:ab)]:dO) (new:=[az ({ dd with Kind:=3,Style:=(gD a b).Style,Text:=(gD a b).Text }:ab)]) (by simp only[rv,zt,dV])) (aj (dm (m:=0) (cA 89 72 48 59 aM (rfl) (fE) v)) (av [.v 1 1] (aj (cg 1) bS))))))))) (ag 2 (bu (q h)))
 ·refine ah 60 j (aL 8 ?_);cases h;exact qD
def aiX(l:ao K)(j:Ix M c r a v2 d g i)(h:re K n a v2 d i b e=some r):HI M c r (qO 504::KH M c r g) (N5 a v2 d b e):=by
 unfold re at h;refine bX 4 5 3 2 (ai 2 (au (bz aK a) (aP 5 2 ?_)));obtain⟨f,h⟩|⟨f,h⟩:=am h
 ·refine aG 52 f (aP 7 2 ?_);obtain⟨k,h⟩:=aD h;exact au (bD aK aK k (dE) aT) (ac (ag 0 (Qv l j h)))
 ·exact aG 52 f (ac (ag 0 (Qv l j h)))
def acL(b:ao K)(m:Nat):Ix M c r a v2 d m (nq K n a v2 d m):=by
 induction m with
 | zero=>exact fun h=>nomatch h
 | succ m e=>exact fun h=>bp (aiX b e h)
def KK(b:ao K)(h:o4 K n a v2 d=some r):HI M c r [qO 63] (X8 a v2 d):=by
 unfold o4 at h;exact ir 4 0 3 2 (bJ [0,1,4,6,7,8] [4,6] [] (ze 72 6 58 48 59 (ag 0 (cc (p:=pn 252) n (acL b n h)))))
def Yd(e:ao K)(h:o6 K n a v2=some r):ba bb 41 [.sl (lm aK a),iI v2] (fun v s=>v=.tup [.agg (List.set (az ({ r.1 with Kids:=[] }:ab)) 58 (.ref 72)),iI r.2]∧look 72 s.r=some (bx r.1.Kids)):=by
 refine bI (cat Tryz.f41 (pn 1)) Tryz.func41 Tryz.ntmps41 fun M c=>(bn ⟨[(0,.sl (lm aK a)),(1,iI v2)],[],[],[]⟩ ?_);unfold o6 at h;refine ay 6 7 3 (ai 4 ?_);obtain⟨f,h⟩:=aD h;refine au (bD aK aK f (dE) aT) (ac (ay 2 3 1 (ai 2 ?_)));obtain⟨g,h⟩:=aD h;refine au (bD aK aK g (dE) aT) (ac (ay 6 7 3 (ai 2 (au (bz aK a) (aP 5 2 ?_)))));obtain⟨b,h⟩|⟨b,h⟩:=am h
 ·refine aG 30 b (aP 7 2 ?_);obtain⟨i,h⟩:=aD h;refine au (bD aK aK i (dE) aT) (aP 14 6 ?_);obtain⟨d,h⟩|⟨d,h⟩:=am h
  ·refine aG 39 d (aP 16 2 ?_);obtain⟨j,h⟩:=aD h;exact au (bD aK aK j (dE) aT) (ac (ag 0 (KK e h)))
  ·exact aG 39 d (ac (ag 0 (KK e h)))
 ·exact aG 30 b (ac (ag 0 (KK e h)))
end
end
end Go.Proofs.YtocgkfoifehcbaaGreat

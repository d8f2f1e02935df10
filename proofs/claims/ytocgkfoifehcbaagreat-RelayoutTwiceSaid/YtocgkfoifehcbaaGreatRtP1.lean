/- The runs of the functions that RelayoutTwice reaches do what their plain forms say, part 1. Made by a program. -/
import Derived.Test.YtocgkfoifehcbaaGreatRtP0
namespace Go.Proofs.YtocgkfoifehcbaaGreat
open Go.RowKit
set_option maxRecDepth 20000
set_option linter.all false
noncomputable section
variable[GS](M:Nat→Prop)(w:aC)(r:dn×Int×Int×Int×dO)(v1:ab)(v2:Int)(u:bw)(v4 v5:Int)(v6:dO)(j:d3)(i:Int)(f:ek)(d B:ck)(E P Q a0 b0 d0:Int)(e0:Bool)(c0:Int)(b:ck)(g a:Int)(l:dn)(o q:Int)(t:dO)(z F:Int)(G:ck)(H I:Int)(x:ck)(A C y:Int)(D:dn)(J N:Int)(O:dO)(m1 m2 m3 m4:Nat)(L1:Int→ek→ck→ck→Option hH)(L2:Int→Int→dn→Int→Int→dO→Option hH)(L3:Int→ck→Int→Int→Option hH)(L4:Int→Int→Int→dn→Int→Int→dO→Option hH)
abbrev nC:Cx:=⟨bb,228,M,w⟩
abbrev mM:=bodyPost bb Tryz.f81 (bP M w (fun v s=>v=.tup [.ref 440010,iI r.2.1]∧cB s.o [(af r.2.2.1 r.2.2.2.1)]∧look 440009 s.r=some (bt r.2.2.2.2)∧look 440010 s.r=some (bx r.1)))
abbrev oW(a:dt)(s:AS):=VE (nC M w) (mM M w r) a .normal s
abbrev dq(n:Nat):aq:=.c (cat Tryz.f81 (pn n))
abbrev IG:dt:=[.b 2,dq 4095]
abbrev yv:dt:=kl (nC M w) (mM M w r) IG (cat Tryz.f81 (pn 32756)) m2::IG
abbrev Gy:dt:=[.b 0,dq 127]
abbrev yM:dt:=kl (nC M w) (mM M w r) Gy (cat Tryz.f81 (pn 1012)) m1::Gy
abbrev GZ:dt:=.b 6::dq 67085951 :: .b 3::dq 262055::yv M w r m2
abbrev H2:dt:=kl (nC M w) (mM M w r) (GZ M w r m2) (cat Tryz.f81 (pn 536687604)) m4::(GZ M w r m2)
abbrev IM:dt:=.b 4::dq 16771487 :: .b 3::dq 262055::yv M w r m2
abbrev ajN:dt:=kl (nC M w) (mM M w r) (IM M w r m2) (cat Tryz.f81 (pn 134171892)) m3::(IM M w r m2)
def WF:AS:=⟨[(1,iI v2),(3,.ptr 3 0),(5,.ptr 5 0),(8,.ref 1035),(9,.ref 38),(10,.ref 41),(11,.ref 44),(12,iI i),(15,.ptr 15 0),(16,iI c0),(45,.ref 1035),(46,iI (j.length:Int)),(47,iI i)],[(3,aB v1),(5,bO u),(15,cm (⟨0,a0,b0,P,Q⟩:bF)),(af v4 v5)],[(38,⟨176,5,lm cm f⟩),(41,⟨3,1,lm (ak .i64) (List.set d i.toNat E)⟩),(44,(bk B)),(1035,(bY j)),(440009,(bt v6))],[3,5,15,440001,38,41,44,1035,440009,1440001,440001]⟩
def XO:AS:=⟨[(1,iI v2),(3,.ptr 3 0),(5,.ptr 5 0),(8,.ref 1035),(9,.ref 38),(10,.ref 41),(11,.ref 44),(12,iI i),(13,.ptr 13 0),(14,.ptr 14 0),(15,.ptr 15 0),(16,iI d0),(17,.bool e0),(45,.ref 1035),(46,iI (j.length:Int)),(47,iI i)],[(3,aB v1),(5,bO u),(13,aB (gD j i)),(14,aH ((gD j i).Style)),(15,cm (⟨0,a0,b0,P,Q⟩:bF)),(af v4 v5)],[(38,⟨176,5,lm cm f⟩),(41,⟨3,1,lm (ak .i64) (List.set d i.toNat E)⟩),(44,(bk B)),(1035,(bY j)),(440009,(bt v6))],[3,5,13,14,15,440001,38,41,44,1035,440009,1440001,440001]⟩
def My:AS:=⟨[(1,iI v2),(5,.ptr 5 0),(8,.ref 1035),(9,.sl (lm cm f)),(10,.sl (lm (ak .i64) d)),(20,.sl (lm (ak .i64) b)),(21,.ref 220),(22,iI g),(24,iI (gD b a)),(29,iI A),(30,iI C),(128,.sl (lm (ak .i64) b)),(129,iI (b.length:Int)),(130,iI a),(166,.ref 1166),(167,iI (x.length:Int)),(168,iI y)],[(5,bO u),(af J N)],[(220,(bx D)),(1035,(bY j)),(1166,(bk x)),(440009,(bt O))],[5,440001,220,1035,1166,440009,1440001,440001]⟩
def Q9:AS:=⟨[(1,iI v2),(5,.ptr 5 0),(8,.ref 1035),(9,.sl (lm cm f)),(10,.sl (lm (ak .i64) d)),(20,.sl (lm (ak .i64) b)),(21,.ref 220),(22,iI g),(24,iI (gD b a)),(25,iI z),(26,iI F),(128,.sl (lm (ak .i64) b)),(129,iI (b.length:Int)),(130,iI a),(151,.sl (lm (ak .i64) G)),(152,iI H),(153,iI I)],[(5,bO u),(af o q)],[(220,(bx l)),(1035,(bY j)),(440009,(bt t))],[5,440001,220,1035,440009,1440001,440001]⟩
def afX:AS:=⟨[(1,iI v2),(5,.ptr 5 0),(8,.ref 1035),(9,.sl (lm cm f)),(10,.sl (lm (ak .i64) d)),(20,.sl (lm (ak .i64) b)),(21,.ref 220),(22,iI g),(24,iI (gD b a)),(25,iI z),(128,.sl (lm (ak .i64) b)),(129,iI (b.length:Int)),(130,iI a)],[(5,bO u),(af o q)],[(220,(bx l)),(1035,(bY j)),(440009,(bt t))],[5,440001,220,1035,440009,1440001,440001]⟩
def Rx:AS:=⟨[(1,iI v2),(5,.ptr 5 0),(8,.ref 1035),(9,.sl (lm cm f)),(10,.sl (lm (ak .i64) d)),(20,.sl (lm (ak .i64) b)),(21,.ref 220),(22,iI g),(128,.sl (lm (ak .i64) b)),(129,iI (b.length:Int)),(130,iI a)],[(5,bO u),(af o q)],[(220,(bx l)),(1035,(bY j)),(440009,(bt t))],[5,440001,220,1035,440009,1440001,440001]⟩
def adW:AS:=⟨[(1,iI v2),(5,.ptr 5 0),(8,.ref 1035),(9,.ref 38),(10,.ref 41),(20,.sl (lm (ak .i64) b))],[(5,bO u),(af v4 v5)],[(38,⟨176,5,lm cm f⟩),(41,(bk d)),(1035,(bY j)),(440009,(bt v6))],[5,440001,38,41,1035,440009,1440001,440001]⟩
def O6:AS:=⟨[(1,iI v2),(3,.ptr 3 0),(5,.ptr 5 0),(8,.ref 1035),(9,.ref 38),(10,.ref 41),(11,.ref 44),(45,.ref 1035),(46,iI (j.length:Int)),(47,iI i)],[(3,aB v1),(5,bO u),(af v4 v5)],[(38,⟨176,5,lm cm f⟩),(41,(bk d)),(44,(bk B)),(1035,(bY j)),(440009,(bt v6))],[3,5,440001,38,41,44,1035,440009,1440001,440001]⟩
abbrev Cp:Prop:=∀{i:Int} {f:ek} {d:ck} {B:ck},L1 i f d B=some r→LP (nC M w) (mM M w r) Gy (cat Tryz.f81 (pn 1012)) m1 (O6 v1 v2 u v4 v5 v6 j i f d B)
abbrev qF:Prop:=∀{g:Int} {a:Int} {l:dn} {o:Int} {q:Int} {t:dO},L2 g a l o q t=some r→LP (nC M w) (mM M w r) IG (cat Tryz.f81 (pn 32756)) m2 (Rx v2 u j f d b g a l o q t)
abbrev Ob:Prop:=∀{F:Int} {G:ck} {H:Int} {I:Int},L3 F G H I=some r→LP (nC M w) (mM M w r) (IM M w r m2) (cat Tryz.f81 (pn 134171892)) m3 (Q9 v2 u j f d b g a l o q t z F G H I)
abbrev N5:Prop:=∀{A:Int} {C:Int} {y:Int} {D:dn} {J:Int} {N:Int} {O:dO},L4 A C y D J N O=some r→LP (nC M w) (mM M w r) (GZ M w r m2) (cat Tryz.f81 (pn 536687604)) m4 (My v2 u j f d b g a x A C y D J N O)
variable{M w r v1 v2 u v4 v5 v6 j i f d B E P Q a0 b0 d0 e0 c0 b g a l o q t z F G H I x A C y D J N O m1 m2 m3 m4 L1 L2 L3 L4}{K:Kn}{n:Nat}[SG w]
theorem P3(p:ao K)(l:Cp M w r v1 v2 u v4 v5 v6 j m1 L1)(h:vu K n v1 v2 u v4 v5 v6 j i f d B E P Q a0 b0 L1 c0=some r):oW M w r (dq 2074239 :: .b 1::dq 8103::yM M w r m1) (WF v1 v2 u v4 v5 v6 j i f d B E P Q a0 b0 c0):=by
 unfold vu at h;refine ax 6 7 3 (aj 3 ?_);obtain⟨b,h⟩:=aD h;refine au (cp 38 5 cm b) (au (dz 38 176 5 0 cm cm (⟨c0,a0,b0,P,Q⟩:bF) (bD b).2 aT) (ac ?_));obtain⟨o,g,h⟩:=bV h;refine bz (ks':=dq 8296959 :: .b 1::dq 8103::yM M w r m1) 0 ⟨[(1,iI v2),(3,.ptr 3 0),(5,.ptr 5 0),(8,.ref 1035),(9,.ref 38),(10,.ref 41),(11,.ref 44),(12,iI i),(15,.ptr 15 0),(45,.ref 1035),(46,iI (j.length:Int)),(47,iI i)],[(3,aB v1),(5,bO u),(15,cm (⟨c0,a0,b0,P,Q⟩:bF)),(af v4 v5)],[(38,⟨176,5,lm cm o⟩),(41,⟨3,1,lm (ak .i64) (List.set d i.toNat E)⟩),(44,(bk B)),(1035,(bY j)),(440009,(bt v6))],[3,5,15,440001,38,41,44,1035,440009,1440001,440001]⟩ ?_ (by subst g;kernel_rfl);obtain⟨a,k,h⟩:=bind_some h;obtain⟨c,h⟩:=aD h;obtain⟨e,h⟩:=aD h;exact bN 1 (nu 110 [.ref 44,iI i,.agg (cm (⟨c0,a0,b0,P,Q⟩:bF)),iI a,.ref 41,iI i,.eptr 41 1 (i.toNat) 0,iI (gD (List.set d i.toNat E) i),iI (aa (a+(gD (List.set d i.toNat E) i))),.eptr 44 1 (i.toNat) 0]) [] [] [ec 44 ⟨3,1,lm (ak .i64) (List.set B i.toNat (aa (a+(gD (List.set d i.toNat E) i))))⟩] (av (vz 3) (ai (co 0 1 113 (F0 p k)) (av (vz 2) (bh (cD 41 1 (ak .i64) (L:=(List.set d i.toNat E)) c) (bh (bI 3 0 (ak .i64) (ak .i64) (bD c).2 aT) (av [.v 0 1] (bh (cD 44 1 (ak .i64) (L:=B) e) (ai (dd (m:=0) (dz 44 3 1 0 (ak .i64) (ak .i64) (aa (a+(gD (List.set d i.toNat E) i))) (bD e).2 aT)) bL)))))))) (ag 2 (bq (l h)))
theorem SR(b:ao K)(c:Cp M w r v1 v2 u v4 v5 v6 j m1 L1)(h:A6 K n v1 v2 u v4 v5 v6 j i f d B E P Q a0 b0 L1 d0 e0=some r):oW M w r (dq 1037119 :: .b 1::dq 8103::yM M w r m1) (XO v1 v2 u v4 v5 v6 j i f d B E P Q a0 b0 d0 e0):=by
 unfold A6 at h;refine ax 5 3 3 ?_;obtain⟨a,h⟩|⟨a,h⟩:=am h
 ·refine ah 91 a (ax 4 5 2 (aj 3 ?_));obtain⟨l,e,h⟩:=bind_some h;refine lT (b.gv e) (ac (aj 2 ?_));obtain⟨m,g,h⟩:=bind_some h;refine aU (mC b g) ?_;obtain⟨o,k,h⟩:=bind_some h;exact aU (nG b k) (ac (ag 0 (P3 b c h)))
 ·exact ah 91 a (ag 2 (P3 b c h))
theorem ai6(t:ao K)(R:qF M w r v2 u j f d b m2 L2)(S:N5 M w r v2 u j f d b g a x m2 m4 L4)(h:yf K n v2 u j f d b g a x L2 L4 A C y D J N O=some r):oW M w r (dq 536687604::H2 M w r m2 m4) (My v2 u j f d b g a x A C y D J N O):=by
 unfold yf at h;refine ax 6 7 3 ?_;obtain⟨l,h⟩|⟨l,h⟩:=am h
 ·refine ah 169 l (cT 8 9 7 3 5 (aj 1 ?_));obtain⟨p,h⟩:=aD h;refine au (cp 1166 1 (ak .i64) p) (au (bI 3 0 (ak .i64) (ak .i64) (bD p).2 aT) (ac (ax 2 3 1 (bJ [1,5,8,9,10,20,21,22,24,29,30,31,32,128,129,130,166,167,168,169] [5,440001] [220,1035,1166,440009] (E1 169 ?_)))));obtain⟨e,h⟩:=aD h;obtain⟨P,v,h⟩:=bind_some h;obtain⟨c,q,h⟩:=bind_some h;refine bN 2 (nu 173 [.ptr 5 0,.fn u.Layout.id u.Layout.aS,.ref 1035,iI (gD b a),iI y,iI (aa ((gD b a)+y)),.eptr 1035 59 (((aa ((gD b a)+y))).toNat) 0,.agg (aB (gD j ((aa ((gD b a)+y))))),iI (gD x y),.agg (aB P),iI v2]++nu 33 [.ptr 33 0]) [(33,List.set (aG bU) 66 (.nils))] [] [Ee (some 184) (bt c.2.2.2) [(af c.2.1 c.2.2.1)] (.agg (aG c.1)),cd bb 228 Tryz.f81 (pn 34348006706) 13] (av [.v 0 2,.v 0 1,.v 0 2,.v 0 2,.v 0 2,.v 0 2] (ai (fh (lo:=0) (k:=2) (da ⟨(by kernel_rfl),(dc (cD 1035 59 aK (L:=j) e) (by kernel_rfl))⟩ (da ⟨(by kernel_rfl),(dc (cD 1035 59 aK (L:=j) e) (by kernel_rfl))⟩ ft))) (ai (fh (lo:=0) (k:=2) (da ⟨(by kernel_rfl),(dc (bI 48 0 aK aB (bD e).2 (dR)) (by kernel_rfl))⟩ (da ⟨(by kernel_rfl),(dc (bI 48 0 aK aB (bD e).2 (dR)) (by kernel_rfl))⟩ ft))) (av [.v 0 2] (ai (co 0 1 182 (adu t v)) (av [.v 0 1] (ai (Kc 0 169 (t.dw q).2 (t.dw q).1) (ai (py 0 2 44 33 (List.set (aG bU) 66 (.nils))) (ai (cb 1) bL))))))))) (ax 2 3 1 (bJ [1,5,8,9,10,20,21,22,24,29,30,31,32,33,128,129,130,166,167,168] [5,33,440001] [220,1035,1166,440009] ?_))
  obtain⟨i,z,h⟩:=bind_some h;obtain⟨m,B,h⟩:=bind_some h;refine bN 1 (nu 185 [iI C,.ptr 33 61,.agg (cX c.1.Before),iI i,.ptr 33 5,iI c.1.H,iI (aa (i+c.1.H)),.agg (aG c.1),iI m,iI (aa ((aa (i+c.1.H))+m)),iI (max C (aa ((aa (i+c.1.H))+m)))]) [] [] [cd bb 228 Tryz.f81 (pn 68696013414) 11] (av (vz 3) (ai (co 0 1 188 (md t z)) (av (vz 4) (ai (co 0 1 193 (LK t B)) (av (vz 2) (ai (cb 0) bL)))))) ?_;obtain⟨s,E,h⟩:=bV h;refine bz (ks':=dq 274784053662::dq 274784053663 :: .b 7::dq 4293500839::H2 M w r m2 m4) 3 ⟨[(1,iI v2),(5,.ptr 5 0),(8,.ref 1035),(9,.sl (lm cm f)),(10,.sl (lm (ak .i64) d)),(20,.sl (lm (ak .i64) b)),(21,.ref 220),(22,iI g),(24,iI (gD b a)),(29,iI A),(30,iI s),(31,iI y),(32,iI (gD x y)),(33,.ptr 33 0),(128,.sl (lm (ak .i64) b)),(129,iI (b.length:Int)),(130,iI a),(166,.ref 1166),(167,iI (x.length:Int)),(168,iI y)],[(5,bO u),(33,aG ({ c.1 with X:=(aa (c.1.X+A)) }:ae)),(af c.2.1 c.2.2.1)],[(220,(bx D)),(1035,(bY j)),(1166,(bk x)),(440009,(bt c.2.2.2))],[5,33,440001,220,1035,1166,440009,1440001,440001]⟩ ?_ (by subst E;kernel_rfl)
  refine aj 3 ?_;obtain⟨o,F,h⟩:=bind_some h;refine aU (md t F) (ac (ax 2 3 1 (aj 6 ?_)));obtain⟨G,h⟩:=aD h;refine au (bB (ak .i64) (ak .i64) G aT aT) (ac ?_);obtain⟨Q,H,h⟩:=bV h;refine bz (ks':=dq 549568107327 :: .b 7::dq 4293500839::H2 M w r m2 m4) 0 ⟨[(1,iI v2),(5,.ptr 5 0),(8,.ref 1035),(9,.sl (lm cm f)),(10,.sl (lm (ak .i64) d)),(20,.sl (lm (ak .i64) b)),(21,.ref 220),(22,iI g),(24,iI (gD b a)),(29,iI Q),(30,iI s),(33,.ptr 33 0),(128,.sl (lm (ak .i64) b)),(129,iI (b.length:Int)),(130,iI a),(166,.ref 1166),(167,iI (x.length:Int)),(168,iI y)],[(5,bO u),(33,aG ({ c.1 with X:=(aa (c.1.X+A)),Y:=(aa (g+o)) }:ae)),(af c.2.1 c.2.2.1)],[(220,(bx D)),(1035,(bY j)),(1166,(bk x)),(440009,(bt c.2.2.2))],[5,33,440001,220,1035,1166,440009,1440001,440001]⟩ ?_ (by subst H;kernel_rfl)
  refine aj 2 (au (gu aO ([({ c.1 with X:=(aa (c.1.X+A)),Y:=(aa (g+o)) }:ae)]:dn) (new:=[aG ({ c.1 with X:=(aa (c.1.X+A)),Y:=(aa (g+o)) }:ae)]) (by simp only[th,By,dN])) ?_);obtain⟨I,h⟩:=aD h;exact au (cw 220 220 44 67 aO (rfl) (j4) I) (ac (ag 2 (bq (S h))))
 ·exact ah 169 l (ag 8 (bq (R h)))
theorem agi(e:ao K)(c:qF M w r v2 u j f d b m2 L2)(m:Nat):N5 M w r v2 u j f d b g a x m2 m (pT K n v2 u j f d b g a x L2 m):=by
 induction m with
 | zero=>intro A C y D J N O h;cases h
 | succ m i=>intro A C y D J N O h;have h:yf K n v2 u j f d b g a x L2 (pT K n v2 u j f d b g a x L2 m) A C y D J N O=some r:=h;exact bn (ai6 e c i h)
theorem aao(A:ao K)(v:qF M w r v2 u j f d b m2 L2)(y:Ob M w r v2 u j f d b g a l o q t z m2 m3 L3)(h:zK K n v2 u j f d b g a l o q t z L2 L3 F G H I=some r):oW M w r (dq 134171892::ajN M w r m2 m3) (Q9 v2 u j f d b g a l o q t z F G H I):=by
 unfold zK at h;refine ax 6 7 3 ?_;obtain⟨c,h⟩|⟨c,h⟩:=am h
 ·refine ah 154 c (cT 8 9 5 3 5 (aj 0 ?_));obtain⟨i,h⟩:=aD h;exact au (bB (ak .i64) (ak .i64) i aT aT) (ac (ag 3 (bq (y h))))
 ·refine ah 154 c (yx 12 13 7 9 (aj 3 ?_));obtain⟨m,h⟩:=aD h;refine au (i7 cm f (gD b a) z 174 (.tmp 161) (some (.tmp 162)) (some (.tmp 163)) 164 (e:=176) (sz:=5) (by kernel_rfl) (by kernel_rfl) (by kernel_rfl) (by kernel_rfl) (by kernel_rfl) (by kernel_rfl) (KT) (fun k B=>by subst B;kernel_rfl) m) (aQ 5 1 ?_);obtain⟨x,s,h⟩:=bind_some h;exact eT 1166 (Ta A s) (eO 143) (au (bu (ak .i64) x) (ac (ag 1 (ce (p:=pn 268343802) n (agi A v n h)))))
theorem acq(e:ao K)(c:qF M w r v2 u j f d b m2 L2)(m:Nat):Ob M w r v2 u j f d b g a l o q t z m2 m (pJ K n v2 u j f d b g a l o q t z L2 m):=by
 induction m with
 | zero=>intro F G H I h;cases h
 | succ m i=>intro F G H I h;have h:zK K n v2 u j f d b g a l o q t z L2 (pJ K n v2 u j f d b g a l o q t z L2 m) F G H I=some r:=h;exact bn (aao e c i h)
theorem T9(m:ao K)(i:qF M w r v2 u j f d b m2 L2)(h:mL K n v2 u j f d b g a l o q t L2 z=some r):oW M w r (dq 4192871 :: .b 3::dq 262055::yv M w r m2) (afX v2 u j f d b g a l o q t z):=by
 unfold mL at h;refine cf 12 13 7 4 (aj 3 ?_);obtain⟨c,h⟩:=aD h;exact au (i7 (ak .i64) d (gD b a) z 72 (.tmp 148) (some (.tmp 149)) (some (.tmp 150)) 151 (e:=3) (sz:=1) (by kernel_rfl) (by kernel_rfl) (by kernel_rfl) (by kernel_rfl) (by kernel_rfl) (by kernel_rfl) aT (fun k s=>by subst s;kernel_rfl) c) (au (bu (ak .i64) (List.drop ((gD b a)).toNat (List.take z.toNat d))) (ac (ag 1 (ce (p:=pn 67085946) n (acq m i n h)))))
theorem acb(v:ao K)(p:qF M w r v2 u j f d b m2 L2)(h:xM K n v2 u j f d b L2 g a l o q t=some r):oW M w r (dq 32756::yv M w r m2) (Rx v2 u j f d b g a l o q t):=by
 unfold xM at h;refine ax 6 7 3 ?_;obtain⟨c,h⟩|⟨c,h⟩:=am h
 ·refine ah 131 c (cT 8 9 3 3 5 (aj 1 ?_));obtain⟨i,h⟩:=aD h;refine au (bB (ak .i64) (ak .i64) i aT aT) (ac (ax 2 3 1 (aj 1 (au (bu aK j) (ac (cf 4 5 3 2 (aj 3 (au (bu (ak .i64) b) (ac ?_)))))))));obtain⟨s,k,h⟩:=bV h;refine bz (ks':=dq 8385741::dq 4192871 :: .b 3::dq 262055::yv M w r m2) 0 ⟨[(1,iI v2),(5,.ptr 5 0),(8,.ref 1035),(9,.sl (lm cm f)),(10,.sl (lm (ak .i64) d)),(20,.sl (lm (ak .i64) b)),(21,.ref 220),(22,iI g),(23,iI a),(24,iI (gD b a)),(25,iI (j.length:Int)),(128,.sl (lm (ak .i64) b)),(129,iI (b.length:Int)),(130,iI a),(141,.bool s)],[(5,bO u),(af o q)],[(220,(bx l)),(1035,(bY j)),(440009,(bt t))],[5,440001,220,1035,440009,1440001,440001]⟩ ?_ (by subst k;kernel_rfl);obtain⟨e,h⟩|⟨e,h⟩:=am h
  ·refine ah 141 e (bp 2 1 (aj 3 ?_));obtain⟨m,h⟩:=aD h;exact au (bB (ak .i64) (ak .i64) m aT aT) (ac (ag 0 (T9 v p h)))
  ·exact ah 141 e (ag 2 (T9 v p h))
 ·refine ah 131 c (aN 8 (pG 220 440010 ?_));cases h;exact NH
theorem ZO(c:ao K)(m:Nat):qF M w r v2 u j f d b m (ja K n v2 u j f d b m):=by
 induction m with
 | zero=>intro g a l o q t h;cases h
 | succ m e=>intro g a l o q t h;have h:xM K n v2 u j f d b (ja K n v2 u j f d b m) g a l o q t=some r:=h;exact bn (acb c e h)
theorem Sv(a:ao K)(h:lY K n v2 u v4 v5 v6 j f d b=some r):oW M w r [dq 511] (adW v2 u v4 v5 v6 j f d b):=by
 unfold lY at h;exact cf 28 29 15 6 (aj 1 (au (bu (ak .i64) b) (ac (gC 2 2 1 (bJ [1,5,8,9,10,20,21,22,128,129,130] [5,440001] [38,41,1035,440009] (gq 38 (gq 41 (eQ 220 21 44 67 (ag 0 (ce (p:=pn 16378) n (ZO a n h)))))))))))
theorem agG(a:ao K)(l:Cp M w r v1 v2 u v4 v5 v6 j m1 L1)(h:zD K n v1 v2 u v4 v5 v6 j L1 i f d B=some r):oW M w r (dq 1012::yM M w r m1) (O6 v1 v2 u v4 v5 v6 j i f d B):=by
 unfold zD at h;refine ax 6 7 3 ?_;obtain⟨b,h⟩|⟨b,h⟩:=am h
 ·refine ah 48 b (cT 8 9 1 3 5 (aj 1 ?_));obtain⟨g,h⟩:=aD h;refine au (cp 1035 59 aK g) (au (bI 48 0 aK aB (bD g).2 (dR)) (ac (ax 6 7 3 (aj 4 ?_))));obtain⟨z,m,h⟩:=bind_some h;refine aU (mC a m) ?_;obtain⟨E,o,h⟩:=bind_some h;refine aU (nG a o) ?_;obtain⟨k,h⟩:=aD h;refine au (cp 41 1 (ak .i64) k) (au (dz 41 3 1 0 (ak .i64) (ak .i64) E (bD k).2 aT) (ac (ax 2 3 1 (bJ [1,3,5,8,9,10,11,12,13,14,45,46,47] [3,5,13,14,440001] [38,41,44,1035,440009] ?_))));obtain⟨P,p,h⟩:=bind_some h;obtain⟨Q,q,h⟩:=bind_some h;refine bN 1 (nu 61 [.ptr 14 44,iI (((gD j i).Style).Grow),.ptr 14 45,iI (((gD j i).Style).Shrink),.ptr 14 10,.agg (fX (((gD j i).Style).MinWidth)),iI v2,iI P,.ptr 14 12,.agg (fX (((gD j i).Style).MaxWidth)),iI v2,iI Q,.agg (cm (⟨0,((gD j i).Style).Grow,((gD j i).Style).Shrink,P,Q⟩:bF))]++nu 15 [.ptr 15 0]) [(15,cm jY)] [] [cd bb 228 Tryz.f81 (pn 259278) 14] (av (vz 7) (ai (co 0 1 68 (xS a p)) (av (vz 3) (ai (co 0 1 72 (xS a q)) (av [.v 0 1] (ai (py 0 1 176 15 (cm jY)) (ai (cb 0) bL))))))) ?_
  obtain⟨a0,s,h⟩:=bV h;obtain⟨b0,t,h⟩:=bV h;refine bz (ks':=dq 518558::dq 518559 :: .b 1::dq 8103::yM M w r m1) 1 ⟨[(1,iI v2),(3,.ptr 3 0),(5,.ptr 5 0),(8,.ref 1035),(9,.ref 38),(10,.ref 41),(11,.ref 44),(12,iI i),(13,.ptr 13 0),(14,.ptr 14 0),(15,.ptr 15 0),(45,.ref 1035),(46,iI (j.length:Int)),(47,iI i)],[(3,aB v1),(5,bO u),(13,aB (gD j i)),(14,aH ((gD j i).Style)),(15,cm (⟨0,a0,b0,P,Q⟩:bF)),(af v4 v5)],[(38,⟨176,5,lm cm f⟩),(41,⟨3,1,lm (ak .i64) (List.set d i.toNat E)⟩),(44,(bk B)),(1035,(bY j)),(440009,(bt v6))],[3,5,13,14,15,440001,38,41,44,1035,440009,1440001,440001]⟩ ?_ (by subst t;subst s;kernel_rfl);refine aj 3 ?_;obtain⟨A,v,h⟩:=bind_some h;refine aU (ep a v) (ac (ax 5 3 3 ?_));obtain⟨c,h⟩|⟨c,h⟩:=am h
  ·refine ah 82 c (bp 2 1 (aj 3 ?_));obtain⟨C,x,h⟩:=bind_some h;exact aU (ep a x) (ac (ag 0 (SR a l h)))
  ·exact ah 82 c (ag 2 (SR a l h))
 ·refine ah 48 b (gB 13 7 10 ?_);obtain⟨e,h⟩|⟨e,h⟩:=am h
  ·refine ah 124 e (bp 2 1 (aj 2 (m7 44 ?_)));obtain⟨D,y,h⟩:=bind_some h;exact eT 1127 (acp a y) (eO 29) (ac (gq 1127 (ag 0 (Sv a h))))
  ·exact ah 124 e (ag 2 (Sv a h))
theorem ab7(a:ao K)(m:Nat):Cp M w r v1 v2 u v4 v5 v6 j m (nU K n v1 v2 u v4 v5 v6 j m):=by
 induction m with
 | zero=>intro i f d B h;cases h
 | succ m b=>intro i f d B h;have h:zD K n v1 v2 u v4 v5 v6 j (nU K n v1 v2 u v4 v5 v6 j m) i f d B=some r:=h;exact bn (agG a b h)
theorem Ya(d:ao K)(h:xU K n v1 v2 u v4 v5 v6=some r):eP bb 81 [.agg (aB v1),iI v2,.agg (bO u)] [(af v4 v5)] (bt v6) (fun v s=>v=.tup [.ref 440010,iI r.2.1]∧cB s.o [(af r.2.2.1 r.2.2.2.1)]∧look 440009 s.r=some (bt r.2.2.2.2)∧look 440010 s.r=some (bx r.1)):=by
 refine jK (c:=cat Tryz.f81 []) Tryz.func81 (by kernel_rfl) _ Tryz.ntmps81 (lp (by kernel_rfl)) fun M w=>(bm ⟨[(0,.agg (aB v1)),(1,iI v2),(2,.agg (bO u))],[(af v4 v5)],[(440009,(bt v6))],[440009,440001,1440001]⟩ ?_);unfold xU at h;refine bX (ks':=[dq 6,dq 7]) 3 (aj 1 ?_);obtain⟨j,g,h⟩:=bind_some h;refine eT 1035 (H1 d g) (eO 21) (ac (ax 2 3 1 (aj 1 (au (bu aK j) ?_))));obtain⟨i,h⟩:=aD h;refine oh cm (jY:bF) 174 (.tmp 37) (.tmp 37) 38 (e:=176) (sz:=5) (zc:=cm jY) (kd:=.i64) (kd':=.i64) i (ac ?_);obtain⟨b,k,h⟩:=bV h;refine bz (ks':=[dq 30,dq 31]) 1 ⟨[(1,iI v2),(3,.ptr 3 0),(5,.ptr 5 0),(8,.ref 1035),(9,.ref 38)],[(3,aB v1),(5,bO u),(af v4 v5)],[(38,⟨176,5,lm cm b⟩),(1035,(bY j)),(440009,(bt v6))],[3,5,440001,38,1035,440009,1440001,440001]⟩ ?_ (by subst k;kernel_rfl)
 refine aj 1 (au (bu aK j) ?_);obtain⟨l,h⟩:=aD h;refine oh (ak .i64) (0:Int) 72 (.tmp 40) (.tmp 40) 41 (e:=3) (sz:=1) (zc:=[iI 0]) (kd:=.i64) (kd':=.i64) l (ac ?_);obtain⟨f,m,h⟩:=bV h;refine bz (ks':=[dq 62,dq 63]) 1 ⟨[(1,iI v2),(3,.ptr 3 0),(5,.ptr 5 0),(8,.ref 1035),(9,.ref 38),(10,.ref 41)],[(3,aB v1),(5,bO u),(af v4 v5)],[(38,⟨176,5,lm cm b⟩),(41,(bk f)),(1035,(bY j)),(440009,(bt v6))],[3,5,440001,38,41,1035,440009,1440001,440001]⟩ ?_ (by subst m;kernel_rfl);refine aj 1 (au (bu aK j) ?_);obtain⟨o,h⟩:=aD h;refine oh (ak .i64) (0:Int) 72 (.tmp 43) (.tmp 43) 44 (e:=3) (sz:=1) (zc:=[iI 0]) (kd:=.i64) (kd':=.i64) o (ac ?_);obtain⟨a,q,h⟩:=bV h;refine bz (ks':=[dq 252,dq 253,dq 127]) 2 ⟨[(1,iI v2),(3,.ptr 3 0),(5,.ptr 5 0),(8,.ref 1035),(9,.ref 38),(10,.ref 41),(11,.ref 44)],[(3,aB v1),(5,bO u),(af v4 v5)],[(38,⟨176,5,lm cm b⟩),(41,(bk f)),(44,(bk a)),(1035,(bY j)),(440009,(bt v6))],[3,5,440001,38,41,44,1035,440009,1440001,440001]⟩ ?_ (by subst q;kernel_rfl)
 exact aj 1 (au (bu aK j) (ac (ag 1 (ce (p:=pn 506) n (ab7 d n h)))))
end
noncomputable section
variable[GS](M:Nat→Prop)(b:aC)(r a:ae)(v2:Int)(c:Int×Bool)(v5:Int)  
abbrev X0(n:Nat):aq:=.c (cat Tryz.f83 (pn n))
abbrev ach:Cx:=⟨bb,45,M,b⟩
abbrev q83:=bodyPost bb Tryz.f83 (bP M b (fun v _=>v=.agg (aG r)))
abbrev ahy(a:dt)(s:AS):=VE (ach M b) (q83 M b r) a .normal s
def abN:AS:=⟨[(2,.ptr 2 0),(4,.ptr 4 0)],[(2,aG ({ a with X:=(aa (a.X+c.1)),Y:=v5 }:ae)),(4,List.set (aG bU) 66 (.nils))],[],[2,4]⟩
variable{M b r a v2 c v5}{K:Kn}{n:Nat}
theorem Pd(d:ao K)(h:xw K n a c v5=some r):ahy M b r [X0 63] (abN a c v5):=by
 unfold xw at h;refine aN 3 ?_;cases h;exact bE
theorem N0(d:ao K)(h:s8 K n a v2=some r):bc bb 83 [.agg (aG a),iI v2] (fun v _=>v=.agg (aG r)):=by
 refine bH (cat Tryz.f83 (pn 1)) Tryz.func83 Tryz.ntmps83 fun M b=>(bm ⟨[(0,.agg (aG a)),(1,iI v2)],[],[],[]⟩ ?_);unfold s8 at h;refine ax 13 7 5 ?_;obtain⟨e,h⟩|⟨e,h⟩:=am h
 ·refine ah 12 e (aN 5 ?_);cases h;exact bE
 ·refine ah 12 e (fV 2 3 3 (aj 4 ?_));obtain⟨c,g,h⟩:=bind_some h;refine aU (ep d g) (ac (ax 13 7 5 ?_));obtain⟨f,h⟩|⟨f,h⟩:=am h
  ·refine ah 31 f (ax 4 5 2 (aj 3 ?_));obtain⟨v4,i,h⟩:=bind_some h;exact aU (ep d i) (ac (ag 1 (Pd d h)))
  ·exact ah 31 f (ag 2 (Pd d h))
end
noncomputable section
variable[GS](M:Nat→Prop)(w:aC)(r:ae×Int×Int×dO)(l:ab)(v2:Int)(B:bw)(v4 v5:Int)(v6:dO)(b:bZ)(t u:bg)(x:Int)(e:dn)(f g:Int)(j:dO)(y o q a:Int)(d:dn)(z:Nat)(A:Int→dn→Option hF)
abbrev Fr:Cx:=⟨bb,154,M,w⟩
abbrev F9:=bodyPost bb Tryz.f44 (bP M w (fun v s=>v=.agg (aG r.1)∧cB s.o [(af r.2.1 r.2.2.1)]∧look 440009 s.r=some (bt r.2.2.2)))
abbrev Gm(a:dt)(s:AS):=VE (Fr M w) (F9 M w r) a .normal s
abbrev iY(n:Nat):aq:=.c (cat Tryz.f44 (pn n))
abbrev Ja:dt:=[.b 0,iY 2047]
abbrev GG:dt:=kl (Fr M w) (F9 M w r) Ja (cat Tryz.f44 (pn 16372)) z::Ja
def UJ:AS:=⟨[(6,.ptr 6 0),(7,.ptr 7 0),(8,.ptr 8 0),(104,iI (e.length:Int)),(105,iI a)],[(6,List.set (aG bU) 66 (.nils)),(7,cr b),(8,List.set (aG (⟨1,l.Node,b.Margin.a3,0,o,q,0,⟨#[]⟩,l.Style,t,u,false,[]⟩:ae)) 66 (.ref 1040)),(af f g)],[(1040,(bx d)),(440009,(bt j))],[6,7,8,440001,1040,440009,1440001,440001]⟩
def aaK:AS:=⟨[(6,.ptr 6 0),(7,.ptr 7 0),(8,.ptr 8 0),(9,iI y)],[(6,List.set (aG bU) 66 (.nils)),(7,cr b),(8,List.set (aG ({ bU with Kind:=1,Node:=l.Node,X:=b.Margin.a3,Style:=l.Style,Before:=t,After:=u }:ae)) 66 (.ref 1040)),(af f g)],[(1040,(bx e)),(440009,(bt j))],[6,7,8,440001,1040,440009,1440001,440001]⟩
def VB:AS:=⟨[(3,.ptr 3 0),(6,.ptr 6 0),(7,.ptr 7 0),(8,.ptr 8 0),(9,iI x)],[(3,aB l),(6,List.set (aG bU) 66 (.nils)),(7,cr b),(8,List.set (aG ({ bU with Kind:=1,Node:=l.Node,X:=b.Margin.a3,Style:=l.Style,Before:=t,After:=u }:ae)) 66 (.ref 1040)),(af f g)],[(1040,(bx e)),(440009,(bt j))],[3,6,7,8,440001,1040,440009,1440001,440001]⟩
abbrev S9:Prop:=∀{a:Int} {d:dn},A a d=some r→LP (Fr M w) (F9 M w r) Ja (cat Tryz.f44 (pn 16372)) z (UJ l b t u e f g j o q a d)
variable{M w r l v2 B v4 v5 v6 b t u x e f g j y o q a d z A}{K:Kn}{n:Nat}[SG w]
theorem aam(I:ao K)(H:S9 M w r l b t u e f g j o q z A)(h:xG K n l b t u e f g j o q A a d=some r):Gm M w r (iY 16372::GG M w r z) (UJ l b t u e f g j o q a d):=by
 unfold xG at h;refine ax 6 7 3 ?_;obtain⟨v,h⟩|⟨v,h⟩:=am h
 ·refine ah 106 v (cT 18 19 1 3 7 (bJ [6,7,8,10,104,105] [6,7,8,440001] [1040,440009] ?_));obtain⟨B,h⟩:=aD h;obtain⟨p,h⟩:=aD h;refine bN 1 (nu 108 [.ptr 8 66,.ref 1040,iI a,.eptr 1040 67 (a.toNat) 0,.eptr 1040 67 (a.toNat) 2,iI ((gD d a).X),.ptr 7 4,.ptr 7 7,iI b.Border.a3,.ptr 7 8,.ptr 7 11,iI b.Padding.a3,iI (aa (b.Border.a3+b.Padding.a3)),iI (aa (((gD d a).X)+(aa (b.Border.a3+b.Padding.a3)))),.eptr 1040 67 (a.toNat) 0,.eptr 1040 67 (a.toNat) 2]) [] [] [ec 1040 ⟨44,67,lm aO (List.set d a.toNat ({ (gD d a)with X:=(aa (((gD d a).X)+(aa (b.Border.a3+b.Padding.a3)))) }:ae))⟩] (av (vz 3) (bh (cD 1040 67 aO (L:=d) B) (av [.v 0 1] (bh (bI 3 2 aO aG (bD p).2 (dN)) (av (vz 8) (ai (fh (lo:=0) (k:=2) (da ⟨(by kernel_rfl),(dc (cD 1040 67 aO (L:=d) p) (by kernel_rfl))⟩ (da ⟨(by kernel_rfl),(dc (cD 1040 67 aO (L:=(List.set d a.toNat ({ (gD d a)with X:=(aa (((gD d a).X)+(aa (b.Border.a3+b.Padding.a3)))) }:ae))) p) (by kernel_rfl))⟩ ft))) (av [.v 0 1] (ai (dd (m:=0) (dz 1040 44 67 2 aO aG ({ (gD d a)with X:=(aa (((gD d a).X)+(aa (b.Border.a3+b.Padding.a3)))) }:ae) (bD p).2 (dN))) bL)))))))) ?_
  obtain⟨c,C,h⟩:=bV h;refine bz (ks':=iY 2095718::iY 2095719 :: .b 1::iY 130983::GG M w r z) 1 ⟨[(6,.ptr 6 0),(7,.ptr 7 0),(8,.ptr 8 0),(10,iI a),(104,iI (e.length:Int)),(105,iI a)],[(6,List.set (aG bU) 66 (.nils)),(7,cr b),(8,List.set (aG (⟨1,l.Node,b.Margin.a3,0,o,q,0,⟨#[]⟩,l.Style,t,u,false,[]⟩:ae)) 66 (.ref 1040)),(af f g)],[(1040,(bx c)),(440009,(bt j))],[6,7,8,440001,1040,440009,1440001,440001]⟩ ?_ (by subst C;kernel_rfl);obtain⟨D,h⟩:=aD h;obtain⟨s,h⟩:=aD h;refine bN 1 (nu 124 [.ptr 8 66,.ref 1040,iI a,.eptr 1040 67 (a.toNat) 0,.eptr 1040 67 (a.toNat) 3,iI ((gD c a).Y),.ptr 7 4,.ptr 7 4,iI b.Border.a0,.ptr 7 8,.ptr 7 8,iI b.Padding.a0,iI (aa (b.Border.a0+b.Padding.a0)),iI (aa (((gD c a).Y)+(aa (b.Border.a0+b.Padding.a0)))),.eptr 1040 67 (a.toNat) 0,.eptr 1040 67 (a.toNat) 3]) [] [] [ec 1040 ⟨44,67,lm aO (List.set c a.toNat ({ (gD c a)with Y:=(aa (((gD c a).Y)+(aa (b.Border.a0+b.Padding.a0)))) }:ae))⟩] (av (vz 3) (bh (cD 1040 67 aO (L:=c) D) (av [.v 0 1] (bh (bI 3 3 aO aG (bD s).2 (dN)) (av (vz 8) (ai (fh (lo:=0) (k:=2) (da ⟨(by kernel_rfl),(dc (cD 1040 67 aO (L:=c) s) (by kernel_rfl))⟩ (da ⟨(by kernel_rfl),(dc (cD 1040 67 aO (L:=(List.set c a.toNat ({ (gD c a)with Y:=(aa (((gD c a).Y)+(aa (b.Border.a0+b.Padding.a0)))) }:ae))) s) (by kernel_rfl))⟩ ft))) (av [.v 0 1] (ai (dd (m:=0) (dz 1040 44 67 3 aO aG ({ (gD c a)with Y:=(aa (((gD c a).Y)+(aa (b.Border.a0+b.Padding.a0)))) }:ae) (bD s).2 (dN))) bL)))))))) ?_
  obtain⟨i,E,h⟩:=bV h;refine bz (ks':=iY 2095719 :: .b 1::iY 130983::GG M w r z) 0 ⟨[(6,.ptr 6 0),(7,.ptr 7 0),(8,.ptr 8 0),(10,iI a),(104,iI (e.length:Int)),(105,iI a)],[(6,List.set (aG bU) 66 (.nils)),(7,cr b),(8,List.set (aG (⟨1,l.Node,b.Margin.a3,0,o,q,0,⟨#[]⟩,l.Style,t,u,false,[]⟩:ae)) 66 (.ref 1040)),(af f g)],[(1040,(bx i)),(440009,(bt j))],[6,7,8,440001,1040,440009,1440001,440001]⟩ ?_ (by subst E;kernel_rfl);obtain⟨F,h⟩:=aD h;obtain⟨y,G,h⟩:=bind_some h;obtain⟨x,h⟩:=aD h;exact bN 1 (nu 140 [.ptr 8 66,.ref 1040,iI a,.ptr 8 66,.ref 1040,iI a,.eptr 1040 67 (a.toNat) 0,.agg (aG (gD i a)),.ptr 7 12,iI b.Content,.agg (aG y),.eptr 1040 67 (a.toNat) 0]) [] [] [ec 1040 ⟨44,67,lm aO (List.set i a.toNat y)⟩] (av (vz 6) (bh (cD 1040 67 aO (L:=i) F) (bh (bI 44 0 aO aG (bD x).2 (dN)) (av (vz 2) (ai (co 0 1 150 (N0 I G)) (bh (cD 1040 67 aO (L:=i) x) (ai (dd (m:=0) (dz 1040 44 67 0 aO aG y (bD x).2 (dN))) bL))))))) (ag 2 (bq (H h)))
 ·refine ah 106 v (aN 8 (gq 1040 ?_));cases h;exact fm
theorem adK(c:ao K)(m:Nat):S9 M w r l b t u e f g j o q m (vW K n l b t u e f g j o q m):=by
 induction m with
 | zero=>intro a d h;cases h
 | succ m i=>intro a d h;have h:xG K n l b t u e f g j o q (vW K n l b t u e f g j o q m) a d=some r:=h;exact bn (aam c i h)
theorem Vy(d:ao K)(h:vX K n l b t u e f g j y=some r):Gm M w r [iY 255] (aaK l b t u e f g j y):=by
 unfold vX at h;obtain⟨o,c,h⟩:=bV h;obtain⟨q,a,h⟩:=bV h;refine bz (ks':=[iY 4092,iY 4093,iY 2047]) 6 ⟨[(6,.ptr 6 0),(7,.ptr 7 0),(8,.ptr 8 0)],[(6,List.set (aG bU) 66 (.nils)),(7,cr b),(8,List.set (aG (⟨1,l.Node,b.Margin.a3,0,o,q,0,⟨#[]⟩,l.Style,t,u,false,[]⟩:ae)) 66 (.ref 1040)),(af f g)],[(1040,(bx e)),(440009,(bt j))],[6,7,8,440001,1040,440009,1440001,440001]⟩ ?_ (by subst a;subst c;kernel_rfl);exact aj 2 (au (bu aO e) (ac (ag 1 (ce (p:=pn 8186) n (adK d n h)))))
theorem RK(c:ao K)(h:tf K n l b t u x e f g j=some r):Gm M w r [iY 63] (VB l b t u x e f g j):=by
 unfold tf at h;refine ax 13 7 5 ?_;obtain⟨a,h⟩|⟨a,h⟩:=am h
 ·refine ah 59 a (bp 2 1 (aj 3 ?_));obtain⟨i,d,h⟩:=bind_some h;exact aU (xS c d) (ac (ag 0 (Vy c h)))
 ·exact ah 59 a (ag 2 (Vy c h))
theorem aa7(a:ao K)(h:oH K n l v2 B v4 v5 v6=some r):eP bb 44 [.agg (aB l),iI v2,.agg (bO B)] [(af v4 v5)] (bt v6) (fun v s=>v=.agg (aG r.1)∧cB s.o [(af r.2.1 r.2.2.1)]∧look 440009 s.r=some (bt r.2.2.2)):=by
 refine jK (c:=cat Tryz.f44 []) Tryz.func44 (by kernel_rfl) _ Tryz.ntmps44 (lp (by kernel_rfl)) fun M w=>(bm ⟨[(0,.agg (aB l)),(1,iI v2),(2,.agg (bO B))],[(af v4 v5)],[(440009,(bt v6))],[440009,440001,1440001]⟩ ?_);unfold oH at h;refine bX (ks':=[iY 6,iY 7]) 3 (aj 3 ?_);obtain⟨b,e,h⟩:=bind_some h;refine aU (JS a e) (ac (ax 2 3 1 (bJ [3,5,6,7] [3,5,6,7,440001] [440009] ?_)));obtain⟨t,f,h⟩:=bind_some h;obtain⟨u,g,h⟩:=bind_some h;refine bN 1 (nu 15 [.ptr 3 1,iI l.Node,.ptr 3 2,.agg (aH l.Style),.ptr 7 0,.ptr 7 3,iI b.Margin.a3,.ptr 7 0,.ptr 7 0,iI b.Margin.a0,.agg (cX t),.ptr 7 0,.ptr 7 2,iI b.Margin.a2,.agg (cX u),.agg (List.set (aG ({ bU with Kind:=1,Node:=l.Node,X:=b.Margin.a3,Style:=l.Style,Before:=t,After:=u }:ae)) 66 (.nils))]++nu 8 [.ptr 8 0]) [(8,List.set (aG bU) 66 (.nils))] [] [cd bb 154 Tryz.f44 (pn 14) 17] (av (vz 10) (ai (co 0 1 25 (Cc a f)) (av (vz 3) (ai (co 0 1 29 (Cc a g)) (av [.v 0 1] (ai (py 0 1 44 8 (List.set (aG bU) 66 (.nils))) (ai (cb 0) bL))))))) (ax 13 7 5 ?_)
 obtain⟨d,h⟩|⟨d,h⟩:=am h
 ·refine ah 34 d (bp 2 1 (aj 4 ?_));obtain⟨m,j,h⟩:=bind_some h;exact SA 1040 (abK a j) (C3 (i:=0) rfl) (ac (ag 0 (RK a h)))
 ·refine ah 34 d (bp 3 1 (aj 4 ?_));obtain⟨o,k,h⟩:=bind_some h;exact SA 1049 (Ya a k) (C3 (i:=0) rfl) (ac (bJ [3,6,7,8,9] [3,6,7,8,440001] [1049,440009] (pG 1049 1040 (ag 0 (RK a h)))))
end
noncomputable section
variable[GS](M:Nat→Prop)(b:aC)(r:Int)(a:d3)(v2:Fv)(v4:Int)(c:Nat)(d:Int→Option Int)
abbrev IV:Cx:=⟨bb,19,M,b⟩
abbrev Jl:=bodyPost bb Tryz.f119 (bP M b (fun v _=>v=iI r))
abbrev X3(a:dt)(s:AS):=VE (IV M b) (Jl M b r) a .normal s
abbrev PT(n:Nat):aq:=.c (cat Tryz.f119 (pn n))
abbrev HH:dt:=[.b 0,PT 7]
abbrev Xh:dt:=kl (IV M b) (Jl M b r) HH (cat Tryz.f119 (pn 52)) c::HH
def Ns:AS:=⟨[(0,.sl (lm aK a)),(1,.fn v2.id v2.aS),(7,iI (a.length:Int)),(8,iI v4)],[],[],[]⟩
abbrev Lj:Prop:=∀{v4:Int},d v4=some r→LP (IV M b) (Jl M b r) HH (cat Tryz.f119 (pn 52)) c (Ns a v2 v4)
variable{M b r a v2 v4 c d}{K:Kn}{n:Nat}
theorem aav(k:ao K)(g:Lj M b r a v2 c d)(h:su K n a v2 d v4=some r):X3 M b r (PT 52::Xh M b r c) (Ns a v2 v4):=by
 unfold su at h;refine ax 6 7 3 ?_;obtain⟨e,h⟩|⟨e,h⟩:=am h
 ·refine ah 9 e (cT 18 19 1 3 7 (aj 3 ?_));obtain⟨i,h⟩:=aD h;refine au (bB aK aB i (fu) (dR)) (aQ 5 1 ?_);obtain⟨v5,j,h⟩:=bind_some h;refine lT (k.ld j) (ac ?_);obtain⟨f,h⟩|⟨f,h⟩:=am h
  ·refine ah 16 f (aN 9 ?_);cases h;exact bE
  ·exact ah 16 f (ag 4 (bq (g h)))
 ·refine ah 9 e (aN 8 ?_);cases h;exact bE
theorem ag2(c:ao K)(m:Nat):Lj M b r a v2 m (lG K n a v2 m):=by
 induction m with
 | zero=>intro v4 h;cases h
 | succ m d=>intro v4 h;have h:su K n a v2 (lG K n a v2 m) v4=some r:=h;exact bn (aav c d h)
theorem adA(c:ao K)(h:xj K n a v2=some r):bc bb 119 [.sl (lm aK a),.fn v2.id v2.aS] (fun v _=>v=iI r):=by
 refine bH (cat Tryz.f119 (pn 1)) Tryz.func119 Tryz.ntmps119 fun M b=>(bm ⟨[(0,.sl (lm aK a)),(1,.fn v2.id v2.aS)],[],[],[]⟩ ?_);unfold xj at h;exact cf 12 13 7 4 (aj 1 (au (bu aK a) (ac (ag 1 (ce (p:=pn 26) n (ag2 c n h))))))
end
noncomputable section
variable[GS](M:Nat→Prop)(b:aC)(r:Bool)(a:d3)(v2:Fv)  
variable{M b r a v2}{K:Kn}{n:Nat}
theorem T3(d:ao K)(h:nH K n a v2=some r):bc bb 64 [.sl (lm aK a),.fn v2.id v2.aS] (fun v _=>v=.bool r):=by
 refine bH (cat Tryz.f64 (pn 1)) Tryz.func64 Tryz.ntmps64 fun M b=>(bm ⟨[(0,.sl (lm aK a)),(1,.fn v2.id v2.aS)],[],[],[]⟩ ?_);unfold nH at h;refine ax 6 7 3 (aj 2 ?_);obtain⟨e,c,h⟩:=bind_some h;refine aU (adA d c) (ac (aN 1 ?_));cases h;exact bE
end
noncomputable section
variable[GS](M:Nat→Prop)(b:aC)(r:d3×Bool)(a:ab)(c:Int)(d e:d3)(f:Nat)(g:Int→d3→Option (d3×Bool))
abbrev FT:Cx:=⟨bb,24,M,b⟩
abbrev Fq:=bodyPost bb Tryz.f141 (bP M b (fun v _=>v=.tup [.sl (lm aK r.1),.bool r.2]))
abbrev Tj(a:dt)(s:AS):=VE (FT M b) (Fq M b r) a .normal s
abbrev I4(n:Nat):aq:=.c (cat Tryz.f141 (pn n))
abbrev Kt:dt:=[.b 0,I4 15]
abbrev Qd:dt:=kl (FT M b) (Fq M b r) Kt (cat Tryz.f141 (pn 116)) f::Kt
def Ym:AS:=⟨[(4,.ref 19),(8,.sl (lm aK a.Kids)),(9,iI (a.Kids.length:Int)),(10,iI c)],[],[(19,(bY e))],[19]⟩
def SO:AS:=⟨[(4,.ref 19),(8,.sl (lm aK a.Kids)),(9,iI (a.Kids.length:Int)),(10,iI c)],[],[(19,(bY d))],[19]⟩
abbrev Hy:Prop:=∀{c:Int} {d:d3},g c d=some r→LP (FT M b) (Fq M b r) Kt (cat Tryz.f141 (pn 116)) f (SO a c d)
variable{M b r a c d e f g}{K:Kn}{n:Nat}
theorem QJ(i:ao K)(d:Hy M b r a f g)(h:zQ K n a c g e=some r):Tj M b r (.b 1::I4 935::Qd M b r f) (Ym a c e):=by
 unfold zQ at h;exact ag 2 (bq (d h))
theorem acM(k:ao K)(j:Hy M b r a f g)(h:yK K n a g c d=some r):Tj M b r (I4 116::Qd M b r f) (SO a c d):=by
 unfold yK at h;refine ax 6 7 3 ?_;obtain⟨e,h⟩|⟨e,h⟩:=am h
 ·refine ah 11 e (cT 8 9 1 3 5 (aj 0 ?_));obtain⟨l,h⟩:=aD h;refine au (bB aK aB l (fu) (dR)) (ac (ax 2 3 1 (aj 1 ?_)));obtain⟨q,m,h⟩:=bind_some h;refine aU (IQ k m) (ac ?_);obtain⟨i,h⟩|⟨i,h⟩:=am h
  ·refine ah 15 i (bp 2 1 (aj 2 (au (gu aK ([(gD a.Kids c)]:d3) (new:=[aB (gD a.Kids c)]) (by simp only[th,By,dR])) ?_)));obtain⟨o,h⟩:=aD h;exact au (cw 19 19 48 59 aK (rfl) (fu) o) (ac (ag 0 (QJ k j h)))
  ·exact ah 15 i (ag 2 (QJ k j h))
 ·refine ah 11 e (gB 2 3 6 (aj 2 (m7 19 ?_)));obtain⟨s,p,h⟩:=bind_some h;refine aU (T3 k p) (ac (aN 1 ?_));cases h;exact jk
theorem aju(e:ao K)(m:Nat):Hy M b r a m (wB K n a m):=by
 induction m with
 | zero=>intro c d h;cases h
 | succ m f=>intro c d h;have h:yK K n a (wB K n a m) c d=some r:=h;exact bn (acM e f h)
theorem Oq(c:ao K)(h:tS K n a=some r):bc bb 141 [.agg (aB a)] (fun v _=>v=.tup [.sl (lm aK r.1),.bool r.2]):=by
 refine bH (cat Tryz.f141 (pn 1)) Tryz.func141 Tryz.ntmps141 fun M b=>(bm ⟨[(0,.agg (aB a))],[],[],[]⟩ ?_);unfold tS at h;exact cf 28 29 15 6 (aj 2 (au (bu aK a.Kids) (ac (gC 2 0 1 (bJ [4,8,9,10] [] [] (eQ 19 4 48 59 (ag 0 (ce (p:=pn 58) n (aju c n h)))))))))
end
noncomputable section
variable[GS](M:Nat→Prop)(b:aC)(r:bg)(a v2:bg)  
variable{M b r a v2}{K:Kn}{n:Nat}
theorem zn(c:ao K)(h:kC K n a v2=some r):bc bb 143 [.agg (cX a),.agg (cX v2)] (fun v _=>v=.agg (cX r)):=by
 refine bH (cat Tryz.f143 (pn 1)) Tryz.func143 Tryz.ntmps143 fun M b=>(bm ⟨[(0,.agg (cX a)),(1,.agg (cX v2))],[],[],[]⟩ ?_);unfold kC at h;refine aN 5 ?_;cases h;exact bE
end
noncomputable section
variable[GS](M:Nat→Prop)(j:aC)(r:dn×Int×bg×bg×Bool)(c:dn)(d:Int)(e:Bool)(a:Int)(g f:bg)(b:dn)(k:bg)(i:Int)(t:bg)(u:Int)(w:Bool)(x y o:bg)(l:Nat)(q:Int→Bool→Int→bg→bg→dn→Option (dn×Int×bg×bg×Bool))
abbrev JB:Cx:=⟨bb,52,M,j⟩
abbrev J5:=bodyPost bb Tryz.f142 (bP M j (fun v s=>v=.tup [.ref 43,iI r.2.1,.agg (cX r.2.2.1),.agg (cX r.2.2.2.1),.bool r.2.2.2.2]∧look 43 s.r=some (bx r.1)))
abbrev zw(a:dt)(s:AS):=VE (JB M j) (J5 M j r) a .normal s
abbrev l9(n:Nat):aq:=.c (cat Tryz.f142 (pn n))
abbrev Ir:dt:=[.b 0,l9 31]
abbrev BL:dt:=kl (JB M j) (J5 M j r) Ir (cat Tryz.f142 (pn 244)) l::Ir
def ae3:AS:=⟨[(2,.ref 43),(3,iI u),(4,.ptr 4 0),(5,.ptr 5 0),(6,.bool w),(7,.ptr 7 0),(9,.ptr 9 0),(10,.sl (lm aO c)),(11,iI (c.length:Int)),(12,iI a)],[(4,cX x),(5,cX dF),(7,cX y),(9,aG ({ (gD c a)with Y:=i }:ae))],[(43,(bx b))],[4,5,7,9,43]⟩
def aiC:AS:=⟨[(2,.ref 43),(4,.ptr 4 0),(5,.ptr 5 0),(7,.ptr 7 0),(9,.ptr 9 0),(10,.sl (lm aO c)),(11,iI (c.length:Int)),(12,iI a)],[(4,cX t),(5,cX dF),(7,cX k),(9,aG ({ (gD c a)with Y:=i }:ae))],[(43,(bx b))],[4,5,7,9,43]⟩
def abs:AS:=⟨[(2,.ref 43),(3,iI d),(4,.ptr 4 0),(5,.ptr 5 0),(6,.bool e),(7,.ptr 7 0),(9,.ptr 9 0),(10,.sl (lm aO c)),(11,iI (c.length:Int)),(12,iI a)],[(4,cX g),(5,cX dF),(7,cX k),(9,aG ({ (gD c a)with Y:=i }:ae))],[(43,(bx b))],[4,5,7,9,43]⟩
def acH:AS:=⟨[(2,.ref 43),(3,iI d),(4,.ptr 4 0),(5,.ptr 5 0),(6,.bool e),(7,.ptr 7 0)],[(4,cX o),(5,cX dF),(7,cX f)],[(43,(bx b))],[4,5,7,43]⟩
def SN:AS:=⟨[(2,.ref 43),(3,iI d),(4,.ptr 4 0),(5,.ptr 5 0),(6,.bool e),(7,.ptr 7 0),(10,.sl (lm aO c)),(11,iI (c.length:Int)),(12,iI a)],[(4,cX g),(5,cX dF),(7,cX f)],[(43,(bx b))],[4,5,7,43]⟩
abbrev xr:Prop:=∀{d:Int} {e:Bool} {a:Int} {g:bg} {f:bg} {b:dn},q d e a g f b=some r→LP (JB M j) (J5 M j r) Ir (cat Tryz.f142 (pn 244)) l (SN c d e a g f b)
variable{M j r c d e a g f b k i t u w x y o l q}{K:Kn}{n:Nat}
theorem Mh(f:ao K)(e:xr M j r c l q)(h:s5 K n c a b i q u w x y=some r):zw M j r (l9 125343 :: .b 1::l9 1959::BL M j r l) (ae3 c a b i u w x y):=by
 unfold s5 at h;refine aj 2 (au (gu aO ([({ (gD c a)with Y:=i }:ae)]:dn) (new:=[aG ({ (gD c a)with Y:=i }:ae)]) (by simp only[th,By,dN])) ?_);obtain⟨d,h⟩:=aD h;exact au (cw 43 43 44 67 aO (rfl) (j4) d) (ac (ag 2 (bq (e h))))
theorem Tb(e:ao K)(d:xr M j r c l q)(h:rZ K n c a b k i q t=some r):zw M j r (l9 1002741::l9 125343 :: .b 1::l9 1959::BL M j r l) (aiC c a b k i t):=by
 unfold rZ at h;exact ag 5 (Mh e d h)
theorem Ou(p:ao K)(o:xr M j r c l q)(h:vC K n c d e a g b k q i=some r):zw M j r (l9 62671 :: .b 1::l9 1959::BL M j r l) (abs c d e a g b k i):=by
 unfold vC at h;refine ax 5 3 3 ?_;obtain⟨f,h⟩|⟨f,h⟩:=am h
 ·refine ah 30 f (ax 9 5 4 ?_);obtain⟨m,h⟩|⟨m,h⟩:=am h
  ·exact ah 31 m (ag 2 (Tb p o h))
  ·exact ah 31 m (ag 2 (Tb p o h))
 ·exact ah 30 f (ag 2 (Mh p o h))
theorem PY(a:ao K)(h:qw K n d e f b o=some r):zw M j r [l9 63] (acH d e f b o):=by
 unfold qw at h;refine ax 2 3 1 (bJ [2,3,4,5,6,7] [4,5,7] [43] (bN 5 (nu 47 [.ref 43,iI d,.agg (cX o),.agg (cX f),.bool e]) [] [] [cd bb 52 Tryz.f142 (pn 126) 5,cd bb 52 Tryz.f142 (pn 126) 6,cd bb 52 Tryz.f142 (pn 126) 7,cd bb 52 Tryz.f142 (pn 126) 8,cd bb 52 Tryz.f142 (pn 126) 9] (av [.v 0 1,.v 0 2,.v 0 3,.v 0 4,.v 0 5] (ai (cb 0) (ai (cb 1) (ai (cb 2) (ai (cb 3) (ai (cb 4) bL)))))) (aN 1 ?_)));cases h;exact qt
theorem ace(p:ao K)(s:xr M j r c l q)(h:pF K n c q d e a g f b=some r):zw M j r (l9 244::BL M j r l) (SN c d e a g f b):=by
 unfold pF at h;refine ax 6 7 3 ?_;obtain⟨i,h⟩|⟨i,h⟩:=am h
 ·refine ah 13 i (cT 8 9 1 3 5 (aj 0 ?_));obtain⟨t,h⟩:=aD h;refine au (bB aO aG t (j4) (dN)) (ac (ax 2 3 1 (aj 3 ?_)));obtain⟨k,u,h⟩:=bind_some h;refine aU (zn p u) (ac (ax 13 7 5 ?_));obtain⟨m,h⟩|⟨m,h⟩:=am h
  ·refine ah 22 m (bp 2 1 (aj 2 ?_));obtain⟨w,v,h⟩:=bind_some h;exact aU (md p v) (ac (ag 0 (Ou p s h)))
  ·exact ah 22 m (ag 2 (Ou p s h))
 ·refine ah 13 i (gB 5 3 8 ?_);obtain⟨o,h⟩|⟨o,h⟩:=am h
  ·exact ah 45 o (ag 2 (PY p h))
  ·exact ah 45 o (ag 2 (PY p h))
theorem ajA(i:ao K)(m:Nat):xr M j r c m (jr K n c m):=by
 induction m with
 | zero=>intro d e a g f b h;cases h
 | succ m k=>intro d e a g f b h;have h:pF K n c (jr K n c m) d e a g f b=some r:=h;exact bn (ace i k h)
theorem abR(a:ao K)(h:lr K n c=some r):bc bb 142 [.sl (lm aO c)] (fun v s=>v=.tup [.ref 43,iI r.2.1,.agg (cX r.2.2.1),.agg (cX r.2.2.2.1),.bool r.2.2.2.2]∧look 43 s.r=some (bx r.1)):=by
 refine bH (cat Tryz.f142 (pn 1)) Tryz.func142 Tryz.ntmps142 fun M j=>(bm ⟨[(0,.sl (lm aO c))],[],[],[]⟩ ?_);unfold lr at h;exact cf 60 61 31 8 (aj 1 (au (bu aO c) (ac (gC 2 0 1 (bJ [2,3,4,5,6,7,10,11,12] [4,5,7] [] (eQ 43 2 44 67 (ag 0 (ce (p:=pn 122) n (ajA a n h)))))))))
end
noncomputable section
variable[GS](M:Nat→Prop)(b:aC)(r:Int)(a:bZ)  
variable{M b r a}{K:Kn}{n:Nat}
theorem adS(c:ao K)(h:Cz K n a=some r):bc bb 144 [.agg (cr a)] (fun v _=>v=iI r):=by
 refine bH (cat Tryz.f144 (pn 1)) Tryz.func144 Tryz.ntmps144 fun M b=>(bm ⟨[(0,.agg (cr a))],[],[],[]⟩ ?_);unfold Cz at h;refine aN 5 ?_;cases h;exact bE
end
noncomputable section
variable[GS](M:Nat→Prop)(a:aC)(r:Bool)(b:ab)(v2:Bool)  
abbrev aev(n:Nat):aq:=.c (cat Tryz.f145 (pn n))
abbrev aex:Cx:=⟨bb,16,M,a⟩
abbrev af2:=bodyPost bb Tryz.f145 (bP M a (fun v _=>v=.bool r))
abbrev XJ(b:dt)(s:AS):=VE (aex M a) (af2 M a r) b .normal s
def ahx:AS:=⟨[(2,.bool v2)],[],[],[]⟩
variable{M a r b v2}{K:Kn}{n:Nat}
theorem Hx(b:ao K)(h:vY K n v2=some r):XJ M a r [aev 7] (ahx v2):=by
 unfold vY at h;refine aN 1 ?_;cases h;exact bE
theorem P5(e:ao K)(h:uE K n b=some r):bc bb 145 [.agg (aB b)] (fun v _=>v=.bool r):=by
 refine bH (cat Tryz.f145 (pn 1)) Tryz.func145 Tryz.ntmps145 fun M a=>(bm ⟨[(0,.agg (aB b))],[],[],[]⟩ ?_);unfold uE at h;refine ax 6 7 3 (aj 4 ?_);obtain⟨c,h⟩|⟨c,h⟩:=am h
 ·exact aF 6 c (ac (ag 0 (Hx e h)))
 ·refine aF 6 c (aQ 9 5 ?_);obtain⟨d,h⟩|⟨d,h⟩:=am h
  ·exact aF 11 d (ac (ag 0 (Hx e h)))
  ·exact aF 11 d (ac (ag 0 (Hx e h)))
end
noncomputable section
variable[GS](M:Nat→Prop)(y:aC)(r:ae×Int×Int×dO)(j:ab)(v2:bZ)(E v4:Bool)(v5:bw)(v6 v7:Int)(v8:dO)(l:d3×Bool)(F:Int)(G:dn)(H I:Int)(J:dO)(z:Int)(A:Bool)(B C:bg)(b:dn)(d e:Int)(f:dO)(Q D:bg)(b0:Bool)(g:Int)(O:bg)(c0:Bool)(P:Int)(o q:bg)(t:Bool)(a0:Int×Bool)(d0:Bool)(e0 u w a:Int)(x N:dn)(f0:Bool)(g0:dn)(m1 m2:Nat)(L1:Int→dn→Int→Int→dO→Option hF)(L2:Int→dn→Option hF)
abbrev xL:Cx:=⟨bb,259,M,y⟩
abbrev xg:=bodyPost bb Tryz.f100 (bP M y (fun v s=>v=.agg (aG r.1)∧cB s.o [(af r.2.1 r.2.2.1)]∧look 440009 s.r=some (bt r.2.2.2)))
abbrev kN(a:dt)(s:AS):=VE (xL M y) (xg M y r) a .normal s
abbrev dL(n:Nat):aq:=.c (cat Tryz.f100 (pn n))
abbrev Fj:dt:=[.b 4,dL 131071]
abbrev zh:dt:=kl (xL M y) (xg M y r) Fj (cat Tryz.f100 (pn 1048564)) m2::Fj
abbrev Kx:dt:=[.b 0,dL 4075,dL 255]
abbrev ac2:dt:=kl (xL M y) (xg M y r) Kx (cat Tryz.f100 (pn 32596)) m1::Kx
def ag9:AS:=⟨[(6,.ptr 6 0),(10,.ptr 10 0),(11,.ptr 11 0),(12,.sl (lm aK l.1)),(13,.bool l.2),(15,iI g),(199,iI (b.length:Int)),(200,iI a)],[(6,cr v2),(10,List.set (aG bU) 66 (.nils)),(11,List.set (aG (⟨1,j.Node,v2.Margin.a3,0,(aa (v2.Content+u)),w,0,⟨#[]⟩,j.Style,o,q,t,[]⟩:ae)) 66 (.ref 1054)),(af d e)],[(1054,(bx g0)),(440009,(bt f))],[6,10,11,440001,1054,440009,1440001,440001]⟩
def agF:AS:=⟨[(6,.ptr 6 0),(10,.ptr 10 0),(11,.ptr 11 0),(12,.sl (lm aK l.1)),(13,.bool l.2),(15,iI g),(24,iI a),(199,iI (b.length:Int)),(200,iI a),(244,.bool f0)],[(6,cr v2),(10,List.set (aG bU) 66 (.nils)),(11,List.set (aG (⟨1,j.Node,v2.Margin.a3,0,(aa (v2.Content+u)),w,0,⟨#[]⟩,j.Style,o,q,t,[]⟩:ae)) 66 (.ref 1054)),(af d e)],[(1054,(bx N)),(440009,(bt f))],[6,10,11,440001,1054,440009,1440001,440001]⟩
def Us:AS:=⟨[(6,.ptr 6 0),(10,.ptr 10 0),(11,.ptr 11 0),(12,.sl (lm aK l.1)),(13,.bool l.2),(15,iI g),(199,iI (b.length:Int)),(200,iI a)],[(6,cr v2),(10,List.set (aG bU) 66 (.nils)),(11,List.set (aG (⟨1,j.Node,v2.Margin.a3,0,(aa (v2.Content+u)),w,0,⟨#[]⟩,j.Style,o,q,t,[]⟩:ae)) 66 (.ref 1054)),(af d e)],[(1054,(bx x)),(440009,(bt f))],[6,10,11,440001,1054,440009,1440001,440001]⟩
def XG:AS:=⟨[(6,.ptr 6 0),(10,.ptr 10 0),(11,.ptr 11 0),(12,.sl (lm aK l.1)),(13,.bool l.2),(14,iI e0),(15,iI g)],[(6,cr v2),(10,List.set (aG bU) 66 (.nils)),(11,List.set (aG ({ bU with Kind:=1,Node:=j.Node,Style:=j.Style,Before:=o,After:=q,Empty:=t }:ae)) 66 (.ref 1054)),(af d e)],[(1054,(bx b)),(440009,(bt f))],[6,10,11,440001,1054,440009,1440001,440001]⟩
def Zg:AS:=⟨[(6,.ptr 6 0),(10,.ptr 10 0),(11,.ptr 11 0),(12,.sl (lm aK l.1)),(13,.bool l.2),(14,iI (max P 0)),(15,iI g),(22,iI a0.1),(166,.bool d0)],[(6,cr v2),(10,List.set (aG bU) 66 (.nils)),(11,List.set (aG ({ bU with Kind:=1,Node:=j.Node,Style:=j.Style,Before:=o,After:=q,Empty:=t }:ae)) 66 (.ref 1054)),(af d e)],[(1054,(bx b)),(440009,(bt f))],[6,10,11,440001,1054,440009,1440001,440001]⟩
def ZP:AS:=⟨[(5,.ptr 5 0),(6,.ptr 6 0),(10,.ptr 10 0),(11,.ptr 11 0),(12,.sl (lm aK l.1)),(13,.bool l.2),(14,iI P),(15,iI g)],[(5,aB j),(6,cr v2),(10,List.set (aG bU) 66 (.nils)),(11,List.set (aG ({ bU with Kind:=1,Node:=j.Node,Style:=j.Style,Before:=o,After:=q,Empty:=t }:ae)) 66 (.ref 1054)),(af d e)],[(1054,(bx b)),(440009,(bt f))],[5,6,10,11,440001,1054,440009,1440001,440001]⟩
def ae9:AS:=⟨[(3,.bool v4),(5,.ptr 5 0),(6,.ptr 6 0),(10,.ptr 10 0),(11,.ptr 11 0),(12,.sl (lm aK l.1)),(13,.bool l.2),(14,iI z),(15,iI g),(16,.ptr 16 0),(17,.ptr 17 0),(18,.bool A),(113,.bool c0)],[(5,aB j),(6,cr v2),(10,List.set (aG bU) 66 (.nils)),(11,List.set (aG ({ bU with Kind:=1,Node:=j.Node,Style:=j.Style,Before:=O,After:=D }:ae)) 66 (.ref 1054)),(16,cX B),(17,cX C),(af d e)],[(1054,(bx b)),(440009,(bt f))],[5,6,10,11,16,17,440001,1054,440009,1440001,440001]⟩
def ZX:AS:=⟨[(2,.bool E),(3,.bool v4),(5,.ptr 5 0),(6,.ptr 6 0),(10,.ptr 10 0),(11,.ptr 11 0),(12,.sl (lm aK l.1)),(13,.bool l.2),(14,iI z),(15,iI g),(16,.ptr 16 0),(17,.ptr 17 0),(18,.bool A)],[(5,aB j),(6,cr v2),(10,List.set (aG bU) 66 (.nils)),(11,List.set (aG ({ bU with Kind:=1,Node:=j.Node,Style:=j.Style,Before:=O,After:=D }:ae)) 66 (.ref 1054)),(16,cX B),(17,cX C),(af d e)],[(1054,(bx b)),(440009,(bt f))],[5,6,10,11,16,17,440001,1054,440009,1440001,440001]⟩
def Zn:AS:=⟨[(2,.bool E),(3,.bool v4),(5,.ptr 5 0),(6,.ptr 6 0),(10,.ptr 10 0),(11,.ptr 11 0),(12,.sl (lm aK l.1)),(13,.bool l.2),(14,iI z),(15,iI 0),(16,.ptr 16 0),(17,.ptr 17 0),(18,.bool A),(98,.bool b0)],[(5,aB j),(6,cr v2),(10,List.set (aG bU) 66 (.nils)),(11,List.set (aG ({ bU with Kind:=1,Node:=j.Node,Style:=j.Style,Before:=Q,After:=D }:ae)) 66 (.ref 1054)),(16,cX B),(17,cX C),(af d e)],[(1054,(bx b)),(440009,(bt f))],[5,6,10,11,16,17,440001,1054,440009,1440001,440001]⟩
def aba:AS:=⟨[(2,.bool E),(3,.bool v4),(5,.ptr 5 0),(6,.ptr 6 0),(10,.ptr 10 0),(11,.ptr 11 0),(12,.sl (lm aK l.1)),(13,.bool l.2),(14,iI z),(15,iI 0),(16,.ptr 16 0),(17,.ptr 17 0),(18,.bool A)],[(5,aB j),(6,cr v2),(10,List.set (aG bU) 66 (.nils)),(11,List.set (aG ({ bU with Kind:=1,Node:=j.Node,Style:=j.Style }:ae)) 66 (.ref 1054)),(16,cX B),(17,cX C),(af d e)],[(1054,(bx b)),(440009,(bt f))],[5,6,10,11,16,17,440001,1054,440009,1440001,440001]⟩
def SQ:AS:=⟨[(2,.bool E),(3,.bool v4),(5,.ptr 5 0),(6,.ptr 6 0),(9,.ptr 9 0),(10,.ptr 10 0),(11,.ptr 11 0),(12,.sl (lm aK l.1)),(13,.bool l.2),(15,iI 0),(16,.ptr 16 0),(17,.ptr 17 0),(19,.ref 50),(36,.sl (lm aK l.1)),(37,iI (l.1.length:Int)),(38,iI F)],[(5,aB j),(6,cr v2),(9,bO v5),(10,List.set (aG bU) 66 (.nils)),(11,List.set (aG ({ bU with Kind:=1,Node:=j.Node,Style:=j.Style }:ae)) 66 (.nils)),(16,cX dF),(17,cX dF),(af H I)],[(50,(bx G)),(440009,(bt J))],[5,6,9,10,11,16,17,440001,50,440009,1440001,440001]⟩
abbrev Ub:Prop:=∀{F:Int} {G:dn} {H:Int} {I:Int} {J:dO},L1 F G H I J=some r→LP (xL M y) (xg M y r) Kx (cat Tryz.f100 (pn 32596)) m1 (SQ j v2 E v4 v5 l F G H I J)
abbrev BF:Prop:=∀{a:Int} {x:dn},L2 a x=some r→LP (xL M y) (xg M y r) Fj (cat Tryz.f100 (pn 1048564)) m2 (Us j v2 l b d e f g o q t u w a x)
variable{M y r j v2 E v4 v5 v6 v7 v8 l F G H I J z A B C b d e f Q D b0 g O c0 P o q t a0 d0 e0 u w a x N f0 g0 m1 m2 L1 L2}{K:Kn}{n:Nat}[SG y]
theorem Q4(i:ao K)(c:BF M y r j v2 l b d e f g o q t u w m2 L2)(h:Am K n j v2 l b d e f g o q t u w a L2 g0=some r):kN M y r (.b 5::dL 8388519::zh M y r m2) (ag9 j v2 l b d e f g o q t u w a g0):=by
 unfold Am at h;exact ag 2 (bq (c h))
theorem QQ(x:ao K)(p:BF M y r j v2 l b d e f g o q t u w m2 L2)(h:xZ K n j v2 l b d e f g o q t u w a N L2 f0=some r):kN M y r (dL 268432591 :: .b 5::dL 8388519::zh M y r m2) (agF j v2 l b d e f g o q t u w a N f0):=by
 unfold xZ at h;obtain⟨c,h⟩|⟨c,h⟩:=am h
 ·refine ah 244 c (bp 2 1 (bJ [6,10,11,12,13,15,24,199,200] [6,10,11,440001] [1054,440009] ?_));obtain⟨s,h⟩:=aD h;obtain⟨k,v,h⟩:=bind_some h;obtain⟨i,h⟩:=aD h;exact bN 1 (nu 245 [.ptr 11 66,.ref 1054,iI a,.ptr 11 66,.ref 1054,iI a,.eptr 1054 67 (a.toNat) 0,.agg (aG (gD N a)),.ptr 6 12,iI v2.Content,.agg (aG k),.eptr 1054 67 (a.toNat) 0]) [] [] [ec 1054 ⟨44,67,lm aO (List.set N a.toNat k)⟩] (av (vz 6) (bh (cD 1054 67 aO (L:=N) s) (bh (bI 44 0 aO aG (bD i).2 (dN)) (av (vz 2) (ai (co 0 1 255 (N0 x v)) (bh (cD 1054 67 aO (L:=N) i) (ai (dd (m:=0) (dz 1054 44 67 0 aO aG k (bD i).2 (dN))) bL))))))) (ag 0 (Q4 x p h))
 ·exact ah 244 c (ag 2 (Q4 x p h))
theorem ZR(G:ao K)(z:BF M y r j v2 l b d e f g o q t u w m2 L2)(h:zj K n j v2 l b d e f g o q t u w L2 a x=some r):kN M y r (dL 1048564::zh M y r m2) (Us j v2 l b d e f g o q t u w a x):=by
 unfold zj at h;refine ax 6 7 3 ?_;obtain⟨s,h⟩|⟨s,h⟩:=am h
 ·refine ah 201 s (cT 18 19 5 3 7 (bJ [6,10,11,12,13,15,24,199,200] [6,10,11,440001] [1054,440009] ?_));obtain⟨A,h⟩:=aD h;obtain⟨i,h⟩:=aD h;refine bN 1 (nu 203 [.ptr 11 66,.ref 1054,iI a,.eptr 1054 67 (a.toNat) 0,.eptr 1054 67 (a.toNat) 2,iI ((gD x a).X),.ptr 6 4,.ptr 6 7,iI v2.Border.a3,.ptr 6 8,.ptr 6 11,iI v2.Padding.a3,iI (aa (v2.Border.a3+v2.Padding.a3)),iI (aa (((gD x a).X)+(aa (v2.Border.a3+v2.Padding.a3)))),.eptr 1054 67 (a.toNat) 0,.eptr 1054 67 (a.toNat) 2]) [] [] [ec 1054 ⟨44,67,lm aO (List.set x a.toNat ({ (gD x a)with X:=(aa (((gD x a).X)+(aa (v2.Border.a3+v2.Padding.a3)))) }:ae))⟩] (av (vz 3) (bh (cD 1054 67 aO (L:=x) A) (av [.v 0 1] (bh (bI 3 2 aO aG (bD i).2 (dN)) (av (vz 8) (ai (fh (lo:=0) (k:=2) (da ⟨(by kernel_rfl),(dc (cD 1054 67 aO (L:=x) i) (by kernel_rfl))⟩ (da ⟨(by kernel_rfl),(dc (cD 1054 67 aO (L:=(List.set x a.toNat ({ (gD x a)with X:=(aa (((gD x a).X)+(aa (v2.Border.a3+v2.Padding.a3)))) }:ae))) i) (by kernel_rfl))⟩ ft))) (av [.v 0 1] (ai (dd (m:=0) (dz 1054 44 67 2 aO aG ({ (gD x a)with X:=(aa (((gD x a).X)+(aa (v2.Border.a3+v2.Padding.a3)))) }:ae) (bD i).2 (dN))) bL)))))))) ?_
  obtain⟨c,B,h⟩:=bV h;refine bz (ks':=dL 134216294::dL 134216295 :: .b 5::dL 8388519::zh M y r m2) 1 ⟨[(6,.ptr 6 0),(10,.ptr 10 0),(11,.ptr 11 0),(12,.sl (lm aK l.1)),(13,.bool l.2),(15,iI g),(24,iI a),(199,iI (b.length:Int)),(200,iI a)],[(6,cr v2),(10,List.set (aG bU) 66 (.nils)),(11,List.set (aG (⟨1,j.Node,v2.Margin.a3,0,(aa (v2.Content+u)),w,0,⟨#[]⟩,j.Style,o,q,t,[]⟩:ae)) 66 (.ref 1054)),(af d e)],[(1054,(bx c)),(440009,(bt f))],[6,10,11,440001,1054,440009,1440001,440001]⟩ ?_ (by subst B;kernel_rfl);obtain⟨C,h⟩:=aD h;obtain⟨p,h⟩:=aD h;refine bN 1 (nu 219 [.ptr 11 66,.ref 1054,iI a,.eptr 1054 67 (a.toNat) 0,.eptr 1054 67 (a.toNat) 3,iI ((gD c a).Y),.ptr 6 4,.ptr 6 4,iI v2.Border.a0,.ptr 6 8,.ptr 6 8,iI v2.Padding.a0,iI (aa (v2.Border.a0+v2.Padding.a0)),iI g,iI (aa ((aa (v2.Border.a0+v2.Padding.a0))+g)),iI (aa (((gD c a).Y)+(aa ((aa (v2.Border.a0+v2.Padding.a0))+g)))),.eptr 1054 67 (a.toNat) 0,.eptr 1054 67 (a.toNat) 3]) [] [] [ec 1054 ⟨44,67,lm aO (List.set c a.toNat ({ (gD c a)with Y:=(aa (((gD c a).Y)+(aa ((aa (v2.Border.a0+v2.Padding.a0))+g)))) }:ae))⟩] (av (vz 3) (bh (cD 1054 67 aO (L:=c) C) (av [.v 0 1] (bh (bI 3 3 aO aG (bD p).2 (dN)) (av (vz 10) (ai (fh (lo:=0) (k:=2) (da ⟨(by kernel_rfl),(dc (cD 1054 67 aO (L:=c) p) (by kernel_rfl))⟩ (da ⟨(by kernel_rfl),(dc (cD 1054 67 aO (L:=(List.set c a.toNat ({ (gD c a)with Y:=(aa (((gD c a).Y)+(aa ((aa (v2.Border.a0+v2.Padding.a0))+g)))) }:ae))) p) (by kernel_rfl))⟩ ft))) (av [.v 0 1] (ai (dd (m:=0) (dz 1054 44 67 3 aO aG ({ (gD c a)with Y:=(aa (((gD c a).Y)+(aa ((aa (v2.Border.a0+v2.Padding.a0))+g)))) }:ae) (bD p).2 (dN))) bL)))))))) ?_
  obtain⟨N,D,h⟩:=bV h;refine bz (ks':=dL 268432590::dL 268432591 :: .b 5::dL 8388519::zh M y r m2) 1 ⟨[(6,.ptr 6 0),(10,.ptr 10 0),(11,.ptr 11 0),(12,.sl (lm aK l.1)),(13,.bool l.2),(15,iI g),(24,iI a),(199,iI (b.length:Int)),(200,iI a)],[(6,cr v2),(10,List.set (aG bU) 66 (.nils)),(11,List.set (aG (⟨1,j.Node,v2.Margin.a3,0,(aa (v2.Content+u)),w,0,⟨#[]⟩,j.Style,o,q,t,[]⟩:ae)) 66 (.ref 1054)),(af d e)],[(1054,(bx N)),(440009,(bt f))],[6,10,11,440001,1054,440009,1440001,440001]⟩ ?_ (by subst D;kernel_rfl);refine aj 2 ?_;obtain⟨v,h⟩|⟨v,h⟩:=am h
  ·refine aF 238 v (aQ 4 2 ?_);obtain⟨E,h⟩:=aD h;refine au (bB aK aB E (fu) (dR)) (aQ 6 1 ?_);obtain⟨H,F,h⟩:=bind_some h;exact aU (P5 G F) (ac (ag 0 (QQ G z h)))
  ·exact aF 238 v (ac (ag 0 (QQ G z h)))
 ·refine ah 201 s (aN 8 (gq 1054 ?_));cases h;exact fm
theorem W9(c:ao K)(m:Nat):BF M y r j v2 l b d e f g o q t u w m (vn K n j v2 l b d e f g o q t u w m):=by
 induction m with
 | zero=>intro a x h;cases h
 | succ m i=>intro a x h;have h:zj K n j v2 l b d e f g o q t u w (vn K n j v2 l b d e f g o q t u w m) a x=some r:=h;exact bn (ZR c i h)
theorem Ln(i:ao K)(h:rT K n j v2 l b d e f g o q t e0=some r):kN M y r [dL 8191] (XG j v2 l b d e f g o q t e0):=by
 unfold rT at h;refine ax 6 7 3 (bJ [6,10,11,12,13,14,15] [6,10,11,440001] [1054,440009] ?_);obtain⟨u,a,h⟩:=bind_some h;refine bN 1 (nu 173 [.ptr 6 12,iI v2.Content,.agg (cr v2),iI u,iI (aa (v2.Content+u)),.ptr 11 4]) [] [] [cd bb 259 Tryz.f100 (pn 32766) 6] (av (vz 3) (ai (co 0 1 176 (adS i a)) (av (vz 2) (ai (cb 0) bL)))) ?_;obtain⟨w,c,h⟩:=bV h;refine bz (ks':=[dL 262140,dL 262141,dL 131071]) 4 ⟨[(6,.ptr 6 0),(10,.ptr 10 0),(11,.ptr 11 0),(12,.sl (lm aK l.1)),(13,.bool l.2),(15,iI g)],[(6,cr v2),(10,List.set (aG bU) 66 (.nils)),(11,List.set (aG (⟨1,j.Node,v2.Margin.a3,0,(aa (v2.Content+u)),w,0,⟨#[]⟩,j.Style,o,q,t,[]⟩:ae)) 66 (.ref 1054)),(af d e)],[(1054,(bx b)),(440009,(bt f))],[6,10,11,440001,1054,440009,1440001,440001]⟩ ?_ (by subst c;kernel_rfl);exact aj 2 (au (bu aO b) (ac (ag 1 (ce (p:=pn 524282) n (W9 i n h)))))
theorem SJ(c:ao K)(h:za K n j v2 l b d e f g P o q t a0 d0=some r):kN M y r [dL 32763,dL 8191] (Zg j v2 l b d e f g P o q t a0 d0):=by
 unfold za at h;obtain⟨a,h⟩|⟨a,h⟩:=am h
 ·exact ah 166 a (ag 2 (Ln c h))
 ·exact ah 166 a (ag 2 (Ln c h))
theorem xb(i:ao K)(h:mh K n j v2 l b d e f g P o q t=some r):kN M y r [.b 3,dL 2047] (ZP j v2 l b d e f g P o q t):=by
 unfold mh at h;refine oI 12 13 7 5 (aj 3 ?_);obtain⟨a0,c,h⟩:=bind_some h;refine aU (ep i c) (ac (ax 2 3 1 (aj 2 ?_)));obtain⟨a,h⟩|⟨a,h⟩:=am h
 ·exact aF 160 a (ac (ag 0 (SJ i h)))
 ·exact aF 160 a (ac (ag 0 (SJ i h)))
theorem Js(a:ao K)(h:sC K n j v2 v4 l z A B C b d e f D g O c0=some r):kN M y r [dL 8185,.b 3,dL 2047] (ae9 j v2 v4 l z A B C b d e f D g O c0):=by
 unfold sC at h;obtain⟨c,h⟩|⟨c,h⟩:=am h
 ·refine ah 113 c (ax 4 5 2 (aj 4 ?_));obtain⟨t,o,h⟩:=bind_some h;exact aU (zn a o) (ac (ag 5 (xb a h)))
 ·refine ah 113 c (bp 7 3 ?_);obtain⟨i,h⟩|⟨i,h⟩:=am h
  ·refine ah 131 i (bp 11 5 ?_);obtain⟨k,h⟩|⟨k,h⟩:=am h
   ·refine ah 134 k (bp 2 1 (aj 3 ?_));obtain⟨u,p,h⟩:=bind_some h;exact aU (zn a p) (ac (ag 0 (xb a h)))
   ·exact ah 134 k (ag 2 (xb a h))
  ·refine ah 131 i (bp 7 3 ?_);obtain⟨m,h⟩|⟨m,h⟩:=am h
   ·refine ah 140 m (ax 4 5 2 (aj 3 ?_));obtain⟨v,q,h⟩:=bind_some h;exact aU (zn a q) (ac (ag 1 (xb a h)))
   ·refine ah 140 m (bp 3 1 (aj 3 ?_));obtain⟨w,s,h⟩:=bind_some h;exact aU (md a s) (ac (ag 0 (xb a h)))
theorem Km(i:ao K)(h:ub K n j v2 E v4 l z A B C b d e f D g O=some r):kN M y r [.b 2,dL 1023] (ZX j v2 E v4 l z A B C b d e f D g O):=by
 unfold ub at h;refine cT 8 9 3 3 4 (aj 2 ?_);obtain⟨a,h⟩|⟨a,h⟩:=am h
 ·refine aF 115 a (aQ 5 3 ?_);obtain⟨c,h⟩|⟨c,h⟩:=am h
  ·exact aF 118 c (ac (ag 0 (Js i h)))
  ·exact aF 118 c (ac (ag 0 (Js i h)))
 ·exact aF 115 a (ac (ag 0 (Js i h)))
theorem Qh(g:ao K)(h:xJ K n j v2 E v4 l z A B C b d e f Q D b0=some r):kN M y r [dL 16359,.b 2,dL 1023] (Zn j v2 E v4 l z A B C b d e f Q D b0):=by
 unfold xJ at h;obtain⟨a,h⟩|⟨a,h⟩:=am h
 ·refine ah 98 a (bp 2 1 (aj 1 ?_));obtain⟨i,c,h⟩:=bind_some h;exact aU (md g c) (ac (ag 0 (Km g h)))
 ·exact ah 98 a (ag 2 (Km g h))
theorem UW(g:ao K)(h:pj K n j v2 E v4 l z A B C b d e f=some r):kN M y r [dL 255] (aba j v2 E v4 l z A B C b d e f):=by
 unfold pj at h;refine ax 2 3 1 (bJ [2,3,5,6,10,11,12,13,14,15,16,17,18] [5,6,10,11,16,17,440001] [1054,440009] ?_);obtain⟨Q,i,h⟩:=bind_some h;obtain⟨D,k,h⟩:=bind_some h;refine bN 2 (nu 81 [.ptr 6 0,.ptr 6 0,iI v2.Margin.a0,.agg (cX Q),.ptr 6 0,.ptr 6 2,iI v2.Margin.a2,.agg (cX D),.ptr 11 61,.ptr 11 63]) [] [] [cd bb 259 Tryz.f100 (pn 510) 9,cd bb 259 Tryz.f100 (pn 510) 11] (av (vz 3) (ai (co 0 1 84 (Cc g i)) (av [.v 0 2,.v 0 2,.v 0 2] (ai (co 0 1 88 (Cc g k)) (av [.v 0 1] (ai (cb 0) (av [.v 1 1] (ai (cb 1) bL)))))))) (gJ 9 2 3 4 ?_);obtain⟨a,h⟩|⟨a,h⟩:=am h
 ·refine ah 91 a (bp 2 1 (aj 3 ?_));obtain⟨o,m,h⟩:=bind_some h;exact aU (zn g m) (ac (ag 0 (Km g h)))
 ·refine ah 91 a (ax 6 7 2 (aj 3 ?_));obtain⟨c,h⟩|⟨c,h⟩:=am h
  ·exact aF 101 c (ac (ag 0 (Qh g h)))
  ·exact aF 101 c (ac (ag 0 (Qh g h)))
theorem ajY(d:ao K)(k:Ub M y r j v2 E v4 v5 l m1 L1)(h:Ah K n j v2 E v4 v5 l L1 F G H I J=some r):kN M y r (dL 32596::ac2 M y r m1) (SQ j v2 E v4 v5 l F G H I J):=by
 unfold Ah at h;refine ax 6 7 3 ?_;obtain⟨a,h⟩|⟨a,h⟩:=am h
 ·refine ah 39 a (cT 8 9 1 3 5 (aj 0 ?_));obtain⟨e,h⟩:=aD h;refine au (bB aK aB e (fu) (dR)) (ac (aj 6 ?_));obtain⟨c,b,h⟩:=bind_some h;refine qa (d.dw b).2 ?_ (d.dw b).1;refine au (gu aO ([c.1]:dn) (new:=[aG c.1]) (by simp only[th,By,dN])) ?_;obtain⟨f,h⟩:=aD h;exact au (cw 50 50 44 67 aO (rfl) (j4) f) (ac (ag 2 (bq (k h))))
 ·refine ah 39 a (bX (ks':=[dL 4075,dL 255]) 5 (aj 1 (m7 50 ?_)));obtain⟨m,g,h⟩:=bind_some h;exact eT 1054 (abR d g) (C3 (i:=0) rfl) (ac (ag 0 (UW d h)))
theorem agq(a:ao K)(m:Nat):Ub M y r j v2 E v4 v5 l m (qN K n j v2 E v4 v5 l m):=by
 induction m with
 | zero=>intro F G H I J h;cases h
 | succ m b=>intro F G H I J h;have h:Ah K n j v2 E v4 v5 l (qN K n j v2 E v4 v5 l m) F G H I J=some r:=h;exact bn (ajY a b h)
theorem LL(a:ao K)(h:j7 K n j v2 E v4 v5 v6 v7 v8=some r):eP bb 100 [.agg (aB j),.agg (cr v2),.bool E,.bool v4,.agg (bO v5)] [(af v6 v7)] (bt v8) (fun v s=>v=.agg (aG r.1)∧cB s.o [(af r.2.1 r.2.2.1)]∧look 440009 s.r=some (bt r.2.2.2)):=by
 refine jK (c:=cat Tryz.f100 []) Tryz.func100 (by kernel_rfl) _ Tryz.ntmps100 (lp (by kernel_rfl)) fun M y=>(bm ⟨[(0,.agg (aB j)),(1,.agg (cr v2)),(2,.bool E),(3,.bool v4),(4,.agg (bO v5))],[(af v6 v7)],[(440009,(bt v8))],[440009,440001,1440001]⟩ ?_);unfold j7 at h;refine bX (ks':=[dL 14,dL 15]) 5 (aj 1 ?_);obtain⟨l,g,h⟩:=bind_some h;refine aU (Oq a g) (ac (ax 61 31 9 ?_));obtain⟨e,h⟩|⟨e,h⟩:=am h
 ·exact ah 35 e (cf 20 21 11 5 (aj 1 (au (bu aK l.1) (ac (gC 2 0 1 (bJ [2,3,5,6,9,10,11,12,13,15,16,17,19,36,37,38] [5,6,9,10,11,16,17,440001] [440009] (eQ 50 19 44 67 (ag 0 (ce (p:=pn 16298) n (agq a n h))))))))))
 ·refine ah 35 e (ax 6 7 2 (aj 7 ?_));obtain⟨i,b,h⟩:=bind_some h;refine lT (a.wY b) (ac (ax 2 3 1 (aj 2 ?_)));obtain⟨f,d,h⟩:=bind_some h;exact eT 1075 (Iz a d) (eO 5) (ac (aj 2 (au (bu aO f) (ac (bJ [2,3,5,6,10,11,12,13,14,15,16,17,18] [5,6,10,11,16,17,440001] [1075,440009] (pG 1075 1054 (ag 0 (UW a h))))))))
end
noncomputable section
variable[GS](M:Nat→Prop)(d:aC)(r:ae×Int×Int×dO)(a:ab)(v2:Int)(b:bw)(v4 v5:Int)(v6:dO)(e:bZ)(f g:Bool)  
abbrev C8(n:Nat):aq:=.c (cat Tryz.f47 (pn n))
abbrev adJ:Cx:=⟨bb,58,M,d⟩
abbrev Xn:=bodyPost bb Tryz.f47 (bP M d (fun v s=>v=.agg (aG r.1)∧cB s.o [(af r.2.1 r.2.2.1)]∧look 440009 s.r=some (bt r.2.2.2)))
abbrev LO(a:dt)(s:AS):=VE (adJ M d) (Xn M d r) a .normal s
def ahj:AS:=⟨[(3,.ptr 3 0),(5,.ptr 5 0),(6,.ptr 6 0),(7,.ptr 7 0),(9,.bool f),(10,.bool g)],[(3,aB a),(5,bO b),(6,List.set (aG bU) 66 (.nils)),(7,cr e),(af v4 v5)],[(440009,(bt v6))],[3,5,6,7,440001,440009,1440001,440001]⟩
def acQ:AS:=⟨[(3,.ptr 3 0),(5,.ptr 5 0),(6,.ptr 6 0),(7,.ptr 7 0),(8,.bool (a.Style.Overflow == 0)),(9,.bool f)],[(3,aB a),(5,bO b),(6,List.set (aG bU) 66 (.nils)),(7,cr e),(af v4 v5)],[(440009,(bt v6))],[3,5,6,7,440001,440009,1440001,440001]⟩
variable{M d r a v2 b v4 v5 v6 e f g}{K:Kn}{n:Nat}[SG d]
theorem Es(i:ao K)(h:rX K n a b v4 v5 v6 e f g=some r):LO M d r [C8 63] (ahj a b v4 v5 v6 e f g):=by
 unfold rX at h;refine ax 2 3 1 (aj 5 ?_);obtain⟨j,c,h⟩:=bind_some h;refine qa (LL i c) (ac (aN 1 ?_));cases h;exact fm
theorem KI(c:ao K)(h:oK K n a b v4 v5 v6 e f=some r):LO M d r [C8 31] (acQ a b v4 v5 v6 e f):=by
 unfold oK at h;refine ax 2 3 1 (aj 2 ?_);obtain⟨g,h⟩|⟨g,h⟩:=am h
 ·refine aF 33 g (aQ 8 6 ?_);obtain⟨i,h⟩|⟨i,h⟩:=am h
  ·refine aF 39 i (aQ 14 6 ?_);obtain⟨j,h⟩|⟨j,h⟩:=am h
   ·exact aF 45 j (ac (ag 0 (Es c h)))
   ·exact aF 45 j (ac (ag 0 (Es c h)))
  ·exact aF 39 i (ac (ag 0 (Es c h)))
 ·exact aF 33 g (ac (ag 0 (Es c h)))
theorem Wm(f:ao K)(h:nI K n a v2 b v4 v5 v6=some r):eP bb 47 [.agg (aB a),iI v2,.agg (bO b)] [(af v4 v5)] (bt v6) (fun v s=>v=.agg (aG r.1)∧cB s.o [(af r.2.1 r.2.2.1)]∧look 440009 s.r=some (bt r.2.2.2)):=by
 refine jK (c:=cat Tryz.f47 []) Tryz.func47 (by kernel_rfl) _ Tryz.ntmps47 (lp (by kernel_rfl)) fun M d=>(bm ⟨[(0,.agg (aB a)),(1,iI v2),(2,.agg (bO b))],[(af v4 v5)],[(440009,(bt v6))],[440009,440001,1440001]⟩ ?_);unfold nI at h;refine bX (ks':=[C8 6,C8 7]) 3 (aj 3 ?_);obtain⟨e,j,h⟩:=bind_some h;refine aU (JS f j) (ac (ax 6 7 3 (aj 2 ?_)));obtain⟨g,h⟩|⟨g,h⟩:=am h
 ·refine aF 20 g (aQ 8 6 ?_);obtain⟨i,h⟩|⟨i,h⟩:=am h
  ·exact aF 26 i (ac (ag 0 (KI f h)))
  ·exact aF 26 i (ac (ag 0 (KI f h)))
 ·exact aF 20 g (ac (ag 0 (KI f h)))
end
noncomputable section
variable[GS](M:Nat→Prop)(d:aC)(r:ae×Int×Int×dO)(b:ab)(v2:Int)(p:Bool)(v4:bw)(v5:Bool)(v6 q:Int)(t:dO)(e f:Int)(g:dO)(a:ae)(i j:Int)(k:dO)(l m:Int)(o:dO)  
abbrev u9(n:Nat):aq:=.c (cat Tryz.f43 (pn n))
abbrev Zs:Cx:=⟨bb,54,M,d⟩
abbrev q43:=bodyPost bb Tryz.f43 (bP M d (fun v s=>v=.agg (aG r.1)∧cB s.o [(af r.2.1 r.2.2.1)]∧look 440009 s.r=some (bt r.2.2.2)))
abbrev Hs(a:dt)(s:AS):=VE (Zs M d) (q43 M d r) a .normal s
def abo:AS:=⟨[(7,.ptr 7 0),(10,.ptr 10 0)],[(7,List.set (aG bU) 66 (.nils)),(10,aG a),(af l m)],[(440009,(bt o))],[7,10,440001,440009,1440001,440001]⟩
def acE:AS:=⟨[(1,iI v2),(4,.cptr ([ey 37 v5])),(5,.ptr 5 0),(7,.ptr 7 0),(10,.ptr 10 0)],[(5,aB b),(7,List.set (aG bU) 66 (.nils)),(10,aG a),(af i j)],[(440009,(bt k))],[5,7,10,440001,440009,1440001,440001]⟩
def agI:AS:=⟨[(1,iI v2),(3,.cptr (bO v4)),(4,.cptr ([ey 37 v5])),(5,.ptr 5 0),(7,.ptr 7 0)],[(5,aB b),(7,List.set (aG bU) 66 (.nils)),(af e f)],[(440009,(bt g))],[5,7,440001,440009,1440001,440001]⟩
variable{M d r b v2 p v4 v5 v6 q t e f g a i j k l m o}{K:Kn}{n:Nat}[SG d]
theorem Si(b:ao K)(h:Cw K n a l m o=some r):Hs M d r [u9 63] (abo a l m o):=by
 unfold Cw at h;refine aN 3 ?_;cases h;exact fm
theorem M3(g:ao K)(h:tq K n b v2 v5 a i j k=some r):Hs M d r [.b 0,u9 31] (acE b v2 v5 a i j k):=by
 unfold tq at h;refine oI 4 5 3 3 (aj 1 (Lf 37 v5 .neq 89 89 (.tmp 46) (.const .nilFunc) 47 (ac ?_)));obtain⟨c,h⟩|⟨c,h⟩:=am h
 ·refine ah 47 c (bp 2 1 (aj 4 ?_));obtain⟨f,h⟩:=aD h;obtain⟨l,e,h⟩:=bind_some h;exact Et 48 (v:=ey 37 v5) (v':=.vv (jj 37 GS.g)) (by kernel_rfl) (by rw[f];rfl) rfl (Sl (acZ g e) (ac (ag 0 (Si g h))))
 ·exact ah 47 c (ag 2 (Si g h))
theorem Ls(a:ao K)(h:ur K n b v2 v4 v5 e f g=some r):Hs M d r [u9 7] (agI b v2 v4 v5 e f g):=by
 unfold ur at h;refine gJ 53 0 7 8 ?_;obtain⟨c,h⟩|⟨c,h⟩:=am h
 ·refine ah 28 c (bp 2 1 (aj 3 ?_));obtain⟨m,k,h⟩:=bind_some h;exact qa (aa7 a k) (ac (ag 0 (M3 a h)))
 ·refine ah 28 c (bp 7 3 ?_);obtain⟨i,h⟩|⟨i,h⟩:=am h
  ·refine ah 34 i ?_;cases h
  ·refine ah 34 i (bp 7 3 ?_);obtain⟨j,h⟩|⟨j,h⟩:=am h
   ·refine ah 40 j ?_;cases h
   ·refine ah 40 j (bp 3 1 (aj 3 ?_));obtain⟨o,l,h⟩:=bind_some h;exact qa (Wm a l) (ac (ag 0 (M3 a h)))
theorem acl(f:ao K)(h:ki K n b v2 p v4 v5 v6 q t=some r):eP bb 43 [.agg (aB b),iI v2,.cptr ([ey 36 p]),.cptr (bO v4),.cptr ([ey 37 v5])] [(af v6 q)] (bt t) (fun v s=>v=.agg (aG r.1)∧cB s.o [(af r.2.1 r.2.2.1)]∧look 440009 s.r=some (bt r.2.2.2)):=by
 refine jK (c:=cat Tryz.f43 []) Tryz.func43 (by kernel_rfl) _ Tryz.ntmps43 (lp (by kernel_rfl)) fun M d=>(bm ⟨[(0,.agg (aB b)),(1,iI v2),(2,.cptr ([ey 36 p])),(3,.cptr (bO v4)),(4,.cptr ([ey 37 v5]))],[(af v6 q)],[(440009,(bt t))],[440009,440001,1440001]⟩ ?_);unfold ki at h;refine bX (ks':=[u9 12,u9 13,u9 7]) 4 (aj 1 (Lf 36 p .neq 66 66 (.tmp 11) (.const .nilFunc) 12 (ac ?_)));obtain⟨a,h⟩|⟨a,h⟩:=am h
 ·refine ah 12 a (ax 4 5 2 (aj 3 ?_));obtain⟨i,h⟩:=aD h;obtain⟨j,g,h⟩:=bind_some h;refine Et 14 (v:=ey 36 p) (v':=.vv (jj 36 GS.g)) (by kernel_rfl) (by rw[i];rfl) rfl (Sl (XZ f g) (ac (bp 3 2 ?_)));obtain⟨e,h⟩|⟨e,h⟩:=am h
  ·refine ah 20 e (aN 5 ?_);cases h;exact fm
  ·exact ah 20 e (ag 2 (Ls f h))
 ·exact ah 12 a (ag 2 (Ls f h))
end
noncomputable section
variable[GS](M:Nat→Prop)(a:aC)(r k:aP)(v2:Nat)(o v4 v5 v6 p q t b d f g:aP)  
abbrev eD(n:Nat):aq:=.c (cat Tryz.f101 (pn n))
abbrev KO:Cx:=⟨bb,40,M,a⟩
abbrev KR:=bodyPost bb Tryz.f101 (bP M a (fun v _=>v=.agg (aH r)))
abbrev kz(b:dt)(s:AS):=VE (KO M a) (KR M a r) b .normal s
def V7:AS:=⟨[(1,.pp 1 v2 0),(2,.ptr 2 0),(24,.ref 10),(25,iI 11),(26,iI 10)],[(1,aH g),(2,aH cv)],[(10,⟨201,1,lm aY (ap v2)⟩)],[1,2,10]⟩
def aaF:AS:=⟨[(1,.pp 1 v2 0),(2,.ptr 2 0),(24,.ref 10),(25,iI 11),(26,iI 9)],[(1,aH f),(2,aH cv)],[(10,⟨201,1,lm aY (ap v2)⟩)],[1,2,10]⟩
def Zz:AS:=⟨[(1,.pp 1 v2 0),(2,.ptr 2 0),(24,.ref 10),(25,iI 11),(26,iI 8)],[(1,aH d),(2,aH cv)],[(10,⟨201,1,lm aY (ap v2)⟩)],[1,2,10]⟩
def agv:AS:=⟨[(1,.pp 1 v2 0),(2,.ptr 2 0),(24,.ref 10),(25,iI 11),(26,iI 7)],[(1,aH b),(2,aH cv)],[(10,⟨201,1,lm aY (ap v2)⟩)],[1,2,10]⟩
def Xf:AS:=⟨[(1,.pp 1 v2 0),(2,.ptr 2 0),(24,.ref 10),(25,iI 11),(26,iI 6)],[(1,aH t),(2,aH cv)],[(10,⟨201,1,lm aY (ap v2)⟩)],[1,2,10]⟩
def aeW:AS:=⟨[(1,.pp 1 v2 0),(2,.ptr 2 0),(24,.ref 10),(25,iI 11),(26,iI 5)],[(1,aH q),(2,aH cv)],[(10,⟨201,1,lm aY (ap v2)⟩)],[1,2,10]⟩
def Yf:AS:=⟨[(1,.pp 1 v2 0),(2,.ptr 2 0),(24,.ref 10),(25,iI 11),(26,iI 4)],[(1,aH p),(2,aH cv)],[(10,⟨201,1,lm aY (ap v2)⟩)],[1,2,10]⟩
def WG:AS:=⟨[(1,.pp 1 v2 0),(2,.ptr 2 0),(24,.ref 10),(25,iI 11),(26,iI 3)],[(1,aH v6),(2,aH cv)],[(10,⟨201,1,lm aY (ap v2)⟩)],[1,2,10]⟩
def ajy:AS:=⟨[(1,.pp 1 v2 0),(2,.ptr 2 0),(24,.ref 10),(25,iI 11),(26,iI 2)],[(1,aH v5),(2,aH cv)],[(10,⟨201,1,lm aY (ap v2)⟩)],[1,2,10]⟩
def aca:AS:=⟨[(1,.pp 1 v2 0),(2,.ptr 2 0),(24,.ref 10),(25,iI 11),(26,iI 1)],[(1,aH v4),(2,aH cv)],[(10,⟨201,1,lm aY (ap v2)⟩)],[1,2,10]⟩
def Ws:AS:=⟨[(1,.pp 1 v2 0),(2,.ptr 2 0),(24,.ref 10),(25,iI 11),(26,iI 0)],[(1,aH o),(2,aH cv)],[(10,⟨201,1,lm aY (ap v2)⟩)],[1,2,10]⟩
abbrev eS(m:Nat):dt:=kl (KO M a) (KR M a r) [.b 2,eD 31] (cat Tryz.f101 (pn 244)) m::[.b 2,eD 31]
abbrev xQ(m:Nat):dt:=kl (KO M a) (KR M a r) [.b 0,eD 15] (cat Tryz.f101 (pn 116)) m::[.b 0,eD 15]
variable{M a r k v2 o v4 v5 v6 p q t b d f g}{K:Kn}{n:Nat}
theorem Pk(b:ao K)(h:yg K n g=some r):kz M a r (.b 3::eD 1959::eS M a r 29) (V7 v2 g):=by
 unfold yg at h;refine bz (ks':=eS M a r 29) 2 ⟨[(1,.pp 1 v2 0),(2,.ptr 2 0),(24,.ref 10),(25,iI 11),(26,iI 11)],[(1,aH g),(2,aH cv)],[(10,⟨201,1,lm aY (ap v2)⟩)],[1,2,10]⟩ (bq (bn (aN 11 ?_)));cases h;exact bE
theorem RO(c:ao K)(h:vm K n f=some r):kz M a r (.b 3::eD 1959::eS M a r 30) (aaF v2 f):=by
 unfold vm at h;refine bz (ks':=eS M a r 30) 2 ⟨[(1,.pp 1 v2 0),(2,.ptr 2 0),(24,.ref 10),(25,iI 11),(26,iI 10)],[(1,aH f),(2,aH cv)],[(10,⟨201,1,lm aY (ap v2)⟩)],[1,2,10]⟩ (bq (bn (dE 56 57 3 15 8 (aj 0 (au (cp 10 1 aY (L:=(ap v2)) (i:=(10:Int)) (by kernel_rfl)) (au (bI 201 0 aY aY (L:=(ap v2)) (j:=(10:Int).toNat) (lp (by kernel_rfl)) aT) (ac (ax 2 3 1 (aj 3 (c7 32 1 1 v2 28 0 (ac ?_)))))))))));obtain⟨b,h⟩|⟨b,h⟩:=am h
 ·exact ah 34 b (bp 2 1 (aj 3 (c7 37 1 1 v2 28 0 (ac (ag 0 (Pk c (v2:=v2) h))))))
 ·exact ah 34 b (ag 2 (Pk c (v2:=v2) h))
theorem Pj(c:ao K)(h:uT K n d=some r):kz M a r (.b 3::eD 1959::eS M a r 31) (Zz v2 d):=by
 unfold uT at h;refine bz (ks':=eS M a r 31) 2 ⟨[(1,.pp 1 v2 0),(2,.ptr 2 0),(24,.ref 10),(25,iI 11),(26,iI 9)],[(1,aH d),(2,aH cv)],[(10,⟨201,1,lm aY (ap v2)⟩)],[1,2,10]⟩ (bq (bn (dE 56 57 3 15 8 (aj 0 (au (cp 10 1 aY (L:=(ap v2)) (i:=(9:Int)) (by kernel_rfl)) (au (bI 201 0 aY aY (L:=(ap v2)) (j:=(9:Int).toNat) (lp (by kernel_rfl)) aT) (ac (ax 2 3 1 (aj 3 (c7 32 1 1 v2 20 0 (ac ?_)))))))))));obtain⟨b,h⟩|⟨b,h⟩:=am h
 ·exact ah 34 b (bp 2 1 (aj 3 (c7 37 1 1 v2 20 0 (ac (ag 0 (RO c (v2:=v2) h))))))
 ·exact ah 34 b (ag 2 (RO c (v2:=v2) h))
theorem N9(d:ao K)(h:vh K n b=some r):kz M a r (.b 3::eD 1959::eS M a r 32) (agv v2 b):=by
 unfold vh at h;refine bz (ks':=eS M a r 32) 2 ⟨[(1,.pp 1 v2 0),(2,.ptr 2 0),(24,.ref 10),(25,iI 11),(26,iI 8)],[(1,aH b),(2,aH cv)],[(10,⟨201,1,lm aY (ap v2)⟩)],[1,2,10]⟩ (bq (bn (dE 56 57 3 15 8 (aj 0 (au (cp 10 1 aY (L:=(ap v2)) (i:=(8:Int)) (by kernel_rfl)) (au (bI 201 0 aY aY (L:=(ap v2)) (j:=(8:Int).toNat) (lp (by kernel_rfl)) aT) (ac (ax 2 3 1 (aj 3 (c7 32 1 1 v2 26 0 (ac ?_)))))))))));obtain⟨c,h⟩|⟨c,h⟩:=am h
 ·exact ah 34 c (bp 2 1 (aj 3 (c7 37 1 1 v2 26 0 (ac (ag 0 (Pj d (v2:=v2) h))))))
 ·exact ah 34 c (ag 2 (Pj d (v2:=v2) h))
theorem QM(c:ao K)(h:rN K n t=some r):kz M a r (.b 3::eD 1959::eS M a r 33) (Xf v2 t):=by
 unfold rN at h;refine bz (ks':=eS M a r 33) 2 ⟨[(1,.pp 1 v2 0),(2,.ptr 2 0),(24,.ref 10),(25,iI 11),(26,iI 7)],[(1,aH t),(2,aH cv)],[(10,⟨201,1,lm aY (ap v2)⟩)],[1,2,10]⟩ (bq (bn (dE 56 57 3 15 8 (aj 0 (au (cp 10 1 aY (L:=(ap v2)) (i:=(7:Int)) (by kernel_rfl)) (au (bI 201 0 aY aY (L:=(ap v2)) (j:=(7:Int).toNat) (lp (by kernel_rfl)) aT) (ac (ax 2 3 1 (aj 3 (c7 32 1 1 v2 18 0 (ac ?_)))))))))));obtain⟨b,h⟩|⟨b,h⟩:=am h
 ·exact ah 34 b (bp 2 1 (aj 3 (c7 37 1 1 v2 18 0 (ac (ag 0 (N9 c (v2:=v2) h))))))
 ·exact ah 34 b (ag 2 (N9 c (v2:=v2) h))
theorem Up(c:ao K)(h:ux K n q=some r):kz M a r (.b 3::eD 1959::eS M a r 34) (aeW v2 q):=by
 unfold ux at h;refine bz (ks':=eS M a r 34) 2 ⟨[(1,.pp 1 v2 0),(2,.ptr 2 0),(24,.ref 10),(25,iI 11),(26,iI 6)],[(1,aH q),(2,aH cv)],[(10,⟨201,1,lm aY (ap v2)⟩)],[1,2,10]⟩ (bq (bn (dE 56 57 3 15 8 (aj 0 (au (cp 10 1 aY (L:=(ap v2)) (i:=(6:Int)) (by kernel_rfl)) (au (bI 201 0 aY aY (L:=(ap v2)) (j:=(6:Int).toNat) (lp (by kernel_rfl)) aT) (ac (ax 2 3 1 (aj 3 (c7 32 1 1 v2 24 0 (ac ?_)))))))))));obtain⟨b,h⟩|⟨b,h⟩:=am h
 ·exact ah 34 b (bp 2 1 (aj 3 (c7 37 1 1 v2 24 0 (ac (ag 0 (QM c (v2:=v2) h))))))
 ·exact ah 34 b (ag 2 (QM c (v2:=v2) h))
theorem PJ(c:ao K)(h:uS K n p=some r):kz M a r (.b 3::eD 1959::eS M a r 35) (Yf v2 p):=by
 unfold uS at h;refine bz (ks':=eS M a r 35) 2 ⟨[(1,.pp 1 v2 0),(2,.ptr 2 0),(24,.ref 10),(25,iI 11),(26,iI 5)],[(1,aH p),(2,aH cv)],[(10,⟨201,1,lm aY (ap v2)⟩)],[1,2,10]⟩ (bq (bn (dE 56 57 3 15 8 (aj 0 (au (cp 10 1 aY (L:=(ap v2)) (i:=(5:Int)) (by kernel_rfl)) (au (bI 201 0 aY aY (L:=(ap v2)) (j:=(5:Int).toNat) (lp (by kernel_rfl)) aT) (ac (ax 2 3 1 (aj 3 (c7 32 1 1 v2 16 0 (ac ?_)))))))))));obtain⟨b,h⟩|⟨b,h⟩:=am h
 ·exact ah 34 b (bp 2 1 (aj 3 (c7 37 1 1 v2 16 0 (ac (ag 0 (Up c (v2:=v2) h))))))
 ·exact ah 34 b (ag 2 (Up c (v2:=v2) h))
theorem TV(c:ao K)(h:uX K n v6=some r):kz M a r (.b 3::eD 1959::eS M a r 36) (WG v2 v6):=by
 unfold uX at h;refine bz (ks':=eS M a r 36) 2 ⟨[(1,.pp 1 v2 0),(2,.ptr 2 0),(24,.ref 10),(25,iI 11),(26,iI 4)],[(1,aH v6),(2,aH cv)],[(10,⟨201,1,lm aY (ap v2)⟩)],[1,2,10]⟩ (bq (bn (dE 56 57 3 15 8 (aj 0 (au (cp 10 1 aY (L:=(ap v2)) (i:=(4:Int)) (by kernel_rfl)) (au (bI 201 0 aY aY (L:=(ap v2)) (j:=(4:Int).toNat) (lp (by kernel_rfl)) aT) (ac (ax 2 3 1 (aj 3 (c7 32 1 1 v2 22 0 (ac ?_)))))))))));obtain⟨b,h⟩|⟨b,h⟩:=am h
 ·exact ah 34 b (bp 2 1 (aj 3 (c7 37 1 1 v2 22 0 (ac (ag 0 (PJ c (v2:=v2) h))))))
 ·exact ah 34 b (ag 2 (PJ c (v2:=v2) h))
theorem SM(c:ao K)(h:s9 K n v5=some r):kz M a r (.b 3::eD 1959::eS M a r 37) (ajy v2 v5):=by
 unfold s9 at h;refine bz (ks':=eS M a r 37) 2 ⟨[(1,.pp 1 v2 0),(2,.ptr 2 0),(24,.ref 10),(25,iI 11),(26,iI 3)],[(1,aH v5),(2,aH cv)],[(10,⟨201,1,lm aY (ap v2)⟩)],[1,2,10]⟩ (bq (bn (dE 56 57 3 15 8 (aj 0 (au (cp 10 1 aY (L:=(ap v2)) (i:=(3:Int)) (by kernel_rfl)) (au (bI 201 0 aY aY (L:=(ap v2)) (j:=(3:Int).toNat) (lp (by kernel_rfl)) aT) (ac (ax 2 3 1 (aj 3 (c7 32 1 1 v2 14 0 (ac ?_)))))))))));obtain⟨b,h⟩|⟨b,h⟩:=am h
 ·exact ah 34 b (bp 2 1 (aj 3 (c7 37 1 1 v2 14 0 (ac (ag 0 (TV c (v2:=v2) h))))))
 ·exact ah 34 b (ag 2 (TV c (v2:=v2) h))
theorem Rk(c:ao K)(h:uf K n v4=some r):kz M a r (.b 3::eD 1959::eS M a r 38) (aca v2 v4):=by
 unfold uf at h;refine bz (ks':=eS M a r 38) 2 ⟨[(1,.pp 1 v2 0),(2,.ptr 2 0),(24,.ref 10),(25,iI 11),(26,iI 2)],[(1,aH v4),(2,aH cv)],[(10,⟨201,1,lm aY (ap v2)⟩)],[1,2,10]⟩ (bq (bn (dE 56 57 3 15 8 (aj 0 (au (cp 10 1 aY (L:=(ap v2)) (i:=(2:Int)) (by kernel_rfl)) (au (bI 201 0 aY aY (L:=(ap v2)) (j:=(2:Int).toNat) (lp (by kernel_rfl)) aT) (ac (ax 2 3 1 (aj 3 (c7 32 1 1 v2 12 0 (ac ?_)))))))))));obtain⟨b,h⟩|⟨b,h⟩:=am h
 ·exact ah 34 b (bp 2 1 (aj 3 (c7 37 1 1 v2 12 0 (ac (ag 0 (SM c (v2:=v2) h))))))
 ·exact ah 34 b (ag 2 (SM c (v2:=v2) h))
theorem R1(c:ao K)(h:s7 K n o=some r):kz M a r (.b 3::eD 1959::eS M a r 39) (Ws v2 o):=by
 unfold s7 at h;refine bz (ks':=eS M a r 39) 2 ⟨[(1,.pp 1 v2 0),(2,.ptr 2 0),(24,.ref 10),(25,iI 11),(26,iI 1)],[(1,aH o),(2,aH cv)],[(10,⟨201,1,lm aY (ap v2)⟩)],[1,2,10]⟩ (bq (bn (dE 56 57 3 15 8 (aj 0 (au (cp 10 1 aY (L:=(ap v2)) (i:=(1:Int)) (by kernel_rfl)) (au (bI 201 0 aY aY (L:=(ap v2)) (j:=(1:Int).toNat) (lp (by kernel_rfl)) aT) (ac (ax 2 3 1 (aj 3 (c7 32 1 1 v2 10 0 (ac ?_)))))))))));obtain⟨b,h⟩|⟨b,h⟩:=am h
 ·exact ah 34 b (bp 2 1 (aj 3 (c7 37 1 1 v2 10 0 (ac (ag 0 (Rk c (v2:=v2) h))))))
 ·exact ah 34 b (ag 2 (Rk c (v2:=v2) h))
theorem aeU(d:ao K)(h:wT K n k=some r):bc bb 101 [.agg (aH k)] (fun v _=>v=.agg (aH r)):=by
 refine bH (cat Tryz.f101 (pn 1)) Tryz.func101 Tryz.ntmps101 fun M a=>(bm ⟨[(0,.agg (aH k))],[],[],[]⟩ ?_);unfold wT at h;refine ax 6 7 3 (UT 1 1 0 fun v2=>(aj 3 (PE 202 3 #[(0,(.tmp 7)),(1,(.tmp 8)),(2,(.tmp 9))] 10 (e:=201) (sz:=1) (l:=lm aY [(v2,6),(v2,10),(v2,12)]) (ac (bz (ks':=[eD 58,.b 0,eD 15]) 4 ⟨[(1,.pp 1 v2 0),(2,.ptr 2 0),(3,.ref 10),(11,iI 0)],[(1,aH k),(2,aH cv)],[(10,⟨201,1,lm aY [(v2,6),(v2,10),(v2,12)]⟩)],[1,2,10]⟩ (oE 40 (c:=cat Tryz.f101 [1,1,0,1,0,0]) (by kernel_rfl) (bn (bX (ks':=eD 3737 :: .b 1::eD 935::xQ M a r 39) 9 (bJ [1,2,3,4,11] [1,2] [10] (bN 2 (nu 14 [.ref 10,iI 0,.adr v2 14,.adr v2 14,iI 0,.adr v2 22,.adr v2 22,.sl (lm aY [(v2,14),(v2,22)])]) [] [] [fS 22 10 ⟨201,1,lm aY [(v2,6),(v2,10),(v2,12),(v2,14),(v2,22)]⟩,cd bb 40 Tryz.f101 (pn 3737) 9] (av [.v 0 1,.v 0 2,.v 0 2,.v 0 2,.v 0 2,.v 0 2,.v 0 2,.v 0 1] (ai (dd (m:=0) (cw 22 10 201 1 aY (L:=([(v2,6),(v2,10),(v2,12)]:hZ)) (M:=([(v2,14),(v2,22)]:hZ)) (bytes:=8) (rfl) aT (by kernel_rfl))) (ai (cb 1) bL))) (bz (ks':=xQ M a r 39) 2 ⟨[(1,.pp 1 v2 0),(2,.ptr 2 0),(3,.ref 10),(11,iI 1)],[(1,aH k),(2,aH cv)],[(10,⟨201,1,lm aY [(v2,6),(v2,10),(v2,12),(v2,14),(v2,22)]⟩)],[1,2,10]⟩ (bq (bn (gJ 57 1 15 9 (bJ [1,2,3,4,11] [1,2] [10] (bN 2 (nu 14 [.ref 10,iI 1,.adr v2 14,.adr v2 16,iI 1,.adr v2 22,.adr v2 24,.sl (lm aY [(v2,16),(v2,24)])]) [] [] [fS 22 10 ⟨201,1,lm aY [(v2,6),(v2,10),(v2,12),(v2,14),(v2,22),(v2,16),(v2,24)]⟩,cd bb 40 Tryz.f101 (pn 3737) 9] (av [.v 0 1,.v 0 2,.v 0 2,.v 0 2,.v 0 2,.v 0 2,.v 0 2,.v 0 1] (ai (dd (m:=0) (cw 22 10 201 1 aY (L:=([(v2,6),(v2,10),(v2,12),(v2,14),(v2,22)]:hZ)) (M:=([(v2,16),(v2,24)]:hZ)) (bytes:=8) (rfl) aT (by kernel_rfl))) (ai (cb 1) bL))) (bz (ks':=xQ M a r 38) 2 ⟨[(1,.pp 1 v2 0),(2,.ptr 2 0),(3,.ref 10),(11,iI 2)],[(1,aH k),(2,aH cv)],[(10,⟨201,1,lm aY [(v2,6),(v2,10),(v2,12),(v2,14),(v2,22),(v2,16),(v2,24)]⟩)],[1,2,10]⟩ (bq (bn (gJ 57 1 15 9 (bJ [1,2,3,4,11] [1,2] [10] (bN 2 (nu 14 [.ref 10,iI 2,.adr v2 14,.adr v2 18,iI 2,.adr v2 22,.adr v2 26,.sl (lm aY [(v2,18),(v2,26)])]) [] [] [fS 22 10 ⟨201,1,lm aY [(v2,6),(v2,10),(v2,12),(v2,14),(v2,22),(v2,16),(v2,24),(v2,18),(v2,26)]⟩,cd bb 40 Tryz.f101 (pn 3737) 9] (av [.v 0 1,.v 0 2,.v 0 2,.v 0 2,.v 0 2,.v 0 2,.v 0 2,.v 0 1] (ai (dd (m:=0) (cw 22 10 201 1 aY (L:=([(v2,6),(v2,10),(v2,12),(v2,14),(v2,22),(v2,16),(v2,24)]:hZ)) (M:=([(v2,18),(v2,26)]:hZ)) (bytes:=8) (rfl) aT (by kernel_rfl))) (ai (cb 1) bL))) (bz (ks':=xQ M a r 37) 2 ⟨[(1,.pp 1 v2 0),(2,.ptr 2 0),(3,.ref 10),(11,iI 3)],[(1,aH k),(2,aH cv)],[(10,⟨201,1,lm aY [(v2,6),(v2,10),(v2,12),(v2,14),(v2,22),(v2,16),(v2,24),(v2,18),(v2,26)]⟩)],[1,2,10]⟩ ?_)))))))))))))))))))))))
 refine bq (bn (gJ 57 1 15 9 (bJ [1,2,3,4,11] [1,2] [10] (bN 2 (nu 14 [.ref 10,iI 3,.adr v2 14,.adr v2 20,iI 3,.adr v2 22,.adr v2 28,.sl (lm aY [(v2,20),(v2,28)])]) [] [] [fS 22 10 ⟨201,1,lm aY (ap v2)⟩,cd bb 40 Tryz.f101 (pn 3737) 9] (av [.v 0 1,.v 0 2,.v 0 2,.v 0 2,.v 0 2,.v 0 2,.v 0 2,.v 0 1] (ai (dd (m:=0) (cw 22 10 201 1 aY (L:=([(v2,6),(v2,10),(v2,12),(v2,14),(v2,22),(v2,16),(v2,24),(v2,18),(v2,26)]:hZ)) (M:=([(v2,20),(v2,28)]:hZ)) (bytes:=8) (rfl) aT (by kernel_rfl))) (ai (cb 1) bL))) (bz (ks':=xQ M a r 36) 2 ⟨[(1,.pp 1 v2 0),(2,.ptr 2 0),(3,.ref 10),(11,iI 4)],[(1,aH k),(2,aH cv)],[(10,⟨201,1,lm aY (ap v2)⟩)],[1,2,10]⟩ (bq (bn (Ur 4 5 3 10 (aj 1 (au (bu aY (ap v2)) (ac (bz (ks':=[eD 122,.b 2,eD 31]) 1 ⟨[(1,.pp 1 v2 0),(2,.ptr 2 0),(24,.ref 10),(25,iI 11),(26,iI 0)],[(1,aH k),(2,aH cv)],[(10,⟨201,1,lm aY (ap v2)⟩)],[1,2,10]⟩ (oE 40 (c:=cat Tryz.f101 [1,1,1,0,1,0,0]) (by kernel_rfl) (bn (bX (ks':=eD 7832::eD 7833 :: .b 3::eD 1959::eS M a r 39) 8 (aj 0 (au (cp 10 1 aY (L:=(ap v2)) (i:=(0:Int)) (by kernel_rfl)) (au (bI 201 0 aY aY (L:=(ap v2)) (j:=(0:Int).toNat) (lp (by kernel_rfl)) aT) (ac (ax 2 3 1 (aj 3 (c7 32 1 1 v2 6 0 (ac ?_)))))))))))))))))))))))
 obtain⟨b,h⟩|⟨b,h⟩:=am h
 ·exact ah 34 b (bp 2 1 (aj 3 (c7 37 1 1 v2 6 0 (ac (ag 0 (R1 d (v2:=v2) h))))))
 ·exact ah 34 b (ag 2 (R1 d (v2:=v2) h))
end
noncomputable section
variable[GS](M:Nat→Prop)(b:aC)(r a:Int)(v2:aP)  
variable{M b r a v2}{K:Kn}{n:Nat}
theorem Ud(c:ao K)(h:xz K n a v2=some r):bc bb 103 [iI a,.cptr (aH v2)] (fun v _=>v=iI r):=by
 refine bH (cat Tryz.f103 (pn 1)) Tryz.func103 Tryz.ntmps103 fun M b=>(bm ⟨[(0,iI a),(1,.cptr (aH v2))],[],[],[]⟩ ?_);unfold xz at h;refine ax 6 7 3 (bJ [0,1] [] [] ?_);obtain⟨i,d,h⟩:=bind_some h;obtain⟨v4,e,h⟩:=bind_some h;obtain⟨v5,f,h⟩:=bind_some h;obtain⟨v6,g,h⟩:=bind_some h;refine bN 1 (nu 4 [.agg (aH v2),.agg (aH v2),iI a,iI i,iI v4,.agg (cr v5),iI v6]) [] [] [cd bb 11 Tryz.f103 (pn 6) 7] (av (vz 3) (ai (co 0 1 7 (mS c d)) (ai (co 0 1 8 (wM c e)) (ai (co 0 1 9 (mC c f)) (ai (co 0 1 10 (nG c g)) (ai (cb 0) bL)))))) (aN 1 ?_);cases h;exact bE
end
noncomputable section
variable[GS](M:Nat→Prop)(d:aC)(r:Int×Int)(e:ab)(v2:bw)(c:aP)(v5:d3)(f b a:Int)(g:Int×Int)(j k l o q:Int)(i:Nat)(t:Int→Int→Int→Option em)
abbrev JO:Cx:=⟨bb,70,M,d⟩
abbrev Im:=bodyPost bb Tryz.f49 (bP M d (fun v _=>v=.tup [iI r.1,iI r.2]))
abbrev BM(a:dt)(s:AS):=VE (JO M d) (Im M d r) a .normal s
abbrev rh(n:Nat):aq:=.c (cat Tryz.f49 (pn n))
abbrev Gu:dt:=[.b 0,rh 15]
abbrev D3:dt:=kl (JO M d) (Im M d r) Gu (cat Tryz.f49 (pn 956)) i::Gu
def agw:AS:=⟨[(2,.ptr 2 0),(3,.ptr 3 0),(4,iI k),(5,iI l),(6,.ptr 6 0),(27,.ref 1027),(28,iI (v5.length:Int)),(29,iI a)],[(2,aB e),(3,bO v2),(6,aH c)],[(1027,(bY v5))],[2,3,6,1027]⟩
def Zb:AS:=⟨[(2,.ptr 2 0),(3,.ptr 3 0),(4,iI j),(5,iI (aa (b+g.2))),(6,.ptr 6 0),(27,.ref 1027),(28,iI (v5.length:Int)),(29,iI a)],[(2,aB e),(3,bO v2),(6,aH c)],[(1027,(bY v5))],[2,3,6,1027]⟩
def aaL:AS:=⟨[(4,iI o),(5,iI q),(6,.ptr 6 0)],[(6,aH c)],[],[6]⟩
def RC:AS:=⟨[(2,.ptr 2 0),(3,.ptr 3 0),(4,iI f),(5,iI b),(6,.ptr 6 0),(27,.ref 1027),(28,iI (v5.length:Int)),(29,iI a)],[(2,aB e),(3,bO v2),(6,aH c)],[(1027,(bY v5))],[2,3,6,1027]⟩
abbrev Bt:Prop:=∀{f:Int} {b:Int} {a:Int},t f b a=some r→LP (JO M d) (Im M d r) Gu (cat Tryz.f49 (pn 956)) i (RC e v2 c v5 f b a)
variable{M d r e v2 c v5 f b a g j k l o q i t}{K:Kn}{n:Nat}
theorem OA(f:ao K)(b:Bt M d r e v2 c v5 i t)(h:z9 K n e v2 c v5 a t k l=some r):BM M d r (rh 7655::D3 M d r i) (agw e v2 c v5 a k l):=by
 unfold z9 at h;exact ag 1 (bq (b h))
theorem Tu(k:ao K)(f:Bt M d r e v2 c v5 i t)(h:A4 K n e v2 c v5 b a g t j=some r):BM M d r (.b 1::rh 7655::D3 M d r i) (Zb e v2 c v5 b a g j):=by
 unfold A4 at h;exact ag 1 (OA k f h)
theorem Oe(e:ao K)(h:pD K n c o q=some r):BM M d r [rh 15] (aaL c o q):=by
 unfold pD at h;refine ax 2 3 1 (aj 0 (nO 6 6 (aH c) (sd 103 #[(.tmp 6)] [.cptr (aH c)] (ac (ax 2 3 1 (aj 2 ?_))))));obtain⟨f,a,h⟩:=bind_some h;refine aU (Ud e a) (aQ 5 2 ?_);obtain⟨g,b,h⟩:=bind_some h;refine aU (Ud e b) (ac (aN 1 ?_));cases h;exact jk
theorem ajz(p:ao K)(m:Bt M d r e v2 c v5 i t)(h:wN K n e v2 c v5 t f b a=some r):BM M d r (rh 956::D3 M d r i) (RC e v2 c v5 f b a):=by
 unfold wN at h;refine ax 6 7 3 ?_;obtain⟨j,h⟩|⟨j,h⟩:=am h
 ·refine ah 30 j (cT 8 9 1 3 5 (aj 0 ?_));obtain⟨o,h⟩:=aD h;refine au (cp 1027 59 aK o) (au (bI 48 0 aK aB (bD o).2 (dR)) (ac (ax 2 3 1 (aj 3 ?_))));obtain⟨g,q,h⟩:=bind_some h;refine lT (p.gv q) (ac (ax 5 3 3 ?_));obtain⟨k,h⟩|⟨k,h⟩:=am h
  ·exact ah 43 k (ag 6 (OA p m h))
  ·refine ah 43 k (bX (ks':=rh 489887 :: .b 1::rh 7655::D3 M d r i) 6 ?_);obtain⟨l,h⟩|⟨l,h⟩:=am h
   ·exact ah 55 l (ag 2 (Tu p m h))
   ·exact ah 55 l (ag 2 (Tu p m h))
 ·exact ah 30 j (ag 5 (Oe p h))
theorem adp(g:ao K)(m:Nat):Bt M d r e v2 c v5 m (vo K n e v2 c v5 m):=by
 induction m with
 | zero=>intro f b a h;cases h
 | succ m i=>intro f b a h;have h:wN K n e v2 c v5 (vo K n e v2 c v5 m) f b a=some r:=h;exact bn (ajz g i h)
theorem afG(a:ao K)(h:rP K n e v2=some r):bc bb 49 [.agg (aB e),.agg (bO v2)] (fun v _=>v=.tup [iI r.1,iI r.2]):=by
 refine bH (cat Tryz.f49 (pn 1)) Tryz.func49 Tryz.ntmps49 fun M d=>(bm ⟨[(0,.agg (aB e)),(1,.agg (bO v2))],[],[],[]⟩ ?_);unfold rP at h;refine ax 6 7 3 (aj 2 ?_);obtain⟨c,f,h⟩:=bind_some h;refine aU (aeU a f) (ac (cf 4 5 3 2 (aj 2 ?_)));obtain⟨v4,g,h⟩:=bind_some h;refine aU (ep a g) (ac (bp 3 2 ?_));obtain⟨b,h⟩|⟨b,h⟩:=am h
 ·exact ah 23 b (ag 2 (Oe a h))
 ·refine ah 23 b (ax 6 7 2 (aj 1 ?_));obtain⟨v5,i,h⟩:=bind_some h;exact eT 1027 (H1 a i) (eO 21) (au (bu aK v5) (ac (ag 1 (ce (p:=pn 478) n (adp a n h)))))
end
noncomputable section
variable[GS](M:Nat→Prop)(a:aC)(r k:aP)(v2:Nat)(o v4 v5 v6 p q t b d f g:aP)  
abbrev eF(n:Nat):aq:=.c (cat Tryz.f108 (pn n))
abbrev IC:Cx:=⟨bb,40,M,a⟩
abbrev Ht:=bodyPost bb Tryz.f108 (bP M a (fun v _=>v=.agg (aH r)))
abbrev kA(b:dt)(s:AS):=VE (IC M a) (Ht M a r) b .normal s
def ZW:AS:=⟨[(1,.pp 1 v2 0),(2,.ptr 2 0),(24,.ref 10),(25,iI 11),(26,iI 10)],[(1,aH g),(2,aH cv)],[(10,⟨201,1,lm aY (ap v2)⟩)],[1,2,10]⟩
def acg:AS:=⟨[(1,.pp 1 v2 0),(2,.ptr 2 0),(24,.ref 10),(25,iI 11),(26,iI 9)],[(1,aH f),(2,aH cv)],[(10,⟨201,1,lm aY (ap v2)⟩)],[1,2,10]⟩
def XS:AS:=⟨[(1,.pp 1 v2 0),(2,.ptr 2 0),(24,.ref 10),(25,iI 11),(26,iI 8)],[(1,aH d),(2,aH cv)],[(10,⟨201,1,lm aY (ap v2)⟩)],[1,2,10]⟩
def ajg:AS:=⟨[(1,.pp 1 v2 0),(2,.ptr 2 0),(24,.ref 10),(25,iI 11),(26,iI 7)],[(1,aH b),(2,aH cv)],[(10,⟨201,1,lm aY (ap v2)⟩)],[1,2,10]⟩
def XK:AS:=⟨[(1,.pp 1 v2 0),(2,.ptr 2 0),(24,.ref 10),(25,iI 11),(26,iI 6)],[(1,aH t),(2,aH cv)],[(10,⟨201,1,lm aY (ap v2)⟩)],[1,2,10]⟩
def V9:AS:=⟨[(1,.pp 1 v2 0),(2,.ptr 2 0),(24,.ref 10),(25,iI 11),(26,iI 5)],[(1,aH q),(2,aH cv)],[(10,⟨201,1,lm aY (ap v2)⟩)],[1,2,10]⟩
def aiI:AS:=⟨[(1,.pp 1 v2 0),(2,.ptr 2 0),(24,.ref 10),(25,iI 11),(26,iI 4)],[(1,aH p),(2,aH cv)],[(10,⟨201,1,lm aY (ap v2)⟩)],[1,2,10]⟩
def abx:AS:=⟨[(1,.pp 1 v2 0),(2,.ptr 2 0),(24,.ref 10),(25,iI 11),(26,iI 3)],[(1,aH v6),(2,aH cv)],[(10,⟨201,1,lm aY (ap v2)⟩)],[1,2,10]⟩
def Y1:AS:=⟨[(1,.pp 1 v2 0),(2,.ptr 2 0),(24,.ref 10),(25,iI 11),(26,iI 2)],[(1,aH v5),(2,aH cv)],[(10,⟨201,1,lm aY (ap v2)⟩)],[1,2,10]⟩
def XH:AS:=⟨[(1,.pp 1 v2 0),(2,.ptr 2 0),(24,.ref 10),(25,iI 11),(26,iI 1)],[(1,aH v4),(2,aH cv)],[(10,⟨201,1,lm aY (ap v2)⟩)],[1,2,10]⟩
def aac:AS:=⟨[(1,.pp 1 v2 0),(2,.ptr 2 0),(24,.ref 10),(25,iI 11),(26,iI 0)],[(1,aH o),(2,aH cv)],[(10,⟨201,1,lm aY (ap v2)⟩)],[1,2,10]⟩
abbrev eV(m:Nat):dt:=kl (IC M a) (Ht M a r) [.b 2,eF 31] (cat Tryz.f108 (pn 244)) m::[.b 2,eF 31]
abbrev w9(m:Nat):dt:=kl (IC M a) (Ht M a r) [.b 0,eF 15] (cat Tryz.f108 (pn 116)) m::[.b 0,eF 15]
variable{M a r k v2 o v4 v5 v6 p q t b d f g}{K:Kn}{n:Nat}
theorem Qn(b:ao K)(h:yV K n g=some r):kA M a r (.b 3::eF 1959::eV M a r 29) (ZW v2 g):=by
 unfold yV at h;refine bz (ks':=eV M a r 29) 2 ⟨[(1,.pp 1 v2 0),(2,.ptr 2 0),(24,.ref 10),(25,iI 11),(26,iI 11)],[(1,aH g),(2,aH cv)],[(10,⟨201,1,lm aY (ap v2)⟩)],[1,2,10]⟩ (bq (bn (aN 11 ?_)));cases h;exact bE
theorem TT(c:ao K)(h:uI K n f=some r):kA M a r (.b 3::eF 1959::eV M a r 30) (acg v2 f):=by
 unfold uI at h;refine bz (ks':=eV M a r 30) 2 ⟨[(1,.pp 1 v2 0),(2,.ptr 2 0),(24,.ref 10),(25,iI 11),(26,iI 10)],[(1,aH f),(2,aH cv)],[(10,⟨201,1,lm aY (ap v2)⟩)],[1,2,10]⟩ (bq (bn (dE 56 57 3 15 8 (aj 0 (au (cp 10 1 aY (L:=(ap v2)) (i:=(10:Int)) (by kernel_rfl)) (au (bI 201 0 aY aY (L:=(ap v2)) (j:=(10:Int).toNat) (lp (by kernel_rfl)) aT) (ac (ax 2 3 1 (aj 3 (c7 32 1 1 v2 28 0 (ac ?_)))))))))));obtain⟨b,h⟩|⟨b,h⟩:=am h
 ·exact ah 34 b (bp 2 1 (aj 3 (c7 37 1 1 v2 28 0 (ac (ag 0 (Qn c (v2:=v2) h))))))
 ·exact ah 34 b (ag 2 (Qn c (v2:=v2) h))
theorem TW(c:ao K)(h:tJ K n d=some r):kA M a r (.b 3::eF 1959::eV M a r 31) (XS v2 d):=by
 unfold tJ at h;refine bz (ks':=eV M a r 31) 2 ⟨[(1,.pp 1 v2 0),(2,.ptr 2 0),(24,.ref 10),(25,iI 11),(26,iI 9)],[(1,aH d),(2,aH cv)],[(10,⟨201,1,lm aY (ap v2)⟩)],[1,2,10]⟩ (bq (bn (dE 56 57 3 15 8 (aj 0 (au (cp 10 1 aY (L:=(ap v2)) (i:=(9:Int)) (by kernel_rfl)) (au (bI 201 0 aY aY (L:=(ap v2)) (j:=(9:Int).toNat) (lp (by kernel_rfl)) aT) (ac (ax 2 3 1 (aj 3 (c7 32 1 1 v2 20 0 (ac ?_)))))))))));obtain⟨b,h⟩|⟨b,h⟩:=am h
 ·exact ah 34 b (bp 2 1 (aj 3 (c7 37 1 1 v2 20 0 (ac (ag 0 (TT c (v2:=v2) h))))))
 ·exact ah 34 b (ag 2 (TT c (v2:=v2) h))
theorem QU(d:ao K)(h:ta K n b=some r):kA M a r (.b 3::eF 1959::eV M a r 32) (ajg v2 b):=by
 unfold ta at h;refine bz (ks':=eV M a r 32) 2 ⟨[(1,.pp 1 v2 0),(2,.ptr 2 0),(24,.ref 10),(25,iI 11),(26,iI 8)],[(1,aH b),(2,aH cv)],[(10,⟨201,1,lm aY (ap v2)⟩)],[1,2,10]⟩ (bq (bn (dE 56 57 3 15 8 (aj 0 (au (cp 10 1 aY (L:=(ap v2)) (i:=(8:Int)) (by kernel_rfl)) (au (bI 201 0 aY aY (L:=(ap v2)) (j:=(8:Int).toNat) (lp (by kernel_rfl)) aT) (ac (ax 2 3 1 (aj 3 (c7 32 1 1 v2 26 0 (ac ?_)))))))))));obtain⟨c,h⟩|⟨c,h⟩:=am h
 ·exact ah 34 c (bp 2 1 (aj 3 (c7 37 1 1 v2 26 0 (ac (ag 0 (TW d (v2:=v2) h))))))
 ·exact ah 34 c (ag 2 (TW d (v2:=v2) h))
theorem Ly(c:ao K)(h:tc K n t=some r):kA M a r (.b 3::eF 1959::eV M a r 33) (XK v2 t):=by
 unfold tc at h;refine bz (ks':=eV M a r 33) 2 ⟨[(1,.pp 1 v2 0),(2,.ptr 2 0),(24,.ref 10),(25,iI 11),(26,iI 7)],[(1,aH t),(2,aH cv)],[(10,⟨201,1,lm aY (ap v2)⟩)],[1,2,10]⟩ (bq (bn (dE 56 57 3 15 8 (aj 0 (au (cp 10 1 aY (L:=(ap v2)) (i:=(7:Int)) (by kernel_rfl)) (au (bI 201 0 aY aY (L:=(ap v2)) (j:=(7:Int).toNat) (lp (by kernel_rfl)) aT) (ac (ax 2 3 1 (aj 3 (c7 32 1 1 v2 18 0 (ac ?_)))))))))));obtain⟨b,h⟩|⟨b,h⟩:=am h
 ·exact ah 34 b (bp 2 1 (aj 3 (c7 37 1 1 v2 18 0 (ac (ag 0 (QU c (v2:=v2) h))))))
 ·exact ah 34 b (ag 2 (QU c (v2:=v2) h))
theorem O2(c:ao K)(h:td K n q=some r):kA M a r (.b 3::eF 1959::eV M a r 34) (V9 v2 q):=by
 unfold td at h;refine bz (ks':=eV M a r 34) 2 ⟨[(1,.pp 1 v2 0),(2,.ptr 2 0),(24,.ref 10),(25,iI 11),(26,iI 6)],[(1,aH q),(2,aH cv)],[(10,⟨201,1,lm aY (ap v2)⟩)],[1,2,10]⟩ (bq (bn (dE 56 57 3 15 8 (aj 0 (au (cp 10 1 aY (L:=(ap v2)) (i:=(6:Int)) (by kernel_rfl)) (au (bI 201 0 aY aY (L:=(ap v2)) (j:=(6:Int).toNat) (lp (by kernel_rfl)) aT) (ac (ax 2 3 1 (aj 3 (c7 32 1 1 v2 24 0 (ac ?_)))))))))));obtain⟨b,h⟩|⟨b,h⟩:=am h
 ·exact ah 34 b (bp 2 1 (aj 3 (c7 37 1 1 v2 24 0 (ac (ag 0 (Ly c (v2:=v2) h))))))
 ·exact ah 34 b (ag 2 (Ly c (v2:=v2) h))
theorem OQ(c:ao K)(h:wt K n p=some r):kA M a r (.b 3::eF 1959::eV M a r 35) (aiI v2 p):=by
 unfold wt at h;refine bz (ks':=eV M a r 35) 2 ⟨[(1,.pp 1 v2 0),(2,.ptr 2 0),(24,.ref 10),(25,iI 11),(26,iI 5)],[(1,aH p),(2,aH cv)],[(10,⟨201,1,lm aY (ap v2)⟩)],[1,2,10]⟩ (bq (bn (dE 56 57 3 15 8 (aj 0 (au (cp 10 1 aY (L:=(ap v2)) (i:=(5:Int)) (by kernel_rfl)) (au (bI 201 0 aY aY (L:=(ap v2)) (j:=(5:Int).toNat) (lp (by kernel_rfl)) aT) (ac (ax 2 3 1 (aj 3 (c7 32 1 1 v2 16 0 (ac ?_)))))))))));obtain⟨b,h⟩|⟨b,h⟩:=am h
 ·exact ah 34 b (bp 2 1 (aj 3 (c7 37 1 1 v2 16 0 (ac (ag 0 (O2 c (v2:=v2) h))))))
 ·exact ah 34 b (ag 2 (O2 c (v2:=v2) h))
theorem TY(c:ao K)(h:vd K n v6=some r):kA M a r (.b 3::eF 1959::eV M a r 36) (abx v2 v6):=by
 unfold vd at h;refine bz (ks':=eV M a r 36) 2 ⟨[(1,.pp 1 v2 0),(2,.ptr 2 0),(24,.ref 10),(25,iI 11),(26,iI 4)],[(1,aH v6),(2,aH cv)],[(10,⟨201,1,lm aY (ap v2)⟩)],[1,2,10]⟩ (bq (bn (dE 56 57 3 15 8 (aj 0 (au (cp 10 1 aY (L:=(ap v2)) (i:=(4:Int)) (by kernel_rfl)) (au (bI 201 0 aY aY (L:=(ap v2)) (j:=(4:Int).toNat) (lp (by kernel_rfl)) aT) (ac (ax 2 3 1 (aj 3 (c7 32 1 1 v2 22 0 (ac ?_)))))))))));obtain⟨b,h⟩|⟨b,h⟩:=am h
 ·exact ah 34 b (bp 2 1 (aj 3 (c7 37 1 1 v2 22 0 (ac (ag 0 (OQ c (v2:=v2) h))))))
 ·exact ah 34 b (ag 2 (OQ c (v2:=v2) h))
theorem TZ(c:ao K)(h:uV K n v5=some r):kA M a r (.b 3::eF 1959::eV M a r 37) (Y1 v2 v5):=by
 unfold uV at h;refine bz (ks':=eV M a r 37) 2 ⟨[(1,.pp 1 v2 0),(2,.ptr 2 0),(24,.ref 10),(25,iI 11),(26,iI 3)],[(1,aH v5),(2,aH cv)],[(10,⟨201,1,lm aY (ap v2)⟩)],[1,2,10]⟩ (bq (bn (dE 56 57 3 15 8 (aj 0 (au (cp 10 1 aY (L:=(ap v2)) (i:=(3:Int)) (by kernel_rfl)) (au (bI 201 0 aY aY (L:=(ap v2)) (j:=(3:Int).toNat) (lp (by kernel_rfl)) aT) (ac (ax 2 3 1 (aj 3 (c7 32 1 1 v2 14 0 (ac ?_)))))))))));obtain⟨b,h⟩|⟨b,h⟩:=am h
 ·exact ah 34 b (bp 2 1 (aj 3 (c7 37 1 1 v2 14 0 (ac (ag 0 (TY c (v2:=v2) h))))))
 ·exact ah 34 b (ag 2 (TY c (v2:=v2) h))
theorem UO(c:ao K)(h:sZ K n v4=some r):kA M a r (.b 3::eF 1959::eV M a r 38) (XH v2 v4):=by
 unfold sZ at h;refine bz (ks':=eV M a r 38) 2 ⟨[(1,.pp 1 v2 0),(2,.ptr 2 0),(24,.ref 10),(25,iI 11),(26,iI 2)],[(1,aH v4),(2,aH cv)],[(10,⟨201,1,lm aY (ap v2)⟩)],[1,2,10]⟩ (bq (bn (dE 56 57 3 15 8 (aj 0 (au (cp 10 1 aY (L:=(ap v2)) (i:=(2:Int)) (by kernel_rfl)) (au (bI 201 0 aY aY (L:=(ap v2)) (j:=(2:Int).toNat) (lp (by kernel_rfl)) aT) (ac (ax 2 3 1 (aj 3 (c7 32 1 1 v2 12 0 (ac ?_)))))))))));obtain⟨b,h⟩|⟨b,h⟩:=am h
 ·exact ah 34 b (bp 2 1 (aj 3 (c7 37 1 1 v2 12 0 (ac (ag 0 (TZ c (v2:=v2) h))))))
 ·exact ah 34 b (ag 2 (TZ c (v2:=v2) h))
theorem QA(c:ao K)(h:wu K n o=some r):kA M a r (.b 3::eF 1959::eV M a r 39) (aac v2 o):=by
 unfold wu at h;refine bz (ks':=eV M a r 39) 2 ⟨[(1,.pp 1 v2 0),(2,.ptr 2 0),(24,.ref 10),(25,iI 11),(26,iI 1)],[(1,aH o),(2,aH cv)],[(10,⟨201,1,lm aY (ap v2)⟩)],[1,2,10]⟩ (bq (bn (dE 56 57 3 15 8 (aj 0 (au (cp 10 1 aY (L:=(ap v2)) (i:=(1:Int)) (by kernel_rfl)) (au (bI 201 0 aY aY (L:=(ap v2)) (j:=(1:Int).toNat) (lp (by kernel_rfl)) aT) (ac (ax 2 3 1 (aj 3 (c7 32 1 1 v2 10 0 (ac ?_)))))))))));obtain⟨b,h⟩|⟨b,h⟩:=am h
 ·exact ah 34 b (bp 2 1 (aj 3 (c7 37 1 1 v2 10 0 (ac (ag 0 (UO c (v2:=v2) h))))))
 ·exact ah 34 b (ag 2 (UO c (v2:=v2) h))
theorem Va(d:ao K)(h:uc K n k=some r):bc bb 108 [.agg (aH k)] (fun v _=>v=.agg (aH r)):=by
 refine bH (cat Tryz.f108 (pn 1)) Tryz.func108 Tryz.ntmps108 fun M a=>(bm ⟨[(0,.agg (aH k))],[],[],[]⟩ ?_);unfold uc at h;refine ax 6 7 3 (UT 1 1 0 fun v2=>(aj 3 (PE 202 3 #[(0,(.tmp 7)),(1,(.tmp 8)),(2,(.tmp 9))] 10 (e:=201) (sz:=1) (l:=lm aY [(v2,6),(v2,10),(v2,12)]) (ac (bz (ks':=[eF 58,.b 0,eF 15]) 4 ⟨[(1,.pp 1 v2 0),(2,.ptr 2 0),(3,.ref 10),(11,iI 0)],[(1,aH k),(2,aH cv)],[(10,⟨201,1,lm aY [(v2,6),(v2,10),(v2,12)]⟩)],[1,2,10]⟩ (oE 40 (c:=cat Tryz.f108 [1,1,0,1,0,0]) (by kernel_rfl) (bn (bX (ks':=eF 3737 :: .b 1::eF 935::w9 M a r 39) 9 (bJ [1,2,3,4,11] [1,2] [10] (bN 2 (nu 14 [.ref 10,iI 0,.adr v2 14,.adr v2 14,iI 0,.adr v2 22,.adr v2 22,.sl (lm aY [(v2,14),(v2,22)])]) [] [] [fS 22 10 ⟨201,1,lm aY [(v2,6),(v2,10),(v2,12),(v2,14),(v2,22)]⟩,cd bb 40 Tryz.f108 (pn 3737) 9] (av [.v 0 1,.v 0 2,.v 0 2,.v 0 2,.v 0 2,.v 0 2,.v 0 2,.v 0 1] (ai (dd (m:=0) (cw 22 10 201 1 aY (L:=([(v2,6),(v2,10),(v2,12)]:hZ)) (M:=([(v2,14),(v2,22)]:hZ)) (bytes:=8) (rfl) aT (by kernel_rfl))) (ai (cb 1) bL))) (bz (ks':=w9 M a r 39) 2 ⟨[(1,.pp 1 v2 0),(2,.ptr 2 0),(3,.ref 10),(11,iI 1)],[(1,aH k),(2,aH cv)],[(10,⟨201,1,lm aY [(v2,6),(v2,10),(v2,12),(v2,14),(v2,22)]⟩)],[1,2,10]⟩ (bq (bn (gJ 57 1 15 9 (bJ [1,2,3,4,11] [1,2] [10] (bN 2 (nu 14 [.ref 10,iI 1,.adr v2 14,.adr v2 16,iI 1,.adr v2 22,.adr v2 24,.sl (lm aY [(v2,16),(v2,24)])]) [] [] [fS 22 10 ⟨201,1,lm aY [(v2,6),(v2,10),(v2,12),(v2,14),(v2,22),(v2,16),(v2,24)]⟩,cd bb 40 Tryz.f108 (pn 3737) 9] (av [.v 0 1,.v 0 2,.v 0 2,.v 0 2,.v 0 2,.v 0 2,.v 0 2,.v 0 1] (ai (dd (m:=0) (cw 22 10 201 1 aY (L:=([(v2,6),(v2,10),(v2,12),(v2,14),(v2,22)]:hZ)) (M:=([(v2,16),(v2,24)]:hZ)) (bytes:=8) (rfl) aT (by kernel_rfl))) (ai (cb 1) bL))) (bz (ks':=w9 M a r 38) 2 ⟨[(1,.pp 1 v2 0),(2,.ptr 2 0),(3,.ref 10),(11,iI 2)],[(1,aH k),(2,aH cv)],[(10,⟨201,1,lm aY [(v2,6),(v2,10),(v2,12),(v2,14),(v2,22),(v2,16),(v2,24)]⟩)],[1,2,10]⟩ (bq (bn (gJ 57 1 15 9 (bJ [1,2,3,4,11] [1,2] [10] (bN 2 (nu 14 [.ref 10,iI 2,.adr v2 14,.adr v2 18,iI 2,.adr v2 22,.adr v2 26,.sl (lm aY [(v2,18),(v2,26)])]) [] [] [fS 22 10 ⟨201,1,lm aY [(v2,6),(v2,10),(v2,12),(v2,14),(v2,22),(v2,16),(v2,24),(v2,18),(v2,26)]⟩,cd bb 40 Tryz.f108 (pn 3737) 9] (av [.v 0 1,.v 0 2,.v 0 2,.v 0 2,.v 0 2,.v 0 2,.v 0 2,.v 0 1] (ai (dd (m:=0) (cw 22 10 201 1 aY (L:=([(v2,6),(v2,10),(v2,12),(v2,14),(v2,22),(v2,16),(v2,24)]:hZ)) (M:=([(v2,18),(v2,26)]:hZ)) (bytes:=8) (rfl) aT (by kernel_rfl))) (ai (cb 1) bL))) (bz (ks':=w9 M a r 37) 2 ⟨[(1,.pp 1 v2 0),(2,.ptr 2 0),(3,.ref 10),(11,iI 3)],[(1,aH k),(2,aH cv)],[(10,⟨201,1,lm aY [(v2,6),(v2,10),(v2,12),(v2,14),(v2,22),(v2,16),(v2,24),(v2,18),(v2,26)]⟩)],[1,2,10]⟩ ?_)))))))))))))))))))))))
 refine bq (bn (gJ 57 1 15 9 (bJ [1,2,3,4,11] [1,2] [10] (bN 2 (nu 14 [.ref 10,iI 3,.adr v2 14,.adr v2 20,iI 3,.adr v2 22,.adr v2 28,.sl (lm aY [(v2,20),(v2,28)])]) [] [] [fS 22 10 ⟨201,1,lm aY (ap v2)⟩,cd bb 40 Tryz.f108 (pn 3737) 9] (av [.v 0 1,.v 0 2,.v 0 2,.v 0 2,.v 0 2,.v 0 2,.v 0 2,.v 0 1] (ai (dd (m:=0) (cw 22 10 201 1 aY (L:=([(v2,6),(v2,10),(v2,12),(v2,14),(v2,22),(v2,16),(v2,24),(v2,18),(v2,26)]:hZ)) (M:=([(v2,20),(v2,28)]:hZ)) (bytes:=8) (rfl) aT (by kernel_rfl))) (ai (cb 1) bL))) (bz (ks':=w9 M a r 36) 2 ⟨[(1,.pp 1 v2 0),(2,.ptr 2 0),(3,.ref 10),(11,iI 4)],[(1,aH k),(2,aH cv)],[(10,⟨201,1,lm aY (ap v2)⟩)],[1,2,10]⟩ (bq (bn (Ur 4 5 3 10 (aj 1 (au (bu aY (ap v2)) (ac (bz (ks':=[eF 122,.b 2,eF 31]) 1 ⟨[(1,.pp 1 v2 0),(2,.ptr 2 0),(24,.ref 10),(25,iI 11),(26,iI 0)],[(1,aH k),(2,aH cv)],[(10,⟨201,1,lm aY (ap v2)⟩)],[1,2,10]⟩ (oE 40 (c:=cat Tryz.f108 [1,1,1,0,1,0,0]) (by kernel_rfl) (bn (bX (ks':=eF 7832::eF 7833 :: .b 3::eF 1959::eV M a r 39) 8 (aj 0 (au (cp 10 1 aY (L:=(ap v2)) (i:=(0:Int)) (by kernel_rfl)) (au (bI 201 0 aY aY (L:=(ap v2)) (j:=(0:Int).toNat) (lp (by kernel_rfl)) aT) (ac (ax 2 3 1 (aj 3 (c7 32 1 1 v2 6 0 (ac ?_)))))))))))))))))))))))
 obtain⟨b,h⟩|⟨b,h⟩:=am h
 ·exact ah 34 b (bp 2 1 (aj 3 (c7 37 1 1 v2 6 0 (ac (ag 0 (QA d (v2:=v2) h))))))
 ·exact ah 34 b (ag 2 (QA d (v2:=v2) h))
end
noncomputable section
variable[GS](M:Nat→Prop)(d:aC)(r:Int×Int)(g:ab)(v2:bw)(v6:d3×Bool)(a b c:Int)(e:Nat)(f:Int→Int→Int→Option em)
abbrev HL:Cx:=⟨bb,71,M,d⟩
abbrev Ey:=bodyPost bb Tryz.f107 (bP M d (fun v _=>v=.tup [iI r.1,iI r.2]))
abbrev WY(a:dt)(s:AS):=VE (HL M d) (Ey M d r) a .normal s
abbrev OD(n:Nat):aq:=.c (cat Tryz.f107 (pn n))
abbrev IS:dt:=[.b 0,OD 63]
abbrev ahN:dt:=kl (HL M d) (Ey M d r) IS (cat Tryz.f107 (pn 500)) e::IS
def O4:AS:=⟨[(3,.ptr 3 0),(4,iI a),(5,iI b),(47,.sl (lm aK v6.1)),(48,iI (v6.1.length:Int)),(49,iI c)],[(3,bO v2)],[],[3]⟩
abbrev Lk:Prop:=∀{a:Int} {b:Int} {c:Int},f a b c=some r→LP (HL M d) (Ey M d r) IS (cat Tryz.f107 (pn 500)) e (O4 v2 v6 a b c)
variable{M d r g v2 v6 a b c e f}{K:Kn}{n:Nat}
theorem ab4(m:ao K)(o:Lk M d r v2 v6 e f)(h:xo K n v2 v6 f a b c=some r):WY M d r (OD 500::ahN M d r e) (O4 v2 v6 a b c):=by
 unfold xo at h;refine ax 6 7 3 ?_;obtain⟨g,h⟩|⟨g,h⟩:=am h
 ·refine ah 50 g (cT 8 9 1 3 5 (aj 0 ?_));obtain⟨i,h⟩:=aD h;refine au (bB aK aB i (fu) (dR)) (ac (ax 2 3 1 (aj 3 ?_)));obtain⟨p,j,h⟩:=bind_some h;exact lT (m.gv j) (ac (ag 3 (bq (o h))))
 ·refine ah 50 g (gB 2 3 6 (aj 1 ?_));obtain⟨q,k,h⟩:=bind_some h;refine aU (jZ m k) (aQ 3 1 ?_);obtain⟨s,l,h⟩:=bind_some h;refine aU (jZ m l) (ac (aN 1 ?_));cases h;exact jk
theorem acL(e:ao K)(m:Nat):Lk M d r v2 v6 m (rY K n v2 v6 m):=by
 induction m with
 | zero=>intro a b c h;cases h
 | succ m f=>intro a b c h;have h:xo K n v2 v6 (rY K n v2 v6 m) a b c=some r:=h;exact bn (ab4 e f h)
theorem Mj(a:ao K)(h:lL K n g v2=some r):bc bb 107 [.agg (aB g),.agg (bO v2)] (fun v _=>v=.tup [iI r.1,iI r.2]):=by
 refine bH (cat Tryz.f107 (pn 1)) Tryz.func107 Tryz.ntmps107 fun M d=>(bm ⟨[(0,.agg (aB g)),(1,.agg (bO v2))],[],[],[]⟩ ?_);unfold lL at h;refine cf 12 13 7 4 (aj 2 ?_);obtain⟨o,e,h⟩:=bind_some h;refine aU (Va a e) (aQ 4 1 ?_);obtain⟨v4,f,h⟩:=bind_some h;refine aU (ep a f) (ac (bp 3 2 ?_));obtain⟨b,h⟩|⟨b,h⟩:=am h
 ·refine ah 22 b (ax 4 5 2 (aj 1 ?_));obtain⟨v5,i,h⟩:=bind_some h;refine aU (jZ a i) (ac (aN 4 ?_));cases h;exact jk
 ·refine ah 22 b (fV 2 3 3 (aj 1 ?_));obtain⟨v6,j,h⟩:=bind_some h;refine aU (Oq a j) (ac (ax 5 3 3 ?_));obtain⟨c,h⟩|⟨c,h⟩:=am h
  ·refine ah 33 c (ax 4 5 2 (aj 5 ?_));obtain⟨q,k,h⟩:=bind_some h;refine lT (a.wK k) (ac (ax 2 3 1 (aj 1 ?_)));obtain⟨s,l,h⟩:=bind_some h;refine aU (jZ a l) (aQ 3 1 ?_);obtain⟨t,m,h⟩:=bind_some h;refine aU (jZ a m) (ac (aN 2 ?_));cases h;exact jk
  ·exact ah 33 c (oI 4 5 3 4 (aj 1 (au (bu aK v6.1) (ac (ag 1 (ce (p:=pn 250) n (acL a n h)))))))
end
noncomputable section
variable[GS](M:Nat→Prop)(b:aC)(r:Int×Int)(a:ab)(v2:bw)  
variable{M b r a v2}{K:Kn}{n:Nat}
theorem aa4(c:ao K)(h:wU K n a v2=some r):bc bb 51 [.agg (aB a),.agg (bO v2)] (fun v _=>v=.tup [iI r.1,iI r.2]):=by
 refine bH (cat Tryz.f51 (pn 1)) Tryz.func51 Tryz.ntmps51 fun M b=>(bm ⟨[(0,.agg (aB a)),(1,.agg (bO v2))],[],[],[]⟩ ?_);unfold wU at h;refine ax 6 7 3 (aj 2 ?_);obtain⟨e,f,h⟩:=bind_some h;refine aU (Mj c f) (ac (ax 2 3 1 (aj 2 ?_)));obtain⟨v4,g,h⟩:=bind_some h;refine aU (Va c g) (ac (ax 2 3 1 (bJ [4,5,6] [6] [] ?_)));obtain⟨v5,i,h⟩:=bind_some h;obtain⟨v6,j,h⟩:=bind_some h;obtain⟨p,k,h⟩:=bind_some h;obtain⟨q,l,h⟩:=bind_some h;obtain⟨s,m,h⟩:=bind_some h;obtain⟨d,o,h⟩:=bind_some h;refine bN 2 (nu 16 [.agg (aH v4),.agg (aH v4),iI e.1,iI v5,.agg (cr v6),iI p,.agg (aH v4),.agg (aH v4),iI e.2,iI q,.agg (cr s),iI d]) [] [] [cd bb 28 Tryz.f51 (pn 30) 12,cd bb 28 Tryz.f51 (pn 30) 13] (av (vz 3) (ai (co 0 1 19 (wM c i)) (ai (co 0 1 20 (mC c j)) (ai (co 0 1 21 (nG c k)) (av [.v 0 2,.v 0 2,.v 0 2] (ai (co 0 2 25 (wM c l)) (ai (co 0 2 26 (mC c m)) (ai (co 0 1 27 (nG c o)) (ai (cb 0) (ai (cb 1) bL)))))))))) (aN 1 ?_)
 cases h;exact jk
end
noncomputable section
variable[GS](M:Nat→Prop)(b:aC)(r:Int×Int)(a:ab)(v2:bw)  
abbrev Rf(n:Nat):aq:=.c (cat Tryz.f48 (pn n))
variable{M b r a v2}{K:Kn}{n:Nat}
theorem Xc(e:ao K)(h:qE K n a v2=some r):bc bb 48 [.agg (aB a),.cptr (bO v2)] (fun v _=>v=.tup [iI r.1,iI r.2]):=by
 refine bH (cat Tryz.f48 (pn 1)) Tryz.func48 Tryz.ntmps48 fun M b=>(bm ⟨[(0,.agg (aB a)),(1,.cptr (bO v2))],[],[],[]⟩ ?_);unfold qE at h;refine gJ 53 0 7 8 ?_;obtain⟨c,h⟩|⟨c,h⟩:=am h
 ·refine ah 7 c (ax 4 5 2 (aj 2 ?_));obtain⟨i,f,h⟩:=bind_some h;refine aU (afG e f) (ac (aN 3 ?_));cases h;exact jk
 ·refine ah 7 c (bp 7 3 ?_);obtain⟨d,h⟩|⟨d,h⟩:=am h
  ·refine ah 14 d ?_;cases h
  ·refine ah 14 d (bX (ks':=[Rf 14,Rf 15]) 4 (aj 2 ?_));obtain⟨v4,g,h⟩:=bind_some h;refine aU (aa4 e g) (ac (aN 1 ?_));cases h;exact jk
end
noncomputable section
variable[GS](M:Nat→Prop)(b:aC)(r:eb)(a:aJ)(v2:eb)(d v4 v5 v6:Bool)(e:aJ)  
abbrev jD(n:Nat):aq:=.c (cat Tryz.f176 (pn n))
abbrev ac8:Cx:=⟨bb,72,M,b⟩
abbrev agY:=bodyPost bb Tryz.f176 (bP M b (fun v s=>v=.ref 9∧cB s.o []∧look 9 s.r=some (b7 r)))
abbrev xm(a:dt)(s:AS):=VE (ac8 M b) (agY M b r) a .normal s
def YP:AS:=⟨[(0,.ref 9),(3,.ptr 3 0)],[(3,aw e)],[(9,(b7 v2))],[3,9]⟩
def Zk:AS:=⟨[(0,.ref 9),(3,.ptr 3 0),(64,.bool v6)],[(3,aw a)],[(9,(b7 v2))],[3,9]⟩
def ah6:AS:=⟨[(0,.ref 9),(3,.ptr 3 0),(5,.bool (a.Box.Style.WhiteSpace == 2)),(32,.bool v5)],[(3,aw a)],[(9,(b7 v2))],[3,9]⟩
def XF:AS:=⟨[(0,.ref 9),(3,.ptr 3 0),(5,.bool (a.Box.Style.WhiteSpace == 2)),(24,.bool v4)],[(3,aw a)],[(9,(b7 v2))],[3,9]⟩
def YS:AS:=⟨[(0,.ref 9),(3,.ptr 3 0),(5,.bool (a.Box.Style.WhiteSpace == 2)),(19,.bool d)],[(3,aw a)],[(9,(b7 v2))],[3,9]⟩
variable{M b r a v2 d v4 v5 v6 e}{K:Kn}{n:Nat}
theorem Kz(c:ao K)(h:po K n v2 e=some r):xm M b r [.b 1,jD 31] (YP v2 e):=by
 unfold po at h;refine fV 6 7 4 (aj 3 ?_);obtain⟨a,h⟩:=aD h;refine au (cw 71 9 210 5 aw (rfl) (cU) a) (ac (aN 1 ?_));cases h;exact fm
theorem Gt(d:ao K)(h:ny K n a v2 v6=some r):xm M b r [jD 15609,jD 7805,.b 1,jD 31] (Zk a v2 v6):=by
 unfold ny at h;obtain⟨c,h⟩|⟨c,h⟩:=am h
 ·refine ah 64 c (aN 7 ?_);cases h;exact fm
 ·exact ah 64 c (ag 3 (Kz d h))
theorem NY(i:ao K)(h:vF K n a v2 v5=some r):xm M b r [jD 487,.b 1,jD 31] (ah6 a v2 v5):=by
 unfold vF at h;obtain⟨j,h⟩|⟨j,h⟩:=am h
 ·refine ah 32 j (aN 6 ?_);cases h;exact fm
 ·refine ah 32 j (bp 7 3 ?_);obtain⟨c,h⟩|⟨c,h⟩:=am h
  ·refine ah 40 c (cf 8 9 5 3 (aj 1 (au (bu aw v2) (aQ 4 2 ?_))));obtain⟨d,h⟩|⟨d,h⟩:=am h
   ·exact aF 46 d (ac (ag 0 (Gt i h)))
   ·refine aF 46 d (aQ 6 2 (au (bu aw v2) (aQ 8 1 ?_)));obtain⟨f,h⟩:=aD h;refine au (cp 9 5 aw f) (aQ 10 1 (au (bI 4 3 aw aw (bD f).2 aT) (aQ 13 2 ?_)));obtain⟨e,h⟩|⟨e,h⟩:=am h
    ·exact aF 55 e (ac (ag 0 (Gt i h)))
    ·refine aF 55 e (aQ 15 2 (au (bu aw v2) (aQ 17 1 ?_)));obtain⟨g,h⟩:=aD h;exact au (cp 9 5 aw g) (aQ 19 1 (au (bI 3 0 aw aw (bD g).2 aT) (ac (ag 0 (Gt i h)))))
  ·exact ah 40 c (ag 2 (Kz i h))
theorem Mm(e:ao K)(h:uJ K n a v2 v4=some r):xm M b r [jD 121,.b 1,jD 31] (XF a v2 v4):=by
 unfold uJ at h;obtain⟨c,h⟩|⟨c,h⟩:=am h
 ·exact ah 24 c (ag 2 (Kz e h))
 ·refine ah 24 c (ax 6 7 2 (aj 2 ?_));obtain⟨d,h⟩|⟨d,h⟩:=am h
  ·exact aF 34 d (ac (ag 0 (NY e h)))
  ·exact aF 34 d (ac (ag 0 (NY e h)))
theorem Ck(f:ao K)(h:lO K n a v2 d=some r):xm M b r [jD 117,.b 0,jD 15] (YS a v2 d):=by
 unfold lO at h;obtain⟨c,h⟩|⟨c,h⟩:=am h
 ·refine ah 19 c (bX (ks':=[jD 120,jD 121,.b 1,jD 31]) 6 (aj 2 ?_));obtain⟨e,h⟩|⟨e,h⟩:=am h
  ·exact aF 26 e (ac (ag 0 (Mm f h)))
  ·exact aF 26 e (ac (ag 0 (Mm f h)))
 ·refine ah 19 c (ax 6 7 2 (aj 3 ?_));obtain⟨g,h⟩:=aD h;refine au (cw 18 9 210 5 aw (rfl) (cU) g) (ac (aN 3 ?_));cases h;exact fm
theorem aaW(d:ao K)(h:zO K n a v2=some r):jE bb 176 [.ref 9,.agg (aw a)] [] 9 (b7 v2) [9] (fun v s=>v=.ref 9∧cB s.o []∧look 9 s.r=some (b7 r)):=by
 refine mZ (c:=cat Tryz.f176 (pn 1)) Tryz.func176 (by kernel_rfl) _ Tryz.ntmps176 (lp (by kernel_rfl)) fun M b=>(bm ⟨[(0,.ref 9),(1,.agg (aw a))],[],[(9,(b7 v2))],[9]⟩ ?_);unfold zO at h;refine dE 233 117 0 15 11 ?_;obtain⟨e,h⟩|⟨e,h⟩:=am h
 ·exact ah 19 e (ag 2 (Ck d h))
 ·refine ah 19 e (bp 7 3 ?_);obtain⟨f,h⟩|⟨f,h⟩:=am h
  ·exact ah 19 f (ag 2 (Ck d h))
  ·refine ah 19 f (bp 7 3 ?_);obtain⟨g,h⟩|⟨g,h⟩:=am h
   ·exact ah 19 g (ag 2 (Ck d h))
   ·exact ah 19 g (ag 2 (Ck d h))
end
end Go.Proofs.YtocgkfoifehcbaaGreat

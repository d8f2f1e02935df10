/- The runs of the functions that RelayoutDrops reaches do what their plain forms say, part 1. Made by a program. -/
import Derived.Test.YtocgkfoifehcbaaGreatRdP0
namespace Go.Proofs.YtocgkfoifehcbaaGreat
open Go.RowKit
set_option maxRecDepth 20000
set_option linter.all false
noncomputable section
variable[GS](M:Nat→Prop)(w:aB)(r:dn×Int×Int×Int×dO)(v1:ab)(v2:Int)(u:bz)(v4 v5:Int)(v6:dO)(j:d6)(i:Int)(f:em)(d B:ck)(E P Q a0 b0 d0:Int)(e0:Bool)(c0:Int)(b:ck)(g a:Int)(l:dn)(o q:Int)(t:dO)(z F:Int)(G:ck)(H I:Int)(x:ck)(A C y:Int)(D:dn)(J N:Int)(O:dO)(m1 m2 m3 m4:Nat)(L1:Int→em→ck→ck→Option hH)(L2:Int→Int→dn→Int→Int→dO→Option hH)(L3:Int→ck→Int→Int→Option hH)(L4:Int→Int→Int→dn→Int→Int→dO→Option hH)
abbrev nK:Cx:=⟨bb,228,M,w⟩
abbrev nq:=bodyPost bb Tryz.f81 (bI M w (fun v s=>v=.tup [.ref 440010,iI r.2.1]∧cq s.o [(af r.2.2.1 r.2.2.2.1)]∧look 440009 s.r=some (bt r.2.2.2.2)∧look 440010 s.r=some (bx r.1)))
abbrev o6(a:dt)(s:AS):=VE (nK M w) (nq M w r) a .normal s
abbrev dg(n:Nat):aq:=.c (cat Tryz.f81 (pn n))
abbrev H5:dt:=[.b 2,dg 4095]
abbrev xf:dt:=kl (nK M w) (nq M w r) H5 (cat Tryz.f81 (pn 32756)) m2::H5
abbrev KU:dt:=[.b 0,dg 127]
abbrev yY:dt:=kl (nK M w) (nq M w r) KU (cat Tryz.f81 (pn 1012)) m1::KU
abbrev Lc:dt:=.b 6::dg 67085951 :: .b 3::dg 262055::xf M w r m2
abbrev Fg:dt:=kl (nK M w) (nq M w r) (Lc M w r m2) (cat Tryz.f81 (pn 536687604)) m4::(Lc M w r m2)
abbrev FU:dt:=.b 4::dg 16771487 :: .b 3::dg 262055::xf M w r m2
abbrev XF:dt:=kl (nK M w) (nq M w r) (FU M w r m2) (cat Tryz.f81 (pn 134171892)) m3::(FU M w r m2)
def Xa:AS:=⟨[(1,iI v2),(3,.ptr 3 0),(5,.ptr 5 0),(8,.ref 1035),(9,.ref 38),(10,.ref 41),(11,.ref 44),(12,iI i),(15,.ptr 15 0),(16,iI c0),(45,.ref 1035),(46,iI (j.length:Int)),(47,iI i)],[(3,aA v1),(5,bL u),(15,cm (⟨0,a0,b0,P,Q⟩:bC)),(af v4 v5)],[(38,⟨176,5,lm cm f⟩),(41,⟨3,1,lm (ak .i64) (List.set d i.toNat E)⟩),(44,(bk B)),(1035,(bY j)),(440009,(bt v6))],[3,5,15,440001,38,41,44,1035,440009,1440001,440001]⟩
def abE:AS:=⟨[(1,iI v2),(3,.ptr 3 0),(5,.ptr 5 0),(8,.ref 1035),(9,.ref 38),(10,.ref 41),(11,.ref 44),(12,iI i),(13,.ptr 13 0),(14,.ptr 14 0),(15,.ptr 15 0),(16,iI d0),(17,.bool e0),(45,.ref 1035),(46,iI (j.length:Int)),(47,iI i)],[(3,aA v1),(5,bL u),(13,aA (gD j i)),(14,aH ((gD j i).Style)),(15,cm (⟨0,a0,b0,P,Q⟩:bC)),(af v4 v5)],[(38,⟨176,5,lm cm f⟩),(41,⟨3,1,lm (ak .i64) (List.set d i.toNat E)⟩),(44,(bk B)),(1035,(bY j)),(440009,(bt v6))],[3,5,13,14,15,440001,38,41,44,1035,440009,1440001,440001]⟩
def RK:AS:=⟨[(1,iI v2),(5,.ptr 5 0),(8,.ref 1035),(9,.sl (lm cm f)),(10,.sl (lm (ak .i64) d)),(20,.sl (lm (ak .i64) b)),(21,.ref 220),(22,iI g),(24,iI (gD b a)),(29,iI A),(30,iI C),(128,.sl (lm (ak .i64) b)),(129,iI (b.length:Int)),(130,iI a),(166,.ref 1166),(167,iI (x.length:Int)),(168,iI y)],[(5,bL u),(af J N)],[(220,(bx D)),(1035,(bY j)),(1166,(bk x)),(440009,(bt O))],[5,440001,220,1035,1166,440009,1440001,440001]⟩
def Vl:AS:=⟨[(1,iI v2),(5,.ptr 5 0),(8,.ref 1035),(9,.sl (lm cm f)),(10,.sl (lm (ak .i64) d)),(20,.sl (lm (ak .i64) b)),(21,.ref 220),(22,iI g),(24,iI (gD b a)),(25,iI z),(26,iI F),(128,.sl (lm (ak .i64) b)),(129,iI (b.length:Int)),(130,iI a),(151,.sl (lm (ak .i64) G)),(152,iI H),(153,iI I)],[(5,bL u),(af o q)],[(220,(bx l)),(1035,(bY j)),(440009,(bt t))],[5,440001,220,1035,440009,1440001,440001]⟩
def aih:AS:=⟨[(1,iI v2),(5,.ptr 5 0),(8,.ref 1035),(9,.sl (lm cm f)),(10,.sl (lm (ak .i64) d)),(20,.sl (lm (ak .i64) b)),(21,.ref 220),(22,iI g),(24,iI (gD b a)),(25,iI z),(128,.sl (lm (ak .i64) b)),(129,iI (b.length:Int)),(130,iI a)],[(5,bL u),(af o q)],[(220,(bx l)),(1035,(bY j)),(440009,(bt t))],[5,440001,220,1035,440009,1440001,440001]⟩
def VZ:AS:=⟨[(1,iI v2),(5,.ptr 5 0),(8,.ref 1035),(9,.sl (lm cm f)),(10,.sl (lm (ak .i64) d)),(20,.sl (lm (ak .i64) b)),(21,.ref 220),(22,iI g),(128,.sl (lm (ak .i64) b)),(129,iI (b.length:Int)),(130,iI a)],[(5,bL u),(af o q)],[(220,(bx l)),(1035,(bY j)),(440009,(bt t))],[5,440001,220,1035,440009,1440001,440001]⟩
def Yz:AS:=⟨[(1,iI v2),(5,.ptr 5 0),(8,.ref 1035),(9,.ref 38),(10,.ref 41),(20,.sl (lm (ak .i64) b))],[(5,bL u),(af v4 v5)],[(38,⟨176,5,lm cm f⟩),(41,(bk d)),(1035,(bY j)),(440009,(bt v6))],[5,440001,38,41,1035,440009,1440001,440001]⟩
def Rh:AS:=⟨[(1,iI v2),(3,.ptr 3 0),(5,.ptr 5 0),(8,.ref 1035),(9,.ref 38),(10,.ref 41),(11,.ref 44),(45,.ref 1035),(46,iI (j.length:Int)),(47,iI i)],[(3,aA v1),(5,bL u),(af v4 v5)],[(38,⟨176,5,lm cm f⟩),(41,(bk d)),(44,(bk B)),(1035,(bY j)),(440009,(bt v6))],[3,5,440001,38,41,44,1035,440009,1440001,440001]⟩
abbrev CX:Prop:=∀{i:Int} {f:em} {d:ck} {B:ck},L1 i f d B=some r→LP (nK M w) (nq M w r) KU (cat Tryz.f81 (pn 1012)) m1 (Rh v1 v2 u v4 v5 v6 j i f d B)
abbrev pw:Prop:=∀{g:Int} {a:Int} {l:dn} {o:Int} {q:Int} {t:dO},L2 g a l o q t=some r→LP (nK M w) (nq M w r) H5 (cat Tryz.f81 (pn 32756)) m2 (VZ v2 u j f d b g a l o q t)
abbrev SB:Prop:=∀{F:Int} {G:ck} {H:Int} {I:Int},L3 F G H I=some r→LP (nK M w) (nq M w r) (FU M w r m2) (cat Tryz.f81 (pn 134171892)) m3 (Vl v2 u j f d b g a l o q t z F G H I)
abbrev LD:Prop:=∀{A:Int} {C:Int} {y:Int} {D:dn} {J:Int} {N:Int} {O:dO},L4 A C y D J N O=some r→LP (nK M w) (nq M w r) (Lc M w r m2) (cat Tryz.f81 (pn 536687604)) m4 (RK v2 u j f d b g a x A C y D J N O)
variable{M w r v1 v2 u v4 v5 v6 j i f d B E P Q a0 b0 d0 e0 c0 b g a l o q t z F G H I x A C y D J N O m1 m2 m3 m4 L1 L2 L3 L4}{K:Kn}{n:Nat}[SG w]
theorem NR(p:am K)(l:CX M w r v1 v2 u v4 v5 v6 j m1 L1)(h:wv K n v1 v2 u v4 v5 v6 j i f d B E P Q a0 b0 L1 c0=some r):o6 M w r (dg 2074239 :: .b 1::dg 8103::yY M w r m1) (Xa v1 v2 u v4 v5 v6 j i f d B E P Q a0 b0 c0):=by
 unfold wv at h;refine ax 6 7 3 (ai 3 ?_);obtain⟨b,h⟩:=aF h;refine au (cp 38 5 cm b) (au (dD 38 176 5 0 cm cm (⟨c0,a0,b0,P,Q⟩:bC) (bF b).2 aT) (ac ?_));obtain⟨o,g,h⟩:=bU h;refine bA (ks':=dg 8296959 :: .b 1::dg 8103::yY M w r m1) 0 ⟨[(1,iI v2),(3,.ptr 3 0),(5,.ptr 5 0),(8,.ref 1035),(9,.ref 38),(10,.ref 41),(11,.ref 44),(12,iI i),(15,.ptr 15 0),(45,.ref 1035),(46,iI (j.length:Int)),(47,iI i)],[(3,aA v1),(5,bL u),(15,cm (⟨c0,a0,b0,P,Q⟩:bC)),(af v4 v5)],[(38,⟨176,5,lm cm o⟩),(41,⟨3,1,lm (ak .i64) (List.set d i.toNat E)⟩),(44,(bk B)),(1035,(bY j)),(440009,(bt v6))],[3,5,15,440001,38,41,44,1035,440009,1440001,440001]⟩ ?_ (by subst g;kernel_rfl);obtain⟨a,k,h⟩:=bind_some h;obtain⟨c,h⟩:=aF h;obtain⟨e,h⟩:=aF h;exact bQ 1 (nu 110 [.ref 44,iI i,.agg (cm (⟨c0,a0,b0,P,Q⟩:bC)),iI a,.ref 41,iI i,.eptr 41 1 (i.toNat) 0,iI (gD (List.set d i.toNat E) i),iI (aa (a+(gD (List.set d i.toNat E) i))),.eptr 44 1 (i.toNat) 0]) [] [] [d8 44 ⟨3,1,lm (ak .i64) (List.set B i.toNat (aa (a+(gD (List.set d i.toNat E) i))))⟩] (ay (vz 3) (aj (cv 0 1 113 (KJ p k)) (ay (vz 2) (bh (cN 41 1 (ak .i64) (L:=(List.set d i.toNat E)) c) (bh (bJ 3 0 (ak .i64) (ak .i64) (bF c).2 aT) (ay [.v 0 1] (bh (cN 44 1 (ak .i64) (L:=B) e) (aj (dp (m:=0) (dD 44 3 1 0 (ak .i64) (ak .i64) (aa (a+(gD (List.set d i.toNat E) i))) (bF e).2 aT)) bR)))))))) (ag 2 (bn (l h)))
theorem S8(b:am K)(c:CX M w r v1 v2 u v4 v5 v6 j m1 L1)(h:Ax K n v1 v2 u v4 v5 v6 j i f d B E P Q a0 b0 L1 d0 e0=some r):o6 M w r (dg 1037119 :: .b 1::dg 8103::yY M w r m1) (abE v1 v2 u v4 v5 v6 j i f d B E P Q a0 b0 d0 e0):=by
 unfold Ax at h;refine ax 5 3 3 ?_;obtain⟨a,h⟩|⟨a,h⟩:=ao h
 ·refine ah 91 a (ax 4 5 2 (ai 3 ?_));obtain⟨l,e,h⟩:=bind_some h;refine kG (b.gy e) (ac (ai 2 ?_));obtain⟨m,g,h⟩:=bind_some h;refine aP (mF b g) ?_;obtain⟨o,k,h⟩:=bind_some h;exact aP (oS b k) (ac (ag 0 (NR b c h)))
 ·exact ah 91 a (ag 2 (NR b c h))
theorem Zv(t:am K)(R:pw M w r v2 u j f d b m2 L2)(S:LD M w r v2 u j f d b g a x m2 m4 L4)(h:xK K n v2 u j f d b g a x L2 L4 A C y D J N O=some r):o6 M w r (dg 536687604::Fg M w r m2 m4) (RK v2 u j f d b g a x A C y D J N O):=by
 unfold xK at h;refine ax 6 7 3 ?_;obtain⟨l,h⟩|⟨l,h⟩:=ao h
 ·refine ah 169 l (cL 8 9 7 3 5 (ai 1 ?_));obtain⟨p,h⟩:=aF h;refine au (cp 1166 1 (ak .i64) p) (au (bJ 3 0 (ak .i64) (ak .i64) (bF p).2 aT) (ac (ax 2 3 1 (bP [1,5,8,9,10,20,21,22,24,29,30,31,32,128,129,130,166,167,168,169] [5,440001] [220,1035,1166,440009] (ER 169 ?_)))));obtain⟨e,h⟩:=aF h;obtain⟨P,v,h⟩:=bind_some h;obtain⟨c,q,h⟩:=bind_some h;refine bQ 2 (nu 173 [.ptr 5 0,.fn u.Layout.id u.Layout.aR,.ref 1035,iI (gD b a),iI y,iI (aa ((gD b a)+y)),.eptr 1035 59 (((aa ((gD b a)+y))).toNat) 0,.agg (aA (gD j ((aa ((gD b a)+y))))),iI (gD x y),.agg (aA P),iI v2]++nu 33 [.ptr 33 0]) [(33,List.set (aG bT) 66 (.nils))] [] [B3 (some 184) (bt c.2.2.2) [(af c.2.1 c.2.2.1)] (.agg (aG c.1)),cf bb 228 Tryz.f81 (pn 34348006706) 13] (ay [.v 0 2,.v 0 1,.v 0 2,.v 0 2,.v 0 2,.v 0 2] (aj (ii (lo:=0) (k:=2) (dR ⟨(by kernel_rfl),(ep (cN 1035 59 aL (L:=j) e) (by kernel_rfl))⟩ (dR ⟨(by kernel_rfl),(ep (cN 1035 59 aL (L:=j) e) (by kernel_rfl))⟩ iJ))) (aj (ii (lo:=0) (k:=2) (dR ⟨(by kernel_rfl),(ep (bJ 48 0 aL aA (bF e).2 (dW)) (by kernel_rfl))⟩ (dR ⟨(by kernel_rfl),(ep (bJ 48 0 aL aA (bF e).2 (dW)) (by kernel_rfl))⟩ iJ))) (ay [.v 0 2] (aj (cv 0 1 182 (aiA t v)) (ay [.v 0 1] (aj (ET 0 169 (t.dr q).2 (t.dr q).1) (aj (rG 0 2 44 33 (List.set (aG bT) 66 (.nils))) (aj (cg 1) bR))))))))) (ax 2 3 1 (bP [1,5,8,9,10,20,21,22,24,29,30,31,32,33,128,129,130,166,167,168] [5,33,440001] [220,1035,1166,440009] ?_))
  obtain⟨i,z,h⟩:=bind_some h;obtain⟨m,B,h⟩:=bind_some h;refine bQ 1 (nu 185 [iI C,.ptr 33 61,.agg (cS c.1.Before),iI i,.ptr 33 5,iI c.1.H,iI (aa (i+c.1.H)),.agg (aG c.1),iI m,iI (aa ((aa (i+c.1.H))+m)),iI (max C (aa ((aa (i+c.1.H))+m)))]) [] [] [cf bb 228 Tryz.f81 (pn 68696013414) 11] (ay (vz 3) (aj (cv 0 1 188 (mV t z)) (ay (vz 4) (aj (cv 0 1 193 (Tp t B)) (ay (vz 2) (aj (cg 0) bR)))))) ?_;obtain⟨s,E,h⟩:=bU h;refine bA (ks':=dg 274784053662::dg 274784053663 :: .b 7::dg 4293500839::Fg M w r m2 m4) 3 ⟨[(1,iI v2),(5,.ptr 5 0),(8,.ref 1035),(9,.sl (lm cm f)),(10,.sl (lm (ak .i64) d)),(20,.sl (lm (ak .i64) b)),(21,.ref 220),(22,iI g),(24,iI (gD b a)),(29,iI A),(30,iI s),(31,iI y),(32,iI (gD x y)),(33,.ptr 33 0),(128,.sl (lm (ak .i64) b)),(129,iI (b.length:Int)),(130,iI a),(166,.ref 1166),(167,iI (x.length:Int)),(168,iI y)],[(5,bL u),(33,aG ({ c.1 with X:=(aa (c.1.X+A)) }:ae)),(af c.2.1 c.2.2.1)],[(220,(bx D)),(1035,(bY j)),(1166,(bk x)),(440009,(bt c.2.2.2))],[5,33,440001,220,1035,1166,440009,1440001,440001]⟩ ?_ (by subst E;kernel_rfl)
  refine ai 3 ?_;obtain⟨o,F,h⟩:=bind_some h;refine aP (mV t F) (ac (ax 2 3 1 (ai 6 ?_)));obtain⟨G,h⟩:=aF h;refine au (bD (ak .i64) (ak .i64) G aT aT) (ac ?_);obtain⟨Q,H,h⟩:=bU h;refine bA (ks':=dg 549568107327 :: .b 7::dg 4293500839::Fg M w r m2 m4) 0 ⟨[(1,iI v2),(5,.ptr 5 0),(8,.ref 1035),(9,.sl (lm cm f)),(10,.sl (lm (ak .i64) d)),(20,.sl (lm (ak .i64) b)),(21,.ref 220),(22,iI g),(24,iI (gD b a)),(29,iI Q),(30,iI s),(33,.ptr 33 0),(128,.sl (lm (ak .i64) b)),(129,iI (b.length:Int)),(130,iI a),(166,.ref 1166),(167,iI (x.length:Int)),(168,iI y)],[(5,bL u),(33,aG ({ c.1 with X:=(aa (c.1.X+A)),Y:=(aa (g+o)) }:ae)),(af c.2.1 c.2.2.1)],[(220,(bx D)),(1035,(bY j)),(1166,(bk x)),(440009,(bt c.2.2.2))],[5,33,440001,220,1035,1166,440009,1440001,440001]⟩ ?_ (by subst H;kernel_rfl)
  refine ai 2 (au (gt aM ([({ c.1 with X:=(aa (c.1.X+A)),Y:=(aa (g+o)) }:ae)]:dn) (new:=[aG ({ c.1 with X:=(aa (c.1.X+A)),Y:=(aa (g+o)) }:ae)]) (by simp only[rl,Db,dH])) ?_);obtain⟨I,h⟩:=aF h;exact au (cG 220 220 44 67 aM (rfl) (ku) I) (ac (ag 2 (bn (S h))))
 ·exact ah 169 l (ag 8 (bn (R h)))
theorem adP(e:am K)(c:pw M w r v2 u j f d b m2 L2)(m:Nat):LD M w r v2 u j f d b g a x m2 m (pC K n v2 u j f d b g a x L2 m):=by
 induction m with
 | zero=>intro A C y D J N O h;cases h
 | succ m i=>intro A C y D J N O h;have h:xK K n v2 u j f d b g a x L2 (pC K n v2 u j f d b g a x L2 m) A C y D J N O=some r:=h;exact bj (Zv e c i h)
theorem ah7(A:am K)(v:pw M w r v2 u j f d b m2 L2)(y:SB M w r v2 u j f d b g a l o q t z m2 m3 L3)(h:yo K n v2 u j f d b g a l o q t z L2 L3 F G H I=some r):o6 M w r (dg 134171892::XF M w r m2 m3) (Vl v2 u j f d b g a l o q t z F G H I):=by
 unfold yo at h;refine ax 6 7 3 ?_;obtain⟨c,h⟩|⟨c,h⟩:=ao h
 ·refine ah 154 c (cL 8 9 5 3 5 (ai 0 ?_));obtain⟨i,h⟩:=aF h;exact au (bD (ak .i64) (ak .i64) i aT aT) (ac (ag 3 (bn (y h))))
 ·refine ah 154 c (sv 12 13 7 9 (ai 3 ?_));obtain⟨m,h⟩:=aF h;refine au (lx cm f (gD b a) z 174 (.tmp 161) (some (.tmp 162)) (some (.tmp 163)) 164 (e:=176) (sz:=5) (by kernel_rfl) (by kernel_rfl) (by kernel_rfl) (by kernel_rfl) (by kernel_rfl) (by kernel_rfl) (Ju) (fun k B=>by subst B;kernel_rfl) m) (aQ 5 1 ?_);obtain⟨x,s,h⟩:=bind_some h;exact fg 1166 (NY A s) (ff 143) (au (bv (ak .i64) x) (ac (ag 1 (ca (p:=pn 268343802) n (adP A v n h)))))
theorem aiN(e:am K)(c:pw M w r v2 u j f d b m2 L2)(m:Nat):SB M w r v2 u j f d b g a l o q t z m2 m (rD K n v2 u j f d b g a l o q t z L2 m):=by
 induction m with
 | zero=>intro F G H I h;cases h
 | succ m i=>intro F G H I h;have h:yo K n v2 u j f d b g a l o q t z L2 (rD K n v2 u j f d b g a l o q t z L2 m) F G H I=some r:=h;exact bj (ah7 e c i h)
theorem TA(m:am K)(i:pw M w r v2 u j f d b m2 L2)(h:mY K n v2 u j f d b g a l o q t L2 z=some r):o6 M w r (dg 4192871 :: .b 3::dg 262055::xf M w r m2) (aih v2 u j f d b g a l o q t z):=by
 unfold mY at h;refine cb 12 13 7 4 (ai 3 ?_);obtain⟨c,h⟩:=aF h;exact au (lx (ak .i64) d (gD b a) z 72 (.tmp 148) (some (.tmp 149)) (some (.tmp 150)) 151 (e:=3) (sz:=1) (by kernel_rfl) (by kernel_rfl) (by kernel_rfl) (by kernel_rfl) (by kernel_rfl) (by kernel_rfl) aT (fun k s=>by subst s;kernel_rfl) c) (au (bv (ak .i64) (List.drop ((gD b a)).toNat (List.take z.toNat d))) (ac (ag 1 (ca (p:=pn 67085946) n (aiN m i n h)))))
theorem WM(v:am K)(p:pw M w r v2 u j f d b m2 L2)(h:xl K n v2 u j f d b L2 g a l o q t=some r):o6 M w r (dg 32756::xf M w r m2) (VZ v2 u j f d b g a l o q t):=by
 unfold xl at h;refine ax 6 7 3 ?_;obtain⟨c,h⟩|⟨c,h⟩:=ao h
 ·refine ah 131 c (cL 8 9 3 3 5 (ai 1 ?_));obtain⟨i,h⟩:=aF h;refine au (bD (ak .i64) (ak .i64) i aT aT) (ac (ax 2 3 1 (ai 1 (au (bv aL j) (ac (cb 4 5 3 2 (ai 3 (au (bv (ak .i64) b) (ac ?_)))))))));obtain⟨s,k,h⟩:=bU h;refine bA (ks':=dg 8385741::dg 4192871 :: .b 3::dg 262055::xf M w r m2) 0 ⟨[(1,iI v2),(5,.ptr 5 0),(8,.ref 1035),(9,.sl (lm cm f)),(10,.sl (lm (ak .i64) d)),(20,.sl (lm (ak .i64) b)),(21,.ref 220),(22,iI g),(23,iI a),(24,iI (gD b a)),(25,iI (j.length:Int)),(128,.sl (lm (ak .i64) b)),(129,iI (b.length:Int)),(130,iI a),(141,.bool s)],[(5,bL u),(af o q)],[(220,(bx l)),(1035,(bY j)),(440009,(bt t))],[5,440001,220,1035,440009,1440001,440001]⟩ ?_ (by subst k;kernel_rfl);obtain⟨e,h⟩|⟨e,h⟩:=ao h
  ·refine ah 141 e (br 2 1 (ai 3 ?_));obtain⟨m,h⟩:=aF h;exact au (bD (ak .i64) (ak .i64) m aT aT) (ac (ag 0 (TA v p h)))
  ·exact ah 141 e (ag 2 (TA v p h))
 ·refine ah 131 c (aJ 8 (ta 220 440010 ?_));cases h;exact Nc
theorem ZV(c:am K)(m:Nat):pw M w r v2 u j f d b m (iZ K n v2 u j f d b m):=by
 induction m with
 | zero=>intro g a l o q t h;cases h
 | succ m e=>intro g a l o q t h;have h:xl K n v2 u j f d b (iZ K n v2 u j f d b m) g a l o q t=some r:=h;exact bj (WM c e h)
theorem RI(a:am K)(h:mg K n v2 u v4 v5 v6 j f d b=some r):o6 M w r [dg 511] (Yz v2 u v4 v5 v6 j f d b):=by
 unfold mg at h;exact cb 28 29 15 6 (ai 1 (au (bv (ak .i64) b) (ac (gT 2 2 1 (bP [1,5,8,9,10,20,21,22,128,129,130] [5,440001] [38,41,1035,440009] (iz 38 (iz 41 (eW 220 21 44 67 (ag 0 (ca (p:=pn 16378) n (ZV a n h)))))))))))
theorem ZZ(a:am K)(l:CX M w r v1 v2 u v4 v5 v6 j m1 L1)(h:xN K n v1 v2 u v4 v5 v6 j L1 i f d B=some r):o6 M w r (dg 1012::yY M w r m1) (Rh v1 v2 u v4 v5 v6 j i f d B):=by
 unfold xN at h;refine ax 6 7 3 ?_;obtain⟨b,h⟩|⟨b,h⟩:=ao h
 ·refine ah 48 b (cL 8 9 1 3 5 (ai 1 ?_));obtain⟨g,h⟩:=aF h;refine au (cp 1035 59 aL g) (au (bJ 48 0 aL aA (bF g).2 (dW)) (ac (ax 6 7 3 (ai 4 ?_))));obtain⟨z,m,h⟩:=bind_some h;refine aP (mF a m) ?_;obtain⟨E,o,h⟩:=bind_some h;refine aP (oS a o) ?_;obtain⟨k,h⟩:=aF h;refine au (cp 41 1 (ak .i64) k) (au (dD 41 3 1 0 (ak .i64) (ak .i64) E (bF k).2 aT) (ac (ax 2 3 1 (bP [1,3,5,8,9,10,11,12,13,14,45,46,47] [3,5,13,14,440001] [38,41,44,1035,440009] ?_))));obtain⟨P,p,h⟩:=bind_some h;obtain⟨Q,q,h⟩:=bind_some h;refine bQ 1 (nu 61 [.ptr 14 44,iI (((gD j i).Style).Grow),.ptr 14 45,iI (((gD j i).Style).Shrink),.ptr 14 10,.agg (fW (((gD j i).Style).MinWidth)),iI v2,iI P,.ptr 14 12,.agg (fW (((gD j i).Style).MaxWidth)),iI v2,iI Q,.agg (cm (⟨0,((gD j i).Style).Grow,((gD j i).Style).Shrink,P,Q⟩:bC))]++nu 15 [.ptr 15 0]) [(15,cm jP)] [] [cf bb 228 Tryz.f81 (pn 259278) 14] (ay (vz 7) (aj (cv 0 1 68 (zR a p)) (ay (vz 3) (aj (cv 0 1 72 (zR a q)) (ay [.v 0 1] (aj (rG 0 1 176 15 (cm jP)) (aj (cg 0) bR))))))) ?_
  obtain⟨a0,s,h⟩:=bU h;obtain⟨b0,t,h⟩:=bU h;refine bA (ks':=dg 518558::dg 518559 :: .b 1::dg 8103::yY M w r m1) 1 ⟨[(1,iI v2),(3,.ptr 3 0),(5,.ptr 5 0),(8,.ref 1035),(9,.ref 38),(10,.ref 41),(11,.ref 44),(12,iI i),(13,.ptr 13 0),(14,.ptr 14 0),(15,.ptr 15 0),(45,.ref 1035),(46,iI (j.length:Int)),(47,iI i)],[(3,aA v1),(5,bL u),(13,aA (gD j i)),(14,aH ((gD j i).Style)),(15,cm (⟨0,a0,b0,P,Q⟩:bC)),(af v4 v5)],[(38,⟨176,5,lm cm f⟩),(41,⟨3,1,lm (ak .i64) (List.set d i.toNat E)⟩),(44,(bk B)),(1035,(bY j)),(440009,(bt v6))],[3,5,13,14,15,440001,38,41,44,1035,440009,1440001,440001]⟩ ?_ (by subst t;subst s;kernel_rfl);refine ai 3 ?_;obtain⟨A,v,h⟩:=bind_some h;refine aP (eu a v) (ac (ax 5 3 3 ?_));obtain⟨c,h⟩|⟨c,h⟩:=ao h
  ·refine ah 82 c (br 2 1 (ai 3 ?_));obtain⟨C,x,h⟩:=bind_some h;exact aP (eu a x) (ac (ag 0 (S8 a l h)))
  ·exact ah 82 c (ag 2 (S8 a l h))
 ·refine ah 48 b (gg 13 7 10 ?_);obtain⟨e,h⟩|⟨e,h⟩:=ao h
  ·refine ah 124 e (br 2 1 (ai 2 (mM 44 ?_)));obtain⟨D,y,h⟩:=bind_some h;exact fg 1127 (acR a y) (ff 29) (ac (iz 1127 (ag 0 (RI a h))))
  ·exact ah 124 e (ag 2 (RI a h))
theorem Xz(a:am K)(m:Nat):CX M w r v1 v2 u v4 v5 v6 j m (oW K n v1 v2 u v4 v5 v6 j m):=by
 induction m with
 | zero=>intro i f d B h;cases h
 | succ m b=>intro i f d B h;have h:xN K n v1 v2 u v4 v5 v6 j (oW K n v1 v2 u v4 v5 v6 j m) i f d B=some r:=h;exact bj (ZZ a b h)
theorem Zi(d:am K)(h:Au K n v1 v2 u v4 v5 v6=some r):eA bb 81 [.agg (aA v1),iI v2,.agg (bL u)] [(af v4 v5)] (bt v6) (fun v s=>v=.tup [.ref 440010,iI r.2.1]∧cq s.o [(af r.2.2.1 r.2.2.2.1)]∧look 440009 s.r=some (bt r.2.2.2.2)∧look 440010 s.r=some (bx r.1)):=by
 refine jC (c:=cat Tryz.f81 []) Tryz.func81 (by kernel_rfl) _ Tryz.ntmps81 (lc (by kernel_rfl)) fun M w=>(bg ⟨[(0,.agg (aA v1)),(1,iI v2),(2,.agg (bL u))],[(af v4 v5)],[(440009,(bt v6))],[440009,440001,1440001]⟩ ?_);unfold Au at h;refine bX (ks':=[dg 6,dg 7]) 3 (ai 1 ?_);obtain⟨j,g,h⟩:=bind_some h;refine fg 1035 (K4 d g) (ff 21) (ac (ax 2 3 1 (ai 1 (au (bv aL j) ?_))));obtain⟨i,h⟩:=aF h;refine n7 cm (jP:bC) 174 (.tmp 37) (.tmp 37) 38 (e:=176) (sz:=5) (zc:=cm jP) (kd:=.i64) (kd':=.i64) i (ac ?_);obtain⟨b,k,h⟩:=bU h;refine bA (ks':=[dg 30,dg 31]) 1 ⟨[(1,iI v2),(3,.ptr 3 0),(5,.ptr 5 0),(8,.ref 1035),(9,.ref 38)],[(3,aA v1),(5,bL u),(af v4 v5)],[(38,⟨176,5,lm cm b⟩),(1035,(bY j)),(440009,(bt v6))],[3,5,440001,38,1035,440009,1440001,440001]⟩ ?_ (by subst k;kernel_rfl)
 refine ai 1 (au (bv aL j) ?_);obtain⟨l,h⟩:=aF h;refine n7 (ak .i64) (0:Int) 72 (.tmp 40) (.tmp 40) 41 (e:=3) (sz:=1) (zc:=[iI 0]) (kd:=.i64) (kd':=.i64) l (ac ?_);obtain⟨f,m,h⟩:=bU h;refine bA (ks':=[dg 62,dg 63]) 1 ⟨[(1,iI v2),(3,.ptr 3 0),(5,.ptr 5 0),(8,.ref 1035),(9,.ref 38),(10,.ref 41)],[(3,aA v1),(5,bL u),(af v4 v5)],[(38,⟨176,5,lm cm b⟩),(41,(bk f)),(1035,(bY j)),(440009,(bt v6))],[3,5,440001,38,41,1035,440009,1440001,440001]⟩ ?_ (by subst m;kernel_rfl);refine ai 1 (au (bv aL j) ?_);obtain⟨o,h⟩:=aF h;refine n7 (ak .i64) (0:Int) 72 (.tmp 43) (.tmp 43) 44 (e:=3) (sz:=1) (zc:=[iI 0]) (kd:=.i64) (kd':=.i64) o (ac ?_);obtain⟨a,q,h⟩:=bU h;refine bA (ks':=[dg 252,dg 253,dg 127]) 2 ⟨[(1,iI v2),(3,.ptr 3 0),(5,.ptr 5 0),(8,.ref 1035),(9,.ref 38),(10,.ref 41),(11,.ref 44)],[(3,aA v1),(5,bL u),(af v4 v5)],[(38,⟨176,5,lm cm b⟩),(41,(bk f)),(44,(bk a)),(1035,(bY j)),(440009,(bt v6))],[3,5,440001,38,41,44,1035,440009,1440001,440001]⟩ ?_ (by subst q;kernel_rfl)
 exact ai 1 (au (bv aL j) (ac (ag 1 (ca (p:=pn 506) n (Xz d n h)))))
end
noncomputable section
variable[GS](M:Nat→Prop)(b:aB)(r a:ae)(v2:Int)(c:Int×Bool)(v5:Int)  
abbrev abb(n:Nat):aq:=.c (cat Tryz.f83 (pn n))
abbrev X6:Cx:=⟨bb,45,M,b⟩
abbrev q83:=bodyPost bb Tryz.f83 (bI M b (fun v _=>v=.agg (aG r)))
abbrev W8(a:dt)(s:AS):=VE (X6 M b) (q83 M b r) a .normal s
def Yw:AS:=⟨[(2,.ptr 2 0),(4,.ptr 4 0)],[(2,aG ({ a with X:=(aa (a.X+c.1)),Y:=v5 }:ae)),(4,List.set (aG bT) 66 (.nils))],[],[2,4]⟩
variable{M b r a v2 c v5}{K:Kn}{n:Nat}
theorem U9(d:am K)(h:zw K n a c v5=some r):W8 M b r [abb 63] (Yw a c v5):=by
 unfold zw at h;refine aJ 3 ?_;cases h;exact bw
theorem OG(d:am K)(h:uK K n a v2=some r):aY bb 83 [.agg (aG a),iI v2] (fun v _=>v=.agg (aG r)):=by
 refine bG (cat Tryz.f83 (pn 1)) Tryz.func83 Tryz.ntmps83 fun M b=>(bg ⟨[(0,.agg (aG a)),(1,iI v2)],[],[],[]⟩ ?_);unfold uK at h;refine ax 13 7 5 ?_;obtain⟨e,h⟩|⟨e,h⟩:=ao h
 ·refine ah 12 e (aJ 5 ?_);cases h;exact bw
 ·refine ah 12 e (fN 2 3 3 (ai 4 ?_));obtain⟨c,g,h⟩:=bind_some h;refine aP (eu d g) (ac (ax 13 7 5 ?_));obtain⟨f,h⟩|⟨f,h⟩:=ao h
  ·refine ah 31 f (ax 4 5 2 (ai 3 ?_));obtain⟨v4,i,h⟩:=bind_some h;exact aP (eu d i) (ac (ag 1 (U9 d h)))
  ·exact ah 31 f (ag 2 (U9 d h))
end
noncomputable section
variable[GS](M:Nat→Prop)(w:aB)(r:ae×Int×Int×dO)(l:ab)(v2:Int)(B:bz)(v4 v5:Int)(v6:dO)(b:bW)(t u:bc)(x:Int)(e:dn)(f g:Int)(j:dO)(y o q a:Int)(d:dn)(z:Nat)(A:Int→dn→Option hF)
abbrev Le:Cx:=⟨bb,154,M,w⟩
abbrev KZ:=bodyPost bb Tryz.f44 (bI M w (fun v s=>v=.agg (aG r.1)∧cq s.o [(af r.2.1 r.2.2.1)]∧look 440009 s.r=some (bt r.2.2.2)))
abbrev JE(a:dt)(s:AS):=VE (Le M w) (KZ M w r) a .normal s
abbrev jd(n:Nat):aq:=.c (cat Tryz.f44 (pn n))
abbrev EY:dt:=[.b 0,jd 2047]
abbrev GE:dt:=kl (Le M w) (KZ M w r) EY (cat Tryz.f44 (pn 16372)) z::EY
def OJ:AS:=⟨[(6,.ptr 6 0),(7,.ptr 7 0),(8,.ptr 8 0),(104,iI (e.length:Int)),(105,iI a)],[(6,List.set (aG bT) 66 (.nils)),(7,ct b),(8,List.set (aG (⟨1,l.Node,b.Margin.a3,0,o,q,0,⟨#[]⟩,l.Style,t,u,false,[]⟩:ae)) 66 (.ref 1040)),(af f g)],[(1040,(bx d)),(440009,(bt j))],[6,7,8,440001,1040,440009,1440001,440001]⟩
def aiM:AS:=⟨[(6,.ptr 6 0),(7,.ptr 7 0),(8,.ptr 8 0),(9,iI y)],[(6,List.set (aG bT) 66 (.nils)),(7,ct b),(8,List.set (aG ({ bT with Kind:=1,Node:=l.Node,X:=b.Margin.a3,Style:=l.Style,Before:=t,After:=u }:ae)) 66 (.ref 1040)),(af f g)],[(1040,(bx e)),(440009,(bt j))],[6,7,8,440001,1040,440009,1440001,440001]⟩
def aeV:AS:=⟨[(3,.ptr 3 0),(6,.ptr 6 0),(7,.ptr 7 0),(8,.ptr 8 0),(9,iI x)],[(3,aA l),(6,List.set (aG bT) 66 (.nils)),(7,ct b),(8,List.set (aG ({ bT with Kind:=1,Node:=l.Node,X:=b.Margin.a3,Style:=l.Style,Before:=t,After:=u }:ae)) 66 (.ref 1040)),(af f g)],[(1040,(bx e)),(440009,(bt j))],[3,6,7,8,440001,1040,440009,1440001,440001]⟩
abbrev Uv:Prop:=∀{a:Int} {d:dn},A a d=some r→LP (Le M w) (KZ M w r) EY (cat Tryz.f44 (pn 16372)) z (OJ l b t u e f g j o q a d)
variable{M w r l v2 B v4 v5 v6 b t u x e f g j y o q a d z A}{K:Kn}{n:Nat}[SG w]
theorem akH(I:am K)(H:Uv M w r l b t u e f g j o q z A)(h:xR K n l b t u e f g j o q A a d=some r):JE M w r (jd 16372::GE M w r z) (OJ l b t u e f g j o q a d):=by
 unfold xR at h;refine ax 6 7 3 ?_;obtain⟨v,h⟩|⟨v,h⟩:=ao h
 ·refine ah 106 v (cL 18 19 1 3 7 (bP [6,7,8,10,104,105] [6,7,8,440001] [1040,440009] ?_));obtain⟨B,h⟩:=aF h;obtain⟨p,h⟩:=aF h;refine bQ 1 (nu 108 [.ptr 8 66,.ref 1040,iI a,.eptr 1040 67 (a.toNat) 0,.eptr 1040 67 (a.toNat) 2,iI ((gD d a).X),.ptr 7 4,.ptr 7 7,iI b.Border.a3,.ptr 7 8,.ptr 7 11,iI b.Padding.a3,iI (aa (b.Border.a3+b.Padding.a3)),iI (aa (((gD d a).X)+(aa (b.Border.a3+b.Padding.a3)))),.eptr 1040 67 (a.toNat) 0,.eptr 1040 67 (a.toNat) 2]) [] [] [d8 1040 ⟨44,67,lm aM (List.set d a.toNat ({ (gD d a)with X:=(aa (((gD d a).X)+(aa (b.Border.a3+b.Padding.a3)))) }:ae))⟩] (ay (vz 3) (bh (cN 1040 67 aM (L:=d) B) (ay [.v 0 1] (bh (bJ 3 2 aM aG (bF p).2 (dH)) (ay (vz 8) (aj (ii (lo:=0) (k:=2) (dR ⟨(by kernel_rfl),(ep (cN 1040 67 aM (L:=d) p) (by kernel_rfl))⟩ (dR ⟨(by kernel_rfl),(ep (cN 1040 67 aM (L:=(List.set d a.toNat ({ (gD d a)with X:=(aa (((gD d a).X)+(aa (b.Border.a3+b.Padding.a3)))) }:ae))) p) (by kernel_rfl))⟩ iJ))) (ay [.v 0 1] (aj (dp (m:=0) (dD 1040 44 67 2 aM aG ({ (gD d a)with X:=(aa (((gD d a).X)+(aa (b.Border.a3+b.Padding.a3)))) }:ae) (bF p).2 (dH))) bR)))))))) ?_
  obtain⟨c,C,h⟩:=bU h;refine bA (ks':=jd 2095718::jd 2095719 :: .b 1::jd 130983::GE M w r z) 1 ⟨[(6,.ptr 6 0),(7,.ptr 7 0),(8,.ptr 8 0),(10,iI a),(104,iI (e.length:Int)),(105,iI a)],[(6,List.set (aG bT) 66 (.nils)),(7,ct b),(8,List.set (aG (⟨1,l.Node,b.Margin.a3,0,o,q,0,⟨#[]⟩,l.Style,t,u,false,[]⟩:ae)) 66 (.ref 1040)),(af f g)],[(1040,(bx c)),(440009,(bt j))],[6,7,8,440001,1040,440009,1440001,440001]⟩ ?_ (by subst C;kernel_rfl);obtain⟨D,h⟩:=aF h;obtain⟨s,h⟩:=aF h;refine bQ 1 (nu 124 [.ptr 8 66,.ref 1040,iI a,.eptr 1040 67 (a.toNat) 0,.eptr 1040 67 (a.toNat) 3,iI ((gD c a).Y),.ptr 7 4,.ptr 7 4,iI b.Border.a0,.ptr 7 8,.ptr 7 8,iI b.Padding.a0,iI (aa (b.Border.a0+b.Padding.a0)),iI (aa (((gD c a).Y)+(aa (b.Border.a0+b.Padding.a0)))),.eptr 1040 67 (a.toNat) 0,.eptr 1040 67 (a.toNat) 3]) [] [] [d8 1040 ⟨44,67,lm aM (List.set c a.toNat ({ (gD c a)with Y:=(aa (((gD c a).Y)+(aa (b.Border.a0+b.Padding.a0)))) }:ae))⟩] (ay (vz 3) (bh (cN 1040 67 aM (L:=c) D) (ay [.v 0 1] (bh (bJ 3 3 aM aG (bF s).2 (dH)) (ay (vz 8) (aj (ii (lo:=0) (k:=2) (dR ⟨(by kernel_rfl),(ep (cN 1040 67 aM (L:=c) s) (by kernel_rfl))⟩ (dR ⟨(by kernel_rfl),(ep (cN 1040 67 aM (L:=(List.set c a.toNat ({ (gD c a)with Y:=(aa (((gD c a).Y)+(aa (b.Border.a0+b.Padding.a0)))) }:ae))) s) (by kernel_rfl))⟩ iJ))) (ay [.v 0 1] (aj (dp (m:=0) (dD 1040 44 67 3 aM aG ({ (gD c a)with Y:=(aa (((gD c a).Y)+(aa (b.Border.a0+b.Padding.a0)))) }:ae) (bF s).2 (dH))) bR)))))))) ?_
  obtain⟨i,E,h⟩:=bU h;refine bA (ks':=jd 2095719 :: .b 1::jd 130983::GE M w r z) 0 ⟨[(6,.ptr 6 0),(7,.ptr 7 0),(8,.ptr 8 0),(10,iI a),(104,iI (e.length:Int)),(105,iI a)],[(6,List.set (aG bT) 66 (.nils)),(7,ct b),(8,List.set (aG (⟨1,l.Node,b.Margin.a3,0,o,q,0,⟨#[]⟩,l.Style,t,u,false,[]⟩:ae)) 66 (.ref 1040)),(af f g)],[(1040,(bx i)),(440009,(bt j))],[6,7,8,440001,1040,440009,1440001,440001]⟩ ?_ (by subst E;kernel_rfl);obtain⟨F,h⟩:=aF h;obtain⟨y,G,h⟩:=bind_some h;obtain⟨x,h⟩:=aF h;exact bQ 1 (nu 140 [.ptr 8 66,.ref 1040,iI a,.ptr 8 66,.ref 1040,iI a,.eptr 1040 67 (a.toNat) 0,.agg (aG (gD i a)),.ptr 7 12,iI b.Content,.agg (aG y),.eptr 1040 67 (a.toNat) 0]) [] [] [d8 1040 ⟨44,67,lm aM (List.set i a.toNat y)⟩] (ay (vz 6) (bh (cN 1040 67 aM (L:=i) F) (bh (bJ 44 0 aM aG (bF x).2 (dH)) (ay (vz 2) (aj (cv 0 1 150 (OG I G)) (bh (cN 1040 67 aM (L:=i) x) (aj (dp (m:=0) (dD 1040 44 67 0 aM aG y (bF x).2 (dH))) bR))))))) (ag 2 (bn (H h)))
 ·refine ah 106 v (aJ 8 (iz 1040 ?_));cases h;exact ex
theorem XC(c:am K)(m:Nat):Uv M w r l b t u e f g j o q m (tR K n l b t u e f g j o q m):=by
 induction m with
 | zero=>intro a d h;cases h
 | succ m i=>intro a d h;have h:xR K n l b t u e f g j o q (tR K n l b t u e f g j o q m) a d=some r:=h;exact bj (akH c i h)
theorem NC(d:am K)(h:tH K n l b t u e f g j y=some r):JE M w r [jd 255] (aiM l b t u e f g j y):=by
 unfold tH at h;obtain⟨o,c,h⟩:=bU h;obtain⟨q,a,h⟩:=bU h;refine bA (ks':=[jd 4092,jd 4093,jd 2047]) 6 ⟨[(6,.ptr 6 0),(7,.ptr 7 0),(8,.ptr 8 0)],[(6,List.set (aG bT) 66 (.nils)),(7,ct b),(8,List.set (aG (⟨1,l.Node,b.Margin.a3,0,o,q,0,⟨#[]⟩,l.Style,t,u,false,[]⟩:ae)) 66 (.ref 1040)),(af f g)],[(1040,(bx e)),(440009,(bt j))],[6,7,8,440001,1040,440009,1440001,440001]⟩ ?_ (by subst a;subst c;kernel_rfl);exact ai 2 (au (bv aM e) (ac (ag 1 (ca (p:=pn 8186) n (XC d n h)))))
theorem TU(c:am K)(h:uW K n l b t u x e f g j=some r):JE M w r [jd 63] (aeV l b t u x e f g j):=by
 unfold uW at h;refine ax 13 7 5 ?_;obtain⟨a,h⟩|⟨a,h⟩:=ao h
 ·refine ah 59 a (br 2 1 (ai 3 ?_));obtain⟨i,d,h⟩:=bind_some h;exact aP (zR c d) (ac (ag 0 (NC c h)))
 ·exact ah 59 a (ag 2 (NC c h))
theorem ajh(a:am K)(h:nV K n l v2 B v4 v5 v6=some r):eA bb 44 [.agg (aA l),iI v2,.agg (bL B)] [(af v4 v5)] (bt v6) (fun v s=>v=.agg (aG r.1)∧cq s.o [(af r.2.1 r.2.2.1)]∧look 440009 s.r=some (bt r.2.2.2)):=by
 refine jC (c:=cat Tryz.f44 []) Tryz.func44 (by kernel_rfl) _ Tryz.ntmps44 (lc (by kernel_rfl)) fun M w=>(bg ⟨[(0,.agg (aA l)),(1,iI v2),(2,.agg (bL B))],[(af v4 v5)],[(440009,(bt v6))],[440009,440001,1440001]⟩ ?_);unfold nV at h;refine bX (ks':=[jd 6,jd 7]) 3 (ai 3 ?_);obtain⟨b,e,h⟩:=bind_some h;refine aP (Fo a e) (ac (ax 2 3 1 (bP [3,5,6,7] [3,5,6,7,440001] [440009] ?_)));obtain⟨t,f,h⟩:=bind_some h;obtain⟨u,g,h⟩:=bind_some h;refine bQ 1 (nu 15 [.ptr 3 1,iI l.Node,.ptr 3 2,.agg (aH l.Style),.ptr 7 0,.ptr 7 3,iI b.Margin.a3,.ptr 7 0,.ptr 7 0,iI b.Margin.a0,.agg (cS t),.ptr 7 0,.ptr 7 2,iI b.Margin.a2,.agg (cS u),.agg (List.set (aG ({ bT with Kind:=1,Node:=l.Node,X:=b.Margin.a3,Style:=l.Style,Before:=t,After:=u }:ae)) 66 (.nils))]++nu 8 [.ptr 8 0]) [(8,List.set (aG bT) 66 (.nils))] [] [cf bb 154 Tryz.f44 (pn 14) 17] (ay (vz 10) (aj (cv 0 1 25 (Dd a f)) (ay (vz 3) (aj (cv 0 1 29 (Dd a g)) (ay [.v 0 1] (aj (rG 0 1 44 8 (List.set (aG bT) 66 (.nils))) (aj (cg 0) bR))))))) (ax 13 7 5 ?_)
 obtain⟨d,h⟩|⟨d,h⟩:=ao h
 ·refine ah 34 d (br 2 1 (ai 4 ?_));obtain⟨m,j,h⟩:=bind_some h;exact Qg 1040 (aeI a j) (D1 (i:=0) rfl) (ac (ag 0 (TU a h)))
 ·refine ah 34 d (br 3 1 (ai 4 ?_));obtain⟨o,k,h⟩:=bind_some h;exact Qg 1049 (Zi a k) (D1 (i:=0) rfl) (ac (bP [3,6,7,8,9] [3,6,7,8,440001] [1049,440009] (ta 1049 1040 (ag 0 (TU a h)))))
end
noncomputable section
variable[GS](M:Nat→Prop)(b:aB)(r:Int)(a:d6)(v2:Fv)(v4:Int)(c:Nat)(d:Int→Option Int)
abbrev GQ:Cx:=⟨bb,19,M,b⟩
abbrev Fa:=bodyPost bb Tryz.f119 (bI M b (fun v _=>v=iI r))
abbrev acv(a:dt)(s:AS):=VE (GQ M b) (Fa M b r) a .normal s
abbrev OP(n:Nat):aq:=.c (cat Tryz.f119 (pn n))
abbrev IM:dt:=[.b 0,OP 7]
abbrev ajw:dt:=kl (GQ M b) (Fa M b r) IM (cat Tryz.f119 (pn 52)) c::IM
def Qm:AS:=⟨[(0,.sl (lm aL a)),(1,.fn v2.id v2.aR),(7,iI (a.length:Int)),(8,iI v4)],[],[],[]⟩
abbrev Mv:Prop:=∀{v4:Int},d v4=some r→LP (GQ M b) (Fa M b r) IM (cat Tryz.f119 (pn 52)) c (Qm a v2 v4)
variable{M b r a v2 v4 c d}{K:Kn}{n:Nat}
theorem X2(k:am K)(g:Mv M b r a v2 c d)(h:qh K n a v2 d v4=some r):acv M b r (OP 52::ajw M b r c) (Qm a v2 v4):=by
 unfold qh at h;refine ax 6 7 3 ?_;obtain⟨e,h⟩|⟨e,h⟩:=ao h
 ·refine ah 9 e (cL 18 19 1 3 7 (ai 3 ?_));obtain⟨i,h⟩:=aF h;refine au (bD aL aA i (fV) (dW)) (aQ 5 1 ?_);obtain⟨v5,j,h⟩:=bind_some h;refine kG (k.kR j) (ac ?_);obtain⟨f,h⟩|⟨f,h⟩:=ao h
  ·refine ah 16 f (aJ 9 ?_);cases h;exact bw
  ·exact ah 16 f (ag 4 (bn (g h)))
 ·refine ah 9 e (aJ 8 ?_);cases h;exact bw
theorem Xd(c:am K)(m:Nat):Mv M b r a v2 m (jY K n a v2 m):=by
 induction m with
 | zero=>intro v4 h;cases h
 | succ m d=>intro v4 h;have h:qh K n a v2 (jY K n a v2 m) v4=some r:=h;exact bj (X2 c d h)
theorem YD(c:am K)(h:wL K n a v2=some r):aY bb 119 [.sl (lm aL a),.fn v2.id v2.aR] (fun v _=>v=iI r):=by
 refine bG (cat Tryz.f119 (pn 1)) Tryz.func119 Tryz.ntmps119 fun M b=>(bg ⟨[(0,.sl (lm aL a)),(1,.fn v2.id v2.aR)],[],[],[]⟩ ?_);unfold wL at h;exact cb 12 13 7 4 (ai 1 (au (bv aL a) (ac (ag 1 (ca (p:=pn 26) n (Xd c n h))))))
end
noncomputable section
variable[GS](M:Nat→Prop)(b:aB)(r:Bool)(a:d6)(v2:Fv)  
variable{M b r a v2}{K:Kn}{n:Nat}
theorem Jw(d:am K)(h:lu K n a v2=some r):aY bb 64 [.sl (lm aL a),.fn v2.id v2.aR] (fun v _=>v=.bool r):=by
 refine bG (cat Tryz.f64 (pn 1)) Tryz.func64 Tryz.ntmps64 fun M b=>(bg ⟨[(0,.sl (lm aL a)),(1,.fn v2.id v2.aR)],[],[],[]⟩ ?_);unfold lu at h;refine ax 6 7 3 (ai 2 ?_);obtain⟨e,c,h⟩:=bind_some h;refine aP (YD d c) (ac (aJ 1 ?_));cases h;exact bw
end
noncomputable section
variable[GS](M:Nat→Prop)(b:aB)(r:d6×Bool)(a:ab)(c:Int)(d e:d6)(f:Nat)(g:Int→d6→Option (d6×Bool))
abbrev FA:Cx:=⟨bb,24,M,b⟩
abbrev EN:=bodyPost bb Tryz.f141 (bI M b (fun v _=>v=.tup [.sl (lm aL r.1),.bool r.2]))
abbrev M9(a:dt)(s:AS):=VE (FA M b) (EN M b r) a .normal s
abbrev JQ(n:Nat):aq:=.c (cat Tryz.f141 (pn n))
abbrev JC:dt:=[.b 0,JQ 15]
abbrev LG:dt:=kl (FA M b) (EN M b r) JC (cat Tryz.f141 (pn 116)) f::JC
def Ww:AS:=⟨[(4,.ref 19),(8,.sl (lm aL a.Kids)),(9,iI (a.Kids.length:Int)),(10,iI c)],[],[(19,(bY e))],[19]⟩
def Sz:AS:=⟨[(4,.ref 19),(8,.sl (lm aL a.Kids)),(9,iI (a.Kids.length:Int)),(10,iI c)],[],[(19,(bY d))],[19]⟩
abbrev KQ:Prop:=∀{c:Int} {d:d6},g c d=some r→LP (FA M b) (EN M b r) JC (cat Tryz.f141 (pn 116)) f (Sz a c d)
variable{M b r a c d e f g}{K:Kn}{n:Nat}
theorem Ph(i:am K)(d:KQ M b r a f g)(h:yS K n a c g e=some r):M9 M b r (.b 1::JQ 935::LG M b r f) (Ww a c e):=by
 unfold yS at h;exact ag 2 (bn (d h))
theorem abs(k:am K)(j:KQ M b r a f g)(h:zI K n a g c d=some r):M9 M b r (JQ 116::LG M b r f) (Sz a c d):=by
 unfold zI at h;refine ax 6 7 3 ?_;obtain⟨e,h⟩|⟨e,h⟩:=ao h
 ·refine ah 11 e (cL 8 9 1 3 5 (ai 0 ?_));obtain⟨l,h⟩:=aF h;refine au (bD aL aA l (fV) (dW)) (ac (ax 2 3 1 (ai 1 ?_)));obtain⟨q,m,h⟩:=bind_some h;refine aP (IQ k m) (ac ?_);obtain⟨i,h⟩|⟨i,h⟩:=ao h
  ·refine ah 15 i (br 2 1 (ai 2 (au (gt aL ([(gD a.Kids c)]:d6) (new:=[aA (gD a.Kids c)]) (by simp only[rl,Db,dW])) ?_)));obtain⟨o,h⟩:=aF h;exact au (cG 19 19 48 59 aL (rfl) (fV) o) (ac (ag 0 (Ph k j h)))
  ·exact ah 15 i (ag 2 (Ph k j h))
 ·refine ah 11 e (gg 2 3 6 (ai 2 (mM 19 ?_)));obtain⟨s,p,h⟩:=bind_some h;refine aP (Jw k p) (ac (aJ 1 ?_));cases h;exact jm
theorem aco(e:am K)(m:Nat):KQ M b r a m (uy K n a m):=by
 induction m with
 | zero=>intro c d h;cases h
 | succ m f=>intro c d h;have h:zI K n a (uy K n a m) c d=some r:=h;exact bj (abs e f h)
theorem Q0(c:am K)(h:si K n a=some r):aY bb 141 [.agg (aA a)] (fun v _=>v=.tup [.sl (lm aL r.1),.bool r.2]):=by
 refine bG (cat Tryz.f141 (pn 1)) Tryz.func141 Tryz.ntmps141 fun M b=>(bg ⟨[(0,.agg (aA a))],[],[],[]⟩ ?_);unfold si at h;exact cb 28 29 15 6 (ai 2 (au (bv aL a.Kids) (ac (gT 2 0 1 (bP [4,8,9,10] [] [] (eW 19 4 48 59 (ag 0 (ca (p:=pn 58) n (aco c n h)))))))))
end
noncomputable section
variable[GS](M:Nat→Prop)(b:aB)(r:bc)(a v2:bc)  
variable{M b r a v2}{K:Kn}{n:Nat}
theorem zj(c:am K)(h:kD K n a v2=some r):aY bb 143 [.agg (cS a),.agg (cS v2)] (fun v _=>v=.agg (cS r)):=by
 refine bG (cat Tryz.f143 (pn 1)) Tryz.func143 Tryz.ntmps143 fun M b=>(bg ⟨[(0,.agg (cS a)),(1,.agg (cS v2))],[],[],[]⟩ ?_);unfold kD at h;refine aJ 5 ?_;cases h;exact bw
end
noncomputable section
variable[GS](M:Nat→Prop)(j:aB)(r:dn×Int×bc×bc×Bool)(c:dn)(d:Int)(e:Bool)(a:Int)(g f:bc)(b:dn)(k:bc)(i:Int)(t:bc)(u:Int)(w:Bool)(x y o:bc)(l:Nat)(q:Int→Bool→Int→bc→bc→dn→Option (dn×Int×bc×bc×Bool))
abbrev F3:Cx:=⟨bb,52,M,j⟩
abbrev H9:=bodyPost bb Tryz.f142 (bI M j (fun v s=>v=.tup [.ref 43,iI r.2.1,.agg (cS r.2.2.1),.agg (cS r.2.2.2.1),.bool r.2.2.2.2]∧look 43 s.r=some (bx r.1)))
abbrev w4(a:dt)(s:AS):=VE (F3 M j) (H9 M j r) a .normal s
abbrev li(n:Nat):aq:=.c (cat Tryz.f142 (pn n))
abbrev EQ:dt:=[.b 0,li 31]
abbrev Dq:dt:=kl (F3 M j) (H9 M j r) EQ (cat Tryz.f142 (pn 244)) l::EQ
def agh:AS:=⟨[(2,.ref 43),(3,iI u),(4,.ptr 4 0),(5,.ptr 5 0),(6,.bool w),(7,.ptr 7 0),(9,.ptr 9 0),(10,.sl (lm aM c)),(11,iI (c.length:Int)),(12,iI a)],[(4,cS x),(5,cS dB),(7,cS y),(9,aG ({ (gD c a)with Y:=i }:ae))],[(43,(bx b))],[4,5,7,9,43]⟩
def afY:AS:=⟨[(2,.ref 43),(4,.ptr 4 0),(5,.ptr 5 0),(7,.ptr 7 0),(9,.ptr 9 0),(10,.sl (lm aM c)),(11,iI (c.length:Int)),(12,iI a)],[(4,cS t),(5,cS dB),(7,cS k),(9,aG ({ (gD c a)with Y:=i }:ae))],[(43,(bx b))],[4,5,7,9,43]⟩
def abS:AS:=⟨[(2,.ref 43),(3,iI d),(4,.ptr 4 0),(5,.ptr 5 0),(6,.bool e),(7,.ptr 7 0),(9,.ptr 9 0),(10,.sl (lm aM c)),(11,iI (c.length:Int)),(12,iI a)],[(4,cS g),(5,cS dB),(7,cS k),(9,aG ({ (gD c a)with Y:=i }:ae))],[(43,(bx b))],[4,5,7,9,43]⟩
def aiV:AS:=⟨[(2,.ref 43),(3,iI d),(4,.ptr 4 0),(5,.ptr 5 0),(6,.bool e),(7,.ptr 7 0)],[(4,cS o),(5,cS dB),(7,cS f)],[(43,(bx b))],[4,5,7,43]⟩
def RJ:AS:=⟨[(2,.ref 43),(3,iI d),(4,.ptr 4 0),(5,.ptr 5 0),(6,.bool e),(7,.ptr 7 0),(10,.sl (lm aM c)),(11,iI (c.length:Int)),(12,iI a)],[(4,cS g),(5,cS dB),(7,cS f)],[(43,(bx b))],[4,5,7,43]⟩
abbrev zX:Prop:=∀{d:Int} {e:Bool} {a:Int} {g:bc} {f:bc} {b:dn},q d e a g f b=some r→LP (F3 M j) (H9 M j r) EQ (cat Tryz.f142 (pn 244)) l (RJ c d e a g f b)
variable{M j r c d e a g f b k i t u w x y o l q}{K:Kn}{n:Nat}
theorem QU(f:am K)(e:zX M j r c l q)(h:uD K n c a b i q u w x y=some r):w4 M j r (li 125343 :: .b 1::li 1959::Dq M j r l) (agh c a b i u w x y):=by
 unfold uD at h;refine ai 2 (au (gt aM ([({ (gD c a)with Y:=i }:ae)]:dn) (new:=[aG ({ (gD c a)with Y:=i }:ae)]) (by simp only[rl,Db,dH])) ?_);obtain⟨d,h⟩:=aF h;exact au (cG 43 43 44 67 aM (rfl) (ku) d) (ac (ag 2 (bn (e h))))
theorem QJ(e:am K)(d:zX M j r c l q)(h:vT K n c a b k i q t=some r):w4 M j r (li 1002741::li 125343 :: .b 1::li 1959::Dq M j r l) (afY c a b k i t):=by
 unfold vT at h;exact ag 5 (QU e d h)
theorem LH(p:am K)(o:zX M j r c l q)(h:ur K n c d e a g b k q i=some r):w4 M j r (li 62671 :: .b 1::li 1959::Dq M j r l) (abS c d e a g b k i):=by
 unfold ur at h;refine ax 5 3 3 ?_;obtain⟨f,h⟩|⟨f,h⟩:=ao h
 ·refine ah 30 f (ax 9 5 4 ?_);obtain⟨m,h⟩|⟨m,h⟩:=ao h
  ·exact ah 31 m (ag 2 (QJ p o h))
  ·exact ah 31 m (ag 2 (QJ p o h))
 ·exact ah 30 f (ag 2 (QU p o h))
theorem M8(a:am K)(h:rq K n d e f b o=some r):w4 M j r [li 63] (aiV d e f b o):=by
 unfold rq at h;refine ax 2 3 1 (bP [2,3,4,5,6,7] [4,5,7] [43] (bQ 5 (nu 47 [.ref 43,iI d,.agg (cS o),.agg (cS f),.bool e]) [] [] [cf bb 52 Tryz.f142 (pn 126) 5,cf bb 52 Tryz.f142 (pn 126) 6,cf bb 52 Tryz.f142 (pn 126) 7,cf bb 52 Tryz.f142 (pn 126) 8,cf bb 52 Tryz.f142 (pn 126) 9] (ay [.v 0 1,.v 0 2,.v 0 3,.v 0 4,.v 0 5] (aj (cg 0) (aj (cg 1) (aj (cg 2) (aj (cg 3) (aj (cg 4) bR)))))) (aJ 1 ?_)));cases h;exact pE
theorem aiy(p:am K)(s:zX M j r c l q)(h:ru K n c q d e a g f b=some r):w4 M j r (li 244::Dq M j r l) (RJ c d e a g f b):=by
 unfold ru at h;refine ax 6 7 3 ?_;obtain⟨i,h⟩|⟨i,h⟩:=ao h
 ·refine ah 13 i (cL 8 9 1 3 5 (ai 0 ?_));obtain⟨t,h⟩:=aF h;refine au (bD aM aG t (ku) (dH)) (ac (ax 2 3 1 (ai 3 ?_)));obtain⟨k,u,h⟩:=bind_some h;refine aP (zj p u) (ac (ax 13 7 5 ?_));obtain⟨m,h⟩|⟨m,h⟩:=ao h
  ·refine ah 22 m (br 2 1 (ai 2 ?_));obtain⟨w,v,h⟩:=bind_some h;exact aP (mV p v) (ac (ag 0 (LH p s h)))
  ·exact ah 22 m (ag 2 (LH p s h))
 ·refine ah 13 i (gg 5 3 8 ?_);obtain⟨o,h⟩|⟨o,h⟩:=ao h
  ·exact ah 45 o (ag 2 (M8 p h))
  ·exact ah 45 o (ag 2 (M8 p h))
theorem aig(i:am K)(m:Nat):zX M j r c m (jM K n c m):=by
 induction m with
 | zero=>intro d e a g f b h;cases h
 | succ m k=>intro d e a g f b h;have h:ru K n c (jM K n c m) d e a g f b=some r:=h;exact bj (aiy i k h)
theorem adB(a:am K)(h:mi K n c=some r):aY bb 142 [.sl (lm aM c)] (fun v s=>v=.tup [.ref 43,iI r.2.1,.agg (cS r.2.2.1),.agg (cS r.2.2.2.1),.bool r.2.2.2.2]∧look 43 s.r=some (bx r.1)):=by
 refine bG (cat Tryz.f142 (pn 1)) Tryz.func142 Tryz.ntmps142 fun M j=>(bg ⟨[(0,.sl (lm aM c))],[],[],[]⟩ ?_);unfold mi at h;exact cb 60 61 31 8 (ai 1 (au (bv aM c) (ac (gT 2 0 1 (bP [2,3,4,5,6,7,10,11,12] [4,5,7] [] (eW 43 2 44 67 (ag 0 (ca (p:=pn 122) n (aig a n h)))))))))
end
noncomputable section
variable[GS](M:Nat→Prop)(b:aB)(r:Int)(a:bW)  
variable{M b r a}{K:Kn}{n:Nat}
theorem afc(c:am K)(h:DK K n a=some r):aY bb 144 [.agg (ct a)] (fun v _=>v=iI r):=by
 refine bG (cat Tryz.f144 (pn 1)) Tryz.func144 Tryz.ntmps144 fun M b=>(bg ⟨[(0,.agg (ct a))],[],[],[]⟩ ?_);unfold DK at h;refine aJ 5 ?_;cases h;exact bw
end
noncomputable section
variable[GS](M:Nat→Prop)(a:aB)(r:Bool)(b:ab)(v2:Bool)  
abbrev Xk(n:Nat):aq:=.c (cat Tryz.f145 (pn n))
abbrev aj6:Cx:=⟨bb,16,M,a⟩
abbrev Y8:=bodyPost bb Tryz.f145 (bI M a (fun v _=>v=.bool r))
abbrev aa9(b:dt)(s:AS):=VE (aj6 M a) (Y8 M a r) b .normal s
def WV:AS:=⟨[(2,.bool v2)],[],[],[]⟩
variable{M a r b v2}{K:Kn}{n:Nat}
theorem EF(b:am K)(h:tS K n v2=some r):aa9 M a r [Xk 7] (WV v2):=by
 unfold tS at h;refine aJ 1 ?_;cases h;exact bw
theorem Tu(e:am K)(h:wy K n b=some r):aY bb 145 [.agg (aA b)] (fun v _=>v=.bool r):=by
 refine bG (cat Tryz.f145 (pn 1)) Tryz.func145 Tryz.ntmps145 fun M a=>(bg ⟨[(0,.agg (aA b))],[],[],[]⟩ ?_);unfold wy at h;refine ax 6 7 3 (ai 4 ?_);obtain⟨c,h⟩|⟨c,h⟩:=ao h
 ·exact aD 6 c (ac (ag 0 (EF e h)))
 ·refine aD 6 c (aQ 9 5 ?_);obtain⟨d,h⟩|⟨d,h⟩:=ao h
  ·exact aD 11 d (ac (ag 0 (EF e h)))
  ·exact aD 11 d (ac (ag 0 (EF e h)))
end
noncomputable section
variable[GS](M:Nat→Prop)(y:aB)(r:ae×Int×Int×dO)(j:ab)(v2:bW)(E v4:Bool)(v5:bz)(v6 v7:Int)(v8:dO)(l:d6×Bool)(F:Int)(G:dn)(H I:Int)(J:dO)(z:Int)(A:Bool)(B C:bc)(b:dn)(d e:Int)(f:dO)(Q D:bc)(b0:Bool)(g:Int)(O:bc)(c0:Bool)(P:Int)(o q:bc)(t:Bool)(a0:Int×Bool)(d0:Bool)(e0 u w a:Int)(x N:dn)(f0:Bool)(g0:dn)(m1 m2:Nat)(L1:Int→dn→Int→Int→dO→Option hF)(L2:Int→dn→Option hF)
abbrev zd:Cx:=⟨bb,259,M,y⟩
abbrev xD:=bodyPost bb Tryz.f100 (bI M y (fun v s=>v=.agg (aG r.1)∧cq s.o [(af r.2.1 r.2.2.1)]∧look 440009 s.r=some (bt r.2.2.2)))
abbrev kz(a:dt)(s:AS):=VE (zd M y) (xD M y r) a .normal s
abbrev dK(n:Nat):aq:=.c (cat Tryz.f100 (pn n))
abbrev HF:dt:=[.b 4,dK 131071]
abbrev wP:dt:=kl (zd M y) (xD M y r) HF (cat Tryz.f100 (pn 1048564)) m2::HF
abbrev F4:dt:=[.b 0,dK 4075,dK 255]
abbrev Xq:dt:=kl (zd M y) (xD M y r) F4 (cat Tryz.f100 (pn 32596)) m1::F4
def afq:AS:=⟨[(6,.ptr 6 0),(10,.ptr 10 0),(11,.ptr 11 0),(12,.sl (lm aL l.1)),(13,.bool l.2),(15,iI g),(199,iI (b.length:Int)),(200,iI a)],[(6,ct v2),(10,List.set (aG bT) 66 (.nils)),(11,List.set (aG (⟨1,j.Node,v2.Margin.a3,0,(aa (v2.Content+u)),w,0,⟨#[]⟩,j.Style,o,q,t,[]⟩:ae)) 66 (.ref 1054)),(af d e)],[(1054,(bx g0)),(440009,(bt f))],[6,10,11,440001,1054,440009,1440001,440001]⟩
def Y1:AS:=⟨[(6,.ptr 6 0),(10,.ptr 10 0),(11,.ptr 11 0),(12,.sl (lm aL l.1)),(13,.bool l.2),(15,iI g),(24,iI a),(199,iI (b.length:Int)),(200,iI a),(244,.bool f0)],[(6,ct v2),(10,List.set (aG bT) 66 (.nils)),(11,List.set (aG (⟨1,j.Node,v2.Margin.a3,0,(aa (v2.Content+u)),w,0,⟨#[]⟩,j.Style,o,q,t,[]⟩:ae)) 66 (.ref 1054)),(af d e)],[(1054,(bx N)),(440009,(bt f))],[6,10,11,440001,1054,440009,1440001,440001]⟩
def Vd:AS:=⟨[(6,.ptr 6 0),(10,.ptr 10 0),(11,.ptr 11 0),(12,.sl (lm aL l.1)),(13,.bool l.2),(15,iI g),(199,iI (b.length:Int)),(200,iI a)],[(6,ct v2),(10,List.set (aG bT) 66 (.nils)),(11,List.set (aG (⟨1,j.Node,v2.Margin.a3,0,(aa (v2.Content+u)),w,0,⟨#[]⟩,j.Style,o,q,t,[]⟩:ae)) 66 (.ref 1054)),(af d e)],[(1054,(bx x)),(440009,(bt f))],[6,10,11,440001,1054,440009,1440001,440001]⟩
def ahW:AS:=⟨[(6,.ptr 6 0),(10,.ptr 10 0),(11,.ptr 11 0),(12,.sl (lm aL l.1)),(13,.bool l.2),(14,iI e0),(15,iI g)],[(6,ct v2),(10,List.set (aG bT) 66 (.nils)),(11,List.set (aG ({ bT with Kind:=1,Node:=j.Node,Style:=j.Style,Before:=o,After:=q,Empty:=t }:ae)) 66 (.ref 1054)),(af d e)],[(1054,(bx b)),(440009,(bt f))],[6,10,11,440001,1054,440009,1440001,440001]⟩
def Y5:AS:=⟨[(6,.ptr 6 0),(10,.ptr 10 0),(11,.ptr 11 0),(12,.sl (lm aL l.1)),(13,.bool l.2),(14,iI (max P 0)),(15,iI g),(22,iI a0.1),(166,.bool d0)],[(6,ct v2),(10,List.set (aG bT) 66 (.nils)),(11,List.set (aG ({ bT with Kind:=1,Node:=j.Node,Style:=j.Style,Before:=o,After:=q,Empty:=t }:ae)) 66 (.ref 1054)),(af d e)],[(1054,(bx b)),(440009,(bt f))],[6,10,11,440001,1054,440009,1440001,440001]⟩
def XI:AS:=⟨[(5,.ptr 5 0),(6,.ptr 6 0),(10,.ptr 10 0),(11,.ptr 11 0),(12,.sl (lm aL l.1)),(13,.bool l.2),(14,iI P),(15,iI g)],[(5,aA j),(6,ct v2),(10,List.set (aG bT) 66 (.nils)),(11,List.set (aG ({ bT with Kind:=1,Node:=j.Node,Style:=j.Style,Before:=o,After:=q,Empty:=t }:ae)) 66 (.ref 1054)),(af d e)],[(1054,(bx b)),(440009,(bt f))],[5,6,10,11,440001,1054,440009,1440001,440001]⟩
def aiF:AS:=⟨[(3,.bool v4),(5,.ptr 5 0),(6,.ptr 6 0),(10,.ptr 10 0),(11,.ptr 11 0),(12,.sl (lm aL l.1)),(13,.bool l.2),(14,iI z),(15,iI g),(16,.ptr 16 0),(17,.ptr 17 0),(18,.bool A),(113,.bool c0)],[(5,aA j),(6,ct v2),(10,List.set (aG bT) 66 (.nils)),(11,List.set (aG ({ bT with Kind:=1,Node:=j.Node,Style:=j.Style,Before:=O,After:=D }:ae)) 66 (.ref 1054)),(16,cS B),(17,cS C),(af d e)],[(1054,(bx b)),(440009,(bt f))],[5,6,10,11,16,17,440001,1054,440009,1440001,440001]⟩
def Yr:AS:=⟨[(2,.bool E),(3,.bool v4),(5,.ptr 5 0),(6,.ptr 6 0),(10,.ptr 10 0),(11,.ptr 11 0),(12,.sl (lm aL l.1)),(13,.bool l.2),(14,iI z),(15,iI g),(16,.ptr 16 0),(17,.ptr 17 0),(18,.bool A)],[(5,aA j),(6,ct v2),(10,List.set (aG bT) 66 (.nils)),(11,List.set (aG ({ bT with Kind:=1,Node:=j.Node,Style:=j.Style,Before:=O,After:=D }:ae)) 66 (.ref 1054)),(16,cS B),(17,cS C),(af d e)],[(1054,(bx b)),(440009,(bt f))],[5,6,10,11,16,17,440001,1054,440009,1440001,440001]⟩
def Z1:AS:=⟨[(2,.bool E),(3,.bool v4),(5,.ptr 5 0),(6,.ptr 6 0),(10,.ptr 10 0),(11,.ptr 11 0),(12,.sl (lm aL l.1)),(13,.bool l.2),(14,iI z),(15,iI 0),(16,.ptr 16 0),(17,.ptr 17 0),(18,.bool A),(98,.bool b0)],[(5,aA j),(6,ct v2),(10,List.set (aG bT) 66 (.nils)),(11,List.set (aG ({ bT with Kind:=1,Node:=j.Node,Style:=j.Style,Before:=Q,After:=D }:ae)) 66 (.ref 1054)),(16,cS B),(17,cS C),(af d e)],[(1054,(bx b)),(440009,(bt f))],[5,6,10,11,16,17,440001,1054,440009,1440001,440001]⟩
def aim:AS:=⟨[(2,.bool E),(3,.bool v4),(5,.ptr 5 0),(6,.ptr 6 0),(10,.ptr 10 0),(11,.ptr 11 0),(12,.sl (lm aL l.1)),(13,.bool l.2),(14,iI z),(15,iI 0),(16,.ptr 16 0),(17,.ptr 17 0),(18,.bool A)],[(5,aA j),(6,ct v2),(10,List.set (aG bT) 66 (.nils)),(11,List.set (aG ({ bT with Kind:=1,Node:=j.Node,Style:=j.Style }:ae)) 66 (.ref 1054)),(16,cS B),(17,cS C),(af d e)],[(1054,(bx b)),(440009,(bt f))],[5,6,10,11,16,17,440001,1054,440009,1440001,440001]⟩
def Pk:AS:=⟨[(2,.bool E),(3,.bool v4),(5,.ptr 5 0),(6,.ptr 6 0),(9,.ptr 9 0),(10,.ptr 10 0),(11,.ptr 11 0),(12,.sl (lm aL l.1)),(13,.bool l.2),(15,iI 0),(16,.ptr 16 0),(17,.ptr 17 0),(19,.ref 50),(36,.sl (lm aL l.1)),(37,iI (l.1.length:Int)),(38,iI F)],[(5,aA j),(6,ct v2),(9,bL v5),(10,List.set (aG bT) 66 (.nils)),(11,List.set (aG ({ bT with Kind:=1,Node:=j.Node,Style:=j.Style }:ae)) 66 (.nils)),(16,cS dB),(17,cS dB),(af H I)],[(50,(bx G)),(440009,(bt J))],[5,6,9,10,11,16,17,440001,50,440009,1440001,440001]⟩
abbrev Sv:Prop:=∀{F:Int} {G:dn} {H:Int} {I:Int} {J:dO},L1 F G H I J=some r→LP (zd M y) (xD M y r) F4 (cat Tryz.f100 (pn 32596)) m1 (Pk j v2 E v4 v5 l F G H I J)
abbrev BA:Prop:=∀{a:Int} {x:dn},L2 a x=some r→LP (zd M y) (xD M y r) HF (cat Tryz.f100 (pn 1048564)) m2 (Vd j v2 l b d e f g o q t u w a x)
variable{M y r j v2 E v4 v5 v6 v7 v8 l F G H I J z A B C b d e f Q D b0 g O c0 P o q t a0 d0 e0 u w a x N f0 g0 m1 m2 L1 L2}{K:Kn}{n:Nat}[SG y]
theorem U4(i:am K)(c:BA M y r j v2 l b d e f g o q t u w m2 L2)(h:AF K n j v2 l b d e f g o q t u w a L2 g0=some r):kz M y r (.b 5::dK 8388519::wP M y r m2) (afq j v2 l b d e f g o q t u w a g0):=by
 unfold AF at h;exact ag 2 (bn (c h))
theorem Rr(x:am K)(p:BA M y r j v2 l b d e f g o q t u w m2 L2)(h:xS K n j v2 l b d e f g o q t u w a N L2 f0=some r):kz M y r (dK 268432591 :: .b 5::dK 8388519::wP M y r m2) (Y1 j v2 l b d e f g o q t u w a N f0):=by
 unfold xS at h;obtain⟨c,h⟩|⟨c,h⟩:=ao h
 ·refine ah 244 c (br 2 1 (bP [6,10,11,12,13,15,24,199,200] [6,10,11,440001] [1054,440009] ?_));obtain⟨s,h⟩:=aF h;obtain⟨k,v,h⟩:=bind_some h;obtain⟨i,h⟩:=aF h;exact bQ 1 (nu 245 [.ptr 11 66,.ref 1054,iI a,.ptr 11 66,.ref 1054,iI a,.eptr 1054 67 (a.toNat) 0,.agg (aG (gD N a)),.ptr 6 12,iI v2.Content,.agg (aG k),.eptr 1054 67 (a.toNat) 0]) [] [] [d8 1054 ⟨44,67,lm aM (List.set N a.toNat k)⟩] (ay (vz 6) (bh (cN 1054 67 aM (L:=N) s) (bh (bJ 44 0 aM aG (bF i).2 (dH)) (ay (vz 2) (aj (cv 0 1 255 (OG x v)) (bh (cN 1054 67 aM (L:=N) i) (aj (dp (m:=0) (dD 1054 44 67 0 aM aG k (bF i).2 (dH))) bR))))))) (ag 0 (U4 x p h))
 ·exact ah 244 c (ag 2 (U4 x p h))
theorem ajf(G:am K)(z:BA M y r j v2 l b d e f g o q t u w m2 L2)(h:yE K n j v2 l b d e f g o q t u w L2 a x=some r):kz M y r (dK 1048564::wP M y r m2) (Vd j v2 l b d e f g o q t u w a x):=by
 unfold yE at h;refine ax 6 7 3 ?_;obtain⟨s,h⟩|⟨s,h⟩:=ao h
 ·refine ah 201 s (cL 18 19 5 3 7 (bP [6,10,11,12,13,15,24,199,200] [6,10,11,440001] [1054,440009] ?_));obtain⟨A,h⟩:=aF h;obtain⟨i,h⟩:=aF h;refine bQ 1 (nu 203 [.ptr 11 66,.ref 1054,iI a,.eptr 1054 67 (a.toNat) 0,.eptr 1054 67 (a.toNat) 2,iI ((gD x a).X),.ptr 6 4,.ptr 6 7,iI v2.Border.a3,.ptr 6 8,.ptr 6 11,iI v2.Padding.a3,iI (aa (v2.Border.a3+v2.Padding.a3)),iI (aa (((gD x a).X)+(aa (v2.Border.a3+v2.Padding.a3)))),.eptr 1054 67 (a.toNat) 0,.eptr 1054 67 (a.toNat) 2]) [] [] [d8 1054 ⟨44,67,lm aM (List.set x a.toNat ({ (gD x a)with X:=(aa (((gD x a).X)+(aa (v2.Border.a3+v2.Padding.a3)))) }:ae))⟩] (ay (vz 3) (bh (cN 1054 67 aM (L:=x) A) (ay [.v 0 1] (bh (bJ 3 2 aM aG (bF i).2 (dH)) (ay (vz 8) (aj (ii (lo:=0) (k:=2) (dR ⟨(by kernel_rfl),(ep (cN 1054 67 aM (L:=x) i) (by kernel_rfl))⟩ (dR ⟨(by kernel_rfl),(ep (cN 1054 67 aM (L:=(List.set x a.toNat ({ (gD x a)with X:=(aa (((gD x a).X)+(aa (v2.Border.a3+v2.Padding.a3)))) }:ae))) i) (by kernel_rfl))⟩ iJ))) (ay [.v 0 1] (aj (dp (m:=0) (dD 1054 44 67 2 aM aG ({ (gD x a)with X:=(aa (((gD x a).X)+(aa (v2.Border.a3+v2.Padding.a3)))) }:ae) (bF i).2 (dH))) bR)))))))) ?_
  obtain⟨c,B,h⟩:=bU h;refine bA (ks':=dK 134216294::dK 134216295 :: .b 5::dK 8388519::wP M y r m2) 1 ⟨[(6,.ptr 6 0),(10,.ptr 10 0),(11,.ptr 11 0),(12,.sl (lm aL l.1)),(13,.bool l.2),(15,iI g),(24,iI a),(199,iI (b.length:Int)),(200,iI a)],[(6,ct v2),(10,List.set (aG bT) 66 (.nils)),(11,List.set (aG (⟨1,j.Node,v2.Margin.a3,0,(aa (v2.Content+u)),w,0,⟨#[]⟩,j.Style,o,q,t,[]⟩:ae)) 66 (.ref 1054)),(af d e)],[(1054,(bx c)),(440009,(bt f))],[6,10,11,440001,1054,440009,1440001,440001]⟩ ?_ (by subst B;kernel_rfl);obtain⟨C,h⟩:=aF h;obtain⟨p,h⟩:=aF h;refine bQ 1 (nu 219 [.ptr 11 66,.ref 1054,iI a,.eptr 1054 67 (a.toNat) 0,.eptr 1054 67 (a.toNat) 3,iI ((gD c a).Y),.ptr 6 4,.ptr 6 4,iI v2.Border.a0,.ptr 6 8,.ptr 6 8,iI v2.Padding.a0,iI (aa (v2.Border.a0+v2.Padding.a0)),iI g,iI (aa ((aa (v2.Border.a0+v2.Padding.a0))+g)),iI (aa (((gD c a).Y)+(aa ((aa (v2.Border.a0+v2.Padding.a0))+g)))),.eptr 1054 67 (a.toNat) 0,.eptr 1054 67 (a.toNat) 3]) [] [] [d8 1054 ⟨44,67,lm aM (List.set c a.toNat ({ (gD c a)with Y:=(aa (((gD c a).Y)+(aa ((aa (v2.Border.a0+v2.Padding.a0))+g)))) }:ae))⟩] (ay (vz 3) (bh (cN 1054 67 aM (L:=c) C) (ay [.v 0 1] (bh (bJ 3 3 aM aG (bF p).2 (dH)) (ay (vz 10) (aj (ii (lo:=0) (k:=2) (dR ⟨(by kernel_rfl),(ep (cN 1054 67 aM (L:=c) p) (by kernel_rfl))⟩ (dR ⟨(by kernel_rfl),(ep (cN 1054 67 aM (L:=(List.set c a.toNat ({ (gD c a)with Y:=(aa (((gD c a).Y)+(aa ((aa (v2.Border.a0+v2.Padding.a0))+g)))) }:ae))) p) (by kernel_rfl))⟩ iJ))) (ay [.v 0 1] (aj (dp (m:=0) (dD 1054 44 67 3 aM aG ({ (gD c a)with Y:=(aa (((gD c a).Y)+(aa ((aa (v2.Border.a0+v2.Padding.a0))+g)))) }:ae) (bF p).2 (dH))) bR)))))))) ?_
  obtain⟨N,D,h⟩:=bU h;refine bA (ks':=dK 268432590::dK 268432591 :: .b 5::dK 8388519::wP M y r m2) 1 ⟨[(6,.ptr 6 0),(10,.ptr 10 0),(11,.ptr 11 0),(12,.sl (lm aL l.1)),(13,.bool l.2),(15,iI g),(24,iI a),(199,iI (b.length:Int)),(200,iI a)],[(6,ct v2),(10,List.set (aG bT) 66 (.nils)),(11,List.set (aG (⟨1,j.Node,v2.Margin.a3,0,(aa (v2.Content+u)),w,0,⟨#[]⟩,j.Style,o,q,t,[]⟩:ae)) 66 (.ref 1054)),(af d e)],[(1054,(bx N)),(440009,(bt f))],[6,10,11,440001,1054,440009,1440001,440001]⟩ ?_ (by subst D;kernel_rfl);refine ai 2 ?_;obtain⟨v,h⟩|⟨v,h⟩:=ao h
  ·refine aD 238 v (aQ 4 2 ?_);obtain⟨E,h⟩:=aF h;refine au (bD aL aA E (fV) (dW)) (aQ 6 1 ?_);obtain⟨H,F,h⟩:=bind_some h;exact aP (Tu G F) (ac (ag 0 (Rr G z h)))
  ·exact aD 238 v (ac (ag 0 (Rr G z h)))
 ·refine ah 201 s (aJ 8 (iz 1054 ?_));cases h;exact ex
theorem akD(c:am K)(m:Nat):BA M y r j v2 l b d e f g o q t u w m (wK K n j v2 l b d e f g o q t u w m):=by
 induction m with
 | zero=>intro a x h;cases h
 | succ m i=>intro a x h;have h:yE K n j v2 l b d e f g o q t u w (wK K n j v2 l b d e f g o q t u w m) a x=some r:=h;exact bj (ajf c i h)
theorem Ue(i:am K)(h:uc K n j v2 l b d e f g o q t e0=some r):kz M y r [dK 8191] (ahW j v2 l b d e f g o q t e0):=by
 unfold uc at h;refine ax 6 7 3 (bP [6,10,11,12,13,14,15] [6,10,11,440001] [1054,440009] ?_);obtain⟨u,a,h⟩:=bind_some h;refine bQ 1 (nu 173 [.ptr 6 12,iI v2.Content,.agg (ct v2),iI u,iI (aa (v2.Content+u)),.ptr 11 4]) [] [] [cf bb 259 Tryz.f100 (pn 32766) 6] (ay (vz 3) (aj (cv 0 1 176 (afc i a)) (ay (vz 2) (aj (cg 0) bR)))) ?_;obtain⟨w,c,h⟩:=bU h;refine bA (ks':=[dK 262140,dK 262141,dK 131071]) 4 ⟨[(6,.ptr 6 0),(10,.ptr 10 0),(11,.ptr 11 0),(12,.sl (lm aL l.1)),(13,.bool l.2),(15,iI g)],[(6,ct v2),(10,List.set (aG bT) 66 (.nils)),(11,List.set (aG (⟨1,j.Node,v2.Margin.a3,0,(aa (v2.Content+u)),w,0,⟨#[]⟩,j.Style,o,q,t,[]⟩:ae)) 66 (.ref 1054)),(af d e)],[(1054,(bx b)),(440009,(bt f))],[6,10,11,440001,1054,440009,1440001,440001]⟩ ?_ (by subst c;kernel_rfl);exact ai 2 (au (bv aM b) (ac (ag 1 (ca (p:=pn 524282) n (akD i n h)))))
theorem Ry(c:am K)(h:zp K n j v2 l b d e f g P o q t a0 d0=some r):kz M y r [dK 32763,dK 8191] (Y5 j v2 l b d e f g P o q t a0 d0):=by
 unfold zp at h;obtain⟨a,h⟩|⟨a,h⟩:=ao h
 ·exact ah 166 a (ag 2 (Ue c h))
 ·exact ah 166 a (ag 2 (Ue c h))
theorem xh(i:am K)(h:ms K n j v2 l b d e f g P o q t=some r):kz M y r [.b 3,dK 2047] (XI j v2 l b d e f g P o q t):=by
 unfold ms at h;refine nR 12 13 7 5 (ai 3 ?_);obtain⟨a0,c,h⟩:=bind_some h;refine aP (eu i c) (ac (ax 2 3 1 (ai 2 ?_)));obtain⟨a,h⟩|⟨a,h⟩:=ao h
 ·exact aD 160 a (ac (ag 0 (Ry i h)))
 ·exact aD 160 a (ac (ag 0 (Ry i h)))
theorem F1(a:am K)(h:uL K n j v2 v4 l z A B C b d e f D g O c0=some r):kz M y r [dK 8185,.b 3,dK 2047] (aiF j v2 v4 l z A B C b d e f D g O c0):=by
 unfold uL at h;obtain⟨c,h⟩|⟨c,h⟩:=ao h
 ·refine ah 113 c (ax 4 5 2 (ai 4 ?_));obtain⟨t,o,h⟩:=bind_some h;exact aP (zj a o) (ac (ag 5 (xh a h)))
 ·refine ah 113 c (br 7 3 ?_);obtain⟨i,h⟩|⟨i,h⟩:=ao h
  ·refine ah 131 i (br 11 5 ?_);obtain⟨k,h⟩|⟨k,h⟩:=ao h
   ·refine ah 134 k (br 2 1 (ai 3 ?_));obtain⟨u,p,h⟩:=bind_some h;exact aP (zj a p) (ac (ag 0 (xh a h)))
   ·exact ah 134 k (ag 2 (xh a h))
  ·refine ah 131 i (br 7 3 ?_);obtain⟨m,h⟩|⟨m,h⟩:=ao h
   ·refine ah 140 m (ax 4 5 2 (ai 3 ?_));obtain⟨v,q,h⟩:=bind_some h;exact aP (zj a q) (ac (ag 1 (xh a h)))
   ·refine ah 140 m (br 3 1 (ai 3 ?_));obtain⟨w,s,h⟩:=bind_some h;exact aP (mV a s) (ac (ag 0 (xh a h)))
theorem IZ(i:am K)(h:sf K n j v2 E v4 l z A B C b d e f D g O=some r):kz M y r [.b 2,dK 1023] (Yr j v2 E v4 l z A B C b d e f D g O):=by
 unfold sf at h;refine cL 8 9 3 3 4 (ai 2 ?_);obtain⟨a,h⟩|⟨a,h⟩:=ao h
 ·refine aD 115 a (aQ 5 3 ?_);obtain⟨c,h⟩|⟨c,h⟩:=ao h
  ·exact aD 118 c (ac (ag 0 (F1 i h)))
  ·exact aD 118 c (ac (ag 0 (F1 i h)))
 ·exact aD 115 a (ac (ag 0 (F1 i h)))
theorem Uw(g:am K)(h:w6 K n j v2 E v4 l z A B C b d e f Q D b0=some r):kz M y r [dK 16359,.b 2,dK 1023] (Z1 j v2 E v4 l z A B C b d e f Q D b0):=by
 unfold w6 at h;obtain⟨a,h⟩|⟨a,h⟩:=ao h
 ·refine ah 98 a (br 2 1 (ai 1 ?_));obtain⟨i,c,h⟩:=bind_some h;exact aP (mV g c) (ac (ag 0 (IZ g h)))
 ·exact ah 98 a (ag 2 (IZ g h))
theorem R5(g:am K)(h:qK K n j v2 E v4 l z A B C b d e f=some r):kz M y r [dK 255] (aim j v2 E v4 l z A B C b d e f):=by
 unfold qK at h;refine ax 2 3 1 (bP [2,3,5,6,10,11,12,13,14,15,16,17,18] [5,6,10,11,16,17,440001] [1054,440009] ?_);obtain⟨Q,i,h⟩:=bind_some h;obtain⟨D,k,h⟩:=bind_some h;refine bQ 2 (nu 81 [.ptr 6 0,.ptr 6 0,iI v2.Margin.a0,.agg (cS Q),.ptr 6 0,.ptr 6 2,iI v2.Margin.a2,.agg (cS D),.ptr 11 61,.ptr 11 63]) [] [] [cf bb 259 Tryz.f100 (pn 510) 9,cf bb 259 Tryz.f100 (pn 510) 11] (ay (vz 3) (aj (cv 0 1 84 (Dd g i)) (ay [.v 0 2,.v 0 2,.v 0 2] (aj (cv 0 1 88 (Dd g k)) (ay [.v 0 1] (aj (cg 0) (ay [.v 1 1] (aj (cg 1) bR)))))))) (gW 9 2 3 4 ?_);obtain⟨a,h⟩|⟨a,h⟩:=ao h
 ·refine ah 91 a (br 2 1 (ai 3 ?_));obtain⟨o,m,h⟩:=bind_some h;exact aP (zj g m) (ac (ag 0 (IZ g h)))
 ·refine ah 91 a (ax 6 7 2 (ai 3 ?_));obtain⟨c,h⟩|⟨c,h⟩:=ao h
  ·exact aD 101 c (ac (ag 0 (Uw g h)))
  ·exact aD 101 c (ac (ag 0 (Uw g h)))
theorem agl(d:am K)(k:Sv M y r j v2 E v4 v5 l m1 L1)(h:zu K n j v2 E v4 v5 l L1 F G H I J=some r):kz M y r (dK 32596::Xq M y r m1) (Pk j v2 E v4 v5 l F G H I J):=by
 unfold zu at h;refine ax 6 7 3 ?_;obtain⟨a,h⟩|⟨a,h⟩:=ao h
 ·refine ah 39 a (cL 8 9 1 3 5 (ai 0 ?_));obtain⟨e,h⟩:=aF h;refine au (bD aL aA e (fV) (dW)) (ac (ai 6 ?_));obtain⟨c,b,h⟩:=bind_some h;refine qG (d.dr b).2 ?_ (d.dr b).1;refine au (gt aM ([c.1]:dn) (new:=[aG c.1]) (by simp only[rl,Db,dH])) ?_;obtain⟨f,h⟩:=aF h;exact au (cG 50 50 44 67 aM (rfl) (ku) f) (ac (ag 2 (bn (k h))))
 ·refine ah 39 a (bX (ks':=[dK 4075,dK 255]) 5 (ai 1 (mM 50 ?_)));obtain⟨m,g,h⟩:=bind_some h;exact fg 1054 (adB d g) (D1 (i:=0) rfl) (ac (ag 0 (R5 d h)))
theorem aej(a:am K)(m:Nat):Sv M y r j v2 E v4 v5 l m (qt K n j v2 E v4 v5 l m):=by
 induction m with
 | zero=>intro F G H I J h;cases h
 | succ m b=>intro F G H I J h;have h:zu K n j v2 E v4 v5 l (qt K n j v2 E v4 v5 l m) F G H I J=some r:=h;exact bj (agl a b h)
theorem Sk(a:am K)(h:kj K n j v2 E v4 v5 v6 v7 v8=some r):eA bb 100 [.agg (aA j),.agg (ct v2),.bool E,.bool v4,.agg (bL v5)] [(af v6 v7)] (bt v8) (fun v s=>v=.agg (aG r.1)∧cq s.o [(af r.2.1 r.2.2.1)]∧look 440009 s.r=some (bt r.2.2.2)):=by
 refine jC (c:=cat Tryz.f100 []) Tryz.func100 (by kernel_rfl) _ Tryz.ntmps100 (lc (by kernel_rfl)) fun M y=>(bg ⟨[(0,.agg (aA j)),(1,.agg (ct v2)),(2,.bool E),(3,.bool v4),(4,.agg (bL v5))],[(af v6 v7)],[(440009,(bt v8))],[440009,440001,1440001]⟩ ?_);unfold kj at h;refine bX (ks':=[dK 14,dK 15]) 5 (ai 1 ?_);obtain⟨l,g,h⟩:=bind_some h;refine aP (Q0 a g) (ac (ax 61 31 9 ?_));obtain⟨e,h⟩|⟨e,h⟩:=ao h
 ·exact ah 35 e (cb 20 21 11 5 (ai 1 (au (bv aL l.1) (ac (gT 2 0 1 (bP [2,3,5,6,9,10,11,12,13,15,16,17,19,36,37,38] [5,6,9,10,11,16,17,440001] [440009] (eW 50 19 44 67 (ag 0 (ca (p:=pn 16298) n (aej a n h))))))))))
 ·refine ah 35 e (ax 6 7 2 (ai 7 ?_));obtain⟨i,b,h⟩:=bind_some h;refine kG (a.yK b) (ac (ax 2 3 1 (ai 2 ?_)));obtain⟨f,d,h⟩:=bind_some h;exact fg 1075 (I6 a d) (ff 5) (ac (ai 2 (au (bv aM f) (ac (bP [2,3,5,6,10,11,12,13,14,15,16,17,18] [5,6,10,11,16,17,440001] [1075,440009] (ta 1075 1054 (ag 0 (R5 a h))))))))
end
noncomputable section
variable[GS](M:Nat→Prop)(d:aB)(r:ae×Int×Int×dO)(a:ab)(v2:Int)(b:bz)(v4 v5:Int)(v6:dO)(e:bW)(f g:Bool)  
abbrev CK(n:Nat):aq:=.c (cat Tryz.f47 (pn n))
abbrev Xe:Cx:=⟨bb,58,M,d⟩
abbrev q47:=bodyPost bb Tryz.f47 (bI M d (fun v s=>v=.agg (aG r.1)∧cq s.o [(af r.2.1 r.2.2.1)]∧look 440009 s.r=some (bt r.2.2.2)))
abbrev UP(a:dt)(s:AS):=VE (Xe M d) (q47 M d r) a .normal s
def aiL:AS:=⟨[(3,.ptr 3 0),(5,.ptr 5 0),(6,.ptr 6 0),(7,.ptr 7 0),(9,.bool f),(10,.bool g)],[(3,aA a),(5,bL b),(6,List.set (aG bT) 66 (.nils)),(7,ct e),(af v4 v5)],[(440009,(bt v6))],[3,5,6,7,440001,440009,1440001,440001]⟩
def adj:AS:=⟨[(3,.ptr 3 0),(5,.ptr 5 0),(6,.ptr 6 0),(7,.ptr 7 0),(8,.bool (a.Style.Overflow == 0)),(9,.bool f)],[(3,aA a),(5,bL b),(6,List.set (aG bT) 66 (.nils)),(7,ct e),(af v4 v5)],[(440009,(bt v6))],[3,5,6,7,440001,440009,1440001,440001]⟩
variable{M d r a v2 b v4 v5 v6 e f g}{K:Kn}{n:Nat}[SG d]
theorem Cy(i:am K)(h:sD K n a b v4 v5 v6 e f g=some r):UP M d r [CK 63] (aiL a b v4 v5 v6 e f g):=by
 unfold sD at h;refine ax 2 3 1 (ai 5 ?_);obtain⟨j,c,h⟩:=bind_some h;refine qG (Sk i c) (ac (aJ 1 ?_));cases h;exact ex
theorem Ix(c:am K)(h:oL K n a b v4 v5 v6 e f=some r):UP M d r [CK 31] (adj a b v4 v5 v6 e f):=by
 unfold oL at h;refine ax 2 3 1 (ai 2 ?_);obtain⟨g,h⟩|⟨g,h⟩:=ao h
 ·refine aD 33 g (aQ 8 6 ?_);obtain⟨i,h⟩|⟨i,h⟩:=ao h
  ·refine aD 39 i (aQ 14 6 ?_);obtain⟨j,h⟩|⟨j,h⟩:=ao h
   ·exact aD 45 j (ac (ag 0 (Cy c h)))
   ·exact aD 45 j (ac (ag 0 (Cy c h)))
  ·exact aD 39 i (ac (ag 0 (Cy c h)))
 ·exact aD 33 g (ac (ag 0 (Cy c h)))
theorem XW(f:am K)(h:oc K n a v2 b v4 v5 v6=some r):eA bb 47 [.agg (aA a),iI v2,.agg (bL b)] [(af v4 v5)] (bt v6) (fun v s=>v=.agg (aG r.1)∧cq s.o [(af r.2.1 r.2.2.1)]∧look 440009 s.r=some (bt r.2.2.2)):=by
 refine jC (c:=cat Tryz.f47 []) Tryz.func47 (by kernel_rfl) _ Tryz.ntmps47 (lc (by kernel_rfl)) fun M d=>(bg ⟨[(0,.agg (aA a)),(1,iI v2),(2,.agg (bL b))],[(af v4 v5)],[(440009,(bt v6))],[440009,440001,1440001]⟩ ?_);unfold oc at h;refine bX (ks':=[CK 6,CK 7]) 3 (ai 3 ?_);obtain⟨e,j,h⟩:=bind_some h;refine aP (Fo f j) (ac (ax 6 7 3 (ai 2 ?_)));obtain⟨g,h⟩|⟨g,h⟩:=ao h
 ·refine aD 20 g (aQ 8 6 ?_);obtain⟨i,h⟩|⟨i,h⟩:=ao h
  ·exact aD 26 i (ac (ag 0 (Ix f h)))
  ·exact aD 26 i (ac (ag 0 (Ix f h)))
 ·exact aD 20 g (ac (ag 0 (Ix f h)))
end
noncomputable section
variable[GS](M:Nat→Prop)(d:aB)(r:ae×Int×Int×dO)(b:ab)(v2:Int)(p:Bool)(v4:bz)(v5:Bool)(v6 q:Int)(t:dO)(e f:Int)(g:dO)(a:ae)(i j:Int)(k:dO)(l m:Int)(o:dO)  
abbrev uo(n:Nat):aq:=.c (cat Tryz.f43 (pn n))
abbrev ae9:Cx:=⟨bb,54,M,d⟩
abbrev q43:=bodyPost bb Tryz.f43 (bI M d (fun v s=>v=.agg (aG r.1)∧cq s.o [(af r.2.1 r.2.2.1)]∧look 440009 s.r=some (bt r.2.2.2)))
abbrev JN(a:dt)(s:AS):=VE (ae9 M d) (q43 M d r) a .normal s
def aj5:AS:=⟨[(7,.ptr 7 0),(10,.ptr 10 0)],[(7,List.set (aG bT) 66 (.nils)),(10,aG a),(af l m)],[(440009,(bt o))],[7,10,440001,440009,1440001,440001]⟩
def aid:AS:=⟨[(1,iI v2),(4,.cptr ([eE 37 v5])),(5,.ptr 5 0),(7,.ptr 7 0),(10,.ptr 10 0)],[(5,aA b),(7,List.set (aG bT) 66 (.nils)),(10,aG a),(af i j)],[(440009,(bt k))],[5,7,10,440001,440009,1440001,440001]⟩
def Wg:AS:=⟨[(1,iI v2),(3,.cptr (bL v4)),(4,.cptr ([eE 37 v5])),(5,.ptr 5 0),(7,.ptr 7 0)],[(5,aA b),(7,List.set (aG bT) 66 (.nils)),(af e f)],[(440009,(bt g))],[5,7,440001,440009,1440001,440001]⟩
variable{M d r b v2 p v4 v5 v6 q t e f g a i j k l m o}{K:Kn}{n:Nat}[SG d]
theorem TC(b:am K)(h:C3 K n a l m o=some r):JN M d r [uo 63] (aj5 a l m o):=by
 unfold C3 at h;refine aJ 3 ?_;cases h;exact ex
theorem PB(g:am K)(h:wk K n b v2 v5 a i j k=some r):JN M d r [.b 0,uo 31] (aid b v2 v5 a i j k):=by
 unfold wk at h;refine nR 4 5 3 3 (ai 1 (RV 37 v5 .neq 89 89 (.tmp 46) (.const .nilFunc) 47 (ac ?_)));obtain⟨c,h⟩|⟨c,h⟩:=ao h
 ·refine ah 47 c (br 2 1 (ai 4 ?_));obtain⟨f,h⟩:=aF h;obtain⟨l,e,h⟩:=bind_some h;exact GV 48 (v:=eE 37 v5) (v':=.vv (i8 37 GS.g)) (by kernel_rfl) (by rw[f];rfl) rfl (LM (Xo g e) (ac (ag 0 (TC g h))))
 ·exact ah 47 c (ag 2 (TC g h))
theorem Sy(a:am K)(h:vY K n b v2 v4 v5 e f g=some r):JN M d r [uo 7] (Wg b v2 v4 v5 e f g):=by
 unfold vY at h;refine gW 53 0 7 8 ?_;obtain⟨c,h⟩|⟨c,h⟩:=ao h
 ·refine ah 28 c (br 2 1 (ai 3 ?_));obtain⟨m,k,h⟩:=bind_some h;exact qG (ajh a k) (ac (ag 0 (PB a h)))
 ·refine ah 28 c (br 7 3 ?_);obtain⟨i,h⟩|⟨i,h⟩:=ao h
  ·refine ah 34 i ?_;cases h
  ·refine ah 34 i (br 7 3 ?_);obtain⟨j,h⟩|⟨j,h⟩:=ao h
   ·refine ah 40 j ?_;cases h
   ·refine ah 40 j (br 3 1 (ai 3 ?_));obtain⟨o,l,h⟩:=bind_some h;exact qG (XW a l) (ac (ag 0 (PB a h)))
theorem afL(f:am K)(h:jZ K n b v2 p v4 v5 v6 q t=some r):eA bb 43 [.agg (aA b),iI v2,.cptr ([eE 36 p]),.cptr (bL v4),.cptr ([eE 37 v5])] [(af v6 q)] (bt t) (fun v s=>v=.agg (aG r.1)∧cq s.o [(af r.2.1 r.2.2.1)]∧look 440009 s.r=some (bt r.2.2.2)):=by
 refine jC (c:=cat Tryz.f43 []) Tryz.func43 (by kernel_rfl) _ Tryz.ntmps43 (lc (by kernel_rfl)) fun M d=>(bg ⟨[(0,.agg (aA b)),(1,iI v2),(2,.cptr ([eE 36 p])),(3,.cptr (bL v4)),(4,.cptr ([eE 37 v5]))],[(af v6 q)],[(440009,(bt t))],[440009,440001,1440001]⟩ ?_);unfold jZ at h;refine bX (ks':=[uo 12,uo 13,uo 7]) 4 (ai 1 (RV 36 p .neq 66 66 (.tmp 11) (.const .nilFunc) 12 (ac ?_)));obtain⟨a,h⟩|⟨a,h⟩:=ao h
 ·refine ah 12 a (ax 4 5 2 (ai 3 ?_));obtain⟨i,h⟩:=aF h;obtain⟨j,g,h⟩:=bind_some h;refine GV 14 (v:=eE 36 p) (v':=.vv (i8 36 GS.g)) (by kernel_rfl) (by rw[i];rfl) rfl (LM (adl f g) (ac (br 3 2 ?_)));obtain⟨e,h⟩|⟨e,h⟩:=ao h
  ·refine ah 20 e (aJ 5 ?_);cases h;exact ex
  ·exact ah 20 e (ag 2 (Sy f h))
 ·exact ah 12 a (ag 2 (Sy f h))
end
noncomputable section
variable[GS](M:Nat→Prop)(a:aB)(r k:aN)(v2:Nat)(o v4 v5 v6 p q t b d f g:aN)  
abbrev eJ(n:Nat):aq:=.c (cat Tryz.f101 (pn n))
abbrev Gy:Cx:=⟨bb,40,M,a⟩
abbrev IB:=bodyPost bb Tryz.f101 (bI M a (fun v _=>v=.agg (aH r)))
abbrev kC(b:dt)(s:AS):=VE (Gy M a) (IB M a r) b .normal s
def aaD:AS:=⟨[(1,.pp 1 v2 0),(2,.ptr 2 0),(24,.ref 10),(25,iI 11),(26,iI 10)],[(1,aH g),(2,aH cw)],[(10,⟨201,1,lm aX (ap v2)⟩)],[1,2,10]⟩
def aio:AS:=⟨[(1,.pp 1 v2 0),(2,.ptr 2 0),(24,.ref 10),(25,iI 11),(26,iI 9)],[(1,aH f),(2,aH cw)],[(10,⟨201,1,lm aX (ap v2)⟩)],[1,2,10]⟩
def ajn:AS:=⟨[(1,.pp 1 v2 0),(2,.ptr 2 0),(24,.ref 10),(25,iI 11),(26,iI 8)],[(1,aH d),(2,aH cw)],[(10,⟨201,1,lm aX (ap v2)⟩)],[1,2,10]⟩
def aj4:AS:=⟨[(1,.pp 1 v2 0),(2,.ptr 2 0),(24,.ref 10),(25,iI 11),(26,iI 7)],[(1,aH b),(2,aH cw)],[(10,⟨201,1,lm aX (ap v2)⟩)],[1,2,10]⟩
def aaK:AS:=⟨[(1,.pp 1 v2 0),(2,.ptr 2 0),(24,.ref 10),(25,iI 11),(26,iI 6)],[(1,aH t),(2,aH cw)],[(10,⟨201,1,lm aX (ap v2)⟩)],[1,2,10]⟩
def ahb:AS:=⟨[(1,.pp 1 v2 0),(2,.ptr 2 0),(24,.ref 10),(25,iI 11),(26,iI 5)],[(1,aH q),(2,aH cw)],[(10,⟨201,1,lm aX (ap v2)⟩)],[1,2,10]⟩
def aiC:AS:=⟨[(1,.pp 1 v2 0),(2,.ptr 2 0),(24,.ref 10),(25,iI 11),(26,iI 4)],[(1,aH p),(2,aH cw)],[(10,⟨201,1,lm aX (ap v2)⟩)],[1,2,10]⟩
def aaU:AS:=⟨[(1,.pp 1 v2 0),(2,.ptr 2 0),(24,.ref 10),(25,iI 11),(26,iI 3)],[(1,aH v6),(2,aH cw)],[(10,⟨201,1,lm aX (ap v2)⟩)],[1,2,10]⟩
def akj:AS:=⟨[(1,.pp 1 v2 0),(2,.ptr 2 0),(24,.ref 10),(25,iI 11),(26,iI 2)],[(1,aH v5),(2,aH cw)],[(10,⟨201,1,lm aX (ap v2)⟩)],[1,2,10]⟩
def WZ:AS:=⟨[(1,.pp 1 v2 0),(2,.ptr 2 0),(24,.ref 10),(25,iI 11),(26,iI 1)],[(1,aH v4),(2,aH cw)],[(10,⟨201,1,lm aX (ap v2)⟩)],[1,2,10]⟩
def abJ:AS:=⟨[(1,.pp 1 v2 0),(2,.ptr 2 0),(24,.ref 10),(25,iI 11),(26,iI 0)],[(1,aH o),(2,aH cw)],[(10,⟨201,1,lm aX (ap v2)⟩)],[1,2,10]⟩
abbrev eS(m:Nat):dt:=kl (Gy M a) (IB M a r) [.b 2,eJ 31] (cat Tryz.f101 (pn 244)) m::[.b 2,eJ 31]
abbrev A6(m:Nat):dt:=kl (Gy M a) (IB M a r) [.b 0,eJ 15] (cat Tryz.f101 (pn 116)) m::[.b 0,eJ 15]
variable{M a r k v2 o v4 v5 v6 p q t b d f g}{K:Kn}{n:Nat}
theorem UM(b:am K)(h:zQ K n g=some r):kC M a r (.b 3::eJ 1959::eS M a r 29) (aaD v2 g):=by
 unfold zQ at h;refine bA (ks':=eS M a r 29) 2 ⟨[(1,.pp 1 v2 0),(2,.ptr 2 0),(24,.ref 10),(25,iI 11),(26,iI 11)],[(1,aH g),(2,aH cw)],[(10,⟨201,1,lm aX (ap v2)⟩)],[1,2,10]⟩ (bn (bj (aJ 11 ?_)));cases h;exact bw
theorem O0(c:am K)(h:wm K n f=some r):kC M a r (.b 3::eJ 1959::eS M a r 30) (aio v2 f):=by
 unfold wm at h;refine bA (ks':=eS M a r 30) 2 ⟨[(1,.pp 1 v2 0),(2,.ptr 2 0),(24,.ref 10),(25,iI 11),(26,iI 10)],[(1,aH f),(2,aH cw)],[(10,⟨201,1,lm aX (ap v2)⟩)],[1,2,10]⟩ (bn (bj (dA 56 57 3 15 8 (ai 0 (au (cp 10 1 aX (L:=(ap v2)) (i:=(10:Int)) (by kernel_rfl)) (au (bJ 201 0 aX aX (L:=(ap v2)) (j:=(10:Int).toNat) (lc (by kernel_rfl)) aT) (ac (ax 2 3 1 (ai 3 (cY 32 1 1 v2 28 0 (ac ?_)))))))))));obtain⟨b,h⟩|⟨b,h⟩:=ao h
 ·exact ah 34 b (br 2 1 (ai 3 (cY 37 1 1 v2 28 0 (ac (ag 0 (UM c (v2:=v2) h))))))
 ·exact ah 34 b (ag 2 (UM c (v2:=v2) h))
theorem Lj(c:am K)(h:uS K n d=some r):kC M a r (.b 3::eJ 1959::eS M a r 31) (ajn v2 d):=by
 unfold uS at h;refine bA (ks':=eS M a r 31) 2 ⟨[(1,.pp 1 v2 0),(2,.ptr 2 0),(24,.ref 10),(25,iI 11),(26,iI 9)],[(1,aH d),(2,aH cw)],[(10,⟨201,1,lm aX (ap v2)⟩)],[1,2,10]⟩ (bn (bj (dA 56 57 3 15 8 (ai 0 (au (cp 10 1 aX (L:=(ap v2)) (i:=(9:Int)) (by kernel_rfl)) (au (bJ 201 0 aX aX (L:=(ap v2)) (j:=(9:Int).toNat) (lc (by kernel_rfl)) aT) (ac (ax 2 3 1 (ai 3 (cY 32 1 1 v2 20 0 (ac ?_)))))))))));obtain⟨b,h⟩|⟨b,h⟩:=ao h
 ·exact ah 34 b (br 2 1 (ai 3 (cY 37 1 1 v2 20 0 (ac (ag 0 (O0 c (v2:=v2) h))))))
 ·exact ah 34 b (ag 2 (O0 c (v2:=v2) h))
theorem Mb(d:am K)(h:ud K n b=some r):kC M a r (.b 3::eJ 1959::eS M a r 32) (aj4 v2 b):=by
 unfold ud at h;refine bA (ks':=eS M a r 32) 2 ⟨[(1,.pp 1 v2 0),(2,.ptr 2 0),(24,.ref 10),(25,iI 11),(26,iI 8)],[(1,aH b),(2,aH cw)],[(10,⟨201,1,lm aX (ap v2)⟩)],[1,2,10]⟩ (bn (bj (dA 56 57 3 15 8 (ai 0 (au (cp 10 1 aX (L:=(ap v2)) (i:=(8:Int)) (by kernel_rfl)) (au (bJ 201 0 aX aX (L:=(ap v2)) (j:=(8:Int).toNat) (lc (by kernel_rfl)) aT) (ac (ax 2 3 1 (ai 3 (cY 32 1 1 v2 26 0 (ac ?_)))))))))));obtain⟨c,h⟩|⟨c,h⟩:=ao h
 ·exact ah 34 c (br 2 1 (ai 3 (cY 37 1 1 v2 26 0 (ac (ag 0 (Lj d (v2:=v2) h))))))
 ·exact ah 34 c (ag 2 (Lj d (v2:=v2) h))
theorem VP(c:am K)(h:wa K n t=some r):kC M a r (.b 3::eJ 1959::eS M a r 33) (aaK v2 t):=by
 unfold wa at h;refine bA (ks':=eS M a r 33) 2 ⟨[(1,.pp 1 v2 0),(2,.ptr 2 0),(24,.ref 10),(25,iI 11),(26,iI 7)],[(1,aH t),(2,aH cw)],[(10,⟨201,1,lm aX (ap v2)⟩)],[1,2,10]⟩ (bn (bj (dA 56 57 3 15 8 (ai 0 (au (cp 10 1 aX (L:=(ap v2)) (i:=(7:Int)) (by kernel_rfl)) (au (bJ 201 0 aX aX (L:=(ap v2)) (j:=(7:Int).toNat) (lc (by kernel_rfl)) aT) (ac (ax 2 3 1 (ai 3 (cY 32 1 1 v2 18 0 (ac ?_)))))))))));obtain⟨b,h⟩|⟨b,h⟩:=ao h
 ·exact ah 34 b (br 2 1 (ai 3 (cY 37 1 1 v2 18 0 (ac (ag 0 (Mb c (v2:=v2) h))))))
 ·exact ah 34 b (ag 2 (Mb c (v2:=v2) h))
theorem Ro(c:am K)(h:ui K n q=some r):kC M a r (.b 3::eJ 1959::eS M a r 34) (ahb v2 q):=by
 unfold ui at h;refine bA (ks':=eS M a r 34) 2 ⟨[(1,.pp 1 v2 0),(2,.ptr 2 0),(24,.ref 10),(25,iI 11),(26,iI 6)],[(1,aH q),(2,aH cw)],[(10,⟨201,1,lm aX (ap v2)⟩)],[1,2,10]⟩ (bn (bj (dA 56 57 3 15 8 (ai 0 (au (cp 10 1 aX (L:=(ap v2)) (i:=(6:Int)) (by kernel_rfl)) (au (bJ 201 0 aX aX (L:=(ap v2)) (j:=(6:Int).toNat) (lc (by kernel_rfl)) aT) (ac (ax 2 3 1 (ai 3 (cY 32 1 1 v2 24 0 (ac ?_)))))))))));obtain⟨b,h⟩|⟨b,h⟩:=ao h
 ·exact ah 34 b (br 2 1 (ai 3 (cY 37 1 1 v2 24 0 (ac (ag 0 (VP c (v2:=v2) h))))))
 ·exact ah 34 b (ag 2 (VP c (v2:=v2) h))
theorem SR(c:am K)(h:tJ K n p=some r):kC M a r (.b 3::eJ 1959::eS M a r 35) (aiC v2 p):=by
 unfold tJ at h;refine bA (ks':=eS M a r 35) 2 ⟨[(1,.pp 1 v2 0),(2,.ptr 2 0),(24,.ref 10),(25,iI 11),(26,iI 5)],[(1,aH p),(2,aH cw)],[(10,⟨201,1,lm aX (ap v2)⟩)],[1,2,10]⟩ (bn (bj (dA 56 57 3 15 8 (ai 0 (au (cp 10 1 aX (L:=(ap v2)) (i:=(5:Int)) (by kernel_rfl)) (au (bJ 201 0 aX aX (L:=(ap v2)) (j:=(5:Int).toNat) (lc (by kernel_rfl)) aT) (ac (ax 2 3 1 (ai 3 (cY 32 1 1 v2 16 0 (ac ?_)))))))))));obtain⟨b,h⟩|⟨b,h⟩:=ao h
 ·exact ah 34 b (br 2 1 (ai 3 (cY 37 1 1 v2 16 0 (ac (ag 0 (Ro c (v2:=v2) h))))))
 ·exact ah 34 b (ag 2 (Ro c (v2:=v2) h))
theorem Sr(c:am K)(h:tz K n v6=some r):kC M a r (.b 3::eJ 1959::eS M a r 36) (aaU v2 v6):=by
 unfold tz at h;refine bA (ks':=eS M a r 36) 2 ⟨[(1,.pp 1 v2 0),(2,.ptr 2 0),(24,.ref 10),(25,iI 11),(26,iI 4)],[(1,aH v6),(2,aH cw)],[(10,⟨201,1,lm aX (ap v2)⟩)],[1,2,10]⟩ (bn (bj (dA 56 57 3 15 8 (ai 0 (au (cp 10 1 aX (L:=(ap v2)) (i:=(4:Int)) (by kernel_rfl)) (au (bJ 201 0 aX aX (L:=(ap v2)) (j:=(4:Int).toNat) (lc (by kernel_rfl)) aT) (ac (ax 2 3 1 (ai 3 (cY 32 1 1 v2 22 0 (ac ?_)))))))))));obtain⟨b,h⟩|⟨b,h⟩:=ao h
 ·exact ah 34 b (br 2 1 (ai 3 (cY 37 1 1 v2 22 0 (ac (ag 0 (SR c (v2:=v2) h))))))
 ·exact ah 34 b (ag 2 (SR c (v2:=v2) h))
theorem RE(c:am K)(h:vD K n v5=some r):kC M a r (.b 3::eJ 1959::eS M a r 37) (akj v2 v5):=by
 unfold vD at h;refine bA (ks':=eS M a r 37) 2 ⟨[(1,.pp 1 v2 0),(2,.ptr 2 0),(24,.ref 10),(25,iI 11),(26,iI 3)],[(1,aH v5),(2,aH cw)],[(10,⟨201,1,lm aX (ap v2)⟩)],[1,2,10]⟩ (bn (bj (dA 56 57 3 15 8 (ai 0 (au (cp 10 1 aX (L:=(ap v2)) (i:=(3:Int)) (by kernel_rfl)) (au (bJ 201 0 aX aX (L:=(ap v2)) (j:=(3:Int).toNat) (lc (by kernel_rfl)) aT) (ac (ax 2 3 1 (ai 3 (cY 32 1 1 v2 14 0 (ac ?_)))))))))));obtain⟨b,h⟩|⟨b,h⟩:=ao h
 ·exact ah 34 b (br 2 1 (ai 3 (cY 37 1 1 v2 14 0 (ac (ag 0 (Sr c (v2:=v2) h))))))
 ·exact ah 34 b (ag 2 (Sr c (v2:=v2) h))
theorem UK(c:am K)(h:uU K n v4=some r):kC M a r (.b 3::eJ 1959::eS M a r 38) (WZ v2 v4):=by
 unfold uU at h;refine bA (ks':=eS M a r 38) 2 ⟨[(1,.pp 1 v2 0),(2,.ptr 2 0),(24,.ref 10),(25,iI 11),(26,iI 2)],[(1,aH v4),(2,aH cw)],[(10,⟨201,1,lm aX (ap v2)⟩)],[1,2,10]⟩ (bn (bj (dA 56 57 3 15 8 (ai 0 (au (cp 10 1 aX (L:=(ap v2)) (i:=(2:Int)) (by kernel_rfl)) (au (bJ 201 0 aX aX (L:=(ap v2)) (j:=(2:Int).toNat) (lc (by kernel_rfl)) aT) (ac (ax 2 3 1 (ai 3 (cY 32 1 1 v2 12 0 (ac ?_)))))))))));obtain⟨b,h⟩|⟨b,h⟩:=ao h
 ·exact ah 34 b (br 2 1 (ai 3 (cY 37 1 1 v2 12 0 (ac (ag 0 (RE c (v2:=v2) h))))))
 ·exact ah 34 b (ag 2 (RE c (v2:=v2) h))
theorem Rv(c:am K)(h:vK K n o=some r):kC M a r (.b 3::eJ 1959::eS M a r 39) (abJ v2 o):=by
 unfold vK at h;refine bA (ks':=eS M a r 39) 2 ⟨[(1,.pp 1 v2 0),(2,.ptr 2 0),(24,.ref 10),(25,iI 11),(26,iI 1)],[(1,aH o),(2,aH cw)],[(10,⟨201,1,lm aX (ap v2)⟩)],[1,2,10]⟩ (bn (bj (dA 56 57 3 15 8 (ai 0 (au (cp 10 1 aX (L:=(ap v2)) (i:=(1:Int)) (by kernel_rfl)) (au (bJ 201 0 aX aX (L:=(ap v2)) (j:=(1:Int).toNat) (lc (by kernel_rfl)) aT) (ac (ax 2 3 1 (ai 3 (cY 32 1 1 v2 10 0 (ac ?_)))))))))));obtain⟨b,h⟩|⟨b,h⟩:=ao h
 ·exact ah 34 b (br 2 1 (ai 3 (cY 37 1 1 v2 10 0 (ac (ag 0 (UK c (v2:=v2) h))))))
 ·exact ah 34 b (ag 2 (UK c (v2:=v2) h))
theorem adn(d:am K)(h:xx K n k=some r):aY bb 101 [.agg (aH k)] (fun v _=>v=.agg (aH r)):=by
 refine bG (cat Tryz.f101 (pn 1)) Tryz.func101 Tryz.ntmps101 fun M a=>(bg ⟨[(0,.agg (aH k))],[],[],[]⟩ ?_);unfold xx at h;refine ax 6 7 3 (UR 1 1 0 fun v2=>(ai 3 (OS 202 3 #[(0,(.tmp 7)),(1,(.tmp 8)),(2,(.tmp 9))] 10 (e:=201) (sz:=1) (l:=lm aX [(v2,6),(v2,10),(v2,12)]) (ac (bA (ks':=[eJ 58,.b 0,eJ 15]) 4 ⟨[(1,.pp 1 v2 0),(2,.ptr 2 0),(3,.ref 10),(11,iI 0)],[(1,aH k),(2,aH cw)],[(10,⟨201,1,lm aX [(v2,6),(v2,10),(v2,12)]⟩)],[1,2,10]⟩ (nT 40 (c:=cat Tryz.f101 [1,1,0,1,0,0]) (by kernel_rfl) (bj (bX (ks':=eJ 3737 :: .b 1::eJ 935::A6 M a r 39) 9 (bP [1,2,3,4,11] [1,2] [10] (bQ 2 (nu 14 [.ref 10,iI 0,.adr v2 14,.adr v2 14,iI 0,.adr v2 22,.adr v2 22,.sl (lm aX [(v2,14),(v2,22)])]) [] [] [g9 22 10 ⟨201,1,lm aX [(v2,6),(v2,10),(v2,12),(v2,14),(v2,22)]⟩,cf bb 40 Tryz.f101 (pn 3737) 9] (ay [.v 0 1,.v 0 2,.v 0 2,.v 0 2,.v 0 2,.v 0 2,.v 0 2,.v 0 1] (aj (dp (m:=0) (cG 22 10 201 1 aX (L:=([(v2,6),(v2,10),(v2,12)]:hZ)) (M:=([(v2,14),(v2,22)]:hZ)) (bytes:=8) (rfl) aT (by kernel_rfl))) (aj (cg 1) bR))) (bA (ks':=A6 M a r 39) 2 ⟨[(1,.pp 1 v2 0),(2,.ptr 2 0),(3,.ref 10),(11,iI 1)],[(1,aH k),(2,aH cw)],[(10,⟨201,1,lm aX [(v2,6),(v2,10),(v2,12),(v2,14),(v2,22)]⟩)],[1,2,10]⟩ (bn (bj (gW 57 1 15 9 (bP [1,2,3,4,11] [1,2] [10] (bQ 2 (nu 14 [.ref 10,iI 1,.adr v2 14,.adr v2 16,iI 1,.adr v2 22,.adr v2 24,.sl (lm aX [(v2,16),(v2,24)])]) [] [] [g9 22 10 ⟨201,1,lm aX [(v2,6),(v2,10),(v2,12),(v2,14),(v2,22),(v2,16),(v2,24)]⟩,cf bb 40 Tryz.f101 (pn 3737) 9] (ay [.v 0 1,.v 0 2,.v 0 2,.v 0 2,.v 0 2,.v 0 2,.v 0 2,.v 0 1] (aj (dp (m:=0) (cG 22 10 201 1 aX (L:=([(v2,6),(v2,10),(v2,12),(v2,14),(v2,22)]:hZ)) (M:=([(v2,16),(v2,24)]:hZ)) (bytes:=8) (rfl) aT (by kernel_rfl))) (aj (cg 1) bR))) (bA (ks':=A6 M a r 38) 2 ⟨[(1,.pp 1 v2 0),(2,.ptr 2 0),(3,.ref 10),(11,iI 2)],[(1,aH k),(2,aH cw)],[(10,⟨201,1,lm aX [(v2,6),(v2,10),(v2,12),(v2,14),(v2,22),(v2,16),(v2,24)]⟩)],[1,2,10]⟩ (bn (bj (gW 57 1 15 9 (bP [1,2,3,4,11] [1,2] [10] (bQ 2 (nu 14 [.ref 10,iI 2,.adr v2 14,.adr v2 18,iI 2,.adr v2 22,.adr v2 26,.sl (lm aX [(v2,18),(v2,26)])]) [] [] [g9 22 10 ⟨201,1,lm aX [(v2,6),(v2,10),(v2,12),(v2,14),(v2,22),(v2,16),(v2,24),(v2,18),(v2,26)]⟩,cf bb 40 Tryz.f101 (pn 3737) 9] (ay [.v 0 1,.v 0 2,.v 0 2,.v 0 2,.v 0 2,.v 0 2,.v 0 2,.v 0 1] (aj (dp (m:=0) (cG 22 10 201 1 aX (L:=([(v2,6),(v2,10),(v2,12),(v2,14),(v2,22),(v2,16),(v2,24)]:hZ)) (M:=([(v2,18),(v2,26)]:hZ)) (bytes:=8) (rfl) aT (by kernel_rfl))) (aj (cg 1) bR))) (bA (ks':=A6 M a r 37) 2 ⟨[(1,.pp 1 v2 0),(2,.ptr 2 0),(3,.ref 10),(11,iI 3)],[(1,aH k),(2,aH cw)],[(10,⟨201,1,lm aX [(v2,6),(v2,10),(v2,12),(v2,14),(v2,22),(v2,16),(v2,24),(v2,18),(v2,26)]⟩)],[1,2,10]⟩ ?_)))))))))))))))))))))))
 refine bn (bj (gW 57 1 15 9 (bP [1,2,3,4,11] [1,2] [10] (bQ 2 (nu 14 [.ref 10,iI 3,.adr v2 14,.adr v2 20,iI 3,.adr v2 22,.adr v2 28,.sl (lm aX [(v2,20),(v2,28)])]) [] [] [g9 22 10 ⟨201,1,lm aX (ap v2)⟩,cf bb 40 Tryz.f101 (pn 3737) 9] (ay [.v 0 1,.v 0 2,.v 0 2,.v 0 2,.v 0 2,.v 0 2,.v 0 2,.v 0 1] (aj (dp (m:=0) (cG 22 10 201 1 aX (L:=([(v2,6),(v2,10),(v2,12),(v2,14),(v2,22),(v2,16),(v2,24),(v2,18),(v2,26)]:hZ)) (M:=([(v2,20),(v2,28)]:hZ)) (bytes:=8) (rfl) aT (by kernel_rfl))) (aj (cg 1) bR))) (bA (ks':=A6 M a r 36) 2 ⟨[(1,.pp 1 v2 0),(2,.ptr 2 0),(3,.ref 10),(11,iI 4)],[(1,aH k),(2,aH cw)],[(10,⟨201,1,lm aX (ap v2)⟩)],[1,2,10]⟩ (bn (bj (Qj 4 5 3 10 (ai 1 (au (bv aX (ap v2)) (ac (bA (ks':=[eJ 122,.b 2,eJ 31]) 1 ⟨[(1,.pp 1 v2 0),(2,.ptr 2 0),(24,.ref 10),(25,iI 11),(26,iI 0)],[(1,aH k),(2,aH cw)],[(10,⟨201,1,lm aX (ap v2)⟩)],[1,2,10]⟩ (nT 40 (c:=cat Tryz.f101 [1,1,1,0,1,0,0]) (by kernel_rfl) (bj (bX (ks':=eJ 7832::eJ 7833 :: .b 3::eJ 1959::eS M a r 39) 8 (ai 0 (au (cp 10 1 aX (L:=(ap v2)) (i:=(0:Int)) (by kernel_rfl)) (au (bJ 201 0 aX aX (L:=(ap v2)) (j:=(0:Int).toNat) (lc (by kernel_rfl)) aT) (ac (ax 2 3 1 (ai 3 (cY 32 1 1 v2 6 0 (ac ?_)))))))))))))))))))))))
 obtain⟨b,h⟩|⟨b,h⟩:=ao h
 ·exact ah 34 b (br 2 1 (ai 3 (cY 37 1 1 v2 6 0 (ac (ag 0 (Rv d (v2:=v2) h))))))
 ·exact ah 34 b (ag 2 (Rv d (v2:=v2) h))
end
noncomputable section
variable[GS](M:Nat→Prop)(b:aB)(r a:Int)(v2:aN)  
variable{M b r a v2}{K:Kn}{n:Nat}
theorem SV(c:am K)(h:AB K n a v2=some r):aY bb 103 [iI a,.cptr (aH v2)] (fun v _=>v=iI r):=by
 refine bG (cat Tryz.f103 (pn 1)) Tryz.func103 Tryz.ntmps103 fun M b=>(bg ⟨[(0,iI a),(1,.cptr (aH v2))],[],[],[]⟩ ?_);unfold AB at h;refine ax 6 7 3 (bP [0,1] [] [] ?_);obtain⟨i,d,h⟩:=bind_some h;obtain⟨v4,e,h⟩:=bind_some h;obtain⟨v5,f,h⟩:=bind_some h;obtain⟨v6,g,h⟩:=bind_some h;refine bQ 1 (nu 4 [.agg (aH v2),.agg (aH v2),iI a,iI i,iI v4,.agg (ct v5),iI v6]) [] [] [cf bb 11 Tryz.f103 (pn 6) 7] (ay (vz 3) (aj (cv 0 1 7 (mU c d)) (aj (cv 0 1 8 (zN c e)) (aj (cv 0 1 9 (mF c f)) (aj (cv 0 1 10 (oS c g)) (aj (cg 0) bR)))))) (aJ 1 ?_);cases h;exact bw
end
noncomputable section
variable[GS](M:Nat→Prop)(d:aB)(r:Int×Int)(e:ab)(v2:bz)(c:aN)(v5:d6)(f b a:Int)(g:Int×Int)(j k l o q:Int)(i:Nat)(t:Int→Int→Int→Option eq)
abbrev II:Cx:=⟨bb,70,M,d⟩
abbrev Ho:=bodyPost bb Tryz.f49 (bI M d (fun v _=>v=.tup [iI r.1,iI r.2]))
abbrev El(a:dt)(s:AS):=VE (II M d) (Ho M d r) a .normal s
abbrev qQ(n:Nat):aq:=.c (cat Tryz.f49 (pn n))
abbrev Fh:dt:=[.b 0,qQ 15]
abbrev B9:dt:=kl (II M d) (Ho M d r) Fh (cat Tryz.f49 (pn 956)) i::Fh
def afD:AS:=⟨[(2,.ptr 2 0),(3,.ptr 3 0),(4,iI k),(5,iI l),(6,.ptr 6 0),(27,.ref 1027),(28,iI (v5.length:Int)),(29,iI a)],[(2,aA e),(3,bL v2),(6,aH c)],[(1027,(bY v5))],[2,3,6,1027]⟩
def adI:AS:=⟨[(2,.ptr 2 0),(3,.ptr 3 0),(4,iI j),(5,iI (aa (b+g.2))),(6,.ptr 6 0),(27,.ref 1027),(28,iI (v5.length:Int)),(29,iI a)],[(2,aA e),(3,bL v2),(6,aH c)],[(1027,(bY v5))],[2,3,6,1027]⟩
def Wt:AS:=⟨[(4,iI o),(5,iI q),(6,.ptr 6 0)],[(6,aH c)],[],[6]⟩
def R7:AS:=⟨[(2,.ptr 2 0),(3,.ptr 3 0),(4,iI f),(5,iI b),(6,.ptr 6 0),(27,.ref 1027),(28,iI (v5.length:Int)),(29,iI a)],[(2,aA e),(3,bL v2),(6,aH c)],[(1027,(bY v5))],[2,3,6,1027]⟩
abbrev DL:Prop:=∀{f:Int} {b:Int} {a:Int},t f b a=some r→LP (II M d) (Ho M d r) Fh (cat Tryz.f49 (pn 956)) i (R7 e v2 c v5 f b a)
variable{M d r e v2 c v5 f b a g j k l o q i t}{K:Kn}{n:Nat}
theorem Nf(f:am K)(b:DL M d r e v2 c v5 i t)(h:zO K n e v2 c v5 a t k l=some r):El M d r (qQ 7655::B9 M d r i) (afD e v2 c v5 a k l):=by
 unfold zO at h;exact ag 1 (bn (b h))
theorem L8(k:am K)(f:DL M d r e v2 c v5 i t)(h:z7 K n e v2 c v5 b a g t j=some r):El M d r (.b 1::qQ 7655::B9 M d r i) (adI e v2 c v5 b a g j):=by
 unfold z7 at h;exact ag 1 (Nf k f h)
theorem NQ(e:am K)(h:qD K n c o q=some r):El M d r [qQ 15] (Wt c o q):=by
 unfold qD at h;refine ax 2 3 1 (ai 0 (ld 6 6 (aH c) (nO 103 #[(.tmp 6)] [.cptr (aH c)] (ac (ax 2 3 1 (ai 2 ?_))))));obtain⟨f,a,h⟩:=bind_some h;refine aP (SV e a) (aQ 5 2 ?_);obtain⟨g,b,h⟩:=bind_some h;refine aP (SV e b) (ac (aJ 1 ?_));cases h;exact jm
theorem aac(p:am K)(m:DL M d r e v2 c v5 i t)(h:yg K n e v2 c v5 t f b a=some r):El M d r (qQ 956::B9 M d r i) (R7 e v2 c v5 f b a):=by
 unfold yg at h;refine ax 6 7 3 ?_;obtain⟨j,h⟩|⟨j,h⟩:=ao h
 ·refine ah 30 j (cL 8 9 1 3 5 (ai 0 ?_));obtain⟨o,h⟩:=aF h;refine au (cp 1027 59 aL o) (au (bJ 48 0 aL aA (bF o).2 (dW)) (ac (ax 2 3 1 (ai 3 ?_))));obtain⟨g,q,h⟩:=bind_some h;refine kG (p.gy q) (ac (ax 5 3 3 ?_));obtain⟨k,h⟩|⟨k,h⟩:=ao h
  ·exact ah 43 k (ag 6 (Nf p m h))
  ·refine ah 43 k (bX (ks':=qQ 489887 :: .b 1::qQ 7655::B9 M d r i) 6 ?_);obtain⟨l,h⟩|⟨l,h⟩:=ao h
   ·exact ah 55 l (ag 2 (L8 p m h))
   ·exact ah 55 l (ag 2 (L8 p m h))
 ·exact ah 30 j (ag 5 (NQ p h))
theorem V7(g:am K)(m:Nat):DL M d r e v2 c v5 m (rW K n e v2 c v5 m):=by
 induction m with
 | zero=>intro f b a h;cases h
 | succ m i=>intro f b a h;have h:yg K n e v2 c v5 (rW K n e v2 c v5 m) f b a=some r:=h;exact bj (aac g i h)
theorem afH(a:am K)(h:vq K n e v2=some r):aY bb 49 [.agg (aA e),.agg (bL v2)] (fun v _=>v=.tup [iI r.1,iI r.2]):=by
 refine bG (cat Tryz.f49 (pn 1)) Tryz.func49 Tryz.ntmps49 fun M d=>(bg ⟨[(0,.agg (aA e)),(1,.agg (bL v2))],[],[],[]⟩ ?_);unfold vq at h;refine ax 6 7 3 (ai 2 ?_);obtain⟨c,f,h⟩:=bind_some h;refine aP (adn a f) (ac (cb 4 5 3 2 (ai 2 ?_)));obtain⟨v4,g,h⟩:=bind_some h;refine aP (eu a g) (ac (br 3 2 ?_));obtain⟨b,h⟩|⟨b,h⟩:=ao h
 ·exact ah 23 b (ag 2 (NQ a h))
 ·refine ah 23 b (ax 6 7 2 (ai 1 ?_));obtain⟨v5,i,h⟩:=bind_some h;exact fg 1027 (K4 a i) (ff 21) (au (bv aL v5) (ac (ag 1 (ca (p:=pn 478) n (V7 a n h)))))
end
noncomputable section
variable[GS](M:Nat→Prop)(a:aB)(r k:aN)(v2:Nat)(o v4 v5 v6 p q t b d f g:aN)  
abbrev eN(n:Nat):aq:=.c (cat Tryz.f108 (pn n))
abbrev I1:Cx:=⟨bb,40,M,a⟩
abbrev E6:=bodyPost bb Tryz.f108 (bI M a (fun v _=>v=.agg (aH r)))
abbrev kE(b:dt)(s:AS):=VE (I1 M a) (E6 M a r) b .normal s
def aa2:AS:=⟨[(1,.pp 1 v2 0),(2,.ptr 2 0),(24,.ref 10),(25,iI 11),(26,iI 10)],[(1,aH g),(2,aH cw)],[(10,⟨201,1,lm aX (ap v2)⟩)],[1,2,10]⟩
def ahq:AS:=⟨[(1,.pp 1 v2 0),(2,.ptr 2 0),(24,.ref 10),(25,iI 11),(26,iI 9)],[(1,aH f),(2,aH cw)],[(10,⟨201,1,lm aX (ap v2)⟩)],[1,2,10]⟩
def akI:AS:=⟨[(1,.pp 1 v2 0),(2,.ptr 2 0),(24,.ref 10),(25,iI 11),(26,iI 8)],[(1,aH d),(2,aH cw)],[(10,⟨201,1,lm aX (ap v2)⟩)],[1,2,10]⟩
def aft:AS:=⟨[(1,.pp 1 v2 0),(2,.ptr 2 0),(24,.ref 10),(25,iI 11),(26,iI 7)],[(1,aH b),(2,aH cw)],[(10,⟨201,1,lm aX (ap v2)⟩)],[1,2,10]⟩
def ahN:AS:=⟨[(1,.pp 1 v2 0),(2,.ptr 2 0),(24,.ref 10),(25,iI 11),(26,iI 6)],[(1,aH t),(2,aH cw)],[(10,⟨201,1,lm aX (ap v2)⟩)],[1,2,10]⟩
def akz:AS:=⟨[(1,.pp 1 v2 0),(2,.ptr 2 0),(24,.ref 10),(25,iI 11),(26,iI 5)],[(1,aH q),(2,aH cw)],[(10,⟨201,1,lm aX (ap v2)⟩)],[1,2,10]⟩
def aeO:AS:=⟨[(1,.pp 1 v2 0),(2,.ptr 2 0),(24,.ref 10),(25,iI 11),(26,iI 4)],[(1,aH p),(2,aH cw)],[(10,⟨201,1,lm aX (ap v2)⟩)],[1,2,10]⟩
def agj:AS:=⟨[(1,.pp 1 v2 0),(2,.ptr 2 0),(24,.ref 10),(25,iI 11),(26,iI 3)],[(1,aH v6),(2,aH cw)],[(10,⟨201,1,lm aX (ap v2)⟩)],[1,2,10]⟩
def Xu:AS:=⟨[(1,.pp 1 v2 0),(2,.ptr 2 0),(24,.ref 10),(25,iI 11),(26,iI 2)],[(1,aH v5),(2,aH cw)],[(10,⟨201,1,lm aX (ap v2)⟩)],[1,2,10]⟩
def aje:AS:=⟨[(1,.pp 1 v2 0),(2,.ptr 2 0),(24,.ref 10),(25,iI 11),(26,iI 1)],[(1,aH v4),(2,aH cw)],[(10,⟨201,1,lm aX (ap v2)⟩)],[1,2,10]⟩
def aen:AS:=⟨[(1,.pp 1 v2 0),(2,.ptr 2 0),(24,.ref 10),(25,iI 11),(26,iI 0)],[(1,aH o),(2,aH cw)],[(10,⟨201,1,lm aX (ap v2)⟩)],[1,2,10]⟩
abbrev eZ(m:Nat):dt:=kl (I1 M a) (E6 M a r) [.b 2,eN 31] (cat Tryz.f108 (pn 244)) m::[.b 2,eN 31]
abbrev xB(m:Nat):dt:=kl (I1 M a) (E6 M a r) [.b 0,eN 15] (cat Tryz.f108 (pn 116)) m::[.b 0,eN 15]
variable{M a r k v2 o v4 v5 v6 p q t b d f g}{K:Kn}{n:Nat}
theorem Uf(b:am K)(h:xo K n g=some r):kE M a r (.b 3::eN 1959::eZ M a r 29) (aa2 v2 g):=by
 unfold xo at h;refine bA (ks':=eZ M a r 29) 2 ⟨[(1,.pp 1 v2 0),(2,.ptr 2 0),(24,.ref 10),(25,iI 11),(26,iI 11)],[(1,aH g),(2,aH cw)],[(10,⟨201,1,lm aX (ap v2)⟩)],[1,2,10]⟩ (bn (bj (aJ 11 ?_)));cases h;exact bw
theorem O7(c:am K)(h:wx K n f=some r):kE M a r (.b 3::eN 1959::eZ M a r 30) (ahq v2 f):=by
 unfold wx at h;refine bA (ks':=eZ M a r 30) 2 ⟨[(1,.pp 1 v2 0),(2,.ptr 2 0),(24,.ref 10),(25,iI 11),(26,iI 10)],[(1,aH f),(2,aH cw)],[(10,⟨201,1,lm aX (ap v2)⟩)],[1,2,10]⟩ (bn (bj (dA 56 57 3 15 8 (ai 0 (au (cp 10 1 aX (L:=(ap v2)) (i:=(10:Int)) (by kernel_rfl)) (au (bJ 201 0 aX aX (L:=(ap v2)) (j:=(10:Int).toNat) (lc (by kernel_rfl)) aT) (ac (ax 2 3 1 (ai 3 (cY 32 1 1 v2 28 0 (ac ?_)))))))))));obtain⟨b,h⟩|⟨b,h⟩:=ao h
 ·exact ah 34 b (br 2 1 (ai 3 (cY 37 1 1 v2 28 0 (ac (ag 0 (Uf c (v2:=v2) h))))))
 ·exact ah 34 b (ag 2 (Uf c (v2:=v2) h))
theorem Vb(c:am K)(h:vV K n d=some r):kE M a r (.b 3::eN 1959::eZ M a r 31) (akI v2 d):=by
 unfold vV at h;refine bA (ks':=eZ M a r 31) 2 ⟨[(1,.pp 1 v2 0),(2,.ptr 2 0),(24,.ref 10),(25,iI 11),(26,iI 9)],[(1,aH d),(2,aH cw)],[(10,⟨201,1,lm aX (ap v2)⟩)],[1,2,10]⟩ (bn (bj (dA 56 57 3 15 8 (ai 0 (au (cp 10 1 aX (L:=(ap v2)) (i:=(9:Int)) (by kernel_rfl)) (au (bJ 201 0 aX aX (L:=(ap v2)) (j:=(9:Int).toNat) (lc (by kernel_rfl)) aT) (ac (ax 2 3 1 (ai 3 (cY 32 1 1 v2 20 0 (ac ?_)))))))))));obtain⟨b,h⟩|⟨b,h⟩:=ao h
 ·exact ah 34 b (br 2 1 (ai 3 (cY 37 1 1 v2 20 0 (ac (ag 0 (O7 c (v2:=v2) h))))))
 ·exact ah 34 b (ag 2 (O7 c (v2:=v2) h))
theorem O8(d:am K)(h:vw K n b=some r):kE M a r (.b 3::eN 1959::eZ M a r 32) (aft v2 b):=by
 unfold vw at h;refine bA (ks':=eZ M a r 32) 2 ⟨[(1,.pp 1 v2 0),(2,.ptr 2 0),(24,.ref 10),(25,iI 11),(26,iI 8)],[(1,aH b),(2,aH cw)],[(10,⟨201,1,lm aX (ap v2)⟩)],[1,2,10]⟩ (bn (bj (dA 56 57 3 15 8 (ai 0 (au (cp 10 1 aX (L:=(ap v2)) (i:=(8:Int)) (by kernel_rfl)) (au (bJ 201 0 aX aX (L:=(ap v2)) (j:=(8:Int).toNat) (lc (by kernel_rfl)) aT) (ac (ax 2 3 1 (ai 3 (cY 32 1 1 v2 26 0 (ac ?_)))))))))));obtain⟨c,h⟩|⟨c,h⟩:=ao h
 ·exact ah 34 c (br 2 1 (ai 3 (cY 37 1 1 v2 26 0 (ac (ag 0 (Vb d (v2:=v2) h))))))
 ·exact ah 34 c (ag 2 (Vb d (v2:=v2) h))
theorem MI(c:am K)(h:vG K n t=some r):kE M a r (.b 3::eN 1959::eZ M a r 33) (ahN v2 t):=by
 unfold vG at h;refine bA (ks':=eZ M a r 33) 2 ⟨[(1,.pp 1 v2 0),(2,.ptr 2 0),(24,.ref 10),(25,iI 11),(26,iI 7)],[(1,aH t),(2,aH cw)],[(10,⟨201,1,lm aX (ap v2)⟩)],[1,2,10]⟩ (bn (bj (dA 56 57 3 15 8 (ai 0 (au (cp 10 1 aX (L:=(ap v2)) (i:=(7:Int)) (by kernel_rfl)) (au (bJ 201 0 aX aX (L:=(ap v2)) (j:=(7:Int).toNat) (lc (by kernel_rfl)) aT) (ac (ax 2 3 1 (ai 3 (cY 32 1 1 v2 18 0 (ac ?_)))))))))));obtain⟨b,h⟩|⟨b,h⟩:=ao h
 ·exact ah 34 b (br 2 1 (ai 3 (cY 37 1 1 v2 18 0 (ac (ag 0 (O8 c (v2:=v2) h))))))
 ·exact ah 34 b (ag 2 (O8 c (v2:=v2) h))
theorem Pt(c:am K)(h:uO K n q=some r):kE M a r (.b 3::eN 1959::eZ M a r 34) (akz v2 q):=by
 unfold uO at h;refine bA (ks':=eZ M a r 34) 2 ⟨[(1,.pp 1 v2 0),(2,.ptr 2 0),(24,.ref 10),(25,iI 11),(26,iI 6)],[(1,aH q),(2,aH cw)],[(10,⟨201,1,lm aX (ap v2)⟩)],[1,2,10]⟩ (bn (bj (dA 56 57 3 15 8 (ai 0 (au (cp 10 1 aX (L:=(ap v2)) (i:=(6:Int)) (by kernel_rfl)) (au (bJ 201 0 aX aX (L:=(ap v2)) (j:=(6:Int).toNat) (lc (by kernel_rfl)) aT) (ac (ax 2 3 1 (ai 3 (cY 32 1 1 v2 24 0 (ac ?_)))))))))));obtain⟨b,h⟩|⟨b,h⟩:=ao h
 ·exact ah 34 b (br 2 1 (ai 3 (cY 37 1 1 v2 24 0 (ac (ag 0 (MI c (v2:=v2) h))))))
 ·exact ah 34 b (ag 2 (MI c (v2:=v2) h))
theorem MC(c:am K)(h:uM K n p=some r):kE M a r (.b 3::eN 1959::eZ M a r 35) (aeO v2 p):=by
 unfold uM at h;refine bA (ks':=eZ M a r 35) 2 ⟨[(1,.pp 1 v2 0),(2,.ptr 2 0),(24,.ref 10),(25,iI 11),(26,iI 5)],[(1,aH p),(2,aH cw)],[(10,⟨201,1,lm aX (ap v2)⟩)],[1,2,10]⟩ (bn (bj (dA 56 57 3 15 8 (ai 0 (au (cp 10 1 aX (L:=(ap v2)) (i:=(5:Int)) (by kernel_rfl)) (au (bJ 201 0 aX aX (L:=(ap v2)) (j:=(5:Int).toNat) (lc (by kernel_rfl)) aT) (ac (ax 2 3 1 (ai 3 (cY 32 1 1 v2 16 0 (ac ?_)))))))))));obtain⟨b,h⟩|⟨b,h⟩:=ao h
 ·exact ah 34 b (br 2 1 (ai 3 (cY 37 1 1 v2 16 0 (ac (ag 0 (Pt c (v2:=v2) h))))))
 ·exact ah 34 b (ag 2 (Pt c (v2:=v2) h))
theorem Ua(c:am K)(h:s7 K n v6=some r):kE M a r (.b 3::eN 1959::eZ M a r 36) (agj v2 v6):=by
 unfold s7 at h;refine bA (ks':=eZ M a r 36) 2 ⟨[(1,.pp 1 v2 0),(2,.ptr 2 0),(24,.ref 10),(25,iI 11),(26,iI 4)],[(1,aH v6),(2,aH cw)],[(10,⟨201,1,lm aX (ap v2)⟩)],[1,2,10]⟩ (bn (bj (dA 56 57 3 15 8 (ai 0 (au (cp 10 1 aX (L:=(ap v2)) (i:=(4:Int)) (by kernel_rfl)) (au (bJ 201 0 aX aX (L:=(ap v2)) (j:=(4:Int).toNat) (lc (by kernel_rfl)) aT) (ac (ax 2 3 1 (ai 3 (cY 32 1 1 v2 22 0 (ac ?_)))))))))));obtain⟨b,h⟩|⟨b,h⟩:=ao h
 ·exact ah 34 b (br 2 1 (ai 3 (cY 37 1 1 v2 22 0 (ac (ag 0 (MC c (v2:=v2) h))))))
 ·exact ah 34 b (ag 2 (MC c (v2:=v2) h))
theorem Tx(c:am K)(h:vn K n v5=some r):kE M a r (.b 3::eN 1959::eZ M a r 37) (Xu v2 v5):=by
 unfold vn at h;refine bA (ks':=eZ M a r 37) 2 ⟨[(1,.pp 1 v2 0),(2,.ptr 2 0),(24,.ref 10),(25,iI 11),(26,iI 3)],[(1,aH v5),(2,aH cw)],[(10,⟨201,1,lm aX (ap v2)⟩)],[1,2,10]⟩ (bn (bj (dA 56 57 3 15 8 (ai 0 (au (cp 10 1 aX (L:=(ap v2)) (i:=(3:Int)) (by kernel_rfl)) (au (bJ 201 0 aX aX (L:=(ap v2)) (j:=(3:Int).toNat) (lc (by kernel_rfl)) aT) (ac (ax 2 3 1 (ai 3 (cY 32 1 1 v2 14 0 (ac ?_)))))))))));obtain⟨b,h⟩|⟨b,h⟩:=ao h
 ·exact ah 34 b (br 2 1 (ai 3 (cY 37 1 1 v2 14 0 (ac (ag 0 (Ua c (v2:=v2) h))))))
 ·exact ah 34 b (ag 2 (Ua c (v2:=v2) h))
theorem O9(c:am K)(h:vt K n v4=some r):kE M a r (.b 3::eN 1959::eZ M a r 38) (aje v2 v4):=by
 unfold vt at h;refine bA (ks':=eZ M a r 38) 2 ⟨[(1,.pp 1 v2 0),(2,.ptr 2 0),(24,.ref 10),(25,iI 11),(26,iI 2)],[(1,aH v4),(2,aH cw)],[(10,⟨201,1,lm aX (ap v2)⟩)],[1,2,10]⟩ (bn (bj (dA 56 57 3 15 8 (ai 0 (au (cp 10 1 aX (L:=(ap v2)) (i:=(2:Int)) (by kernel_rfl)) (au (bJ 201 0 aX aX (L:=(ap v2)) (j:=(2:Int).toNat) (lc (by kernel_rfl)) aT) (ac (ax 2 3 1 (ai 3 (cY 32 1 1 v2 12 0 (ac ?_)))))))))));obtain⟨b,h⟩|⟨b,h⟩:=ao h
 ·exact ah 34 b (br 2 1 (ai 3 (cY 37 1 1 v2 12 0 (ac (ag 0 (Tx c (v2:=v2) h))))))
 ·exact ah 34 b (ag 2 (Tx c (v2:=v2) h))
theorem Ns(c:am K)(h:sn K n o=some r):kE M a r (.b 3::eN 1959::eZ M a r 39) (aen v2 o):=by
 unfold sn at h;refine bA (ks':=eZ M a r 39) 2 ⟨[(1,.pp 1 v2 0),(2,.ptr 2 0),(24,.ref 10),(25,iI 11),(26,iI 1)],[(1,aH o),(2,aH cw)],[(10,⟨201,1,lm aX (ap v2)⟩)],[1,2,10]⟩ (bn (bj (dA 56 57 3 15 8 (ai 0 (au (cp 10 1 aX (L:=(ap v2)) (i:=(1:Int)) (by kernel_rfl)) (au (bJ 201 0 aX aX (L:=(ap v2)) (j:=(1:Int).toNat) (lc (by kernel_rfl)) aT) (ac (ax 2 3 1 (ai 3 (cY 32 1 1 v2 10 0 (ac ?_)))))))))));obtain⟨b,h⟩|⟨b,h⟩:=ao h
 ·exact ah 34 b (br 2 1 (ai 3 (cY 37 1 1 v2 10 0 (ac (ag 0 (O9 c (v2:=v2) h))))))
 ·exact ah 34 b (ag 2 (O9 c (v2:=v2) h))
theorem OK(d:am K)(h:ut K n k=some r):aY bb 108 [.agg (aH k)] (fun v _=>v=.agg (aH r)):=by
 refine bG (cat Tryz.f108 (pn 1)) Tryz.func108 Tryz.ntmps108 fun M a=>(bg ⟨[(0,.agg (aH k))],[],[],[]⟩ ?_);unfold ut at h;refine ax 6 7 3 (UR 1 1 0 fun v2=>(ai 3 (OS 202 3 #[(0,(.tmp 7)),(1,(.tmp 8)),(2,(.tmp 9))] 10 (e:=201) (sz:=1) (l:=lm aX [(v2,6),(v2,10),(v2,12)]) (ac (bA (ks':=[eN 58,.b 0,eN 15]) 4 ⟨[(1,.pp 1 v2 0),(2,.ptr 2 0),(3,.ref 10),(11,iI 0)],[(1,aH k),(2,aH cw)],[(10,⟨201,1,lm aX [(v2,6),(v2,10),(v2,12)]⟩)],[1,2,10]⟩ (nT 40 (c:=cat Tryz.f108 [1,1,0,1,0,0]) (by kernel_rfl) (bj (bX (ks':=eN 3737 :: .b 1::eN 935::xB M a r 39) 9 (bP [1,2,3,4,11] [1,2] [10] (bQ 2 (nu 14 [.ref 10,iI 0,.adr v2 14,.adr v2 14,iI 0,.adr v2 22,.adr v2 22,.sl (lm aX [(v2,14),(v2,22)])]) [] [] [g9 22 10 ⟨201,1,lm aX [(v2,6),(v2,10),(v2,12),(v2,14),(v2,22)]⟩,cf bb 40 Tryz.f108 (pn 3737) 9] (ay [.v 0 1,.v 0 2,.v 0 2,.v 0 2,.v 0 2,.v 0 2,.v 0 2,.v 0 1] (aj (dp (m:=0) (cG 22 10 201 1 aX (L:=([(v2,6),(v2,10),(v2,12)]:hZ)) (M:=([(v2,14),(v2,22)]:hZ)) (bytes:=8) (rfl) aT (by kernel_rfl))) (aj (cg 1) bR))) (bA (ks':=xB M a r 39) 2 ⟨[(1,.pp 1 v2 0),(2,.ptr 2 0),(3,.ref 10),(11,iI 1)],[(1,aH k),(2,aH cw)],[(10,⟨201,1,lm aX [(v2,6),(v2,10),(v2,12),(v2,14),(v2,22)]⟩)],[1,2,10]⟩ (bn (bj (gW 57 1 15 9 (bP [1,2,3,4,11] [1,2] [10] (bQ 2 (nu 14 [.ref 10,iI 1,.adr v2 14,.adr v2 16,iI 1,.adr v2 22,.adr v2 24,.sl (lm aX [(v2,16),(v2,24)])]) [] [] [g9 22 10 ⟨201,1,lm aX [(v2,6),(v2,10),(v2,12),(v2,14),(v2,22),(v2,16),(v2,24)]⟩,cf bb 40 Tryz.f108 (pn 3737) 9] (ay [.v 0 1,.v 0 2,.v 0 2,.v 0 2,.v 0 2,.v 0 2,.v 0 2,.v 0 1] (aj (dp (m:=0) (cG 22 10 201 1 aX (L:=([(v2,6),(v2,10),(v2,12),(v2,14),(v2,22)]:hZ)) (M:=([(v2,16),(v2,24)]:hZ)) (bytes:=8) (rfl) aT (by kernel_rfl))) (aj (cg 1) bR))) (bA (ks':=xB M a r 38) 2 ⟨[(1,.pp 1 v2 0),(2,.ptr 2 0),(3,.ref 10),(11,iI 2)],[(1,aH k),(2,aH cw)],[(10,⟨201,1,lm aX [(v2,6),(v2,10),(v2,12),(v2,14),(v2,22),(v2,16),(v2,24)]⟩)],[1,2,10]⟩ (bn (bj (gW 57 1 15 9 (bP [1,2,3,4,11] [1,2] [10] (bQ 2 (nu 14 [.ref 10,iI 2,.adr v2 14,.adr v2 18,iI 2,.adr v2 22,.adr v2 26,.sl (lm aX [(v2,18),(v2,26)])]) [] [] [g9 22 10 ⟨201,1,lm aX [(v2,6),(v2,10),(v2,12),(v2,14),(v2,22),(v2,16),(v2,24),(v2,18),(v2,26)]⟩,cf bb 40 Tryz.f108 (pn 3737) 9] (ay [.v 0 1,.v 0 2,.v 0 2,.v 0 2,.v 0 2,.v 0 2,.v 0 2,.v 0 1] (aj (dp (m:=0) (cG 22 10 201 1 aX (L:=([(v2,6),(v2,10),(v2,12),(v2,14),(v2,22),(v2,16),(v2,24)]:hZ)) (M:=([(v2,18),(v2,26)]:hZ)) (bytes:=8) (rfl) aT (by kernel_rfl))) (aj (cg 1) bR))) (bA (ks':=xB M a r 37) 2 ⟨[(1,.pp 1 v2 0),(2,.ptr 2 0),(3,.ref 10),(11,iI 3)],[(1,aH k),(2,aH cw)],[(10,⟨201,1,lm aX [(v2,6),(v2,10),(v2,12),(v2,14),(v2,22),(v2,16),(v2,24),(v2,18),(v2,26)]⟩)],[1,2,10]⟩ ?_)))))))))))))))))))))))
 refine bn (bj (gW 57 1 15 9 (bP [1,2,3,4,11] [1,2] [10] (bQ 2 (nu 14 [.ref 10,iI 3,.adr v2 14,.adr v2 20,iI 3,.adr v2 22,.adr v2 28,.sl (lm aX [(v2,20),(v2,28)])]) [] [] [g9 22 10 ⟨201,1,lm aX (ap v2)⟩,cf bb 40 Tryz.f108 (pn 3737) 9] (ay [.v 0 1,.v 0 2,.v 0 2,.v 0 2,.v 0 2,.v 0 2,.v 0 2,.v 0 1] (aj (dp (m:=0) (cG 22 10 201 1 aX (L:=([(v2,6),(v2,10),(v2,12),(v2,14),(v2,22),(v2,16),(v2,24),(v2,18),(v2,26)]:hZ)) (M:=([(v2,20),(v2,28)]:hZ)) (bytes:=8) (rfl) aT (by kernel_rfl))) (aj (cg 1) bR))) (bA (ks':=xB M a r 36) 2 ⟨[(1,.pp 1 v2 0),(2,.ptr 2 0),(3,.ref 10),(11,iI 4)],[(1,aH k),(2,aH cw)],[(10,⟨201,1,lm aX (ap v2)⟩)],[1,2,10]⟩ (bn (bj (Qj 4 5 3 10 (ai 1 (au (bv aX (ap v2)) (ac (bA (ks':=[eN 122,.b 2,eN 31]) 1 ⟨[(1,.pp 1 v2 0),(2,.ptr 2 0),(24,.ref 10),(25,iI 11),(26,iI 0)],[(1,aH k),(2,aH cw)],[(10,⟨201,1,lm aX (ap v2)⟩)],[1,2,10]⟩ (nT 40 (c:=cat Tryz.f108 [1,1,1,0,1,0,0]) (by kernel_rfl) (bj (bX (ks':=eN 7832::eN 7833 :: .b 3::eN 1959::eZ M a r 39) 8 (ai 0 (au (cp 10 1 aX (L:=(ap v2)) (i:=(0:Int)) (by kernel_rfl)) (au (bJ 201 0 aX aX (L:=(ap v2)) (j:=(0:Int).toNat) (lc (by kernel_rfl)) aT) (ac (ax 2 3 1 (ai 3 (cY 32 1 1 v2 6 0 (ac ?_)))))))))))))))))))))))
 obtain⟨b,h⟩|⟨b,h⟩:=ao h
 ·exact ah 34 b (br 2 1 (ai 3 (cY 37 1 1 v2 6 0 (ac (ag 0 (Ns d (v2:=v2) h))))))
 ·exact ah 34 b (ag 2 (Ns d (v2:=v2) h))
end
noncomputable section
variable[GS](M:Nat→Prop)(d:aB)(r:Int×Int)(g:ab)(v2:bz)(v6:d6×Bool)(a b c:Int)(e:Nat)(f:Int→Int→Int→Option eq)
abbrev Hs:Cx:=⟨bb,71,M,d⟩
abbrev EI:=bodyPost bb Tryz.f107 (bI M d (fun v _=>v=.tup [iI r.1,iI r.2]))
abbrev ags(a:dt)(s:AS):=VE (Hs M d) (EI M d r) a .normal s
abbrev Qw(n:Nat):aq:=.c (cat Tryz.f107 (pn n))
abbrev Hh:dt:=[.b 0,Qw 63]
abbrev agx:dt:=kl (Hs M d) (EI M d r) Hh (cat Tryz.f107 (pn 500)) e::Hh
def LN:AS:=⟨[(3,.ptr 3 0),(4,iI a),(5,iI b),(47,.sl (lm aL v6.1)),(48,iI (v6.1.length:Int)),(49,iI c)],[(3,bL v2)],[],[3]⟩
abbrev TY:Prop:=∀{a:Int} {b:Int} {c:Int},f a b c=some r→LP (Hs M d) (EI M d r) Hh (cat Tryz.f107 (pn 500)) e (LN v2 v6 a b c)
variable{M d r g v2 v6 a b c e f}{K:Kn}{n:Nat}
theorem aki(m:am K)(o:TY M d r v2 v6 e f)(h:Ar K n v2 v6 f a b c=some r):ags M d r (Qw 500::agx M d r e) (LN v2 v6 a b c):=by
 unfold Ar at h;refine ax 6 7 3 ?_;obtain⟨g,h⟩|⟨g,h⟩:=ao h
 ·refine ah 50 g (cL 8 9 1 3 5 (ai 0 ?_));obtain⟨i,h⟩:=aF h;refine au (bD aL aA i (fV) (dW)) (ac (ax 2 3 1 (ai 3 ?_)));obtain⟨p,j,h⟩:=bind_some h;exact kG (m.gy j) (ac (ag 3 (bn (o h))))
 ·refine ah 50 g (gg 2 3 6 (ai 1 ?_));obtain⟨q,k,h⟩:=bind_some h;refine aP (jQ m k) (aQ 3 1 ?_);obtain⟨s,l,h⟩:=bind_some h;refine aP (jQ m l) (ac (aJ 1 ?_));cases h;exact jm
theorem ajH(e:am K)(m:Nat):TY M d r v2 v6 m (vU K n v2 v6 m):=by
 induction m with
 | zero=>intro a b c h;cases h
 | succ m f=>intro a b c h;have h:Ar K n v2 v6 (vU K n v2 v6 m) a b c=some r:=h;exact bj (aki e f h)
theorem Vu(a:am K)(h:lN K n g v2=some r):aY bb 107 [.agg (aA g),.agg (bL v2)] (fun v _=>v=.tup [iI r.1,iI r.2]):=by
 refine bG (cat Tryz.f107 (pn 1)) Tryz.func107 Tryz.ntmps107 fun M d=>(bg ⟨[(0,.agg (aA g)),(1,.agg (bL v2))],[],[],[]⟩ ?_);unfold lN at h;refine cb 12 13 7 4 (ai 2 ?_);obtain⟨o,e,h⟩:=bind_some h;refine aP (OK a e) (aQ 4 1 ?_);obtain⟨v4,f,h⟩:=bind_some h;refine aP (eu a f) (ac (br 3 2 ?_));obtain⟨b,h⟩|⟨b,h⟩:=ao h
 ·refine ah 22 b (ax 4 5 2 (ai 1 ?_));obtain⟨v5,i,h⟩:=bind_some h;refine aP (jQ a i) (ac (aJ 4 ?_));cases h;exact jm
 ·refine ah 22 b (fN 2 3 3 (ai 1 ?_));obtain⟨v6,j,h⟩:=bind_some h;refine aP (Q0 a j) (ac (ax 5 3 3 ?_));obtain⟨c,h⟩|⟨c,h⟩:=ao h
  ·refine ah 33 c (ax 4 5 2 (ai 5 ?_));obtain⟨q,k,h⟩:=bind_some h;refine kG (a.Ag k) (ac (ax 2 3 1 (ai 1 ?_)));obtain⟨s,l,h⟩:=bind_some h;refine aP (jQ a l) (aQ 3 1 ?_);obtain⟨t,m,h⟩:=bind_some h;refine aP (jQ a m) (ac (aJ 2 ?_));cases h;exact jm
  ·exact ah 33 c (nR 4 5 3 4 (ai 1 (au (bv aL v6.1) (ac (ag 1 (ca (p:=pn 250) n (ajH a n h)))))))
end
noncomputable section
variable[GS](M:Nat→Prop)(b:aB)(r:Int×Int)(a:ab)(v2:bz)  
variable{M b r a v2}{K:Kn}{n:Nat}
theorem aew(c:am K)(h:zY K n a v2=some r):aY bb 51 [.agg (aA a),.agg (bL v2)] (fun v _=>v=.tup [iI r.1,iI r.2]):=by
 refine bG (cat Tryz.f51 (pn 1)) Tryz.func51 Tryz.ntmps51 fun M b=>(bg ⟨[(0,.agg (aA a)),(1,.agg (bL v2))],[],[],[]⟩ ?_);unfold zY at h;refine ax 6 7 3 (ai 2 ?_);obtain⟨e,f,h⟩:=bind_some h;refine aP (Vu c f) (ac (ax 2 3 1 (ai 2 ?_)));obtain⟨v4,g,h⟩:=bind_some h;refine aP (OK c g) (ac (ax 2 3 1 (bP [4,5,6] [6] [] ?_)));obtain⟨v5,i,h⟩:=bind_some h;obtain⟨v6,j,h⟩:=bind_some h;obtain⟨p,k,h⟩:=bind_some h;obtain⟨q,l,h⟩:=bind_some h;obtain⟨s,m,h⟩:=bind_some h;obtain⟨d,o,h⟩:=bind_some h;refine bQ 2 (nu 16 [.agg (aH v4),.agg (aH v4),iI e.1,iI v5,.agg (ct v6),iI p,.agg (aH v4),.agg (aH v4),iI e.2,iI q,.agg (ct s),iI d]) [] [] [cf bb 28 Tryz.f51 (pn 30) 12,cf bb 28 Tryz.f51 (pn 30) 13] (ay (vz 3) (aj (cv 0 1 19 (zN c i)) (aj (cv 0 1 20 (mF c j)) (aj (cv 0 1 21 (oS c k)) (ay [.v 0 2,.v 0 2,.v 0 2] (aj (cv 0 2 25 (zN c l)) (aj (cv 0 2 26 (mF c m)) (aj (cv 0 1 27 (oS c o)) (aj (cg 0) (aj (cg 1) bR)))))))))) (aJ 1 ?_)
 cases h;exact jm
end
noncomputable section
variable[GS](M:Nat→Prop)(b:aB)(r:Int×Int)(a:ab)(v2:bz)  
abbrev MH(n:Nat):aq:=.c (cat Tryz.f48 (pn n))
variable{M b r a v2}{K:Kn}{n:Nat}
theorem ahH(e:am K)(h:pu K n a v2=some r):aY bb 48 [.agg (aA a),.cptr (bL v2)] (fun v _=>v=.tup [iI r.1,iI r.2]):=by
 refine bG (cat Tryz.f48 (pn 1)) Tryz.func48 Tryz.ntmps48 fun M b=>(bg ⟨[(0,.agg (aA a)),(1,.cptr (bL v2))],[],[],[]⟩ ?_);unfold pu at h;refine gW 53 0 7 8 ?_;obtain⟨c,h⟩|⟨c,h⟩:=ao h
 ·refine ah 7 c (ax 4 5 2 (ai 2 ?_));obtain⟨i,f,h⟩:=bind_some h;refine aP (afH e f) (ac (aJ 3 ?_));cases h;exact jm
 ·refine ah 7 c (br 7 3 ?_);obtain⟨d,h⟩|⟨d,h⟩:=ao h
  ·refine ah 14 d ?_;cases h
  ·refine ah 14 d (bX (ks':=[MH 14,MH 15]) 4 (ai 2 ?_));obtain⟨v4,g,h⟩:=bind_some h;refine aP (aew e g) (ac (aJ 1 ?_));cases h;exact jm
end
noncomputable section
variable[GS](M:Nat→Prop)(b:aB)(r:eb)(a:aI)(v2:eb)(d v4 v5 v6:Bool)(e:aI)  
abbrev jq(n:Nat):aq:=.c (cat Tryz.f176 (pn n))
abbrev aip:Cx:=⟨bb,72,M,b⟩
abbrev ai3:=bodyPost bb Tryz.f176 (bI M b (fun v s=>v=.ref 9∧cq s.o []∧look 9 s.r=some (b7 r)))
abbrev xW(a:dt)(s:AS):=VE (aip M b) (ai3 M b r) a .normal s
def afo:AS:=⟨[(0,.ref 9),(3,.ptr 3 0)],[(3,av e)],[(9,(b7 v2))],[3,9]⟩
def aeM:AS:=⟨[(0,.ref 9),(3,.ptr 3 0),(64,.bool v6)],[(3,av a)],[(9,(b7 v2))],[3,9]⟩
def acE:AS:=⟨[(0,.ref 9),(3,.ptr 3 0),(5,.bool (a.Box.Style.WhiteSpace == 2)),(32,.bool v5)],[(3,av a)],[(9,(b7 v2))],[3,9]⟩
def aes:AS:=⟨[(0,.ref 9),(3,.ptr 3 0),(5,.bool (a.Box.Style.WhiteSpace == 2)),(24,.bool v4)],[(3,av a)],[(9,(b7 v2))],[3,9]⟩
def acu:AS:=⟨[(0,.ref 9),(3,.ptr 3 0),(5,.bool (a.Box.Style.WhiteSpace == 2)),(19,.bool d)],[(3,av a)],[(9,(b7 v2))],[3,9]⟩
variable{M b r a v2 d v4 v5 v6 e}{K:Kn}{n:Nat}
theorem Gz(c:am K)(h:pS K n v2 e=some r):xW M b r [.b 1,jq 31] (afo v2 e):=by
 unfold pS at h;refine fN 6 7 4 (ai 3 ?_);obtain⟨a,h⟩:=aF h;refine au (cG 71 9 210 5 av (rfl) (cQ) a) (ac (aJ 1 ?_));cases h;exact ex
theorem Fq(d:am K)(h:mE K n a v2 v6=some r):xW M b r [jq 15609,jq 7805,.b 1,jq 31] (aeM a v2 v6):=by
 unfold mE at h;obtain⟨c,h⟩|⟨c,h⟩:=ao h
 ·refine ah 64 c (aJ 7 ?_);cases h;exact ex
 ·exact ah 64 c (ag 3 (Gz d h))
theorem PL(i:am K)(h:sM K n a v2 v5=some r):xW M b r [jq 487,.b 1,jq 31] (acE a v2 v5):=by
 unfold sM at h;obtain⟨j,h⟩|⟨j,h⟩:=ao h
 ·refine ah 32 j (aJ 6 ?_);cases h;exact ex
 ·refine ah 32 j (br 7 3 ?_);obtain⟨c,h⟩|⟨c,h⟩:=ao h
  ·refine ah 40 c (cb 8 9 5 3 (ai 1 (au (bv av v2) (aQ 4 2 ?_))));obtain⟨d,h⟩|⟨d,h⟩:=ao h
   ·exact aD 46 d (ac (ag 0 (Fq i h)))
   ·refine aD 46 d (aQ 6 2 (au (bv av v2) (aQ 8 1 ?_)));obtain⟨f,h⟩:=aF h;refine au (cp 9 5 av f) (aQ 10 1 (au (bJ 4 3 av av (bF f).2 aT) (aQ 13 2 ?_)));obtain⟨e,h⟩|⟨e,h⟩:=ao h
    ·exact aD 55 e (ac (ag 0 (Fq i h)))
    ·refine aD 55 e (aQ 15 2 (au (bv av v2) (aQ 17 1 ?_)));obtain⟨g,h⟩:=aF h;exact au (cp 9 5 av g) (aQ 19 1 (au (bJ 3 0 av av (bF g).2 aT) (ac (ag 0 (Fq i h)))))
  ·exact ah 40 c (ag 2 (Gz i h))
theorem VH(e:am K)(h:s4 K n a v2 v4=some r):xW M b r [jq 121,.b 1,jq 31] (aes a v2 v4):=by
 unfold s4 at h;obtain⟨c,h⟩|⟨c,h⟩:=ao h
 ·exact ah 24 c (ag 2 (Gz e h))
 ·refine ah 24 c (ax 6 7 2 (ai 2 ?_));obtain⟨d,h⟩|⟨d,h⟩:=ao h
  ·exact aD 34 d (ac (ag 0 (PL e h)))
  ·exact aD 34 d (ac (ag 0 (PL e h)))
theorem Es(f:am K)(h:lM K n a v2 d=some r):xW M b r [jq 117,.b 0,jq 15] (acu a v2 d):=by
 unfold lM at h;obtain⟨c,h⟩|⟨c,h⟩:=ao h
 ·refine ah 19 c (bX (ks':=[jq 120,jq 121,.b 1,jq 31]) 6 (ai 2 ?_));obtain⟨e,h⟩|⟨e,h⟩:=ao h
  ·exact aD 26 e (ac (ag 0 (VH f h)))
  ·exact aD 26 e (ac (ag 0 (VH f h)))
 ·refine ah 19 c (ax 6 7 2 (ai 3 ?_));obtain⟨g,h⟩:=aF h;refine au (cG 18 9 210 5 av (rfl) (cQ) g) (ac (aJ 3 ?_));cases h;exact ex
theorem aaY(d:am K)(h:yC K n a v2=some r):iX bb 176 [.ref 9,.agg (av a)] [] 9 (b7 v2) [9] (fun v s=>v=.ref 9∧cq s.o []∧look 9 s.r=some (b7 r)):=by
 refine lA (c:=cat Tryz.f176 (pn 1)) Tryz.func176 (by kernel_rfl) _ Tryz.ntmps176 (lc (by kernel_rfl)) fun M b=>(bg ⟨[(0,.ref 9),(1,.agg (av a))],[],[(9,(b7 v2))],[9]⟩ ?_);unfold yC at h;refine dA 233 117 0 15 11 ?_;obtain⟨e,h⟩|⟨e,h⟩:=ao h
 ·exact ah 19 e (ag 2 (Es d h))
 ·refine ah 19 e (br 7 3 ?_);obtain⟨f,h⟩|⟨f,h⟩:=ao h
  ·exact ah 19 f (ag 2 (Es d h))
  ·refine ah 19 f (br 7 3 ?_);obtain⟨g,h⟩|⟨g,h⟩:=ao h
   ·exact ah 19 g (ag 2 (Es d h))
   ·exact ah 19 g (ag 2 (Es d h))
end
end Go.Proofs.YtocgkfoifehcbaaGreat

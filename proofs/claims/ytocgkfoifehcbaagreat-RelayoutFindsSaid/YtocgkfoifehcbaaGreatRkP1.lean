/- The runs of the functions that RelayoutFinds reaches do what their plain forms say, part 1. Made by a program. -/
import Derived.Test.YtocgkfoifehcbaaGreatRkP0
namespace Go.Proofs.YtocgkfoifehcbaaGreat
open Go.RowKit
set_option maxRecDepth 20000
set_option linter.all false
noncomputable section
variable[GS](M:Nat→Prop)(w:aA)(r:dn×Int×Int×Int×dO)(v1:ab)(v2:Int)(u:bu)(v4 v5:Int)(v6:dO)(j:d4)(i:Int)(f:ek)(d B:ck)(E P Q a0 b0 d0:Int)(e0:Bool)(c0:Int)(b:ck)(g a:Int)(l:dn)(o q:Int)(t:dO)(z F:Int)(G:ck)(H I:Int)(x:ck)(A C y:Int)(D:dn)(J N:Int)(O:dO)(m1 m2 m3 m4:Nat)(L1:Int→ek→ck→ck→Option hF)(L2:Int→Int→dn→Int→Int→dO→Option hF)(L3:Int→ck→Int→Int→Option hF)(L4:Int→Int→Int→dn→Int→Int→dO→Option hF)
abbrev mj:Cx:=⟨bb,228,M,w⟩
abbrev nD:=bodyPost bb Tryz.f81 (bJ M w (fun v s=>v=.tup [.ref 440010,iI r.2.1]∧cy s.o [(af r.2.2.1 r.2.2.2.1)]∧look 440009 s.r=some (bt r.2.2.2.2)∧look 440010 s.r=some (bx r.1)))
abbrev oL(a:dt)(s:AS):=VE (mj M w) (nD M w r) a .normal s
abbrev dj(n:Nat):aq:=.c (cat Tryz.f81 (pn n))
abbrev Hh:dt:=[.b 2,dj 4095]
abbrev y4:dt:=kl (mj M w) (nD M w r) Hh (cat Tryz.f81 (pn 32756)) m2::Hh
abbrev JR:dt:=[.b 0,dj 127]
abbrev Ay:dt:=kl (mj M w) (nD M w r) JR (cat Tryz.f81 (pn 1012)) m1::JR
abbrev Hu:dt:=.b 6::dj 67085951 :: .b 3::dj 262055::y4 M w r m2
abbrev H8:dt:=kl (mj M w) (nD M w r) (Hu M w r m2) (cat Tryz.f81 (pn 536687604)) m4::(Hu M w r m2)
abbrev Kr:dt:=.b 4::dj 16771487 :: .b 3::dj 262055::y4 M w r m2
abbrev abP:dt:=kl (mj M w) (nD M w r) (Kr M w r m2) (cat Tryz.f81 (pn 134171892)) m3::(Kr M w r m2)
def ab6:AS:=⟨[(1,iI v2),(3,.ptr 3 0),(5,.ptr 5 0),(8,.ref 1035),(9,.ref 38),(10,.ref 41),(11,.ref 44),(12,iI i),(15,.ptr 15 0),(16,iI c0),(45,.ref 1035),(46,iI (j.length:Int)),(47,iI i)],[(3,aB v1),(5,bI u),(15,cn (⟨0,a0,b0,P,Q⟩:bC)),(af v4 v5)],[(38,⟨176,5,lm cn f⟩),(41,⟨3,1,lm (ak .i64) (List.set d i.toNat E)⟩),(44,(bk B)),(1035,(bY j)),(440009,(bt v6))],[3,5,15,440001,38,41,44,1035,440009,1440001,440001]⟩
def acI:AS:=⟨[(1,iI v2),(3,.ptr 3 0),(5,.ptr 5 0),(8,.ref 1035),(9,.ref 38),(10,.ref 41),(11,.ref 44),(12,iI i),(13,.ptr 13 0),(14,.ptr 14 0),(15,.ptr 15 0),(16,iI d0),(17,.bool e0),(45,.ref 1035),(46,iI (j.length:Int)),(47,iI i)],[(3,aB v1),(5,bI u),(13,aB (gD j i)),(14,aH ((gD j i).Style)),(15,cn (⟨0,a0,b0,P,Q⟩:bC)),(af v4 v5)],[(38,⟨176,5,lm cn f⟩),(41,⟨3,1,lm (ak .i64) (List.set d i.toNat E)⟩),(44,(bk B)),(1035,(bY j)),(440009,(bt v6))],[3,5,13,14,15,440001,38,41,44,1035,440009,1440001,440001]⟩
def Ta:AS:=⟨[(1,iI v2),(5,.ptr 5 0),(8,.ref 1035),(9,.sl (lm cn f)),(10,.sl (lm (ak .i64) d)),(20,.sl (lm (ak .i64) b)),(21,.ref 220),(22,iI g),(24,iI (gD b a)),(29,iI A),(30,iI C),(128,.sl (lm (ak .i64) b)),(129,iI (b.length:Int)),(130,iI a),(166,.ref 1166),(167,iI (x.length:Int)),(168,iI y)],[(5,bI u),(af J N)],[(220,(bx D)),(1035,(bY j)),(1166,(bk x)),(440009,(bt O))],[5,440001,220,1035,1166,440009,1440001,440001]⟩
def Su:AS:=⟨[(1,iI v2),(5,.ptr 5 0),(8,.ref 1035),(9,.sl (lm cn f)),(10,.sl (lm (ak .i64) d)),(20,.sl (lm (ak .i64) b)),(21,.ref 220),(22,iI g),(24,iI (gD b a)),(25,iI z),(26,iI F),(128,.sl (lm (ak .i64) b)),(129,iI (b.length:Int)),(130,iI a),(151,.sl (lm (ak .i64) G)),(152,iI H),(153,iI I)],[(5,bI u),(af o q)],[(220,(bx l)),(1035,(bY j)),(440009,(bt t))],[5,440001,220,1035,440009,1440001,440001]⟩
def WQ:AS:=⟨[(1,iI v2),(5,.ptr 5 0),(8,.ref 1035),(9,.sl (lm cn f)),(10,.sl (lm (ak .i64) d)),(20,.sl (lm (ak .i64) b)),(21,.ref 220),(22,iI g),(24,iI (gD b a)),(25,iI z),(128,.sl (lm (ak .i64) b)),(129,iI (b.length:Int)),(130,iI a)],[(5,bI u),(af o q)],[(220,(bx l)),(1035,(bY j)),(440009,(bt t))],[5,440001,220,1035,440009,1440001,440001]⟩
def LC:AS:=⟨[(1,iI v2),(5,.ptr 5 0),(8,.ref 1035),(9,.sl (lm cn f)),(10,.sl (lm (ak .i64) d)),(20,.sl (lm (ak .i64) b)),(21,.ref 220),(22,iI g),(128,.sl (lm (ak .i64) b)),(129,iI (b.length:Int)),(130,iI a)],[(5,bI u),(af o q)],[(220,(bx l)),(1035,(bY j)),(440009,(bt t))],[5,440001,220,1035,440009,1440001,440001]⟩
def abe:AS:=⟨[(1,iI v2),(5,.ptr 5 0),(8,.ref 1035),(9,.ref 38),(10,.ref 41),(20,.sl (lm (ak .i64) b))],[(5,bI u),(af v4 v5)],[(38,⟨176,5,lm cn f⟩),(41,(bk d)),(1035,(bY j)),(440009,(bt v6))],[5,440001,38,41,1035,440009,1440001,440001]⟩
def OD:AS:=⟨[(1,iI v2),(3,.ptr 3 0),(5,.ptr 5 0),(8,.ref 1035),(9,.ref 38),(10,.ref 41),(11,.ref 44),(45,.ref 1035),(46,iI (j.length:Int)),(47,iI i)],[(3,aB v1),(5,bI u),(af v4 v5)],[(38,⟨176,5,lm cn f⟩),(41,(bk d)),(44,(bk B)),(1035,(bY j)),(440009,(bt v6))],[3,5,440001,38,41,44,1035,440009,1440001,440001]⟩
abbrev BH:Prop:=∀{i:Int} {f:ek} {d:ck} {B:ck},L1 i f d B=some r→LP (mj M w) (nD M w r) JR (cat Tryz.f81 (pn 1012)) m1 (OD v1 v2 u v4 v5 v6 j i f d B)
abbrev pA:Prop:=∀{g:Int} {a:Int} {l:dn} {o:Int} {q:Int} {t:dO},L2 g a l o q t=some r→LP (mj M w) (nD M w r) Hh (cat Tryz.f81 (pn 32756)) m2 (LC v2 u j f d b g a l o q t)
abbrev UO:Prop:=∀{F:Int} {G:ck} {H:Int} {I:Int},L3 F G H I=some r→LP (mj M w) (nD M w r) (Kr M w r m2) (cat Tryz.f81 (pn 134171892)) m3 (Su v2 u j f d b g a l o q t z F G H I)
abbrev Vm:Prop:=∀{A:Int} {C:Int} {y:Int} {D:dn} {J:Int} {N:Int} {O:dO},L4 A C y D J N O=some r→LP (mj M w) (nD M w r) (Hu M w r m2) (cat Tryz.f81 (pn 536687604)) m4 (Ta v2 u j f d b g a x A C y D J N O)
variable{M w r v1 v2 u v4 v5 v6 j i f d B E P Q a0 b0 d0 e0 c0 b g a l o q t z F G H I x A C y D J N O m1 m2 m3 m4 L1 L2 L3 L4}{K:Kn}{n:Nat}[SG w]
theorem SC(p:ao K)(l:BH M w r v1 v2 u v4 v5 v6 j m1 L1)(h:sV K n v1 v2 u v4 v5 v6 j i f d B E P Q a0 b0 L1 c0=some r):oL M w r (dj 2074239 :: .b 1::dj 8103::Ay M w r m1) (ab6 v1 v2 u v4 v5 v6 j i f d B E P Q a0 b0 c0):=by
 unfold sV at h;refine av 6 7 3 (ai 3 ?_);obtain⟨b,h⟩:=aF h;refine au (ct 38 5 cn b) (au (dC 38 176 5 0 cn cn (⟨c0,a0,b0,P,Q⟩:bC) (bH b).2 aT) (ac ?_));obtain⟨o,g,h⟩:=bW h;refine bw (ks':=dj 8296959 :: .b 1::dj 8103::Ay M w r m1) 0 ⟨[(1,iI v2),(3,.ptr 3 0),(5,.ptr 5 0),(8,.ref 1035),(9,.ref 38),(10,.ref 41),(11,.ref 44),(12,iI i),(15,.ptr 15 0),(45,.ref 1035),(46,iI (j.length:Int)),(47,iI i)],[(3,aB v1),(5,bI u),(15,cn (⟨c0,a0,b0,P,Q⟩:bC)),(af v4 v5)],[(38,⟨176,5,lm cn o⟩),(41,⟨3,1,lm (ak .i64) (List.set d i.toNat E)⟩),(44,(bk B)),(1035,(bY j)),(440009,(bt v6))],[3,5,15,440001,38,41,44,1035,440009,1440001,440001]⟩ ?_ (by subst g;kernel_rfl);obtain⟨a,k,h⟩:=bind_some h;obtain⟨c,h⟩:=aF h;obtain⟨e,h⟩:=aF h;exact bQ 1 (nu 110 [.ref 44,iI i,.agg (cn (⟨c0,a0,b0,P,Q⟩:bC)),iI a,.ref 41,iI i,.eptr 41 1 (i.toNat) 0,iI (gD (List.set d i.toNat E) i),iI (aa (a+(gD (List.set d i.toNat E) i))),.eptr 44 1 (i.toNat) 0]) [] [] [d9 44 ⟨3,1,lm (ak .i64) (List.set B i.toNat (aa (a+(gD (List.set d i.toNat E) i))))⟩] (ax (vz 3) (aj (cq 0 1 113 (Il p k)) (ax (vz 2) (bi (cK 41 1 (ak .i64) (L:=(List.set d i.toNat E)) c) (bi (bO 3 0 (ak .i64) (ak .i64) (bH c).2 aT) (ax [.v 0 1] (bi (cK 44 1 (ak .i64) (L:=B) e) (aj (dr (m:=0) (dC 44 3 1 0 (ak .i64) (ak .i64) (aa (a+(gD (List.set d i.toNat E) i))) (bH e).2 aT)) bN)))))))) (ag 2 (bn (l h)))
theorem R2(b:ao K)(c:BH M w r v1 v2 u v4 v5 v6 j m1 L1)(h:w5 K n v1 v2 u v4 v5 v6 j i f d B E P Q a0 b0 L1 d0 e0=some r):oL M w r (dj 1037119 :: .b 1::dj 8103::Ay M w r m1) (acI v1 v2 u v4 v5 v6 j i f d B E P Q a0 b0 d0 e0):=by
 unfold w5 at h;refine av 5 3 3 ?_;obtain⟨a,h⟩|⟨a,h⟩:=am h
 ·refine ah 91 a (av 4 5 2 (ai 3 ?_));obtain⟨l,e,h⟩:=bind_some h;refine ld (b.gm e) (ac (ai 2 ?_));obtain⟨m,g,h⟩:=bind_some h;refine aK (m6 b g) ?_;obtain⟨o,k,h⟩:=bind_some h;exact aK (o5 b k) (ac (ag 0 (SC b c h)))
 ·exact ah 91 a (ag 2 (SC b c h))
theorem aje(t:ao K)(R:pA M w r v2 u j f d b m2 L2)(S:Vm M w r v2 u j f d b g a x m2 m4 L4)(h:xP K n v2 u j f d b g a x L2 L4 A C y D J N O=some r):oL M w r (dj 536687604::H8 M w r m2 m4) (Ta v2 u j f d b g a x A C y D J N O):=by
 unfold xP at h;refine av 6 7 3 ?_;obtain⟨l,h⟩|⟨l,h⟩:=am h
 ·refine ah 169 l (cN 8 9 7 3 5 (ai 1 ?_));obtain⟨p,h⟩:=aF h;refine au (ct 1166 1 (ak .i64) p) (au (bO 3 0 (ak .i64) (ak .i64) (bH p).2 aT) (ac (av 2 3 1 (bK [1,5,8,9,10,20,21,22,24,29,30,31,32,128,129,130,166,167,168,169] [5,440001] [220,1035,1166,440009] (J3 169 ?_)))));obtain⟨e,h⟩:=aF h;obtain⟨P,v,h⟩:=bind_some h;obtain⟨c,q,h⟩:=bind_some h;refine bQ 2 (nu 173 [.ptr 5 0,.fn u.Layout.id u.Layout.aO,.ref 1035,iI (gD b a),iI y,iI (aa ((gD b a)+y)),.eptr 1035 59 (((aa ((gD b a)+y))).toNat) 0,.agg (aB (gD j ((aa ((gD b a)+y))))),iI (gD x y),.agg (aB P),iI v2]++nu 33 [.ptr 33 0]) [(33,List.set (aG bT) 66 (.nils))] [] [Cw (some 184) (bt c.2.2.2) [(af c.2.1 c.2.2.1)] (.agg (aG c.1)),cf bb 228 Tryz.f81 (pn 34348006706) 13] (ax [.v 0 2,.v 0 1,.v 0 2,.v 0 2,.v 0 2,.v 0 2] (aj (gV (lo:=0) (k:=2) (dZ ⟨(by kernel_rfl),(d8 (cK 1035 59 aM (L:=j) e) (by kernel_rfl))⟩ (dZ ⟨(by kernel_rfl),(d8 (cK 1035 59 aM (L:=j) e) (by kernel_rfl))⟩ iw))) (aj (gV (lo:=0) (k:=2) (dZ ⟨(by kernel_rfl),(d8 (bO 48 0 aM aB (bH e).2 (d7)) (by kernel_rfl))⟩ (dZ ⟨(by kernel_rfl),(d8 (bO 48 0 aM aB (bH e).2 (d7)) (by kernel_rfl))⟩ iw))) (ax [.v 0 2] (aj (cq 0 1 182 (Xh t v)) (ax [.v 0 1] (aj (Hy 0 169 (t.de q).2 (t.de q).1) (aj (nO 0 2 44 33 (List.set (aG bT) 66 (.nils))) (aj (ce 1) bN))))))))) (av 2 3 1 (bK [1,5,8,9,10,20,21,22,24,29,30,31,32,33,128,129,130,166,167,168] [5,33,440001] [220,1035,1166,440009] ?_))
  obtain⟨i,z,h⟩:=bind_some h;obtain⟨m,B,h⟩:=bind_some h;refine bQ 1 (nu 185 [iI C,.ptr 33 61,.agg (cT c.1.Before),iI i,.ptr 33 5,iI c.1.H,iI (aa (i+c.1.H)),.agg (aG c.1),iI m,iI (aa ((aa (i+c.1.H))+m)),iI (max C (aa ((aa (i+c.1.H))+m)))]) [] [] [cf bb 228 Tryz.f81 (pn 68696013414) 11] (ax (vz 3) (aj (cq 0 1 188 (my t z)) (ax (vz 4) (aj (cq 0 1 193 (Pz t B)) (ax (vz 2) (aj (ce 0) bN)))))) ?_;obtain⟨s,E,h⟩:=bW h;refine bw (ks':=dj 274784053662::dj 274784053663 :: .b 7::dj 4293500839::H8 M w r m2 m4) 3 ⟨[(1,iI v2),(5,.ptr 5 0),(8,.ref 1035),(9,.sl (lm cn f)),(10,.sl (lm (ak .i64) d)),(20,.sl (lm (ak .i64) b)),(21,.ref 220),(22,iI g),(24,iI (gD b a)),(29,iI A),(30,iI s),(31,iI y),(32,iI (gD x y)),(33,.ptr 33 0),(128,.sl (lm (ak .i64) b)),(129,iI (b.length:Int)),(130,iI a),(166,.ref 1166),(167,iI (x.length:Int)),(168,iI y)],[(5,bI u),(33,aG ({ c.1 with X:=(aa (c.1.X+A)) }:ae)),(af c.2.1 c.2.2.1)],[(220,(bx D)),(1035,(bY j)),(1166,(bk x)),(440009,(bt c.2.2.2))],[5,33,440001,220,1035,1166,440009,1440001,440001]⟩ ?_ (by subst E;kernel_rfl)
  refine ai 3 ?_;obtain⟨o,F,h⟩:=bind_some h;refine aK (my t F) (ac (av 2 3 1 (ai 6 ?_)));obtain⟨G,h⟩:=aF h;refine au (bE (ak .i64) (ak .i64) G aT aT) (ac ?_);obtain⟨Q,H,h⟩:=bW h;refine bw (ks':=dj 549568107327 :: .b 7::dj 4293500839::H8 M w r m2 m4) 0 ⟨[(1,iI v2),(5,.ptr 5 0),(8,.ref 1035),(9,.sl (lm cn f)),(10,.sl (lm (ak .i64) d)),(20,.sl (lm (ak .i64) b)),(21,.ref 220),(22,iI g),(24,iI (gD b a)),(29,iI Q),(30,iI s),(33,.ptr 33 0),(128,.sl (lm (ak .i64) b)),(129,iI (b.length:Int)),(130,iI a),(166,.ref 1166),(167,iI (x.length:Int)),(168,iI y)],[(5,bI u),(33,aG ({ c.1 with X:=(aa (c.1.X+A)),Y:=(aa (g+o)) }:ae)),(af c.2.1 c.2.2.1)],[(220,(bx D)),(1035,(bY j)),(1166,(bk x)),(440009,(bt c.2.2.2))],[5,33,440001,220,1035,1166,440009,1440001,440001]⟩ ?_ (by subst H;kernel_rfl)
  refine ai 2 (au (gq aN ([({ c.1 with X:=(aa (c.1.X+A)),Y:=(aa (g+o)) }:ae)]:dn) (new:=[aG ({ c.1 with X:=(aa (c.1.X+A)),Y:=(aa (g+o)) }:ae)]) (by simp only[q6,yk,dM])) ?_);obtain⟨I,h⟩:=aF h;exact au (cG 220 220 44 67 aN (rfl) (jY) I) (ac (ag 2 (bn (S h))))
 ·exact ah 169 l (ag 8 (bn (R h)))
theorem WI(e:ao K)(c:pA M w r v2 u j f d b m2 L2)(m:Nat):Vm M w r v2 u j f d b g a x m2 m (pN K n v2 u j f d b g a x L2 m):=by
 induction m with
 | zero=>intro A C y D J N O h;cases h
 | succ m i=>intro A C y D J N O h;have h:xP K n v2 u j f d b g a x L2 (pN K n v2 u j f d b g a x L2 m) A C y D J N O=some r:=h;exact bh (aje e c i h)
theorem afb(A:ao K)(v:pA M w r v2 u j f d b m2 L2)(y:UO M w r v2 u j f d b g a l o q t z m2 m3 L3)(h:zE K n v2 u j f d b g a l o q t z L2 L3 F G H I=some r):oL M w r (dj 134171892::abP M w r m2 m3) (Su v2 u j f d b g a l o q t z F G H I):=by
 unfold zE at h;refine av 6 7 3 ?_;obtain⟨c,h⟩|⟨c,h⟩:=am h
 ·refine ah 154 c (cN 8 9 5 3 5 (ai 0 ?_));obtain⟨i,h⟩:=aF h;exact au (bE (ak .i64) (ak .i64) i aT aT) (ac (ag 3 (bn (y h))))
 ·refine ah 154 c (tS 12 13 7 9 (ai 3 ?_));obtain⟨m,h⟩:=aF h;refine au (l6 cn f (gD b a) z 174 (.tmp 161) (some (.tmp 162)) (some (.tmp 163)) 164 (e:=176) (sz:=5) (by kernel_rfl) (by kernel_rfl) (by kernel_rfl) (by kernel_rfl) (by kernel_rfl) (by kernel_rfl) (Gj) (fun k B=>by subst B;kernel_rfl) m) (aQ 5 1 ?_);obtain⟨x,s,h⟩:=bind_some h;exact eS 1166 (Md A s) (eX 143) (au (bA (ak .i64) x) (ac (ag 1 (cd (p:=pn 268343802) n (WI A v n h)))))
theorem Yb(e:ao K)(c:pA M w r v2 u j f d b m2 L2)(m:Nat):UO M w r v2 u j f d b g a l o q t z m2 m (qI K n v2 u j f d b g a l o q t z L2 m):=by
 induction m with
 | zero=>intro F G H I h;cases h
 | succ m i=>intro F G H I h;have h:zE K n v2 u j f d b g a l o q t z L2 (qI K n v2 u j f d b g a l o q t z L2 m) F G H I=some r:=h;exact bh (afb e c i h)
theorem O4(m:ao K)(i:pA M w r v2 u j f d b m2 L2)(h:mJ K n v2 u j f d b g a l o q t L2 z=some r):oL M w r (dj 4192871 :: .b 3::dj 262055::y4 M w r m2) (WQ v2 u j f d b g a l o q t z):=by
 unfold mJ at h;refine cc 12 13 7 4 (ai 3 ?_);obtain⟨c,h⟩:=aF h;exact au (l6 (ak .i64) d (gD b a) z 72 (.tmp 148) (some (.tmp 149)) (some (.tmp 150)) 151 (e:=3) (sz:=1) (by kernel_rfl) (by kernel_rfl) (by kernel_rfl) (by kernel_rfl) (by kernel_rfl) (by kernel_rfl) aT (fun k s=>by subst s;kernel_rfl) c) (au (bA (ak .i64) (List.drop ((gD b a)).toNat (List.take z.toNat d))) (ac (ag 1 (cd (p:=pn 67085946) n (Yb m i n h)))))
theorem ahi(v:ao K)(p:pA M w r v2 u j f d b m2 L2)(h:yB K n v2 u j f d b L2 g a l o q t=some r):oL M w r (dj 32756::y4 M w r m2) (LC v2 u j f d b g a l o q t):=by
 unfold yB at h;refine av 6 7 3 ?_;obtain⟨c,h⟩|⟨c,h⟩:=am h
 ·refine ah 131 c (cN 8 9 3 3 5 (ai 1 ?_));obtain⟨i,h⟩:=aF h;refine au (bE (ak .i64) (ak .i64) i aT aT) (ac (av 2 3 1 (ai 1 (au (bA aM j) (ac (cc 4 5 3 2 (ai 3 (au (bA (ak .i64) b) (ac ?_)))))))));obtain⟨s,k,h⟩:=bW h;refine bw (ks':=dj 8385741::dj 4192871 :: .b 3::dj 262055::y4 M w r m2) 0 ⟨[(1,iI v2),(5,.ptr 5 0),(8,.ref 1035),(9,.sl (lm cn f)),(10,.sl (lm (ak .i64) d)),(20,.sl (lm (ak .i64) b)),(21,.ref 220),(22,iI g),(23,iI a),(24,iI (gD b a)),(25,iI (j.length:Int)),(128,.sl (lm (ak .i64) b)),(129,iI (b.length:Int)),(130,iI a),(141,.bool s)],[(5,bI u),(af o q)],[(220,(bx l)),(1035,(bY j)),(440009,(bt t))],[5,440001,220,1035,440009,1440001,440001]⟩ ?_ (by subst k;kernel_rfl);obtain⟨e,h⟩|⟨e,h⟩:=am h
  ·refine ah 141 e (bg 2 1 (ai 3 ?_));obtain⟨m,h⟩:=aF h;exact au (bE (ak .i64) (ak .i64) m aT aT) (ac (ag 0 (O4 v p h)))
  ·exact ah 141 e (ag 2 (O4 v p h))
 ·refine ah 131 c (aL 8 (vH 220 440010 ?_));cases h;exact Sv
theorem ab2(c:ao K)(m:Nat):pA M w r v2 u j f d b m (je K n v2 u j f d b m):=by
 induction m with
 | zero=>intro g a l o q t h;cases h
 | succ m e=>intro g a l o q t h;have h:yB K n v2 u j f d b (je K n v2 u j f d b m) g a l o q t=some r:=h;exact bh (ahi c e h)
theorem Ud(a:ao K)(h:kZ K n v2 u v4 v5 v6 j f d b=some r):oL M w r [dj 511] (abe v2 u v4 v5 v6 j f d b):=by
 unfold kZ at h;exact cc 28 29 15 6 (ai 1 (au (bA (ak .i64) b) (ac (ib 2 2 1 (bK [1,5,8,9,10,20,21,22,128,129,130] [5,440001] [38,41,1035,440009] (iR 38 (iR 41 (eL 220 21 44 67 (ag 0 (cd (p:=pn 16378) n (ab2 a n h)))))))))))
theorem aff(a:ao K)(l:BH M w r v1 v2 u v4 v5 v6 j m1 L1)(h:zl K n v1 v2 u v4 v5 v6 j L1 i f d B=some r):oL M w r (dj 1012::Ay M w r m1) (OD v1 v2 u v4 v5 v6 j i f d B):=by
 unfold zl at h;refine av 6 7 3 ?_;obtain⟨b,h⟩|⟨b,h⟩:=am h
 ·refine ah 48 b (cN 8 9 1 3 5 (ai 1 ?_));obtain⟨g,h⟩:=aF h;refine au (ct 1035 59 aM g) (au (bO 48 0 aM aB (bH g).2 (d7)) (ac (av 6 7 3 (ai 4 ?_))));obtain⟨z,m,h⟩:=bind_some h;refine aK (m6 a m) ?_;obtain⟨E,o,h⟩:=bind_some h;refine aK (o5 a o) ?_;obtain⟨k,h⟩:=aF h;refine au (ct 41 1 (ak .i64) k) (au (dC 41 3 1 0 (ak .i64) (ak .i64) E (bH k).2 aT) (ac (av 2 3 1 (bK [1,3,5,8,9,10,11,12,13,14,45,46,47] [3,5,13,14,440001] [38,41,44,1035,440009] ?_))));obtain⟨P,p,h⟩:=bind_some h;obtain⟨Q,q,h⟩:=bind_some h;refine bQ 1 (nu 61 [.ptr 14 44,iI (((gD j i).Style).Grow),.ptr 14 45,iI (((gD j i).Style).Shrink),.ptr 14 10,.agg (fh (((gD j i).Style).MinWidth)),iI v2,iI P,.ptr 14 12,.agg (fh (((gD j i).Style).MaxWidth)),iI v2,iI Q,.agg (cn (⟨0,((gD j i).Style).Grow,((gD j i).Style).Shrink,P,Q⟩:bC))]++nu 15 [.ptr 15 0]) [(15,cn ki)] [] [cf bb 228 Tryz.f81 (pn 259278) 14] (ax (vz 7) (aj (cq 0 1 68 (Af a p)) (ax (vz 3) (aj (cq 0 1 72 (Af a q)) (ax [.v 0 1] (aj (nO 0 1 176 15 (cn ki)) (aj (ce 0) bN))))))) ?_
  obtain⟨a0,s,h⟩:=bW h;obtain⟨b0,t,h⟩:=bW h;refine bw (ks':=dj 518558::dj 518559 :: .b 1::dj 8103::Ay M w r m1) 1 ⟨[(1,iI v2),(3,.ptr 3 0),(5,.ptr 5 0),(8,.ref 1035),(9,.ref 38),(10,.ref 41),(11,.ref 44),(12,iI i),(13,.ptr 13 0),(14,.ptr 14 0),(15,.ptr 15 0),(45,.ref 1035),(46,iI (j.length:Int)),(47,iI i)],[(3,aB v1),(5,bI u),(13,aB (gD j i)),(14,aH ((gD j i).Style)),(15,cn (⟨0,a0,b0,P,Q⟩:bC)),(af v4 v5)],[(38,⟨176,5,lm cn f⟩),(41,⟨3,1,lm (ak .i64) (List.set d i.toNat E)⟩),(44,(bk B)),(1035,(bY j)),(440009,(bt v6))],[3,5,13,14,15,440001,38,41,44,1035,440009,1440001,440001]⟩ ?_ (by subst t;subst s;kernel_rfl);refine ai 3 ?_;obtain⟨A,v,h⟩:=bind_some h;refine aK (eu a v) (ac (av 5 3 3 ?_));obtain⟨c,h⟩|⟨c,h⟩:=am h
  ·refine ah 82 c (bg 2 1 (ai 3 ?_));obtain⟨C,x,h⟩:=bind_some h;exact aK (eu a x) (ac (ag 0 (R2 a l h)))
  ·exact ah 82 c (ag 2 (R2 a l h))
 ·refine ah 48 b (gH 13 7 10 ?_);obtain⟨e,h⟩|⟨e,h⟩:=am h
  ·refine ah 124 e (bg 2 1 (ai 2 (mN 44 ?_)));obtain⟨D,y,h⟩:=bind_some h;exact eS 1127 (ait a y) (eX 29) (ac (iR 1127 (ag 0 (Ud a h))))
  ·exact ah 124 e (ag 2 (Ud a h))
theorem agJ(a:ao K)(m:Nat):BH M w r v1 v2 u v4 v5 v6 j m (oy K n v1 v2 u v4 v5 v6 j m):=by
 induction m with
 | zero=>intro i f d B h;cases h
 | succ m b=>intro i f d B h;have h:zl K n v1 v2 u v4 v5 v6 j (oy K n v1 v2 u v4 v5 v6 j m) i f d B=some r:=h;exact bh (aff a b h)
theorem XT(d:ao K)(h:xv K n v1 v2 u v4 v5 v6=some r):eo bb 81 [.agg (aB v1),iI v2,.agg (bI u)] [(af v4 v5)] (bt v6) (fun v s=>v=.tup [.ref 440010,iI r.2.1]∧cy s.o [(af r.2.2.1 r.2.2.2.1)]∧look 440009 s.r=some (bt r.2.2.2.2)∧look 440010 s.r=some (bx r.1)):=by
 refine jO (c:=cat Tryz.f81 []) Tryz.func81 (by kernel_rfl) _ Tryz.ntmps81 (kc (by kernel_rfl)) fun M w=>(bd ⟨[(0,.agg (aB v1)),(1,iI v2),(2,.agg (bI u))],[(af v4 v5)],[(440009,(bt v6))],[440009,440001,1440001]⟩ ?_);unfold xv at h;refine b8 (ks':=[dj 6,dj 7]) 3 (ai 1 ?_);obtain⟨j,g,h⟩:=bind_some h;refine eS 1035 (Fu d g) (eX 21) (ac (av 2 3 1 (ai 1 (au (bA aM j) ?_))));obtain⟨i,h⟩:=aF h;refine oC cn (ki:bC) 174 (.tmp 37) (.tmp 37) 38 (e:=176) (sz:=5) (zc:=cn ki) (kd:=.i64) (kd':=.i64) i (ac ?_);obtain⟨b,k,h⟩:=bW h;refine bw (ks':=[dj 30,dj 31]) 1 ⟨[(1,iI v2),(3,.ptr 3 0),(5,.ptr 5 0),(8,.ref 1035),(9,.ref 38)],[(3,aB v1),(5,bI u),(af v4 v5)],[(38,⟨176,5,lm cn b⟩),(1035,(bY j)),(440009,(bt v6))],[3,5,440001,38,1035,440009,1440001,440001]⟩ ?_ (by subst k;kernel_rfl)
 refine ai 1 (au (bA aM j) ?_);obtain⟨l,h⟩:=aF h;refine oC (ak .i64) (0:Int) 72 (.tmp 40) (.tmp 40) 41 (e:=3) (sz:=1) (zc:=[iI 0]) (kd:=.i64) (kd':=.i64) l (ac ?_);obtain⟨f,m,h⟩:=bW h;refine bw (ks':=[dj 62,dj 63]) 1 ⟨[(1,iI v2),(3,.ptr 3 0),(5,.ptr 5 0),(8,.ref 1035),(9,.ref 38),(10,.ref 41)],[(3,aB v1),(5,bI u),(af v4 v5)],[(38,⟨176,5,lm cn b⟩),(41,(bk f)),(1035,(bY j)),(440009,(bt v6))],[3,5,440001,38,41,1035,440009,1440001,440001]⟩ ?_ (by subst m;kernel_rfl);refine ai 1 (au (bA aM j) ?_);obtain⟨o,h⟩:=aF h;refine oC (ak .i64) (0:Int) 72 (.tmp 43) (.tmp 43) 44 (e:=3) (sz:=1) (zc:=[iI 0]) (kd:=.i64) (kd':=.i64) o (ac ?_);obtain⟨a,q,h⟩:=bW h;refine bw (ks':=[dj 252,dj 253,dj 127]) 2 ⟨[(1,iI v2),(3,.ptr 3 0),(5,.ptr 5 0),(8,.ref 1035),(9,.ref 38),(10,.ref 41),(11,.ref 44)],[(3,aB v1),(5,bI u),(af v4 v5)],[(38,⟨176,5,lm cn b⟩),(41,(bk f)),(44,(bk a)),(1035,(bY j)),(440009,(bt v6))],[3,5,440001,38,41,44,1035,440009,1440001,440001]⟩ ?_ (by subst q;kernel_rfl)
 exact ai 1 (au (bA aM j) (ac (ag 1 (cd (p:=pn 506) n (agJ d n h)))))
end
noncomputable section
variable[GS](M:Nat→Prop)(b:aA)(r a:ae)(v2:Int)(c:Int×Bool)(v5:Int)  
abbrev aic(n:Nat):aq:=.c (cat Tryz.f83 (pn n))
abbrev ahw:Cx:=⟨bb,45,M,b⟩
abbrev q83:=bodyPost bb Tryz.f83 (bJ M b (fun v _=>v=.agg (aG r)))
abbrev XX(a:dt)(s:AS):=VE (ahw M b) (q83 M b r) a .normal s
def Zo:AS:=⟨[(2,.ptr 2 0),(4,.ptr 4 0)],[(2,aG ({ a with X:=(aa (a.X+c.1)),Y:=v5 }:ae)),(4,List.set (aG bT) 66 (.nils))],[],[2,4]⟩
variable{M b r a v2 c v5}{K:Kn}{n:Nat}
theorem Pk(d:ao K)(h:xX K n a c v5=some r):XX M b r [aic 63] (Zo a c v5):=by
 unfold xX at h;refine aL 3 ?_;cases h;exact bv
theorem Lr(d:ao K)(h:tQ K n a v2=some r):aX bb 83 [.agg (aG a),iI v2] (fun v _=>v=.agg (aG r)):=by
 refine bF (cat Tryz.f83 (pn 1)) Tryz.func83 Tryz.ntmps83 fun M b=>(bd ⟨[(0,.agg (aG a)),(1,iI v2)],[],[],[]⟩ ?_);unfold tQ at h;refine av 13 7 5 ?_;obtain⟨e,h⟩|⟨e,h⟩:=am h
 ·refine ah 12 e (aL 5 ?_);cases h;exact bv
 ·refine ah 12 e (fq 2 3 3 (ai 4 ?_));obtain⟨c,g,h⟩:=bind_some h;refine aK (eu d g) (ac (av 13 7 5 ?_));obtain⟨f,h⟩|⟨f,h⟩:=am h
  ·refine ah 31 f (av 4 5 2 (ai 3 ?_));obtain⟨v4,i,h⟩:=bind_some h;exact aK (eu d i) (ac (ag 1 (Pk d h)))
  ·exact ah 31 f (ag 2 (Pk d h))
end
noncomputable section
variable[GS](M:Nat→Prop)(w:aA)(r:ae×Int×Int×dO)(l:ab)(v2:Int)(B:bu)(v4 v5:Int)(v6:dO)(b:bD)(t u:bc)(x:Int)(e:dn)(f g:Int)(j:dO)(y o q a:Int)(d:dn)(z:Nat)(A:Int→dn→Option g7)
abbrev IE:Cx:=⟨bb,154,M,w⟩
abbrev HK:=bodyPost bb Tryz.f44 (bJ M w (fun v s=>v=.agg (aG r.1)∧cy s.o [(af r.2.1 r.2.2.1)]∧look 440009 s.r=some (bt r.2.2.2)))
abbrev Ez(a:dt)(s:AS):=VE (IE M w) (HK M w r) a .normal s
abbrev jb(n:Nat):aq:=.c (cat Tryz.f44 (pn n))
abbrev JF:dt:=[.b 0,jb 2047]
abbrev GP:dt:=kl (IE M w) (HK M w r) JF (cat Tryz.f44 (pn 16372)) z::JF
def Un:AS:=⟨[(6,.ptr 6 0),(7,.ptr 7 0),(8,.ptr 8 0),(104,iI (e.length:Int)),(105,iI a)],[(6,List.set (aG bT) 66 (.nils)),(7,bV b),(8,List.set (aG (⟨1,l.Node,b.Margin.a3,0,o,q,0,⟨#[]⟩,l.Style,t,u,false,[]⟩:ae)) 66 (.ref 1040)),(af f g)],[(1040,(bx d)),(440009,(bt j))],[6,7,8,440001,1040,440009,1440001,440001]⟩
def agk:AS:=⟨[(6,.ptr 6 0),(7,.ptr 7 0),(8,.ptr 8 0),(9,iI y)],[(6,List.set (aG bT) 66 (.nils)),(7,bV b),(8,List.set (aG ({ bT with Kind:=1,Node:=l.Node,X:=b.Margin.a3,Style:=l.Style,Before:=t,After:=u }:ae)) 66 (.ref 1040)),(af f g)],[(1040,(bx e)),(440009,(bt j))],[6,7,8,440001,1040,440009,1440001,440001]⟩
def afc:AS:=⟨[(3,.ptr 3 0),(6,.ptr 6 0),(7,.ptr 7 0),(8,.ptr 8 0),(9,iI x)],[(3,aB l),(6,List.set (aG bT) 66 (.nils)),(7,bV b),(8,List.set (aG ({ bT with Kind:=1,Node:=l.Node,X:=b.Margin.a3,Style:=l.Style,Before:=t,After:=u }:ae)) 66 (.ref 1040)),(af f g)],[(1040,(bx e)),(440009,(bt j))],[3,6,7,8,440001,1040,440009,1440001,440001]⟩
abbrev NZ:Prop:=∀{a:Int} {d:dn},A a d=some r→LP (IE M w) (HK M w r) JF (cat Tryz.f44 (pn 16372)) z (Un l b t u e f g j o q a d)
variable{M w r l v2 B v4 v5 v6 b t u x e f g j y o q a d z A}{K:Kn}{n:Nat}[SG w]
theorem Wl(I:ao K)(H:NZ M w r l b t u e f g j o q z A)(h:zH K n l b t u e f g j o q A a d=some r):Ez M w r (jb 16372::GP M w r z) (Un l b t u e f g j o q a d):=by
 unfold zH at h;refine av 6 7 3 ?_;obtain⟨v,h⟩|⟨v,h⟩:=am h
 ·refine ah 106 v (cN 18 19 1 3 7 (bK [6,7,8,10,104,105] [6,7,8,440001] [1040,440009] ?_));obtain⟨B,h⟩:=aF h;obtain⟨p,h⟩:=aF h;refine bQ 1 (nu 108 [.ptr 8 66,.ref 1040,iI a,.eptr 1040 67 (a.toNat) 0,.eptr 1040 67 (a.toNat) 2,iI ((gD d a).X),.ptr 7 4,.ptr 7 7,iI b.Border.a3,.ptr 7 8,.ptr 7 11,iI b.Padding.a3,iI (aa (b.Border.a3+b.Padding.a3)),iI (aa (((gD d a).X)+(aa (b.Border.a3+b.Padding.a3)))),.eptr 1040 67 (a.toNat) 0,.eptr 1040 67 (a.toNat) 2]) [] [] [d9 1040 ⟨44,67,lm aN (List.set d a.toNat ({ (gD d a)with X:=(aa (((gD d a).X)+(aa (b.Border.a3+b.Padding.a3)))) }:ae))⟩] (ax (vz 3) (bi (cK 1040 67 aN (L:=d) B) (ax [.v 0 1] (bi (bO 3 2 aN aG (bH p).2 (dM)) (ax (vz 8) (aj (gV (lo:=0) (k:=2) (dZ ⟨(by kernel_rfl),(d8 (cK 1040 67 aN (L:=d) p) (by kernel_rfl))⟩ (dZ ⟨(by kernel_rfl),(d8 (cK 1040 67 aN (L:=(List.set d a.toNat ({ (gD d a)with X:=(aa (((gD d a).X)+(aa (b.Border.a3+b.Padding.a3)))) }:ae))) p) (by kernel_rfl))⟩ iw))) (ax [.v 0 1] (aj (dr (m:=0) (dC 1040 44 67 2 aN aG ({ (gD d a)with X:=(aa (((gD d a).X)+(aa (b.Border.a3+b.Padding.a3)))) }:ae) (bH p).2 (dM))) bN)))))))) ?_
  obtain⟨c,C,h⟩:=bW h;refine bw (ks':=jb 2095718::jb 2095719 :: .b 1::jb 130983::GP M w r z) 1 ⟨[(6,.ptr 6 0),(7,.ptr 7 0),(8,.ptr 8 0),(10,iI a),(104,iI (e.length:Int)),(105,iI a)],[(6,List.set (aG bT) 66 (.nils)),(7,bV b),(8,List.set (aG (⟨1,l.Node,b.Margin.a3,0,o,q,0,⟨#[]⟩,l.Style,t,u,false,[]⟩:ae)) 66 (.ref 1040)),(af f g)],[(1040,(bx c)),(440009,(bt j))],[6,7,8,440001,1040,440009,1440001,440001]⟩ ?_ (by subst C;kernel_rfl);obtain⟨D,h⟩:=aF h;obtain⟨s,h⟩:=aF h;refine bQ 1 (nu 124 [.ptr 8 66,.ref 1040,iI a,.eptr 1040 67 (a.toNat) 0,.eptr 1040 67 (a.toNat) 3,iI ((gD c a).Y),.ptr 7 4,.ptr 7 4,iI b.Border.a0,.ptr 7 8,.ptr 7 8,iI b.Padding.a0,iI (aa (b.Border.a0+b.Padding.a0)),iI (aa (((gD c a).Y)+(aa (b.Border.a0+b.Padding.a0)))),.eptr 1040 67 (a.toNat) 0,.eptr 1040 67 (a.toNat) 3]) [] [] [d9 1040 ⟨44,67,lm aN (List.set c a.toNat ({ (gD c a)with Y:=(aa (((gD c a).Y)+(aa (b.Border.a0+b.Padding.a0)))) }:ae))⟩] (ax (vz 3) (bi (cK 1040 67 aN (L:=c) D) (ax [.v 0 1] (bi (bO 3 3 aN aG (bH s).2 (dM)) (ax (vz 8) (aj (gV (lo:=0) (k:=2) (dZ ⟨(by kernel_rfl),(d8 (cK 1040 67 aN (L:=c) s) (by kernel_rfl))⟩ (dZ ⟨(by kernel_rfl),(d8 (cK 1040 67 aN (L:=(List.set c a.toNat ({ (gD c a)with Y:=(aa (((gD c a).Y)+(aa (b.Border.a0+b.Padding.a0)))) }:ae))) s) (by kernel_rfl))⟩ iw))) (ax [.v 0 1] (aj (dr (m:=0) (dC 1040 44 67 3 aN aG ({ (gD c a)with Y:=(aa (((gD c a).Y)+(aa (b.Border.a0+b.Padding.a0)))) }:ae) (bH s).2 (dM))) bN)))))))) ?_
  obtain⟨i,E,h⟩:=bW h;refine bw (ks':=jb 2095719 :: .b 1::jb 130983::GP M w r z) 0 ⟨[(6,.ptr 6 0),(7,.ptr 7 0),(8,.ptr 8 0),(10,iI a),(104,iI (e.length:Int)),(105,iI a)],[(6,List.set (aG bT) 66 (.nils)),(7,bV b),(8,List.set (aG (⟨1,l.Node,b.Margin.a3,0,o,q,0,⟨#[]⟩,l.Style,t,u,false,[]⟩:ae)) 66 (.ref 1040)),(af f g)],[(1040,(bx i)),(440009,(bt j))],[6,7,8,440001,1040,440009,1440001,440001]⟩ ?_ (by subst E;kernel_rfl);obtain⟨F,h⟩:=aF h;obtain⟨y,G,h⟩:=bind_some h;obtain⟨x,h⟩:=aF h;exact bQ 1 (nu 140 [.ptr 8 66,.ref 1040,iI a,.ptr 8 66,.ref 1040,iI a,.eptr 1040 67 (a.toNat) 0,.agg (aG (gD i a)),.ptr 7 12,iI b.Content,.agg (aG y),.eptr 1040 67 (a.toNat) 0]) [] [] [d9 1040 ⟨44,67,lm aN (List.set i a.toNat y)⟩] (ax (vz 6) (bi (cK 1040 67 aN (L:=i) F) (bi (bO 44 0 aN aG (bH x).2 (dM)) (ax (vz 2) (aj (cq 0 1 150 (Lr I G)) (bi (cK 1040 67 aN (L:=i) x) (aj (dr (m:=0) (dC 1040 44 67 0 aN aG y (bH x).2 (dM))) bN))))))) (ag 2 (bn (H h)))
 ·refine ah 106 v (aL 8 (iR 1040 ?_));cases h;exact fa
theorem Yf(c:ao K)(m:Nat):NZ M w r l b t u e f g j o q m (tm K n l b t u e f g j o q m):=by
 induction m with
 | zero=>intro a d h;cases h
 | succ m i=>intro a d h;have h:zH K n l b t u e f g j o q (tm K n l b t u e f g j o q m) a d=some r:=h;exact bh (Wl c i h)
theorem MJ(d:ao K)(h:ww K n l b t u e f g j y=some r):Ez M w r [jb 255] (agk l b t u e f g j y):=by
 unfold ww at h;obtain⟨o,c,h⟩:=bW h;obtain⟨q,a,h⟩:=bW h;refine bw (ks':=[jb 4092,jb 4093,jb 2047]) 6 ⟨[(6,.ptr 6 0),(7,.ptr 7 0),(8,.ptr 8 0)],[(6,List.set (aG bT) 66 (.nils)),(7,bV b),(8,List.set (aG (⟨1,l.Node,b.Margin.a3,0,o,q,0,⟨#[]⟩,l.Style,t,u,false,[]⟩:ae)) 66 (.ref 1040)),(af f g)],[(1040,(bx e)),(440009,(bt j))],[6,7,8,440001,1040,440009,1440001,440001]⟩ ?_ (by subst a;subst c;kernel_rfl);exact ai 2 (au (bA aN e) (ac (ag 1 (cd (p:=pn 8186) n (Yf d n h)))))
theorem Rf(c:ao K)(h:sC K n l b t u x e f g j=some r):Ez M w r [jb 63] (afc l b t u x e f g j):=by
 unfold sC at h;refine av 13 7 5 ?_;obtain⟨a,h⟩|⟨a,h⟩:=am h
 ·refine ah 59 a (bg 2 1 (ai 3 ?_));obtain⟨i,d,h⟩:=bind_some h;exact aK (Af c d) (ac (ag 0 (MJ c h)))
 ·exact ah 59 a (ag 2 (MJ c h))
theorem abh(a:ao K)(h:oH K n l v2 B v4 v5 v6=some r):eo bb 44 [.agg (aB l),iI v2,.agg (bI B)] [(af v4 v5)] (bt v6) (fun v s=>v=.agg (aG r.1)∧cy s.o [(af r.2.1 r.2.2.1)]∧look 440009 s.r=some (bt r.2.2.2)):=by
 refine jO (c:=cat Tryz.f44 []) Tryz.func44 (by kernel_rfl) _ Tryz.ntmps44 (kc (by kernel_rfl)) fun M w=>(bd ⟨[(0,.agg (aB l)),(1,iI v2),(2,.agg (bI B))],[(af v4 v5)],[(440009,(bt v6))],[440009,440001,1440001]⟩ ?_);unfold oH at h;refine b8 (ks':=[jb 6,jb 7]) 3 (ai 3 ?_);obtain⟨b,e,h⟩:=bind_some h;refine aK (Hd a e) (ac (av 2 3 1 (bK [3,5,6,7] [3,5,6,7,440001] [440009] ?_)));obtain⟨t,f,h⟩:=bind_some h;obtain⟨u,g,h⟩:=bind_some h;refine bQ 1 (nu 15 [.ptr 3 1,iI l.Node,.ptr 3 2,.agg (aH l.Style),.ptr 7 0,.ptr 7 3,iI b.Margin.a3,.ptr 7 0,.ptr 7 0,iI b.Margin.a0,.agg (cT t),.ptr 7 0,.ptr 7 2,iI b.Margin.a2,.agg (cT u),.agg (List.set (aG ({ bT with Kind:=1,Node:=l.Node,X:=b.Margin.a3,Style:=l.Style,Before:=t,After:=u }:ae)) 66 (.nils))]++nu 8 [.ptr 8 0]) [(8,List.set (aG bT) 66 (.nils))] [] [cf bb 154 Tryz.f44 (pn 14) 17] (ax (vz 10) (aj (cq 0 1 25 (CM a f)) (ax (vz 3) (aj (cq 0 1 29 (CM a g)) (ax [.v 0 1] (aj (nO 0 1 44 8 (List.set (aG bT) 66 (.nils))) (aj (ce 0) bN))))))) (av 13 7 5 ?_)
 obtain⟨d,h⟩|⟨d,h⟩:=am h
 ·refine ah 34 d (bg 2 1 (ai 4 ?_));obtain⟨m,j,h⟩:=bind_some h;exact Nx 1040 (aeI a j) (Ct (i:=0) rfl) (ac (ag 0 (Rf a h)))
 ·refine ah 34 d (bg 3 1 (ai 4 ?_));obtain⟨o,k,h⟩:=bind_some h;exact Nx 1049 (XT a k) (Ct (i:=0) rfl) (ac (bK [3,6,7,8,9] [3,6,7,8,440001] [1049,440009] (vH 1049 1040 (ag 0 (Rf a h)))))
end
noncomputable section
variable[GS](M:Nat→Prop)(b:aA)(r:Int)(a:d4)(v2:Fv)(v4:Int)(c:Nat)(d:Int→Option Int)
abbrev FJ:Cx:=⟨bb,19,M,b⟩
abbrev IK:=bodyPost bb Tryz.f119 (bJ M b (fun v _=>v=iI r))
abbrev ai1(a:dt)(s:AS):=VE (FJ M b) (IK M b r) a .normal s
abbrev Sf(n:Nat):aq:=.c (cat Tryz.f119 (pn n))
abbrev Jp:dt:=[.b 0,Sf 7]
abbrev aja:dt:=kl (FJ M b) (IK M b r) Jp (cat Tryz.f119 (pn 52)) c::Jp
def Oh:AS:=⟨[(0,.sl (lm aM a)),(1,.fn v2.id v2.aO),(7,iI (a.length:Int)),(8,iI v4)],[],[],[]⟩
abbrev MK:Prop:=∀{v4:Int},d v4=some r→LP (FJ M b) (IK M b r) Jp (cat Tryz.f119 (pn 52)) c (Oh a v2 v4)
variable{M b r a v2 v4 c d}{K:Kn}{n:Nat}
theorem aiB(k:ao K)(g:MK M b r a v2 c d)(h:sk K n a v2 d v4=some r):ai1 M b r (Sf 52::aja M b r c) (Oh a v2 v4):=by
 unfold sk at h;refine av 6 7 3 ?_;obtain⟨e,h⟩|⟨e,h⟩:=am h
 ·refine ah 9 e (cN 18 19 1 3 7 (ai 3 ?_));obtain⟨i,h⟩:=aF h;refine au (bE aM aB i (fV) (d7)) (aQ 5 1 ?_);obtain⟨v5,j,h⟩:=bind_some h;refine ld (k.k9 j) (ac ?_);obtain⟨f,h⟩|⟨f,h⟩:=am h
  ·refine ah 16 f (aL 9 ?_);cases h;exact bv
  ·exact ah 16 f (ag 4 (bn (g h)))
 ·refine ah 9 e (aL 8 ?_);cases h;exact bv
theorem agp(c:ao K)(m:Nat):MK M b r a v2 m (lI K n a v2 m):=by
 induction m with
 | zero=>intro v4 h;cases h
 | succ m d=>intro v4 h;have h:sk K n a v2 (lI K n a v2 m) v4=some r:=h;exact bh (aiB c d h)
theorem YP(c:ao K)(h:Ak K n a v2=some r):aX bb 119 [.sl (lm aM a),.fn v2.id v2.aO] (fun v _=>v=iI r):=by
 refine bF (cat Tryz.f119 (pn 1)) Tryz.func119 Tryz.ntmps119 fun M b=>(bd ⟨[(0,.sl (lm aM a)),(1,.fn v2.id v2.aO)],[],[],[]⟩ ?_);unfold Ak at h;exact cc 12 13 7 4 (ai 1 (au (bA aM a) (ac (ag 1 (cd (p:=pn 26) n (agp c n h))))))
end
noncomputable section
variable[GS](M:Nat→Prop)(b:aA)(r:Bool)(a:d4)(v2:Fv)  
variable{M b r a v2}{K:Kn}{n:Nat}
theorem Ol(d:ao K)(h:ov K n a v2=some r):aX bb 64 [.sl (lm aM a),.fn v2.id v2.aO] (fun v _=>v=.bool r):=by
 refine bF (cat Tryz.f64 (pn 1)) Tryz.func64 Tryz.ntmps64 fun M b=>(bd ⟨[(0,.sl (lm aM a)),(1,.fn v2.id v2.aO)],[],[],[]⟩ ?_);unfold ov at h;refine av 6 7 3 (ai 2 ?_);obtain⟨e,c,h⟩:=bind_some h;refine aK (YP d c) (ac (aL 1 ?_));cases h;exact bv
end
noncomputable section
variable[GS](M:Nat→Prop)(b:aA)(r:d4×Bool)(a:ab)(c:Int)(d e:d4)(f:Nat)(g:Int→d4→Option (d4×Bool))
abbrev Ky:Cx:=⟨bb,24,M,b⟩
abbrev GV:=bodyPost bb Tryz.f141 (bJ M b (fun v _=>v=.tup [.sl (lm aM r.1),.bool r.2]))
abbrev K4(a:dt)(s:AS):=VE (Ky M b) (GV M b r) a .normal s
abbrev HA(n:Nat):aq:=.c (cat Tryz.f141 (pn n))
abbrev FU:dt:=[.b 0,HA 15]
abbrev Nv:dt:=kl (Ky M b) (GV M b r) FU (cat Tryz.f141 (pn 116)) f::FU
def af0:AS:=⟨[(4,.ref 19),(8,.sl (lm aM a.Kids)),(9,iI (a.Kids.length:Int)),(10,iI c)],[],[(19,(bY e))],[19]⟩
def NK:AS:=⟨[(4,.ref 19),(8,.sl (lm aM a.Kids)),(9,iI (a.Kids.length:Int)),(10,iI c)],[],[(19,(bY d))],[19]⟩
abbrev F3:Prop:=∀{c:Int} {d:d4},g c d=some r→LP (Ky M b) (GV M b r) FU (cat Tryz.f141 (pn 116)) f (NK a c d)
variable{M b r a c d e f g}{K:Kn}{n:Nat}
theorem Nl(i:ao K)(d:F3 M b r a f g)(h:w7 K n a c g e=some r):K4 M b r (.b 1::HA 935::Nv M b r f) (af0 a c e):=by
 unfold w7 at h;exact ag 2 (bn (d h))
theorem adH(k:ao K)(j:F3 M b r a f g)(h:yh K n a g c d=some r):K4 M b r (HA 116::Nv M b r f) (NK a c d):=by
 unfold yh at h;refine av 6 7 3 ?_;obtain⟨e,h⟩|⟨e,h⟩:=am h
 ·refine ah 11 e (cN 8 9 1 3 5 (ai 0 ?_));obtain⟨l,h⟩:=aF h;refine au (bE aM aB l (fV) (d7)) (ac (av 2 3 1 (ai 1 ?_)));obtain⟨q,m,h⟩:=bind_some h;refine aK (JV k m) (ac ?_);obtain⟨i,h⟩|⟨i,h⟩:=am h
  ·refine ah 15 i (bg 2 1 (ai 2 (au (gq aM ([(gD a.Kids c)]:d4) (new:=[aB (gD a.Kids c)]) (by simp only[q6,yk,d7])) ?_)));obtain⟨o,h⟩:=aF h;exact au (cG 19 19 48 59 aM (rfl) (fV) o) (ac (ag 0 (Nl k j h)))
  ·exact ah 15 i (ag 2 (Nl k j h))
 ·refine ah 11 e (gH 2 3 6 (ai 2 (mN 19 ?_)));obtain⟨s,p,h⟩:=bind_some h;refine aK (Ol k p) (ac (aL 1 ?_));cases h;exact gx
theorem ade(e:ao K)(m:Nat):F3 M b r a m (wE K n a m):=by
 induction m with
 | zero=>intro c d h;cases h
 | succ m f=>intro c d h;have h:yh K n a (wE K n a m) c d=some r:=h;exact bh (adH e f h)
theorem Lx(c:ao K)(h:rX K n a=some r):aX bb 141 [.agg (aB a)] (fun v _=>v=.tup [.sl (lm aM r.1),.bool r.2]):=by
 refine bF (cat Tryz.f141 (pn 1)) Tryz.func141 Tryz.ntmps141 fun M b=>(bd ⟨[(0,.agg (aB a))],[],[],[]⟩ ?_);unfold rX at h;exact cc 28 29 15 6 (ai 2 (au (bA aM a.Kids) (ac (ib 2 0 1 (bK [4,8,9,10] [] [] (eL 19 4 48 59 (ag 0 (cd (p:=pn 58) n (ade c n h)))))))))
end
noncomputable section
variable[GS](M:Nat→Prop)(b:aA)(r:bc)(a v2:bc)  
variable{M b r a v2}{K:Kn}{n:Nat}
theorem zu(c:ao K)(h:kv K n a v2=some r):aX bb 143 [.agg (cT a),.agg (cT v2)] (fun v _=>v=.agg (cT r)):=by
 refine bF (cat Tryz.f143 (pn 1)) Tryz.func143 Tryz.ntmps143 fun M b=>(bd ⟨[(0,.agg (cT a)),(1,.agg (cT v2))],[],[],[]⟩ ?_);unfold kv at h;refine aL 5 ?_;cases h;exact bv
end
noncomputable section
variable[GS](M:Nat→Prop)(j:aA)(r:dn×Int×bc×bc×Bool)(c:dn)(d:Int)(e:Bool)(a:Int)(g f:bc)(b:dn)(k:bc)(i:Int)(t:bc)(u:Int)(w:Bool)(x y o:bc)(l:Nat)(q:Int→Bool→Int→bc→bc→dn→Option (dn×Int×bc×bc×Bool))
abbrev Ft:Cx:=⟨bb,52,M,j⟩
abbrev Gx:=bodyPost bb Tryz.f142 (bJ M j (fun v s=>v=.tup [.ref 43,iI r.2.1,.agg (cT r.2.2.1),.agg (cT r.2.2.2.1),.bool r.2.2.2.2]∧look 43 s.r=some (bx r.1)))
abbrev wN(a:dt)(s:AS):=VE (Ft M j) (Gx M j r) a .normal s
abbrev l8(n:Nat):aq:=.c (cat Tryz.f142 (pn n))
abbrev E2:dt:=[.b 0,l8 31]
abbrev Em:dt:=kl (Ft M j) (Gx M j r) E2 (cat Tryz.f142 (pn 244)) l::E2
def aip:AS:=⟨[(2,.ref 43),(3,iI u),(4,.ptr 4 0),(5,.ptr 5 0),(6,.bool w),(7,.ptr 7 0),(9,.ptr 9 0),(10,.sl (lm aN c)),(11,iI (c.length:Int)),(12,iI a)],[(4,cT x),(5,cT dA),(7,cT y),(9,aG ({ (gD c a)with Y:=i }:ae))],[(43,(bx b))],[4,5,7,9,43]⟩
def acD:AS:=⟨[(2,.ref 43),(4,.ptr 4 0),(5,.ptr 5 0),(7,.ptr 7 0),(9,.ptr 9 0),(10,.sl (lm aN c)),(11,iI (c.length:Int)),(12,iI a)],[(4,cT t),(5,cT dA),(7,cT k),(9,aG ({ (gD c a)with Y:=i }:ae))],[(43,(bx b))],[4,5,7,9,43]⟩
def afP:AS:=⟨[(2,.ref 43),(3,iI d),(4,.ptr 4 0),(5,.ptr 5 0),(6,.bool e),(7,.ptr 7 0),(9,.ptr 9 0),(10,.sl (lm aN c)),(11,iI (c.length:Int)),(12,iI a)],[(4,cT g),(5,cT dA),(7,cT k),(9,aG ({ (gD c a)with Y:=i }:ae))],[(43,(bx b))],[4,5,7,9,43]⟩
def aec:AS:=⟨[(2,.ref 43),(3,iI d),(4,.ptr 4 0),(5,.ptr 5 0),(6,.bool e),(7,.ptr 7 0)],[(4,cT o),(5,cT dA),(7,cT f)],[(43,(bx b))],[4,5,7,43]⟩
def Va:AS:=⟨[(2,.ref 43),(3,iI d),(4,.ptr 4 0),(5,.ptr 5 0),(6,.bool e),(7,.ptr 7 0),(10,.sl (lm aN c)),(11,iI (c.length:Int)),(12,iI a)],[(4,cT g),(5,cT dA),(7,cT f)],[(43,(bx b))],[4,5,7,43]⟩
abbrev Bd:Prop:=∀{d:Int} {e:Bool} {a:Int} {g:bc} {f:bc} {b:dn},q d e a g f b=some r→LP (Ft M j) (Gx M j r) E2 (cat Tryz.f142 (pn 244)) l (Va c d e a g f b)
variable{M j r c d e a g f b k i t u w x y o l q}{K:Kn}{n:Nat}
theorem Ny(f:ao K)(e:Bd M j r c l q)(h:vA K n c a b i q u w x y=some r):wN M j r (l8 125343 :: .b 1::l8 1959::Em M j r l) (aip c a b i u w x y):=by
 unfold vA at h;refine ai 2 (au (gq aN ([({ (gD c a)with Y:=i }:ae)]:dn) (new:=[aG ({ (gD c a)with Y:=i }:ae)]) (by simp only[q6,yk,dM])) ?_);obtain⟨d,h⟩:=aF h;exact au (cG 43 43 44 67 aN (rfl) (jY) d) (ac (ag 2 (bn (e h))))
theorem QM(e:ao K)(d:Bd M j r c l q)(h:vG K n c a b k i q t=some r):wN M j r (l8 1002741::l8 125343 :: .b 1::l8 1959::Em M j r l) (acD c a b k i t):=by
 unfold vG at h;exact ag 5 (Ny e d h)
theorem Qb(p:ao K)(o:Bd M j r c l q)(h:sa K n c d e a g b k q i=some r):wN M j r (l8 62671 :: .b 1::l8 1959::Em M j r l) (afP c d e a g b k i):=by
 unfold sa at h;refine av 5 3 3 ?_;obtain⟨f,h⟩|⟨f,h⟩:=am h
 ·refine ah 30 f (av 9 5 4 ?_);obtain⟨m,h⟩|⟨m,h⟩:=am h
  ·exact ah 31 m (ag 2 (QM p o h))
  ·exact ah 31 m (ag 2 (QM p o h))
 ·exact ah 30 f (ag 2 (Ny p o h))
theorem RZ(a:ao K)(h:re K n d e f b o=some r):wN M j r [l8 63] (aec d e f b o):=by
 unfold re at h;refine av 2 3 1 (bK [2,3,4,5,6,7] [4,5,7] [43] (bQ 5 (nu 47 [.ref 43,iI d,.agg (cT o),.agg (cT f),.bool e]) [] [] [cf bb 52 Tryz.f142 (pn 126) 5,cf bb 52 Tryz.f142 (pn 126) 6,cf bb 52 Tryz.f142 (pn 126) 7,cf bb 52 Tryz.f142 (pn 126) 8,cf bb 52 Tryz.f142 (pn 126) 9] (ax [.v 0 1,.v 0 2,.v 0 3,.v 0 4,.v 0 5] (aj (ce 0) (aj (ce 1) (aj (ce 2) (aj (ce 3) (aj (ce 4) bN)))))) (aL 1 ?_)));cases h;exact pq
theorem adF(p:ao K)(s:Bd M j r c l q)(h:qo K n c q d e a g f b=some r):wN M j r (l8 244::Em M j r l) (Va c d e a g f b):=by
 unfold qo at h;refine av 6 7 3 ?_;obtain⟨i,h⟩|⟨i,h⟩:=am h
 ·refine ah 13 i (cN 8 9 1 3 5 (ai 0 ?_));obtain⟨t,h⟩:=aF h;refine au (bE aN aG t (jY) (dM)) (ac (av 2 3 1 (ai 3 ?_)));obtain⟨k,u,h⟩:=bind_some h;refine aK (zu p u) (ac (av 13 7 5 ?_));obtain⟨m,h⟩|⟨m,h⟩:=am h
  ·refine ah 22 m (bg 2 1 (ai 2 ?_));obtain⟨w,v,h⟩:=bind_some h;exact aK (my p v) (ac (ag 0 (Qb p s h)))
  ·exact ah 22 m (ag 2 (Qb p s h))
 ·refine ah 13 i (gH 5 3 8 ?_);obtain⟨o,h⟩|⟨o,h⟩:=am h
  ·exact ah 45 o (ag 2 (RZ p h))
  ·exact ah 45 o (ag 2 (RZ p h))
theorem afa(i:ao K)(m:Nat):Bd M j r c m (jK K n c m):=by
 induction m with
 | zero=>intro d e a g f b h;cases h
 | succ m k=>intro d e a g f b h;have h:qo K n c (jK K n c m) d e a g f b=some r:=h;exact bh (adF i k h)
theorem ZM(a:ao K)(h:lN K n c=some r):aX bb 142 [.sl (lm aN c)] (fun v s=>v=.tup [.ref 43,iI r.2.1,.agg (cT r.2.2.1),.agg (cT r.2.2.2.1),.bool r.2.2.2.2]∧look 43 s.r=some (bx r.1)):=by
 refine bF (cat Tryz.f142 (pn 1)) Tryz.func142 Tryz.ntmps142 fun M j=>(bd ⟨[(0,.sl (lm aN c))],[],[],[]⟩ ?_);unfold lN at h;exact cc 60 61 31 8 (ai 1 (au (bA aN c) (ac (ib 2 0 1 (bK [2,3,4,5,6,7,10,11,12] [4,5,7] [] (eL 43 2 44 67 (ag 0 (cd (p:=pn 122) n (afa a n h)))))))))
end
noncomputable section
variable[GS](M:Nat→Prop)(b:aA)(r:Int)(a:bD)  
variable{M b r a}{K:Kn}{n:Nat}
theorem air(c:ao K)(h:D4 K n a=some r):aX bb 144 [.agg (bV a)] (fun v _=>v=iI r):=by
 refine bF (cat Tryz.f144 (pn 1)) Tryz.func144 Tryz.ntmps144 fun M b=>(bd ⟨[(0,.agg (bV a))],[],[],[]⟩ ?_);unfold D4 at h;refine aL 5 ?_;cases h;exact bv
end
noncomputable section
variable[GS](M:Nat→Prop)(a:aA)(r:Bool)(b:ab)(v2:Bool)  
abbrev acL(n:Nat):aq:=.c (cat Tryz.f145 (pn n))
abbrev aiA:Cx:=⟨bb,16,M,a⟩
abbrev acR:=bodyPost bb Tryz.f145 (bJ M a (fun v _=>v=.bool r))
abbrev ajr(b:dt)(s:AS):=VE (aiA M a) (acR M a r) b .normal s
def Ym:AS:=⟨[(2,.bool v2)],[],[],[]⟩
variable{M a r b v2}{K:Kn}{n:Nat}
theorem GC(b:ao K)(h:sL K n v2=some r):ajr M a r [acL 7] (Ym v2):=by
 unfold sL at h;refine aL 1 ?_;cases h;exact bv
theorem OG(e:ao K)(h:vw K n b=some r):aX bb 145 [.agg (aB b)] (fun v _=>v=.bool r):=by
 refine bF (cat Tryz.f145 (pn 1)) Tryz.func145 Tryz.ntmps145 fun M a=>(bd ⟨[(0,.agg (aB b))],[],[],[]⟩ ?_);unfold vw at h;refine av 6 7 3 (ai 4 ?_);obtain⟨c,h⟩|⟨c,h⟩:=am h
 ·exact aD 6 c (ac (ag 0 (GC e h)))
 ·refine aD 6 c (aQ 9 5 ?_);obtain⟨d,h⟩|⟨d,h⟩:=am h
  ·exact aD 11 d (ac (ag 0 (GC e h)))
  ·exact aD 11 d (ac (ag 0 (GC e h)))
end
noncomputable section
variable[GS](M:Nat→Prop)(y:aA)(r:ae×Int×Int×dO)(j:ab)(v2:bD)(E v4:Bool)(v5:bu)(v6 v7:Int)(v8:dO)(l:d4×Bool)(F:Int)(G:dn)(H I:Int)(J:dO)(z:Int)(A:Bool)(B C:bc)(b:dn)(d e:Int)(f:dO)(Q D:bc)(b0:Bool)(g:Int)(O:bc)(c0:Bool)(P:Int)(o q:bc)(t:Bool)(a0:Int×Bool)(d0:Bool)(e0 u w a:Int)(x N:dn)(f0:Bool)(g0:dn)(m1 m2:Nat)(L1:Int→dn→Int→Int→dO→Option g7)(L2:Int→dn→Option g7)
abbrev xQ:Cx:=⟨bb,259,M,y⟩
abbrev wT:=bodyPost bb Tryz.f100 (bJ M y (fun v s=>v=.agg (aG r.1)∧cy s.o [(af r.2.1 r.2.2.1)]∧look 440009 s.r=some (bt r.2.2.2)))
abbrev kJ(a:dt)(s:AS):=VE (xQ M y) (wT M y r) a .normal s
abbrev dK(n:Nat):aq:=.c (cat Tryz.f100 (pn n))
abbrev H5:dt:=[.b 4,dK 131071]
abbrev Ao:dt:=kl (xQ M y) (wT M y r) H5 (cat Tryz.f100 (pn 1048564)) m2::H5
abbrev EA:dt:=[.b 0,dK 4075,dK 255]
abbrev aaR:dt:=kl (xQ M y) (wT M y r) EA (cat Tryz.f100 (pn 32596)) m1::EA
def Xm:AS:=⟨[(6,.ptr 6 0),(10,.ptr 10 0),(11,.ptr 11 0),(12,.sl (lm aM l.1)),(13,.bool l.2),(15,iI g),(199,iI (b.length:Int)),(200,iI a)],[(6,bV v2),(10,List.set (aG bT) 66 (.nils)),(11,List.set (aG (⟨1,j.Node,v2.Margin.a3,0,(aa (v2.Content+u)),w,0,⟨#[]⟩,j.Style,o,q,t,[]⟩:ae)) 66 (.ref 1054)),(af d e)],[(1054,(bx g0)),(440009,(bt f))],[6,10,11,440001,1054,440009,1440001,440001]⟩
def afE:AS:=⟨[(6,.ptr 6 0),(10,.ptr 10 0),(11,.ptr 11 0),(12,.sl (lm aM l.1)),(13,.bool l.2),(15,iI g),(24,iI a),(199,iI (b.length:Int)),(200,iI a),(244,.bool f0)],[(6,bV v2),(10,List.set (aG bT) 66 (.nils)),(11,List.set (aG (⟨1,j.Node,v2.Margin.a3,0,(aa (v2.Content+u)),w,0,⟨#[]⟩,j.Style,o,q,t,[]⟩:ae)) 66 (.ref 1054)),(af d e)],[(1054,(bx N)),(440009,(bt f))],[6,10,11,440001,1054,440009,1440001,440001]⟩
def UY:AS:=⟨[(6,.ptr 6 0),(10,.ptr 10 0),(11,.ptr 11 0),(12,.sl (lm aM l.1)),(13,.bool l.2),(15,iI g),(199,iI (b.length:Int)),(200,iI a)],[(6,bV v2),(10,List.set (aG bT) 66 (.nils)),(11,List.set (aG (⟨1,j.Node,v2.Margin.a3,0,(aa (v2.Content+u)),w,0,⟨#[]⟩,j.Style,o,q,t,[]⟩:ae)) 66 (.ref 1054)),(af d e)],[(1054,(bx x)),(440009,(bt f))],[6,10,11,440001,1054,440009,1440001,440001]⟩
def WG:AS:=⟨[(6,.ptr 6 0),(10,.ptr 10 0),(11,.ptr 11 0),(12,.sl (lm aM l.1)),(13,.bool l.2),(14,iI e0),(15,iI g)],[(6,bV v2),(10,List.set (aG bT) 66 (.nils)),(11,List.set (aG ({ bT with Kind:=1,Node:=j.Node,Style:=j.Style,Before:=o,After:=q,Empty:=t }:ae)) 66 (.ref 1054)),(af d e)],[(1054,(bx b)),(440009,(bt f))],[6,10,11,440001,1054,440009,1440001,440001]⟩
def aaV:AS:=⟨[(6,.ptr 6 0),(10,.ptr 10 0),(11,.ptr 11 0),(12,.sl (lm aM l.1)),(13,.bool l.2),(14,iI (max P 0)),(15,iI g),(22,iI a0.1),(166,.bool d0)],[(6,bV v2),(10,List.set (aG bT) 66 (.nils)),(11,List.set (aG ({ bT with Kind:=1,Node:=j.Node,Style:=j.Style,Before:=o,After:=q,Empty:=t }:ae)) 66 (.ref 1054)),(af d e)],[(1054,(bx b)),(440009,(bt f))],[6,10,11,440001,1054,440009,1440001,440001]⟩
def V8:AS:=⟨[(5,.ptr 5 0),(6,.ptr 6 0),(10,.ptr 10 0),(11,.ptr 11 0),(12,.sl (lm aM l.1)),(13,.bool l.2),(14,iI P),(15,iI g)],[(5,aB j),(6,bV v2),(10,List.set (aG bT) 66 (.nils)),(11,List.set (aG ({ bT with Kind:=1,Node:=j.Node,Style:=j.Style,Before:=o,After:=q,Empty:=t }:ae)) 66 (.ref 1054)),(af d e)],[(1054,(bx b)),(440009,(bt f))],[5,6,10,11,440001,1054,440009,1440001,440001]⟩
def agV:AS:=⟨[(3,.bool v4),(5,.ptr 5 0),(6,.ptr 6 0),(10,.ptr 10 0),(11,.ptr 11 0),(12,.sl (lm aM l.1)),(13,.bool l.2),(14,iI z),(15,iI g),(16,.ptr 16 0),(17,.ptr 17 0),(18,.bool A),(113,.bool c0)],[(5,aB j),(6,bV v2),(10,List.set (aG bT) 66 (.nils)),(11,List.set (aG ({ bT with Kind:=1,Node:=j.Node,Style:=j.Style,Before:=O,After:=D }:ae)) 66 (.ref 1054)),(16,cT B),(17,cT C),(af d e)],[(1054,(bx b)),(440009,(bt f))],[5,6,10,11,16,17,440001,1054,440009,1440001,440001]⟩
def ab3:AS:=⟨[(2,.bool E),(3,.bool v4),(5,.ptr 5 0),(6,.ptr 6 0),(10,.ptr 10 0),(11,.ptr 11 0),(12,.sl (lm aM l.1)),(13,.bool l.2),(14,iI z),(15,iI g),(16,.ptr 16 0),(17,.ptr 17 0),(18,.bool A)],[(5,aB j),(6,bV v2),(10,List.set (aG bT) 66 (.nils)),(11,List.set (aG ({ bT with Kind:=1,Node:=j.Node,Style:=j.Style,Before:=O,After:=D }:ae)) 66 (.ref 1054)),(16,cT B),(17,cT C),(af d e)],[(1054,(bx b)),(440009,(bt f))],[5,6,10,11,16,17,440001,1054,440009,1440001,440001]⟩
def agx:AS:=⟨[(2,.bool E),(3,.bool v4),(5,.ptr 5 0),(6,.ptr 6 0),(10,.ptr 10 0),(11,.ptr 11 0),(12,.sl (lm aM l.1)),(13,.bool l.2),(14,iI z),(15,iI 0),(16,.ptr 16 0),(17,.ptr 17 0),(18,.bool A),(98,.bool b0)],[(5,aB j),(6,bV v2),(10,List.set (aG bT) 66 (.nils)),(11,List.set (aG ({ bT with Kind:=1,Node:=j.Node,Style:=j.Style,Before:=Q,After:=D }:ae)) 66 (.ref 1054)),(16,cT B),(17,cT C),(af d e)],[(1054,(bx b)),(440009,(bt f))],[5,6,10,11,16,17,440001,1054,440009,1440001,440001]⟩
def YZ:AS:=⟨[(2,.bool E),(3,.bool v4),(5,.ptr 5 0),(6,.ptr 6 0),(10,.ptr 10 0),(11,.ptr 11 0),(12,.sl (lm aM l.1)),(13,.bool l.2),(14,iI z),(15,iI 0),(16,.ptr 16 0),(17,.ptr 17 0),(18,.bool A)],[(5,aB j),(6,bV v2),(10,List.set (aG bT) 66 (.nils)),(11,List.set (aG ({ bT with Kind:=1,Node:=j.Node,Style:=j.Style }:ae)) 66 (.ref 1054)),(16,cT B),(17,cT C),(af d e)],[(1054,(bx b)),(440009,(bt f))],[5,6,10,11,16,17,440001,1054,440009,1440001,440001]⟩
def Vp:AS:=⟨[(2,.bool E),(3,.bool v4),(5,.ptr 5 0),(6,.ptr 6 0),(9,.ptr 9 0),(10,.ptr 10 0),(11,.ptr 11 0),(12,.sl (lm aM l.1)),(13,.bool l.2),(15,iI 0),(16,.ptr 16 0),(17,.ptr 17 0),(19,.ref 50),(36,.sl (lm aM l.1)),(37,iI (l.1.length:Int)),(38,iI F)],[(5,aB j),(6,bV v2),(9,bI v5),(10,List.set (aG bT) 66 (.nils)),(11,List.set (aG ({ bT with Kind:=1,Node:=j.Node,Style:=j.Style }:ae)) 66 (.nils)),(16,cT dA),(17,cT dA),(af H I)],[(50,(bx G)),(440009,(bt J))],[5,6,9,10,11,16,17,440001,50,440009,1440001,440001]⟩
abbrev LQ:Prop:=∀{F:Int} {G:dn} {H:Int} {I:Int} {J:dO},L1 F G H I J=some r→LP (xQ M y) (wT M y r) EA (cat Tryz.f100 (pn 32596)) m1 (Vp j v2 E v4 v5 l F G H I J)
abbrev Dv:Prop:=∀{a:Int} {x:dn},L2 a x=some r→LP (xQ M y) (wT M y r) H5 (cat Tryz.f100 (pn 1048564)) m2 (UY j v2 l b d e f g o q t u w a x)
variable{M y r j v2 E v4 v5 v6 v7 v8 l F G H I J z A B C b d e f Q D b0 g O c0 P o q t a0 d0 e0 u w a x N f0 g0 m1 m2 L1 L2}{K:Kn}{n:Nat}[SG y]
theorem OQ(i:ao K)(c:Dv M y r j v2 l b d e f g o q t u w m2 L2)(h:xd K n j v2 l b d e f g o q t u w a L2 g0=some r):kJ M y r (.b 5::dK 8388519::Ao M y r m2) (Xm j v2 l b d e f g o q t u w a g0):=by
 unfold xd at h;exact ag 2 (bn (c h))
theorem Ln(x:ao K)(p:Dv M y r j v2 l b d e f g o q t u w m2 L2)(h:y9 K n j v2 l b d e f g o q t u w a N L2 f0=some r):kJ M y r (dK 268432591 :: .b 5::dK 8388519::Ao M y r m2) (afE j v2 l b d e f g o q t u w a N f0):=by
 unfold y9 at h;obtain⟨c,h⟩|⟨c,h⟩:=am h
 ·refine ah 244 c (bg 2 1 (bK [6,10,11,12,13,15,24,199,200] [6,10,11,440001] [1054,440009] ?_));obtain⟨s,h⟩:=aF h;obtain⟨k,v,h⟩:=bind_some h;obtain⟨i,h⟩:=aF h;exact bQ 1 (nu 245 [.ptr 11 66,.ref 1054,iI a,.ptr 11 66,.ref 1054,iI a,.eptr 1054 67 (a.toNat) 0,.agg (aG (gD N a)),.ptr 6 12,iI v2.Content,.agg (aG k),.eptr 1054 67 (a.toNat) 0]) [] [] [d9 1054 ⟨44,67,lm aN (List.set N a.toNat k)⟩] (ax (vz 6) (bi (cK 1054 67 aN (L:=N) s) (bi (bO 44 0 aN aG (bH i).2 (dM)) (ax (vz 2) (aj (cq 0 1 255 (Lr x v)) (bi (cK 1054 67 aN (L:=N) i) (aj (dr (m:=0) (dC 1054 44 67 0 aN aG k (bH i).2 (dM))) bN))))))) (ag 0 (OQ x p h))
 ·exact ah 244 c (ag 2 (OQ x p h))
theorem afv(G:ao K)(z:Dv M y r j v2 l b d e f g o q t u w m2 L2)(h:zz K n j v2 l b d e f g o q t u w L2 a x=some r):kJ M y r (dK 1048564::Ao M y r m2) (UY j v2 l b d e f g o q t u w a x):=by
 unfold zz at h;refine av 6 7 3 ?_;obtain⟨s,h⟩|⟨s,h⟩:=am h
 ·refine ah 201 s (cN 18 19 5 3 7 (bK [6,10,11,12,13,15,24,199,200] [6,10,11,440001] [1054,440009] ?_));obtain⟨A,h⟩:=aF h;obtain⟨i,h⟩:=aF h;refine bQ 1 (nu 203 [.ptr 11 66,.ref 1054,iI a,.eptr 1054 67 (a.toNat) 0,.eptr 1054 67 (a.toNat) 2,iI ((gD x a).X),.ptr 6 4,.ptr 6 7,iI v2.Border.a3,.ptr 6 8,.ptr 6 11,iI v2.Padding.a3,iI (aa (v2.Border.a3+v2.Padding.a3)),iI (aa (((gD x a).X)+(aa (v2.Border.a3+v2.Padding.a3)))),.eptr 1054 67 (a.toNat) 0,.eptr 1054 67 (a.toNat) 2]) [] [] [d9 1054 ⟨44,67,lm aN (List.set x a.toNat ({ (gD x a)with X:=(aa (((gD x a).X)+(aa (v2.Border.a3+v2.Padding.a3)))) }:ae))⟩] (ax (vz 3) (bi (cK 1054 67 aN (L:=x) A) (ax [.v 0 1] (bi (bO 3 2 aN aG (bH i).2 (dM)) (ax (vz 8) (aj (gV (lo:=0) (k:=2) (dZ ⟨(by kernel_rfl),(d8 (cK 1054 67 aN (L:=x) i) (by kernel_rfl))⟩ (dZ ⟨(by kernel_rfl),(d8 (cK 1054 67 aN (L:=(List.set x a.toNat ({ (gD x a)with X:=(aa (((gD x a).X)+(aa (v2.Border.a3+v2.Padding.a3)))) }:ae))) i) (by kernel_rfl))⟩ iw))) (ax [.v 0 1] (aj (dr (m:=0) (dC 1054 44 67 2 aN aG ({ (gD x a)with X:=(aa (((gD x a).X)+(aa (v2.Border.a3+v2.Padding.a3)))) }:ae) (bH i).2 (dM))) bN)))))))) ?_
  obtain⟨c,B,h⟩:=bW h;refine bw (ks':=dK 134216294::dK 134216295 :: .b 5::dK 8388519::Ao M y r m2) 1 ⟨[(6,.ptr 6 0),(10,.ptr 10 0),(11,.ptr 11 0),(12,.sl (lm aM l.1)),(13,.bool l.2),(15,iI g),(24,iI a),(199,iI (b.length:Int)),(200,iI a)],[(6,bV v2),(10,List.set (aG bT) 66 (.nils)),(11,List.set (aG (⟨1,j.Node,v2.Margin.a3,0,(aa (v2.Content+u)),w,0,⟨#[]⟩,j.Style,o,q,t,[]⟩:ae)) 66 (.ref 1054)),(af d e)],[(1054,(bx c)),(440009,(bt f))],[6,10,11,440001,1054,440009,1440001,440001]⟩ ?_ (by subst B;kernel_rfl);obtain⟨C,h⟩:=aF h;obtain⟨p,h⟩:=aF h;refine bQ 1 (nu 219 [.ptr 11 66,.ref 1054,iI a,.eptr 1054 67 (a.toNat) 0,.eptr 1054 67 (a.toNat) 3,iI ((gD c a).Y),.ptr 6 4,.ptr 6 4,iI v2.Border.a0,.ptr 6 8,.ptr 6 8,iI v2.Padding.a0,iI (aa (v2.Border.a0+v2.Padding.a0)),iI g,iI (aa ((aa (v2.Border.a0+v2.Padding.a0))+g)),iI (aa (((gD c a).Y)+(aa ((aa (v2.Border.a0+v2.Padding.a0))+g)))),.eptr 1054 67 (a.toNat) 0,.eptr 1054 67 (a.toNat) 3]) [] [] [d9 1054 ⟨44,67,lm aN (List.set c a.toNat ({ (gD c a)with Y:=(aa (((gD c a).Y)+(aa ((aa (v2.Border.a0+v2.Padding.a0))+g)))) }:ae))⟩] (ax (vz 3) (bi (cK 1054 67 aN (L:=c) C) (ax [.v 0 1] (bi (bO 3 3 aN aG (bH p).2 (dM)) (ax (vz 10) (aj (gV (lo:=0) (k:=2) (dZ ⟨(by kernel_rfl),(d8 (cK 1054 67 aN (L:=c) p) (by kernel_rfl))⟩ (dZ ⟨(by kernel_rfl),(d8 (cK 1054 67 aN (L:=(List.set c a.toNat ({ (gD c a)with Y:=(aa (((gD c a).Y)+(aa ((aa (v2.Border.a0+v2.Padding.a0))+g)))) }:ae))) p) (by kernel_rfl))⟩ iw))) (ax [.v 0 1] (aj (dr (m:=0) (dC 1054 44 67 3 aN aG ({ (gD c a)with Y:=(aa (((gD c a).Y)+(aa ((aa (v2.Border.a0+v2.Padding.a0))+g)))) }:ae) (bH p).2 (dM))) bN)))))))) ?_
  obtain⟨N,D,h⟩:=bW h;refine bw (ks':=dK 268432590::dK 268432591 :: .b 5::dK 8388519::Ao M y r m2) 1 ⟨[(6,.ptr 6 0),(10,.ptr 10 0),(11,.ptr 11 0),(12,.sl (lm aM l.1)),(13,.bool l.2),(15,iI g),(24,iI a),(199,iI (b.length:Int)),(200,iI a)],[(6,bV v2),(10,List.set (aG bT) 66 (.nils)),(11,List.set (aG (⟨1,j.Node,v2.Margin.a3,0,(aa (v2.Content+u)),w,0,⟨#[]⟩,j.Style,o,q,t,[]⟩:ae)) 66 (.ref 1054)),(af d e)],[(1054,(bx N)),(440009,(bt f))],[6,10,11,440001,1054,440009,1440001,440001]⟩ ?_ (by subst D;kernel_rfl);refine ai 2 ?_;obtain⟨v,h⟩|⟨v,h⟩:=am h
  ·refine aD 238 v (aQ 4 2 ?_);obtain⟨E,h⟩:=aF h;refine au (bE aM aB E (fV) (d7)) (aQ 6 1 ?_);obtain⟨H,F,h⟩:=bind_some h;exact aK (OG G F) (ac (ag 0 (Ln G z h)))
  ·exact aD 238 v (ac (ag 0 (Ln G z h)))
 ·refine ah 201 s (aL 8 (iR 1054 ?_));cases h;exact fa
theorem Xi(c:ao K)(m:Nat):Dv M y r j v2 l b d e f g o q t u w m (sq K n j v2 l b d e f g o q t u w m):=by
 induction m with
 | zero=>intro a x h;cases h
 | succ m i=>intro a x h;have h:zz K n j v2 l b d e f g o q t u w (sq K n j v2 l b d e f g o q t u w m) a x=some r:=h;exact bh (afv c i h)
theorem RH(i:ao K)(h:ub K n j v2 l b d e f g o q t e0=some r):kJ M y r [dK 8191] (WG j v2 l b d e f g o q t e0):=by
 unfold ub at h;refine av 6 7 3 (bK [6,10,11,12,13,14,15] [6,10,11,440001] [1054,440009] ?_);obtain⟨u,a,h⟩:=bind_some h;refine bQ 1 (nu 173 [.ptr 6 12,iI v2.Content,.agg (bV v2),iI u,iI (aa (v2.Content+u)),.ptr 11 4]) [] [] [cf bb 259 Tryz.f100 (pn 32766) 6] (ax (vz 3) (aj (cq 0 1 176 (air i a)) (ax (vz 2) (aj (ce 0) bN)))) ?_;obtain⟨w,c,h⟩:=bW h;refine bw (ks':=[dK 262140,dK 262141,dK 131071]) 4 ⟨[(6,.ptr 6 0),(10,.ptr 10 0),(11,.ptr 11 0),(12,.sl (lm aM l.1)),(13,.bool l.2),(15,iI g)],[(6,bV v2),(10,List.set (aG bT) 66 (.nils)),(11,List.set (aG (⟨1,j.Node,v2.Margin.a3,0,(aa (v2.Content+u)),w,0,⟨#[]⟩,j.Style,o,q,t,[]⟩:ae)) 66 (.ref 1054)),(af d e)],[(1054,(bx b)),(440009,(bt f))],[6,10,11,440001,1054,440009,1440001,440001]⟩ ?_ (by subst c;kernel_rfl);exact ai 2 (au (bA aN b) (ac (ag 1 (cd (p:=pn 524282) n (Xi i n h)))))
theorem NW(c:ao K)(h:wP K n j v2 l b d e f g P o q t a0 d0=some r):kJ M y r [dK 32763,dK 8191] (aaV j v2 l b d e f g P o q t a0 d0):=by
 unfold wP at h;obtain⟨a,h⟩|⟨a,h⟩:=am h
 ·exact ah 166 a (ag 2 (RH c h))
 ·exact ah 166 a (ag 2 (RH c h))
theorem xY(i:ao K)(h:nC K n j v2 l b d e f g P o q t=some r):kJ M y r [.b 3,dK 2047] (V8 j v2 l b d e f g P o q t):=by
 unfold nC at h;refine rF 12 13 7 5 (ai 3 ?_);obtain⟨a0,c,h⟩:=bind_some h;refine aK (eu i c) (ac (av 2 3 1 (ai 2 ?_)));obtain⟨a,h⟩|⟨a,h⟩:=am h
 ·exact aD 160 a (ac (ag 0 (NW i h)))
 ·exact aD 160 a (ac (ag 0 (NW i h)))
theorem Jl(a:ao K)(h:uV K n j v2 v4 l z A B C b d e f D g O c0=some r):kJ M y r [dK 8185,.b 3,dK 2047] (agV j v2 v4 l z A B C b d e f D g O c0):=by
 unfold uV at h;obtain⟨c,h⟩|⟨c,h⟩:=am h
 ·refine ah 113 c (av 4 5 2 (ai 4 ?_));obtain⟨t,o,h⟩:=bind_some h;exact aK (zu a o) (ac (ag 5 (xY a h)))
 ·refine ah 113 c (bg 7 3 ?_);obtain⟨i,h⟩|⟨i,h⟩:=am h
  ·refine ah 131 i (bg 11 5 ?_);obtain⟨k,h⟩|⟨k,h⟩:=am h
   ·refine ah 134 k (bg 2 1 (ai 3 ?_));obtain⟨u,p,h⟩:=bind_some h;exact aK (zu a p) (ac (ag 0 (xY a h)))
   ·exact ah 134 k (ag 2 (xY a h))
  ·refine ah 131 i (bg 7 3 ?_);obtain⟨m,h⟩|⟨m,h⟩:=am h
   ·refine ah 140 m (av 4 5 2 (ai 3 ?_));obtain⟨v,q,h⟩:=bind_some h;exact aK (zu a q) (ac (ag 1 (xY a h)))
   ·refine ah 140 m (bg 3 1 (ai 3 ?_));obtain⟨w,s,h⟩:=bind_some h;exact aK (my a s) (ac (ag 0 (xY a h)))
theorem EX(i:ao K)(h:se K n j v2 E v4 l z A B C b d e f D g O=some r):kJ M y r [.b 2,dK 1023] (ab3 j v2 E v4 l z A B C b d e f D g O):=by
 unfold se at h;refine cN 8 9 3 3 4 (ai 2 ?_);obtain⟨a,h⟩|⟨a,h⟩:=am h
 ·refine aD 115 a (aQ 5 3 ?_);obtain⟨c,h⟩|⟨c,h⟩:=am h
  ·exact aD 118 c (ac (ag 0 (Jl i h)))
  ·exact aD 118 c (ac (ag 0 (Jl i h)))
 ·exact aD 115 a (ac (ag 0 (Jl i h)))
theorem Tl(g:ao K)(h:wK K n j v2 E v4 l z A B C b d e f Q D b0=some r):kJ M y r [dK 16359,.b 2,dK 1023] (agx j v2 E v4 l z A B C b d e f Q D b0):=by
 unfold wK at h;obtain⟨a,h⟩|⟨a,h⟩:=am h
 ·refine ah 98 a (bg 2 1 (ai 1 ?_));obtain⟨i,c,h⟩:=bind_some h;exact aK (my g c) (ac (ag 0 (EX g h)))
 ·exact ah 98 a (ag 2 (EX g h))
theorem MT(g:ao K)(h:pI K n j v2 E v4 l z A B C b d e f=some r):kJ M y r [dK 255] (YZ j v2 E v4 l z A B C b d e f):=by
 unfold pI at h;refine av 2 3 1 (bK [2,3,5,6,10,11,12,13,14,15,16,17,18] [5,6,10,11,16,17,440001] [1054,440009] ?_);obtain⟨Q,i,h⟩:=bind_some h;obtain⟨D,k,h⟩:=bind_some h;refine bQ 2 (nu 81 [.ptr 6 0,.ptr 6 0,iI v2.Margin.a0,.agg (cT Q),.ptr 6 0,.ptr 6 2,iI v2.Margin.a2,.agg (cT D),.ptr 11 61,.ptr 11 63]) [] [] [cf bb 259 Tryz.f100 (pn 510) 9,cf bb 259 Tryz.f100 (pn 510) 11] (ax (vz 3) (aj (cq 0 1 84 (CM g i)) (ax [.v 0 2,.v 0 2,.v 0 2] (aj (cq 0 1 88 (CM g k)) (ax [.v 0 1] (aj (ce 0) (ax [.v 1 1] (aj (ce 1) bN)))))))) (gn 9 2 3 4 ?_);obtain⟨a,h⟩|⟨a,h⟩:=am h
 ·refine ah 91 a (bg 2 1 (ai 3 ?_));obtain⟨o,m,h⟩:=bind_some h;exact aK (zu g m) (ac (ag 0 (EX g h)))
 ·refine ah 91 a (av 6 7 2 (ai 3 ?_));obtain⟨c,h⟩|⟨c,h⟩:=am h
  ·exact aD 101 c (ac (ag 0 (Tl g h)))
  ·exact aD 101 c (ac (ag 0 (Tl g h)))
theorem Ww(d:ao K)(k:LQ M y r j v2 E v4 v5 l m1 L1)(h:xN K n j v2 E v4 v5 l L1 F G H I J=some r):kJ M y r (dK 32596::aaR M y r m1) (Vp j v2 E v4 v5 l F G H I J):=by
 unfold xN at h;refine av 6 7 3 ?_;obtain⟨a,h⟩|⟨a,h⟩:=am h
 ·refine ah 39 a (cN 8 9 1 3 5 (ai 0 ?_));obtain⟨e,h⟩:=aF h;refine au (bE aM aB e (fV) (d7)) (ac (ai 6 ?_));obtain⟨c,b,h⟩:=bind_some h;refine rt (d.de b).2 ?_ (d.de b).1;refine au (gq aN ([c.1]:dn) (new:=[aG c.1]) (by simp only[q6,yk,dM])) ?_;obtain⟨f,h⟩:=aF h;exact au (cG 50 50 44 67 aN (rfl) (jY) f) (ac (ag 2 (bn (k h))))
 ·refine ah 39 a (b8 (ks':=[dK 4075,dK 255]) 5 (ai 1 (mN 50 ?_)));obtain⟨m,g,h⟩:=bind_some h;exact eS 1054 (ZM d g) (Ct (i:=0) rfl) (ac (ag 0 (MT d h)))
theorem ac1(a:ao K)(m:Nat):LQ M y r j v2 E v4 v5 l m (qz K n j v2 E v4 v5 l m):=by
 induction m with
 | zero=>intro F G H I J h;cases h
 | succ m b=>intro F G H I J h;have h:xN K n j v2 E v4 v5 l (qz K n j v2 E v4 v5 l m) F G H I J=some r:=h;exact bh (Ww a b h)
theorem Ob(a:ao K)(h:jU K n j v2 E v4 v5 v6 v7 v8=some r):eo bb 100 [.agg (aB j),.agg (bV v2),.bool E,.bool v4,.agg (bI v5)] [(af v6 v7)] (bt v8) (fun v s=>v=.agg (aG r.1)∧cy s.o [(af r.2.1 r.2.2.1)]∧look 440009 s.r=some (bt r.2.2.2)):=by
 refine jO (c:=cat Tryz.f100 []) Tryz.func100 (by kernel_rfl) _ Tryz.ntmps100 (kc (by kernel_rfl)) fun M y=>(bd ⟨[(0,.agg (aB j)),(1,.agg (bV v2)),(2,.bool E),(3,.bool v4),(4,.agg (bI v5))],[(af v6 v7)],[(440009,(bt v8))],[440009,440001,1440001]⟩ ?_);unfold jU at h;refine b8 (ks':=[dK 14,dK 15]) 5 (ai 1 ?_);obtain⟨l,g,h⟩:=bind_some h;refine aK (Lx a g) (ac (av 61 31 9 ?_));obtain⟨e,h⟩|⟨e,h⟩:=am h
 ·exact ah 35 e (cc 20 21 11 5 (ai 1 (au (bA aM l.1) (ac (ib 2 0 1 (bK [2,3,5,6,9,10,11,12,13,15,16,17,19,36,37,38] [5,6,9,10,11,16,17,440001] [440009] (eL 50 19 44 67 (ag 0 (cd (p:=pn 16298) n (ac1 a n h))))))))))
 ·refine ah 35 e (av 6 7 2 (ai 7 ?_));obtain⟨i,b,h⟩:=bind_some h;refine ld (a.A9 b) (ac (av 2 3 1 (ai 2 ?_)));obtain⟨f,d,h⟩:=bind_some h;exact eS 1075 (GD a d) (eX 5) (ac (ai 2 (au (bA aN f) (ac (bK [2,3,5,6,10,11,12,13,14,15,16,17,18] [5,6,10,11,16,17,440001] [1075,440009] (vH 1075 1054 (ag 0 (MT a h))))))))
end
noncomputable section
variable[GS](M:Nat→Prop)(d:aA)(r:ae×Int×Int×dO)(a:ab)(v2:Int)(b:bu)(v4 v5:Int)(v6:dO)(e:bD)(f g:Bool)  
abbrev Di(n:Nat):aq:=.c (cat Tryz.f47 (pn n))
abbrev ab7:Cx:=⟨bb,58,M,d⟩
abbrev q47:=bodyPost bb Tryz.f47 (bJ M d (fun v s=>v=.agg (aG r.1)∧cy s.o [(af r.2.1 r.2.2.1)]∧look 440009 s.r=some (bt r.2.2.2)))
abbrev RQ(a:dt)(s:AS):=VE (ab7 M d) (q47 M d r) a .normal s
def abT:AS:=⟨[(3,.ptr 3 0),(5,.ptr 5 0),(6,.ptr 6 0),(7,.ptr 7 0),(9,.bool f),(10,.bool g)],[(3,aB a),(5,bI b),(6,List.set (aG bT) 66 (.nils)),(7,bV e),(af v4 v5)],[(440009,(bt v6))],[3,5,6,7,440001,440009,1440001,440001]⟩
def ahB:AS:=⟨[(3,.ptr 3 0),(5,.ptr 5 0),(6,.ptr 6 0),(7,.ptr 7 0),(8,.bool (a.Style.Overflow == 0)),(9,.bool f)],[(3,aB a),(5,bI b),(6,List.set (aG bT) 66 (.nils)),(7,bV e),(af v4 v5)],[(440009,(bt v6))],[3,5,6,7,440001,440009,1440001,440001]⟩
variable{M d r a v2 b v4 v5 v6 e f g}{K:Kn}{n:Nat}[SG d]
theorem Cq(i:ao K)(h:uC K n a b v4 v5 v6 e f g=some r):RQ M d r [Di 63] (abT a b v4 v5 v6 e f g):=by
 unfold uC at h;refine av 2 3 1 (ai 5 ?_);obtain⟨j,c,h⟩:=bind_some h;refine rt (Ob i c) (ac (aL 1 ?_));cases h;exact fa
theorem HZ(c:ao K)(h:oZ K n a b v4 v5 v6 e f=some r):RQ M d r [Di 31] (ahB a b v4 v5 v6 e f):=by
 unfold oZ at h;refine av 2 3 1 (ai 2 ?_);obtain⟨g,h⟩|⟨g,h⟩:=am h
 ·refine aD 33 g (aQ 8 6 ?_);obtain⟨i,h⟩|⟨i,h⟩:=am h
  ·refine aD 39 i (aQ 14 6 ?_);obtain⟨j,h⟩|⟨j,h⟩:=am h
   ·exact aD 45 j (ac (ag 0 (Cq c h)))
   ·exact aD 45 j (ac (ag 0 (Cq c h)))
  ·exact aD 39 i (ac (ag 0 (Cq c h)))
 ·exact aD 33 g (ac (ag 0 (Cq c h)))
theorem ahM(f:ao K)(h:nJ K n a v2 b v4 v5 v6=some r):eo bb 47 [.agg (aB a),iI v2,.agg (bI b)] [(af v4 v5)] (bt v6) (fun v s=>v=.agg (aG r.1)∧cy s.o [(af r.2.1 r.2.2.1)]∧look 440009 s.r=some (bt r.2.2.2)):=by
 refine jO (c:=cat Tryz.f47 []) Tryz.func47 (by kernel_rfl) _ Tryz.ntmps47 (kc (by kernel_rfl)) fun M d=>(bd ⟨[(0,.agg (aB a)),(1,iI v2),(2,.agg (bI b))],[(af v4 v5)],[(440009,(bt v6))],[440009,440001,1440001]⟩ ?_);unfold nJ at h;refine b8 (ks':=[Di 6,Di 7]) 3 (ai 3 ?_);obtain⟨e,j,h⟩:=bind_some h;refine aK (Hd f j) (ac (av 6 7 3 (ai 2 ?_)));obtain⟨g,h⟩|⟨g,h⟩:=am h
 ·refine aD 20 g (aQ 8 6 ?_);obtain⟨i,h⟩|⟨i,h⟩:=am h
  ·exact aD 26 i (ac (ag 0 (HZ f h)))
  ·exact aD 26 i (ac (ag 0 (HZ f h)))
 ·exact aD 20 g (ac (ag 0 (HZ f h)))
end
noncomputable section
variable[GS](M:Nat→Prop)(d:aA)(r:ae×Int×Int×dO)(b:ab)(v2:Int)(p:Bool)(v4:bu)(v5:Bool)(v6 q:Int)(t:dO)(e f:Int)(g:dO)(a:ae)(i j:Int)(k:dO)(l m:Int)(o:dO)  
abbrev sT(n:Nat):aq:=.c (cat Tryz.f43 (pn n))
abbrev aiD:Cx:=⟨bb,54,M,d⟩
abbrev q43:=bodyPost bb Tryz.f43 (bJ M d (fun v s=>v=.agg (aG r.1)∧cy s.o [(af r.2.1 r.2.2.1)]∧look 440009 s.r=some (bt r.2.2.2)))
abbrev Fy(a:dt)(s:AS):=VE (aiD M d) (q43 M d r) a .normal s
def adV:AS:=⟨[(7,.ptr 7 0),(10,.ptr 10 0)],[(7,List.set (aG bT) 66 (.nils)),(10,aG a),(af l m)],[(440009,(bt o))],[7,10,440001,440009,1440001,440001]⟩
def aim:AS:=⟨[(1,iI v2),(4,.cptr ([ex 37 v5])),(5,.ptr 5 0),(7,.ptr 7 0),(10,.ptr 10 0)],[(5,aB b),(7,List.set (aG bT) 66 (.nils)),(10,aG a),(af i j)],[(440009,(bt k))],[5,7,10,440001,440009,1440001,440001]⟩
def agX:AS:=⟨[(1,iI v2),(3,.cptr (bI v4)),(4,.cptr ([ex 37 v5])),(5,.ptr 5 0),(7,.ptr 7 0)],[(5,aB b),(7,List.set (aG bT) 66 (.nils)),(af e f)],[(440009,(bt g))],[5,7,440001,440009,1440001,440001]⟩
variable{M d r b v2 p v4 v5 v6 q t e f g a i j k l m o}{K:Kn}{n:Nat}[SG d]
theorem PT(b:ao K)(h:DD K n a l m o=some r):Fy M d r [sT 63] (adV a l m o):=by
 unfold DD at h;refine aL 3 ?_;cases h;exact fa
theorem Oo(g:ao K)(h:uq K n b v2 v5 a i j k=some r):Fy M d r [.b 0,sT 31] (aim b v2 v5 a i j k):=by
 unfold uq at h;refine rF 4 5 3 3 (ai 1 (MU 37 v5 .neq 89 89 (.tmp 46) (.const .nilFunc) 47 (ac ?_)));obtain⟨c,h⟩|⟨c,h⟩:=am h
 ·refine ah 47 c (bg 2 1 (ai 4 ?_));obtain⟨f,h⟩:=aF h;obtain⟨l,e,h⟩:=bind_some h;exact F0 48 (v:=ex 37 v5) (v':=.vv (jo 37 GS.g)) (by kernel_rfl) (by rw[f];rfl) rfl (L8 (aal g e) (ac (ag 0 (PT g h))))
 ·exact ah 47 c (ag 2 (PT g h))
theorem Vd(a:ao K)(h:tp K n b v2 v4 v5 e f g=some r):Fy M d r [sT 7] (agX b v2 v4 v5 e f g):=by
 unfold tp at h;refine gn 53 0 7 8 ?_;obtain⟨c,h⟩|⟨c,h⟩:=am h
 ·refine ah 28 c (bg 2 1 (ai 3 ?_));obtain⟨m,k,h⟩:=bind_some h;exact rt (abh a k) (ac (ag 0 (Oo a h)))
 ·refine ah 28 c (bg 7 3 ?_);obtain⟨i,h⟩|⟨i,h⟩:=am h
  ·refine ah 34 i ?_;cases h
  ·refine ah 34 i (bg 7 3 ?_);obtain⟨j,h⟩|⟨j,h⟩:=am h
   ·refine ah 40 j ?_;cases h
   ·refine ah 40 j (bg 3 1 (ai 3 ?_));obtain⟨o,l,h⟩:=bind_some h;exact rt (ahM a l) (ac (ag 0 (Oo a h)))
theorem ake(f:ao K)(h:jM K n b v2 p v4 v5 v6 q t=some r):eo bb 43 [.agg (aB b),iI v2,.cptr ([ex 36 p]),.cptr (bI v4),.cptr ([ex 37 v5])] [(af v6 q)] (bt t) (fun v s=>v=.agg (aG r.1)∧cy s.o [(af r.2.1 r.2.2.1)]∧look 440009 s.r=some (bt r.2.2.2)):=by
 refine jO (c:=cat Tryz.f43 []) Tryz.func43 (by kernel_rfl) _ Tryz.ntmps43 (kc (by kernel_rfl)) fun M d=>(bd ⟨[(0,.agg (aB b)),(1,iI v2),(2,.cptr ([ex 36 p])),(3,.cptr (bI v4)),(4,.cptr ([ex 37 v5]))],[(af v6 q)],[(440009,(bt t))],[440009,440001,1440001]⟩ ?_);unfold jM at h;refine b8 (ks':=[sT 12,sT 13,sT 7]) 4 (ai 1 (MU 36 p .neq 66 66 (.tmp 11) (.const .nilFunc) 12 (ac ?_)));obtain⟨a,h⟩|⟨a,h⟩:=am h
 ·refine ah 12 a (av 4 5 2 (ai 3 ?_));obtain⟨i,h⟩:=aF h;obtain⟨j,g,h⟩:=bind_some h;refine F0 14 (v:=ex 36 p) (v':=.vv (jo 36 GS.g)) (by kernel_rfl) (by rw[i];rfl) rfl (L8 (afr f g) (ac (bg 3 2 ?_)));obtain⟨e,h⟩|⟨e,h⟩:=am h
  ·refine ah 20 e (aL 5 ?_);cases h;exact fa
  ·exact ah 20 e (ag 2 (Vd f h))
 ·exact ah 12 a (ag 2 (Vd f h))
end
noncomputable section
variable[GS](M:Nat→Prop)(a:aA)(r k:aI)(v2:Nat)(o v4 v5 v6 p q t b d f g:aI)  
abbrev eI(n:Nat):aq:=.c (cat Tryz.f101 (pn n))
abbrev Hg:Cx:=⟨bb,40,M,a⟩
abbrev H2:=bodyPost bb Tryz.f101 (bJ M a (fun v _=>v=.agg (aH r)))
abbrev kB(b:dt)(s:AS):=VE (Hg M a) (H2 M a r) b .normal s
def Xc:AS:=⟨[(1,.pp 1 v2 0),(2,.ptr 2 0),(24,.ref 10),(25,iI 11),(26,iI 10)],[(1,aH g),(2,aH cr)],[(10,⟨201,1,lm aY (ap v2)⟩)],[1,2,10]⟩
def acs:AS:=⟨[(1,.pp 1 v2 0),(2,.ptr 2 0),(24,.ref 10),(25,iI 11),(26,iI 9)],[(1,aH f),(2,aH cr)],[(10,⟨201,1,lm aY (ap v2)⟩)],[1,2,10]⟩
def ahF:AS:=⟨[(1,.pp 1 v2 0),(2,.ptr 2 0),(24,.ref 10),(25,iI 11),(26,iI 8)],[(1,aH d),(2,aH cr)],[(10,⟨201,1,lm aY (ap v2)⟩)],[1,2,10]⟩
def aee:AS:=⟨[(1,.pp 1 v2 0),(2,.ptr 2 0),(24,.ref 10),(25,iI 11),(26,iI 7)],[(1,aH b),(2,aH cr)],[(10,⟨201,1,lm aY (ap v2)⟩)],[1,2,10]⟩
def acU:AS:=⟨[(1,.pp 1 v2 0),(2,.ptr 2 0),(24,.ref 10),(25,iI 11),(26,iI 6)],[(1,aH t),(2,aH cr)],[(10,⟨201,1,lm aY (ap v2)⟩)],[1,2,10]⟩
def ahu:AS:=⟨[(1,.pp 1 v2 0),(2,.ptr 2 0),(24,.ref 10),(25,iI 11),(26,iI 5)],[(1,aH q),(2,aH cr)],[(10,⟨201,1,lm aY (ap v2)⟩)],[1,2,10]⟩
def akb:AS:=⟨[(1,.pp 1 v2 0),(2,.ptr 2 0),(24,.ref 10),(25,iI 11),(26,iI 4)],[(1,aH p),(2,aH cr)],[(10,⟨201,1,lm aY (ap v2)⟩)],[1,2,10]⟩
def af8:AS:=⟨[(1,.pp 1 v2 0),(2,.ptr 2 0),(24,.ref 10),(25,iI 11),(26,iI 3)],[(1,aH v6),(2,aH cr)],[(10,⟨201,1,lm aY (ap v2)⟩)],[1,2,10]⟩
def Ys:AS:=⟨[(1,.pp 1 v2 0),(2,.ptr 2 0),(24,.ref 10),(25,iI 11),(26,iI 2)],[(1,aH v5),(2,aH cr)],[(10,⟨201,1,lm aY (ap v2)⟩)],[1,2,10]⟩
def acO:AS:=⟨[(1,.pp 1 v2 0),(2,.ptr 2 0),(24,.ref 10),(25,iI 11),(26,iI 1)],[(1,aH v4),(2,aH cr)],[(10,⟨201,1,lm aY (ap v2)⟩)],[1,2,10]⟩
def Xa:AS:=⟨[(1,.pp 1 v2 0),(2,.ptr 2 0),(24,.ref 10),(25,iI 11),(26,iI 0)],[(1,aH o),(2,aH cr)],[(10,⟨201,1,lm aY (ap v2)⟩)],[1,2,10]⟩
abbrev eR(m:Nat):dt:=kl (Hg M a) (H2 M a r) [.b 2,eI 31] (cat Tryz.f101 (pn 244)) m::[.b 2,eI 31]
abbrev Ag(m:Nat):dt:=kl (Hg M a) (H2 M a r) [.b 0,eI 15] (cat Tryz.f101 (pn 116)) m::[.b 0,eI 15]
variable{M a r k v2 o v4 v5 v6 p q t b d f g}{K:Kn}{n:Nat}
theorem SZ(b:ao K)(h:AJ K n g=some r):kB M a r (.b 3::eI 1959::eR M a r 29) (Xc v2 g):=by
 unfold AJ at h;refine bw (ks':=eR M a r 29) 2 ⟨[(1,.pp 1 v2 0),(2,.ptr 2 0),(24,.ref 10),(25,iI 11),(26,iI 11)],[(1,aH g),(2,aH cr)],[(10,⟨201,1,lm aY (ap v2)⟩)],[1,2,10]⟩ (bn (bh (aL 11 ?_)));cases h;exact bv
theorem O3(c:ao K)(h:va K n f=some r):kB M a r (.b 3::eI 1959::eR M a r 30) (acs v2 f):=by
 unfold va at h;refine bw (ks':=eR M a r 30) 2 ⟨[(1,.pp 1 v2 0),(2,.ptr 2 0),(24,.ref 10),(25,iI 11),(26,iI 10)],[(1,aH f),(2,aH cr)],[(10,⟨201,1,lm aY (ap v2)⟩)],[1,2,10]⟩ (bn (bh (du 56 57 3 15 8 (ai 0 (au (ct 10 1 aY (L:=(ap v2)) (i:=(10:Int)) (by kernel_rfl)) (au (bO 201 0 aY aY (L:=(ap v2)) (j:=(10:Int).toNat) (kc (by kernel_rfl)) aT) (ac (av 2 3 1 (ai 3 (c7 32 1 1 v2 28 0 (ac ?_)))))))))));obtain⟨b,h⟩|⟨b,h⟩:=am h
 ·exact ah 34 b (bg 2 1 (ai 3 (c7 37 1 1 v2 28 0 (ac (ag 0 (SZ c (v2:=v2) h))))))
 ·exact ah 34 b (ag 2 (SZ c (v2:=v2) h))
theorem UG(c:ao K)(h:tW K n d=some r):kB M a r (.b 3::eI 1959::eR M a r 31) (ahF v2 d):=by
 unfold tW at h;refine bw (ks':=eR M a r 31) 2 ⟨[(1,.pp 1 v2 0),(2,.ptr 2 0),(24,.ref 10),(25,iI 11),(26,iI 9)],[(1,aH d),(2,aH cr)],[(10,⟨201,1,lm aY (ap v2)⟩)],[1,2,10]⟩ (bn (bh (du 56 57 3 15 8 (ai 0 (au (ct 10 1 aY (L:=(ap v2)) (i:=(9:Int)) (by kernel_rfl)) (au (bO 201 0 aY aY (L:=(ap v2)) (j:=(9:Int).toNat) (kc (by kernel_rfl)) aT) (ac (av 2 3 1 (ai 3 (c7 32 1 1 v2 20 0 (ac ?_)))))))))));obtain⟨b,h⟩|⟨b,h⟩:=am h
 ·exact ah 34 b (bg 2 1 (ai 3 (c7 37 1 1 v2 20 0 (ac (ag 0 (O3 c (v2:=v2) h))))))
 ·exact ah 34 b (ag 2 (O3 c (v2:=v2) h))
theorem SX(d:ao K)(h:tI K n b=some r):kB M a r (.b 3::eI 1959::eR M a r 32) (aee v2 b):=by
 unfold tI at h;refine bw (ks':=eR M a r 32) 2 ⟨[(1,.pp 1 v2 0),(2,.ptr 2 0),(24,.ref 10),(25,iI 11),(26,iI 8)],[(1,aH b),(2,aH cr)],[(10,⟨201,1,lm aY (ap v2)⟩)],[1,2,10]⟩ (bn (bh (du 56 57 3 15 8 (ai 0 (au (ct 10 1 aY (L:=(ap v2)) (i:=(8:Int)) (by kernel_rfl)) (au (bO 201 0 aY aY (L:=(ap v2)) (j:=(8:Int).toNat) (kc (by kernel_rfl)) aT) (ac (av 2 3 1 (ai 3 (c7 32 1 1 v2 26 0 (ac ?_)))))))))));obtain⟨c,h⟩|⟨c,h⟩:=am h
 ·exact ah 34 c (bg 2 1 (ai 3 (c7 37 1 1 v2 26 0 (ac (ag 0 (UG d (v2:=v2) h))))))
 ·exact ah 34 c (ag 2 (UG d (v2:=v2) h))
theorem Vy(c:ao K)(h:vK K n t=some r):kB M a r (.b 3::eI 1959::eR M a r 33) (acU v2 t):=by
 unfold vK at h;refine bw (ks':=eR M a r 33) 2 ⟨[(1,.pp 1 v2 0),(2,.ptr 2 0),(24,.ref 10),(25,iI 11),(26,iI 7)],[(1,aH t),(2,aH cr)],[(10,⟨201,1,lm aY (ap v2)⟩)],[1,2,10]⟩ (bn (bh (du 56 57 3 15 8 (ai 0 (au (ct 10 1 aY (L:=(ap v2)) (i:=(7:Int)) (by kernel_rfl)) (au (bO 201 0 aY aY (L:=(ap v2)) (j:=(7:Int).toNat) (kc (by kernel_rfl)) aT) (ac (av 2 3 1 (ai 3 (c7 32 1 1 v2 18 0 (ac ?_)))))))))));obtain⟨b,h⟩|⟨b,h⟩:=am h
 ·exact ah 34 b (bg 2 1 (ai 3 (c7 37 1 1 v2 18 0 (ac (ag 0 (SX c (v2:=v2) h))))))
 ·exact ah 34 b (ag 2 (SX c (v2:=v2) h))
theorem Vn(c:ao K)(h:vQ K n q=some r):kB M a r (.b 3::eI 1959::eR M a r 34) (ahu v2 q):=by
 unfold vQ at h;refine bw (ks':=eR M a r 34) 2 ⟨[(1,.pp 1 v2 0),(2,.ptr 2 0),(24,.ref 10),(25,iI 11),(26,iI 6)],[(1,aH q),(2,aH cr)],[(10,⟨201,1,lm aY (ap v2)⟩)],[1,2,10]⟩ (bn (bh (du 56 57 3 15 8 (ai 0 (au (ct 10 1 aY (L:=(ap v2)) (i:=(6:Int)) (by kernel_rfl)) (au (bO 201 0 aY aY (L:=(ap v2)) (j:=(6:Int).toNat) (kc (by kernel_rfl)) aT) (ac (av 2 3 1 (ai 3 (c7 32 1 1 v2 24 0 (ac ?_)))))))))));obtain⟨b,h⟩|⟨b,h⟩:=am h
 ·exact ah 34 b (bg 2 1 (ai 3 (c7 37 1 1 v2 24 0 (ac (ag 0 (Vy c (v2:=v2) h))))))
 ·exact ah 34 b (ag 2 (Vy c (v2:=v2) h))
theorem Ss(c:ao K)(h:wF K n p=some r):kB M a r (.b 3::eI 1959::eR M a r 35) (akb v2 p):=by
 unfold wF at h;refine bw (ks':=eR M a r 35) 2 ⟨[(1,.pp 1 v2 0),(2,.ptr 2 0),(24,.ref 10),(25,iI 11),(26,iI 5)],[(1,aH p),(2,aH cr)],[(10,⟨201,1,lm aY (ap v2)⟩)],[1,2,10]⟩ (bn (bh (du 56 57 3 15 8 (ai 0 (au (ct 10 1 aY (L:=(ap v2)) (i:=(5:Int)) (by kernel_rfl)) (au (bO 201 0 aY aY (L:=(ap v2)) (j:=(5:Int).toNat) (kc (by kernel_rfl)) aT) (ac (av 2 3 1 (ai 3 (c7 32 1 1 v2 16 0 (ac ?_)))))))))));obtain⟨b,h⟩|⟨b,h⟩:=am h
 ·exact ah 34 b (bg 2 1 (ai 3 (c7 37 1 1 v2 16 0 (ac (ag 0 (Vn c (v2:=v2) h))))))
 ·exact ah 34 b (ag 2 (Vn c (v2:=v2) h))
theorem Uj(c:ao K)(h:vB K n v6=some r):kB M a r (.b 3::eI 1959::eR M a r 36) (af8 v2 v6):=by
 unfold vB at h;refine bw (ks':=eR M a r 36) 2 ⟨[(1,.pp 1 v2 0),(2,.ptr 2 0),(24,.ref 10),(25,iI 11),(26,iI 4)],[(1,aH v6),(2,aH cr)],[(10,⟨201,1,lm aY (ap v2)⟩)],[1,2,10]⟩ (bn (bh (du 56 57 3 15 8 (ai 0 (au (ct 10 1 aY (L:=(ap v2)) (i:=(4:Int)) (by kernel_rfl)) (au (bO 201 0 aY aY (L:=(ap v2)) (j:=(4:Int).toNat) (kc (by kernel_rfl)) aT) (ac (av 2 3 1 (ai 3 (c7 32 1 1 v2 22 0 (ac ?_)))))))))));obtain⟨b,h⟩|⟨b,h⟩:=am h
 ·exact ah 34 b (bg 2 1 (ai 3 (c7 37 1 1 v2 22 0 (ac (ag 0 (Ss c (v2:=v2) h))))))
 ·exact ah 34 b (ag 2 (Ss c (v2:=v2) h))
theorem Qc(c:ao K)(h:vy K n v5=some r):kB M a r (.b 3::eI 1959::eR M a r 37) (Ys v2 v5):=by
 unfold vy at h;refine bw (ks':=eR M a r 37) 2 ⟨[(1,.pp 1 v2 0),(2,.ptr 2 0),(24,.ref 10),(25,iI 11),(26,iI 3)],[(1,aH v5),(2,aH cr)],[(10,⟨201,1,lm aY (ap v2)⟩)],[1,2,10]⟩ (bn (bh (du 56 57 3 15 8 (ai 0 (au (ct 10 1 aY (L:=(ap v2)) (i:=(3:Int)) (by kernel_rfl)) (au (bO 201 0 aY aY (L:=(ap v2)) (j:=(3:Int).toNat) (kc (by kernel_rfl)) aT) (ac (av 2 3 1 (ai 3 (c7 32 1 1 v2 14 0 (ac ?_)))))))))));obtain⟨b,h⟩|⟨b,h⟩:=am h
 ·exact ah 34 b (bg 2 1 (ai 3 (c7 37 1 1 v2 14 0 (ac (ag 0 (Uj c (v2:=v2) h))))))
 ·exact ah 34 b (ag 2 (Uj c (v2:=v2) h))
theorem Oy(c:ao K)(h:vT K n v4=some r):kB M a r (.b 3::eI 1959::eR M a r 38) (acO v2 v4):=by
 unfold vT at h;refine bw (ks':=eR M a r 38) 2 ⟨[(1,.pp 1 v2 0),(2,.ptr 2 0),(24,.ref 10),(25,iI 11),(26,iI 2)],[(1,aH v4),(2,aH cr)],[(10,⟨201,1,lm aY (ap v2)⟩)],[1,2,10]⟩ (bn (bh (du 56 57 3 15 8 (ai 0 (au (ct 10 1 aY (L:=(ap v2)) (i:=(2:Int)) (by kernel_rfl)) (au (bO 201 0 aY aY (L:=(ap v2)) (j:=(2:Int).toNat) (kc (by kernel_rfl)) aT) (ac (av 2 3 1 (ai 3 (c7 32 1 1 v2 12 0 (ac ?_)))))))))));obtain⟨b,h⟩|⟨b,h⟩:=am h
 ·exact ah 34 b (bg 2 1 (ai 3 (c7 37 1 1 v2 12 0 (ac (ag 0 (Qc c (v2:=v2) h))))))
 ·exact ah 34 b (ag 2 (Qc c (v2:=v2) h))
theorem Pa(c:ao K)(h:uh K n o=some r):kB M a r (.b 3::eI 1959::eR M a r 39) (Xa v2 o):=by
 unfold uh at h;refine bw (ks':=eR M a r 39) 2 ⟨[(1,.pp 1 v2 0),(2,.ptr 2 0),(24,.ref 10),(25,iI 11),(26,iI 1)],[(1,aH o),(2,aH cr)],[(10,⟨201,1,lm aY (ap v2)⟩)],[1,2,10]⟩ (bn (bh (du 56 57 3 15 8 (ai 0 (au (ct 10 1 aY (L:=(ap v2)) (i:=(1:Int)) (by kernel_rfl)) (au (bO 201 0 aY aY (L:=(ap v2)) (j:=(1:Int).toNat) (kc (by kernel_rfl)) aT) (ac (av 2 3 1 (ai 3 (c7 32 1 1 v2 10 0 (ac ?_)))))))))));obtain⟨b,h⟩|⟨b,h⟩:=am h
 ·exact ah 34 b (bg 2 1 (ai 3 (c7 37 1 1 v2 10 0 (ac (ag 0 (Oy c (v2:=v2) h))))))
 ·exact ah 34 b (ag 2 (Oy c (v2:=v2) h))
theorem ahO(d:ao K)(h:A1 K n k=some r):aX bb 101 [.agg (aH k)] (fun v _=>v=.agg (aH r)):=by
 refine bF (cat Tryz.f101 (pn 1)) Tryz.func101 Tryz.ntmps101 fun M a=>(bd ⟨[(0,.agg (aH k))],[],[],[]⟩ ?_);unfold A1 at h;refine av 6 7 3 (Pu 1 1 0 fun v2=>(ai 3 (Sa 202 3 #[(0,(.tmp 7)),(1,(.tmp 8)),(2,(.tmp 9))] 10 (e:=201) (sz:=1) (l:=lm aY [(v2,6),(v2,10),(v2,12)]) (ac (bw (ks':=[eI 58,.b 0,eI 15]) 4 ⟨[(1,.pp 1 v2 0),(2,.ptr 2 0),(3,.ref 10),(11,iI 0)],[(1,aH k),(2,aH cr)],[(10,⟨201,1,lm aY [(v2,6),(v2,10),(v2,12)]⟩)],[1,2,10]⟩ (nf 40 (c:=cat Tryz.f101 [1,1,0,1,0,0]) (by kernel_rfl) (bh (b8 (ks':=eI 3737 :: .b 1::eI 935::Ag M a r 39) 9 (bK [1,2,3,4,11] [1,2] [10] (bQ 2 (nu 14 [.ref 10,iI 0,.adr v2 14,.adr v2 14,iI 0,.adr v2 22,.adr v2 22,.sl (lm aY [(v2,14),(v2,22)])]) [] [] [gA 22 10 ⟨201,1,lm aY [(v2,6),(v2,10),(v2,12),(v2,14),(v2,22)]⟩,cf bb 40 Tryz.f101 (pn 3737) 9] (ax [.v 0 1,.v 0 2,.v 0 2,.v 0 2,.v 0 2,.v 0 2,.v 0 2,.v 0 1] (aj (dr (m:=0) (cG 22 10 201 1 aY (L:=([(v2,6),(v2,10),(v2,12)]:hH)) (M:=([(v2,14),(v2,22)]:hH)) (bytes:=8) (rfl) aT (by kernel_rfl))) (aj (ce 1) bN))) (bw (ks':=Ag M a r 39) 2 ⟨[(1,.pp 1 v2 0),(2,.ptr 2 0),(3,.ref 10),(11,iI 1)],[(1,aH k),(2,aH cr)],[(10,⟨201,1,lm aY [(v2,6),(v2,10),(v2,12),(v2,14),(v2,22)]⟩)],[1,2,10]⟩ (bn (bh (gn 57 1 15 9 (bK [1,2,3,4,11] [1,2] [10] (bQ 2 (nu 14 [.ref 10,iI 1,.adr v2 14,.adr v2 16,iI 1,.adr v2 22,.adr v2 24,.sl (lm aY [(v2,16),(v2,24)])]) [] [] [gA 22 10 ⟨201,1,lm aY [(v2,6),(v2,10),(v2,12),(v2,14),(v2,22),(v2,16),(v2,24)]⟩,cf bb 40 Tryz.f101 (pn 3737) 9] (ax [.v 0 1,.v 0 2,.v 0 2,.v 0 2,.v 0 2,.v 0 2,.v 0 2,.v 0 1] (aj (dr (m:=0) (cG 22 10 201 1 aY (L:=([(v2,6),(v2,10),(v2,12),(v2,14),(v2,22)]:hH)) (M:=([(v2,16),(v2,24)]:hH)) (bytes:=8) (rfl) aT (by kernel_rfl))) (aj (ce 1) bN))) (bw (ks':=Ag M a r 38) 2 ⟨[(1,.pp 1 v2 0),(2,.ptr 2 0),(3,.ref 10),(11,iI 2)],[(1,aH k),(2,aH cr)],[(10,⟨201,1,lm aY [(v2,6),(v2,10),(v2,12),(v2,14),(v2,22),(v2,16),(v2,24)]⟩)],[1,2,10]⟩ (bn (bh (gn 57 1 15 9 (bK [1,2,3,4,11] [1,2] [10] (bQ 2 (nu 14 [.ref 10,iI 2,.adr v2 14,.adr v2 18,iI 2,.adr v2 22,.adr v2 26,.sl (lm aY [(v2,18),(v2,26)])]) [] [] [gA 22 10 ⟨201,1,lm aY [(v2,6),(v2,10),(v2,12),(v2,14),(v2,22),(v2,16),(v2,24),(v2,18),(v2,26)]⟩,cf bb 40 Tryz.f101 (pn 3737) 9] (ax [.v 0 1,.v 0 2,.v 0 2,.v 0 2,.v 0 2,.v 0 2,.v 0 2,.v 0 1] (aj (dr (m:=0) (cG 22 10 201 1 aY (L:=([(v2,6),(v2,10),(v2,12),(v2,14),(v2,22),(v2,16),(v2,24)]:hH)) (M:=([(v2,18),(v2,26)]:hH)) (bytes:=8) (rfl) aT (by kernel_rfl))) (aj (ce 1) bN))) (bw (ks':=Ag M a r 37) 2 ⟨[(1,.pp 1 v2 0),(2,.ptr 2 0),(3,.ref 10),(11,iI 3)],[(1,aH k),(2,aH cr)],[(10,⟨201,1,lm aY [(v2,6),(v2,10),(v2,12),(v2,14),(v2,22),(v2,16),(v2,24),(v2,18),(v2,26)]⟩)],[1,2,10]⟩ ?_)))))))))))))))))))))))
 refine bn (bh (gn 57 1 15 9 (bK [1,2,3,4,11] [1,2] [10] (bQ 2 (nu 14 [.ref 10,iI 3,.adr v2 14,.adr v2 20,iI 3,.adr v2 22,.adr v2 28,.sl (lm aY [(v2,20),(v2,28)])]) [] [] [gA 22 10 ⟨201,1,lm aY (ap v2)⟩,cf bb 40 Tryz.f101 (pn 3737) 9] (ax [.v 0 1,.v 0 2,.v 0 2,.v 0 2,.v 0 2,.v 0 2,.v 0 2,.v 0 1] (aj (dr (m:=0) (cG 22 10 201 1 aY (L:=([(v2,6),(v2,10),(v2,12),(v2,14),(v2,22),(v2,16),(v2,24),(v2,18),(v2,26)]:hH)) (M:=([(v2,20),(v2,28)]:hH)) (bytes:=8) (rfl) aT (by kernel_rfl))) (aj (ce 1) bN))) (bw (ks':=Ag M a r 36) 2 ⟨[(1,.pp 1 v2 0),(2,.ptr 2 0),(3,.ref 10),(11,iI 4)],[(1,aH k),(2,aH cr)],[(10,⟨201,1,lm aY (ap v2)⟩)],[1,2,10]⟩ (bn (bh (Qo 4 5 3 10 (ai 1 (au (bA aY (ap v2)) (ac (bw (ks':=[eI 122,.b 2,eI 31]) 1 ⟨[(1,.pp 1 v2 0),(2,.ptr 2 0),(24,.ref 10),(25,iI 11),(26,iI 0)],[(1,aH k),(2,aH cr)],[(10,⟨201,1,lm aY (ap v2)⟩)],[1,2,10]⟩ (nf 40 (c:=cat Tryz.f101 [1,1,1,0,1,0,0]) (by kernel_rfl) (bh (b8 (ks':=eI 7832::eI 7833 :: .b 3::eI 1959::eR M a r 39) 8 (ai 0 (au (ct 10 1 aY (L:=(ap v2)) (i:=(0:Int)) (by kernel_rfl)) (au (bO 201 0 aY aY (L:=(ap v2)) (j:=(0:Int).toNat) (kc (by kernel_rfl)) aT) (ac (av 2 3 1 (ai 3 (c7 32 1 1 v2 6 0 (ac ?_)))))))))))))))))))))))
 obtain⟨b,h⟩|⟨b,h⟩:=am h
 ·exact ah 34 b (bg 2 1 (ai 3 (c7 37 1 1 v2 6 0 (ac (ag 0 (Pa d (v2:=v2) h))))))
 ·exact ah 34 b (ag 2 (Pa d (v2:=v2) h))
end
noncomputable section
variable[GS](M:Nat→Prop)(b:aA)(r a:Int)(v2:aI)  
variable{M b r a v2}{K:Kn}{n:Nat}
theorem UM(c:ao K)(h:xF K n a v2=some r):aX bb 103 [iI a,.cptr (aH v2)] (fun v _=>v=iI r):=by
 refine bF (cat Tryz.f103 (pn 1)) Tryz.func103 Tryz.ntmps103 fun M b=>(bd ⟨[(0,iI a),(1,.cptr (aH v2))],[],[],[]⟩ ?_);unfold xF at h;refine av 6 7 3 (bK [0,1] [] [] ?_);obtain⟨i,d,h⟩:=bind_some h;obtain⟨v4,e,h⟩:=bind_some h;obtain⟨v5,f,h⟩:=bind_some h;obtain⟨v6,g,h⟩:=bind_some h;refine bQ 1 (nu 4 [.agg (aH v2),.agg (aH v2),iI a,iI i,iI v4,.agg (bV v5),iI v6]) [] [] [cf bb 11 Tryz.f103 (pn 6) 7] (ax (vz 3) (aj (cq 0 1 7 (mC c d)) (aj (cq 0 1 8 (y8 c e)) (aj (cq 0 1 9 (m6 c f)) (aj (cq 0 1 10 (o5 c g)) (aj (ce 0) bN)))))) (aL 1 ?_);cases h;exact bv
end
noncomputable section
variable[GS](M:Nat→Prop)(d:aA)(r:Int×Int)(e:ab)(v2:bu)(c:aI)(v5:d4)(f b a:Int)(g:Int×Int)(j k l o q:Int)(i:Nat)(t:Int→Int→Int→Option em)
abbrev Fx:Cx:=⟨bb,70,M,d⟩
abbrev Jb:=bodyPost bb Tryz.f49 (bJ M d (fun v _=>v=.tup [iI r.1,iI r.2]))
abbrev Br(a:dt)(s:AS):=VE (Fx M d) (Jb M d r) a .normal s
abbrev qy(n:Nat):aq:=.c (cat Tryz.f49 (pn n))
abbrev Ig:dt:=[.b 0,qy 15]
abbrev C7:dt:=kl (Fx M d) (Jb M d r) Ig (cat Tryz.f49 (pn 956)) i::Ig
def ai6:AS:=⟨[(2,.ptr 2 0),(3,.ptr 3 0),(4,iI k),(5,iI l),(6,.ptr 6 0),(27,.ref 1027),(28,iI (v5.length:Int)),(29,iI a)],[(2,aB e),(3,bI v2),(6,aH c)],[(1027,(bY v5))],[2,3,6,1027]⟩
def ajj:AS:=⟨[(2,.ptr 2 0),(3,.ptr 3 0),(4,iI j),(5,iI (aa (b+g.2))),(6,.ptr 6 0),(27,.ref 1027),(28,iI (v5.length:Int)),(29,iI a)],[(2,aB e),(3,bI v2),(6,aH c)],[(1027,(bY v5))],[2,3,6,1027]⟩
def aiH:AS:=⟨[(4,iI o),(5,iI q),(6,.ptr 6 0)],[(6,aH c)],[],[6]⟩
def Ms:AS:=⟨[(2,.ptr 2 0),(3,.ptr 3 0),(4,iI f),(5,iI b),(6,.ptr 6 0),(27,.ref 1027),(28,iI (v5.length:Int)),(29,iI a)],[(2,aB e),(3,bI v2),(6,aH c)],[(1027,(bY v5))],[2,3,6,1027]⟩
abbrev Da:Prop:=∀{f:Int} {b:Int} {a:Int},t f b a=some r→LP (Fx M d) (Jb M d r) Ig (cat Tryz.f49 (pn 956)) i (Ms e v2 c v5 f b a)
variable{M d r e v2 c v5 f b a g j k l o q i t}{K:Kn}{n:Nat}
theorem Pl(f:ao K)(b:Da M d r e v2 c v5 i t)(h:Be K n e v2 c v5 a t k l=some r):Br M d r (qy 7655::C7 M d r i) (ai6 e v2 c v5 a k l):=by
 unfold Be at h;exact ag 1 (bn (b h))
theorem MI(k:ao K)(f:Da M d r e v2 c v5 i t)(h:xO K n e v2 c v5 b a g t j=some r):Br M d r (.b 1::qy 7655::C7 M d r i) (ajj e v2 c v5 b a g j):=by
 unfold xO at h;exact ag 1 (Pl k f h)
theorem Qe(e:ao K)(h:pZ K n c o q=some r):Br M d r [qy 15] (aiH c o q):=by
 unfold pZ at h;refine av 2 3 1 (ai 0 (oJ 6 6 (aH c) (tY 103 #[(.tmp 6)] [.cptr (aH c)] (ac (av 2 3 1 (ai 2 ?_))))));obtain⟨f,a,h⟩:=bind_some h;refine aK (UM e a) (aQ 5 2 ?_);obtain⟨g,b,h⟩:=bind_some h;refine aK (UM e b) (ac (aL 1 ?_));cases h;exact gx
theorem aiq(p:ao K)(m:Da M d r e v2 c v5 i t)(h:xV K n e v2 c v5 t f b a=some r):Br M d r (qy 956::C7 M d r i) (Ms e v2 c v5 f b a):=by
 unfold xV at h;refine av 6 7 3 ?_;obtain⟨j,h⟩|⟨j,h⟩:=am h
 ·refine ah 30 j (cN 8 9 1 3 5 (ai 0 ?_));obtain⟨o,h⟩:=aF h;refine au (ct 1027 59 aM o) (au (bO 48 0 aM aB (bH o).2 (d7)) (ac (av 2 3 1 (ai 3 ?_))));obtain⟨g,q,h⟩:=bind_some h;refine ld (p.gm q) (ac (av 5 3 3 ?_));obtain⟨k,h⟩|⟨k,h⟩:=am h
  ·exact ah 43 k (ag 6 (Pl p m h))
  ·refine ah 43 k (b8 (ks':=qy 489887 :: .b 1::qy 7655::C7 M d r i) 6 ?_);obtain⟨l,h⟩|⟨l,h⟩:=am h
   ·exact ah 55 l (ag 2 (MI p m h))
   ·exact ah 55 l (ag 2 (MI p m h))
 ·exact ah 30 j (ag 5 (Qe p h))
theorem V6(g:ao K)(m:Nat):Da M d r e v2 c v5 m (vS K n e v2 c v5 m):=by
 induction m with
 | zero=>intro f b a h;cases h
 | succ m i=>intro f b a h;have h:xV K n e v2 c v5 (vS K n e v2 c v5 m) f b a=some r:=h;exact bh (aiq g i h)
theorem X5(a:ao K)(h:vY K n e v2=some r):aX bb 49 [.agg (aB e),.agg (bI v2)] (fun v _=>v=.tup [iI r.1,iI r.2]):=by
 refine bF (cat Tryz.f49 (pn 1)) Tryz.func49 Tryz.ntmps49 fun M d=>(bd ⟨[(0,.agg (aB e)),(1,.agg (bI v2))],[],[],[]⟩ ?_);unfold vY at h;refine av 6 7 3 (ai 2 ?_);obtain⟨c,f,h⟩:=bind_some h;refine aK (ahO a f) (ac (cc 4 5 3 2 (ai 2 ?_)));obtain⟨v4,g,h⟩:=bind_some h;refine aK (eu a g) (ac (bg 3 2 ?_));obtain⟨b,h⟩|⟨b,h⟩:=am h
 ·exact ah 23 b (ag 2 (Qe a h))
 ·refine ah 23 b (av 6 7 2 (ai 1 ?_));obtain⟨v5,i,h⟩:=bind_some h;exact eS 1027 (Fu a i) (eX 21) (au (bA aM v5) (ac (ag 1 (cd (p:=pn 478) n (V6 a n h)))))
end
noncomputable section
variable[GS](M:Nat→Prop)(a:aA)(r k:aI)(v2:Nat)(o v4 v5 v6 p q t b d f g:aI)  
abbrev eG(n:Nat):aq:=.c (cat Tryz.f108 (pn n))
abbrev HU:Cx:=⟨bb,40,M,a⟩
abbrev Hq:=bodyPost bb Tryz.f108 (bJ M a (fun v _=>v=.agg (aH r)))
abbrev kw(b:dt)(s:AS):=VE (HU M a) (Hq M a r) b .normal s
def abJ:AS:=⟨[(1,.pp 1 v2 0),(2,.ptr 2 0),(24,.ref 10),(25,iI 11),(26,iI 10)],[(1,aH g),(2,aH cr)],[(10,⟨201,1,lm aY (ap v2)⟩)],[1,2,10]⟩
def adG:AS:=⟨[(1,.pp 1 v2 0),(2,.ptr 2 0),(24,.ref 10),(25,iI 11),(26,iI 9)],[(1,aH f),(2,aH cr)],[(10,⟨201,1,lm aY (ap v2)⟩)],[1,2,10]⟩
def adm:AS:=⟨[(1,.pp 1 v2 0),(2,.ptr 2 0),(24,.ref 10),(25,iI 11),(26,iI 8)],[(1,aH d),(2,aH cr)],[(10,⟨201,1,lm aY (ap v2)⟩)],[1,2,10]⟩
def VP:AS:=⟨[(1,.pp 1 v2 0),(2,.ptr 2 0),(24,.ref 10),(25,iI 11),(26,iI 7)],[(1,aH b),(2,aH cr)],[(10,⟨201,1,lm aY (ap v2)⟩)],[1,2,10]⟩
def W6:AS:=⟨[(1,.pp 1 v2 0),(2,.ptr 2 0),(24,.ref 10),(25,iI 11),(26,iI 6)],[(1,aH t),(2,aH cr)],[(10,⟨201,1,lm aY (ap v2)⟩)],[1,2,10]⟩
def aaf:AS:=⟨[(1,.pp 1 v2 0),(2,.ptr 2 0),(24,.ref 10),(25,iI 11),(26,iI 5)],[(1,aH q),(2,aH cr)],[(10,⟨201,1,lm aY (ap v2)⟩)],[1,2,10]⟩
def abr:AS:=⟨[(1,.pp 1 v2 0),(2,.ptr 2 0),(24,.ref 10),(25,iI 11),(26,iI 4)],[(1,aH p),(2,aH cr)],[(10,⟨201,1,lm aY (ap v2)⟩)],[1,2,10]⟩
def aa7:AS:=⟨[(1,.pp 1 v2 0),(2,.ptr 2 0),(24,.ref 10),(25,iI 11),(26,iI 3)],[(1,aH v6),(2,aH cr)],[(10,⟨201,1,lm aY (ap v2)⟩)],[1,2,10]⟩
def XG:AS:=⟨[(1,.pp 1 v2 0),(2,.ptr 2 0),(24,.ref 10),(25,iI 11),(26,iI 2)],[(1,aH v5),(2,aH cr)],[(10,⟨201,1,lm aY (ap v2)⟩)],[1,2,10]⟩
def aeF:AS:=⟨[(1,.pp 1 v2 0),(2,.ptr 2 0),(24,.ref 10),(25,iI 11),(26,iI 1)],[(1,aH v4),(2,aH cr)],[(10,⟨201,1,lm aY (ap v2)⟩)],[1,2,10]⟩
def W0:AS:=⟨[(1,.pp 1 v2 0),(2,.ptr 2 0),(24,.ref 10),(25,iI 11),(26,iI 0)],[(1,aH o),(2,aH cr)],[(10,⟨201,1,lm aY (ap v2)⟩)],[1,2,10]⟩
abbrev eK(m:Nat):dt:=kl (HU M a) (Hq M a r) [.b 2,eG 31] (cat Tryz.f108 (pn 244)) m::[.b 2,eG 31]
abbrev zx(m:Nat):dt:=kl (HU M a) (Hq M a r) [.b 0,eG 15] (cat Tryz.f108 (pn 116)) m::[.b 0,eG 15]
variable{M a r k v2 o v4 v5 v6 p q t b d f g}{K:Kn}{n:Nat}
theorem Qr(b:ao K)(h:AU K n g=some r):kw M a r (.b 3::eG 1959::eK M a r 29) (abJ v2 g):=by
 unfold AU at h;refine bw (ks':=eK M a r 29) 2 ⟨[(1,.pp 1 v2 0),(2,.ptr 2 0),(24,.ref 10),(25,iI 11),(26,iI 11)],[(1,aH g),(2,aH cr)],[(10,⟨201,1,lm aY (ap v2)⟩)],[1,2,10]⟩ (bn (bh (aL 11 ?_)));cases h;exact bv
theorem P0(c:ao K)(h:tw K n f=some r):kw M a r (.b 3::eG 1959::eK M a r 30) (adG v2 f):=by
 unfold tw at h;refine bw (ks':=eK M a r 30) 2 ⟨[(1,.pp 1 v2 0),(2,.ptr 2 0),(24,.ref 10),(25,iI 11),(26,iI 10)],[(1,aH f),(2,aH cr)],[(10,⟨201,1,lm aY (ap v2)⟩)],[1,2,10]⟩ (bn (bh (du 56 57 3 15 8 (ai 0 (au (ct 10 1 aY (L:=(ap v2)) (i:=(10:Int)) (by kernel_rfl)) (au (bO 201 0 aY aY (L:=(ap v2)) (j:=(10:Int).toNat) (kc (by kernel_rfl)) aT) (ac (av 2 3 1 (ai 3 (c7 32 1 1 v2 28 0 (ac ?_)))))))))));obtain⟨b,h⟩|⟨b,h⟩:=am h
 ·exact ah 34 b (bg 2 1 (ai 3 (c7 37 1 1 v2 28 0 (ac (ag 0 (Qr c (v2:=v2) h))))))
 ·exact ah 34 b (ag 2 (Qr c (v2:=v2) h))
theorem UF(c:ao K)(h:wm K n d=some r):kw M a r (.b 3::eG 1959::eK M a r 31) (adm v2 d):=by
 unfold wm at h;refine bw (ks':=eK M a r 31) 2 ⟨[(1,.pp 1 v2 0),(2,.ptr 2 0),(24,.ref 10),(25,iI 11),(26,iI 9)],[(1,aH d),(2,aH cr)],[(10,⟨201,1,lm aY (ap v2)⟩)],[1,2,10]⟩ (bn (bh (du 56 57 3 15 8 (ai 0 (au (ct 10 1 aY (L:=(ap v2)) (i:=(9:Int)) (by kernel_rfl)) (au (bO 201 0 aY aY (L:=(ap v2)) (j:=(9:Int).toNat) (kc (by kernel_rfl)) aT) (ac (av 2 3 1 (ai 3 (c7 32 1 1 v2 20 0 (ac ?_)))))))))));obtain⟨b,h⟩|⟨b,h⟩:=am h
 ·exact ah 34 b (bg 2 1 (ai 3 (c7 37 1 1 v2 20 0 (ac (ag 0 (P0 c (v2:=v2) h))))))
 ·exact ah 34 b (ag 2 (P0 c (v2:=v2) h))
theorem Pm(d:ao K)(h:wB K n b=some r):kw M a r (.b 3::eG 1959::eK M a r 32) (VP v2 b):=by
 unfold wB at h;refine bw (ks':=eK M a r 32) 2 ⟨[(1,.pp 1 v2 0),(2,.ptr 2 0),(24,.ref 10),(25,iI 11),(26,iI 8)],[(1,aH b),(2,aH cr)],[(10,⟨201,1,lm aY (ap v2)⟩)],[1,2,10]⟩ (bn (bh (du 56 57 3 15 8 (ai 0 (au (ct 10 1 aY (L:=(ap v2)) (i:=(8:Int)) (by kernel_rfl)) (au (bO 201 0 aY aY (L:=(ap v2)) (j:=(8:Int).toNat) (kc (by kernel_rfl)) aT) (ac (av 2 3 1 (ai 3 (c7 32 1 1 v2 26 0 (ac ?_)))))))))));obtain⟨c,h⟩|⟨c,h⟩:=am h
 ·exact ah 34 c (bg 2 1 (ai 3 (c7 37 1 1 v2 26 0 (ac (ag 0 (UF d (v2:=v2) h))))))
 ·exact ah 34 c (ag 2 (UF d (v2:=v2) h))
theorem Pd(c:ao K)(h:si K n t=some r):kw M a r (.b 3::eG 1959::eK M a r 33) (W6 v2 t):=by
 unfold si at h;refine bw (ks':=eK M a r 33) 2 ⟨[(1,.pp 1 v2 0),(2,.ptr 2 0),(24,.ref 10),(25,iI 11),(26,iI 7)],[(1,aH t),(2,aH cr)],[(10,⟨201,1,lm aY (ap v2)⟩)],[1,2,10]⟩ (bn (bh (du 56 57 3 15 8 (ai 0 (au (ct 10 1 aY (L:=(ap v2)) (i:=(7:Int)) (by kernel_rfl)) (au (bO 201 0 aY aY (L:=(ap v2)) (j:=(7:Int).toNat) (kc (by kernel_rfl)) aT) (ac (av 2 3 1 (ai 3 (c7 32 1 1 v2 18 0 (ac ?_)))))))))));obtain⟨b,h⟩|⟨b,h⟩:=am h
 ·exact ah 34 b (bg 2 1 (ai 3 (c7 37 1 1 v2 18 0 (ac (ag 0 (Pm c (v2:=v2) h))))))
 ·exact ah 34 b (ag 2 (Pm c (v2:=v2) h))
theorem PN(c:ao K)(h:ua K n q=some r):kw M a r (.b 3::eG 1959::eK M a r 34) (aaf v2 q):=by
 unfold ua at h;refine bw (ks':=eK M a r 34) 2 ⟨[(1,.pp 1 v2 0),(2,.ptr 2 0),(24,.ref 10),(25,iI 11),(26,iI 6)],[(1,aH q),(2,aH cr)],[(10,⟨201,1,lm aY (ap v2)⟩)],[1,2,10]⟩ (bn (bh (du 56 57 3 15 8 (ai 0 (au (ct 10 1 aY (L:=(ap v2)) (i:=(6:Int)) (by kernel_rfl)) (au (bO 201 0 aY aY (L:=(ap v2)) (j:=(6:Int).toNat) (kc (by kernel_rfl)) aT) (ac (av 2 3 1 (ai 3 (c7 32 1 1 v2 24 0 (ac ?_)))))))))));obtain⟨b,h⟩|⟨b,h⟩:=am h
 ·exact ah 34 b (bg 2 1 (ai 3 (c7 37 1 1 v2 24 0 (ac (ag 0 (Pd c (v2:=v2) h))))))
 ·exact ah 34 b (ag 2 (Pd c (v2:=v2) h))
theorem QC(c:ao K)(h:tT K n p=some r):kw M a r (.b 3::eG 1959::eK M a r 35) (abr v2 p):=by
 unfold tT at h;refine bw (ks':=eK M a r 35) 2 ⟨[(1,.pp 1 v2 0),(2,.ptr 2 0),(24,.ref 10),(25,iI 11),(26,iI 5)],[(1,aH p),(2,aH cr)],[(10,⟨201,1,lm aY (ap v2)⟩)],[1,2,10]⟩ (bn (bh (du 56 57 3 15 8 (ai 0 (au (ct 10 1 aY (L:=(ap v2)) (i:=(5:Int)) (by kernel_rfl)) (au (bO 201 0 aY aY (L:=(ap v2)) (j:=(5:Int).toNat) (kc (by kernel_rfl)) aT) (ac (av 2 3 1 (ai 3 (c7 32 1 1 v2 16 0 (ac ?_)))))))))));obtain⟨b,h⟩|⟨b,h⟩:=am h
 ·exact ah 34 b (bg 2 1 (ai 3 (c7 37 1 1 v2 16 0 (ac (ag 0 (PN c (v2:=v2) h))))))
 ·exact ah 34 b (ag 2 (PN c (v2:=v2) h))
theorem Qk(c:ao K)(h:vP K n v6=some r):kw M a r (.b 3::eG 1959::eK M a r 36) (aa7 v2 v6):=by
 unfold vP at h;refine bw (ks':=eK M a r 36) 2 ⟨[(1,.pp 1 v2 0),(2,.ptr 2 0),(24,.ref 10),(25,iI 11),(26,iI 4)],[(1,aH v6),(2,aH cr)],[(10,⟨201,1,lm aY (ap v2)⟩)],[1,2,10]⟩ (bn (bh (du 56 57 3 15 8 (ai 0 (au (ct 10 1 aY (L:=(ap v2)) (i:=(4:Int)) (by kernel_rfl)) (au (bO 201 0 aY aY (L:=(ap v2)) (j:=(4:Int).toNat) (kc (by kernel_rfl)) aT) (ac (av 2 3 1 (ai 3 (c7 32 1 1 v2 22 0 (ac ?_)))))))))));obtain⟨b,h⟩|⟨b,h⟩:=am h
 ·exact ah 34 b (bg 2 1 (ai 3 (c7 37 1 1 v2 22 0 (ac (ag 0 (QC c (v2:=v2) h))))))
 ·exact ah 34 b (ag 2 (QC c (v2:=v2) h))
theorem MW(c:ao K)(h:vp K n v5=some r):kw M a r (.b 3::eG 1959::eK M a r 37) (XG v2 v5):=by
 unfold vp at h;refine bw (ks':=eK M a r 37) 2 ⟨[(1,.pp 1 v2 0),(2,.ptr 2 0),(24,.ref 10),(25,iI 11),(26,iI 3)],[(1,aH v5),(2,aH cr)],[(10,⟨201,1,lm aY (ap v2)⟩)],[1,2,10]⟩ (bn (bh (du 56 57 3 15 8 (ai 0 (au (ct 10 1 aY (L:=(ap v2)) (i:=(3:Int)) (by kernel_rfl)) (au (bO 201 0 aY aY (L:=(ap v2)) (j:=(3:Int).toNat) (kc (by kernel_rfl)) aT) (ac (av 2 3 1 (ai 3 (c7 32 1 1 v2 14 0 (ac ?_)))))))))));obtain⟨b,h⟩|⟨b,h⟩:=am h
 ·exact ah 34 b (bg 2 1 (ai 3 (c7 37 1 1 v2 14 0 (ac (ag 0 (Qk c (v2:=v2) h))))))
 ·exact ah 34 b (ag 2 (Qk c (v2:=v2) h))
theorem UN(c:ao K)(h:s9 K n v4=some r):kw M a r (.b 3::eG 1959::eK M a r 38) (aeF v2 v4):=by
 unfold s9 at h;refine bw (ks':=eK M a r 38) 2 ⟨[(1,.pp 1 v2 0),(2,.ptr 2 0),(24,.ref 10),(25,iI 11),(26,iI 2)],[(1,aH v4),(2,aH cr)],[(10,⟨201,1,lm aY (ap v2)⟩)],[1,2,10]⟩ (bn (bh (du 56 57 3 15 8 (ai 0 (au (ct 10 1 aY (L:=(ap v2)) (i:=(2:Int)) (by kernel_rfl)) (au (bO 201 0 aY aY (L:=(ap v2)) (j:=(2:Int).toNat) (kc (by kernel_rfl)) aT) (ac (av 2 3 1 (ai 3 (c7 32 1 1 v2 12 0 (ac ?_)))))))))));obtain⟨b,h⟩|⟨b,h⟩:=am h
 ·exact ah 34 b (bg 2 1 (ai 3 (c7 37 1 1 v2 12 0 (ac (ag 0 (MW c (v2:=v2) h))))))
 ·exact ah 34 b (ag 2 (MW c (v2:=v2) h))
theorem Ni(c:ao K)(h:sW K n o=some r):kw M a r (.b 3::eG 1959::eK M a r 39) (W0 v2 o):=by
 unfold sW at h;refine bw (ks':=eK M a r 39) 2 ⟨[(1,.pp 1 v2 0),(2,.ptr 2 0),(24,.ref 10),(25,iI 11),(26,iI 1)],[(1,aH o),(2,aH cr)],[(10,⟨201,1,lm aY (ap v2)⟩)],[1,2,10]⟩ (bn (bh (du 56 57 3 15 8 (ai 0 (au (ct 10 1 aY (L:=(ap v2)) (i:=(1:Int)) (by kernel_rfl)) (au (bO 201 0 aY aY (L:=(ap v2)) (j:=(1:Int).toNat) (kc (by kernel_rfl)) aT) (ac (av 2 3 1 (ai 3 (c7 32 1 1 v2 10 0 (ac ?_)))))))))));obtain⟨b,h⟩|⟨b,h⟩:=am h
 ·exact ah 34 b (bg 2 1 (ai 3 (c7 37 1 1 v2 10 0 (ac (ag 0 (UN c (v2:=v2) h))))))
 ·exact ah 34 b (ag 2 (UN c (v2:=v2) h))
theorem PI(d:ao K)(h:uB K n k=some r):aX bb 108 [.agg (aH k)] (fun v _=>v=.agg (aH r)):=by
 refine bF (cat Tryz.f108 (pn 1)) Tryz.func108 Tryz.ntmps108 fun M a=>(bd ⟨[(0,.agg (aH k))],[],[],[]⟩ ?_);unfold uB at h;refine av 6 7 3 (Pu 1 1 0 fun v2=>(ai 3 (Sa 202 3 #[(0,(.tmp 7)),(1,(.tmp 8)),(2,(.tmp 9))] 10 (e:=201) (sz:=1) (l:=lm aY [(v2,6),(v2,10),(v2,12)]) (ac (bw (ks':=[eG 58,.b 0,eG 15]) 4 ⟨[(1,.pp 1 v2 0),(2,.ptr 2 0),(3,.ref 10),(11,iI 0)],[(1,aH k),(2,aH cr)],[(10,⟨201,1,lm aY [(v2,6),(v2,10),(v2,12)]⟩)],[1,2,10]⟩ (nf 40 (c:=cat Tryz.f108 [1,1,0,1,0,0]) (by kernel_rfl) (bh (b8 (ks':=eG 3737 :: .b 1::eG 935::zx M a r 39) 9 (bK [1,2,3,4,11] [1,2] [10] (bQ 2 (nu 14 [.ref 10,iI 0,.adr v2 14,.adr v2 14,iI 0,.adr v2 22,.adr v2 22,.sl (lm aY [(v2,14),(v2,22)])]) [] [] [gA 22 10 ⟨201,1,lm aY [(v2,6),(v2,10),(v2,12),(v2,14),(v2,22)]⟩,cf bb 40 Tryz.f108 (pn 3737) 9] (ax [.v 0 1,.v 0 2,.v 0 2,.v 0 2,.v 0 2,.v 0 2,.v 0 2,.v 0 1] (aj (dr (m:=0) (cG 22 10 201 1 aY (L:=([(v2,6),(v2,10),(v2,12)]:hH)) (M:=([(v2,14),(v2,22)]:hH)) (bytes:=8) (rfl) aT (by kernel_rfl))) (aj (ce 1) bN))) (bw (ks':=zx M a r 39) 2 ⟨[(1,.pp 1 v2 0),(2,.ptr 2 0),(3,.ref 10),(11,iI 1)],[(1,aH k),(2,aH cr)],[(10,⟨201,1,lm aY [(v2,6),(v2,10),(v2,12),(v2,14),(v2,22)]⟩)],[1,2,10]⟩ (bn (bh (gn 57 1 15 9 (bK [1,2,3,4,11] [1,2] [10] (bQ 2 (nu 14 [.ref 10,iI 1,.adr v2 14,.adr v2 16,iI 1,.adr v2 22,.adr v2 24,.sl (lm aY [(v2,16),(v2,24)])]) [] [] [gA 22 10 ⟨201,1,lm aY [(v2,6),(v2,10),(v2,12),(v2,14),(v2,22),(v2,16),(v2,24)]⟩,cf bb 40 Tryz.f108 (pn 3737) 9] (ax [.v 0 1,.v 0 2,.v 0 2,.v 0 2,.v 0 2,.v 0 2,.v 0 2,.v 0 1] (aj (dr (m:=0) (cG 22 10 201 1 aY (L:=([(v2,6),(v2,10),(v2,12),(v2,14),(v2,22)]:hH)) (M:=([(v2,16),(v2,24)]:hH)) (bytes:=8) (rfl) aT (by kernel_rfl))) (aj (ce 1) bN))) (bw (ks':=zx M a r 38) 2 ⟨[(1,.pp 1 v2 0),(2,.ptr 2 0),(3,.ref 10),(11,iI 2)],[(1,aH k),(2,aH cr)],[(10,⟨201,1,lm aY [(v2,6),(v2,10),(v2,12),(v2,14),(v2,22),(v2,16),(v2,24)]⟩)],[1,2,10]⟩ (bn (bh (gn 57 1 15 9 (bK [1,2,3,4,11] [1,2] [10] (bQ 2 (nu 14 [.ref 10,iI 2,.adr v2 14,.adr v2 18,iI 2,.adr v2 22,.adr v2 26,.sl (lm aY [(v2,18),(v2,26)])]) [] [] [gA 22 10 ⟨201,1,lm aY [(v2,6),(v2,10),(v2,12),(v2,14),(v2,22),(v2,16),(v2,24),(v2,18),(v2,26)]⟩,cf bb 40 Tryz.f108 (pn 3737) 9] (ax [.v 0 1,.v 0 2,.v 0 2,.v 0 2,.v 0 2,.v 0 2,.v 0 2,.v 0 1] (aj (dr (m:=0) (cG 22 10 201 1 aY (L:=([(v2,6),(v2,10),(v2,12),(v2,14),(v2,22),(v2,16),(v2,24)]:hH)) (M:=([(v2,18),(v2,26)]:hH)) (bytes:=8) (rfl) aT (by kernel_rfl))) (aj (ce 1) bN))) (bw (ks':=zx M a r 37) 2 ⟨[(1,.pp 1 v2 0),(2,.ptr 2 0),(3,.ref 10),(11,iI 3)],[(1,aH k),(2,aH cr)],[(10,⟨201,1,lm aY [(v2,6),(v2,10),(v2,12),(v2,14),(v2,22),(v2,16),(v2,24),(v2,18),(v2,26)]⟩)],[1,2,10]⟩ ?_)))))))))))))))))))))))
 refine bn (bh (gn 57 1 15 9 (bK [1,2,3,4,11] [1,2] [10] (bQ 2 (nu 14 [.ref 10,iI 3,.adr v2 14,.adr v2 20,iI 3,.adr v2 22,.adr v2 28,.sl (lm aY [(v2,20),(v2,28)])]) [] [] [gA 22 10 ⟨201,1,lm aY (ap v2)⟩,cf bb 40 Tryz.f108 (pn 3737) 9] (ax [.v 0 1,.v 0 2,.v 0 2,.v 0 2,.v 0 2,.v 0 2,.v 0 2,.v 0 1] (aj (dr (m:=0) (cG 22 10 201 1 aY (L:=([(v2,6),(v2,10),(v2,12),(v2,14),(v2,22),(v2,16),(v2,24),(v2,18),(v2,26)]:hH)) (M:=([(v2,20),(v2,28)]:hH)) (bytes:=8) (rfl) aT (by kernel_rfl))) (aj (ce 1) bN))) (bw (ks':=zx M a r 36) 2 ⟨[(1,.pp 1 v2 0),(2,.ptr 2 0),(3,.ref 10),(11,iI 4)],[(1,aH k),(2,aH cr)],[(10,⟨201,1,lm aY (ap v2)⟩)],[1,2,10]⟩ (bn (bh (Qo 4 5 3 10 (ai 1 (au (bA aY (ap v2)) (ac (bw (ks':=[eG 122,.b 2,eG 31]) 1 ⟨[(1,.pp 1 v2 0),(2,.ptr 2 0),(24,.ref 10),(25,iI 11),(26,iI 0)],[(1,aH k),(2,aH cr)],[(10,⟨201,1,lm aY (ap v2)⟩)],[1,2,10]⟩ (nf 40 (c:=cat Tryz.f108 [1,1,1,0,1,0,0]) (by kernel_rfl) (bh (b8 (ks':=eG 7832::eG 7833 :: .b 3::eG 1959::eK M a r 39) 8 (ai 0 (au (ct 10 1 aY (L:=(ap v2)) (i:=(0:Int)) (by kernel_rfl)) (au (bO 201 0 aY aY (L:=(ap v2)) (j:=(0:Int).toNat) (kc (by kernel_rfl)) aT) (ac (av 2 3 1 (ai 3 (c7 32 1 1 v2 6 0 (ac ?_)))))))))))))))))))))))
 obtain⟨b,h⟩|⟨b,h⟩:=am h
 ·exact ah 34 b (bg 2 1 (ai 3 (c7 37 1 1 v2 6 0 (ac (ag 0 (Ni d (v2:=v2) h))))))
 ·exact ah 34 b (ag 2 (Ni d (v2:=v2) h))
end
noncomputable section
variable[GS](M:Nat→Prop)(d:aA)(r:Int×Int)(g:ab)(v2:bu)(v6:d4×Bool)(a b c:Int)(e:Nat)(f:Int→Int→Int→Option em)
abbrev FA:Cx:=⟨bb,71,M,d⟩
abbrev Gm:=bodyPost bb Tryz.f107 (bJ M d (fun v _=>v=.tup [iI r.1,iI r.2]))
abbrev acn(a:dt)(s:AS):=VE (FA M d) (Gm M d r) a .normal s
abbrev TJ(n:Nat):aq:=.c (cat Tryz.f107 (pn n))
abbrev Gc:dt:=[.b 0,TJ 63]
abbrev YF:dt:=kl (FA M d) (Gm M d r) Gc (cat Tryz.f107 (pn 500)) e::Gc
def TI:AS:=⟨[(3,.ptr 3 0),(4,iI a),(5,iI b),(47,.sl (lm aM v6.1)),(48,iI (v6.1.length:Int)),(49,iI c)],[(3,bI v2)],[],[3]⟩
abbrev TO:Prop:=∀{a:Int} {b:Int} {c:Int},f a b c=some r→LP (FA M d) (Gm M d r) Gc (cat Tryz.f107 (pn 500)) e (TI v2 v6 a b c)
variable{M d r g v2 v6 a b c e f}{K:Kn}{n:Nat}
theorem YK(m:ao K)(o:TO M d r v2 v6 e f)(h:xa K n v2 v6 f a b c=some r):acn M d r (TJ 500::YF M d r e) (TI v2 v6 a b c):=by
 unfold xa at h;refine av 6 7 3 ?_;obtain⟨g,h⟩|⟨g,h⟩:=am h
 ·refine ah 50 g (cN 8 9 1 3 5 (ai 0 ?_));obtain⟨i,h⟩:=aF h;refine au (bE aM aB i (fV) (d7)) (ac (av 2 3 1 (ai 3 ?_)));obtain⟨p,j,h⟩:=bind_some h;exact ld (m.gm j) (ac (ag 3 (bn (o h))))
 ·refine ah 50 g (gH 2 3 6 (ai 1 ?_));obtain⟨q,k,h⟩:=bind_some h;refine aK (jP m k) (aQ 3 1 ?_);obtain⟨s,l,h⟩:=bind_some h;refine aK (jP m l) (ac (aL 1 ?_));cases h;exact gx
theorem ajR(e:ao K)(m:Nat):TO M d r v2 v6 m (uy K n v2 v6 m):=by
 induction m with
 | zero=>intro a b c h;cases h
 | succ m f=>intro a b c h;have h:xa K n v2 v6 (uy K n v2 v6 m) a b c=some r:=h;exact bh (YK e f h)
theorem KZ(a:ao K)(h:lP K n g v2=some r):aX bb 107 [.agg (aB g),.agg (bI v2)] (fun v _=>v=.tup [iI r.1,iI r.2]):=by
 refine bF (cat Tryz.f107 (pn 1)) Tryz.func107 Tryz.ntmps107 fun M d=>(bd ⟨[(0,.agg (aB g)),(1,.agg (bI v2))],[],[],[]⟩ ?_);unfold lP at h;refine cc 12 13 7 4 (ai 2 ?_);obtain⟨o,e,h⟩:=bind_some h;refine aK (PI a e) (aQ 4 1 ?_);obtain⟨v4,f,h⟩:=bind_some h;refine aK (eu a f) (ac (bg 3 2 ?_));obtain⟨b,h⟩|⟨b,h⟩:=am h
 ·refine ah 22 b (av 4 5 2 (ai 1 ?_));obtain⟨v5,i,h⟩:=bind_some h;refine aK (jP a i) (ac (aL 4 ?_));cases h;exact gx
 ·refine ah 22 b (fq 2 3 3 (ai 1 ?_));obtain⟨v6,j,h⟩:=bind_some h;refine aK (Lx a j) (ac (av 5 3 3 ?_));obtain⟨c,h⟩|⟨c,h⟩:=am h
  ·refine ah 33 c (av 4 5 2 (ai 5 ?_));obtain⟨q,k,h⟩:=bind_some h;refine ld (a.y7 k) (ac (av 2 3 1 (ai 1 ?_)));obtain⟨s,l,h⟩:=bind_some h;refine aK (jP a l) (aQ 3 1 ?_);obtain⟨t,m,h⟩:=bind_some h;refine aK (jP a m) (ac (aL 2 ?_));cases h;exact gx
  ·exact ah 33 c (rF 4 5 3 4 (ai 1 (au (bA aM v6.1) (ac (ag 1 (cd (p:=pn 250) n (ajR a n h)))))))
end
noncomputable section
variable[GS](M:Nat→Prop)(b:aA)(r:Int×Int)(a:ab)(v2:bu)  
variable{M b r a v2}{K:Kn}{n:Nat}
theorem ah4(c:ao K)(h:yc K n a v2=some r):aX bb 51 [.agg (aB a),.agg (bI v2)] (fun v _=>v=.tup [iI r.1,iI r.2]):=by
 refine bF (cat Tryz.f51 (pn 1)) Tryz.func51 Tryz.ntmps51 fun M b=>(bd ⟨[(0,.agg (aB a)),(1,.agg (bI v2))],[],[],[]⟩ ?_);unfold yc at h;refine av 6 7 3 (ai 2 ?_);obtain⟨e,f,h⟩:=bind_some h;refine aK (KZ c f) (ac (av 2 3 1 (ai 2 ?_)));obtain⟨v4,g,h⟩:=bind_some h;refine aK (PI c g) (ac (av 2 3 1 (bK [4,5,6] [6] [] ?_)));obtain⟨v5,i,h⟩:=bind_some h;obtain⟨v6,j,h⟩:=bind_some h;obtain⟨p,k,h⟩:=bind_some h;obtain⟨q,l,h⟩:=bind_some h;obtain⟨s,m,h⟩:=bind_some h;obtain⟨d,o,h⟩:=bind_some h;refine bQ 2 (nu 16 [.agg (aH v4),.agg (aH v4),iI e.1,iI v5,.agg (bV v6),iI p,.agg (aH v4),.agg (aH v4),iI e.2,iI q,.agg (bV s),iI d]) [] [] [cf bb 28 Tryz.f51 (pn 30) 12,cf bb 28 Tryz.f51 (pn 30) 13] (ax (vz 3) (aj (cq 0 1 19 (y8 c i)) (aj (cq 0 1 20 (m6 c j)) (aj (cq 0 1 21 (o5 c k)) (ax [.v 0 2,.v 0 2,.v 0 2] (aj (cq 0 2 25 (y8 c l)) (aj (cq 0 2 26 (m6 c m)) (aj (cq 0 1 27 (o5 c o)) (aj (ce 0) (aj (ce 1) bN)))))))))) (aL 1 ?_)
 cases h;exact gx
end
noncomputable section
variable[GS](M:Nat→Prop)(b:aA)(r:Int×Int)(a:ab)(v2:bu)  
abbrev TZ(n:Nat):aq:=.c (cat Tryz.f48 (pn n))
variable{M b r a v2}{K:Kn}{n:Nat}
theorem afx(e:ao K)(h:py K n a v2=some r):aX bb 48 [.agg (aB a),.cptr (bI v2)] (fun v _=>v=.tup [iI r.1,iI r.2]):=by
 refine bF (cat Tryz.f48 (pn 1)) Tryz.func48 Tryz.ntmps48 fun M b=>(bd ⟨[(0,.agg (aB a)),(1,.cptr (bI v2))],[],[],[]⟩ ?_);unfold py at h;refine gn 53 0 7 8 ?_;obtain⟨c,h⟩|⟨c,h⟩:=am h
 ·refine ah 7 c (av 4 5 2 (ai 2 ?_));obtain⟨i,f,h⟩:=bind_some h;refine aK (X5 e f) (ac (aL 3 ?_));cases h;exact gx
 ·refine ah 7 c (bg 7 3 ?_);obtain⟨d,h⟩|⟨d,h⟩:=am h
  ·refine ah 14 d ?_;cases h
  ·refine ah 14 d (b8 (ks':=[TZ 14,TZ 15]) 4 (ai 2 ?_));obtain⟨v4,g,h⟩:=bind_some h;refine aK (ah4 e g) (ac (aL 1 ?_));cases h;exact gx
end
noncomputable section
variable[GS](M:Nat→Prop)(b:aA)(r:d6)(a:aJ)(v2:d6)(d v4 v5 v6:Bool)(e:aJ)  
abbrev jJ(n:Nat):aq:=.c (cat Tryz.f176 (pn n))
abbrev aid:Cx:=⟨bb,72,M,b⟩
abbrev adl:=bodyPost bb Tryz.f176 (bJ M b (fun v s=>v=.ref 9∧cy s.o []∧look 9 s.r=some (b7 r)))
abbrev Ba(a:dt)(s:AS):=VE (aid M b) (adl M b r) a .normal s
def Yo:AS:=⟨[(0,.ref 9),(3,.ptr 3 0)],[(3,aw e)],[(9,(b7 v2))],[3,9]⟩
def ail:AS:=⟨[(0,.ref 9),(3,.ptr 3 0),(64,.bool v6)],[(3,aw a)],[(9,(b7 v2))],[3,9]⟩
def ajC:AS:=⟨[(0,.ref 9),(3,.ptr 3 0),(5,.bool (a.Box.Style.WhiteSpace == 2)),(32,.bool v5)],[(3,aw a)],[(9,(b7 v2))],[3,9]⟩
def ajc:AS:=⟨[(0,.ref 9),(3,.ptr 3 0),(5,.bool (a.Box.Style.WhiteSpace == 2)),(24,.bool v4)],[(3,aw a)],[(9,(b7 v2))],[3,9]⟩
def XJ:AS:=⟨[(0,.ref 9),(3,.ptr 3 0),(5,.bool (a.Box.Style.WhiteSpace == 2)),(19,.bool d)],[(3,aw a)],[(9,(b7 v2))],[3,9]⟩
variable{M b r a v2 d v4 v5 v6 e}{K:Kn}{n:Nat}
theorem Ho(c:ao K)(h:qO K n v2 e=some r):Ba M b r [.b 1,jJ 31] (Yo v2 e):=by
 unfold qO at h;refine fq 6 7 4 (ai 3 ?_);obtain⟨a,h⟩:=aF h;refine au (cG 71 9 210 5 aw (rfl) (cU) a) (ac (aL 1 ?_));cases h;exact fa
theorem GK(d:ao K)(h:mS K n a v2 v6=some r):Ba M b r [jJ 15609,jJ 7805,.b 1,jJ 31] (ail a v2 v6):=by
 unfold mS at h;obtain⟨c,h⟩|⟨c,h⟩:=am h
 ·refine ah 64 c (aL 7 ?_);cases h;exact fa
 ·exact ah 64 c (ag 3 (Ho d h))
theorem LU(i:ao K)(h:tZ K n a v2 v5=some r):Ba M b r [jJ 487,.b 1,jJ 31] (ajC a v2 v5):=by
 unfold tZ at h;obtain⟨j,h⟩|⟨j,h⟩:=am h
 ·refine ah 32 j (aL 6 ?_);cases h;exact fa
 ·refine ah 32 j (bg 7 3 ?_);obtain⟨c,h⟩|⟨c,h⟩:=am h
  ·refine ah 40 c (cc 8 9 5 3 (ai 1 (au (bA aw v2) (aQ 4 2 ?_))));obtain⟨d,h⟩|⟨d,h⟩:=am h
   ·exact aD 46 d (ac (ag 0 (GK i h)))
   ·refine aD 46 d (aQ 6 2 (au (bA aw v2) (aQ 8 1 ?_)));obtain⟨f,h⟩:=aF h;refine au (ct 9 5 aw f) (aQ 10 1 (au (bO 4 3 aw aw (bH f).2 aT) (aQ 13 2 ?_)));obtain⟨e,h⟩|⟨e,h⟩:=am h
    ·exact aD 55 e (ac (ag 0 (GK i h)))
    ·refine aD 55 e (aQ 15 2 (au (bA aw v2) (aQ 17 1 ?_)));obtain⟨g,h⟩:=aF h;exact au (ct 9 5 aw g) (aQ 19 1 (au (bO 3 0 aw aw (bH g).2 aT) (ac (ag 0 (GK i h)))))
  ·exact ah 40 c (ag 2 (Ho i h))
theorem Mj(e:ao K)(h:sY K n a v2 v4=some r):Ba M b r [jJ 121,.b 1,jJ 31] (ajc a v2 v4):=by
 unfold sY at h;obtain⟨c,h⟩|⟨c,h⟩:=am h
 ·exact ah 24 c (ag 2 (Ho e h))
 ·refine ah 24 c (av 6 7 2 (ai 2 ?_));obtain⟨d,h⟩|⟨d,h⟩:=am h
  ·exact aD 34 d (ac (ag 0 (LU e h)))
  ·exact aD 34 d (ac (ag 0 (LU e h)))
theorem BT(f:ao K)(h:lZ K n a v2 d=some r):Ba M b r [jJ 117,.b 0,jJ 15] (XJ a v2 d):=by
 unfold lZ at h;obtain⟨c,h⟩|⟨c,h⟩:=am h
 ·refine ah 19 c (b8 (ks':=[jJ 120,jJ 121,.b 1,jJ 31]) 6 (ai 2 ?_));obtain⟨e,h⟩|⟨e,h⟩:=am h
  ·exact aD 26 e (ac (ag 0 (Mj f h)))
  ·exact aD 26 e (ac (ag 0 (Mj f h)))
 ·refine ah 19 c (av 6 7 2 (ai 3 ?_));obtain⟨g,h⟩:=aF h;refine au (cG 18 9 210 5 aw (rfl) (cU) g) (ac (aL 3 ?_));cases h;exact fa
theorem aiZ(d:ao K)(h:A5 K n a v2=some r):jw bb 176 [.ref 9,.agg (aw a)] [] 9 (b7 v2) [9] (fun v s=>v=.ref 9∧cy s.o []∧look 9 s.r=some (b7 r)):=by
 refine m9 (c:=cat Tryz.f176 (pn 1)) Tryz.func176 (by kernel_rfl) _ Tryz.ntmps176 (kc (by kernel_rfl)) fun M b=>(bd ⟨[(0,.ref 9),(1,.agg (aw a))],[],[(9,(b7 v2))],[9]⟩ ?_);unfold A5 at h;refine du 233 117 0 15 11 ?_;obtain⟨e,h⟩|⟨e,h⟩:=am h
 ·exact ah 19 e (ag 2 (BT d h))
 ·refine ah 19 e (bg 7 3 ?_);obtain⟨f,h⟩|⟨f,h⟩:=am h
  ·exact ah 19 f (ag 2 (BT d h))
  ·refine ah 19 f (bg 7 3 ?_);obtain⟨g,h⟩|⟨g,h⟩:=am h
   ·exact ah 19 g (ag 2 (BT d h))
   ·exact ah 19 g (ag 2 (BT d h))
end
end Go.Proofs.YtocgkfoifehcbaaGreat

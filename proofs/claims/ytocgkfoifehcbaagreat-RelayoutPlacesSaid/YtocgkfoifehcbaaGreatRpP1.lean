/- The runs of the functions that RelayoutPlaces reaches do what their plain forms say, part 1. Made by a program. -/
import Derived.Test.YtocgkfoifehcbaaGreatRpP0
namespace Go.Proofs.YtocgkfoifehcbaaGreat
noncomputable section
open Go.RowKit
set_option maxRecDepth 20000
set_option linter.all false
section
variable[GS](M:Nat→Prop)(l:az)(r:b7×Int×Int×Int×c6)(O:ag)(o:Int)(q:bN)(v4 v5:Int)(v6:c6)(j:dn)(g:Int)(f:d7)(d C:b5)(D G H J N g0:Int)(h0:Bool)(f0:Int)(a:b5)(i b:Int)(t:b7)(u w:Int)(x:c6)(A P:Int)(Q:b5)(a0 b0:Int)(y:b5)(B E z:Int)(F:b7)(c0 d0:Int)(e0:c6)(m1 I m3 m4:Nat)(L1:Int→d7→b5→b5→Option es)(L2:Int→Int→b7→Int→Int→c6→Option es)(L3:Int→b5→Int→Int→Option es)(L4:Int→Int→Int→b7→Int→Int→c6→Option es)
abbrev na:Cx:=⟨aT,228,M,l⟩
abbrev nr:=bodyPost aT Tryz.f81 (bP M l (fun v s=>v=.tup [.ref 440010,iI r.2.1]∧cB s.o [(ac r.2.2.1 r.2.2.2.1)]∧look 440009 s.r=some (be r.2.2.2.2)∧look 440010 s.r=some (bf r.1)))
abbrev oG(a:ck)(s:AS):=VE (na M l) (nr M l r) a .normal s
abbrev dz(n:Nat):aq:=.c (cat Tryz.f81 (pn n))
abbrev Hd:ck:=[.b 2,dz 4095]
abbrev zA:ck:=kl (na M l) (nr M l r) Hd (cat Tryz.f81 (pn 32756)) I::Hd
abbrev F6:ck:=[.b 0,dz 127]
abbrev xR:ck:=kl (na M l) (nr M l r) F6 (cat Tryz.f81 (pn 1012)) m1::F6
abbrev FH:ck:=.b 6::dz 67085951 :: .b 3::dz 262055::zA M l r I
abbrev IL:ck:=kl (na M l) (nr M l r) (FH M l r I) (cat Tryz.f81 (pn 536687604)) m4::(FH M l r I)
abbrev Kc:ck:=.b 4::dz 16771487 :: .b 3::dz 262055::zA M l r I
abbrev aaS:ck:=kl (na M l) (nr M l r) (Kc M l r I) (cat Tryz.f81 (pn 134171892)) m3::(Kc M l r I)
def ahD:AS:=⟨[(1,iI o),(3,.ptr 3 0),(5,.ptr 5 0),(8,.ref 1035),(9,.ref 38),(10,.ref 41),(11,.ref 44),(12,iI g),(15,.ptr 15 0),(16,iI f0),(45,.ref 1035),(46,iI (j.length:Int)),(47,iI g)],[(3,aD O),(5,ce q),(15,co (⟨0,J,N,G,H⟩:bG)),(ac v4 v5)],[(38,⟨176,5,lm co f⟩),(41,⟨3,1,lm (ak .i64) (List.set d g.toNat D)⟩),(44,(bc C)),(1035,(bk j)),(440009,(be v6))],[3,5,15,440001,38,41,44,1035,440009,1440001,440001]⟩
def aai:AS:=⟨[(1,iI o),(3,.ptr 3 0),(5,.ptr 5 0),(8,.ref 1035),(9,.ref 38),(10,.ref 41),(11,.ref 44),(12,iI g),(13,.ptr 13 0),(14,.ptr 14 0),(15,.ptr 15 0),(16,iI g0),(17,.bool h0),(45,.ref 1035),(46,iI (j.length:Int)),(47,iI g)],[(3,aD O),(5,ce q),(13,aD (gD j g)),(14,aG ((gD j g).Style)),(15,co (⟨0,J,N,G,H⟩:bG)),(ac v4 v5)],[(38,⟨176,5,lm co f⟩),(41,⟨3,1,lm (ak .i64) (List.set d g.toNat D)⟩),(44,(bc C)),(1035,(bk j)),(440009,(be v6))],[3,5,13,14,15,440001,38,41,44,1035,440009,1440001,440001]⟩
def My:AS:=⟨[(1,iI o),(5,.ptr 5 0),(8,.ref 1035),(9,.sl (lm co f)),(10,.sl (lm (ak .i64) d)),(20,.sl (lm (ak .i64) a)),(21,.ref 220),(22,iI i),(24,iI (gD a b)),(29,iI B),(30,iI E),(128,.sl (lm (ak .i64) a)),(129,iI (a.length:Int)),(130,iI b),(166,.ref 1166),(167,iI (y.length:Int)),(168,iI z)],[(5,ce q),(ac c0 d0)],[(220,(bf F)),(1035,(bk j)),(1166,(bc y)),(440009,(be e0))],[5,440001,220,1035,1166,440009,1440001,440001]⟩
def OD:AS:=⟨[(1,iI o),(5,.ptr 5 0),(8,.ref 1035),(9,.sl (lm co f)),(10,.sl (lm (ak .i64) d)),(20,.sl (lm (ak .i64) a)),(21,.ref 220),(22,iI i),(24,iI (gD a b)),(25,iI A),(26,iI P),(128,.sl (lm (ak .i64) a)),(129,iI (a.length:Int)),(130,iI b),(151,.sl (lm (ak .i64) Q)),(152,iI a0),(153,iI b0)],[(5,ce q),(ac u w)],[(220,(bf t)),(1035,(bk j)),(440009,(be x))],[5,440001,220,1035,440009,1440001,440001]⟩
def ad9:AS:=⟨[(1,iI o),(5,.ptr 5 0),(8,.ref 1035),(9,.sl (lm co f)),(10,.sl (lm (ak .i64) d)),(20,.sl (lm (ak .i64) a)),(21,.ref 220),(22,iI i),(24,iI (gD a b)),(25,iI A),(128,.sl (lm (ak .i64) a)),(129,iI (a.length:Int)),(130,iI b)],[(5,ce q),(ac u w)],[(220,(bf t)),(1035,(bk j)),(440009,(be x))],[5,440001,220,1035,440009,1440001,440001]⟩
def Rb:AS:=⟨[(1,iI o),(5,.ptr 5 0),(8,.ref 1035),(9,.sl (lm co f)),(10,.sl (lm (ak .i64) d)),(20,.sl (lm (ak .i64) a)),(21,.ref 220),(22,iI i),(128,.sl (lm (ak .i64) a)),(129,iI (a.length:Int)),(130,iI b)],[(5,ce q),(ac u w)],[(220,(bf t)),(1035,(bk j)),(440009,(be x))],[5,440001,220,1035,440009,1440001,440001]⟩
def aeQ:AS:=⟨[(1,iI o),(5,.ptr 5 0),(8,.ref 1035),(9,.ref 38),(10,.ref 41),(20,.sl (lm (ak .i64) a))],[(5,ce q),(ac v4 v5)],[(38,⟨176,5,lm co f⟩),(41,(bc d)),(1035,(bk j)),(440009,(be v6))],[5,440001,38,41,1035,440009,1440001,440001]⟩
def MX:AS:=⟨[(1,iI o),(3,.ptr 3 0),(5,.ptr 5 0),(8,.ref 1035),(9,.ref 38),(10,.ref 41),(11,.ref 44),(45,.ref 1035),(46,iI (j.length:Int)),(47,iI g)],[(3,aD O),(5,ce q),(ac v4 v5)],[(38,⟨176,5,lm co f⟩),(41,(bc d)),(44,(bc C)),(1035,(bk j)),(440009,(be v6))],[3,5,440001,38,41,44,1035,440009,1440001,440001]⟩
abbrev Ex:Prop:=∀{g:Int} {f:d7} {d:b5} {C:b5},L1 g f d C=some r→LP (na M l) (nr M l r) F6 (cat Tryz.f81 (pn 1012)) m1 (MX O o q v4 v5 v6 j g f d C)
abbrev rC:Prop:=∀{i:Int} {b:Int} {t:b7} {u:Int} {w:Int} {x:c6},L2 i b t u w x=some r→LP (na M l) (nr M l r) Hd (cat Tryz.f81 (pn 32756)) I (Rb o q j f d a i b t u w x)
abbrev N9:Prop:=∀{P:Int} {Q:b5} {a0:Int} {b0:Int},L3 P Q a0 b0=some r→LP (na M l) (nr M l r) (Kc M l r I) (cat Tryz.f81 (pn 134171892)) m3 (OD o q j f d a i b t u w x A P Q a0 b0)
abbrev Uy:Prop:=∀{B:Int} {E:Int} {z:Int} {F:b7} {c0:Int} {d0:Int} {e0:c6},L4 B E z F c0 d0 e0=some r→LP (na M l) (nr M l r) (FH M l r I) (cat Tryz.f81 (pn 536687604)) m4 (My o q j f d a i b y B E z F c0 d0 e0)
variable{M l r O o q v4 v5 v6 j g f d C D G H J N g0 h0 f0 a i b t u w x A P Q a0 b0 y B E z F c0 d0 e0 m1 I m3 m4 L1 L2 L3 L4}{K:Kn}{n:Nat}[SG l][PF q.Layout]
def WY(t:am K)(p:Ex M l r O o q v4 v5 v6 j m1 L1)(h:vF K n O o q v4 v5 v6 j g f d C D G H J N L1 f0=some r):oG M l r (dz 2074239 :: .b 1::dz 8103::xR M l r m1) (ahD O o q v4 v5 v6 j g f d C D G H J N f0):=by
 unfold vF at h;refine av 6 7 3 (aj 3 ?_);obtain⟨b,h⟩:=aB h;refine au (cr 38 5 co b) (au (dI 38 176 5 0 co co (⟨f0,J,N,G,H⟩:bG) (bB b).2 ap) (ae ?_));obtain⟨s,i,h⟩:=cc h;refine bC (ks':=dz 8296959 :: .b 1::dz 8103::xR M l r m1) 0 ⟨[(1,iI o),(3,.ptr 3 0),(5,.ptr 5 0),(8,.ref 1035),(9,.ref 38),(10,.ref 41),(11,.ref 44),(12,iI g),(15,.ptr 15 0),(45,.ref 1035),(46,iI (j.length:Int)),(47,iI g)],[(3,aD O),(5,ce q),(15,co (⟨f0,J,N,G,H⟩:bG)),(ac v4 v5)],[(38,⟨176,5,lm co s⟩),(41,⟨3,1,lm (ak .i64) (List.set d g.toNat D)⟩),(44,(bc C)),(1035,(bk j)),(440009,(be v6))],[3,5,15,440001,38,41,44,1035,440009,1440001,440001]⟩ ?_ (by subst i;kernel_rfl);obtain⟨a,k,h⟩:=aw h;obtain⟨c,h⟩:=aB h;obtain⟨e,h⟩:=aB h;exact ci 1 (nu 110 [.ref 44,iI g,.agg (co (⟨f0,J,N,G,H⟩:bG)),iI a,.ref 41,iI g,.eptr 41 1 (g.toNat) 0,iI (gD (List.set d g.toNat D) g),iI (aa (a+(gD (List.set d g.toNat D) g))),.eptr 44 1 (g.toNat) 0]) [] [] [eD 44 ⟨3,1,lm (ak .i64) (List.set C g.toNat (aa (a+(gD (List.set d g.toNat D) g))))⟩] (aE (vz 3) (ax (cR 0 1 113 (Kg t k)) (aE (vz 2) (bE (cD 41 1 (ak .i64) (L:=(List.set d g.toNat D)) c) (bE (bJ 3 0 (ak .i64) (ak .i64) (bB c).2 ap) (aE [.v 0 1] (bE (cD 44 1 (ak .i64) (L:=C) e) (ax (dq (m:=0) (dI 44 3 1 0 (ak .i64) (ak .i64) (aa (a+(gD (List.set d g.toNat D) g))) (bB e).2 ap)) cg)))))))) (ah 2 (bu (p h)))
def WH(b:am K)(c:Ex M l r O o q v4 v5 v6 j m1 L1)(h:zV K n O o q v4 v5 v6 j g f d C D G H J N L1 g0 h0=some r):oG M l r (dz 1037119 :: .b 1::dz 8103::xR M l r m1) (aai O o q v4 v5 v6 j g f d C D G H J N g0 h0):=by
 unfold zV at h;refine av 5 3 3 ?_;obtain⟨a,h⟩|⟨a,h⟩:=ao h
 ·refine ai 91 a (av 4 5 2 (aj 3 ?_));obtain⟨m,e,h⟩:=aw h;refine oB (b.jD e) (ae (aj 2 ?_));obtain⟨p,i,h⟩:=aw h;refine aR (qm b i) ?_;obtain⟨s,k,h⟩:=aw h;exact aR (qV b k) (ae (ah 0 (WY b c h)))
 ·exact ai 91 a (ah 2 (WY b c h))
def ahO(w:am K)(Q:rC M l r o q j f d a I L2)(R:Uy M l r o q j f d a i b y I m4 L4)(h:Fd K n o q j f d a i b y L2 L4 B E z F c0 d0 e0=some r):oG M l r (dz 536687604::IL M l r I m4) (My o q j f d a i b y B E z F c0 d0 e0):=by
 unfold Fd at h;refine av 6 7 3 ?_;obtain⟨m,h⟩|⟨m,h⟩:=ao h
 ·refine ai 169 m (cX 8 9 7 3 5 (aj 1 ?_));obtain⟨t,h⟩:=aB h;refine au (cr 1166 1 (ak .i64) t) (au (bJ 3 0 (ak .i64) (ak .i64) (bB t).2 ap) (ae (av 2 3 1 (bV [1,5,8,9,10,20,21,22,24,29,30,31,32,128,129,130,166,167,168,169] [5,440001] [220,1035,1166,440009] (Gz 169 ?_)))));obtain⟨e,h⟩:=aB h;obtain⟨O,x,h⟩:=aw h;obtain⟨c,u,h⟩:=aw h;refine ci 2 (nu 173 [.ptr 5 0,.fn q.Layout.id q.Layout.aV,.ref 1035,iI (gD a b),iI z,iI (aa ((gD a b)+z)),.eptr 1035 59 (((aa ((gD a b)+z))).toNat) 0,.agg (aD (gD j ((aa ((gD a b)+z))))),iI (gD y z),.agg (aD O),iI o]++nu 33 [.ptr 33 0]) [(33,List.set (aC bU) 66 (.nils))] [] [CV (some 184) (be c.2.2.2) [(ac c.2.1 c.2.2.1)] (.agg (aC c.1)),cF aT 228 Tryz.f81 (pn 34348006706) 13] (aE [.v 0 2,.v 0 1,.v 0 2,.v 0 2,.v 0 2,.v 0 2] (ax (fv (lo:=0) (k:=2) (di ⟨(by kernel_rfl),(dp (cD 1035 59 aP (L:=j) e) (by kernel_rfl))⟩ (di ⟨(by kernel_rfl),(dp (cD 1035 59 aP (L:=j) e) (by kernel_rfl))⟩ fG))) (ax (fv (lo:=0) (k:=2) (di ⟨(by kernel_rfl),(dp (bJ 48 0 aP aD (bB e).2 (eE)) (by kernel_rfl))⟩ (di ⟨(by kernel_rfl),(dp (bJ 48 0 aP aD (bB e).2 (eE)) (by kernel_rfl))⟩ fG))) (aE [.v 0 2] (ax (cR 0 1 182 (ai8 w x)) (aE [.v 0 1] (ax (Ix 0 169 (w.dE u).2 (w.dE u).1) (ax (tW 0 2 44 33 (List.set (aC bU) 66 (.nils))) (ax (cE 1) cg))))))))) (av 2 3 1 (bV [1,5,8,9,10,20,21,22,24,29,30,31,32,33,128,129,130,166,167,168] [5,33,440001] [220,1035,1166,440009] ?_))
  obtain⟨g,A,h⟩:=aw h;obtain⟨p,C,h⟩:=aw h;refine ci 1 (nu 185 [iI E,.ptr 33 61,.agg (c8 c.1.Before),iI g,.ptr 33 5,iI c.1.H,iI (aa (g+c.1.H)),.agg (aC c.1),iI p,iI (aa ((aa (g+c.1.H))+p)),iI (max E (aa ((aa (g+c.1.H))+p)))]) [] [] [cF aT 228 Tryz.f81 (pn 68696013414) 11] (aE (vz 3) (ax (cR 0 1 188 (n8 w A)) (aE (vz 4) (ax (cR 0 1 193 (Ou w C)) (aE (vz 2) (ax (cE 0) cg)))))) ?_;obtain⟨v,D,h⟩:=cc h;refine bC (ks':=dz 274784053662::dz 274784053663 :: .b 7::dz 4293500839::IL M l r I m4) 3 ⟨[(1,iI o),(5,.ptr 5 0),(8,.ref 1035),(9,.sl (lm co f)),(10,.sl (lm (ak .i64) d)),(20,.sl (lm (ak .i64) a)),(21,.ref 220),(22,iI i),(24,iI (gD a b)),(29,iI B),(30,iI v),(31,iI z),(32,iI (gD y z)),(33,.ptr 33 0),(128,.sl (lm (ak .i64) a)),(129,iI (a.length:Int)),(130,iI b),(166,.ref 1166),(167,iI (y.length:Int)),(168,iI z)],[(5,ce q),(33,aC ({ c.1 with X:=(aa (c.1.X+B)) }:ab)),(ac c.2.1 c.2.2.1)],[(220,(bf F)),(1035,(bk j)),(1166,(bc y)),(440009,(be c.2.2.2))],[5,33,440001,220,1035,1166,440009,1440001,440001]⟩ ?_ (by subst D;kernel_rfl)
  refine aj 3 ?_;obtain⟨s,G,h⟩:=aw h;refine aR (n8 w G) (ae (av 2 3 1 (aj 6 ?_)));obtain⟨H,h⟩:=aB h;refine au (bX (ak .i64) (ak .i64) H ap ap) (ae ?_);obtain⟨P,J,h⟩:=cc h;refine bC (ks':=dz 549568107327 :: .b 7::dz 4293500839::IL M l r I m4) 0 ⟨[(1,iI o),(5,.ptr 5 0),(8,.ref 1035),(9,.sl (lm co f)),(10,.sl (lm (ak .i64) d)),(20,.sl (lm (ak .i64) a)),(21,.ref 220),(22,iI i),(24,iI (gD a b)),(29,iI P),(30,iI v),(33,.ptr 33 0),(128,.sl (lm (ak .i64) a)),(129,iI (a.length:Int)),(130,iI b),(166,.ref 1166),(167,iI (y.length:Int)),(168,iI z)],[(5,ce q),(33,aC ({ c.1 with X:=(aa (c.1.X+B)),Y:=(aa (i+s)) }:ab)),(ac c.2.1 c.2.2.1)],[(220,(bf F)),(1035,(bk j)),(1166,(bc y)),(440009,(be c.2.2.2))],[5,33,440001,220,1035,1166,440009,1440001,440001]⟩ ?_ (by subst J;kernel_rfl)
  refine aj 2 (au (ii aN ([({ c.1 with X:=(aa (c.1.X+B)),Y:=(aa (i+s)) }:ab)]:b7) (new:=[aC ({ c.1 with X:=(aa (c.1.X+B)),Y:=(aa (i+s)) }:ab)]) (by simp only[n5,u7,dV])) ?_);obtain⟨N,h⟩:=aB h;exact au (cG 220 220 44 67 aN (rfl) (ky) N) (ae (ah 2 (bu (R h))))
 ·exact ai 169 m (ah 8 (bu (Q h)))
def W8(e:am K)(c:rC M l r o q j f d a I L2)(m:Nat):Uy M l r o q j f d a i b y I m (tC K n o q j f d a i b y L2 m):=by
 induction m with
 | zero=>exact fun h=>nomatch h
 | succ m g=>exact fun h=>bq (ahO e c g h)
def XW(B:am K)(v:rC M l r o q j f d a I L2)(z:N9 M l r o q j f d a i b t u w x A I m3 L3)(h:Dd K n o q j f d a i b t u w x A L2 L3 P Q a0 b0=some r):oG M l r (dz 134171892::aaS M l r I m3) (OD o q j f d a i b t u w x A P Q a0 b0):=by
 unfold Dd at h;refine av 6 7 3 ?_;obtain⟨c,h⟩|⟨c,h⟩:=ao h
 ·refine ai 154 c (cX 8 9 5 3 5 (aj 0 ?_));obtain⟨g,h⟩:=aB h;exact au (bX (ak .i64) (ak .i64) g ap ap) (ae (ah 3 (bu (z h))))
 ·refine ai 154 c (yo 12 13 7 9 (aj 3 ?_));obtain⟨m,h⟩:=aB h;refine au (kS co f (gD a b) A 174 (.tmp 161) (some (.tmp 162)) (some (.tmp 163)) 164 (e:=176) (sz:=5) (by kernel_rfl) (by kernel_rfl) (by kernel_rfl) (by kernel_rfl) (by kernel_rfl) (by kernel_rfl) (HB) (fun k C=>by subst C;kernel_rfl) m) (aW 5 1 ?_);obtain⟨y,s,h⟩:=aw h;exact fc 1166 (NP B s) (fk 143) (au (bF (ak .i64) y) (ae (ah 1 (cf (p:=pn 268343802) n (W8 B v n h)))))
def YN(e:am K)(c:rC M l r o q j f d a I L2)(m:Nat):N9 M l r o q j f d a i b t u w x A I m (uS K n o q j f d a i b t u w x A L2 m):=by
 induction m with
 | zero=>exact fun h=>nomatch h
 | succ m g=>exact fun h=>bq (XW e c g h)
def Oe(m:am K)(g:rC M l r o q j f d a I L2)(h:nY K n o q j f d a i b t u w x L2 A=some r):oG M l r (dz 4192871 :: .b 3::dz 262055::zA M l r I) (ad9 o q j f d a i b t u w x A):=by
 unfold nY at h;refine cj 12 13 7 4 (aj 3 ?_);obtain⟨c,h⟩:=aB h;exact au (kS (ak .i64) d (gD a b) A 72 (.tmp 148) (some (.tmp 149)) (some (.tmp 150)) 151 (e:=3) (sz:=1) (by kernel_rfl) (by kernel_rfl) (by kernel_rfl) (by kernel_rfl) (by kernel_rfl) (by kernel_rfl) ap (fun k s=>by subst s;kernel_rfl) c) (au (bF (ak .i64) (List.drop ((gD a b)).toNat (List.take A.toNat d))) (ae (ah 1 (cf (p:=pn 67085946) n (YN m g n h)))))
def X4(v:am K)(p:rC M l r o q j f d a I L2)(h:DL K n o q j f d a L2 i b t u w x=some r):oG M l r (dz 32756::zA M l r I) (Rb o q j f d a i b t u w x):=by
 unfold DL at h;refine av 6 7 3 ?_;obtain⟨c,h⟩|⟨c,h⟩:=ao h
 ·refine ai 131 c (cX 8 9 3 3 5 (aj 1 ?_));obtain⟨g,h⟩:=aB h;refine au (bX (ak .i64) (ak .i64) g ap ap) (ae (av 2 3 1 (aj 1 (au (bF aP j) (ae (cj 4 5 3 2 (aj 3 (au (bF (ak .i64) a) (ae ?_)))))))));obtain⟨s,k,h⟩:=cc h;refine bC (ks':=dz 8385741::dz 4192871 :: .b 3::dz 262055::zA M l r I) 0 ⟨[(1,iI o),(5,.ptr 5 0),(8,.ref 1035),(9,.sl (lm co f)),(10,.sl (lm (ak .i64) d)),(20,.sl (lm (ak .i64) a)),(21,.ref 220),(22,iI i),(23,iI b),(24,iI (gD a b)),(25,iI (j.length:Int)),(128,.sl (lm (ak .i64) a)),(129,iI (a.length:Int)),(130,iI b),(141,.bool s)],[(5,ce q),(ac u w)],[(220,(bf t)),(1035,(bk j)),(440009,(be x))],[5,440001,220,1035,440009,1440001,440001]⟩ ?_ (by subst k;kernel_rfl);obtain⟨e,h⟩|⟨e,h⟩:=ao h
  ·refine ai 141 e (br 2 1 (aj 3 ?_));obtain⟨m,h⟩:=aB h;exact au (bX (ak .i64) (ak .i64) m ap ap) (ae (ah 0 (Oe v p h)))
  ·exact ai 141 e (ah 2 (Oe v p h))
 ·refine ai 131 c (aM 8 (rf 220 440010 ?_));cases h;exact QH
def agw(b:am K)(m:Nat):rC M l r o q j f d a m (ki K n o q j f d a m):=by
 induction m with
 | zero=>exact fun h=>nomatch h
 | succ m c=>exact fun h=>bq (X4 b c h)
def Pt(b:am K)(h:mg K n o q v4 v5 v6 j f d a=some r):oG M l r [dz 511] (aeQ o q v4 v5 v6 j f d a):=by
 unfold mg at h;exact cj 28 29 15 6 (aj 1 (au (bF (ak .i64) a) (ae (ic 2 2 1 (bV [1,5,8,9,10,20,21,22,128,129,130] [5,440001] [38,41,1035,440009] (jz 38 (jz 41 (fQ 220 21 44 67 (ah 0 (cf (p:=pn 16378) n (agw b n h)))))))))))
def aia(a:am K)(m:Ex M l r O o q v4 v5 v6 j m1 L1)(h:Ed K n O o q v4 v5 v6 j L1 g f d C=some r):oG M l r (dz 1012::xR M l r m1) (MX O o q v4 v5 v6 j g f d C):=by
 unfold Ed at h;refine av 6 7 3 ?_;obtain⟨b,h⟩|⟨b,h⟩:=ao h
 ·refine ai 48 b (cX 8 9 1 3 5 (aj 1 ?_));obtain⟨i,h⟩:=aB h;refine au (cr 1035 59 aP i) (au (bJ 48 0 aP aD (bB i).2 (eE)) (ae (av 6 7 3 (aj 4 ?_))));obtain⟨A,p,h⟩:=aw h;refine aR (qm a p) ?_;obtain⟨D,s,h⟩:=aw h;refine aR (qV a s) ?_;obtain⟨k,h⟩:=aB h;refine au (cr 41 1 (ak .i64) k) (au (dI 41 3 1 0 (ak .i64) (ak .i64) D (bB k).2 ap) (ae (av 2 3 1 (bV [1,3,5,8,9,10,11,12,13,14,45,46,47] [3,5,13,14,440001] [38,41,44,1035,440009] ?_))));obtain⟨G,t,h⟩:=aw h;obtain⟨H,u,h⟩:=aw h;refine ci 1 (nu 61 [.ptr 14 44,iI (((gD j g).Style).Grow),.ptr 14 45,iI (((gD j g).Style).Shrink),.ptr 14 10,.agg (gu (((gD j g).Style).MinWidth)),iI o,iI G,.ptr 14 12,.agg (gu (((gD j g).Style).MaxWidth)),iI o,iI H,.agg (co (⟨0,((gD j g).Style).Grow,((gD j g).Style).Shrink,G,H⟩:bG))]++nu 15 [.ptr 15 0]) [(15,co kB)] [] [cF aT 228 Tryz.f81 (pn 259278) 14] (aE (vz 7) (ax (cR 0 1 68 (Ad a t)) (aE (vz 3) (ax (cR 0 1 72 (Ad a u)) (aE [.v 0 1] (ax (tW 0 1 176 15 (co kB)) (ax (cE 0) cg))))))) ?_
  obtain⟨J,v,h⟩:=cc h;obtain⟨N,w,h⟩:=cc h;refine bC (ks':=dz 518558::dz 518559 :: .b 1::dz 8103::xR M l r m1) 1 ⟨[(1,iI o),(3,.ptr 3 0),(5,.ptr 5 0),(8,.ref 1035),(9,.ref 38),(10,.ref 41),(11,.ref 44),(12,iI g),(13,.ptr 13 0),(14,.ptr 14 0),(15,.ptr 15 0),(45,.ref 1035),(46,iI (j.length:Int)),(47,iI g)],[(3,aD O),(5,ce q),(13,aD (gD j g)),(14,aG ((gD j g).Style)),(15,co (⟨0,J,N,G,H⟩:bG)),(ac v4 v5)],[(38,⟨176,5,lm co f⟩),(41,⟨3,1,lm (ak .i64) (List.set d g.toNat D)⟩),(44,(bc C)),(1035,(bk j)),(440009,(be v6))],[3,5,13,14,15,440001,38,41,44,1035,440009,1440001,440001]⟩ ?_ (by subst w;subst v;kernel_rfl);refine aj 3 ?_;obtain⟨B,x,h⟩:=aw h;refine aR (eN a x) (ae (av 5 3 3 ?_));obtain⟨c,h⟩|⟨c,h⟩:=ao h
  ·refine ai 82 c (br 2 1 (aj 3 ?_));obtain⟨E,y,h⟩:=aw h;exact aR (eN a y) (ae (ah 0 (WH a m h)))
  ·exact ai 82 c (ah 2 (WH a m h))
 ·refine ai 48 b (gV 13 7 10 ?_);obtain⟨e,h⟩|⟨e,h⟩:=ao h
  ·refine ai 124 e (br 2 1 (aj 2 (ny 44 ?_)));obtain⟨F,z,h⟩:=aw h;exact fc 1127 (aj0 a z) (fk 29) (ae (jz 1127 (ah 0 (Pt a h))))
  ·exact ai 124 e (ah 2 (Pt a h))
def alA(a:am K)(m:Nat):Ex M l r O o q v4 v5 v6 j m (qX K n O o q v4 v5 v6 j m):=by
 induction m with
 | zero=>exact fun h=>nomatch h
 | succ m b=>exact fun h=>bq (aia a b h)
def adf(d:am K)(h:xz K n O o q v4 v5 v6=some r):eO aT 81 [.agg (aD O),iI o,.agg (ce q)] [(ac v4 v5)] (be v6) (fun v s=>v=.tup [.ref 440010,iI r.2.1]∧cB s.o [(ac r.2.2.1 r.2.2.2.1)]∧look 440009 s.r=some (be r.2.2.2.2)∧look 440010 s.r=some (bf r.1)):=by
 refine kx (c:=cat Tryz.f81 []) Tryz.func81 (by kernel_rfl) _ Tryz.ntmps81 (il (by kernel_rfl)) fun M l=>(bn ⟨[(0,.agg (aD O)),(1,iI o),(2,.agg (ce q))],[(ac v4 v5)],[(440009,(be v6))],[440009,440001,1440001]⟩ ?_);unfold xz at h;refine bW (ks':=[dz 6,dz 7]) 3 (aj 1 ?_);obtain⟨j,g,h⟩:=aw h;refine fc 1035 (Jf d g) (fk 21) (ae (av 2 3 1 (aj 1 (au (bF aP j) ?_))));obtain⟨i,h⟩:=aB h;refine pg co (kB:bG) 174 (.tmp 37) (.tmp 37) 38 (e:=176) (sz:=5) (zc:=co kB) (kd:=.i64) (kd':=.i64) i (ae ?_);obtain⟨b,k,h⟩:=cc h;refine bC (ks':=[dz 30,dz 31]) 1 ⟨[(1,iI o),(3,.ptr 3 0),(5,.ptr 5 0),(8,.ref 1035),(9,.ref 38)],[(3,aD O),(5,ce q),(ac v4 v5)],[(38,⟨176,5,lm co b⟩),(1035,(bk j)),(440009,(be v6))],[3,5,440001,38,1035,440009,1440001,440001]⟩ ?_ (by subst k;kernel_rfl)
 refine aj 1 (au (bF aP j) ?_);obtain⟨m,h⟩:=aB h;refine pg (ak .i64) (0:Int) 72 (.tmp 40) (.tmp 40) 41 (e:=3) (sz:=1) (zc:=[iI 0]) (kd:=.i64) (kd':=.i64) m (ae ?_);obtain⟨f,t,h⟩:=cc h;refine bC (ks':=[dz 62,dz 63]) 1 ⟨[(1,iI o),(3,.ptr 3 0),(5,.ptr 5 0),(8,.ref 1035),(9,.ref 38),(10,.ref 41)],[(3,aD O),(5,ce q),(ac v4 v5)],[(38,⟨176,5,lm co b⟩),(41,(bc f)),(1035,(bk j)),(440009,(be v6))],[3,5,440001,38,41,1035,440009,1440001,440001]⟩ ?_ (by subst t;kernel_rfl);refine aj 1 (au (bF aP j) ?_);obtain⟨u,h⟩:=aB h;refine pg (ak .i64) (0:Int) 72 (.tmp 43) (.tmp 43) 44 (e:=3) (sz:=1) (zc:=[iI 0]) (kd:=.i64) (kd':=.i64) u (ae ?_);obtain⟨a,w,h⟩:=cc h;refine bC (ks':=[dz 252,dz 253,dz 127]) 2 ⟨[(1,iI o),(3,.ptr 3 0),(5,.ptr 5 0),(8,.ref 1035),(9,.ref 38),(10,.ref 41),(11,.ref 44)],[(3,aD O),(5,ce q),(ac v4 v5)],[(38,⟨176,5,lm co b⟩),(41,(bc f)),(44,(bc a)),(1035,(bk j)),(440009,(be v6))],[3,5,440001,38,41,44,1035,440009,1440001,440001]⟩ ?_ (by subst w;kernel_rfl)
 exact aj 1 (au (bF aP j) (ae (ah 1 (cf (p:=pn 506) n (alA d n h)))))
end
section
variable[GS](M:Nat→Prop)(b:az)(r a:ab)(d:Int)(c:Int×Bool)(v5:Int)  
abbrev ag7(n:Nat):aq:=.c (cat Tryz.f83 (pn n))
abbrev aeK:Cx:=⟨aT,45,M,b⟩
abbrev q83:=bodyPost aT Tryz.f83 (bP M b (fun v _=>v=.agg (aC r)))
abbrev ZV(a:ck)(s:AS):=VE (aeK M b) (q83 M b r) a .normal s
def ZO:AS:=⟨[(2,.ptr 2 0),(4,.ptr 4 0)],[(2,aC ({ a with X:=(aa (a.X+c.1)),Y:=v5 }:ab)),(4,List.set (aC bU) 66 (.nils))],[],[2,4]⟩
variable{M b r a d c v5}{K:Kn}{n:Nat}
def S4(d:am K)(h:ym K n a c v5=some r):ZV M b r [ag7 63] (ZO a c v5):=by
 unfold ym at h;refine aM 3 ?_;cases h;exact bD
def Qy(e:am K)(h:vR K n a d=some r):aZ aT 83 [.agg (aC a),iI d] (fun v _=>v=.agg (aC r)):=by
 refine bK (cat Tryz.f83 (pn 1)) Tryz.func83 Tryz.ntmps83 fun M b=>(bn ⟨[(0,.agg (aC a)),(1,iI d)],[],[],[]⟩ ?_);unfold vR at h;refine av 13 7 5 ?_;obtain⟨f,h⟩|⟨f,h⟩:=ao h
 ·refine ai 12 f (aM 5 ?_);cases h;exact bD
 ·refine ai 12 f (gY 2 3 3 (aj 4 ?_));obtain⟨c,i,h⟩:=aw h;refine aR (eN e i) (ae (av 13 7 5 ?_));obtain⟨g,h⟩|⟨g,h⟩:=ao h
  ·refine ai 31 g (av 4 5 2 (aj 3 ?_));obtain⟨v4,j,h⟩:=aw h;exact aR (eN e j) (ae (ah 1 (S4 e h)))
  ·exact ai 31 g (ah 2 (S4 e h))
end
section
variable[GS](M:Nat→Prop)(w:az)(r:ab×Int×Int×c6)(l:ag)(C:Int)(A:bN)(v4 v5:Int)(v6:c6)(b:cb)(t u:bh)(x:Int)(e:b7)(f g:Int)(j:c6)(y o q a:Int)(d:b7)(z:Nat)(B:Int→b7→Option er)
abbrev JW:Cx:=⟨aT,154,M,w⟩
abbrev H1:=bodyPost aT Tryz.f44 (bP M w (fun v s=>v=.agg (aC r.1)∧cB s.o [(ac r.2.1 r.2.2.1)]∧look 440009 s.r=some (be r.2.2.2)))
abbrev LC(a:ck)(s:AS):=VE (JW M w) (H1 M w r) a .normal s
abbrev jP(n:Nat):aq:=.c (cat Tryz.f44 (pn n))
abbrev KM:ck:=[.b 0,jP 2047]
abbrev KC:ck:=kl (JW M w) (H1 M w r) KM (cat Tryz.f44 (pn 16372)) z::KM
def P4:AS:=⟨[(6,.ptr 6 0),(7,.ptr 7 0),(8,.ptr 8 0),(104,iI (e.length:Int)),(105,iI a)],[(6,List.set (aC bU) 66 (.nils)),(7,cC b),(8,List.set (aC (⟨1,l.Node,b.Margin.a3,0,o,q,0,⟨#[]⟩,l.Style,t,u,false,[]⟩:ab)) 66 (.ref 1040)),(ac f g)],[(1040,(bf d)),(440009,(be j))],[6,7,8,440001,1040,440009,1440001,440001]⟩
def abg:AS:=⟨[(6,.ptr 6 0),(7,.ptr 7 0),(8,.ptr 8 0),(9,iI y)],[(6,List.set (aC bU) 66 (.nils)),(7,cC b),(8,List.set (aC ({ bU with Kind:=1,Node:=l.Node,X:=b.Margin.a3,Style:=l.Style,Before:=t,After:=u }:ab)) 66 (.ref 1040)),(ac f g)],[(1040,(bf e)),(440009,(be j))],[6,7,8,440001,1040,440009,1440001,440001]⟩
def ac7:AS:=⟨[(3,.ptr 3 0),(6,.ptr 6 0),(7,.ptr 7 0),(8,.ptr 8 0),(9,iI x)],[(3,aD l),(6,List.set (aC bU) 66 (.nils)),(7,cC b),(8,List.set (aC ({ bU with Kind:=1,Node:=l.Node,X:=b.Margin.a3,Style:=l.Style,Before:=t,After:=u }:ab)) 66 (.ref 1040)),(ac f g)],[(1040,(bf e)),(440009,(be j))],[3,6,7,8,440001,1040,440009,1440001,440001]⟩
abbrev SK:Prop:=∀{a:Int} {d:b7},B a d=some r→LP (JW M w) (H1 M w r) KM (cat Tryz.f44 (pn 16372)) z (P4 l b t u e f g j o q a d)
variable{M w r l C A v4 v5 v6 b t u x e f g j y o q a d z B}{K:Kn}{n:Nat}[SG w][PF A.Layout]
def aae(I:am K)(H:SK M w r l b t u e f g j o q z B)(h:D6 K n l b t u e f g j o q B a d=some r):LC M w r (jP 16372::KC M w r z) (P4 l b t u e f g j o q a d):=by
 unfold D6 at h;refine av 6 7 3 ?_;obtain⟨v,h⟩|⟨v,h⟩:=ao h
 ·refine ai 106 v (cX 18 19 1 3 7 (bV [6,7,8,10,104,105] [6,7,8,440001] [1040,440009] ?_));obtain⟨A,h⟩:=aB h;obtain⟨p,h⟩:=aB h;refine ci 1 (nu 108 [.ptr 8 66,.ref 1040,iI a,.eptr 1040 67 (a.toNat) 0,.eptr 1040 67 (a.toNat) 2,iI ((gD d a).X),.ptr 7 4,.ptr 7 7,iI b.Border.a3,.ptr 7 8,.ptr 7 11,iI b.Padding.a3,iI (aa (b.Border.a3+b.Padding.a3)),iI (aa (((gD d a).X)+(aa (b.Border.a3+b.Padding.a3)))),.eptr 1040 67 (a.toNat) 0,.eptr 1040 67 (a.toNat) 2]) [] [] [eD 1040 ⟨44,67,lm aN (List.set d a.toNat ({ (gD d a)with X:=(aa (((gD d a).X)+(aa (b.Border.a3+b.Padding.a3)))) }:ab))⟩] (aE (vz 3) (bE (cD 1040 67 aN (L:=d) A) (aE [.v 0 1] (bE (bJ 3 2 aN aC (bB p).2 (dV)) (aE (vz 8) (ax (fv (lo:=0) (k:=2) (di ⟨(by kernel_rfl),(dp (cD 1040 67 aN (L:=d) p) (by kernel_rfl))⟩ (di ⟨(by kernel_rfl),(dp (cD 1040 67 aN (L:=(List.set d a.toNat ({ (gD d a)with X:=(aa (((gD d a).X)+(aa (b.Border.a3+b.Padding.a3)))) }:ab))) p) (by kernel_rfl))⟩ fG))) (aE [.v 0 1] (ax (dq (m:=0) (dI 1040 44 67 2 aN aC ({ (gD d a)with X:=(aa (((gD d a).X)+(aa (b.Border.a3+b.Padding.a3)))) }:ab) (bB p).2 (dV))) cg)))))))) ?_
  obtain⟨c,C,h⟩:=cc h;refine bC (ks':=jP 2095718::jP 2095719 :: .b 1::jP 130983::KC M w r z) 1 ⟨[(6,.ptr 6 0),(7,.ptr 7 0),(8,.ptr 8 0),(10,iI a),(104,iI (e.length:Int)),(105,iI a)],[(6,List.set (aC bU) 66 (.nils)),(7,cC b),(8,List.set (aC (⟨1,l.Node,b.Margin.a3,0,o,q,0,⟨#[]⟩,l.Style,t,u,false,[]⟩:ab)) 66 (.ref 1040)),(ac f g)],[(1040,(bf c)),(440009,(be j))],[6,7,8,440001,1040,440009,1440001,440001]⟩ ?_ (by subst C;kernel_rfl);obtain⟨D,h⟩:=aB h;obtain⟨s,h⟩:=aB h;refine ci 1 (nu 124 [.ptr 8 66,.ref 1040,iI a,.eptr 1040 67 (a.toNat) 0,.eptr 1040 67 (a.toNat) 3,iI ((gD c a).Y),.ptr 7 4,.ptr 7 4,iI b.Border.a0,.ptr 7 8,.ptr 7 8,iI b.Padding.a0,iI (aa (b.Border.a0+b.Padding.a0)),iI (aa (((gD c a).Y)+(aa (b.Border.a0+b.Padding.a0)))),.eptr 1040 67 (a.toNat) 0,.eptr 1040 67 (a.toNat) 3]) [] [] [eD 1040 ⟨44,67,lm aN (List.set c a.toNat ({ (gD c a)with Y:=(aa (((gD c a).Y)+(aa (b.Border.a0+b.Padding.a0)))) }:ab))⟩] (aE (vz 3) (bE (cD 1040 67 aN (L:=c) D) (aE [.v 0 1] (bE (bJ 3 3 aN aC (bB s).2 (dV)) (aE (vz 8) (ax (fv (lo:=0) (k:=2) (di ⟨(by kernel_rfl),(dp (cD 1040 67 aN (L:=c) s) (by kernel_rfl))⟩ (di ⟨(by kernel_rfl),(dp (cD 1040 67 aN (L:=(List.set c a.toNat ({ (gD c a)with Y:=(aa (((gD c a).Y)+(aa (b.Border.a0+b.Padding.a0)))) }:ab))) s) (by kernel_rfl))⟩ fG))) (aE [.v 0 1] (ax (dq (m:=0) (dI 1040 44 67 3 aN aC ({ (gD c a)with Y:=(aa (((gD c a).Y)+(aa (b.Border.a0+b.Padding.a0)))) }:ab) (bB s).2 (dV))) cg)))))))) ?_
  obtain⟨i,E,h⟩:=cc h;refine bC (ks':=jP 2095719 :: .b 1::jP 130983::KC M w r z) 0 ⟨[(6,.ptr 6 0),(7,.ptr 7 0),(8,.ptr 8 0),(10,iI a),(104,iI (e.length:Int)),(105,iI a)],[(6,List.set (aC bU) 66 (.nils)),(7,cC b),(8,List.set (aC (⟨1,l.Node,b.Margin.a3,0,o,q,0,⟨#[]⟩,l.Style,t,u,false,[]⟩:ab)) 66 (.ref 1040)),(ac f g)],[(1040,(bf i)),(440009,(be j))],[6,7,8,440001,1040,440009,1440001,440001]⟩ ?_ (by subst E;kernel_rfl);obtain⟨F,h⟩:=aB h;obtain⟨y,G,h⟩:=aw h;obtain⟨x,h⟩:=aB h;exact ci 1 (nu 140 [.ptr 8 66,.ref 1040,iI a,.ptr 8 66,.ref 1040,iI a,.eptr 1040 67 (a.toNat) 0,.agg (aC (gD i a)),.ptr 7 12,iI b.Content,.agg (aC y),.eptr 1040 67 (a.toNat) 0]) [] [] [eD 1040 ⟨44,67,lm aN (List.set i a.toNat y)⟩] (aE (vz 6) (bE (cD 1040 67 aN (L:=i) F) (bE (bJ 44 0 aN aC (bB x).2 (dV)) (aE (vz 2) (ax (cR 0 1 150 (Qy I G)) (bE (cD 1040 67 aN (L:=i) x) (ax (dq (m:=0) (dI 1040 44 67 0 aN aC y (bB x).2 (dV))) cg))))))) (ah 2 (bu (H h)))
 ·refine ai 106 v (aM 8 (jz 1040 ?_));cases h;exact gI
def XR(a:am K)(m:Nat):SK M w r l b t u e f g j o q m (yK K n l b t u e f g j o q m):=by
 induction m with
 | zero=>exact fun h=>nomatch h
 | succ m c=>exact fun h=>bq (aae a c h)
def Wx(d:am K)(h:vH K n l b t u e f g j y=some r):LC M w r [jP 255] (abg l b t u e f g j y):=by
 unfold vH at h;obtain⟨o,c,h⟩:=cc h;obtain⟨q,a,h⟩:=cc h;refine bC (ks':=[jP 4092,jP 4093,jP 2047]) 6 ⟨[(6,.ptr 6 0),(7,.ptr 7 0),(8,.ptr 8 0)],[(6,List.set (aC bU) 66 (.nils)),(7,cC b),(8,List.set (aC (⟨1,l.Node,b.Margin.a3,0,o,q,0,⟨#[]⟩,l.Style,t,u,false,[]⟩:ab)) 66 (.ref 1040)),(ac f g)],[(1040,(bf e)),(440009,(be j))],[6,7,8,440001,1040,440009,1440001,440001]⟩ ?_ (by subst a;subst c;kernel_rfl);exact aj 2 (au (bF aN e) (ae (ah 1 (cf (p:=pn 8186) n (XR d n h)))))
def U8(c:am K)(h:uv K n l b t u x e f g j=some r):LC M w r [jP 63] (ac7 l b t u x e f g j):=by
 unfold uv at h;refine av 13 7 5 ?_;obtain⟨a,h⟩|⟨a,h⟩:=ao h
 ·refine ai 59 a (br 2 1 (aj 3 ?_));obtain⟨i,d,h⟩:=aw h;exact aR (Ad c d) (ae (ah 0 (Wx c h)))
 ·exact ai 59 a (ah 2 (Wx c h))
def acl(a:am K)(h:oZ K n l C A v4 v5 v6=some r):eO aT 44 [.agg (aD l),iI C,.agg (ce A)] [(ac v4 v5)] (be v6) (fun v s=>v=.agg (aC r.1)∧cB s.o [(ac r.2.1 r.2.2.1)]∧look 440009 s.r=some (be r.2.2.2)):=by
 refine kx (c:=cat Tryz.f44 []) Tryz.func44 (by kernel_rfl) _ Tryz.ntmps44 (il (by kernel_rfl)) fun M w=>(bn ⟨[(0,.agg (aD l)),(1,iI C),(2,.agg (ce A))],[(ac v4 v5)],[(440009,(be v6))],[440009,440001,1440001]⟩ ?_);unfold oZ at h;refine bW (ks':=[jP 6,jP 7]) 3 (aj 3 ?_);obtain⟨b,e,h⟩:=aw h;refine aR (K2 a e) (ae (av 2 3 1 (bV [3,5,6,7] [3,5,6,7,440001] [440009] ?_)));obtain⟨t,f,h⟩:=aw h;obtain⟨u,g,h⟩:=aw h;refine ci 1 (nu 15 [.ptr 3 1,iI l.Node,.ptr 3 2,.agg (aG l.Style),.ptr 7 0,.ptr 7 3,iI b.Margin.a3,.ptr 7 0,.ptr 7 0,iI b.Margin.a0,.agg (c8 t),.ptr 7 0,.ptr 7 2,iI b.Margin.a2,.agg (c8 u),.agg (List.set (aC ({ bU with Kind:=1,Node:=l.Node,X:=b.Margin.a3,Style:=l.Style,Before:=t,After:=u }:ab)) 66 (.nils))]++nu 8 [.ptr 8 0]) [(8,List.set (aC bU) 66 (.nils))] [] [cF aT 154 Tryz.f44 (pn 14) 17] (aE (vz 10) (ax (cR 0 1 25 (BD a f)) (aE (vz 3) (ax (cR 0 1 29 (BD a g)) (aE [.v 0 1] (ax (tW 0 1 44 8 (List.set (aC bU) 66 (.nils))) (ax (cE 0) cg))))))) (av 13 7 5 ?_)
 obtain⟨d,h⟩|⟨d,h⟩:=ao h
 ·refine ai 34 d (br 2 1 (aj 4 ?_));obtain⟨m,j,h⟩:=aw h;exact UA 1040 (agJ a j) (Du (i:=0) rfl) (ae (ah 0 (U8 a h)))
 ·refine ai 34 d (br 3 1 (aj 4 ?_));obtain⟨o,k,h⟩:=aw h;exact UA 1049 (adf a k) (Du (i:=0) rfl) (ae (bV [3,6,7,8,9] [3,6,7,8,440001] [1049,440009] (rf 1049 1040 (ah 0 (U8 a h)))))
end
section
variable[GS](M:Nat→Prop)(b:az)(r:Int)(c:dn)(a:Fv)(v4:Int)(d:Nat)(e:Int→Option Int)
abbrev LA:Cx:=⟨aT,19,M,b⟩
abbrev HA:=bodyPost aT Tryz.f119 (bP M b (fun v _=>v=iI r))
abbrev alL(a:ck)(s:AS):=VE (LA M b) (HA M b r) a .normal s
abbrev VX(n:Nat):aq:=.c (cat Tryz.f119 (pn n))
abbrev IM:ck:=[.b 0,VX 7]
abbrev agz:ck:=kl (LA M b) (HA M b r) IM (cat Tryz.f119 (pn 52)) d::IM
def Pg:AS:=⟨[(0,.sl (lm aP c)),(1,.fn a.id a.aV),(7,iI (c.length:Int)),(8,iI v4)],[],[],[]⟩
abbrev WV:Prop:=∀{v4:Int},e v4=some r→LP (LA M b) (HA M b r) IM (cat Tryz.f119 (pn 52)) d (Pg c a v4)
variable{M b r c a v4 d e}{K:Kn}{n:Nat}
def acF(l:am K)(i:WV M b r c a d e)(h:xi K n c a e v4=some r):alL M b r (VX 52::agz M b r d) (Pg c a v4):=by
 unfold xi at h;refine av 6 7 3 ?_;obtain⟨f,h⟩|⟨f,h⟩:=ao h
 ·refine ai 9 f (cX 18 19 1 3 7 (aj 3 ?_));obtain⟨j,h⟩:=aB h;refine au (bX aP aD j (gB) (eE)) (aW 5 1 ?_);obtain⟨v5,k,h⟩:=aw h;refine oB (l.mh k) (ae ?_);obtain⟨g,h⟩|⟨g,h⟩:=ao h
  ·refine ai 16 g (aM 9 ?_);cases h;exact bD
  ·exact ai 16 g (ah 4 (bu (i h)))
 ·refine ai 9 f (aM 8 ?_);cases h;exact bD
def adR(d:am K)(m:Nat):WV M b r c a m (nB K n c a m):=by
 induction m with
 | zero=>exact fun h=>nomatch h
 | succ m e=>exact fun h=>bq (acF d e h)
def ais(d:am K)(h:yY K n c a=some r):aZ aT 119 [.sl (lm aP c),.fn a.id a.aV] (fun v _=>v=iI r):=by
 refine bK (cat Tryz.f119 (pn 1)) Tryz.func119 Tryz.ntmps119 fun M b=>(bn ⟨[(0,.sl (lm aP c)),(1,.fn a.id a.aV)],[],[],[]⟩ ?_);unfold yY at h;exact cj 12 13 7 4 (aj 1 (au (bF aP c) (ae (ah 1 (cf (p:=pn 26) n (adR d n h))))))
end
section
variable[GS](M:Nat→Prop)(c:az)(r:Bool)(b:dn)(a:Fv)  
variable{M c r b a}{K:Kn}{n:Nat}
def MN(e:am K)(h:oC K n b a=some r):aZ aT 64 [.sl (lm aP b),.fn a.id a.aV] (fun v _=>v=.bool r):=by
 refine bK (cat Tryz.f64 (pn 1)) Tryz.func64 Tryz.ntmps64 fun M c=>(bn ⟨[(0,.sl (lm aP b)),(1,.fn a.id a.aV)],[],[],[]⟩ ?_);unfold oC at h;refine av 6 7 3 (aj 2 ?_);obtain⟨f,d,h⟩:=aw h;refine aR (ais e d) (ae (aM 1 ?_));cases h;exact bD
end
section
variable[GS](M:Nat→Prop)(b:az)(r:dn×Bool)(a:ag)(c:Int)(f d:dn)(e:Nat)(g:Int→dn→Option (dn×Bool))
abbrev I1:Cx:=⟨aT,24,M,b⟩
abbrev G2:=bodyPost aT Tryz.f141 (bP M b (fun v _=>v=.tup [.sl (lm aP r.1),.bool r.2]))
abbrev Ri(a:ck)(s:AS):=VE (I1 M b) (G2 M b r) a .normal s
abbrev Ic(n:Nat):aq:=.c (cat Tryz.f141 (pn n))
abbrev F9:ck:=[.b 0,Ic 15]
abbrev NY:ck:=kl (I1 M b) (G2 M b r) F9 (cat Tryz.f141 (pn 116)) e::F9
def aaJ:AS:=⟨[(4,.ref 19),(8,.sl (lm aP a.Kids)),(9,iI (a.Kids.length:Int)),(10,iI c)],[],[(19,(bk d))],[19]⟩
def Sc:AS:=⟨[(4,.ref 19),(8,.sl (lm aP a.Kids)),(9,iI (a.Kids.length:Int)),(10,iI c)],[],[(19,(bk f))],[19]⟩
abbrev FX:Prop:=∀{c:Int} {f:dn},g c f=some r→LP (I1 M b) (G2 M b r) F9 (cat Tryz.f141 (pn 116)) e (Sc a c f)
variable{M b r a c f d e g}{K:Kn}{n:Nat}
def V3(i:am K)(f:FX M b r a e g)(h:Bl K n a c g d=some r):Ri M b r (.b 1::Ic 935::NY M b r e) (aaJ a c d):=by
 unfold Bl at h;exact ah 2 (bu (f h))
def Zw(k:am K)(j:FX M b r a e g)(h:Bp K n a g c f=some r):Ri M b r (Ic 116::NY M b r e) (Sc a c f):=by
 unfold Bp at h;refine av 6 7 3 ?_;obtain⟨d,h⟩|⟨d,h⟩:=ao h
 ·refine ai 11 d (cX 8 9 1 3 5 (aj 0 ?_));obtain⟨l,h⟩:=aB h;refine au (bX aP aD l (gB) (eE)) (ae (av 2 3 1 (aj 1 ?_)));obtain⟨q,m,h⟩:=aw h;refine aR (Gq k m) (ae ?_);obtain⟨i,h⟩|⟨i,h⟩:=ao h
  ·refine ai 15 i (br 2 1 (aj 2 (au (ii aP ([(gD a.Kids c)]:dn) (new:=[aD (gD a.Kids c)]) (by simp only[n5,u7,eE])) ?_)));obtain⟨o,h⟩:=aB h;exact au (cG 19 19 48 59 aP (rfl) (gB) o) (ae (ah 0 (V3 k j h)))
  ·exact ai 15 i (ah 2 (V3 k j h))
 ·refine ai 11 d (gV 2 3 6 (aj 2 (ny 19 ?_)));obtain⟨s,p,h⟩:=aw h;refine aR (MN k p) (ae (aM 1 ?_));cases h;exact jC
def acd(c:am K)(m:Nat):FX M b r a m (z0 K n a m):=by
 induction m with
 | zero=>exact fun h=>nomatch h
 | succ m d=>exact fun h=>bq (Zw c d h)
def Po(c:am K)(h:t6 K n a=some r):aZ aT 141 [.agg (aD a)] (fun v _=>v=.tup [.sl (lm aP r.1),.bool r.2]):=by
 refine bK (cat Tryz.f141 (pn 1)) Tryz.func141 Tryz.ntmps141 fun M b=>(bn ⟨[(0,.agg (aD a))],[],[],[]⟩ ?_);unfold t6 at h;exact cj 28 29 15 6 (aj 2 (au (bF aP a.Kids) (ae (ic 2 0 1 (bV [4,8,9,10] [] [] (fQ 19 4 48 59 (ah 0 (cf (p:=pn 58) n (acd c n h)))))))))
end
section
variable[GS](M:Nat→Prop)(c:az)(r:bh)(a b:bh)  
variable{M c r a b}{K:Kn}{n:Nat}
def xc(d:am K)(h:kW K n a b=some r):aZ aT 143 [.agg (c8 a),.agg (c8 b)] (fun v _=>v=.agg (c8 r)):=by
 refine bK (cat Tryz.f143 (pn 1)) Tryz.func143 Tryz.ntmps143 fun M c=>(bn ⟨[(0,.agg (c8 a)),(1,.agg (c8 b))],[],[],[]⟩ ?_);unfold kW at h;refine aM 5 ?_;cases h;exact bD
end
section
variable[GS](M:Nat→Prop)(g:az)(r:b7×Int×bh×bh×Bool)(c:b7)(d:Int)(e:Bool)(a:Int)(j i:bh)(b:b7)(k:bh)(f:Int)(t:bh)(u:Int)(w:Bool)(x y o:bh)(l:Nat)(q:Int→Bool→Int→bh→bh→b7→Option (b7×Int×bh×bh×Bool))
abbrev Jp:Cx:=⟨aT,52,M,g⟩
abbrev Ia:=bodyPost aT Tryz.f142 (bP M g (fun v s=>v=.tup [.ref 43,iI r.2.1,.agg (c8 r.2.2.1),.agg (c8 r.2.2.2.1),.bool r.2.2.2.2]∧look 43 s.r=some (bf r.1)))
abbrev yG(a:ck)(s:AS):=VE (Jp M g) (Ia M g r) a .normal s
abbrev mH(n:Nat):aq:=.c (cat Tryz.f142 (pn n))
abbrev Ja:ck:=[.b 0,mH 31]
abbrev ER:ck:=kl (Jp M g) (Ia M g r) Ja (cat Tryz.f142 (pn 244)) l::Ja
def ac5:AS:=⟨[(2,.ref 43),(3,iI u),(4,.ptr 4 0),(5,.ptr 5 0),(6,.bool w),(7,.ptr 7 0),(9,.ptr 9 0),(10,.sl (lm aN c)),(11,iI (c.length:Int)),(12,iI a)],[(4,c8 x),(5,c8 dD),(7,c8 y),(9,aC ({ (gD c a)with Y:=f }:ab))],[(43,(bf b))],[4,5,7,9,43]⟩
def alx:AS:=⟨[(2,.ref 43),(4,.ptr 4 0),(5,.ptr 5 0),(7,.ptr 7 0),(9,.ptr 9 0),(10,.sl (lm aN c)),(11,iI (c.length:Int)),(12,iI a)],[(4,c8 t),(5,c8 dD),(7,c8 k),(9,aC ({ (gD c a)with Y:=f }:ab))],[(43,(bf b))],[4,5,7,9,43]⟩
def ago:AS:=⟨[(2,.ref 43),(3,iI d),(4,.ptr 4 0),(5,.ptr 5 0),(6,.bool e),(7,.ptr 7 0),(9,.ptr 9 0),(10,.sl (lm aN c)),(11,iI (c.length:Int)),(12,iI a)],[(4,c8 j),(5,c8 dD),(7,c8 k),(9,aC ({ (gD c a)with Y:=f }:ab))],[(43,(bf b))],[4,5,7,9,43]⟩
def aid:AS:=⟨[(2,.ref 43),(3,iI d),(4,.ptr 4 0),(5,.ptr 5 0),(6,.bool e),(7,.ptr 7 0)],[(4,c8 o),(5,c8 dD),(7,c8 i)],[(43,(bf b))],[4,5,7,43]⟩
def LO:AS:=⟨[(2,.ref 43),(3,iI d),(4,.ptr 4 0),(5,.ptr 5 0),(6,.bool e),(7,.ptr 7 0),(10,.sl (lm aN c)),(11,iI (c.length:Int)),(12,iI a)],[(4,c8 j),(5,c8 dD),(7,c8 i)],[(43,(bf b))],[4,5,7,43]⟩
abbrev ya:Prop:=∀{d:Int} {e:Bool} {a:Int} {j:bh} {i:bh} {b:b7},q d e a j i b=some r→LP (Jp M g) (Ia M g r) Ja (cat Tryz.f142 (pn 244)) l (LO c d e a j i b)
variable{M g r c d e a j i b k f t u w x y o l q}{K:Kn}{n:Nat}
def Ui(i:am K)(e:ya M g r c l q)(h:pR K n c a b f q u w x y=some r):yG M g r (mH 125343 :: .b 1::mH 1959::ER M g r l) (ac5 c a b f u w x y):=by
 unfold pR at h;refine aj 2 (au (ii aN ([({ (gD c a)with Y:=f }:ab)]:b7) (new:=[aC ({ (gD c a)with Y:=f }:ab)]) (by simp only[n5,u7,dV])) ?_);obtain⟨d,h⟩:=aB h;exact au (cG 43 43 44 67 aN (rfl) (ky) d) (ae (ah 2 (bu (e h))))
def UC(e:am K)(d:ya M g r c l q)(h:rG K n c a b k f q t=some r):yG M g r (mH 1002741::mH 125343 :: .b 1::mH 1959::ER M g r l) (alx c a b k f t):=by
 unfold rG at h;exact ah 5 (Ui e d h)
def V9(p:am K)(o:ya M g r c l q)(h:rF K n c d e a j b k q f=some r):yG M g r (mH 62671 :: .b 1::mH 1959::ER M g r l) (ago c d e a j b k f):=by
 unfold rF at h;refine av 5 3 3 ?_;obtain⟨i,h⟩|⟨i,h⟩:=ao h
 ·refine ai 30 i (av 9 5 4 ?_);obtain⟨m,h⟩|⟨m,h⟩:=ao h
  ·exact ai 31 m (ah 2 (UC p o h))
  ·exact ai 31 m (ah 2 (UC p o h))
 ·exact ai 30 i (ah 2 (Ui p o h))
def RC(a:am K)(h:pH K n d e i b o=some r):yG M g r [mH 63] (aid d e i b o):=by
 unfold pH at h;refine av 2 3 1 (bV [2,3,4,5,6,7] [4,5,7] [43] (ci 5 (nu 47 [.ref 43,iI d,.agg (c8 o),.agg (c8 i),.bool e]) [] [] [cF aT 52 Tryz.f142 (pn 126) 5,cF aT 52 Tryz.f142 (pn 126) 6,cF aT 52 Tryz.f142 (pn 126) 7,cF aT 52 Tryz.f142 (pn 126) 8,cF aT 52 Tryz.f142 (pn 126) 9] (aE [.v 0 1,.v 0 2,.v 0 3,.v 0 4,.v 0 5] (ax (cE 0) (ax (cE 1) (ax (cE 2) (ax (cE 3) (ax (cE 4) cg)))))) (aM 1 ?_)));cases h;exact qW
def Xx(p:am K)(s:ya M g r c l q)(h:sh K n c q d e a j i b=some r):yG M g r (mH 244::ER M g r l) (LO c d e a j i b):=by
 unfold sh at h;refine av 6 7 3 ?_;obtain⟨f,h⟩|⟨f,h⟩:=ao h
 ·refine ai 13 f (cX 8 9 1 3 5 (aj 0 ?_));obtain⟨t,h⟩:=aB h;refine au (bX aN aC t (ky) (dV)) (ae (av 2 3 1 (aj 3 ?_)));obtain⟨k,u,h⟩:=aw h;refine aR (xc p u) (ae (av 13 7 5 ?_));obtain⟨m,h⟩|⟨m,h⟩:=ao h
  ·refine ai 22 m (br 2 1 (aj 2 ?_));obtain⟨w,v,h⟩:=aw h;exact aR (n8 p v) (ae (ah 0 (V9 p s h)))
  ·exact ai 22 m (ah 2 (V9 p s h))
 ·refine ai 13 f (gV 5 3 8 ?_);obtain⟨o,h⟩|⟨o,h⟩:=ao h
  ·exact ai 45 o (ah 2 (RC p h))
  ·exact ai 45 o (ah 2 (RC p h))
def akG(a:am K)(m:Nat):ya M g r c m (iM K n c m):=by
 induction m with
 | zero=>exact fun h=>nomatch h
 | succ m b=>exact fun h=>bq (Xx a b h)
def acb(a:am K)(h:kF K n c=some r):aZ aT 142 [.sl (lm aN c)] (fun v s=>v=.tup [.ref 43,iI r.2.1,.agg (c8 r.2.2.1),.agg (c8 r.2.2.2.1),.bool r.2.2.2.2]∧look 43 s.r=some (bf r.1)):=by
 refine bK (cat Tryz.f142 (pn 1)) Tryz.func142 Tryz.ntmps142 fun M g=>(bn ⟨[(0,.sl (lm aN c))],[],[],[]⟩ ?_);unfold kF at h;exact cj 60 61 31 8 (aj 1 (au (bF aN c) (ae (ic 2 0 1 (bV [2,3,4,5,6,7,10,11,12] [4,5,7] [] (fQ 43 2 44 67 (ah 0 (cf (p:=pn 122) n (akG a n h)))))))))
end
section
variable[GS](M:Nat→Prop)(b:az)(r:Int)(a:cb)  
variable{M b r a}{K:Kn}{n:Nat}
def abi(c:am K)(h:Fb K n a=some r):aZ aT 144 [.agg (cC a)] (fun v _=>v=iI r):=by
 refine bK (cat Tryz.f144 (pn 1)) Tryz.func144 Tryz.ntmps144 fun M b=>(bn ⟨[(0,.agg (cC a))],[],[],[]⟩ ?_);unfold Fb at h;refine aM 5 ?_;cases h;exact bD
end
section
variable[GS](M:Nat→Prop)(a:az)(r:Bool)(b:ag)(c:Bool)  
abbrev acu(n:Nat):aq:=.c (cat Tryz.f145 (pn n))
abbrev ajQ:Cx:=⟨aT,16,M,a⟩
abbrev ali:=bodyPost aT Tryz.f145 (bP M a (fun v _=>v=.bool r))
abbrev X9(b:ck)(s:AS):=VE (ajQ M a) (ali M a r) b .normal s
def aeT:AS:=⟨[(2,.bool c)],[],[],[]⟩
variable{M a r b c}{K:Kn}{n:Nat}
def GN(b:am K)(h:vO K n c=some r):X9 M a r [acu 7] (aeT c):=by
 unfold vO at h;refine aM 1 ?_;cases h;exact bD
def QC(e:am K)(h:uG K n b=some r):aZ aT 145 [.agg (aD b)] (fun v _=>v=.bool r):=by
 refine bK (cat Tryz.f145 (pn 1)) Tryz.func145 Tryz.ntmps145 fun M a=>(bn ⟨[(0,.agg (aD b))],[],[],[]⟩ ?_);unfold uG at h;refine av 6 7 3 (aj 4 ?_);obtain⟨c,h⟩|⟨c,h⟩:=ao h
 ·exact aF 6 c (ae (ah 0 (GN e h)))
 ·refine aF 6 c (aW 9 5 ?_);obtain⟨d,h⟩|⟨d,h⟩:=ao h
  ·exact aF 11 d (ae (ah 0 (GN e h)))
  ·exact aF 11 d (ae (ah 0 (GN e h)))
end
section
variable[GS](M:Nat→Prop)(z:az)(r:ab×Int×Int×c6)(l:ag)(b:cb)(G v4:Bool)(v5:bN)(v6 v7:Int)(v8:c6)(o:dn×Bool)(H:Int)(I:b7)(J N:Int)(O:c6)(A:Int)(B:Bool)(C D:bh)(d:b7)(e f:Int)(g:c6)(a0 E:bh)(c0:Bool)(j:Int)(P:bh)(d0:Bool)(Q:Int)(q t:bh)(u:Bool)(b0:Int×Bool)(e0:Bool)(f0 w x a:Int)(y F:b7)(g0:Bool)(h0:b7)(m1 m2:Nat)(L1:Int→b7→Int→Int→c6→Option er)(L2:Int→b7→Option er)
abbrev xU:Cx:=⟨aT,259,M,z⟩
abbrev Aw:=bodyPost aT Tryz.f100 (bP M z (fun v s=>v=.agg (aC r.1)∧cB s.o [(ac r.2.1 r.2.2.1)]∧look 440009 s.r=some (be r.2.2.2)))
abbrev lF(a:ck)(s:AS):=VE (xU M z) (Aw M z r) a .normal s
abbrev dU(n:Nat):aq:=.c (cat Tryz.f100 (pn n))
abbrev Ie:ck:=[.b 4,dU 131071]
abbrev y7:ck:=kl (xU M z) (Aw M z r) Ie (cat Tryz.f100 (pn 1048564)) m2::Ie
abbrev JF:ck:=[.b 0,dU 4075,dU 255]
abbrev ahB:ck:=kl (xU M z) (Aw M z r) JF (cat Tryz.f100 (pn 32596)) m1::JF
def abA:AS:=⟨[(6,.ptr 6 0),(10,.ptr 10 0),(11,.ptr 11 0),(12,.sl (lm aP o.1)),(13,.bool o.2),(15,iI j),(199,iI (d.length:Int)),(200,iI a)],[(6,cC b),(10,List.set (aC bU) 66 (.nils)),(11,List.set (aC (⟨1,l.Node,b.Margin.a3,0,(aa (b.Content+w)),x,0,⟨#[]⟩,l.Style,q,t,u,[]⟩:ab)) 66 (.ref 1054)),(ac e f)],[(1054,(bf h0)),(440009,(be g))],[6,10,11,440001,1054,440009,1440001,440001]⟩
def ZY:AS:=⟨[(6,.ptr 6 0),(10,.ptr 10 0),(11,.ptr 11 0),(12,.sl (lm aP o.1)),(13,.bool o.2),(15,iI j),(24,iI a),(199,iI (d.length:Int)),(200,iI a),(244,.bool g0)],[(6,cC b),(10,List.set (aC bU) 66 (.nils)),(11,List.set (aC (⟨1,l.Node,b.Margin.a3,0,(aa (b.Content+w)),x,0,⟨#[]⟩,l.Style,q,t,u,[]⟩:ab)) 66 (.ref 1054)),(ac e f)],[(1054,(bf F)),(440009,(be g))],[6,10,11,440001,1054,440009,1440001,440001]⟩
def UI:AS:=⟨[(6,.ptr 6 0),(10,.ptr 10 0),(11,.ptr 11 0),(12,.sl (lm aP o.1)),(13,.bool o.2),(15,iI j),(199,iI (d.length:Int)),(200,iI a)],[(6,cC b),(10,List.set (aC bU) 66 (.nils)),(11,List.set (aC (⟨1,l.Node,b.Margin.a3,0,(aa (b.Content+w)),x,0,⟨#[]⟩,l.Style,q,t,u,[]⟩:ab)) 66 (.ref 1054)),(ac e f)],[(1054,(bf y)),(440009,(be g))],[6,10,11,440001,1054,440009,1440001,440001]⟩
def aa7:AS:=⟨[(6,.ptr 6 0),(10,.ptr 10 0),(11,.ptr 11 0),(12,.sl (lm aP o.1)),(13,.bool o.2),(14,iI f0),(15,iI j)],[(6,cC b),(10,List.set (aC bU) 66 (.nils)),(11,List.set (aC ({ bU with Kind:=1,Node:=l.Node,Style:=l.Style,Before:=q,After:=t,Empty:=u }:ab)) 66 (.ref 1054)),(ac e f)],[(1054,(bf d)),(440009,(be g))],[6,10,11,440001,1054,440009,1440001,440001]⟩
def ahv:AS:=⟨[(6,.ptr 6 0),(10,.ptr 10 0),(11,.ptr 11 0),(12,.sl (lm aP o.1)),(13,.bool o.2),(14,iI (max Q 0)),(15,iI j),(22,iI b0.1),(166,.bool e0)],[(6,cC b),(10,List.set (aC bU) 66 (.nils)),(11,List.set (aC ({ bU with Kind:=1,Node:=l.Node,Style:=l.Style,Before:=q,After:=t,Empty:=u }:ab)) 66 (.ref 1054)),(ac e f)],[(1054,(bf d)),(440009,(be g))],[6,10,11,440001,1054,440009,1440001,440001]⟩
def abC:AS:=⟨[(5,.ptr 5 0),(6,.ptr 6 0),(10,.ptr 10 0),(11,.ptr 11 0),(12,.sl (lm aP o.1)),(13,.bool o.2),(14,iI Q),(15,iI j)],[(5,aD l),(6,cC b),(10,List.set (aC bU) 66 (.nils)),(11,List.set (aC ({ bU with Kind:=1,Node:=l.Node,Style:=l.Style,Before:=q,After:=t,Empty:=u }:ab)) 66 (.ref 1054)),(ac e f)],[(1054,(bf d)),(440009,(be g))],[5,6,10,11,440001,1054,440009,1440001,440001]⟩
def aiH:AS:=⟨[(3,.bool v4),(5,.ptr 5 0),(6,.ptr 6 0),(10,.ptr 10 0),(11,.ptr 11 0),(12,.sl (lm aP o.1)),(13,.bool o.2),(14,iI A),(15,iI j),(16,.ptr 16 0),(17,.ptr 17 0),(18,.bool B),(113,.bool d0)],[(5,aD l),(6,cC b),(10,List.set (aC bU) 66 (.nils)),(11,List.set (aC ({ bU with Kind:=1,Node:=l.Node,Style:=l.Style,Before:=P,After:=E }:ab)) 66 (.ref 1054)),(16,c8 C),(17,c8 D),(ac e f)],[(1054,(bf d)),(440009,(be g))],[5,6,10,11,16,17,440001,1054,440009,1440001,440001]⟩
def Yu:AS:=⟨[(2,.bool G),(3,.bool v4),(5,.ptr 5 0),(6,.ptr 6 0),(10,.ptr 10 0),(11,.ptr 11 0),(12,.sl (lm aP o.1)),(13,.bool o.2),(14,iI A),(15,iI j),(16,.ptr 16 0),(17,.ptr 17 0),(18,.bool B)],[(5,aD l),(6,cC b),(10,List.set (aC bU) 66 (.nils)),(11,List.set (aC ({ bU with Kind:=1,Node:=l.Node,Style:=l.Style,Before:=P,After:=E }:ab)) 66 (.ref 1054)),(16,c8 C),(17,c8 D),(ac e f)],[(1054,(bf d)),(440009,(be g))],[5,6,10,11,16,17,440001,1054,440009,1440001,440001]⟩
def Xh:AS:=⟨[(2,.bool G),(3,.bool v4),(5,.ptr 5 0),(6,.ptr 6 0),(10,.ptr 10 0),(11,.ptr 11 0),(12,.sl (lm aP o.1)),(13,.bool o.2),(14,iI A),(15,iI 0),(16,.ptr 16 0),(17,.ptr 17 0),(18,.bool B),(98,.bool c0)],[(5,aD l),(6,cC b),(10,List.set (aC bU) 66 (.nils)),(11,List.set (aC ({ bU with Kind:=1,Node:=l.Node,Style:=l.Style,Before:=a0,After:=E }:ab)) 66 (.ref 1054)),(16,c8 C),(17,c8 D),(ac e f)],[(1054,(bf d)),(440009,(be g))],[5,6,10,11,16,17,440001,1054,440009,1440001,440001]⟩
def aen:AS:=⟨[(2,.bool G),(3,.bool v4),(5,.ptr 5 0),(6,.ptr 6 0),(10,.ptr 10 0),(11,.ptr 11 0),(12,.sl (lm aP o.1)),(13,.bool o.2),(14,iI A),(15,iI 0),(16,.ptr 16 0),(17,.ptr 17 0),(18,.bool B)],[(5,aD l),(6,cC b),(10,List.set (aC bU) 66 (.nils)),(11,List.set (aC ({ bU with Kind:=1,Node:=l.Node,Style:=l.Style }:ab)) 66 (.ref 1054)),(16,c8 C),(17,c8 D),(ac e f)],[(1054,(bf d)),(440009,(be g))],[5,6,10,11,16,17,440001,1054,440009,1440001,440001]⟩
def RN:AS:=⟨[(2,.bool G),(3,.bool v4),(5,.ptr 5 0),(6,.ptr 6 0),(9,.ptr 9 0),(10,.ptr 10 0),(11,.ptr 11 0),(12,.sl (lm aP o.1)),(13,.bool o.2),(15,iI 0),(16,.ptr 16 0),(17,.ptr 17 0),(19,.ref 50),(36,.sl (lm aP o.1)),(37,iI (o.1.length:Int)),(38,iI H)],[(5,aD l),(6,cC b),(9,ce v5),(10,List.set (aC bU) 66 (.nils)),(11,List.set (aC ({ bU with Kind:=1,Node:=l.Node,Style:=l.Style }:ab)) 66 (.nils)),(16,c8 dD),(17,c8 dD),(ac J N)],[(50,(bf I)),(440009,(be O))],[5,6,9,10,11,16,17,440001,50,440009,1440001,440001]⟩
abbrev PX:Prop:=∀{H:Int} {I:b7} {J:Int} {N:Int} {O:c6},L1 H I J N O=some r→LP (xU M z) (Aw M z r) JF (cat Tryz.f100 (pn 32596)) m1 (RN l b G v4 v5 o H I J N O)
abbrev D1:Prop:=∀{a:Int} {y:b7},L2 a y=some r→LP (xU M z) (Aw M z r) Ie (cat Tryz.f100 (pn 1048564)) m2 (UI l b o d e f g j q t u w x a y)
variable{M z r l b G v4 v5 v6 v7 v8 o H I J N O A B C D d e f g a0 E c0 j P d0 Q q t u b0 e0 f0 w x a y F g0 h0 m1 m2 L1 L2}{K:Kn}{n:Nat}[SG z][PF v5.Layout]
def Vr(i:am K)(c:D1 M z r l b o d e f g j q t u w x m2 L2)(h:xC K n l b o d e f g j q t u w x a L2 h0=some r):lF M z r (.b 5::dU 8388519::y7 M z r m2) (abA l b o d e f g j q t u w x a h0):=by
 unfold xC at h;exact ah 2 (bu (c h))
def RU(y:am K)(p:D1 M z r l b o d e f g j q t u w x m2 L2)(h:zN K n l b o d e f g j q t u w x a F L2 g0=some r):lF M z r (dU 268432591 :: .b 5::dU 8388519::y7 M z r m2) (ZY l b o d e f g j q t u w x a F g0):=by
 unfold zN at h;obtain⟨c,h⟩|⟨c,h⟩:=ao h
 ·refine ai 244 c (br 2 1 (bV [6,10,11,12,13,15,24,199,200] [6,10,11,440001] [1054,440009] ?_));obtain⟨s,h⟩:=aB h;obtain⟨k,v,h⟩:=aw h;obtain⟨i,h⟩:=aB h;exact ci 1 (nu 245 [.ptr 11 66,.ref 1054,iI a,.ptr 11 66,.ref 1054,iI a,.eptr 1054 67 (a.toNat) 0,.agg (aC (gD F a)),.ptr 6 12,iI b.Content,.agg (aC k),.eptr 1054 67 (a.toNat) 0]) [] [] [eD 1054 ⟨44,67,lm aN (List.set F a.toNat k)⟩] (aE (vz 6) (bE (cD 1054 67 aN (L:=F) s) (bE (bJ 44 0 aN aC (bB i).2 (dV)) (aE (vz 2) (ax (cR 0 1 255 (Qy y v)) (bE (cD 1054 67 aN (L:=F) i) (ax (dq (m:=0) (dI 1054 44 67 0 aN aC k (bB i).2 (dV))) cg))))))) (ah 0 (Vr y p h))
 ·exact ai 244 c (ah 2 (Vr y p h))
def ad0(I:am K)(A:D1 M z r l b o d e f g j q t u w x m2 L2)(h:DP K n l b o d e f g j q t u w x L2 a y=some r):lF M z r (dU 1048564::y7 M z r m2) (UI l b o d e f g j q t u w x a y):=by
 unfold DP at h;refine av 6 7 3 ?_;obtain⟨s,h⟩|⟨s,h⟩:=ao h
 ·refine ai 201 s (cX 18 19 5 3 7 (bV [6,10,11,12,13,15,24,199,200] [6,10,11,440001] [1054,440009] ?_));obtain⟨B,h⟩:=aB h;obtain⟨i,h⟩:=aB h;refine ci 1 (nu 203 [.ptr 11 66,.ref 1054,iI a,.eptr 1054 67 (a.toNat) 0,.eptr 1054 67 (a.toNat) 2,iI ((gD y a).X),.ptr 6 4,.ptr 6 7,iI b.Border.a3,.ptr 6 8,.ptr 6 11,iI b.Padding.a3,iI (aa (b.Border.a3+b.Padding.a3)),iI (aa (((gD y a).X)+(aa (b.Border.a3+b.Padding.a3)))),.eptr 1054 67 (a.toNat) 0,.eptr 1054 67 (a.toNat) 2]) [] [] [eD 1054 ⟨44,67,lm aN (List.set y a.toNat ({ (gD y a)with X:=(aa (((gD y a).X)+(aa (b.Border.a3+b.Padding.a3)))) }:ab))⟩] (aE (vz 3) (bE (cD 1054 67 aN (L:=y) B) (aE [.v 0 1] (bE (bJ 3 2 aN aC (bB i).2 (dV)) (aE (vz 8) (ax (fv (lo:=0) (k:=2) (di ⟨(by kernel_rfl),(dp (cD 1054 67 aN (L:=y) i) (by kernel_rfl))⟩ (di ⟨(by kernel_rfl),(dp (cD 1054 67 aN (L:=(List.set y a.toNat ({ (gD y a)with X:=(aa (((gD y a).X)+(aa (b.Border.a3+b.Padding.a3)))) }:ab))) i) (by kernel_rfl))⟩ fG))) (aE [.v 0 1] (ax (dq (m:=0) (dI 1054 44 67 2 aN aC ({ (gD y a)with X:=(aa (((gD y a).X)+(aa (b.Border.a3+b.Padding.a3)))) }:ab) (bB i).2 (dV))) cg)))))))) ?_
  obtain⟨c,C,h⟩:=cc h;refine bC (ks':=dU 134216294::dU 134216295 :: .b 5::dU 8388519::y7 M z r m2) 1 ⟨[(6,.ptr 6 0),(10,.ptr 10 0),(11,.ptr 11 0),(12,.sl (lm aP o.1)),(13,.bool o.2),(15,iI j),(24,iI a),(199,iI (d.length:Int)),(200,iI a)],[(6,cC b),(10,List.set (aC bU) 66 (.nils)),(11,List.set (aC (⟨1,l.Node,b.Margin.a3,0,(aa (b.Content+w)),x,0,⟨#[]⟩,l.Style,q,t,u,[]⟩:ab)) 66 (.ref 1054)),(ac e f)],[(1054,(bf c)),(440009,(be g))],[6,10,11,440001,1054,440009,1440001,440001]⟩ ?_ (by subst C;kernel_rfl);obtain⟨D,h⟩:=aB h;obtain⟨p,h⟩:=aB h;refine ci 1 (nu 219 [.ptr 11 66,.ref 1054,iI a,.eptr 1054 67 (a.toNat) 0,.eptr 1054 67 (a.toNat) 3,iI ((gD c a).Y),.ptr 6 4,.ptr 6 4,iI b.Border.a0,.ptr 6 8,.ptr 6 8,iI b.Padding.a0,iI (aa (b.Border.a0+b.Padding.a0)),iI j,iI (aa ((aa (b.Border.a0+b.Padding.a0))+j)),iI (aa (((gD c a).Y)+(aa ((aa (b.Border.a0+b.Padding.a0))+j)))),.eptr 1054 67 (a.toNat) 0,.eptr 1054 67 (a.toNat) 3]) [] [] [eD 1054 ⟨44,67,lm aN (List.set c a.toNat ({ (gD c a)with Y:=(aa (((gD c a).Y)+(aa ((aa (b.Border.a0+b.Padding.a0))+j)))) }:ab))⟩] (aE (vz 3) (bE (cD 1054 67 aN (L:=c) D) (aE [.v 0 1] (bE (bJ 3 3 aN aC (bB p).2 (dV)) (aE (vz 10) (ax (fv (lo:=0) (k:=2) (di ⟨(by kernel_rfl),(dp (cD 1054 67 aN (L:=c) p) (by kernel_rfl))⟩ (di ⟨(by kernel_rfl),(dp (cD 1054 67 aN (L:=(List.set c a.toNat ({ (gD c a)with Y:=(aa (((gD c a).Y)+(aa ((aa (b.Border.a0+b.Padding.a0))+j)))) }:ab))) p) (by kernel_rfl))⟩ fG))) (aE [.v 0 1] (ax (dq (m:=0) (dI 1054 44 67 3 aN aC ({ (gD c a)with Y:=(aa (((gD c a).Y)+(aa ((aa (b.Border.a0+b.Padding.a0))+j)))) }:ab) (bB p).2 (dV))) cg)))))))) ?_
  obtain⟨F,E,h⟩:=cc h;refine bC (ks':=dU 268432590::dU 268432591 :: .b 5::dU 8388519::y7 M z r m2) 1 ⟨[(6,.ptr 6 0),(10,.ptr 10 0),(11,.ptr 11 0),(12,.sl (lm aP o.1)),(13,.bool o.2),(15,iI j),(24,iI a),(199,iI (d.length:Int)),(200,iI a)],[(6,cC b),(10,List.set (aC bU) 66 (.nils)),(11,List.set (aC (⟨1,l.Node,b.Margin.a3,0,(aa (b.Content+w)),x,0,⟨#[]⟩,l.Style,q,t,u,[]⟩:ab)) 66 (.ref 1054)),(ac e f)],[(1054,(bf F)),(440009,(be g))],[6,10,11,440001,1054,440009,1440001,440001]⟩ ?_ (by subst E;kernel_rfl);refine aj 2 ?_;obtain⟨v,h⟩|⟨v,h⟩:=ao h
  ·refine aF 238 v (aW 4 2 ?_);obtain⟨G,h⟩:=aB h;refine au (bX aP aD G (gB) (eE)) (aW 6 1 ?_);obtain⟨J,H,h⟩:=aw h;exact aR (QC I H) (ae (ah 0 (RU I A h)))
  ·exact aF 238 v (ae (ah 0 (RU I A h)))
 ·refine ai 201 s (aM 8 (jz 1054 ?_));cases h;exact gI
def abN(a:am K)(m:Nat):D1 M z r l b o d e f g j q t u w x m (wC K n l b o d e f g j q t u w x m):=by
 induction m with
 | zero=>exact fun h=>nomatch h
 | succ m c=>exact fun h=>bq (ad0 a c h)
def Sn(i:am K)(h:vk K n l b o d e f g j q t u f0=some r):lF M z r [dU 8191] (aa7 l b o d e f g j q t u f0):=by
 unfold vk at h;refine av 6 7 3 (bV [6,10,11,12,13,14,15] [6,10,11,440001] [1054,440009] ?_);obtain⟨w,a,h⟩:=aw h;refine ci 1 (nu 173 [.ptr 6 12,iI b.Content,.agg (cC b),iI w,iI (aa (b.Content+w)),.ptr 11 4]) [] [] [cF aT 259 Tryz.f100 (pn 32766) 6] (aE (vz 3) (ax (cR 0 1 176 (abi i a)) (aE (vz 2) (ax (cE 0) cg)))) ?_;obtain⟨x,c,h⟩:=cc h;refine bC (ks':=[dU 262140,dU 262141,dU 131071]) 4 ⟨[(6,.ptr 6 0),(10,.ptr 10 0),(11,.ptr 11 0),(12,.sl (lm aP o.1)),(13,.bool o.2),(15,iI j)],[(6,cC b),(10,List.set (aC bU) 66 (.nils)),(11,List.set (aC (⟨1,l.Node,b.Margin.a3,0,(aa (b.Content+w)),x,0,⟨#[]⟩,l.Style,q,t,u,[]⟩:ab)) 66 (.ref 1054)),(ac e f)],[(1054,(bf d)),(440009,(be g))],[6,10,11,440001,1054,440009,1440001,440001]⟩ ?_ (by subst c;kernel_rfl);exact aj 2 (au (bF aN d) (ae (ah 1 (cf (p:=pn 524282) n (abN i n h)))))
def WC(c:am K)(h:yE K n l b o d e f g j Q q t u b0 e0=some r):lF M z r [dU 32763,dU 8191] (ahv l b o d e f g j Q q t u b0 e0):=by
 unfold yE at h;obtain⟨a,h⟩|⟨a,h⟩:=ao h
 ·exact ai 166 a (ah 2 (Sn c h))
 ·exact ai 166 a (ah 2 (Sn c h))
def xK(i:am K)(h:nW K n l b o d e f g j Q q t u=some r):lF M z r [.b 3,dU 2047] (abC l b o d e f g j Q q t u):=by
 unfold nW at h;refine n9 12 13 7 5 (aj 3 ?_);obtain⟨b0,c,h⟩:=aw h;refine aR (eN i c) (ae (av 2 3 1 (aj 2 ?_)));obtain⟨a,h⟩|⟨a,h⟩:=ao h
 ·exact aF 160 a (ae (ah 0 (WC i h)))
 ·exact aF 160 a (ae (ah 0 (WC i h)))
def GO(a:am K)(h:vW K n l b v4 o A B C D d e f g E j P d0=some r):lF M z r [dU 8185,.b 3,dU 2047] (aiH l b v4 o A B C D d e f g E j P d0):=by
 unfold vW at h;obtain⟨c,h⟩|⟨c,h⟩:=ao h
 ·refine ai 113 c (av 4 5 2 (aj 4 ?_));obtain⟨u,p,h⟩:=aw h;exact aR (xc a p) (ae (ah 5 (xK a h)))
 ·refine ai 113 c (br 7 3 ?_);obtain⟨i,h⟩|⟨i,h⟩:=ao h
  ·refine ai 131 i (br 11 5 ?_);obtain⟨k,h⟩|⟨k,h⟩:=ao h
   ·refine ai 134 k (br 2 1 (aj 3 ?_));obtain⟨v,q,h⟩:=aw h;exact aR (xc a q) (ae (ah 0 (xK a h)))
   ·exact ai 134 k (ah 2 (xK a h))
  ·refine ai 131 i (br 7 3 ?_);obtain⟨m,h⟩|⟨m,h⟩:=ao h
   ·refine ai 140 m (av 4 5 2 (aj 3 ?_));obtain⟨w,s,h⟩:=aw h;exact aR (xc a s) (ae (ah 1 (xK a h)))
   ·refine ai 140 m (br 3 1 (aj 3 ?_));obtain⟨x,t,h⟩:=aw h;exact aR (n8 a t) (ae (ah 0 (xK a h)))
def Hh(i:am K)(h:tV K n l b G v4 o A B C D d e f g E j P=some r):lF M z r [.b 2,dU 1023] (Yu l b G v4 o A B C D d e f g E j P):=by
 unfold tV at h;refine cX 8 9 3 3 4 (aj 2 ?_);obtain⟨a,h⟩|⟨a,h⟩:=ao h
 ·refine aF 115 a (aW 5 3 ?_);obtain⟨c,h⟩|⟨c,h⟩:=ao h
  ·exact aF 118 c (ae (ah 0 (GO i h)))
  ·exact aF 118 c (ae (ah 0 (GO i h)))
 ·exact aF 115 a (ae (ah 0 (GO i h)))
def Qj(i:am K)(h:yI K n l b G v4 o A B C D d e f g a0 E c0=some r):lF M z r [dU 16359,.b 2,dU 1023] (Xh l b G v4 o A B C D d e f g a0 E c0):=by
 unfold yI at h;obtain⟨a,h⟩|⟨a,h⟩:=ao h
 ·refine ai 98 a (br 2 1 (aj 1 ?_));obtain⟨j,c,h⟩:=aw h;exact aR (n8 i c) (ae (ah 0 (Hh i h)))
 ·exact ai 98 a (ah 2 (Hh i h))
def PG(i:am K)(h:rp K n l b G v4 o A B C D d e f g=some r):lF M z r [dU 255] (aen l b G v4 o A B C D d e f g):=by
 unfold rp at h;refine av 2 3 1 (bV [2,3,5,6,10,11,12,13,14,15,16,17,18] [5,6,10,11,16,17,440001] [1054,440009] ?_);obtain⟨a0,j,h⟩:=aw h;obtain⟨E,k,h⟩:=aw h;refine ci 2 (nu 81 [.ptr 6 0,.ptr 6 0,iI b.Margin.a0,.agg (c8 a0),.ptr 6 0,.ptr 6 2,iI b.Margin.a2,.agg (c8 E),.ptr 11 61,.ptr 11 63]) [] [] [cF aT 259 Tryz.f100 (pn 510) 9,cF aT 259 Tryz.f100 (pn 510) 11] (aE (vz 3) (ax (cR 0 1 84 (BD i j)) (aE [.v 0 2,.v 0 2,.v 0 2] (ax (cR 0 1 88 (BD i k)) (aE [.v 0 1] (ax (cE 0) (aE [.v 1 1] (ax (cE 1) cg)))))))) (jb 9 2 3 4 ?_);obtain⟨a,h⟩|⟨a,h⟩:=ao h
 ·refine ai 91 a (br 2 1 (aj 3 ?_));obtain⟨p,m,h⟩:=aw h;exact aR (xc i m) (ae (ah 0 (Hh i h)))
 ·refine ai 91 a (av 6 7 2 (aj 3 ?_));obtain⟨c,h⟩|⟨c,h⟩:=ao h
  ·exact aF 101 c (ae (ah 0 (Qj i h)))
  ·exact aF 101 c (ae (ah 0 (Qj i h)))
def ahd(e:am K)(k:PX M z r l b G v4 v5 o m1 L1)(h:Dx K n l b G v4 v5 o L1 H I J N O=some r):lF M z r (dU 32596::ahB M z r m1) (RN l b G v4 v5 o H I J N O):=by
 unfold Dx at h;refine av 6 7 3 ?_;obtain⟨a,h⟩|⟨a,h⟩:=ao h
 ·refine ai 39 a (cX 8 9 1 3 5 (aj 0 ?_));obtain⟨f,h⟩:=aB h;refine au (bX aP aD f (gB) (eE)) (ae (aj 6 ?_));obtain⟨d,c,h⟩:=aw h;refine rx (e.dE c).2 ?_ (e.dE c).1;refine au (ii aN ([d.1]:b7) (new:=[aC d.1]) (by simp only[n5,u7,dV])) ?_;obtain⟨g,h⟩:=aB h;exact au (cG 50 50 44 67 aN (rfl) (ky) g) (ae (ah 2 (bu (k h))))
 ·refine ai 39 a (bW (ks':=[dU 4075,dU 255]) 5 (aj 1 (ny 50 ?_)));obtain⟨m,j,h⟩:=aw h;exact fc 1054 (acb e j) (Du (i:=0) rfl) (ae (ah 0 (PG e h)))
def aiO(a:am K)(m:Nat):PX M z r l b G v4 v5 o m (sv K n l b G v4 v5 o m):=by
 induction m with
 | zero=>exact fun h=>nomatch h
 | succ m c=>exact fun h=>bq (ahd a c h)
def WN(a:am K)(h:kH K n l b G v4 v5 v6 v7 v8=some r):eO aT 100 [.agg (aD l),.agg (cC b),.bool G,.bool v4,.agg (ce v5)] [(ac v6 v7)] (be v8) (fun v s=>v=.agg (aC r.1)∧cB s.o [(ac r.2.1 r.2.2.1)]∧look 440009 s.r=some (be r.2.2.2)):=by
 refine kx (c:=cat Tryz.f100 []) Tryz.func100 (by kernel_rfl) _ Tryz.ntmps100 (il (by kernel_rfl)) fun M z=>(bn ⟨[(0,.agg (aD l)),(1,.agg (cC b)),(2,.bool G),(3,.bool v4),(4,.agg (ce v5))],[(ac v6 v7)],[(440009,(be v8))],[440009,440001,1440001]⟩ ?_);unfold kH at h;refine bW (ks':=[dU 14,dU 15]) 5 (aj 1 ?_);obtain⟨o,i,h⟩:=aw h;refine aR (Po a i) (ae (av 61 31 9 ?_));obtain⟨f,h⟩|⟨f,h⟩:=ao h
 ·exact ai 35 f (cj 20 21 11 5 (aj 1 (au (bF aP o.1) (ae (ic 2 0 1 (bV [2,3,5,6,9,10,11,12,13,15,16,17,19,36,37,38] [5,6,9,10,11,16,17,440001] [440009] (fQ 50 19 44 67 (ah 0 (cf (p:=pn 16298) n (aiO a n h))))))))))
 ·refine ai 35 f (av 6 7 2 (aj 7 ?_));obtain⟨j,d,h⟩:=aw h;refine oB (a.wH d) (ae (av 2 3 1 (aj 2 ?_)));obtain⟨g,e,h⟩:=aw h;exact fc 1075 (Lh a e) (fk 5) (ae (aj 2 (au (bF aN g) (ae (bV [2,3,5,6,10,11,12,13,14,15,16,17,18] [5,6,10,11,16,17,440001] [1075,440009] (rf 1075 1054 (ah 0 (PG a h))))))))
end
section
variable[GS](M:Nat→Prop)(d:az)(r:ab×Int×Int×c6)(a:ag)(g:Int)(b:bN)(v4 v5:Int)(v6:c6)(e:cb)(f i:Bool)  
abbrev B5(n:Nat):aq:=.c (cat Tryz.f47 (pn n))
abbrev aet:Cx:=⟨aT,58,M,d⟩
abbrev Xb:=bodyPost aT Tryz.f47 (bP M d (fun v s=>v=.agg (aC r.1)∧cB s.o [(ac r.2.1 r.2.2.1)]∧look 440009 s.r=some (be r.2.2.2)))
abbrev PZ(a:ck)(s:AS):=VE (aet M d) (Xb M d r) a .normal s
def aak:AS:=⟨[(3,.ptr 3 0),(5,.ptr 5 0),(6,.ptr 6 0),(7,.ptr 7 0),(9,.bool f),(10,.bool i)],[(3,aD a),(5,ce b),(6,List.set (aC bU) 66 (.nils)),(7,cC e),(ac v4 v5)],[(440009,(be v6))],[3,5,6,7,440001,440009,1440001,440001]⟩
def akx:AS:=⟨[(3,.ptr 3 0),(5,.ptr 5 0),(6,.ptr 6 0),(7,.ptr 7 0),(8,.bool (a.Style.Overflow == 0)),(9,.bool f)],[(3,aD a),(5,ce b),(6,List.set (aC bU) 66 (.nils)),(7,cC e),(ac v4 v5)],[(440009,(be v6))],[3,5,6,7,440001,440009,1440001,440001]⟩
variable{M d r a g b v4 v5 v6 e f i}{K:Kn}{n:Nat}[SG d][PF b.Layout]
def Bq(g:am K)(h:uz K n a b v4 v5 v6 e f i=some r):PZ M d r [B5 63] (aak a b v4 v5 v6 e f i):=by
 unfold uz at h;refine av 2 3 1 (aj 5 ?_);obtain⟨j,c,h⟩:=aw h;refine rx (WN g c) (ae (aM 1 ?_));cases h;exact gI
def HT(c:am K)(h:oo K n a b v4 v5 v6 e f=some r):PZ M d r [B5 31] (akx a b v4 v5 v6 e f):=by
 unfold oo at h;refine av 2 3 1 (aj 2 ?_);obtain⟨g,h⟩|⟨g,h⟩:=ao h
 ·refine aF 33 g (aW 8 6 ?_);obtain⟨i,h⟩|⟨i,h⟩:=ao h
  ·refine aF 39 i (aW 14 6 ?_);obtain⟨j,h⟩|⟨j,h⟩:=ao h
   ·exact aF 45 j (ae (ah 0 (Bq c h)))
   ·exact aF 45 j (ae (ah 0 (Bq c h)))
  ·exact aF 39 i (ae (ah 0 (Bq c h)))
 ·exact aF 33 g (ae (ah 0 (Bq c h)))
def aeA(f:am K)(h:pL K n a g b v4 v5 v6=some r):eO aT 47 [.agg (aD a),iI g,.agg (ce b)] [(ac v4 v5)] (be v6) (fun v s=>v=.agg (aC r.1)∧cB s.o [(ac r.2.1 r.2.2.1)]∧look 440009 s.r=some (be r.2.2.2)):=by
 refine kx (c:=cat Tryz.f47 []) Tryz.func47 (by kernel_rfl) _ Tryz.ntmps47 (il (by kernel_rfl)) fun M d=>(bn ⟨[(0,.agg (aD a)),(1,iI g),(2,.agg (ce b))],[(ac v4 v5)],[(440009,(be v6))],[440009,440001,1440001]⟩ ?_);unfold pL at h;refine bW (ks':=[B5 6,B5 7]) 3 (aj 3 ?_);obtain⟨e,k,h⟩:=aw h;refine aR (K2 f k) (ae (av 6 7 3 (aj 2 ?_)));obtain⟨i,h⟩|⟨i,h⟩:=ao h
 ·refine aF 20 i (aW 8 6 ?_);obtain⟨j,h⟩|⟨j,h⟩:=ao h
  ·exact aF 26 j (ae (ah 0 (HT f h)))
  ·exact aF 26 j (ae (ah 0 (HT f h)))
 ·exact aF 20 i (ae (ah 0 (HT f h)))
end
section
variable[GS](M:Nat→Prop)(e:az)(r:ab×Int×Int×c6)(b:ag)(d:Int)(q:Bool)(v4:bN)(v5:Bool)(v6 t:Int)(u:c6)(f g:Int)(i:c6)(a:ab)(j k:Int)(l:c6)(m o:Int)(p:c6)  
abbrev vP(n:Nat):aq:=.c (cat Tryz.f43 (pn n))
abbrev Y4:Cx:=⟨aT,54,M,e⟩
abbrev YM:=bodyPost aT Tryz.f43 (bP M e (fun v s=>v=.agg (aC r.1)∧cB s.o [(ac r.2.1 r.2.2.1)]∧look 440009 s.r=some (be r.2.2.2)))
abbrev Fo(a:ck)(s:AS):=VE (Y4 M e) (YM M e r) a .normal s
def ai4:AS:=⟨[(7,.ptr 7 0),(10,.ptr 10 0)],[(7,List.set (aC bU) 66 (.nils)),(10,aC a),(ac m o)],[(440009,(be p))],[7,10,440001,440009,1440001,440001]⟩
def acA:AS:=⟨[(1,iI d),(4,.cptr ([eQ 37 v5])),(5,.ptr 5 0),(7,.ptr 7 0),(10,.ptr 10 0)],[(5,aD b),(7,List.set (aC bU) 66 (.nils)),(10,aC a),(ac j k)],[(440009,(be l))],[5,7,10,440001,440009,1440001,440001]⟩
def YJ:AS:=⟨[(1,iI d),(3,.cptr (ce v4)),(4,.cptr ([eQ 37 v5])),(5,.ptr 5 0),(7,.ptr 7 0)],[(5,aD b),(7,List.set (aC bU) 66 (.nils)),(ac f g)],[(440009,(be i))],[5,7,440001,440009,1440001,440001]⟩
variable{M e r b d q v4 v5 v6 t u f g i a j k l m o p}{K:Kn}{n:Nat}[SG e][LK q][PF v4.Layout][LK v5]
def QP(b:am K)(h:DY K n a m o p=some r):Fo M e r [vP 63] (ai4 a m o p):=by
 unfold DY at h;refine aM 3 ?_;cases h;exact gI
def U2(i:am K)(h:vu K n b d v5 a j k l=some r):Fo M e r [.b 0,vP 31] (acA b d v5 a j k l):=by
 unfold vu at h;refine n9 4 5 3 3 (aj 1 (U4 37 v5 .neq 89 89 (.tmp 46) (.const .nilFunc) 47 (ae ?_)));obtain⟨c,h⟩|⟨c,h⟩:=ao h
 ·refine ai 47 c (br 2 1 (aj 4 ?_));obtain⟨f,h⟩:=aB h;obtain⟨m,g,h⟩:=aw h;refine Ir 48 (v:=eQ 37 v5) (v':=.vv (jI 37 GS.g)) (by kernel_rfl) (by rw[f];rfl) rfl ?_;haveI:RG:=LK.rg f;exact V8 (ajt i g) (ae (ah 0 (QP i h)))
 ·exact ai 47 c (ah 2 (QP i h))
def Vk(a:am K)(h:tr K n b d v4 v5 f g i=some r):Fo M e r [vP 7] (YJ b d v4 v5 f g i):=by
 unfold tr at h;refine jb 53 0 7 8 ?_;obtain⟨c,h⟩|⟨c,h⟩:=ao h
 ·refine ai 28 c (br 2 1 (aj 3 ?_));obtain⟨o,l,h⟩:=aw h;exact rx (acl a l) (ae (ah 0 (U2 a h)))
 ·refine ai 28 c (br 7 3 ?_);obtain⟨j,h⟩|⟨j,h⟩:=ao h
  ·refine ai 34 j ?_;cases h
  ·refine ai 34 j (br 7 3 ?_);obtain⟨k,h⟩|⟨k,h⟩:=ao h
   ·refine ai 40 k ?_;cases h
   ·refine ai 40 k (br 3 1 (aj 3 ?_));obtain⟨p,m,h⟩:=aw h;exact rx (aeA a m) (ae (ah 0 (U2 a h)))
def abr(g:am K)(h:kz K n b d q v4 v5 v6 t u=some r):eO aT 43 [.agg (aD b),iI d,.cptr ([eQ 36 q]),.cptr (ce v4),.cptr ([eQ 37 v5])] [(ac v6 t)] (be u) (fun v s=>v=.agg (aC r.1)∧cB s.o [(ac r.2.1 r.2.2.1)]∧look 440009 s.r=some (be r.2.2.2)):=by
 refine kx (c:=cat Tryz.f43 []) Tryz.func43 (by kernel_rfl) _ Tryz.ntmps43 (il (by kernel_rfl)) fun M e=>(bn ⟨[(0,.agg (aD b)),(1,iI d),(2,.cptr ([eQ 36 q])),(3,.cptr (ce v4)),(4,.cptr ([eQ 37 v5]))],[(ac v6 t)],[(440009,(be u))],[440009,440001,1440001]⟩ ?_);unfold kz at h;refine bW (ks':=[vP 12,vP 13,vP 7]) 4 (aj 1 (U4 36 q .neq 66 66 (.tmp 11) (.const .nilFunc) 12 (ae ?_)));obtain⟨a,h⟩|⟨a,h⟩:=ao h
 ·refine ai 12 a (av 4 5 2 (aj 3 ?_));obtain⟨i,h⟩:=aB h;obtain⟨k,j,h⟩:=aw h;refine Ir 14 (v:=eQ 36 q) (v':=.vv (jI 36 GS.g)) (by kernel_rfl) (by rw[i];rfl) rfl ?_;haveI:RG:=LK.rg i;refine V8 (adP g j) (ae (br 3 2 ?_));obtain⟨f,h⟩|⟨f,h⟩:=ao h
  ·refine ai 20 f (aM 5 ?_);cases h;exact gI
  ·exact ai 20 f (ah 2 (Vk g h))
 ·exact ai 12 a (ah 2 (Vk g h))
end
section
variable[GS](M:Nat→Prop)(b:az)(r o:aO)(a:Nat)(p v4 v5 v6 q t u d f g k:aO)  
abbrev eV(n:Nat):aq:=.c (cat Tryz.f101 (pn n))
abbrev Ji:Cx:=⟨aT,40,M,b⟩
abbrev H8:=bodyPost aT Tryz.f101 (bP M b (fun v _=>v=.agg (aG r)))
abbrev lN(a:ck)(s:AS):=VE (Ji M b) (H8 M b r) a .normal s
def ae6:AS:=⟨[(1,.pp 1 a 0),(2,.ptr 2 0),(24,.ref 10),(25,iI 11),(26,iI 10)],[(1,aG k),(2,aG cu)],[(10,⟨201,1,lm aY (af a)⟩)],[1,2,10]⟩
def aa6:AS:=⟨[(1,.pp 1 a 0),(2,.ptr 2 0),(24,.ref 10),(25,iI 11),(26,iI 9)],[(1,aG g),(2,aG cu)],[(10,⟨201,1,lm aY (af a)⟩)],[1,2,10]⟩
def aip:AS:=⟨[(1,.pp 1 a 0),(2,.ptr 2 0),(24,.ref 10),(25,iI 11),(26,iI 8)],[(1,aG f),(2,aG cu)],[(10,⟨201,1,lm aY (af a)⟩)],[1,2,10]⟩
def ajA:AS:=⟨[(1,.pp 1 a 0),(2,.ptr 2 0),(24,.ref 10),(25,iI 11),(26,iI 7)],[(1,aG d),(2,aG cu)],[(10,⟨201,1,lm aY (af a)⟩)],[1,2,10]⟩
def aeo:AS:=⟨[(1,.pp 1 a 0),(2,.ptr 2 0),(24,.ref 10),(25,iI 11),(26,iI 6)],[(1,aG u),(2,aG cu)],[(10,⟨201,1,lm aY (af a)⟩)],[1,2,10]⟩
def agH:AS:=⟨[(1,.pp 1 a 0),(2,.ptr 2 0),(24,.ref 10),(25,iI 11),(26,iI 5)],[(1,aG t),(2,aG cu)],[(10,⟨201,1,lm aY (af a)⟩)],[1,2,10]⟩
def ab5:AS:=⟨[(1,.pp 1 a 0),(2,.ptr 2 0),(24,.ref 10),(25,iI 11),(26,iI 4)],[(1,aG q),(2,aG cu)],[(10,⟨201,1,lm aY (af a)⟩)],[1,2,10]⟩
def afN:AS:=⟨[(1,.pp 1 a 0),(2,.ptr 2 0),(24,.ref 10),(25,iI 11),(26,iI 3)],[(1,aG v6),(2,aG cu)],[(10,⟨201,1,lm aY (af a)⟩)],[1,2,10]⟩
def af5:AS:=⟨[(1,.pp 1 a 0),(2,.ptr 2 0),(24,.ref 10),(25,iI 11),(26,iI 2)],[(1,aG v5),(2,aG cu)],[(10,⟨201,1,lm aY (af a)⟩)],[1,2,10]⟩
def ajI:AS:=⟨[(1,.pp 1 a 0),(2,.ptr 2 0),(24,.ref 10),(25,iI 11),(26,iI 1)],[(1,aG v4),(2,aG cu)],[(10,⟨201,1,lm aY (af a)⟩)],[1,2,10]⟩
def adV:AS:=⟨[(1,.pp 1 a 0),(2,.ptr 2 0),(24,.ref 10),(25,iI 11),(26,iI 0)],[(1,aG p),(2,aG cu)],[(10,⟨201,1,lm aY (af a)⟩)],[1,2,10]⟩
abbrev fj(m:Nat):ck:=kl (Ji M b) (H8 M b r) [.b 2,eV 31] (cat Tryz.f101 (pn 244)) m::[.b 2,eV 31]
abbrev xt(m:Nat):ck:=kl (Ji M b) (H8 M b r) [.b 0,eV 15] (cat Tryz.f101 (pn 116)) m::[.b 0,eV 15]
variable{M b r o a p v4 v5 v6 q t u d f g k}{K:Kn}{n:Nat}
def LM(c:am K)(h:z8 K n k=some r):lN M b r (.b 3::eV 1959::fj M b r 29) (ae6 a k):=by
 unfold z8 at h;refine bC (ks':=fj M b r 29) 2 ⟨[(1,.pp 1 a 0),(2,.ptr 2 0),(24,.ref 10),(25,iI 11),(26,iI 11)],[(1,aG k),(2,aG cu)],[(10,⟨201,1,lm aY (af a)⟩)],[1,2,10]⟩ (bu (bq (aM 11 ?_)));cases h;exact bD
def MQ(d:am K)(h:uF K n g=some r):lN M b r (.b 3::eV 1959::fj M b r 30) (aa6 a g):=by
 unfold uF at h;refine bC (ks':=fj M b r 30) 2 ⟨[(1,.pp 1 a 0),(2,.ptr 2 0),(24,.ref 10),(25,iI 11),(26,iI 10)],[(1,aG g),(2,aG cu)],[(10,⟨201,1,lm aY (af a)⟩)],[1,2,10]⟩ (bu (bq (dL 56 57 3 15 8 (aj 0 (au (cr 10 1 aY (L:=(af a)) (i:=(10:Int)) (by kernel_rfl)) (au (bJ 201 0 aY aY (L:=(af a)) (j:=(10:Int).toNat) (il (by kernel_rfl)) ap) (ae (av 2 3 1 (aj 3 (dc 32 1 1 a 28 0 (ae ?_)))))))))));obtain⟨c,h⟩|⟨c,h⟩:=ao h
 ·exact ai 34 c (br 2 1 (aj 3 (dc 37 1 1 a 28 0 (ae (ah 0 (LM d (a:=a) h))))))
 ·exact ai 34 c (ah 2 (LM d (a:=a) h))
def Q1(d:am K)(h:tB K n f=some r):lN M b r (.b 3::eV 1959::fj M b r 31) (aip a f):=by
 unfold tB at h;refine bC (ks':=fj M b r 31) 2 ⟨[(1,.pp 1 a 0),(2,.ptr 2 0),(24,.ref 10),(25,iI 11),(26,iI 9)],[(1,aG f),(2,aG cu)],[(10,⟨201,1,lm aY (af a)⟩)],[1,2,10]⟩ (bu (bq (dL 56 57 3 15 8 (aj 0 (au (cr 10 1 aY (L:=(af a)) (i:=(9:Int)) (by kernel_rfl)) (au (bJ 201 0 aY aY (L:=(af a)) (j:=(9:Int).toNat) (il (by kernel_rfl)) ap) (ae (av 2 3 1 (aj 3 (dc 32 1 1 a 20 0 (ae ?_)))))))))));obtain⟨c,h⟩|⟨c,h⟩:=ao h
 ·exact ai 34 c (br 2 1 (aj 3 (dc 37 1 1 a 20 0 (ae (ah 0 (MQ d (a:=a) h))))))
 ·exact ai 34 c (ah 2 (MQ d (a:=a) h))
def Vp(e:am K)(h:tL K n d=some r):lN M b r (.b 3::eV 1959::fj M b r 32) (ajA a d):=by
 unfold tL at h;refine bC (ks':=fj M b r 32) 2 ⟨[(1,.pp 1 a 0),(2,.ptr 2 0),(24,.ref 10),(25,iI 11),(26,iI 8)],[(1,aG d),(2,aG cu)],[(10,⟨201,1,lm aY (af a)⟩)],[1,2,10]⟩ (bu (bq (dL 56 57 3 15 8 (aj 0 (au (cr 10 1 aY (L:=(af a)) (i:=(8:Int)) (by kernel_rfl)) (au (bJ 201 0 aY aY (L:=(af a)) (j:=(8:Int).toNat) (il (by kernel_rfl)) ap) (ae (av 2 3 1 (aj 3 (dc 32 1 1 a 26 0 (ae ?_)))))))))));obtain⟨c,h⟩|⟨c,h⟩:=ao h
 ·exact ai 34 c (br 2 1 (aj 3 (dc 37 1 1 a 26 0 (ae (ah 0 (Q1 e (a:=a) h))))))
 ·exact ai 34 c (ah 2 (Q1 e (a:=a) h))
def O8(d:am K)(h:we K n u=some r):lN M b r (.b 3::eV 1959::fj M b r 33) (aeo a u):=by
 unfold we at h;refine bC (ks':=fj M b r 33) 2 ⟨[(1,.pp 1 a 0),(2,.ptr 2 0),(24,.ref 10),(25,iI 11),(26,iI 7)],[(1,aG u),(2,aG cu)],[(10,⟨201,1,lm aY (af a)⟩)],[1,2,10]⟩ (bu (bq (dL 56 57 3 15 8 (aj 0 (au (cr 10 1 aY (L:=(af a)) (i:=(7:Int)) (by kernel_rfl)) (au (bJ 201 0 aY aY (L:=(af a)) (j:=(7:Int).toNat) (il (by kernel_rfl)) ap) (ae (av 2 3 1 (aj 3 (dc 32 1 1 a 18 0 (ae ?_)))))))))));obtain⟨c,h⟩|⟨c,h⟩:=ao h
 ·exact ai 34 c (br 2 1 (aj 3 (dc 37 1 1 a 18 0 (ae (ah 0 (Vp d (a:=a) h))))))
 ·exact ai 34 c (ah 2 (Vp d (a:=a) h))
def QD(d:am K)(h:tk K n t=some r):lN M b r (.b 3::eV 1959::fj M b r 34) (agH a t):=by
 unfold tk at h;refine bC (ks':=fj M b r 34) 2 ⟨[(1,.pp 1 a 0),(2,.ptr 2 0),(24,.ref 10),(25,iI 11),(26,iI 6)],[(1,aG t),(2,aG cu)],[(10,⟨201,1,lm aY (af a)⟩)],[1,2,10]⟩ (bu (bq (dL 56 57 3 15 8 (aj 0 (au (cr 10 1 aY (L:=(af a)) (i:=(6:Int)) (by kernel_rfl)) (au (bJ 201 0 aY aY (L:=(af a)) (j:=(6:Int).toNat) (il (by kernel_rfl)) ap) (ae (av 2 3 1 (aj 3 (dc 32 1 1 a 24 0 (ae ?_)))))))))));obtain⟨c,h⟩|⟨c,h⟩:=ao h
 ·exact ai 34 c (br 2 1 (aj 3 (dc 37 1 1 a 24 0 (ae (ah 0 (O8 d (a:=a) h))))))
 ·exact ai 34 c (ah 2 (O8 d (a:=a) h))
def Rf(d:am K)(h:wk K n q=some r):lN M b r (.b 3::eV 1959::fj M b r 35) (ab5 a q):=by
 unfold wk at h;refine bC (ks':=fj M b r 35) 2 ⟨[(1,.pp 1 a 0),(2,.ptr 2 0),(24,.ref 10),(25,iI 11),(26,iI 5)],[(1,aG q),(2,aG cu)],[(10,⟨201,1,lm aY (af a)⟩)],[1,2,10]⟩ (bu (bq (dL 56 57 3 15 8 (aj 0 (au (cr 10 1 aY (L:=(af a)) (i:=(5:Int)) (by kernel_rfl)) (au (bJ 201 0 aY aY (L:=(af a)) (j:=(5:Int).toNat) (il (by kernel_rfl)) ap) (ae (av 2 3 1 (aj 3 (dc 32 1 1 a 16 0 (ae ?_)))))))))));obtain⟨c,h⟩|⟨c,h⟩:=ao h
 ·exact ai 34 c (br 2 1 (aj 3 (dc 37 1 1 a 16 0 (ae (ah 0 (QD d (a:=a) h))))))
 ·exact ai 34 c (ah 2 (QD d (a:=a) h))
def Ru(d:am K)(h:tQ K n v6=some r):lN M b r (.b 3::eV 1959::fj M b r 36) (afN a v6):=by
 unfold tQ at h;refine bC (ks':=fj M b r 36) 2 ⟨[(1,.pp 1 a 0),(2,.ptr 2 0),(24,.ref 10),(25,iI 11),(26,iI 4)],[(1,aG v6),(2,aG cu)],[(10,⟨201,1,lm aY (af a)⟩)],[1,2,10]⟩ (bu (bq (dL 56 57 3 15 8 (aj 0 (au (cr 10 1 aY (L:=(af a)) (i:=(4:Int)) (by kernel_rfl)) (au (bJ 201 0 aY aY (L:=(af a)) (j:=(4:Int).toNat) (il (by kernel_rfl)) ap) (ae (av 2 3 1 (aj 3 (dc 32 1 1 a 22 0 (ae ?_)))))))))));obtain⟨c,h⟩|⟨c,h⟩:=ao h
 ·exact ai 34 c (br 2 1 (aj 3 (dc 37 1 1 a 22 0 (ae (ah 0 (Rf d (a:=a) h))))))
 ·exact ai 34 c (ah 2 (Rf d (a:=a) h))
def Vu(d:am K)(h:u9 K n v5=some r):lN M b r (.b 3::eV 1959::fj M b r 37) (af5 a v5):=by
 unfold u9 at h;refine bC (ks':=fj M b r 37) 2 ⟨[(1,.pp 1 a 0),(2,.ptr 2 0),(24,.ref 10),(25,iI 11),(26,iI 3)],[(1,aG v5),(2,aG cu)],[(10,⟨201,1,lm aY (af a)⟩)],[1,2,10]⟩ (bu (bq (dL 56 57 3 15 8 (aj 0 (au (cr 10 1 aY (L:=(af a)) (i:=(3:Int)) (by kernel_rfl)) (au (bJ 201 0 aY aY (L:=(af a)) (j:=(3:Int).toNat) (il (by kernel_rfl)) ap) (ae (av 2 3 1 (aj 3 (dc 32 1 1 a 14 0 (ae ?_)))))))))));obtain⟨c,h⟩|⟨c,h⟩:=ao h
 ·exact ai 34 c (br 2 1 (aj 3 (dc 37 1 1 a 14 0 (ae (ah 0 (Ru d (a:=a) h))))))
 ·exact ai 34 c (ah 2 (Ru d (a:=a) h))
def NQ(d:am K)(h:vL K n v4=some r):lN M b r (.b 3::eV 1959::fj M b r 38) (ajI a v4):=by
 unfold vL at h;refine bC (ks':=fj M b r 38) 2 ⟨[(1,.pp 1 a 0),(2,.ptr 2 0),(24,.ref 10),(25,iI 11),(26,iI 2)],[(1,aG v4),(2,aG cu)],[(10,⟨201,1,lm aY (af a)⟩)],[1,2,10]⟩ (bu (bq (dL 56 57 3 15 8 (aj 0 (au (cr 10 1 aY (L:=(af a)) (i:=(2:Int)) (by kernel_rfl)) (au (bJ 201 0 aY aY (L:=(af a)) (j:=(2:Int).toNat) (il (by kernel_rfl)) ap) (ae (av 2 3 1 (aj 3 (dc 32 1 1 a 12 0 (ae ?_)))))))))));obtain⟨c,h⟩|⟨c,h⟩:=ao h
 ·exact ai 34 c (br 2 1 (aj 3 (dc 37 1 1 a 12 0 (ae (ah 0 (Vu d (a:=a) h))))))
 ·exact ai 34 c (ah 2 (Vu d (a:=a) h))
def Mz(d:am K)(h:tq K n p=some r):lN M b r (.b 3::eV 1959::fj M b r 39) (adV a p):=by
 unfold tq at h;refine bC (ks':=fj M b r 39) 2 ⟨[(1,.pp 1 a 0),(2,.ptr 2 0),(24,.ref 10),(25,iI 11),(26,iI 1)],[(1,aG p),(2,aG cu)],[(10,⟨201,1,lm aY (af a)⟩)],[1,2,10]⟩ (bu (bq (dL 56 57 3 15 8 (aj 0 (au (cr 10 1 aY (L:=(af a)) (i:=(1:Int)) (by kernel_rfl)) (au (bJ 201 0 aY aY (L:=(af a)) (j:=(1:Int).toNat) (il (by kernel_rfl)) ap) (ae (av 2 3 1 (aj 3 (dc 32 1 1 a 10 0 (ae ?_)))))))))));obtain⟨c,h⟩|⟨c,h⟩:=ao h
 ·exact ai 34 c (br 2 1 (aj 3 (dc 37 1 1 a 10 0 (ae (ah 0 (NQ d (a:=a) h))))))
 ·exact ai 34 c (ah 2 (NQ d (a:=a) h))
def agV(f:am K)(h:AL K n o=some r):aZ aT 101 [.agg (aG o)] (fun v _=>v=.agg (aG r)):=by
 refine bK (cat Tryz.f101 (pn 1)) Tryz.func101 Tryz.ntmps101 fun M b=>(bn ⟨[(0,.agg (aG o))],[],[],[]⟩ ?_);unfold AL at h;refine av 6 7 3 (Rz 1 1 0 fun a=>(aj 3 (UY 202 3 #[(0,(.tmp 7)),(1,(.tmp 8)),(2,(.tmp 9))] 10 (e:=201) (sz:=1) (l:=lm aY [(a,6),(a,10),(a,12)]) (ae (bC (ks':=[eV 58,.b 0,eV 15]) 4 ⟨[(1,.pp 1 a 0),(2,.ptr 2 0),(3,.ref 10),(11,iI 0)],[(1,aG o),(2,aG cu)],[(10,⟨201,1,lm aY [(a,6),(a,10),(a,12)]⟩)],[1,2,10]⟩ (o6 40 (c:=cat Tryz.f101 [1,1,0,1,0,0]) (by kernel_rfl) (bq (bW (ks':=eV 3737 :: .b 1::eV 935::xt M b r 39) 9 (bV [1,2,3,4,11] [1,2] [10] (ci 2 (nu 14 [.ref 10,iI 0,.adr a 14,.adr a 14,iI 0,.adr a 22,.adr a 22,.sl (lm aY [(a,14),(a,22)])]) [] [] [gh 22 10 ⟨201,1,lm aY [(a,6),(a,10),(a,12),(a,14),(a,22)]⟩,cF aT 40 Tryz.f101 (pn 3737) 9] (aE [.v 0 1,.v 0 2,.v 0 2,.v 0 2,.v 0 2,.v 0 2,.v 0 2,.v 0 1] (ax (dq (m:=0) (cG 22 10 201 1 aY (L:=([(a,6),(a,10),(a,12)]:ew)) (M:=([(a,14),(a,22)]:ew)) (bytes:=8) (rfl) ap (by kernel_rfl))) (ax (cE 1) cg))) (bC (ks':=xt M b r 39) 2 ⟨[(1,.pp 1 a 0),(2,.ptr 2 0),(3,.ref 10),(11,iI 1)],[(1,aG o),(2,aG cu)],[(10,⟨201,1,lm aY [(a,6),(a,10),(a,12),(a,14),(a,22)]⟩)],[1,2,10]⟩ (bu (bq (jb 57 1 15 9 (bV [1,2,3,4,11] [1,2] [10] (ci 2 (nu 14 [.ref 10,iI 1,.adr a 14,.adr a 16,iI 1,.adr a 22,.adr a 24,.sl (lm aY [(a,16),(a,24)])]) [] [] [gh 22 10 ⟨201,1,lm aY [(a,6),(a,10),(a,12),(a,14),(a,22),(a,16),(a,24)]⟩,cF aT 40 Tryz.f101 (pn 3737) 9] (aE [.v 0 1,.v 0 2,.v 0 2,.v 0 2,.v 0 2,.v 0 2,.v 0 2,.v 0 1] (ax (dq (m:=0) (cG 22 10 201 1 aY (L:=([(a,6),(a,10),(a,12),(a,14),(a,22)]:ew)) (M:=([(a,16),(a,24)]:ew)) (bytes:=8) (rfl) ap (by kernel_rfl))) (ax (cE 1) cg))) (bC (ks':=xt M b r 38) 2 ⟨[(1,.pp 1 a 0),(2,.ptr 2 0),(3,.ref 10),(11,iI 2)],[(1,aG o),(2,aG cu)],[(10,⟨201,1,lm aY [(a,6),(a,10),(a,12),(a,14),(a,22),(a,16),(a,24)]⟩)],[1,2,10]⟩ (bu (bq (jb 57 1 15 9 (bV [1,2,3,4,11] [1,2] [10] (ci 2 (nu 14 [.ref 10,iI 2,.adr a 14,.adr a 18,iI 2,.adr a 22,.adr a 26,.sl (lm aY [(a,18),(a,26)])]) [] [] [gh 22 10 ⟨201,1,lm aY [(a,6),(a,10),(a,12),(a,14),(a,22),(a,16),(a,24),(a,18),(a,26)]⟩,cF aT 40 Tryz.f101 (pn 3737) 9] (aE [.v 0 1,.v 0 2,.v 0 2,.v 0 2,.v 0 2,.v 0 2,.v 0 2,.v 0 1] (ax (dq (m:=0) (cG 22 10 201 1 aY (L:=([(a,6),(a,10),(a,12),(a,14),(a,22),(a,16),(a,24)]:ew)) (M:=([(a,18),(a,26)]:ew)) (bytes:=8) (rfl) ap (by kernel_rfl))) (ax (cE 1) cg))) (bC (ks':=xt M b r 37) 2 ⟨[(1,.pp 1 a 0),(2,.ptr 2 0),(3,.ref 10),(11,iI 3)],[(1,aG o),(2,aG cu)],[(10,⟨201,1,lm aY [(a,6),(a,10),(a,12),(a,14),(a,22),(a,16),(a,24),(a,18),(a,26)]⟩)],[1,2,10]⟩ ?_)))))))))))))))))))))))
 refine bu (bq (jb 57 1 15 9 (bV [1,2,3,4,11] [1,2] [10] (ci 2 (nu 14 [.ref 10,iI 3,.adr a 14,.adr a 20,iI 3,.adr a 22,.adr a 28,.sl (lm aY [(a,20),(a,28)])]) [] [] [gh 22 10 ⟨201,1,lm aY (af a)⟩,cF aT 40 Tryz.f101 (pn 3737) 9] (aE [.v 0 1,.v 0 2,.v 0 2,.v 0 2,.v 0 2,.v 0 2,.v 0 2,.v 0 1] (ax (dq (m:=0) (cG 22 10 201 1 aY (L:=([(a,6),(a,10),(a,12),(a,14),(a,22),(a,16),(a,24),(a,18),(a,26)]:ew)) (M:=([(a,20),(a,28)]:ew)) (bytes:=8) (rfl) ap (by kernel_rfl))) (ax (cE 1) cg))) (bC (ks':=xt M b r 36) 2 ⟨[(1,.pp 1 a 0),(2,.ptr 2 0),(3,.ref 10),(11,iI 4)],[(1,aG o),(2,aG cu)],[(10,⟨201,1,lm aY (af a)⟩)],[1,2,10]⟩ (bu (bq (WL 4 5 3 10 (aj 1 (au (bF aY (af a)) (ae (bC (ks':=[eV 122,.b 2,eV 31]) 1 ⟨[(1,.pp 1 a 0),(2,.ptr 2 0),(24,.ref 10),(25,iI 11),(26,iI 0)],[(1,aG o),(2,aG cu)],[(10,⟨201,1,lm aY (af a)⟩)],[1,2,10]⟩ (o6 40 (c:=cat Tryz.f101 [1,1,1,0,1,0,0]) (by kernel_rfl) (bq (bW (ks':=eV 7832::eV 7833 :: .b 3::eV 1959::fj M b r 39) 8 (aj 0 (au (cr 10 1 aY (L:=(af a)) (i:=(0:Int)) (by kernel_rfl)) (au (bJ 201 0 aY aY (L:=(af a)) (j:=(0:Int).toNat) (il (by kernel_rfl)) ap) (ae (av 2 3 1 (aj 3 (dc 32 1 1 a 6 0 (ae ?_)))))))))))))))))))))))
 obtain⟨d,h⟩|⟨d,h⟩:=ao h
 ·exact ai 34 d (br 2 1 (aj 3 (dc 37 1 1 a 6 0 (ae (ah 0 (Mz f (a:=a) h))))))
 ·exact ai 34 d (ah 2 (Mz f (a:=a) h))
end
section
variable[GS](M:Nat→Prop)(c:az)(r b:Int)(a:aO)  
variable{M c r b a}{K:Kn}{n:Nat}
def Rj(d:am K)(h:yj K n b a=some r):aZ aT 103 [iI b,.cptr (aG a)] (fun v _=>v=iI r):=by
 refine bK (cat Tryz.f103 (pn 1)) Tryz.func103 Tryz.ntmps103 fun M c=>(bn ⟨[(0,iI b),(1,.cptr (aG a))],[],[],[]⟩ ?_);unfold yj at h;refine av 6 7 3 (bV [0,1] [] [] ?_);obtain⟨j,e,h⟩:=aw h;obtain⟨v4,f,h⟩:=aw h;obtain⟨v5,g,h⟩:=aw h;obtain⟨v6,i,h⟩:=aw h;refine ci 1 (nu 4 [.agg (aG a),.agg (aG a),iI b,iI j,iI v4,.agg (cC v5),iI v6]) [] [] [cF aT 11 Tryz.f103 (pn 6) 7] (aE (vz 3) (ax (cR 0 1 7 (ng d e)) (ax (cR 0 1 8 (CA d f)) (ax (cR 0 1 9 (qm d g)) (ax (cR 0 1 10 (qV d i)) (ax (cE 0) cg)))))) (aM 1 ?_);cases h;exact bD
end
section
variable[GS](M:Nat→Prop)(c:az)(r:Int×Int)(e:ag)(f:bN)(b:aO)(v5:dn)(g d a:Int)(i:Int×Int)(k l o q t:Int)(j:Nat)(u:Int→Int→Int→Option eb)
abbrev FG:Cx:=⟨aT,70,M,c⟩
abbrev G6:=bodyPost aT Tryz.f49 (bP M c (fun v _=>v=.tup [iI r.1,iI r.2]))
abbrev Dh(a:ck)(s:AS):=VE (FG M c) (G6 M c r) a .normal s
abbrev qO(n:Nat):aq:=.c (cat Tryz.f49 (pn n))
abbrev I3:ck:=[.b 0,qO 15]
abbrev CI:ck:=kl (FG M c) (G6 M c r) I3 (cat Tryz.f49 (pn 956)) j::I3
def af6:AS:=⟨[(2,.ptr 2 0),(3,.ptr 3 0),(4,iI l),(5,iI o),(6,.ptr 6 0),(27,.ref 1027),(28,iI (v5.length:Int)),(29,iI a)],[(2,aD e),(3,ce f),(6,aG b)],[(1027,(bk v5))],[2,3,6,1027]⟩
def afJ:AS:=⟨[(2,.ptr 2 0),(3,.ptr 3 0),(4,iI k),(5,iI (aa (d+i.2))),(6,.ptr 6 0),(27,.ref 1027),(28,iI (v5.length:Int)),(29,iI a)],[(2,aD e),(3,ce f),(6,aG b)],[(1027,(bk v5))],[2,3,6,1027]⟩
def afO:AS:=⟨[(4,iI q),(5,iI t),(6,.ptr 6 0)],[(6,aG b)],[],[6]⟩
def Rv:AS:=⟨[(2,.ptr 2 0),(3,.ptr 3 0),(4,iI g),(5,iI d),(6,.ptr 6 0),(27,.ref 1027),(28,iI (v5.length:Int)),(29,iI a)],[(2,aD e),(3,ce f),(6,aG b)],[(1027,(bk v5))],[2,3,6,1027]⟩
abbrev C4:Prop:=∀{g:Int} {d:Int} {a:Int},u g d a=some r→LP (FG M c) (G6 M c r) I3 (cat Tryz.f49 (pn 956)) j (Rv e f b v5 g d a)
variable{M c r e f b v5 g d a i k l o q t j u}{K:Kn}{n:Nat}
def Ww(g:am K)(d:C4 M c r e f b v5 j u)(h:AU K n e f b v5 a u l o=some r):Dh M c r (qO 7655::CI M c r j) (af6 e f b v5 a l o):=by
 unfold AU at h;exact ah 1 (bu (d h))
def Sg(l:am K)(g:C4 M c r e f b v5 j u)(h:wX K n e f b v5 d a i u k=some r):Dh M c r (.b 1::qO 7655::CI M c r j) (afJ e f b v5 d a i k):=by
 unfold wX at h;exact ah 1 (Ww l g h)
def TM(e:am K)(h:ql K n b q t=some r):Dh M c r [qO 15] (afO b q t):=by
 unfold ql at h;refine av 2 3 1 (aj 0 (mK 6 6 (aG b) (rZ 103 #[(.tmp 6)] [.cptr (aG b)] (ae (av 2 3 1 (aj 2 ?_))))));obtain⟨f,a,h⟩:=aw h;refine aR (Rj e a) (aW 5 2 ?_);obtain⟨g,d,h⟩:=aw h;refine aR (Rj e d) (ae (aM 1 ?_));cases h;exact jC
def adm(q:am K)(o:C4 M c r e f b v5 j u)(h:D4 K n e f b v5 u g d a=some r):Dh M c r (qO 956::CI M c r j) (Rv e f b v5 g d a):=by
 unfold D4 at h;refine av 6 7 3 ?_;obtain⟨k,h⟩|⟨k,h⟩:=ao h
 ·refine ai 30 k (cX 8 9 1 3 5 (aj 0 ?_));obtain⟨p,h⟩:=aB h;refine au (cr 1027 59 aP p) (au (bJ 48 0 aP aD (bB p).2 (eE)) (ae (av 2 3 1 (aj 3 ?_))));obtain⟨i,s,h⟩:=aw h;refine oB (q.jD s) (ae (av 5 3 3 ?_));obtain⟨l,h⟩|⟨l,h⟩:=ao h
  ·exact ai 43 l (ah 6 (Ww q o h))
  ·refine ai 43 l (bW (ks':=qO 489887 :: .b 1::qO 7655::CI M c r j) 6 ?_);obtain⟨m,h⟩|⟨m,h⟩:=ao h
   ·exact ai 55 m (ah 2 (Sg q o h))
   ·exact ai 55 m (ah 2 (Sg q o h))
 ·exact ai 30 k (ah 5 (TM q h))
def afF(a:am K)(m:Nat):C4 M c r e f b v5 m (AB K n e f b v5 m):=by
 induction m with
 | zero=>exact fun h=>nomatch h
 | succ m d=>exact fun h=>bq (adm a d h)
def Xs(a:am K)(h:uK K n e f=some r):aZ aT 49 [.agg (aD e),.agg (ce f)] (fun v _=>v=.tup [iI r.1,iI r.2]):=by
 refine bK (cat Tryz.f49 (pn 1)) Tryz.func49 Tryz.ntmps49 fun M c=>(bn ⟨[(0,.agg (aD e)),(1,.agg (ce f))],[],[],[]⟩ ?_);unfold uK at h;refine av 6 7 3 (aj 2 ?_);obtain⟨b,g,h⟩:=aw h;refine aR (agV a g) (ae (cj 4 5 3 2 (aj 2 ?_)));obtain⟨v4,i,h⟩:=aw h;refine aR (eN a i) (ae (br 3 2 ?_));obtain⟨d,h⟩|⟨d,h⟩:=ao h
 ·exact ai 23 d (ah 2 (TM a h))
 ·refine ai 23 d (av 6 7 2 (aj 1 ?_));obtain⟨v5,j,h⟩:=aw h;exact fc 1027 (Jf a j) (fk 21) (au (bF aP v5) (ae (ah 1 (cf (p:=pn 478) n (afF a n h)))))
end
section
variable[GS](M:Nat→Prop)(b:az)(r o:aO)(a:Nat)(p v4 v5 v6 q t u d f g k:aO)  
abbrev eY(n:Nat):aq:=.c (cat Tryz.f108 (pn n))
abbrev GH:Cx:=⟨aT,40,M,b⟩
abbrev JX:=bodyPost aT Tryz.f108 (bP M b (fun v _=>v=.agg (aG r)))
abbrev lu(a:ck)(s:AS):=VE (GH M b) (JX M b r) a .normal s
def afz:AS:=⟨[(1,.pp 1 a 0),(2,.ptr 2 0),(24,.ref 10),(25,iI 11),(26,iI 10)],[(1,aG k),(2,aG cu)],[(10,⟨201,1,lm aY (af a)⟩)],[1,2,10]⟩
def agX:AS:=⟨[(1,.pp 1 a 0),(2,.ptr 2 0),(24,.ref 10),(25,iI 11),(26,iI 9)],[(1,aG g),(2,aG cu)],[(10,⟨201,1,lm aY (af a)⟩)],[1,2,10]⟩
def Z4:AS:=⟨[(1,.pp 1 a 0),(2,.ptr 2 0),(24,.ref 10),(25,iI 11),(26,iI 8)],[(1,aG f),(2,aG cu)],[(10,⟨201,1,lm aY (af a)⟩)],[1,2,10]⟩
def akv:AS:=⟨[(1,.pp 1 a 0),(2,.ptr 2 0),(24,.ref 10),(25,iI 11),(26,iI 7)],[(1,aG d),(2,aG cu)],[(10,⟨201,1,lm aY (af a)⟩)],[1,2,10]⟩
def ahj:AS:=⟨[(1,.pp 1 a 0),(2,.ptr 2 0),(24,.ref 10),(25,iI 11),(26,iI 6)],[(1,aG u),(2,aG cu)],[(10,⟨201,1,lm aY (af a)⟩)],[1,2,10]⟩
def ahF:AS:=⟨[(1,.pp 1 a 0),(2,.ptr 2 0),(24,.ref 10),(25,iI 11),(26,iI 5)],[(1,aG t),(2,aG cu)],[(10,⟨201,1,lm aY (af a)⟩)],[1,2,10]⟩
def aeX:AS:=⟨[(1,.pp 1 a 0),(2,.ptr 2 0),(24,.ref 10),(25,iI 11),(26,iI 4)],[(1,aG q),(2,aG cu)],[(10,⟨201,1,lm aY (af a)⟩)],[1,2,10]⟩
def ZA:AS:=⟨[(1,.pp 1 a 0),(2,.ptr 2 0),(24,.ref 10),(25,iI 11),(26,iI 3)],[(1,aG v6),(2,aG cu)],[(10,⟨201,1,lm aY (af a)⟩)],[1,2,10]⟩
def afE:AS:=⟨[(1,.pp 1 a 0),(2,.ptr 2 0),(24,.ref 10),(25,iI 11),(26,iI 2)],[(1,aG v5),(2,aG cu)],[(10,⟨201,1,lm aY (af a)⟩)],[1,2,10]⟩
def alK:AS:=⟨[(1,.pp 1 a 0),(2,.ptr 2 0),(24,.ref 10),(25,iI 11),(26,iI 1)],[(1,aG v4),(2,aG cu)],[(10,⟨201,1,lm aY (af a)⟩)],[1,2,10]⟩
def Yq:AS:=⟨[(1,.pp 1 a 0),(2,.ptr 2 0),(24,.ref 10),(25,iI 11),(26,iI 0)],[(1,aG p),(2,aG cu)],[(10,⟨201,1,lm aY (af a)⟩)],[1,2,10]⟩
abbrev fp(m:Nat):ck:=kl (GH M b) (JX M b r) [.b 2,eY 31] (cat Tryz.f108 (pn 244)) m::[.b 2,eY 31]
abbrev A1(m:Nat):ck:=kl (GH M b) (JX M b r) [.b 0,eY 15] (cat Tryz.f108 (pn 116)) m::[.b 0,eY 15]
variable{M b r o a p v4 v5 v6 q t u d f g k}{K:Kn}{n:Nat}
def S6(c:am K)(h:yx K n k=some r):lu M b r (.b 3::eY 1959::fp M b r 29) (afz a k):=by
 unfold yx at h;refine bC (ks':=fp M b r 29) 2 ⟨[(1,.pp 1 a 0),(2,.ptr 2 0),(24,.ref 10),(25,iI 11),(26,iI 11)],[(1,aG k),(2,aG cu)],[(10,⟨201,1,lm aY (af a)⟩)],[1,2,10]⟩ (bu (bq (aM 11 ?_)));cases h;exact bD
def SO(d:am K)(h:wb K n g=some r):lu M b r (.b 3::eY 1959::fp M b r 30) (agX a g):=by
 unfold wb at h;refine bC (ks':=fp M b r 30) 2 ⟨[(1,.pp 1 a 0),(2,.ptr 2 0),(24,.ref 10),(25,iI 11),(26,iI 10)],[(1,aG g),(2,aG cu)],[(10,⟨201,1,lm aY (af a)⟩)],[1,2,10]⟩ (bu (bq (dL 56 57 3 15 8 (aj 0 (au (cr 10 1 aY (L:=(af a)) (i:=(10:Int)) (by kernel_rfl)) (au (bJ 201 0 aY aY (L:=(af a)) (j:=(10:Int).toNat) (il (by kernel_rfl)) ap) (ae (av 2 3 1 (aj 3 (dc 32 1 1 a 28 0 (ae ?_)))))))))));obtain⟨c,h⟩|⟨c,h⟩:=ao h
 ·exact ai 34 c (br 2 1 (aj 3 (dc 37 1 1 a 28 0 (ae (ah 0 (S6 d (a:=a) h))))))
 ·exact ai 34 c (ah 2 (S6 d (a:=a) h))
def Mi(d:am K)(h:wc K n f=some r):lu M b r (.b 3::eY 1959::fp M b r 31) (Z4 a f):=by
 unfold wc at h;refine bC (ks':=fp M b r 31) 2 ⟨[(1,.pp 1 a 0),(2,.ptr 2 0),(24,.ref 10),(25,iI 11),(26,iI 9)],[(1,aG f),(2,aG cu)],[(10,⟨201,1,lm aY (af a)⟩)],[1,2,10]⟩ (bu (bq (dL 56 57 3 15 8 (aj 0 (au (cr 10 1 aY (L:=(af a)) (i:=(9:Int)) (by kernel_rfl)) (au (bJ 201 0 aY aY (L:=(af a)) (j:=(9:Int).toNat) (il (by kernel_rfl)) ap) (ae (av 2 3 1 (aj 3 (dc 32 1 1 a 20 0 (ae ?_)))))))))));obtain⟨c,h⟩|⟨c,h⟩:=ao h
 ·exact ai 34 c (br 2 1 (aj 3 (dc 37 1 1 a 20 0 (ae (ah 0 (SO d (a:=a) h))))))
 ·exact ai 34 c (ah 2 (SO d (a:=a) h))
def N5(e:am K)(h:s8 K n d=some r):lu M b r (.b 3::eY 1959::fp M b r 32) (akv a d):=by
 unfold s8 at h;refine bC (ks':=fp M b r 32) 2 ⟨[(1,.pp 1 a 0),(2,.ptr 2 0),(24,.ref 10),(25,iI 11),(26,iI 8)],[(1,aG d),(2,aG cu)],[(10,⟨201,1,lm aY (af a)⟩)],[1,2,10]⟩ (bu (bq (dL 56 57 3 15 8 (aj 0 (au (cr 10 1 aY (L:=(af a)) (i:=(8:Int)) (by kernel_rfl)) (au (bJ 201 0 aY aY (L:=(af a)) (j:=(8:Int).toNat) (il (by kernel_rfl)) ap) (ae (av 2 3 1 (aj 3 (dc 32 1 1 a 26 0 (ae ?_)))))))))));obtain⟨c,h⟩|⟨c,h⟩:=ao h
 ·exact ai 34 c (br 2 1 (aj 3 (dc 37 1 1 a 26 0 (ae (ah 0 (Mi e (a:=a) h))))))
 ·exact ai 34 c (ah 2 (Mi e (a:=a) h))
def RJ(d:am K)(h:tI K n u=some r):lu M b r (.b 3::eY 1959::fp M b r 33) (ahj a u):=by
 unfold tI at h;refine bC (ks':=fp M b r 33) 2 ⟨[(1,.pp 1 a 0),(2,.ptr 2 0),(24,.ref 10),(25,iI 11),(26,iI 7)],[(1,aG u),(2,aG cu)],[(10,⟨201,1,lm aY (af a)⟩)],[1,2,10]⟩ (bu (bq (dL 56 57 3 15 8 (aj 0 (au (cr 10 1 aY (L:=(af a)) (i:=(7:Int)) (by kernel_rfl)) (au (bJ 201 0 aY aY (L:=(af a)) (j:=(7:Int).toNat) (il (by kernel_rfl)) ap) (ae (av 2 3 1 (aj 3 (dc 32 1 1 a 18 0 (ae ?_)))))))))));obtain⟨c,h⟩|⟨c,h⟩:=ao h
 ·exact ai 34 c (br 2 1 (aj 3 (dc 37 1 1 a 18 0 (ae (ah 0 (N5 d (a:=a) h))))))
 ·exact ai 34 c (ah 2 (N5 d (a:=a) h))
def Mp(d:am K)(h:vB K n t=some r):lu M b r (.b 3::eY 1959::fp M b r 34) (ahF a t):=by
 unfold vB at h;refine bC (ks':=fp M b r 34) 2 ⟨[(1,.pp 1 a 0),(2,.ptr 2 0),(24,.ref 10),(25,iI 11),(26,iI 6)],[(1,aG t),(2,aG cu)],[(10,⟨201,1,lm aY (af a)⟩)],[1,2,10]⟩ (bu (bq (dL 56 57 3 15 8 (aj 0 (au (cr 10 1 aY (L:=(af a)) (i:=(6:Int)) (by kernel_rfl)) (au (bJ 201 0 aY aY (L:=(af a)) (j:=(6:Int).toNat) (il (by kernel_rfl)) ap) (ae (av 2 3 1 (aj 3 (dc 32 1 1 a 24 0 (ae ?_)))))))))));obtain⟨c,h⟩|⟨c,h⟩:=ao h
 ·exact ai 34 c (br 2 1 (aj 3 (dc 37 1 1 a 24 0 (ae (ah 0 (RJ d (a:=a) h))))))
 ·exact ai 34 c (ah 2 (RJ d (a:=a) h))
def Qu(d:am K)(h:ul K n q=some r):lu M b r (.b 3::eY 1959::fp M b r 35) (aeX a q):=by
 unfold ul at h;refine bC (ks':=fp M b r 35) 2 ⟨[(1,.pp 1 a 0),(2,.ptr 2 0),(24,.ref 10),(25,iI 11),(26,iI 5)],[(1,aG q),(2,aG cu)],[(10,⟨201,1,lm aY (af a)⟩)],[1,2,10]⟩ (bu (bq (dL 56 57 3 15 8 (aj 0 (au (cr 10 1 aY (L:=(af a)) (i:=(5:Int)) (by kernel_rfl)) (au (bJ 201 0 aY aY (L:=(af a)) (j:=(5:Int).toNat) (il (by kernel_rfl)) ap) (ae (av 2 3 1 (aj 3 (dc 32 1 1 a 16 0 (ae ?_)))))))))));obtain⟨c,h⟩|⟨c,h⟩:=ao h
 ·exact ai 34 c (br 2 1 (aj 3 (dc 37 1 1 a 16 0 (ae (ah 0 (Mp d (a:=a) h))))))
 ·exact ai 34 c (ah 2 (Mp d (a:=a) h))
def TE(d:am K)(h:tp K n v6=some r):lu M b r (.b 3::eY 1959::fp M b r 36) (ZA a v6):=by
 unfold tp at h;refine bC (ks':=fp M b r 36) 2 ⟨[(1,.pp 1 a 0),(2,.ptr 2 0),(24,.ref 10),(25,iI 11),(26,iI 4)],[(1,aG v6),(2,aG cu)],[(10,⟨201,1,lm aY (af a)⟩)],[1,2,10]⟩ (bu (bq (dL 56 57 3 15 8 (aj 0 (au (cr 10 1 aY (L:=(af a)) (i:=(4:Int)) (by kernel_rfl)) (au (bJ 201 0 aY aY (L:=(af a)) (j:=(4:Int).toNat) (il (by kernel_rfl)) ap) (ae (av 2 3 1 (aj 3 (dc 32 1 1 a 22 0 (ae ?_)))))))))));obtain⟨c,h⟩|⟨c,h⟩:=ao h
 ·exact ai 34 c (br 2 1 (aj 3 (dc 37 1 1 a 22 0 (ae (ah 0 (Qu d (a:=a) h))))))
 ·exact ai 34 c (ah 2 (Qu d (a:=a) h))
def Nb(d:am K)(h:tJ K n v5=some r):lu M b r (.b 3::eY 1959::fp M b r 37) (afE a v5):=by
 unfold tJ at h;refine bC (ks':=fp M b r 37) 2 ⟨[(1,.pp 1 a 0),(2,.ptr 2 0),(24,.ref 10),(25,iI 11),(26,iI 3)],[(1,aG v5),(2,aG cu)],[(10,⟨201,1,lm aY (af a)⟩)],[1,2,10]⟩ (bu (bq (dL 56 57 3 15 8 (aj 0 (au (cr 10 1 aY (L:=(af a)) (i:=(3:Int)) (by kernel_rfl)) (au (bJ 201 0 aY aY (L:=(af a)) (j:=(3:Int).toNat) (il (by kernel_rfl)) ap) (ae (av 2 3 1 (aj 3 (dc 32 1 1 a 14 0 (ae ?_)))))))))));obtain⟨c,h⟩|⟨c,h⟩:=ao h
 ·exact ai 34 c (br 2 1 (aj 3 (dc 37 1 1 a 14 0 (ae (ah 0 (TE d (a:=a) h))))))
 ·exact ai 34 c (ah 2 (TE d (a:=a) h))
def Ub(d:am K)(h:vw K n v4=some r):lu M b r (.b 3::eY 1959::fp M b r 38) (alK a v4):=by
 unfold vw at h;refine bC (ks':=fp M b r 38) 2 ⟨[(1,.pp 1 a 0),(2,.ptr 2 0),(24,.ref 10),(25,iI 11),(26,iI 2)],[(1,aG v4),(2,aG cu)],[(10,⟨201,1,lm aY (af a)⟩)],[1,2,10]⟩ (bu (bq (dL 56 57 3 15 8 (aj 0 (au (cr 10 1 aY (L:=(af a)) (i:=(2:Int)) (by kernel_rfl)) (au (bJ 201 0 aY aY (L:=(af a)) (j:=(2:Int).toNat) (il (by kernel_rfl)) ap) (ae (av 2 3 1 (aj 3 (dc 32 1 1 a 12 0 (ae ?_)))))))))));obtain⟨c,h⟩|⟨c,h⟩:=ao h
 ·exact ai 34 c (br 2 1 (aj 3 (dc 37 1 1 a 12 0 (ae (ah 0 (Nb d (a:=a) h))))))
 ·exact ai 34 c (ah 2 (Nb d (a:=a) h))
def Rw(d:am K)(h:ut K n p=some r):lu M b r (.b 3::eY 1959::fp M b r 39) (Yq a p):=by
 unfold ut at h;refine bC (ks':=fp M b r 39) 2 ⟨[(1,.pp 1 a 0),(2,.ptr 2 0),(24,.ref 10),(25,iI 11),(26,iI 1)],[(1,aG p),(2,aG cu)],[(10,⟨201,1,lm aY (af a)⟩)],[1,2,10]⟩ (bu (bq (dL 56 57 3 15 8 (aj 0 (au (cr 10 1 aY (L:=(af a)) (i:=(1:Int)) (by kernel_rfl)) (au (bJ 201 0 aY aY (L:=(af a)) (j:=(1:Int).toNat) (il (by kernel_rfl)) ap) (ae (av 2 3 1 (aj 3 (dc 32 1 1 a 10 0 (ae ?_)))))))))));obtain⟨c,h⟩|⟨c,h⟩:=ao h
 ·exact ai 34 c (br 2 1 (aj 3 (dc 37 1 1 a 10 0 (ae (ah 0 (Ub d (a:=a) h))))))
 ·exact ai 34 c (ah 2 (Ub d (a:=a) h))
def Wa(f:am K)(h:vT K n o=some r):aZ aT 108 [.agg (aG o)] (fun v _=>v=.agg (aG r)):=by
 refine bK (cat Tryz.f108 (pn 1)) Tryz.func108 Tryz.ntmps108 fun M b=>(bn ⟨[(0,.agg (aG o))],[],[],[]⟩ ?_);unfold vT at h;refine av 6 7 3 (Rz 1 1 0 fun a=>(aj 3 (UY 202 3 #[(0,(.tmp 7)),(1,(.tmp 8)),(2,(.tmp 9))] 10 (e:=201) (sz:=1) (l:=lm aY [(a,6),(a,10),(a,12)]) (ae (bC (ks':=[eY 58,.b 0,eY 15]) 4 ⟨[(1,.pp 1 a 0),(2,.ptr 2 0),(3,.ref 10),(11,iI 0)],[(1,aG o),(2,aG cu)],[(10,⟨201,1,lm aY [(a,6),(a,10),(a,12)]⟩)],[1,2,10]⟩ (o6 40 (c:=cat Tryz.f108 [1,1,0,1,0,0]) (by kernel_rfl) (bq (bW (ks':=eY 3737 :: .b 1::eY 935::A1 M b r 39) 9 (bV [1,2,3,4,11] [1,2] [10] (ci 2 (nu 14 [.ref 10,iI 0,.adr a 14,.adr a 14,iI 0,.adr a 22,.adr a 22,.sl (lm aY [(a,14),(a,22)])]) [] [] [gh 22 10 ⟨201,1,lm aY [(a,6),(a,10),(a,12),(a,14),(a,22)]⟩,cF aT 40 Tryz.f108 (pn 3737) 9] (aE [.v 0 1,.v 0 2,.v 0 2,.v 0 2,.v 0 2,.v 0 2,.v 0 2,.v 0 1] (ax (dq (m:=0) (cG 22 10 201 1 aY (L:=([(a,6),(a,10),(a,12)]:ew)) (M:=([(a,14),(a,22)]:ew)) (bytes:=8) (rfl) ap (by kernel_rfl))) (ax (cE 1) cg))) (bC (ks':=A1 M b r 39) 2 ⟨[(1,.pp 1 a 0),(2,.ptr 2 0),(3,.ref 10),(11,iI 1)],[(1,aG o),(2,aG cu)],[(10,⟨201,1,lm aY [(a,6),(a,10),(a,12),(a,14),(a,22)]⟩)],[1,2,10]⟩ (bu (bq (jb 57 1 15 9 (bV [1,2,3,4,11] [1,2] [10] (ci 2 (nu 14 [.ref 10,iI 1,.adr a 14,.adr a 16,iI 1,.adr a 22,.adr a 24,.sl (lm aY [(a,16),(a,24)])]) [] [] [gh 22 10 ⟨201,1,lm aY [(a,6),(a,10),(a,12),(a,14),(a,22),(a,16),(a,24)]⟩,cF aT 40 Tryz.f108 (pn 3737) 9] (aE [.v 0 1,.v 0 2,.v 0 2,.v 0 2,.v 0 2,.v 0 2,.v 0 2,.v 0 1] (ax (dq (m:=0) (cG 22 10 201 1 aY (L:=([(a,6),(a,10),(a,12),(a,14),(a,22)]:ew)) (M:=([(a,16),(a,24)]:ew)) (bytes:=8) (rfl) ap (by kernel_rfl))) (ax (cE 1) cg))) (bC (ks':=A1 M b r 38) 2 ⟨[(1,.pp 1 a 0),(2,.ptr 2 0),(3,.ref 10),(11,iI 2)],[(1,aG o),(2,aG cu)],[(10,⟨201,1,lm aY [(a,6),(a,10),(a,12),(a,14),(a,22),(a,16),(a,24)]⟩)],[1,2,10]⟩ (bu (bq (jb 57 1 15 9 (bV [1,2,3,4,11] [1,2] [10] (ci 2 (nu 14 [.ref 10,iI 2,.adr a 14,.adr a 18,iI 2,.adr a 22,.adr a 26,.sl (lm aY [(a,18),(a,26)])]) [] [] [gh 22 10 ⟨201,1,lm aY [(a,6),(a,10),(a,12),(a,14),(a,22),(a,16),(a,24),(a,18),(a,26)]⟩,cF aT 40 Tryz.f108 (pn 3737) 9] (aE [.v 0 1,.v 0 2,.v 0 2,.v 0 2,.v 0 2,.v 0 2,.v 0 2,.v 0 1] (ax (dq (m:=0) (cG 22 10 201 1 aY (L:=([(a,6),(a,10),(a,12),(a,14),(a,22),(a,16),(a,24)]:ew)) (M:=([(a,18),(a,26)]:ew)) (bytes:=8) (rfl) ap (by kernel_rfl))) (ax (cE 1) cg))) (bC (ks':=A1 M b r 37) 2 ⟨[(1,.pp 1 a 0),(2,.ptr 2 0),(3,.ref 10),(11,iI 3)],[(1,aG o),(2,aG cu)],[(10,⟨201,1,lm aY [(a,6),(a,10),(a,12),(a,14),(a,22),(a,16),(a,24),(a,18),(a,26)]⟩)],[1,2,10]⟩ ?_)))))))))))))))))))))))
 refine bu (bq (jb 57 1 15 9 (bV [1,2,3,4,11] [1,2] [10] (ci 2 (nu 14 [.ref 10,iI 3,.adr a 14,.adr a 20,iI 3,.adr a 22,.adr a 28,.sl (lm aY [(a,20),(a,28)])]) [] [] [gh 22 10 ⟨201,1,lm aY (af a)⟩,cF aT 40 Tryz.f108 (pn 3737) 9] (aE [.v 0 1,.v 0 2,.v 0 2,.v 0 2,.v 0 2,.v 0 2,.v 0 2,.v 0 1] (ax (dq (m:=0) (cG 22 10 201 1 aY (L:=([(a,6),(a,10),(a,12),(a,14),(a,22),(a,16),(a,24),(a,18),(a,26)]:ew)) (M:=([(a,20),(a,28)]:ew)) (bytes:=8) (rfl) ap (by kernel_rfl))) (ax (cE 1) cg))) (bC (ks':=A1 M b r 36) 2 ⟨[(1,.pp 1 a 0),(2,.ptr 2 0),(3,.ref 10),(11,iI 4)],[(1,aG o),(2,aG cu)],[(10,⟨201,1,lm aY (af a)⟩)],[1,2,10]⟩ (bu (bq (WL 4 5 3 10 (aj 1 (au (bF aY (af a)) (ae (bC (ks':=[eY 122,.b 2,eY 31]) 1 ⟨[(1,.pp 1 a 0),(2,.ptr 2 0),(24,.ref 10),(25,iI 11),(26,iI 0)],[(1,aG o),(2,aG cu)],[(10,⟨201,1,lm aY (af a)⟩)],[1,2,10]⟩ (o6 40 (c:=cat Tryz.f108 [1,1,1,0,1,0,0]) (by kernel_rfl) (bq (bW (ks':=eY 7832::eY 7833 :: .b 3::eY 1959::fp M b r 39) 8 (aj 0 (au (cr 10 1 aY (L:=(af a)) (i:=(0:Int)) (by kernel_rfl)) (au (bJ 201 0 aY aY (L:=(af a)) (j:=(0:Int).toNat) (il (by kernel_rfl)) ap) (ae (av 2 3 1 (aj 3 (dc 32 1 1 a 6 0 (ae ?_)))))))))))))))))))))))
 obtain⟨d,h⟩|⟨d,h⟩:=ao h
 ·exact ai 34 d (br 2 1 (aj 3 (dc 37 1 1 a 6 0 (ae (ah 0 (Rw f (a:=a) h))))))
 ·exact ai 34 d (ah 2 (Rw f (a:=a) h))
end
section
variable[GS](M:Nat→Prop)(d:az)(r:Int×Int)(i:ag)(e:bN)(v6:dn×Bool)(a b c:Int)(f:Nat)(g:Int→Int→Int→Option eb)
abbrev HG:Cx:=⟨aT,71,M,d⟩
abbrev F4:=bodyPost aT Tryz.f107 (bP M d (fun v _=>v=.tup [iI r.1,iI r.2]))
abbrev aij(a:ck)(s:AS):=VE (HG M d) (F4 M d r) a .normal s
abbrev Sx(n:Nat):aq:=.c (cat Tryz.f107 (pn n))
abbrev GW:ck:=[.b 0,Sx 63]
abbrev aew:ck:=kl (HG M d) (F4 M d r) GW (cat Tryz.f107 (pn 500)) f::GW
def QN:AS:=⟨[(3,.ptr 3 0),(4,iI a),(5,iI b),(47,.sl (lm aP v6.1)),(48,iI (v6.1.length:Int)),(49,iI c)],[(3,ce e)],[],[3]⟩
abbrev NC:Prop:=∀{a:Int} {b:Int} {c:Int},g a b c=some r→LP (HG M d) (F4 M d r) GW (cat Tryz.f107 (pn 500)) f (QN e v6 a b c)
variable{M d r i e v6 a b c f g}{K:Kn}{n:Nat}
def aeb(o:am K)(p:NC M d r e v6 f g)(h:E0 K n e v6 g a b c=some r):aij M d r (Sx 500::aew M d r f) (QN e v6 a b c):=by
 unfold E0 at h;refine av 6 7 3 ?_;obtain⟨i,h⟩|⟨i,h⟩:=ao h
 ·refine ai 50 i (cX 8 9 1 3 5 (aj 0 ?_));obtain⟨j,h⟩:=aB h;refine au (bX aP aD j (gB) (eE)) (ae (av 2 3 1 (aj 3 ?_)));obtain⟨q,k,h⟩:=aw h;exact oB (o.jD k) (ae (ah 3 (bu (p h))))
 ·refine ai 50 i (gV 2 3 6 (aj 1 ?_));obtain⟨s,l,h⟩:=aw h;refine aR (lC o l) (aW 3 1 ?_);obtain⟨t,m,h⟩:=aw h;refine aR (lC o m) (ae (aM 1 ?_));cases h;exact jC
def agu(a:am K)(m:Nat):NC M d r e v6 m (xf K n e v6 m):=by
 induction m with
 | zero=>exact fun h=>nomatch h
 | succ m b=>exact fun h=>bq (aeb a b h)
def Zg(a:am K)(h:nn K n i e=some r):aZ aT 107 [.agg (aD i),.agg (ce e)] (fun v _=>v=.tup [iI r.1,iI r.2]):=by
 refine bK (cat Tryz.f107 (pn 1)) Tryz.func107 Tryz.ntmps107 fun M d=>(bn ⟨[(0,.agg (aD i)),(1,.agg (ce e))],[],[],[]⟩ ?_);unfold nn at h;refine cj 12 13 7 4 (aj 2 ?_);obtain⟨q,f,h⟩:=aw h;refine aR (Wa a f) (aW 4 1 ?_);obtain⟨v4,g,h⟩:=aw h;refine aR (eN a g) (ae (br 3 2 ?_));obtain⟨b,h⟩|⟨b,h⟩:=ao h
 ·refine ai 22 b (av 4 5 2 (aj 1 ?_));obtain⟨v5,j,h⟩:=aw h;refine aR (lC a j) (ae (aM 4 ?_));cases h;exact jC
 ·refine ai 22 b (gY 2 3 3 (aj 1 ?_));obtain⟨v6,k,h⟩:=aw h;refine aR (Po a k) (ae (av 5 3 3 ?_));obtain⟨c,h⟩|⟨c,h⟩:=ao h
  ·refine ai 33 c (av 4 5 2 (aj 5 ?_));obtain⟨s,l,h⟩:=aw h;refine oB (a.xX l) (ae (av 2 3 1 (aj 1 ?_)));obtain⟨t,m,h⟩:=aw h;refine aR (lC a m) (aW 3 1 ?_);obtain⟨u,o,h⟩:=aw h;refine aR (lC a o) (ae (aM 2 ?_));cases h;exact jC
  ·exact ai 33 c (n9 4 5 3 4 (aj 1 (au (bF aP v6.1) (ae (ah 1 (cf (p:=pn 250) n (agu a n h)))))))
end
section
variable[GS](M:Nat→Prop)(c:az)(r:Int×Int)(a:ag)(b:bN)  
variable{M c r a b}{K:Kn}{n:Nat}
def afm(d:am K)(h:xS K n a b=some r):aZ aT 51 [.agg (aD a),.agg (ce b)] (fun v _=>v=.tup [iI r.1,iI r.2]):=by
 refine bK (cat Tryz.f51 (pn 1)) Tryz.func51 Tryz.ntmps51 fun M c=>(bn ⟨[(0,.agg (aD a)),(1,.agg (ce b))],[],[],[]⟩ ?_);unfold xS at h;refine av 6 7 3 (aj 2 ?_);obtain⟨f,g,h⟩:=aw h;refine aR (Zg d g) (ae (av 2 3 1 (aj 2 ?_)));obtain⟨v4,i,h⟩:=aw h;refine aR (Wa d i) (ae (av 2 3 1 (bV [4,5,6] [6] [] ?_)));obtain⟨v5,j,h⟩:=aw h;obtain⟨v6,k,h⟩:=aw h;obtain⟨q,l,h⟩:=aw h;obtain⟨s,m,h⟩:=aw h;obtain⟨t,o,h⟩:=aw h;obtain⟨e,p,h⟩:=aw h;refine ci 2 (nu 16 [.agg (aG v4),.agg (aG v4),iI f.1,iI v5,.agg (cC v6),iI q,.agg (aG v4),.agg (aG v4),iI f.2,iI s,.agg (cC t),iI e]) [] [] [cF aT 28 Tryz.f51 (pn 30) 12,cF aT 28 Tryz.f51 (pn 30) 13] (aE (vz 3) (ax (cR 0 1 19 (CA d j)) (ax (cR 0 1 20 (qm d k)) (ax (cR 0 1 21 (qV d l)) (aE [.v 0 2,.v 0 2,.v 0 2] (ax (cR 0 2 25 (CA d m)) (ax (cR 0 2 26 (qm d o)) (ax (cR 0 1 27 (qV d p)) (ax (cE 0) (ax (cE 1) cg)))))))))) (aM 1 ?_)
 cases h;exact jC
end
section
variable[GS](M:Nat→Prop)(c:az)(r:Int×Int)(a:ag)(b:bN)  
abbrev Sv(n:Nat):aq:=.c (cat Tryz.f48 (pn n))
variable{M c r a b}{K:Kn}{n:Nat}
def abw(f:am K)(h:pV K n a b=some r):aZ aT 48 [.agg (aD a),.cptr (ce b)] (fun v _=>v=.tup [iI r.1,iI r.2]):=by
 refine bK (cat Tryz.f48 (pn 1)) Tryz.func48 Tryz.ntmps48 fun M c=>(bn ⟨[(0,.agg (aD a)),(1,.cptr (ce b))],[],[],[]⟩ ?_);unfold pV at h;refine jb 53 0 7 8 ?_;obtain⟨d,h⟩|⟨d,h⟩:=ao h
 ·refine ai 7 d (av 4 5 2 (aj 2 ?_));obtain⟨j,g,h⟩:=aw h;refine aR (Xs f g) (ae (aM 3 ?_));cases h;exact jC
 ·refine ai 7 d (br 7 3 ?_);obtain⟨e,h⟩|⟨e,h⟩:=ao h
  ·refine ai 14 e ?_;cases h
  ·refine ai 14 e (bW (ks':=[Sv 14,Sv 15]) 4 (aj 2 ?_));obtain⟨v4,i,h⟩:=aw h;refine aR (afm f i) (ae (aM 1 ?_));cases h;exact jC
end
section
variable[GS](M:Nat→Prop)(d:az)(r:dw)(b:aS)(a:dw)(e v4 v5 v6:Bool)(f:aS)  
abbrev kj(n:Nat):aq:=.c (cat Tryz.f176 (pn n))
abbrev Zm:Cx:=⟨aT,72,M,d⟩
abbrev Zj:=bodyPost aT Tryz.f176 (bP M d (fun v s=>v=.ref 9∧cB s.o []∧look 9 s.r=some (bx r)))
abbrev w9(a:ck)(s:AS):=VE (Zm M d) (Zj M d r) a .normal s
def ZB:AS:=⟨[(0,.ref 9),(3,.ptr 3 0)],[(3,aX f)],[(9,(bx a))],[3,9]⟩
def XJ:AS:=⟨[(0,.ref 9),(3,.ptr 3 0),(64,.bool v6)],[(3,aX b)],[(9,(bx a))],[3,9]⟩
def aap:AS:=⟨[(0,.ref 9),(3,.ptr 3 0),(5,.bool (b.Box.Style.WhiteSpace == 2)),(32,.bool v5)],[(3,aX b)],[(9,(bx a))],[3,9]⟩
def ahn:AS:=⟨[(0,.ref 9),(3,.ptr 3 0),(5,.bool (b.Box.Style.WhiteSpace == 2)),(24,.bool v4)],[(3,aX b)],[(9,(bx a))],[3,9]⟩
def akX:AS:=⟨[(0,.ref 9),(3,.ptr 3 0),(5,.bool (b.Box.Style.WhiteSpace == 2)),(19,.bool e)],[(3,aX b)],[(9,(bx a))],[3,9]⟩
variable{M d r b a e v4 v5 v6 f}{K:Kn}{n:Nat}
def Hw(c:am K)(h:rM K n a f=some r):w9 M d r [.b 1,kj 31] (ZB a f):=by
 unfold rM at h;refine gY 6 7 4 (aj 3 ?_);obtain⟨b,h⟩:=aB h;refine au (cG 71 9 210 5 aX (rfl) (ft) b) (ae (aM 1 ?_));cases h;exact gI
def JC(e:am K)(h:nG K n b a v6=some r):w9 M d r [kj 15609,kj 7805,.b 1,kj 31] (XJ b a v6):=by
 unfold nG at h;obtain⟨c,h⟩|⟨c,h⟩:=ao h
 ·refine ai 64 c (aM 7 ?_);cases h;exact gI
 ·exact ai 64 c (ah 3 (Hw e h))
def M1(j:am K)(h:tT K n b a v5=some r):w9 M d r [kj 487,.b 1,kj 31] (aap b a v5):=by
 unfold tT at h;obtain⟨k,h⟩|⟨k,h⟩:=ao h
 ·refine ai 32 k (aM 6 ?_);cases h;exact gI
 ·refine ai 32 k (br 7 3 ?_);obtain⟨c,h⟩|⟨c,h⟩:=ao h
  ·refine ai 40 c (cj 8 9 5 3 (aj 1 (au (bF aX a) (aW 4 2 ?_))));obtain⟨e,h⟩|⟨e,h⟩:=ao h
   ·exact aF 46 e (ae (ah 0 (JC j h)))
   ·refine aF 46 e (aW 6 2 (au (bF aX a) (aW 8 1 ?_)));obtain⟨g,h⟩:=aB h;refine au (cr 9 5 aX g) (aW 10 1 (au (bJ 4 3 aX aX (bB g).2 ap) (aW 13 2 ?_)));obtain⟨f,h⟩|⟨f,h⟩:=ao h
    ·exact aF 55 f (ae (ah 0 (JC j h)))
    ·refine aF 55 f (aW 15 2 (au (bF aX a) (aW 17 1 ?_)));obtain⟨i,h⟩:=aB h;exact au (cr 9 5 aX i) (aW 19 1 (au (bJ 3 0 aX aX (bB i).2 ap) (ae (ah 0 (JC j h)))))
  ·exact ai 40 c (ah 2 (Hw j h))
def L8(f:am K)(h:uZ K n b a v4=some r):w9 M d r [kj 121,.b 1,kj 31] (ahn b a v4):=by
 unfold uZ at h;obtain⟨c,h⟩|⟨c,h⟩:=ao h
 ·exact ai 24 c (ah 2 (Hw f h))
 ·refine ai 24 c (av 6 7 2 (aj 2 ?_));obtain⟨e,h⟩|⟨e,h⟩:=ao h
  ·exact aF 34 e (ae (ah 0 (M1 f h)))
  ·exact aF 34 e (ae (ah 0 (M1 f h)))
def Cn(g:am K)(h:md K n b a e=some r):w9 M d r [kj 117,.b 0,kj 15] (akX b a e):=by
 unfold md at h;obtain⟨c,h⟩|⟨c,h⟩:=ao h
 ·refine ai 19 c (bW (ks':=[kj 120,kj 121,.b 1,kj 31]) 6 (aj 2 ?_));obtain⟨f,h⟩|⟨f,h⟩:=ao h
  ·exact aF 26 f (ae (ah 0 (L8 g h)))
  ·exact aF 26 f (ae (ah 0 (L8 g h)))
 ·refine ai 19 c (av 6 7 2 (aj 3 ?_));obtain⟨i,h⟩:=aB h;refine au (cG 18 9 210 5 aX (rfl) (ft) i) (ae (aM 3 ?_));cases h;exact gI
def aez(e:am K)(h:A4 K n b a=some r):lL aT 176 [.ref 9,.agg (aX b)] [] 9 (bx a) [9] (fun v s=>v=.ref 9∧cB s.o []∧look 9 s.r=some (bx r)):=by
 refine uu (c:=cat Tryz.f176 (pn 1)) Tryz.func176 (by kernel_rfl) _ Tryz.ntmps176 (il (by kernel_rfl)) fun M d=>(bn ⟨[(0,.ref 9),(1,.agg (aX b))],[],[(9,(bx a))],[9]⟩ ?_);unfold A4 at h;refine dL 233 117 0 15 11 ?_;obtain⟨f,h⟩|⟨f,h⟩:=ao h
 ·exact ai 19 f (ah 2 (Cn e h))
 ·refine ai 19 f (br 7 3 ?_);obtain⟨g,h⟩|⟨g,h⟩:=ao h
  ·exact ai 19 g (ah 2 (Cn e h))
  ·refine ai 19 g (br 7 3 ?_);obtain⟨i,h⟩|⟨i,h⟩:=ao h
   ·exact ai 19 i (ah 2 (Cn e h))
   ·exact ai 19 i (ah 2 (Cn e h))
end
end
end Go.Proofs.YtocgkfoifehcbaaGreat

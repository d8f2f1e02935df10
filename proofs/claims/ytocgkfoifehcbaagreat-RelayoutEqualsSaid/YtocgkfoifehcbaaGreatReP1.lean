/- The runs of the functions that RelayoutEquals reaches do what their plain forms say, part 1. Made by a program. -/
import Derived.Test.YtocgkfoifehcbaaGreatReP0
namespace Go.Proofs.YtocgkfoifehcbaaGreat
noncomputable section
open Go.RowKit
set_option maxRecDepth 20000
set_option linter.all false
section
variable[GS](M:Nat→Prop)(l:aC)(r:c6×Int×Int×Int×dt)(N:ab)(v2:Int)(o:bB)(v4 v5:Int)(v6:dt)(j:dO)(g:Int)(f:ee)(d B:b7)(C F G I J f0:Int)(g0:Bool)(e0:Int)(a:b7)(i b:Int)(q:c6)(t u:Int)(w:dt)(z O:Int)(P:b7)(Q a0:Int)(x:b7)(A D y:Int)(E:c6)(b0 c0:Int)(d0:dt)(m1 H m3 m4:Nat)(L1:Int→ee→b7→b7→Option g7)(L2:Int→Int→c6→Int→Int→dt→Option g7)(L3:Int→b7→Int→Int→Option g7)(L4:Int→Int→Int→c6→Int→Int→dt→Option g7)
abbrev ni:Cx:=⟨bb,228,M,l⟩
abbrev na:=bodyPost bb Tryz.f81 (bR M l (fun v s=>v=.tup [.ref 440010,iI r.2.1]∧cw s.o [(af r.2.2.1 r.2.2.2.1)]∧look 440009 s.r=some (bk r.2.2.2.2)∧look 440010 s.r=some (bt r.1)))
abbrev oe(a:dn)(s:AS):=VE (ni M l) (na M l r) a .normal s
abbrev dv(n:Nat):aq:=.c (cat Tryz.f81 (pn n))
abbrev Hk:dn:=[.b 2,dv 4095]
abbrev zd:dn:=kl (ni M l) (na M l r) Hk (cat Tryz.f81 (pn 32756)) H::Hk
abbrev Hp:dn:=[.b 0,dv 127]
abbrev xe:dn:=kl (ni M l) (na M l r) Hp (cat Tryz.f81 (pn 1012)) m1::Hp
abbrev GX:dn:=.b 6::dv 67085951 :: .b 3::dv 262055::zd M l r H
abbrev Fs:dn:=kl (ni M l) (na M l r) (GX M l r H) (cat Tryz.f81 (pn 536687604)) m4::(GX M l r H)
abbrev Jb:dn:=.b 4::dv 16771487 :: .b 3::dv 262055::zd M l r H
abbrev agE:dn:=kl (ni M l) (na M l r) (Jb M l r H) (cat Tryz.f81 (pn 134171892)) m3::(Jb M l r H)
def XN:AS:=⟨[(1,iI v2),(3,.ptr 3 0),(5,.ptr 5 0),(8,.ref 1035),(9,.ref 38),(10,.ref 41),(11,.ref 44),(12,iI g),(15,.ptr 15 0),(16,iI e0),(45,.ref 1035),(46,iI (j.length:Int)),(47,iI g)],[(3,az N),(5,bP o),(15,co (⟨0,I,J,F,G⟩:bH)),(af v4 v5)],[(38,⟨176,5,lm co f⟩),(41,⟨3,1,lm (ak .i64) (List.set d g.toNat C)⟩),(44,(bf B)),(1035,(bx j)),(440009,(bk v6))],[3,5,15,440001,38,41,44,1035,440009,1440001,440001]⟩
def ag4:AS:=⟨[(1,iI v2),(3,.ptr 3 0),(5,.ptr 5 0),(8,.ref 1035),(9,.ref 38),(10,.ref 41),(11,.ref 44),(12,iI g),(13,.ptr 13 0),(14,.ptr 14 0),(15,.ptr 15 0),(16,iI f0),(17,.bool g0),(45,.ref 1035),(46,iI (j.length:Int)),(47,iI g)],[(3,az N),(5,bP o),(13,az (gD j g)),(14,aI ((gD j g).Style)),(15,co (⟨0,I,J,F,G⟩:bH)),(af v4 v5)],[(38,⟨176,5,lm co f⟩),(41,⟨3,1,lm (ak .i64) (List.set d g.toNat C)⟩),(44,(bf B)),(1035,(bx j)),(440009,(bk v6))],[3,5,13,14,15,440001,38,41,44,1035,440009,1440001,440001]⟩
def L6:AS:=⟨[(1,iI v2),(5,.ptr 5 0),(8,.ref 1035),(9,.sl (lm co f)),(10,.sl (lm (ak .i64) d)),(20,.sl (lm (ak .i64) a)),(21,.ref 220),(22,iI i),(24,iI (gD a b)),(29,iI A),(30,iI D),(128,.sl (lm (ak .i64) a)),(129,iI (a.length:Int)),(130,iI b),(166,.ref 1166),(167,iI (x.length:Int)),(168,iI y)],[(5,bP o),(af b0 c0)],[(220,(bt E)),(1035,(bx j)),(1166,(bf x)),(440009,(bk d0))],[5,440001,220,1035,1166,440009,1440001,440001]⟩
def U9:AS:=⟨[(1,iI v2),(5,.ptr 5 0),(8,.ref 1035),(9,.sl (lm co f)),(10,.sl (lm (ak .i64) d)),(20,.sl (lm (ak .i64) a)),(21,.ref 220),(22,iI i),(24,iI (gD a b)),(25,iI z),(26,iI O),(128,.sl (lm (ak .i64) a)),(129,iI (a.length:Int)),(130,iI b),(151,.sl (lm (ak .i64) P)),(152,iI Q),(153,iI a0)],[(5,bP o),(af t u)],[(220,(bt q)),(1035,(bx j)),(440009,(bk w))],[5,440001,220,1035,440009,1440001,440001]⟩
def akY:AS:=⟨[(1,iI v2),(5,.ptr 5 0),(8,.ref 1035),(9,.sl (lm co f)),(10,.sl (lm (ak .i64) d)),(20,.sl (lm (ak .i64) a)),(21,.ref 220),(22,iI i),(24,iI (gD a b)),(25,iI z),(128,.sl (lm (ak .i64) a)),(129,iI (a.length:Int)),(130,iI b)],[(5,bP o),(af t u)],[(220,(bt q)),(1035,(bx j)),(440009,(bk w))],[5,440001,220,1035,440009,1440001,440001]⟩
def RY:AS:=⟨[(1,iI v2),(5,.ptr 5 0),(8,.ref 1035),(9,.sl (lm co f)),(10,.sl (lm (ak .i64) d)),(20,.sl (lm (ak .i64) a)),(21,.ref 220),(22,iI i),(128,.sl (lm (ak .i64) a)),(129,iI (a.length:Int)),(130,iI b)],[(5,bP o),(af t u)],[(220,(bt q)),(1035,(bx j)),(440009,(bk w))],[5,440001,220,1035,440009,1440001,440001]⟩
def ahA:AS:=⟨[(1,iI v2),(5,.ptr 5 0),(8,.ref 1035),(9,.ref 38),(10,.ref 41),(20,.sl (lm (ak .i64) a))],[(5,bP o),(af v4 v5)],[(38,⟨176,5,lm co f⟩),(41,(bf d)),(1035,(bx j)),(440009,(bk v6))],[5,440001,38,41,1035,440009,1440001,440001]⟩
def UH:AS:=⟨[(1,iI v2),(3,.ptr 3 0),(5,.ptr 5 0),(8,.ref 1035),(9,.ref 38),(10,.ref 41),(11,.ref 44),(45,.ref 1035),(46,iI (j.length:Int)),(47,iI g)],[(3,az N),(5,bP o),(af v4 v5)],[(38,⟨176,5,lm co f⟩),(41,(bf d)),(44,(bf B)),(1035,(bx j)),(440009,(bk v6))],[3,5,440001,38,41,44,1035,440009,1440001,440001]⟩
abbrev Em:Prop:=∀{g:Int} {f:ee} {d:b7} {B:b7},L1 g f d B=some r→LP (ni M l) (na M l r) Hp (cat Tryz.f81 (pn 1012)) m1 (UH N v2 o v4 v5 v6 j g f d B)
abbrev qY:Prop:=∀{i:Int} {b:Int} {q:c6} {t:Int} {u:Int} {w:dt},L2 i b q t u w=some r→LP (ni M l) (na M l r) Hk (cat Tryz.f81 (pn 32756)) H (RY v2 o j f d a i b q t u w)
abbrev Nm:Prop:=∀{O:Int} {P:b7} {Q:Int} {a0:Int},L3 O P Q a0=some r→LP (ni M l) (na M l r) (Jb M l r H) (cat Tryz.f81 (pn 134171892)) m3 (U9 v2 o j f d a i b q t u w z O P Q a0)
abbrev Q0:Prop:=∀{A:Int} {D:Int} {y:Int} {E:c6} {b0:Int} {c0:Int} {d0:dt},L4 A D y E b0 c0 d0=some r→LP (ni M l) (na M l r) (GX M l r H) (cat Tryz.f81 (pn 536687604)) m4 (L6 v2 o j f d a i b x A D y E b0 c0 d0)
variable{M l r N v2 o v4 v5 v6 j g f d B C F G I J f0 g0 e0 a i b q t u w z O P Q a0 x A D y E b0 c0 d0 m1 H m3 m4 L1 L2 L3 L4}{K:Kn}{n:Nat}[SG l][PF o.Layout]
def Wg(s:ao K)(p:Em M l r N v2 o v4 v5 v6 j m1 L1)(h:td K n N v2 o v4 v5 v6 j g f d B C F G I J L1 e0=some r):oe M l r (dv 2074239 :: .b 1::dv 8103::xe M l r m1) (XN N v2 o v4 v5 v6 j g f d B C F G I J e0):=by
 unfold td at h;refine ay 6 7 3 (ai 3 ?_);obtain⟨b,h⟩:=aD h;refine au (cp 38 5 co b) (au (dF 38 176 5 0 co co (⟨e0,I,J,F,G⟩:bH) (bE b).2 aT) (ac ?_));obtain⟨q,i,h⟩:=bU h;refine bC (ks':=dv 8296959 :: .b 1::dv 8103::xe M l r m1) 0 ⟨[(1,iI v2),(3,.ptr 3 0),(5,.ptr 5 0),(8,.ref 1035),(9,.ref 38),(10,.ref 41),(11,.ref 44),(12,iI g),(15,.ptr 15 0),(45,.ref 1035),(46,iI (j.length:Int)),(47,iI g)],[(3,az N),(5,bP o),(15,co (⟨e0,I,J,F,G⟩:bH)),(af v4 v5)],[(38,⟨176,5,lm co q⟩),(41,⟨3,1,lm (ak .i64) (List.set d g.toNat C)⟩),(44,(bf B)),(1035,(bx j)),(440009,(bk v6))],[3,5,15,440001,38,41,44,1035,440009,1440001,440001]⟩ ?_ (by subst i;kernel_rfl);obtain⟨a,k,h⟩:=aw h;obtain⟨c,h⟩:=aD h;obtain⟨e,h⟩:=aD h;exact bQ 1 (nu 110 [.ref 44,iI g,.agg (co (⟨e0,I,J,F,G⟩:bH)),iI a,.ref 41,iI g,.eptr 41 1 (g.toNat) 0,iI (gD (List.set d g.toNat C) g),iI (aa (a+(gD (List.set d g.toNat C) g))),.eptr 44 1 (g.toNat) 0]) [] [] [eC 44 ⟨3,1,lm (ak .i64) (List.set B g.toNat (aa (a+(gD (List.set d g.toNat C) g))))⟩] (av (vz 3) (aj (cj 0 1 113 (Fc s k)) (av (vz 2) (bi (cF 41 1 (ak .i64) (L:=(List.set d g.toNat C)) c) (bi (bK 3 0 (ak .i64) (ak .i64) (bE c).2 aT) (av [.v 0 1] (bi (cF 44 1 (ak .i64) (L:=B) e) (aj (dm (m:=0) (dF 44 3 1 0 (ak .i64) (ak .i64) (aa (a+(gD (List.set d g.toNat C) g))) (bE e).2 aT)) bS)))))))) (ag 2 (bu (p h)))
def OZ(b:ao K)(c:Em M l r N v2 o v4 v5 v6 j m1 L1)(h:z0 K n N v2 o v4 v5 v6 j g f d B C F G I J L1 f0 g0=some r):oe M l r (dv 1037119 :: .b 1::dv 8103::xe M l r m1) (ag4 N v2 o v4 v5 v6 j g f d B C F G I J f0 g0):=by
 unfold z0 at h;refine ay 5 3 3 ?_;obtain⟨a,h⟩|⟨a,h⟩:=am h
 ·refine ah 91 a (ay 4 5 2 (ai 3 ?_));obtain⟨m,e,h⟩:=aw h;refine lS (b.gI e) (ac (ai 2 ?_));obtain⟨p,i,h⟩:=aw h;refine aS (mZ b i) ?_;obtain⟨q,k,h⟩:=aw h;exact aS (oC b k) (ac (ag 0 (Wg b c h)))
 ·exact ah 91 a (ag 2 (Wg b c h))
def aaD(v:ao K)(P:qY M l r v2 o j f d a H L2)(Q:Q0 M l r v2 o j f d a i b x H m4 L4)(h:ES K n v2 o j f d a i b x L2 L4 A D y E b0 c0 d0=some r):oe M l r (dv 536687604::Fs M l r H m4) (L6 v2 o j f d a i b x A D y E b0 c0 d0):=by
 unfold ES at h;refine ay 6 7 3 ?_;obtain⟨m,h⟩|⟨m,h⟩:=am h
 ·refine ah 169 m (cQ 8 9 7 3 5 (ai 1 ?_));obtain⟨s,h⟩:=aD h;refine au (cp 1166 1 (ak .i64) s) (au (bK 3 0 (ak .i64) (ak .i64) (bE s).2 aT) (ac (ay 2 3 1 (bJ [1,5,8,9,10,20,21,22,24,29,30,31,32,128,129,130,166,167,168,169] [5,440001] [220,1035,1166,440009] (Gf 169 ?_)))));obtain⟨e,h⟩:=aD h;obtain⟨N,w,h⟩:=aw h;obtain⟨c,t,h⟩:=aw h;refine bQ 2 (nu 173 [.ptr 5 0,.fn o.Layout.id o.Layout.aV,.ref 1035,iI (gD a b),iI y,iI (aa ((gD a b)+y)),.eptr 1035 59 (((aa ((gD a b)+y))).toNat) 0,.agg (az (gD j ((aa ((gD a b)+y))))),iI (gD x y),.agg (az N),iI v2]++nu 33 [.ptr 33 0]) [(33,List.set (aH bV) 66 (.nils))] [] [Bi (some 184) (bk c.2.2.2) [(af c.2.1 c.2.2.1)] (.agg (aH c.1)),ci bb 228 Tryz.f81 (pn 34348006706) 13] (av [.v 0 2,.v 0 1,.v 0 2,.v 0 2,.v 0 2,.v 0 2] (aj (fi (lo:=0) (k:=2) (db ⟨(by kernel_rfl),(de (cF 1035 59 aM (L:=j) e) (by kernel_rfl))⟩ (db ⟨(by kernel_rfl),(de (cF 1035 59 aM (L:=j) e) (by kernel_rfl))⟩ fI))) (aj (fi (lo:=0) (k:=2) (db ⟨(by kernel_rfl),(de (bK 48 0 aM az (bE e).2 (dV)) (by kernel_rfl))⟩ (db ⟨(by kernel_rfl),(de (bK 48 0 aM az (bE e).2 (dV)) (by kernel_rfl))⟩ fI))) (av [.v 0 2] (aj (cj 0 1 182 (ajr v w)) (av [.v 0 1] (aj (Hz 0 169 (v.dp t).2 (v.dp t).1) (aj (qy 0 2 44 33 (List.set (aH bV) 66 (.nils))) (aj (cg 1) bS))))))))) (ay 2 3 1 (bJ [1,5,8,9,10,20,21,22,24,29,30,31,32,33,128,129,130,166,167,168] [5,33,440001] [220,1035,1166,440009] ?_))
  obtain⟨g,z,h⟩:=aw h;obtain⟨p,B,h⟩:=aw h;refine bQ 1 (nu 185 [iI D,.ptr 33 61,.agg (cU c.1.Before),iI g,.ptr 33 5,iI c.1.H,iI (aa (g+c.1.H)),.agg (aH c.1),iI p,iI (aa ((aa (g+c.1.H))+p)),iI (max D (aa ((aa (g+c.1.H))+p)))]) [] [] [ci bb 228 Tryz.f81 (pn 68696013414) 11] (av (vz 3) (aj (cj 0 1 188 (nc v z)) (av (vz 4) (aj (cj 0 1 193 (RF v B)) (av (vz 2) (aj (cg 0) bS)))))) ?_;obtain⟨u,C,h⟩:=bU h;refine bC (ks':=dv 274784053662::dv 274784053663 :: .b 7::dv 4293500839::Fs M l r H m4) 3 ⟨[(1,iI v2),(5,.ptr 5 0),(8,.ref 1035),(9,.sl (lm co f)),(10,.sl (lm (ak .i64) d)),(20,.sl (lm (ak .i64) a)),(21,.ref 220),(22,iI i),(24,iI (gD a b)),(29,iI A),(30,iI u),(31,iI y),(32,iI (gD x y)),(33,.ptr 33 0),(128,.sl (lm (ak .i64) a)),(129,iI (a.length:Int)),(130,iI b),(166,.ref 1166),(167,iI (x.length:Int)),(168,iI y)],[(5,bP o),(33,aH ({ c.1 with X:=(aa (c.1.X+A)) }:ae)),(af c.2.1 c.2.2.1)],[(220,(bt E)),(1035,(bx j)),(1166,(bf x)),(440009,(bk c.2.2.2))],[5,33,440001,220,1035,1166,440009,1440001,440001]⟩ ?_ (by subst C;kernel_rfl)
  refine ai 3 ?_;obtain⟨q,F,h⟩:=aw h;refine aS (nc v F) (ac (ay 2 3 1 (ai 6 ?_)));obtain⟨G,h⟩:=aD h;refine au (bD (ak .i64) (ak .i64) G aT aT) (ac ?_);obtain⟨O,I,h⟩:=bU h;refine bC (ks':=dv 549568107327 :: .b 7::dv 4293500839::Fs M l r H m4) 0 ⟨[(1,iI v2),(5,.ptr 5 0),(8,.ref 1035),(9,.sl (lm co f)),(10,.sl (lm (ak .i64) d)),(20,.sl (lm (ak .i64) a)),(21,.ref 220),(22,iI i),(24,iI (gD a b)),(29,iI O),(30,iI u),(33,.ptr 33 0),(128,.sl (lm (ak .i64) a)),(129,iI (a.length:Int)),(130,iI b),(166,.ref 1166),(167,iI (x.length:Int)),(168,iI y)],[(5,bP o),(33,aH ({ c.1 with X:=(aa (c.1.X+A)),Y:=(aa (i+q)) }:ae)),(af c.2.1 c.2.2.1)],[(220,(bt E)),(1035,(bx j)),(1166,(bf x)),(440009,(bk c.2.2.2))],[5,33,440001,220,1035,1166,440009,1440001,440001]⟩ ?_ (by subst I;kernel_rfl)
  refine ai 2 (au (gz aQ ([({ c.1 with X:=(aa (c.1.X+A)),Y:=(aa (i+q)) }:ae)]:c6) (new:=[aH ({ c.1 with X:=(aa (c.1.X+A)),Y:=(aa (i+q)) }:ae)]) (by simp only[rv,zt,dP])) ?_);obtain⟨J,h⟩:=aD h;exact au (cA 220 220 44 67 aQ (rfl) (jZ) J) (ac (ag 2 (bu (Q h))))
 ·exact ah 169 m (ag 8 (bu (P h)))
def ab9(e:ao K)(c:qY M l r v2 o j f d a H L2)(m:Nat):Q0 M l r v2 o j f d a i b x H m (tG K n v2 o j f d a i b x L2 m):=by
 induction m with
 | zero=>exact fun h=>nomatch h
 | succ m g=>exact fun h=>bp (aaD e c g h)
def ag6(A:ao K)(v:qY M l r v2 o j f d a H L2)(y:Nm M l r v2 o j f d a i b q t u w z H m3 L3)(h:BZ K n v2 o j f d a i b q t u w z L2 L3 O P Q a0=some r):oe M l r (dv 134171892::agE M l r H m3) (U9 v2 o j f d a i b q t u w z O P Q a0):=by
 unfold BZ at h;refine ay 6 7 3 ?_;obtain⟨c,h⟩|⟨c,h⟩:=am h
 ·refine ah 154 c (cQ 8 9 5 3 5 (ai 0 ?_));obtain⟨g,h⟩:=aD h;exact au (bD (ak .i64) (ak .i64) g aT aT) (ac (ag 3 (bu (y h))))
 ·refine ah 154 c (xg 12 13 7 9 (ai 3 ?_));obtain⟨m,h⟩:=aD h;refine au (jp co f (gD a b) z 174 (.tmp 161) (some (.tmp 162)) (some (.tmp 163)) 164 (e:=176) (sz:=5) (by kernel_rfl) (by kernel_rfl) (by kernel_rfl) (by kernel_rfl) (by kernel_rfl) (by kernel_rfl) (Gi) (fun k B=>by subst B;kernel_rfl) m) (aP 5 1 ?_);obtain⟨x,s,h⟩:=aw h;exact eZ 1166 (U4 A s) (fa 143) (au (bz (ak .i64) x) (ac (ag 1 (cc (p:=pn 268343802) n (ab9 A v n h)))))
def Z7(e:ao K)(c:qY M l r v2 o j f d a H L2)(m:Nat):Nm M l r v2 o j f d a i b q t u w z H m (uK K n v2 o j f d a i b q t u w z L2 m):=by
 induction m with
 | zero=>exact fun h=>nomatch h
 | succ m g=>exact fun h=>bp (ag6 e c g h)
def M4(m:ao K)(g:qY M l r v2 o j f d a H L2)(h:nf K n v2 o j f d a i b q t u w L2 z=some r):oe M l r (dv 4192871 :: .b 3::dv 262055::zd M l r H) (akY v2 o j f d a i b q t u w z):=by
 unfold nf at h;refine bX 12 13 7 4 (ai 3 ?_);obtain⟨c,h⟩:=aD h;exact au (jp (ak .i64) d (gD a b) z 72 (.tmp 148) (some (.tmp 149)) (some (.tmp 150)) 151 (e:=3) (sz:=1) (by kernel_rfl) (by kernel_rfl) (by kernel_rfl) (by kernel_rfl) (by kernel_rfl) (by kernel_rfl) aT (fun k s=>by subst s;kernel_rfl) c) (au (bz (ak .i64) (List.drop ((gD a b)).toNat (List.take z.toNat d))) (ac (ag 1 (cc (p:=pn 67085946) n (Z7 m g n h)))))
def abt(v:ao K)(p:qY M l r v2 o j f d a H L2)(h:Ef K n v2 o j f d a L2 i b q t u w=some r):oe M l r (dv 32756::zd M l r H) (RY v2 o j f d a i b q t u w):=by
 unfold Ef at h;refine ay 6 7 3 ?_;obtain⟨c,h⟩|⟨c,h⟩:=am h
 ·refine ah 131 c (cQ 8 9 3 3 5 (ai 1 ?_));obtain⟨g,h⟩:=aD h;refine au (bD (ak .i64) (ak .i64) g aT aT) (ac (ay 2 3 1 (ai 1 (au (bz aM j) (ac (bX 4 5 3 2 (ai 3 (au (bz (ak .i64) a) (ac ?_)))))))));obtain⟨s,k,h⟩:=bU h;refine bC (ks':=dv 8385741::dv 4192871 :: .b 3::dv 262055::zd M l r H) 0 ⟨[(1,iI v2),(5,.ptr 5 0),(8,.ref 1035),(9,.sl (lm co f)),(10,.sl (lm (ak .i64) d)),(20,.sl (lm (ak .i64) a)),(21,.ref 220),(22,iI i),(23,iI b),(24,iI (gD a b)),(25,iI (j.length:Int)),(128,.sl (lm (ak .i64) a)),(129,iI (a.length:Int)),(130,iI b),(141,.bool s)],[(5,bP o),(af t u)],[(220,(bt q)),(1035,(bx j)),(440009,(bk w))],[5,440001,220,1035,440009,1440001,440001]⟩ ?_ (by subst k;kernel_rfl);obtain⟨e,h⟩|⟨e,h⟩:=am h
  ·refine ah 141 e (bv 2 1 (ai 3 ?_));obtain⟨m,h⟩:=aD h;exact au (bD (ak .i64) (ak .i64) m aT aT) (ac (ag 0 (M4 v p h)))
  ·exact ah 141 e (ag 2 (M4 v p h))
 ·refine ah 131 c (aL 8 (qN 220 440010 ?_));cases h;exact Vv
def ajf(b:ao K)(m:Nat):qY M l r v2 o j f d a m (jz K n v2 o j f d a m):=by
 induction m with
 | zero=>exact fun h=>nomatch h
 | succ m c=>exact fun h=>bp (abt b c h)
def Sf(b:ao K)(h:lA K n v2 o v4 v5 v6 j f d a=some r):oe M l r [dv 511] (ahA v2 o v4 v5 v6 j f d a):=by
 unfold lA at h;exact bX 28 29 15 6 (ai 1 (au (bz (ak .i64) a) (ac (ig 2 2 1 (bJ [1,5,8,9,10,20,21,22,128,129,130] [5,440001] [38,41,1035,440009] (gG 38 (gG 41 (fb 220 21 44 67 (ag 0 (cc (p:=pn 16378) n (ajf b n h)))))))))))
def ZM(a:ao K)(m:Em M l r N v2 o v4 v5 v6 j m1 L1)(h:Bx K n N v2 o v4 v5 v6 j L1 g f d B=some r):oe M l r (dv 1012::xe M l r m1) (UH N v2 o v4 v5 v6 j g f d B):=by
 unfold Bx at h;refine ay 6 7 3 ?_;obtain⟨b,h⟩|⟨b,h⟩:=am h
 ·refine ah 48 b (cQ 8 9 1 3 5 (ai 1 ?_));obtain⟨i,h⟩:=aD h;refine au (cp 1035 59 aM i) (au (bK 48 0 aM az (bE i).2 (dV)) (ac (ay 6 7 3 (ai 4 ?_))));obtain⟨z,p,h⟩:=aw h;refine aS (mZ a p) ?_;obtain⟨C,q,h⟩:=aw h;refine aS (oC a q) ?_;obtain⟨k,h⟩:=aD h;refine au (cp 41 1 (ak .i64) k) (au (dF 41 3 1 0 (ak .i64) (ak .i64) C (bE k).2 aT) (ac (ay 2 3 1 (bJ [1,3,5,8,9,10,11,12,13,14,45,46,47] [3,5,13,14,440001] [38,41,44,1035,440009] ?_))));obtain⟨F,s,h⟩:=aw h;obtain⟨G,t,h⟩:=aw h;refine bQ 1 (nu 61 [.ptr 14 44,iI (((gD j g).Style).Grow),.ptr 14 45,iI (((gD j g).Style).Shrink),.ptr 14 10,.agg (gg (((gD j g).Style).MinWidth)),iI v2,iI F,.ptr 14 12,.agg (gg (((gD j g).Style).MaxWidth)),iI v2,iI G,.agg (co (⟨0,((gD j g).Style).Grow,((gD j g).Style).Shrink,F,G⟩:bH))]++nu 15 [.ptr 15 0]) [(15,co kv)] [] [ci bb 228 Tryz.f81 (pn 259278) 14] (av (vz 7) (aj (cj 0 1 68 (xv a s)) (av (vz 3) (aj (cj 0 1 72 (xv a t)) (av [.v 0 1] (aj (qy 0 1 176 15 (co kv)) (aj (cg 0) bS))))))) ?_
  obtain⟨I,u,h⟩:=bU h;obtain⟨J,v,h⟩:=bU h;refine bC (ks':=dv 518558::dv 518559 :: .b 1::dv 8103::xe M l r m1) 1 ⟨[(1,iI v2),(3,.ptr 3 0),(5,.ptr 5 0),(8,.ref 1035),(9,.ref 38),(10,.ref 41),(11,.ref 44),(12,iI g),(13,.ptr 13 0),(14,.ptr 14 0),(15,.ptr 15 0),(45,.ref 1035),(46,iI (j.length:Int)),(47,iI g)],[(3,az N),(5,bP o),(13,az (gD j g)),(14,aI ((gD j g).Style)),(15,co (⟨0,I,J,F,G⟩:bH)),(af v4 v5)],[(38,⟨176,5,lm co f⟩),(41,⟨3,1,lm (ak .i64) (List.set d g.toNat C)⟩),(44,(bf B)),(1035,(bx j)),(440009,(bk v6))],[3,5,13,14,15,440001,38,41,44,1035,440009,1440001,440001]⟩ ?_ (by subst v;subst u;kernel_rfl);refine ai 3 ?_;obtain⟨A,w,h⟩:=aw h;refine aS (eD a w) (ac (ay 5 3 3 ?_));obtain⟨c,h⟩|⟨c,h⟩:=am h
  ·refine ah 82 c (bv 2 1 (ai 3 ?_));obtain⟨D,x,h⟩:=aw h;exact aS (eD a x) (ac (ag 0 (OZ a m h)))
  ·exact ah 82 c (ag 2 (OZ a m h))
 ·refine ah 48 b (gB 13 7 10 ?_);obtain⟨e,h⟩|⟨e,h⟩:=am h
  ·refine ah 124 e (bv 2 1 (ai 2 (mz 44 ?_)));obtain⟨E,y,h⟩:=aw h;exact eZ 1127 (ahz a y) (fa 29) (ac (gG 1127 (ag 0 (Sf a h))))
  ·exact ah 124 e (ag 2 (Sf a h))
def ab8(a:ao K)(m:Nat):Em M l r N v2 o v4 v5 v6 j m (qM K n N v2 o v4 v5 v6 j m):=by
 induction m with
 | zero=>exact fun h=>nomatch h
 | succ m b=>exact fun h=>bp (ZM a b h)
def Zp(d:ao K)(h:Aj K n N v2 o v4 v5 v6=some r):d8 bb 81 [.agg (az N),iI v2,.agg (bP o)] [(af v4 v5)] (bk v6) (fun v s=>v=.tup [.ref 440010,iI r.2.1]∧cw s.o [(af r.2.2.1 r.2.2.2.1)]∧look 440009 s.r=some (bk r.2.2.2.2)∧look 440010 s.r=some (bt r.1)):=by
 refine kn (c:=cat Tryz.f81 []) Tryz.func81 (by kernel_rfl) _ Tryz.ntmps81 (jt (by kernel_rfl)) fun M l=>(bn ⟨[(0,.agg (az N)),(1,iI v2),(2,.agg (bP o))],[(af v4 v5)],[(440009,(bk v6))],[440009,440001,1440001]⟩ ?_);unfold Aj at h;refine cd (ks':=[dv 6,dv 7]) 3 (ai 1 ?_);obtain⟨j,g,h⟩:=aw h;refine eZ 1035 (H6 d g) (fa 21) (ac (ay 2 3 1 (ai 1 (au (bz aM j) ?_))));obtain⟨i,h⟩:=aD h;refine o5 co (kv:bH) 174 (.tmp 37) (.tmp 37) 38 (e:=176) (sz:=5) (zc:=co kv) (kd:=.i64) (kd':=.i64) i (ac ?_);obtain⟨b,k,h⟩:=bU h;refine bC (ks':=[dv 30,dv 31]) 1 ⟨[(1,iI v2),(3,.ptr 3 0),(5,.ptr 5 0),(8,.ref 1035),(9,.ref 38)],[(3,az N),(5,bP o),(af v4 v5)],[(38,⟨176,5,lm co b⟩),(1035,(bx j)),(440009,(bk v6))],[3,5,440001,38,1035,440009,1440001,440001]⟩ ?_ (by subst k;kernel_rfl)
 refine ai 1 (au (bz aM j) ?_);obtain⟨m,h⟩:=aD h;refine o5 (ak .i64) (0:Int) 72 (.tmp 40) (.tmp 40) 41 (e:=3) (sz:=1) (zc:=[iI 0]) (kd:=.i64) (kd':=.i64) m (ac ?_);obtain⟨f,q,h⟩:=bU h;refine bC (ks':=[dv 62,dv 63]) 1 ⟨[(1,iI v2),(3,.ptr 3 0),(5,.ptr 5 0),(8,.ref 1035),(9,.ref 38),(10,.ref 41)],[(3,az N),(5,bP o),(af v4 v5)],[(38,⟨176,5,lm co b⟩),(41,(bf f)),(1035,(bx j)),(440009,(bk v6))],[3,5,440001,38,41,1035,440009,1440001,440001]⟩ ?_ (by subst q;kernel_rfl);refine ai 1 (au (bz aM j) ?_);obtain⟨t,h⟩:=aD h;refine o5 (ak .i64) (0:Int) 72 (.tmp 43) (.tmp 43) 44 (e:=3) (sz:=1) (zc:=[iI 0]) (kd:=.i64) (kd':=.i64) t (ac ?_);obtain⟨a,u,h⟩:=bU h;refine bC (ks':=[dv 252,dv 253,dv 127]) 2 ⟨[(1,iI v2),(3,.ptr 3 0),(5,.ptr 5 0),(8,.ref 1035),(9,.ref 38),(10,.ref 41),(11,.ref 44)],[(3,az N),(5,bP o),(af v4 v5)],[(38,⟨176,5,lm co b⟩),(41,(bf f)),(44,(bf a)),(1035,(bx j)),(440009,(bk v6))],[3,5,440001,38,41,44,1035,440009,1440001,440001]⟩ ?_ (by subst u;kernel_rfl)
 exact ai 1 (au (bz aM j) (ac (ag 1 (cc (p:=pn 506) n (ab8 d n h)))))
end
section
variable[GS](M:Nat→Prop)(b:aC)(r a:ae)(v2:Int)(c:Int×Bool)(v5:Int)  
abbrev adW(n:Nat):aq:=.c (cat Tryz.f83 (pn n))
abbrev aaM:Cx:=⟨bb,45,M,b⟩
abbrev q83:=bodyPost bb Tryz.f83 (bR M b (fun v _=>v=.agg (aH r)))
abbrev afa(a:dn)(s:AS):=VE (aaM M b) (q83 M b r) a .normal s
def Yz:AS:=⟨[(2,.ptr 2 0),(4,.ptr 4 0)],[(2,aH ({ a with X:=(aa (a.X+c.1)),Y:=v5 }:ae)),(4,List.set (aH bV) 66 (.nils))],[],[2,4]⟩
variable{M b r a v2 c v5}{K:Kn}{n:Nat}
def Rj(d:ao K)(h:yp K n a c v5=some r):afa M b r [adW 63] (Yz a c v5):=by
 unfold yp at h;refine aL 3 ?_;cases h;exact bA
def MU(d:ao K)(h:uu K n a v2=some r):ba bb 83 [.agg (aH a),iI v2] (fun v _=>v=.agg (aH r)):=by
 refine bI (cat Tryz.f83 (pn 1)) Tryz.func83 Tryz.ntmps83 fun M b=>(bn ⟨[(0,.agg (aH a)),(1,iI v2)],[],[],[]⟩ ?_);unfold uu at h;refine ay 13 7 5 ?_;obtain⟨e,h⟩|⟨e,h⟩:=am h
 ·refine ah 12 e (aL 5 ?_);cases h;exact bA
 ·refine ah 12 e (fO 2 3 3 (ai 4 ?_));obtain⟨c,g,h⟩:=aw h;refine aS (eD d g) (ac (ay 13 7 5 ?_));obtain⟨f,h⟩|⟨f,h⟩:=am h
  ·refine ah 31 f (ay 4 5 2 (ai 3 ?_));obtain⟨v4,i,h⟩:=aw h;exact aS (eD d i) (ac (ag 1 (Rj d h)))
  ·exact ah 31 f (ag 2 (Rj d h))
end
section
variable[GS](M:Nat→Prop)(w:aC)(r:ae×Int×Int×dt)(l:ab)(v2:Int)(A:bB)(v4 v5:Int)(v6:dt)(b:cf)(t u:bj)(x:Int)(e:c6)(f g:Int)(j:dt)(y o q a:Int)(d:c6)(z:Nat)(B:Int→c6→Option g6)
abbrev HH:Cx:=⟨bb,154,M,w⟩
abbrev Ij:=bodyPost bb Tryz.f44 (bR M w (fun v s=>v=.agg (aH r.1)∧cw s.o [(af r.2.1 r.2.2.1)]∧look 440009 s.r=some (bk r.2.2.2)))
abbrev H9(a:dn)(s:AS):=VE (HH M w) (Ij M w r) a .normal s
abbrev jc(n:Nat):aq:=.c (cat Tryz.f44 (pn n))
abbrev Je:dn:=[.b 0,jc 2047]
abbrev F9:dn:=kl (HH M w) (Ij M w r) Je (cat Tryz.f44 (pn 16372)) z::Je
def Pc:AS:=⟨[(6,.ptr 6 0),(7,.ptr 7 0),(8,.ptr 8 0),(104,iI (e.length:Int)),(105,iI a)],[(6,List.set (aH bV) 66 (.nils)),(7,cu b),(8,List.set (aH (⟨1,l.Node,b.Margin.a3,0,o,q,0,⟨#[]⟩,l.Style,t,u,false,[]⟩:ae)) 66 (.ref 1040)),(af f g)],[(1040,(bt d)),(440009,(bk j))],[6,7,8,440001,1040,440009,1440001,440001]⟩
def aik:AS:=⟨[(6,.ptr 6 0),(7,.ptr 7 0),(8,.ptr 8 0),(9,iI y)],[(6,List.set (aH bV) 66 (.nils)),(7,cu b),(8,List.set (aH ({ bV with Kind:=1,Node:=l.Node,X:=b.Margin.a3,Style:=l.Style,Before:=t,After:=u }:ae)) 66 (.ref 1040)),(af f g)],[(1040,(bt e)),(440009,(bk j))],[6,7,8,440001,1040,440009,1440001,440001]⟩
def ae4:AS:=⟨[(3,.ptr 3 0),(6,.ptr 6 0),(7,.ptr 7 0),(8,.ptr 8 0),(9,iI x)],[(3,az l),(6,List.set (aH bV) 66 (.nils)),(7,cu b),(8,List.set (aH ({ bV with Kind:=1,Node:=l.Node,X:=b.Margin.a3,Style:=l.Style,Before:=t,After:=u }:ae)) 66 (.ref 1040)),(af f g)],[(1040,(bt e)),(440009,(bk j))],[3,6,7,8,440001,1040,440009,1440001,440001]⟩
abbrev QK:Prop:=∀{a:Int} {d:c6},B a d=some r→LP (HH M w) (Ij M w r) Je (cat Tryz.f44 (pn 16372)) z (Pc l b t u e f g j o q a d)
variable{M w r l v2 A v4 v5 v6 b t u x e f g j y o q a d z B}{K:Kn}{n:Nat}[SG w][PF A.Layout]
def afM(I:ao K)(H:QK M w r l b t u e f g j o q z B)(h:Ew K n l b t u e f g j o q B a d=some r):H9 M w r (jc 16372::F9 M w r z) (Pc l b t u e f g j o q a d):=by
 unfold Ew at h;refine ay 6 7 3 ?_;obtain⟨v,h⟩|⟨v,h⟩:=am h
 ·refine ah 106 v (cQ 18 19 1 3 7 (bJ [6,7,8,10,104,105] [6,7,8,440001] [1040,440009] ?_));obtain⟨A,h⟩:=aD h;obtain⟨p,h⟩:=aD h;refine bQ 1 (nu 108 [.ptr 8 66,.ref 1040,iI a,.eptr 1040 67 (a.toNat) 0,.eptr 1040 67 (a.toNat) 2,iI ((gD d a).X),.ptr 7 4,.ptr 7 7,iI b.Border.a3,.ptr 7 8,.ptr 7 11,iI b.Padding.a3,iI (aa (b.Border.a3+b.Padding.a3)),iI (aa (((gD d a).X)+(aa (b.Border.a3+b.Padding.a3)))),.eptr 1040 67 (a.toNat) 0,.eptr 1040 67 (a.toNat) 2]) [] [] [eC 1040 ⟨44,67,lm aQ (List.set d a.toNat ({ (gD d a)with X:=(aa (((gD d a).X)+(aa (b.Border.a3+b.Padding.a3)))) }:ae))⟩] (av (vz 3) (bi (cF 1040 67 aQ (L:=d) A) (av [.v 0 1] (bi (bK 3 2 aQ aH (bE p).2 (dP)) (av (vz 8) (aj (fi (lo:=0) (k:=2) (db ⟨(by kernel_rfl),(de (cF 1040 67 aQ (L:=d) p) (by kernel_rfl))⟩ (db ⟨(by kernel_rfl),(de (cF 1040 67 aQ (L:=(List.set d a.toNat ({ (gD d a)with X:=(aa (((gD d a).X)+(aa (b.Border.a3+b.Padding.a3)))) }:ae))) p) (by kernel_rfl))⟩ fI))) (av [.v 0 1] (aj (dm (m:=0) (dF 1040 44 67 2 aQ aH ({ (gD d a)with X:=(aa (((gD d a).X)+(aa (b.Border.a3+b.Padding.a3)))) }:ae) (bE p).2 (dP))) bS)))))))) ?_
  obtain⟨c,C,h⟩:=bU h;refine bC (ks':=jc 2095718::jc 2095719 :: .b 1::jc 130983::F9 M w r z) 1 ⟨[(6,.ptr 6 0),(7,.ptr 7 0),(8,.ptr 8 0),(10,iI a),(104,iI (e.length:Int)),(105,iI a)],[(6,List.set (aH bV) 66 (.nils)),(7,cu b),(8,List.set (aH (⟨1,l.Node,b.Margin.a3,0,o,q,0,⟨#[]⟩,l.Style,t,u,false,[]⟩:ae)) 66 (.ref 1040)),(af f g)],[(1040,(bt c)),(440009,(bk j))],[6,7,8,440001,1040,440009,1440001,440001]⟩ ?_ (by subst C;kernel_rfl);obtain⟨D,h⟩:=aD h;obtain⟨s,h⟩:=aD h;refine bQ 1 (nu 124 [.ptr 8 66,.ref 1040,iI a,.eptr 1040 67 (a.toNat) 0,.eptr 1040 67 (a.toNat) 3,iI ((gD c a).Y),.ptr 7 4,.ptr 7 4,iI b.Border.a0,.ptr 7 8,.ptr 7 8,iI b.Padding.a0,iI (aa (b.Border.a0+b.Padding.a0)),iI (aa (((gD c a).Y)+(aa (b.Border.a0+b.Padding.a0)))),.eptr 1040 67 (a.toNat) 0,.eptr 1040 67 (a.toNat) 3]) [] [] [eC 1040 ⟨44,67,lm aQ (List.set c a.toNat ({ (gD c a)with Y:=(aa (((gD c a).Y)+(aa (b.Border.a0+b.Padding.a0)))) }:ae))⟩] (av (vz 3) (bi (cF 1040 67 aQ (L:=c) D) (av [.v 0 1] (bi (bK 3 3 aQ aH (bE s).2 (dP)) (av (vz 8) (aj (fi (lo:=0) (k:=2) (db ⟨(by kernel_rfl),(de (cF 1040 67 aQ (L:=c) s) (by kernel_rfl))⟩ (db ⟨(by kernel_rfl),(de (cF 1040 67 aQ (L:=(List.set c a.toNat ({ (gD c a)with Y:=(aa (((gD c a).Y)+(aa (b.Border.a0+b.Padding.a0)))) }:ae))) s) (by kernel_rfl))⟩ fI))) (av [.v 0 1] (aj (dm (m:=0) (dF 1040 44 67 3 aQ aH ({ (gD c a)with Y:=(aa (((gD c a).Y)+(aa (b.Border.a0+b.Padding.a0)))) }:ae) (bE s).2 (dP))) bS)))))))) ?_
  obtain⟨i,E,h⟩:=bU h;refine bC (ks':=jc 2095719 :: .b 1::jc 130983::F9 M w r z) 0 ⟨[(6,.ptr 6 0),(7,.ptr 7 0),(8,.ptr 8 0),(10,iI a),(104,iI (e.length:Int)),(105,iI a)],[(6,List.set (aH bV) 66 (.nils)),(7,cu b),(8,List.set (aH (⟨1,l.Node,b.Margin.a3,0,o,q,0,⟨#[]⟩,l.Style,t,u,false,[]⟩:ae)) 66 (.ref 1040)),(af f g)],[(1040,(bt i)),(440009,(bk j))],[6,7,8,440001,1040,440009,1440001,440001]⟩ ?_ (by subst E;kernel_rfl);obtain⟨F,h⟩:=aD h;obtain⟨y,G,h⟩:=aw h;obtain⟨x,h⟩:=aD h;exact bQ 1 (nu 140 [.ptr 8 66,.ref 1040,iI a,.ptr 8 66,.ref 1040,iI a,.eptr 1040 67 (a.toNat) 0,.agg (aH (gD i a)),.ptr 7 12,iI b.Content,.agg (aH y),.eptr 1040 67 (a.toNat) 0]) [] [] [eC 1040 ⟨44,67,lm aQ (List.set i a.toNat y)⟩] (av (vz 6) (bi (cF 1040 67 aQ (L:=i) F) (bi (bK 44 0 aQ aH (bE x).2 (dP)) (av (vz 2) (aj (cj 0 1 150 (MU I G)) (bi (cF 1040 67 aQ (L:=i) x) (aj (dm (m:=0) (dF 1040 44 67 0 aQ aH y (bE x).2 (dP))) bS))))))) (ag 2 (bu (H h)))
 ·refine ah 106 v (aL 8 (gG 1040 ?_));cases h;exact fj
def Ym(a:ao K)(m:Nat):QK M w r l b t u e f g j o q m (yf K n l b t u e f g j o q m):=by
 induction m with
 | zero=>exact fun h=>nomatch h
 | succ m c=>exact fun h=>bp (afM a c h)
def Tg(d:ao K)(h:vh K n l b t u e f g j y=some r):H9 M w r [jc 255] (aik l b t u e f g j y):=by
 unfold vh at h;obtain⟨o,c,h⟩:=bU h;obtain⟨q,a,h⟩:=bU h;refine bC (ks':=[jc 4092,jc 4093,jc 2047]) 6 ⟨[(6,.ptr 6 0),(7,.ptr 7 0),(8,.ptr 8 0)],[(6,List.set (aH bV) 66 (.nils)),(7,cu b),(8,List.set (aH (⟨1,l.Node,b.Margin.a3,0,o,q,0,⟨#[]⟩,l.Style,t,u,false,[]⟩:ae)) 66 (.ref 1040)),(af f g)],[(1040,(bt e)),(440009,(bk j))],[6,7,8,440001,1040,440009,1440001,440001]⟩ ?_ (by subst a;subst c;kernel_rfl);exact ai 2 (au (bz aQ e) (ac (ag 1 (cc (p:=pn 8186) n (Ym d n h)))))
def N7(c:ao K)(h:ub K n l b t u x e f g j=some r):H9 M w r [jc 63] (ae4 l b t u x e f g j):=by
 unfold ub at h;refine ay 13 7 5 ?_;obtain⟨a,h⟩|⟨a,h⟩:=am h
 ·refine ah 59 a (bv 2 1 (ai 3 ?_));obtain⟨i,d,h⟩:=aw h;exact aS (xv c d) (ac (ag 0 (Tg c h)))
 ·exact ah 59 a (ag 2 (Tg c h))
def aln(a:ao K)(h:oH K n l v2 A v4 v5 v6=some r):d8 bb 44 [.agg (az l),iI v2,.agg (bP A)] [(af v4 v5)] (bk v6) (fun v s=>v=.agg (aH r.1)∧cw s.o [(af r.2.1 r.2.2.1)]∧look 440009 s.r=some (bk r.2.2.2)):=by
 refine kn (c:=cat Tryz.f44 []) Tryz.func44 (by kernel_rfl) _ Tryz.ntmps44 (jt (by kernel_rfl)) fun M w=>(bn ⟨[(0,.agg (az l)),(1,iI v2),(2,.agg (bP A))],[(af v4 v5)],[(440009,(bk v6))],[440009,440001,1440001]⟩ ?_);unfold oH at h;refine cd (ks':=[jc 6,jc 7]) 3 (ai 3 ?_);obtain⟨b,e,h⟩:=aw h;refine aS (Fh a e) (ac (ay 2 3 1 (bJ [3,5,6,7] [3,5,6,7,440001] [440009] ?_)));obtain⟨t,f,h⟩:=aw h;obtain⟨u,g,h⟩:=aw h;refine bQ 1 (nu 15 [.ptr 3 1,iI l.Node,.ptr 3 2,.agg (aI l.Style),.ptr 7 0,.ptr 7 3,iI b.Margin.a3,.ptr 7 0,.ptr 7 0,iI b.Margin.a0,.agg (cU t),.ptr 7 0,.ptr 7 2,iI b.Margin.a2,.agg (cU u),.agg (List.set (aH ({ bV with Kind:=1,Node:=l.Node,X:=b.Margin.a3,Style:=l.Style,Before:=t,After:=u }:ae)) 66 (.nils))]++nu 8 [.ptr 8 0]) [(8,List.set (aH bV) 66 (.nils))] [] [ci bb 154 Tryz.f44 (pn 14) 17] (av (vz 10) (aj (cj 0 1 25 (Dd a f)) (av (vz 3) (aj (cj 0 1 29 (Dd a g)) (av [.v 0 1] (aj (qy 0 1 44 8 (List.set (aH bV) 66 (.nils))) (aj (cg 0) bS))))))) (ay 13 7 5 ?_)
 obtain⟨d,h⟩|⟨d,h⟩:=am h
 ·refine ah 34 d (bv 2 1 (ai 4 ?_));obtain⟨m,j,h⟩:=aw h;exact Pz 1040 (aeJ a j) (C7 (i:=0) rfl) (ac (ag 0 (N7 a h)))
 ·refine ah 34 d (bv 3 1 (ai 4 ?_));obtain⟨o,k,h⟩:=aw h;exact Pz 1049 (Zp a k) (C7 (i:=0) rfl) (ac (bJ [3,6,7,8,9] [3,6,7,8,440001] [1049,440009] (qN 1049 1040 (ag 0 (N7 a h)))))
end
section
variable[GS](M:Nat→Prop)(a:aC)(r:Int)(b:dO)(v2:Fv)(v4:Int)(c:Nat)(d:Int→Option Int)
abbrev FO:Cx:=⟨bb,19,M,a⟩
abbrev Ig:=bodyPost bb Tryz.f119 (bR M a (fun v _=>v=iI r))
abbrev aaY(b:dn)(s:AS):=VE (FO M a) (Ig M a r) b .normal s
abbrev MW(n:Nat):aq:=.c (cat Tryz.f119 (pn n))
abbrev FH:dn:=[.b 0,MW 7]
abbrev Yc:dn:=kl (FO M a) (Ig M a r) FH (cat Tryz.f119 (pn 52)) c::FH
def Tz:AS:=⟨[(0,.sl (lm aM b)),(1,.fn v2.id v2.aV),(7,iI (b.length:Int)),(8,iI v4)],[],[],[]⟩
abbrev N3:Prop:=∀{v4:Int},d v4=some r→LP (FO M a) (Ig M a r) FH (cat Tryz.f119 (pn 52)) c (Tz b v2 v4)
variable{M a r b v2 v4 c d}{K:Kn}{n:Nat}
def ZI(k:ao K)(g:N3 M a r b v2 c d)(h:wv K n b v2 d v4=some r):aaY M a r (MW 52::Yc M a r c) (Tz b v2 v4):=by
 unfold wv at h;refine ay 6 7 3 ?_;obtain⟨e,h⟩|⟨e,h⟩:=am h
 ·refine ah 9 e (cQ 18 19 1 3 7 (ai 3 ?_));obtain⟨i,h⟩:=aD h;refine au (bD aM az i (fE) (dV)) (aP 5 1 ?_);obtain⟨v5,j,h⟩:=aw h;refine lS (k.lR j) (ac ?_);obtain⟨f,h⟩|⟨f,h⟩:=am h
  ·refine ah 16 f (aL 9 ?_);cases h;exact bA
  ·exact ah 16 f (ag 4 (bu (g h)))
 ·refine ah 9 e (aL 8 ?_);cases h;exact bA
def agt(c:ao K)(m:Nat):N3 M a r b v2 m (mG K n b v2 m):=by
 induction m with
 | zero=>exact fun h=>nomatch h
 | succ m d=>exact fun h=>bp (ZI c d h)
def aac(c:ao K)(h:yX K n b v2=some r):ba bb 119 [.sl (lm aM b),.fn v2.id v2.aV] (fun v _=>v=iI r):=by
 refine bI (cat Tryz.f119 (pn 1)) Tryz.func119 Tryz.ntmps119 fun M a=>(bn ⟨[(0,.sl (lm aM b)),(1,.fn v2.id v2.aV)],[],[],[]⟩ ?_);unfold yX at h;exact bX 12 13 7 4 (ai 1 (au (bz aM b) (ac (ag 1 (cc (p:=pn 26) n (agt c n h))))))
end
section
variable[GS](M:Nat→Prop)(b:aC)(r:Bool)(a:dO)(v2:Fv)  
variable{M b r a v2}{K:Kn}{n:Nat}
def MD(d:ao K)(h:oX K n a v2=some r):ba bb 64 [.sl (lm aM a),.fn v2.id v2.aV] (fun v _=>v=.bool r):=by
 refine bI (cat Tryz.f64 (pn 1)) Tryz.func64 Tryz.ntmps64 fun M b=>(bn ⟨[(0,.sl (lm aM a)),(1,.fn v2.id v2.aV)],[],[],[]⟩ ?_);unfold oX at h;refine ay 6 7 3 (ai 2 ?_);obtain⟨e,c,h⟩:=aw h;refine aS (aac d c) (ac (aL 1 ?_));cases h;exact bA
end
section
variable[GS](M:Nat→Prop)(b:aC)(r:dO×Bool)(a:ab)(c:Int)(f d:dO)(e:Nat)(g:Int→dO→Option (dO×Bool))
abbrev IV:Cx:=⟨bb,24,M,b⟩
abbrev Jz:=bodyPost bb Tryz.f141 (bR M b (fun v _=>v=.tup [.sl (lm aM r.1),.bool r.2]))
abbrev T8(a:dn)(s:AS):=VE (IV M b) (Jz M b r) a .normal s
abbrev Gw(n:Nat):aq:=.c (cat Tryz.f141 (pn n))
abbrev FG:dn:=[.b 0,Gw 15]
abbrev Me:dn:=kl (IV M b) (Jz M b r) FG (cat Tryz.f141 (pn 116)) e::FG
def Xc:AS:=⟨[(4,.ref 19),(8,.sl (lm aM a.Kids)),(9,iI (a.Kids.length:Int)),(10,iI c)],[],[(19,(bx d))],[19]⟩
def Q5:AS:=⟨[(4,.ref 19),(8,.sl (lm aM a.Kids)),(9,iI (a.Kids.length:Int)),(10,iI c)],[],[(19,(bx f))],[19]⟩
abbrev G7:Prop:=∀{c:Int} {f:dO},g c f=some r→LP (IV M b) (Jz M b r) FG (cat Tryz.f141 (pn 116)) e (Q5 a c f)
variable{M b r a c f d e g}{K:Kn}{n:Nat}
def VV(i:ao K)(f:G7 M b r a e g)(h:yj K n a c g d=some r):T8 M b r (.b 1::Gw 935::Me M b r e) (Xc a c d):=by
 unfold yj at h;exact ag 2 (bu (f h))
def adY(k:ao K)(j:G7 M b r a e g)(h:A3 K n a g c f=some r):T8 M b r (Gw 116::Me M b r e) (Q5 a c f):=by
 unfold A3 at h;refine ay 6 7 3 ?_;obtain⟨d,h⟩|⟨d,h⟩:=am h
 ·refine ah 11 d (cQ 8 9 1 3 5 (ai 0 ?_));obtain⟨l,h⟩:=aD h;refine au (bD aM az l (fE) (dV)) (ac (ay 2 3 1 (ai 1 ?_)));obtain⟨q,m,h⟩:=aw h;refine aS (H0 k m) (ac ?_);obtain⟨i,h⟩|⟨i,h⟩:=am h
  ·refine ah 15 i (bv 2 1 (ai 2 (au (gz aM ([(gD a.Kids c)]:dO) (new:=[az (gD a.Kids c)]) (by simp only[rv,zt,dV])) ?_)));obtain⟨o,h⟩:=aD h;exact au (cA 19 19 48 59 aM (rfl) (fE) o) (ac (ag 0 (VV k j h)))
  ·exact ah 15 i (ag 2 (VV k j h))
 ·refine ah 11 d (gB 2 3 6 (ai 2 (mz 19 ?_)));obtain⟨s,p,h⟩:=aw h;refine aS (MD k p) (ac (aL 1 ?_));cases h;exact jj
def afr(c:ao K)(m:Nat):G7 M b r a m (wB K n a m):=by
 induction m with
 | zero=>exact fun h=>nomatch h
 | succ m d=>exact fun h=>bp (adY c d h)
def SX(c:ao K)(h:uj K n a=some r):ba bb 141 [.agg (az a)] (fun v _=>v=.tup [.sl (lm aM r.1),.bool r.2]):=by
 refine bI (cat Tryz.f141 (pn 1)) Tryz.func141 Tryz.ntmps141 fun M b=>(bn ⟨[(0,.agg (az a))],[],[],[]⟩ ?_);unfold uj at h;exact bX 28 29 15 6 (ai 2 (au (bz aM a.Kids) (ac (ig 2 0 1 (bJ [4,8,9,10] [] [] (fb 19 4 48 59 (ag 0 (cc (p:=pn 58) n (afr c n h)))))))))
end
section
variable[GS](M:Nat→Prop)(b:aC)(r:bj)(a v2:bj)  
variable{M b r a v2}{K:Kn}{n:Nat}
def vQ(c:ao K)(h:kF K n a v2=some r):ba bb 143 [.agg (cU a),.agg (cU v2)] (fun v _=>v=.agg (cU r)):=by
 refine bI (cat Tryz.f143 (pn 1)) Tryz.func143 Tryz.ntmps143 fun M b=>(bn ⟨[(0,.agg (cU a)),(1,.agg (cU v2))],[],[],[]⟩ ?_);unfold kF at h;refine aL 5 ?_;cases h;exact bA
end
section
variable[GS](M:Nat→Prop)(g:aC)(r:c6×Int×bj×bj×Bool)(c:c6)(d:Int)(e:Bool)(a:Int)(j i:bj)(b:c6)(k:bj)(f:Int)(t:bj)(u:Int)(w:Bool)(x y o:bj)(l:Nat)(q:Int→Bool→Int→bj→bj→c6→Option (c6×Int×bj×bj×Bool))
abbrev Ly:Cx:=⟨bb,52,M,g⟩
abbrev Ie:=bodyPost bb Tryz.f142 (bR M g (fun v s=>v=.tup [.ref 43,iI r.2.1,.agg (cU r.2.2.1),.agg (cU r.2.2.2.1),.bool r.2.2.2.2]∧look 43 s.r=some (bt r.1)))
abbrev xT(a:dn)(s:AS):=VE (Ly M g) (Ie M g r) a .normal s
abbrev lK(n:Nat):aq:=.c (cat Tryz.f142 (pn n))
abbrev J2:dn:=[.b 0,lK 31]
abbrev BK:dn:=kl (Ly M g) (Ie M g r) J2 (cat Tryz.f142 (pn 244)) l::J2
def Zk:AS:=⟨[(2,.ref 43),(3,iI u),(4,.ptr 4 0),(5,.ptr 5 0),(6,.bool w),(7,.ptr 7 0),(9,.ptr 9 0),(10,.sl (lm aQ c)),(11,iI (c.length:Int)),(12,iI a)],[(4,cU x),(5,cU dJ),(7,cU y),(9,aH ({ (gD c a)with Y:=f }:ae))],[(43,(bt b))],[4,5,7,9,43]⟩
def aaW:AS:=⟨[(2,.ref 43),(4,.ptr 4 0),(5,.ptr 5 0),(7,.ptr 7 0),(9,.ptr 9 0),(10,.sl (lm aQ c)),(11,iI (c.length:Int)),(12,iI a)],[(4,cU t),(5,cU dJ),(7,cU k),(9,aH ({ (gD c a)with Y:=f }:ae))],[(43,(bt b))],[4,5,7,9,43]⟩
def afS:AS:=⟨[(2,.ref 43),(3,iI d),(4,.ptr 4 0),(5,.ptr 5 0),(6,.bool e),(7,.ptr 7 0),(9,.ptr 9 0),(10,.sl (lm aQ c)),(11,iI (c.length:Int)),(12,iI a)],[(4,cU j),(5,cU dJ),(7,cU k),(9,aH ({ (gD c a)with Y:=f }:ae))],[(43,(bt b))],[4,5,7,9,43]⟩
def ahf:AS:=⟨[(2,.ref 43),(3,iI d),(4,.ptr 4 0),(5,.ptr 5 0),(6,.bool e),(7,.ptr 7 0)],[(4,cU o),(5,cU dJ),(7,cU i)],[(43,(bt b))],[4,5,7,43]⟩
def VK:AS:=⟨[(2,.ref 43),(3,iI d),(4,.ptr 4 0),(5,.ptr 5 0),(6,.bool e),(7,.ptr 7 0),(10,.sl (lm aQ c)),(11,iI (c.length:Int)),(12,iI a)],[(4,cU j),(5,cU dJ),(7,cU i)],[(43,(bt b))],[4,5,7,43]⟩
abbrev AD:Prop:=∀{d:Int} {e:Bool} {a:Int} {j:bj} {i:bj} {b:c6},q d e a j i b=some r→LP (Ly M g) (Ie M g r) J2 (cat Tryz.f142 (pn 244)) l (VK c d e a j i b)
variable{M g r c d e a j i b k f t u w x y o l q}{K:Kn}{n:Nat}
def VQ(i:ao K)(e:AD M g r c l q)(h:um K n c a b f q u w x y=some r):xT M g r (lK 125343 :: .b 1::lK 1959::BK M g r l) (Zk c a b f u w x y):=by
 unfold um at h;refine ai 2 (au (gz aQ ([({ (gD c a)with Y:=f }:ae)]:c6) (new:=[aH ({ (gD c a)with Y:=f }:ae)]) (by simp only[rv,zt,dP])) ?_);obtain⟨d,h⟩:=aD h;exact au (cA 43 43 44 67 aQ (rfl) (jZ) d) (ac (ag 2 (bu (e h))))
def VN(e:ao K)(d:AD M g r c l q)(h:va K n c a b k f q t=some r):xT M g r (lK 1002741::lK 125343 :: .b 1::lK 1959::BK M g r l) (aaW c a b k f t):=by
 unfold va at h;exact ag 5 (VQ e d h)
def MP(p:ao K)(o:AD M g r c l q)(h:ud K n c d e a j b k q f=some r):xT M g r (lK 62671 :: .b 1::lK 1959::BK M g r l) (afS c d e a j b k f):=by
 unfold ud at h;refine ay 5 3 3 ?_;obtain⟨i,h⟩|⟨i,h⟩:=am h
 ·refine ah 30 i (ay 9 5 4 ?_);obtain⟨m,h⟩|⟨m,h⟩:=am h
  ·exact ah 31 m (ag 2 (VN p o h))
  ·exact ah 31 m (ag 2 (VN p o h))
 ·exact ah 30 i (ag 2 (VQ p o h))
def Mm(a:ao K)(h:ro K n d e i b o=some r):xT M g r [lK 63] (ahf d e i b o):=by
 unfold ro at h;refine ay 2 3 1 (bJ [2,3,4,5,6,7] [4,5,7] [43] (bQ 5 (nu 47 [.ref 43,iI d,.agg (cU o),.agg (cU i),.bool e]) [] [] [ci bb 52 Tryz.f142 (pn 126) 5,ci bb 52 Tryz.f142 (pn 126) 6,ci bb 52 Tryz.f142 (pn 126) 7,ci bb 52 Tryz.f142 (pn 126) 8,ci bb 52 Tryz.f142 (pn 126) 9] (av [.v 0 1,.v 0 2,.v 0 3,.v 0 4,.v 0 5] (aj (cg 0) (aj (cg 1) (aj (cg 2) (aj (cg 3) (aj (cg 4) bS)))))) (aL 1 ?_)));cases h;exact qD
def aky(p:ao K)(s:AD M g r c l q)(h:t8 K n c q d e a j i b=some r):xT M g r (lK 244::BK M g r l) (VK c d e a j i b):=by
 unfold t8 at h;refine ay 6 7 3 ?_;obtain⟨f,h⟩|⟨f,h⟩:=am h
 ·refine ah 13 f (cQ 8 9 1 3 5 (ai 0 ?_));obtain⟨t,h⟩:=aD h;refine au (bD aQ aH t (jZ) (dP)) (ac (ay 2 3 1 (ai 3 ?_)));obtain⟨k,u,h⟩:=aw h;refine aS (vQ p u) (ac (ay 13 7 5 ?_));obtain⟨m,h⟩|⟨m,h⟩:=am h
  ·refine ah 22 m (bv 2 1 (ai 2 ?_));obtain⟨w,v,h⟩:=aw h;exact aS (nc p v) (ac (ag 0 (MP p s h)))
  ·exact ah 22 m (ag 2 (MP p s h))
 ·refine ah 13 f (gB 5 3 8 ?_);obtain⟨o,h⟩|⟨o,h⟩:=am h
  ·exact ah 45 o (ag 2 (Mm p h))
  ·exact ah 45 o (ag 2 (Mm p h))
def aet(a:ao K)(m:Nat):AD M g r c m (kp K n c m):=by
 induction m with
 | zero=>exact fun h=>nomatch h
 | succ m b=>exact fun h=>bp (aky a b h)
def aeW(a:ao K)(h:lY K n c=some r):ba bb 142 [.sl (lm aQ c)] (fun v s=>v=.tup [.ref 43,iI r.2.1,.agg (cU r.2.2.1),.agg (cU r.2.2.2.1),.bool r.2.2.2.2]∧look 43 s.r=some (bt r.1)):=by
 refine bI (cat Tryz.f142 (pn 1)) Tryz.func142 Tryz.ntmps142 fun M g=>(bn ⟨[(0,.sl (lm aQ c))],[],[],[]⟩ ?_);unfold lY at h;exact bX 60 61 31 8 (ai 1 (au (bz aQ c) (ac (ig 2 0 1 (bJ [2,3,4,5,6,7,10,11,12] [4,5,7] [] (fb 43 2 44 67 (ag 0 (cc (p:=pn 122) n (aet a n h)))))))))
end
section
variable[GS](M:Nat→Prop)(b:aC)(r:Int)(a:cf)  
variable{M b r a}{K:Kn}{n:Nat}
def akZ(c:ao K)(h:Ey K n a=some r):ba bb 144 [.agg (cu a)] (fun v _=>v=iI r):=by
 refine bI (cat Tryz.f144 (pn 1)) Tryz.func144 Tryz.ntmps144 fun M b=>(bn ⟨[(0,.agg (cu a))],[],[],[]⟩ ?_);unfold Ey at h;refine aL 5 ?_;cases h;exact bA
end
section
variable[GS](M:Nat→Prop)(a:aC)(r:Bool)(b:ab)(v2:Bool)  
abbrev abk(n:Nat):aq:=.c (cat Tryz.f145 (pn n))
abbrev ah8:Cx:=⟨bb,16,M,a⟩
abbrev XR:=bodyPost bb Tryz.f145 (bR M a (fun v _=>v=.bool r))
abbrev aid(b:dn)(s:AS):=VE (ah8 M a) (XR M a r) b .normal s
def ad7:AS:=⟨[(2,.bool v2)],[],[],[]⟩
variable{M a r b v2}{K:Kn}{n:Nat}
def J8(b:ao K)(h:rU K n v2=some r):aid M a r [abk 7] (ad7 v2):=by
 unfold rU at h;refine aL 1 ?_;cases h;exact bA
def Tj(e:ao K)(h:tp K n b=some r):ba bb 145 [.agg (az b)] (fun v _=>v=.bool r):=by
 refine bI (cat Tryz.f145 (pn 1)) Tryz.func145 Tryz.ntmps145 fun M a=>(bn ⟨[(0,.agg (az b))],[],[],[]⟩ ?_);unfold tp at h;refine ay 6 7 3 (ai 4 ?_);obtain⟨c,h⟩|⟨c,h⟩:=am h
 ·exact aG 6 c (ac (ag 0 (J8 e h)))
 ·refine aG 6 c (aP 9 5 ?_);obtain⟨d,h⟩|⟨d,h⟩:=am h
  ·exact aG 11 d (ac (ag 0 (J8 e h)))
  ·exact aG 11 d (ac (ag 0 (J8 e h)))
end
section
variable[GS](M:Nat→Prop)(y:aC)(r:ae×Int×Int×dt)(j:ab)(v2:cf)(F v4:Bool)(v5:bB)(v6 v7:Int)(v8:dt)(l:dO×Bool)(G:Int)(H:c6)(I J:Int)(N:dt)(z:Int)(A:Bool)(B C:bj)(b:c6)(d e:Int)(f:dt)(Q D:bj)(b0:Bool)(g:Int)(O:bj)(c0:Bool)(P:Int)(o q:bj)(t:Bool)(a0:Int×Bool)(d0:Bool)(e0 u w a:Int)(x E:c6)(f0:Bool)(g0:c6)(m1 m2:Nat)(L1:Int→c6→Int→Int→dt→Option g6)(L2:Int→c6→Option g6)
abbrev wX:Cx:=⟨bb,259,M,y⟩
abbrev wC:=bodyPost bb Tryz.f100 (bR M y (fun v s=>v=.agg (aH r.1)∧cw s.o [(af r.2.1 r.2.2.1)]∧look 440009 s.r=some (bk r.2.2.2)))
abbrev kI(a:dn)(s:AS):=VE (wX M y) (wC M y r) a .normal s
abbrev dR(n:Nat):aq:=.c (cat Tryz.f100 (pn n))
abbrev JY:dn:=[.b 4,dR 131071]
abbrev vO:dn:=kl (wX M y) (wC M y r) JY (cat Tryz.f100 (pn 1048564)) m2::JY
abbrev Fd:dn:=[.b 0,dR 4075,dR 255]
abbrev ai4:dn:=kl (wX M y) (wC M y r) Fd (cat Tryz.f100 (pn 32596)) m1::Fd
def aeM:AS:=⟨[(6,.ptr 6 0),(10,.ptr 10 0),(11,.ptr 11 0),(12,.sl (lm aM l.1)),(13,.bool l.2),(15,iI g),(199,iI (b.length:Int)),(200,iI a)],[(6,cu v2),(10,List.set (aH bV) 66 (.nils)),(11,List.set (aH (⟨1,j.Node,v2.Margin.a3,0,(aa (v2.Content+u)),w,0,⟨#[]⟩,j.Style,o,q,t,[]⟩:ae)) 66 (.ref 1054)),(af d e)],[(1054,(bt g0)),(440009,(bk f))],[6,10,11,440001,1054,440009,1440001,440001]⟩
def ads:AS:=⟨[(6,.ptr 6 0),(10,.ptr 10 0),(11,.ptr 11 0),(12,.sl (lm aM l.1)),(13,.bool l.2),(15,iI g),(24,iI a),(199,iI (b.length:Int)),(200,iI a),(244,.bool f0)],[(6,cu v2),(10,List.set (aH bV) 66 (.nils)),(11,List.set (aH (⟨1,j.Node,v2.Margin.a3,0,(aa (v2.Content+u)),w,0,⟨#[]⟩,j.Style,o,q,t,[]⟩:ae)) 66 (.ref 1054)),(af d e)],[(1054,(bt E)),(440009,(bk f))],[6,10,11,440001,1054,440009,1440001,440001]⟩
def LS:AS:=⟨[(6,.ptr 6 0),(10,.ptr 10 0),(11,.ptr 11 0),(12,.sl (lm aM l.1)),(13,.bool l.2),(15,iI g),(199,iI (b.length:Int)),(200,iI a)],[(6,cu v2),(10,List.set (aH bV) 66 (.nils)),(11,List.set (aH (⟨1,j.Node,v2.Margin.a3,0,(aa (v2.Content+u)),w,0,⟨#[]⟩,j.Style,o,q,t,[]⟩:ae)) 66 (.ref 1054)),(af d e)],[(1054,(bt x)),(440009,(bk f))],[6,10,11,440001,1054,440009,1440001,440001]⟩
def ajN:AS:=⟨[(6,.ptr 6 0),(10,.ptr 10 0),(11,.ptr 11 0),(12,.sl (lm aM l.1)),(13,.bool l.2),(14,iI e0),(15,iI g)],[(6,cu v2),(10,List.set (aH bV) 66 (.nils)),(11,List.set (aH ({ bV with Kind:=1,Node:=j.Node,Style:=j.Style,Before:=o,After:=q,Empty:=t }:ae)) 66 (.ref 1054)),(af d e)],[(1054,(bt b)),(440009,(bk f))],[6,10,11,440001,1054,440009,1440001,440001]⟩
def X1:AS:=⟨[(6,.ptr 6 0),(10,.ptr 10 0),(11,.ptr 11 0),(12,.sl (lm aM l.1)),(13,.bool l.2),(14,iI (max P 0)),(15,iI g),(22,iI a0.1),(166,.bool d0)],[(6,cu v2),(10,List.set (aH bV) 66 (.nils)),(11,List.set (aH ({ bV with Kind:=1,Node:=j.Node,Style:=j.Style,Before:=o,After:=q,Empty:=t }:ae)) 66 (.ref 1054)),(af d e)],[(1054,(bt b)),(440009,(bk f))],[6,10,11,440001,1054,440009,1440001,440001]⟩
def aiu:AS:=⟨[(5,.ptr 5 0),(6,.ptr 6 0),(10,.ptr 10 0),(11,.ptr 11 0),(12,.sl (lm aM l.1)),(13,.bool l.2),(14,iI P),(15,iI g)],[(5,az j),(6,cu v2),(10,List.set (aH bV) 66 (.nils)),(11,List.set (aH ({ bV with Kind:=1,Node:=j.Node,Style:=j.Style,Before:=o,After:=q,Empty:=t }:ae)) 66 (.ref 1054)),(af d e)],[(1054,(bt b)),(440009,(bk f))],[5,6,10,11,440001,1054,440009,1440001,440001]⟩
def abh:AS:=⟨[(3,.bool v4),(5,.ptr 5 0),(6,.ptr 6 0),(10,.ptr 10 0),(11,.ptr 11 0),(12,.sl (lm aM l.1)),(13,.bool l.2),(14,iI z),(15,iI g),(16,.ptr 16 0),(17,.ptr 17 0),(18,.bool A),(113,.bool c0)],[(5,az j),(6,cu v2),(10,List.set (aH bV) 66 (.nils)),(11,List.set (aH ({ bV with Kind:=1,Node:=j.Node,Style:=j.Style,Before:=O,After:=D }:ae)) 66 (.ref 1054)),(16,cU B),(17,cU C),(af d e)],[(1054,(bt b)),(440009,(bk f))],[5,6,10,11,16,17,440001,1054,440009,1440001,440001]⟩
def aju:AS:=⟨[(2,.bool F),(3,.bool v4),(5,.ptr 5 0),(6,.ptr 6 0),(10,.ptr 10 0),(11,.ptr 11 0),(12,.sl (lm aM l.1)),(13,.bool l.2),(14,iI z),(15,iI g),(16,.ptr 16 0),(17,.ptr 17 0),(18,.bool A)],[(5,az j),(6,cu v2),(10,List.set (aH bV) 66 (.nils)),(11,List.set (aH ({ bV with Kind:=1,Node:=j.Node,Style:=j.Style,Before:=O,After:=D }:ae)) 66 (.ref 1054)),(16,cU B),(17,cU C),(af d e)],[(1054,(bt b)),(440009,(bk f))],[5,6,10,11,16,17,440001,1054,440009,1440001,440001]⟩
def Xo:AS:=⟨[(2,.bool F),(3,.bool v4),(5,.ptr 5 0),(6,.ptr 6 0),(10,.ptr 10 0),(11,.ptr 11 0),(12,.sl (lm aM l.1)),(13,.bool l.2),(14,iI z),(15,iI 0),(16,.ptr 16 0),(17,.ptr 17 0),(18,.bool A),(98,.bool b0)],[(5,az j),(6,cu v2),(10,List.set (aH bV) 66 (.nils)),(11,List.set (aH ({ bV with Kind:=1,Node:=j.Node,Style:=j.Style,Before:=Q,After:=D }:ae)) 66 (.ref 1054)),(16,cU B),(17,cU C),(af d e)],[(1054,(bt b)),(440009,(bk f))],[5,6,10,11,16,17,440001,1054,440009,1440001,440001]⟩
def agy:AS:=⟨[(2,.bool F),(3,.bool v4),(5,.ptr 5 0),(6,.ptr 6 0),(10,.ptr 10 0),(11,.ptr 11 0),(12,.sl (lm aM l.1)),(13,.bool l.2),(14,iI z),(15,iI 0),(16,.ptr 16 0),(17,.ptr 17 0),(18,.bool A)],[(5,az j),(6,cu v2),(10,List.set (aH bV) 66 (.nils)),(11,List.set (aH ({ bV with Kind:=1,Node:=j.Node,Style:=j.Style }:ae)) 66 (.ref 1054)),(16,cU B),(17,cU C),(af d e)],[(1054,(bt b)),(440009,(bk f))],[5,6,10,11,16,17,440001,1054,440009,1440001,440001]⟩
def R2:AS:=⟨[(2,.bool F),(3,.bool v4),(5,.ptr 5 0),(6,.ptr 6 0),(9,.ptr 9 0),(10,.ptr 10 0),(11,.ptr 11 0),(12,.sl (lm aM l.1)),(13,.bool l.2),(15,iI 0),(16,.ptr 16 0),(17,.ptr 17 0),(19,.ref 50),(36,.sl (lm aM l.1)),(37,iI (l.1.length:Int)),(38,iI G)],[(5,az j),(6,cu v2),(9,bP v5),(10,List.set (aH bV) 66 (.nils)),(11,List.set (aH ({ bV with Kind:=1,Node:=j.Node,Style:=j.Style }:ae)) 66 (.nils)),(16,cU dJ),(17,cU dJ),(af I J)],[(50,(bt H)),(440009,(bk N))],[5,6,9,10,11,16,17,440001,50,440009,1440001,440001]⟩
abbrev Ms:Prop:=∀{G:Int} {H:c6} {I:Int} {J:Int} {N:dt},L1 G H I J N=some r→LP (wX M y) (wC M y r) Fd (cat Tryz.f100 (pn 32596)) m1 (R2 j v2 F v4 v5 l G H I J N)
abbrev Br:Prop:=∀{a:Int} {x:c6},L2 a x=some r→LP (wX M y) (wC M y r) JY (cat Tryz.f100 (pn 1048564)) m2 (LS j v2 l b d e f g o q t u w a x)
variable{M y r j v2 F v4 v5 v6 v7 v8 l G H I J N z A B C b d e f Q D b0 g O c0 P o q t a0 d0 e0 u w a x E f0 g0 m1 m2 L1 L2}{K:Kn}{n:Nat}[SG y][PF v5.Layout]
def U2(i:ao K)(c:Br M y r j v2 l b d e f g o q t u w m2 L2)(h:xS K n j v2 l b d e f g o q t u w a L2 g0=some r):kI M y r (.b 5::dR 8388519::vO M y r m2) (aeM j v2 l b d e f g o q t u w a g0):=by
 unfold xS at h;exact ag 2 (bu (c h))
def Rg(x:ao K)(p:Br M y r j v2 l b d e f g o q t u w m2 L2)(h:xV K n j v2 l b d e f g o q t u w a E L2 f0=some r):kI M y r (dR 268432591 :: .b 5::dR 8388519::vO M y r m2) (ads j v2 l b d e f g o q t u w a E f0):=by
 unfold xV at h;obtain⟨c,h⟩|⟨c,h⟩:=am h
 ·refine ah 244 c (bv 2 1 (bJ [6,10,11,12,13,15,24,199,200] [6,10,11,440001] [1054,440009] ?_));obtain⟨s,h⟩:=aD h;obtain⟨k,v,h⟩:=aw h;obtain⟨i,h⟩:=aD h;exact bQ 1 (nu 245 [.ptr 11 66,.ref 1054,iI a,.ptr 11 66,.ref 1054,iI a,.eptr 1054 67 (a.toNat) 0,.agg (aH (gD E a)),.ptr 6 12,iI v2.Content,.agg (aH k),.eptr 1054 67 (a.toNat) 0]) [] [] [eC 1054 ⟨44,67,lm aQ (List.set E a.toNat k)⟩] (av (vz 6) (bi (cF 1054 67 aQ (L:=E) s) (bi (bK 44 0 aQ aH (bE i).2 (dP)) (av (vz 2) (aj (cj 0 1 255 (MU x v)) (bi (cF 1054 67 aQ (L:=E) i) (aj (dm (m:=0) (dF 1054 44 67 0 aQ aH k (bE i).2 (dP))) bS))))))) (ag 0 (U2 x p h))
 ·exact ah 244 c (ag 2 (U2 x p h))
def adZ(H:ao K)(z:Br M y r j v2 l b d e f g o q t u w m2 L2)(h:Eg K n j v2 l b d e f g o q t u w L2 a x=some r):kI M y r (dR 1048564::vO M y r m2) (LS j v2 l b d e f g o q t u w a x):=by
 unfold Eg at h;refine ay 6 7 3 ?_;obtain⟨s,h⟩|⟨s,h⟩:=am h
 ·refine ah 201 s (cQ 18 19 5 3 7 (bJ [6,10,11,12,13,15,24,199,200] [6,10,11,440001] [1054,440009] ?_));obtain⟨A,h⟩:=aD h;obtain⟨i,h⟩:=aD h;refine bQ 1 (nu 203 [.ptr 11 66,.ref 1054,iI a,.eptr 1054 67 (a.toNat) 0,.eptr 1054 67 (a.toNat) 2,iI ((gD x a).X),.ptr 6 4,.ptr 6 7,iI v2.Border.a3,.ptr 6 8,.ptr 6 11,iI v2.Padding.a3,iI (aa (v2.Border.a3+v2.Padding.a3)),iI (aa (((gD x a).X)+(aa (v2.Border.a3+v2.Padding.a3)))),.eptr 1054 67 (a.toNat) 0,.eptr 1054 67 (a.toNat) 2]) [] [] [eC 1054 ⟨44,67,lm aQ (List.set x a.toNat ({ (gD x a)with X:=(aa (((gD x a).X)+(aa (v2.Border.a3+v2.Padding.a3)))) }:ae))⟩] (av (vz 3) (bi (cF 1054 67 aQ (L:=x) A) (av [.v 0 1] (bi (bK 3 2 aQ aH (bE i).2 (dP)) (av (vz 8) (aj (fi (lo:=0) (k:=2) (db ⟨(by kernel_rfl),(de (cF 1054 67 aQ (L:=x) i) (by kernel_rfl))⟩ (db ⟨(by kernel_rfl),(de (cF 1054 67 aQ (L:=(List.set x a.toNat ({ (gD x a)with X:=(aa (((gD x a).X)+(aa (v2.Border.a3+v2.Padding.a3)))) }:ae))) i) (by kernel_rfl))⟩ fI))) (av [.v 0 1] (aj (dm (m:=0) (dF 1054 44 67 2 aQ aH ({ (gD x a)with X:=(aa (((gD x a).X)+(aa (v2.Border.a3+v2.Padding.a3)))) }:ae) (bE i).2 (dP))) bS)))))))) ?_
  obtain⟨c,B,h⟩:=bU h;refine bC (ks':=dR 134216294::dR 134216295 :: .b 5::dR 8388519::vO M y r m2) 1 ⟨[(6,.ptr 6 0),(10,.ptr 10 0),(11,.ptr 11 0),(12,.sl (lm aM l.1)),(13,.bool l.2),(15,iI g),(24,iI a),(199,iI (b.length:Int)),(200,iI a)],[(6,cu v2),(10,List.set (aH bV) 66 (.nils)),(11,List.set (aH (⟨1,j.Node,v2.Margin.a3,0,(aa (v2.Content+u)),w,0,⟨#[]⟩,j.Style,o,q,t,[]⟩:ae)) 66 (.ref 1054)),(af d e)],[(1054,(bt c)),(440009,(bk f))],[6,10,11,440001,1054,440009,1440001,440001]⟩ ?_ (by subst B;kernel_rfl);obtain⟨C,h⟩:=aD h;obtain⟨p,h⟩:=aD h;refine bQ 1 (nu 219 [.ptr 11 66,.ref 1054,iI a,.eptr 1054 67 (a.toNat) 0,.eptr 1054 67 (a.toNat) 3,iI ((gD c a).Y),.ptr 6 4,.ptr 6 4,iI v2.Border.a0,.ptr 6 8,.ptr 6 8,iI v2.Padding.a0,iI (aa (v2.Border.a0+v2.Padding.a0)),iI g,iI (aa ((aa (v2.Border.a0+v2.Padding.a0))+g)),iI (aa (((gD c a).Y)+(aa ((aa (v2.Border.a0+v2.Padding.a0))+g)))),.eptr 1054 67 (a.toNat) 0,.eptr 1054 67 (a.toNat) 3]) [] [] [eC 1054 ⟨44,67,lm aQ (List.set c a.toNat ({ (gD c a)with Y:=(aa (((gD c a).Y)+(aa ((aa (v2.Border.a0+v2.Padding.a0))+g)))) }:ae))⟩] (av (vz 3) (bi (cF 1054 67 aQ (L:=c) C) (av [.v 0 1] (bi (bK 3 3 aQ aH (bE p).2 (dP)) (av (vz 10) (aj (fi (lo:=0) (k:=2) (db ⟨(by kernel_rfl),(de (cF 1054 67 aQ (L:=c) p) (by kernel_rfl))⟩ (db ⟨(by kernel_rfl),(de (cF 1054 67 aQ (L:=(List.set c a.toNat ({ (gD c a)with Y:=(aa (((gD c a).Y)+(aa ((aa (v2.Border.a0+v2.Padding.a0))+g)))) }:ae))) p) (by kernel_rfl))⟩ fI))) (av [.v 0 1] (aj (dm (m:=0) (dF 1054 44 67 3 aQ aH ({ (gD c a)with Y:=(aa (((gD c a).Y)+(aa ((aa (v2.Border.a0+v2.Padding.a0))+g)))) }:ae) (bE p).2 (dP))) bS)))))))) ?_
  obtain⟨E,D,h⟩:=bU h;refine bC (ks':=dR 268432590::dR 268432591 :: .b 5::dR 8388519::vO M y r m2) 1 ⟨[(6,.ptr 6 0),(10,.ptr 10 0),(11,.ptr 11 0),(12,.sl (lm aM l.1)),(13,.bool l.2),(15,iI g),(24,iI a),(199,iI (b.length:Int)),(200,iI a)],[(6,cu v2),(10,List.set (aH bV) 66 (.nils)),(11,List.set (aH (⟨1,j.Node,v2.Margin.a3,0,(aa (v2.Content+u)),w,0,⟨#[]⟩,j.Style,o,q,t,[]⟩:ae)) 66 (.ref 1054)),(af d e)],[(1054,(bt E)),(440009,(bk f))],[6,10,11,440001,1054,440009,1440001,440001]⟩ ?_ (by subst D;kernel_rfl);refine ai 2 ?_;obtain⟨v,h⟩|⟨v,h⟩:=am h
  ·refine aG 238 v (aP 4 2 ?_);obtain⟨F,h⟩:=aD h;refine au (bD aM az F (fE) (dV)) (aP 6 1 ?_);obtain⟨I,G,h⟩:=aw h;exact aS (Tj H G) (ac (ag 0 (Rg H z h)))
  ·exact aG 238 v (ac (ag 0 (Rg H z h)))
 ·refine ah 201 s (aL 8 (gG 1054 ?_));cases h;exact fj
def XW(a:ao K)(m:Nat):Br M y r j v2 l b d e f g o q t u w m (zb K n j v2 l b d e f g o q t u w m):=by
 induction m with
 | zero=>exact fun h=>nomatch h
 | succ m c=>exact fun h=>bp (adZ a c h)
def MY(i:ao K)(h:rX K n j v2 l b d e f g o q t e0=some r):kI M y r [dR 8191] (ajN j v2 l b d e f g o q t e0):=by
 unfold rX at h;refine ay 6 7 3 (bJ [6,10,11,12,13,14,15] [6,10,11,440001] [1054,440009] ?_);obtain⟨u,a,h⟩:=aw h;refine bQ 1 (nu 173 [.ptr 6 12,iI v2.Content,.agg (cu v2),iI u,iI (aa (v2.Content+u)),.ptr 11 4]) [] [] [ci bb 259 Tryz.f100 (pn 32766) 6] (av (vz 3) (aj (cj 0 1 176 (akZ i a)) (av (vz 2) (aj (cg 0) bS)))) ?_;obtain⟨w,c,h⟩:=bU h;refine bC (ks':=[dR 262140,dR 262141,dR 131071]) 4 ⟨[(6,.ptr 6 0),(10,.ptr 10 0),(11,.ptr 11 0),(12,.sl (lm aM l.1)),(13,.bool l.2),(15,iI g)],[(6,cu v2),(10,List.set (aH bV) 66 (.nils)),(11,List.set (aH (⟨1,j.Node,v2.Margin.a3,0,(aa (v2.Content+u)),w,0,⟨#[]⟩,j.Style,o,q,t,[]⟩:ae)) 66 (.ref 1054)),(af d e)],[(1054,(bt b)),(440009,(bk f))],[6,10,11,440001,1054,440009,1440001,440001]⟩ ?_ (by subst c;kernel_rfl);exact ai 2 (au (bz aQ b) (ac (ag 1 (cc (p:=pn 524282) n (XW i n h)))))
def Sw(c:ao K)(h:zg K n j v2 l b d e f g P o q t a0 d0=some r):kI M y r [dR 32763,dR 8191] (X1 j v2 l b d e f g P o q t a0 d0):=by
 unfold zg at h;obtain⟨a,h⟩|⟨a,h⟩:=am h
 ·exact ah 166 a (ag 2 (MY c h))
 ·exact ah 166 a (ag 2 (MY c h))
def xQ(i:ao K)(h:ml K n j v2 l b d e f g P o q t=some r):kI M y r [.b 3,dR 2047] (aiu j v2 l b d e f g P o q t):=by
 unfold ml at h;refine oL 12 13 7 5 (ai 3 ?_);obtain⟨a0,c,h⟩:=aw h;refine aS (eD i c) (ac (ay 2 3 1 (ai 2 ?_)));obtain⟨a,h⟩|⟨a,h⟩:=am h
 ·exact aG 160 a (ac (ag 0 (Sw i h)))
 ·exact aG 160 a (ac (ag 0 (Sw i h)))
def Ka(a:ao K)(h:tr K n j v2 v4 l z A B C b d e f D g O c0=some r):kI M y r [dR 8185,.b 3,dR 2047] (abh j v2 v4 l z A B C b d e f D g O c0):=by
 unfold tr at h;obtain⟨c,h⟩|⟨c,h⟩:=am h
 ·refine ah 113 c (ay 4 5 2 (ai 4 ?_));obtain⟨t,o,h⟩:=aw h;exact aS (vQ a o) (ac (ag 5 (xQ a h)))
 ·refine ah 113 c (bv 7 3 ?_);obtain⟨i,h⟩|⟨i,h⟩:=am h
  ·refine ah 131 i (bv 11 5 ?_);obtain⟨k,h⟩|⟨k,h⟩:=am h
   ·refine ah 134 k (bv 2 1 (ai 3 ?_));obtain⟨u,p,h⟩:=aw h;exact aS (vQ a p) (ac (ag 0 (xQ a h)))
   ·exact ah 134 k (ag 2 (xQ a h))
  ·refine ah 131 i (bv 7 3 ?_);obtain⟨m,h⟩|⟨m,h⟩:=am h
   ·refine ah 140 m (ay 4 5 2 (ai 3 ?_));obtain⟨v,q,h⟩:=aw h;exact aS (vQ a q) (ac (ag 1 (xQ a h)))
   ·refine ah 140 m (bv 3 1 (ai 3 ?_));obtain⟨w,s,h⟩:=aw h;exact aS (nc a s) (ac (ag 0 (xQ a h)))
def HT(i:ao K)(h:uZ K n j v2 F v4 l z A B C b d e f D g O=some r):kI M y r [.b 2,dR 1023] (aju j v2 F v4 l z A B C b d e f D g O):=by
 unfold uZ at h;refine cQ 8 9 3 3 4 (ai 2 ?_);obtain⟨a,h⟩|⟨a,h⟩:=am h
 ·refine aG 115 a (aP 5 3 ?_);obtain⟨c,h⟩|⟨c,h⟩:=am h
  ·exact aG 118 c (ac (ag 0 (Ka i h)))
  ·exact aG 118 c (ac (ag 0 (Ka i h)))
 ·exact aG 115 a (ac (ag 0 (Ka i h)))
def Wq(g:ao K)(h:xq K n j v2 F v4 l z A B C b d e f Q D b0=some r):kI M y r [dR 16359,.b 2,dR 1023] (Xo j v2 F v4 l z A B C b d e f Q D b0):=by
 unfold xq at h;obtain⟨a,h⟩|⟨a,h⟩:=am h
 ·refine ah 98 a (bv 2 1 (ai 1 ?_));obtain⟨i,c,h⟩:=aw h;exact aS (nc g c) (ac (ag 0 (HT g h)))
 ·exact ah 98 a (ag 2 (HT g h))
def QW(g:ao K)(h:rj K n j v2 F v4 l z A B C b d e f=some r):kI M y r [dR 255] (agy j v2 F v4 l z A B C b d e f):=by
 unfold rj at h;refine ay 2 3 1 (bJ [2,3,5,6,10,11,12,13,14,15,16,17,18] [5,6,10,11,16,17,440001] [1054,440009] ?_);obtain⟨Q,i,h⟩:=aw h;obtain⟨D,k,h⟩:=aw h;refine bQ 2 (nu 81 [.ptr 6 0,.ptr 6 0,iI v2.Margin.a0,.agg (cU Q),.ptr 6 0,.ptr 6 2,iI v2.Margin.a2,.agg (cU D),.ptr 11 61,.ptr 11 63]) [] [] [ci bb 259 Tryz.f100 (pn 510) 9,ci bb 259 Tryz.f100 (pn 510) 11] (av (vz 3) (aj (cj 0 1 84 (Dd g i)) (av [.v 0 2,.v 0 2,.v 0 2] (aj (cj 0 1 88 (Dd g k)) (av [.v 0 1] (aj (cg 0) (av [.v 1 1] (aj (cg 1) bS)))))))) (ir 9 2 3 4 ?_);obtain⟨a,h⟩|⟨a,h⟩:=am h
 ·refine ah 91 a (bv 2 1 (ai 3 ?_));obtain⟨o,m,h⟩:=aw h;exact aS (vQ g m) (ac (ag 0 (HT g h)))
 ·refine ah 91 a (ay 6 7 2 (ai 3 ?_));obtain⟨c,h⟩|⟨c,h⟩:=am h
  ·exact aG 101 c (ac (ag 0 (Wq g h)))
  ·exact aG 101 c (ac (ag 0 (Wq g h)))
def aiA(d:ao K)(k:Ms M y r j v2 F v4 v5 l m1 L1)(h:Bo K n j v2 F v4 v5 l L1 G H I J N=some r):kI M y r (dR 32596::ai4 M y r m1) (R2 j v2 F v4 v5 l G H I J N):=by
 unfold Bo at h;refine ay 6 7 3 ?_;obtain⟨a,h⟩|⟨a,h⟩:=am h
 ·refine ah 39 a (cQ 8 9 1 3 5 (ai 0 ?_));obtain⟨e,h⟩:=aD h;refine au (bD aM az e (fE) (dV)) (ac (ai 6 ?_));obtain⟨c,b,h⟩:=aw h;refine pG (d.dp b).2 ?_ (d.dp b).1;refine au (gz aQ ([c.1]:c6) (new:=[aH c.1]) (by simp only[rv,zt,dP])) ?_;obtain⟨f,h⟩:=aD h;exact au (cA 50 50 44 67 aQ (rfl) (jZ) f) (ac (ag 2 (bu (k h))))
 ·refine ah 39 a (cd (ks':=[dR 4075,dR 255]) 5 (ai 1 (mz 50 ?_)));obtain⟨m,g,h⟩:=aw h;exact eZ 1054 (aeW d g) (C7 (i:=0) rfl) (ac (ag 0 (QW d h)))
def aht(a:ao K)(m:Nat):Ms M y r j v2 F v4 v5 l m (si K n j v2 F v4 v5 l m):=by
 induction m with
 | zero=>exact fun h=>nomatch h
 | succ m b=>exact fun h=>bp (aiA a b h)
def Ml(a:ao K)(h:jP K n j v2 F v4 v5 v6 v7 v8=some r):d8 bb 100 [.agg (az j),.agg (cu v2),.bool F,.bool v4,.agg (bP v5)] [(af v6 v7)] (bk v8) (fun v s=>v=.agg (aH r.1)∧cw s.o [(af r.2.1 r.2.2.1)]∧look 440009 s.r=some (bk r.2.2.2)):=by
 refine kn (c:=cat Tryz.f100 []) Tryz.func100 (by kernel_rfl) _ Tryz.ntmps100 (jt (by kernel_rfl)) fun M y=>(bn ⟨[(0,.agg (az j)),(1,.agg (cu v2)),(2,.bool F),(3,.bool v4),(4,.agg (bP v5))],[(af v6 v7)],[(440009,(bk v8))],[440009,440001,1440001]⟩ ?_);unfold jP at h;refine cd (ks':=[dR 14,dR 15]) 5 (ai 1 ?_);obtain⟨l,g,h⟩:=aw h;refine aS (SX a g) (ac (ay 61 31 9 ?_));obtain⟨e,h⟩|⟨e,h⟩:=am h
 ·exact ah 35 e (bX 20 21 11 5 (ai 1 (au (bz aM l.1) (ac (ig 2 0 1 (bJ [2,3,5,6,9,10,11,12,13,15,16,17,19,36,37,38] [5,6,9,10,11,16,17,440001] [440009] (fb 50 19 44 67 (ag 0 (cc (p:=pn 16298) n (aht a n h))))))))))
 ·refine ah 35 e (ay 6 7 2 (ai 7 ?_));obtain⟨i,b,h⟩:=aw h;refine lS (a.wW b) (ac (ay 2 3 1 (ai 2 ?_)));obtain⟨f,d,h⟩:=aw h;exact eZ 1075 (GT a d) (fa 5) (ac (ai 2 (au (bz aQ f) (ac (bJ [2,3,5,6,10,11,12,13,14,15,16,17,18] [5,6,10,11,16,17,440001] [1075,440009] (qN 1075 1054 (ag 0 (QW a h))))))))
end
section
variable[GS](M:Nat→Prop)(d:aC)(r:ae×Int×Int×dt)(a:ab)(v2:Int)(b:bB)(v4 v5:Int)(v6:dt)(e:cf)(f g:Bool)  
abbrev CN(n:Nat):aq:=.c (cat Tryz.f47 (pn n))
abbrev alt:Cx:=⟨bb,58,M,d⟩
abbrev q47:=bodyPost bb Tryz.f47 (bR M d (fun v s=>v=.agg (aH r.1)∧cw s.o [(af r.2.1 r.2.2.1)]∧look 440009 s.r=some (bk r.2.2.2)))
abbrev Sb(a:dn)(s:AS):=VE (alt M d) (q47 M d r) a .normal s
def agq:AS:=⟨[(3,.ptr 3 0),(5,.ptr 5 0),(6,.ptr 6 0),(7,.ptr 7 0),(9,.bool f),(10,.bool g)],[(3,az a),(5,bP b),(6,List.set (aH bV) 66 (.nils)),(7,cu e),(af v4 v5)],[(440009,(bk v6))],[3,5,6,7,440001,440009,1440001,440001]⟩
def akA:AS:=⟨[(3,.ptr 3 0),(5,.ptr 5 0),(6,.ptr 6 0),(7,.ptr 7 0),(8,.bool (a.Style.Overflow == 0)),(9,.bool f)],[(3,az a),(5,bP b),(6,List.set (aH bV) 66 (.nils)),(7,cu e),(af v4 v5)],[(440009,(bk v6))],[3,5,6,7,440001,440009,1440001,440001]⟩
variable{M d r a v2 b v4 v5 v6 e f g}{K:Kn}{n:Nat}[SG d][PF b.Layout]
def DE(i:ao K)(h:uw K n a b v4 v5 v6 e f g=some r):Sb M d r [CN 63] (agq a b v4 v5 v6 e f g):=by
 unfold uw at h;refine ay 2 3 1 (ai 5 ?_);obtain⟨j,c,h⟩:=aw h;refine pG (Ml i c) (ac (aL 1 ?_));cases h;exact fj
def JH(c:ao K)(h:oZ K n a b v4 v5 v6 e f=some r):Sb M d r [CN 31] (akA a b v4 v5 v6 e f):=by
 unfold oZ at h;refine ay 2 3 1 (ai 2 ?_);obtain⟨g,h⟩|⟨g,h⟩:=am h
 ·refine aG 33 g (aP 8 6 ?_);obtain⟨i,h⟩|⟨i,h⟩:=am h
  ·refine aG 39 i (aP 14 6 ?_);obtain⟨j,h⟩|⟨j,h⟩:=am h
   ·exact aG 45 j (ac (ag 0 (DE c h)))
   ·exact aG 45 j (ac (ag 0 (DE c h)))
  ·exact aG 39 i (ac (ag 0 (DE c h)))
 ·exact aG 33 g (ac (ag 0 (DE c h)))
def ahN(f:ao K)(h:oW K n a v2 b v4 v5 v6=some r):d8 bb 47 [.agg (az a),iI v2,.agg (bP b)] [(af v4 v5)] (bk v6) (fun v s=>v=.agg (aH r.1)∧cw s.o [(af r.2.1 r.2.2.1)]∧look 440009 s.r=some (bk r.2.2.2)):=by
 refine kn (c:=cat Tryz.f47 []) Tryz.func47 (by kernel_rfl) _ Tryz.ntmps47 (jt (by kernel_rfl)) fun M d=>(bn ⟨[(0,.agg (az a)),(1,iI v2),(2,.agg (bP b))],[(af v4 v5)],[(440009,(bk v6))],[440009,440001,1440001]⟩ ?_);unfold oW at h;refine cd (ks':=[CN 6,CN 7]) 3 (ai 3 ?_);obtain⟨e,j,h⟩:=aw h;refine aS (Fh f j) (ac (ay 6 7 3 (ai 2 ?_)));obtain⟨g,h⟩|⟨g,h⟩:=am h
 ·refine aG 20 g (aP 8 6 ?_);obtain⟨i,h⟩|⟨i,h⟩:=am h
  ·exact aG 26 i (ac (ag 0 (JH f h)))
  ·exact aG 26 i (ac (ag 0 (JH f h)))
 ·exact aG 20 g (ac (ag 0 (JH f h)))
end
section
variable[GS](M:Nat→Prop)(d:aC)(r:ae×Int×Int×dt)(b:ab)(v2:Int)(p:Bool)(v4:bB)(v5:Bool)(v6 q:Int)(t:dt)(e f:Int)(g:dt)(a:ae)(i j:Int)(k:dt)(l m:Int)(o:dt)  
abbrev vB(n:Nat):aq:=.c (cat Tryz.f43 (pn n))
abbrev Yx:Cx:=⟨bb,54,M,d⟩
abbrev Zt:=bodyPost bb Tryz.f43 (bR M d (fun v s=>v=.agg (aH r.1)∧cw s.o [(af r.2.1 r.2.2.1)]∧look 440009 s.r=some (bk r.2.2.2)))
abbrev GY(a:dn)(s:AS):=VE (Yx M d) (Zt M d r) a .normal s
def ZQ:AS:=⟨[(7,.ptr 7 0),(10,.ptr 10 0)],[(7,List.set (aH bV) 66 (.nils)),(10,aH a),(af l m)],[(440009,(bk o))],[7,10,440001,440009,1440001,440001]⟩
def ae2:AS:=⟨[(1,iI v2),(4,.cptr ([eI 37 v5])),(5,.ptr 5 0),(7,.ptr 7 0),(10,.ptr 10 0)],[(5,az b),(7,List.set (aH bV) 66 (.nils)),(10,aH a),(af i j)],[(440009,(bk k))],[5,7,10,440001,440009,1440001,440001]⟩
def Xe:AS:=⟨[(1,iI v2),(3,.cptr (bP v4)),(4,.cptr ([eI 37 v5])),(5,.ptr 5 0),(7,.ptr 7 0)],[(5,az b),(7,List.set (aH bV) 66 (.nils)),(af e f)],[(440009,(bk g))],[5,7,440001,440009,1440001,440001]⟩
variable{M d r b v2 p v4 v5 v6 q t e f g a i j k l m o}{K:Kn}{n:Nat}[SG d][LK p][PF v4.Layout][LK v5]
def N1(b:ao K)(h:CX K n a l m o=some r):GY M d r [vB 63] (ZQ a l m o):=by
 unfold CX at h;refine aL 3 ?_;cases h;exact fj
def OE(g:ao K)(h:uG K n b v2 v5 a i j k=some r):GY M d r [.b 0,vB 31] (ae2 b v2 v5 a i j k):=by
 unfold uG at h;refine oL 4 5 3 3 (ai 1 (NG 37 v5 .neq 89 89 (.tmp 46) (.const .nilFunc) 47 (ac ?_)));obtain⟨c,h⟩|⟨c,h⟩:=am h
 ·refine ah 47 c (bv 2 1 (ai 4 ?_));obtain⟨e,h⟩:=aD h;obtain⟨l,f,h⟩:=aw h;refine GR 48 (v:=eI 37 v5) (v':=.vv (jk 37 GS.g)) (by kernel_rfl) (by rw[e];rfl) rfl ?_;haveI:RG:=LK.rg e;exact PO (aaX g f) (ac (ag 0 (N1 g h)))
 ·exact ah 47 c (ag 2 (N1 g h))
def Tb(a:ao K)(h:uv K n b v2 v4 v5 e f g=some r):GY M d r [vB 7] (Xe b v2 v4 v5 e f g):=by
 unfold uv at h;refine ir 53 0 7 8 ?_;obtain⟨c,h⟩|⟨c,h⟩:=am h
 ·refine ah 28 c (bv 2 1 (ai 3 ?_));obtain⟨m,k,h⟩:=aw h;exact pG (aln a k) (ac (ag 0 (OE a h)))
 ·refine ah 28 c (bv 7 3 ?_);obtain⟨i,h⟩|⟨i,h⟩:=am h
  ·refine ah 34 i ?_;cases h
  ·refine ah 34 i (bv 7 3 ?_);obtain⟨j,h⟩|⟨j,h⟩:=am h
   ·refine ah 40 j ?_;cases h
   ·refine ah 40 j (bv 3 1 (ai 3 ?_));obtain⟨o,l,h⟩:=aw h;exact pG (ahN a l) (ac (ag 0 (OE a h)))
def ae1(f:ao K)(h:jV K n b v2 p v4 v5 v6 q t=some r):d8 bb 43 [.agg (az b),iI v2,.cptr ([eI 36 p]),.cptr (bP v4),.cptr ([eI 37 v5])] [(af v6 q)] (bk t) (fun v s=>v=.agg (aH r.1)∧cw s.o [(af r.2.1 r.2.2.1)]∧look 440009 s.r=some (bk r.2.2.2)):=by
 refine kn (c:=cat Tryz.f43 []) Tryz.func43 (by kernel_rfl) _ Tryz.ntmps43 (jt (by kernel_rfl)) fun M d=>(bn ⟨[(0,.agg (az b)),(1,iI v2),(2,.cptr ([eI 36 p])),(3,.cptr (bP v4)),(4,.cptr ([eI 37 v5]))],[(af v6 q)],[(440009,(bk t))],[440009,440001,1440001]⟩ ?_);unfold jV at h;refine cd (ks':=[vB 12,vB 13,vB 7]) 4 (ai 1 (NG 36 p .neq 66 66 (.tmp 11) (.const .nilFunc) 12 (ac ?_)));obtain⟨a,h⟩|⟨a,h⟩:=am h
 ·refine ah 12 a (ay 4 5 2 (ai 3 ?_));obtain⟨g,h⟩:=aD h;obtain⟨j,i,h⟩:=aw h;refine GR 14 (v:=eI 36 p) (v':=.vv (jk 36 GS.g)) (by kernel_rfl) (by rw[g];rfl) rfl ?_;haveI:RG:=LK.rg g;refine PO (als f i) (ac (bv 3 2 ?_));obtain⟨e,h⟩|⟨e,h⟩:=am h
  ·refine ah 20 e (aL 5 ?_);cases h;exact fj
  ·exact ah 20 e (ag 2 (Tb f h))
 ·exact ah 12 a (ag 2 (Tb f h))
end
section
variable[GS](M:Nat→Prop)(a:aC)(r k:aR)(v2:Nat)(o v4 v5 v6 p q t b d f g:aR)  
abbrev eM(n:Nat):aq:=.c (cat Tryz.f101 (pn n))
abbrev Li:Cx:=⟨bb,40,M,a⟩
abbrev FE:=bodyPost bb Tryz.f101 (bR M a (fun v _=>v=.agg (aI r)))
abbrev kX(b:dn)(s:AS):=VE (Li M a) (FE M a r) b .normal s
def aaf:AS:=⟨[(1,.pp 1 v2 0),(2,.ptr 2 0),(24,.ref 10),(25,iI 11),(26,iI 10)],[(1,aI g),(2,aI cv)],[(10,⟨201,1,lm bd (ap v2)⟩)],[1,2,10]⟩
def Yk:AS:=⟨[(1,.pp 1 v2 0),(2,.ptr 2 0),(24,.ref 10),(25,iI 11),(26,iI 9)],[(1,aI f),(2,aI cv)],[(10,⟨201,1,lm bd (ap v2)⟩)],[1,2,10]⟩
def Z2:AS:=⟨[(1,.pp 1 v2 0),(2,.ptr 2 0),(24,.ref 10),(25,iI 11),(26,iI 8)],[(1,aI d),(2,aI cv)],[(10,⟨201,1,lm bd (ap v2)⟩)],[1,2,10]⟩
def aex:AS:=⟨[(1,.pp 1 v2 0),(2,.ptr 2 0),(24,.ref 10),(25,iI 11),(26,iI 7)],[(1,aI b),(2,aI cv)],[(10,⟨201,1,lm bd (ap v2)⟩)],[1,2,10]⟩
def agP:AS:=⟨[(1,.pp 1 v2 0),(2,.ptr 2 0),(24,.ref 10),(25,iI 11),(26,iI 6)],[(1,aI t),(2,aI cv)],[(10,⟨201,1,lm bd (ap v2)⟩)],[1,2,10]⟩
def acZ:AS:=⟨[(1,.pp 1 v2 0),(2,.ptr 2 0),(24,.ref 10),(25,iI 11),(26,iI 5)],[(1,aI q),(2,aI cv)],[(10,⟨201,1,lm bd (ap v2)⟩)],[1,2,10]⟩
def aav:AS:=⟨[(1,.pp 1 v2 0),(2,.ptr 2 0),(24,.ref 10),(25,iI 11),(26,iI 4)],[(1,aI p),(2,aI cv)],[(10,⟨201,1,lm bd (ap v2)⟩)],[1,2,10]⟩
def ZG:AS:=⟨[(1,.pp 1 v2 0),(2,.ptr 2 0),(24,.ref 10),(25,iI 11),(26,iI 3)],[(1,aI v6),(2,aI cv)],[(10,⟨201,1,lm bd (ap v2)⟩)],[1,2,10]⟩
def ZZ:AS:=⟨[(1,.pp 1 v2 0),(2,.ptr 2 0),(24,.ref 10),(25,iI 11),(26,iI 2)],[(1,aI v5),(2,aI cv)],[(10,⟨201,1,lm bd (ap v2)⟩)],[1,2,10]⟩
def adM:AS:=⟨[(1,.pp 1 v2 0),(2,.ptr 2 0),(24,.ref 10),(25,iI 11),(26,iI 1)],[(1,aI v4),(2,aI cv)],[(10,⟨201,1,lm bd (ap v2)⟩)],[1,2,10]⟩
def ajo:AS:=⟨[(1,.pp 1 v2 0),(2,.ptr 2 0),(24,.ref 10),(25,iI 11),(26,iI 0)],[(1,aI o),(2,aI cv)],[(10,⟨201,1,lm bd (ap v2)⟩)],[1,2,10]⟩
abbrev eX(m:Nat):dn:=kl (Li M a) (FE M a r) [.b 2,eM 31] (cat Tryz.f101 (pn 244)) m::[.b 2,eM 31]
abbrev vT(m:Nat):dn:=kl (Li M a) (FE M a r) [.b 0,eM 15] (cat Tryz.f101 (pn 116)) m::[.b 0,eM 15]
variable{M a r k v2 o v4 v5 v6 p q t b d f g}{K:Kn}{n:Nat}
def Mn(b:ao K)(h:wY K n g=some r):kX M a r (.b 3::eM 1959::eX M a r 29) (aaf v2 g):=by
 unfold wY at h;refine bC (ks':=eX M a r 29) 2 ⟨[(1,.pp 1 v2 0),(2,.ptr 2 0),(24,.ref 10),(25,iI 11),(26,iI 11)],[(1,aI g),(2,aI cv)],[(10,⟨201,1,lm bd (ap v2)⟩)],[1,2,10]⟩ (bu (bp (aL 11 ?_)));cases h;exact bA
def TE(c:ao K)(h:s6 K n f=some r):kX M a r (.b 3::eM 1959::eX M a r 30) (Yk v2 f):=by
 unfold s6 at h;refine bC (ks':=eX M a r 30) 2 ⟨[(1,.pp 1 v2 0),(2,.ptr 2 0),(24,.ref 10),(25,iI 11),(26,iI 10)],[(1,aI f),(2,aI cv)],[(10,⟨201,1,lm bd (ap v2)⟩)],[1,2,10]⟩ (bu (bp (dI 56 57 3 15 8 (ai 0 (au (cp 10 1 bd (L:=(ap v2)) (i:=(10:Int)) (by kernel_rfl)) (au (bK 201 0 bd bd (L:=(ap v2)) (j:=(10:Int).toNat) (jt (by kernel_rfl)) aT) (ac (ay 2 3 1 (ai 3 (da 32 1 1 v2 28 0 (ac ?_)))))))))));obtain⟨b,h⟩|⟨b,h⟩:=am h
 ·exact ah 34 b (bv 2 1 (ai 3 (da 37 1 1 v2 28 0 (ac (ag 0 (Mn c (v2:=v2) h))))))
 ·exact ah 34 b (ag 2 (Mn c (v2:=v2) h))
def VW(c:ao K)(h:sd K n d=some r):kX M a r (.b 3::eM 1959::eX M a r 31) (Z2 v2 d):=by
 unfold sd at h;refine bC (ks':=eX M a r 31) 2 ⟨[(1,.pp 1 v2 0),(2,.ptr 2 0),(24,.ref 10),(25,iI 11),(26,iI 9)],[(1,aI d),(2,aI cv)],[(10,⟨201,1,lm bd (ap v2)⟩)],[1,2,10]⟩ (bu (bp (dI 56 57 3 15 8 (ai 0 (au (cp 10 1 bd (L:=(ap v2)) (i:=(9:Int)) (by kernel_rfl)) (au (bK 201 0 bd bd (L:=(ap v2)) (j:=(9:Int).toNat) (jt (by kernel_rfl)) aT) (ac (ay 2 3 1 (ai 3 (da 32 1 1 v2 20 0 (ac ?_)))))))))));obtain⟨b,h⟩|⟨b,h⟩:=am h
 ·exact ah 34 b (bv 2 1 (ai 3 (da 37 1 1 v2 20 0 (ac (ag 0 (TE c (v2:=v2) h))))))
 ·exact ah 34 b (ag 2 (TE c (v2:=v2) h))
def TX(d:ao K)(h:s8 K n b=some r):kX M a r (.b 3::eM 1959::eX M a r 32) (aex v2 b):=by
 unfold s8 at h;refine bC (ks':=eX M a r 32) 2 ⟨[(1,.pp 1 v2 0),(2,.ptr 2 0),(24,.ref 10),(25,iI 11),(26,iI 8)],[(1,aI b),(2,aI cv)],[(10,⟨201,1,lm bd (ap v2)⟩)],[1,2,10]⟩ (bu (bp (dI 56 57 3 15 8 (ai 0 (au (cp 10 1 bd (L:=(ap v2)) (i:=(8:Int)) (by kernel_rfl)) (au (bK 201 0 bd bd (L:=(ap v2)) (j:=(8:Int).toNat) (jt (by kernel_rfl)) aT) (ac (ay 2 3 1 (ai 3 (da 32 1 1 v2 26 0 (ac ?_)))))))))));obtain⟨c,h⟩|⟨c,h⟩:=am h
 ·exact ah 34 c (bv 2 1 (ai 3 (da 37 1 1 v2 26 0 (ac (ag 0 (VW d (v2:=v2) h))))))
 ·exact ah 34 c (ag 2 (VW d (v2:=v2) h))
def SM(c:ao K)(h:ul K n t=some r):kX M a r (.b 3::eM 1959::eX M a r 33) (agP v2 t):=by
 unfold ul at h;refine bC (ks':=eX M a r 33) 2 ⟨[(1,.pp 1 v2 0),(2,.ptr 2 0),(24,.ref 10),(25,iI 11),(26,iI 7)],[(1,aI t),(2,aI cv)],[(10,⟨201,1,lm bd (ap v2)⟩)],[1,2,10]⟩ (bu (bp (dI 56 57 3 15 8 (ai 0 (au (cp 10 1 bd (L:=(ap v2)) (i:=(7:Int)) (by kernel_rfl)) (au (bK 201 0 bd bd (L:=(ap v2)) (j:=(7:Int).toNat) (jt (by kernel_rfl)) aT) (ac (ay 2 3 1 (ai 3 (da 32 1 1 v2 18 0 (ac ?_)))))))))));obtain⟨b,h⟩|⟨b,h⟩:=am h
 ·exact ah 34 b (bv 2 1 (ai 3 (da 37 1 1 v2 18 0 (ac (ag 0 (TX c (v2:=v2) h))))))
 ·exact ah 34 b (ag 2 (TX c (v2:=v2) h))
def VT(c:ao K)(h:vA K n q=some r):kX M a r (.b 3::eM 1959::eX M a r 34) (acZ v2 q):=by
 unfold vA at h;refine bC (ks':=eX M a r 34) 2 ⟨[(1,.pp 1 v2 0),(2,.ptr 2 0),(24,.ref 10),(25,iI 11),(26,iI 6)],[(1,aI q),(2,aI cv)],[(10,⟨201,1,lm bd (ap v2)⟩)],[1,2,10]⟩ (bu (bp (dI 56 57 3 15 8 (ai 0 (au (cp 10 1 bd (L:=(ap v2)) (i:=(6:Int)) (by kernel_rfl)) (au (bK 201 0 bd bd (L:=(ap v2)) (j:=(6:Int).toNat) (jt (by kernel_rfl)) aT) (ac (ay 2 3 1 (ai 3 (da 32 1 1 v2 24 0 (ac ?_)))))))))));obtain⟨b,h⟩|⟨b,h⟩:=am h
 ·exact ah 34 b (bv 2 1 (ai 3 (da 37 1 1 v2 24 0 (ac (ag 0 (SM c (v2:=v2) h))))))
 ·exact ah 34 b (ag 2 (SM c (v2:=v2) h))
def Tk(c:ao K)(h:tM K n p=some r):kX M a r (.b 3::eM 1959::eX M a r 35) (aav v2 p):=by
 unfold tM at h;refine bC (ks':=eX M a r 35) 2 ⟨[(1,.pp 1 v2 0),(2,.ptr 2 0),(24,.ref 10),(25,iI 11),(26,iI 5)],[(1,aI p),(2,aI cv)],[(10,⟨201,1,lm bd (ap v2)⟩)],[1,2,10]⟩ (bu (bp (dI 56 57 3 15 8 (ai 0 (au (cp 10 1 bd (L:=(ap v2)) (i:=(5:Int)) (by kernel_rfl)) (au (bK 201 0 bd bd (L:=(ap v2)) (j:=(5:Int).toNat) (jt (by kernel_rfl)) aT) (ac (ay 2 3 1 (ai 3 (da 32 1 1 v2 16 0 (ac ?_)))))))))));obtain⟨b,h⟩|⟨b,h⟩:=am h
 ·exact ah 34 b (bv 2 1 (ai 3 (da 37 1 1 v2 16 0 (ac (ag 0 (VT c (v2:=v2) h))))))
 ·exact ah 34 b (ag 2 (VT c (v2:=v2) h))
def QM(c:ao K)(h:se K n v6=some r):kX M a r (.b 3::eM 1959::eX M a r 36) (ZG v2 v6):=by
 unfold se at h;refine bC (ks':=eX M a r 36) 2 ⟨[(1,.pp 1 v2 0),(2,.ptr 2 0),(24,.ref 10),(25,iI 11),(26,iI 4)],[(1,aI v6),(2,aI cv)],[(10,⟨201,1,lm bd (ap v2)⟩)],[1,2,10]⟩ (bu (bp (dI 56 57 3 15 8 (ai 0 (au (cp 10 1 bd (L:=(ap v2)) (i:=(4:Int)) (by kernel_rfl)) (au (bK 201 0 bd bd (L:=(ap v2)) (j:=(4:Int).toNat) (jt (by kernel_rfl)) aT) (ac (ay 2 3 1 (ai 3 (da 32 1 1 v2 22 0 (ac ?_)))))))))));obtain⟨b,h⟩|⟨b,h⟩:=am h
 ·exact ah 34 b (bv 2 1 (ai 3 (da 37 1 1 v2 22 0 (ac (ag 0 (Tk c (v2:=v2) h))))))
 ·exact ah 34 b (ag 2 (Tk c (v2:=v2) h))
def Wx(c:ao K)(h:vq K n v5=some r):kX M a r (.b 3::eM 1959::eX M a r 37) (ZZ v2 v5):=by
 unfold vq at h;refine bC (ks':=eX M a r 37) 2 ⟨[(1,.pp 1 v2 0),(2,.ptr 2 0),(24,.ref 10),(25,iI 11),(26,iI 3)],[(1,aI v5),(2,aI cv)],[(10,⟨201,1,lm bd (ap v2)⟩)],[1,2,10]⟩ (bu (bp (dI 56 57 3 15 8 (ai 0 (au (cp 10 1 bd (L:=(ap v2)) (i:=(3:Int)) (by kernel_rfl)) (au (bK 201 0 bd bd (L:=(ap v2)) (j:=(3:Int).toNat) (jt (by kernel_rfl)) aT) (ac (ay 2 3 1 (ai 3 (da 32 1 1 v2 14 0 (ac ?_)))))))))));obtain⟨b,h⟩|⟨b,h⟩:=am h
 ·exact ah 34 b (bv 2 1 (ai 3 (da 37 1 1 v2 14 0 (ac (ag 0 (QM c (v2:=v2) h))))))
 ·exact ah 34 b (ag 2 (QM c (v2:=v2) h))
def SO(c:ao K)(h:ua K n v4=some r):kX M a r (.b 3::eM 1959::eX M a r 38) (adM v2 v4):=by
 unfold ua at h;refine bC (ks':=eX M a r 38) 2 ⟨[(1,.pp 1 v2 0),(2,.ptr 2 0),(24,.ref 10),(25,iI 11),(26,iI 2)],[(1,aI v4),(2,aI cv)],[(10,⟨201,1,lm bd (ap v2)⟩)],[1,2,10]⟩ (bu (bp (dI 56 57 3 15 8 (ai 0 (au (cp 10 1 bd (L:=(ap v2)) (i:=(2:Int)) (by kernel_rfl)) (au (bK 201 0 bd bd (L:=(ap v2)) (j:=(2:Int).toNat) (jt (by kernel_rfl)) aT) (ac (ay 2 3 1 (ai 3 (da 32 1 1 v2 12 0 (ac ?_)))))))))));obtain⟨b,h⟩|⟨b,h⟩:=am h
 ·exact ah 34 b (bv 2 1 (ai 3 (da 37 1 1 v2 12 0 (ac (ag 0 (Wx c (v2:=v2) h))))))
 ·exact ah 34 b (ag 2 (Wx c (v2:=v2) h))
def Sx(c:ao K)(h:vp K n o=some r):kX M a r (.b 3::eM 1959::eX M a r 39) (ajo v2 o):=by
 unfold vp at h;refine bC (ks':=eX M a r 39) 2 ⟨[(1,.pp 1 v2 0),(2,.ptr 2 0),(24,.ref 10),(25,iI 11),(26,iI 1)],[(1,aI o),(2,aI cv)],[(10,⟨201,1,lm bd (ap v2)⟩)],[1,2,10]⟩ (bu (bp (dI 56 57 3 15 8 (ai 0 (au (cp 10 1 bd (L:=(ap v2)) (i:=(1:Int)) (by kernel_rfl)) (au (bK 201 0 bd bd (L:=(ap v2)) (j:=(1:Int).toNat) (jt (by kernel_rfl)) aT) (ac (ay 2 3 1 (ai 3 (da 32 1 1 v2 10 0 (ac ?_)))))))))));obtain⟨b,h⟩|⟨b,h⟩:=am h
 ·exact ah 34 b (bv 2 1 (ai 3 (da 37 1 1 v2 10 0 (ac (ag 0 (SO c (v2:=v2) h))))))
 ·exact ah 34 b (ag 2 (SO c (v2:=v2) h))
def X6(d:ao K)(h:xy K n k=some r):ba bb 101 [.agg (aI k)] (fun v _=>v=.agg (aI r)):=by
 refine bI (cat Tryz.f101 (pn 1)) Tryz.func101 Tryz.ntmps101 fun M a=>(bn ⟨[(0,.agg (aI k))],[],[],[]⟩ ?_);unfold xy at h;refine ay 6 7 3 (Rb 1 1 0 fun v2=>(ai 3 (WB 202 3 #[(0,(.tmp 7)),(1,(.tmp 8)),(2,(.tmp 9))] 10 (e:=201) (sz:=1) (l:=lm bd [(v2,6),(v2,10),(v2,12)]) (ac (bC (ks':=[eM 58,.b 0,eM 15]) 4 ⟨[(1,.pp 1 v2 0),(2,.ptr 2 0),(3,.ref 10),(11,iI 0)],[(1,aI k),(2,aI cv)],[(10,⟨201,1,lm bd [(v2,6),(v2,10),(v2,12)]⟩)],[1,2,10]⟩ (ox 40 (c:=cat Tryz.f101 [1,1,0,1,0,0]) (by kernel_rfl) (bp (cd (ks':=eM 3737 :: .b 1::eM 935::vT M a r 39) 9 (bJ [1,2,3,4,11] [1,2] [10] (bQ 2 (nu 14 [.ref 10,iI 0,.adr v2 14,.adr v2 14,iI 0,.adr v2 22,.adr v2 22,.sl (lm bd [(v2,14),(v2,22)])]) [] [] [f9 22 10 ⟨201,1,lm bd [(v2,6),(v2,10),(v2,12),(v2,14),(v2,22)]⟩,ci bb 40 Tryz.f101 (pn 3737) 9] (av [.v 0 1,.v 0 2,.v 0 2,.v 0 2,.v 0 2,.v 0 2,.v 0 2,.v 0 1] (aj (dm (m:=0) (cA 22 10 201 1 bd (L:=([(v2,6),(v2,10),(v2,12)]:hF)) (M:=([(v2,14),(v2,22)]:hF)) (bytes:=8) (rfl) aT (by kernel_rfl))) (aj (cg 1) bS))) (bC (ks':=vT M a r 39) 2 ⟨[(1,.pp 1 v2 0),(2,.ptr 2 0),(3,.ref 10),(11,iI 1)],[(1,aI k),(2,aI cv)],[(10,⟨201,1,lm bd [(v2,6),(v2,10),(v2,12),(v2,14),(v2,22)]⟩)],[1,2,10]⟩ (bu (bp (ir 57 1 15 9 (bJ [1,2,3,4,11] [1,2] [10] (bQ 2 (nu 14 [.ref 10,iI 1,.adr v2 14,.adr v2 16,iI 1,.adr v2 22,.adr v2 24,.sl (lm bd [(v2,16),(v2,24)])]) [] [] [f9 22 10 ⟨201,1,lm bd [(v2,6),(v2,10),(v2,12),(v2,14),(v2,22),(v2,16),(v2,24)]⟩,ci bb 40 Tryz.f101 (pn 3737) 9] (av [.v 0 1,.v 0 2,.v 0 2,.v 0 2,.v 0 2,.v 0 2,.v 0 2,.v 0 1] (aj (dm (m:=0) (cA 22 10 201 1 bd (L:=([(v2,6),(v2,10),(v2,12),(v2,14),(v2,22)]:hF)) (M:=([(v2,16),(v2,24)]:hF)) (bytes:=8) (rfl) aT (by kernel_rfl))) (aj (cg 1) bS))) (bC (ks':=vT M a r 38) 2 ⟨[(1,.pp 1 v2 0),(2,.ptr 2 0),(3,.ref 10),(11,iI 2)],[(1,aI k),(2,aI cv)],[(10,⟨201,1,lm bd [(v2,6),(v2,10),(v2,12),(v2,14),(v2,22),(v2,16),(v2,24)]⟩)],[1,2,10]⟩ (bu (bp (ir 57 1 15 9 (bJ [1,2,3,4,11] [1,2] [10] (bQ 2 (nu 14 [.ref 10,iI 2,.adr v2 14,.adr v2 18,iI 2,.adr v2 22,.adr v2 26,.sl (lm bd [(v2,18),(v2,26)])]) [] [] [f9 22 10 ⟨201,1,lm bd [(v2,6),(v2,10),(v2,12),(v2,14),(v2,22),(v2,16),(v2,24),(v2,18),(v2,26)]⟩,ci bb 40 Tryz.f101 (pn 3737) 9] (av [.v 0 1,.v 0 2,.v 0 2,.v 0 2,.v 0 2,.v 0 2,.v 0 2,.v 0 1] (aj (dm (m:=0) (cA 22 10 201 1 bd (L:=([(v2,6),(v2,10),(v2,12),(v2,14),(v2,22),(v2,16),(v2,24)]:hF)) (M:=([(v2,18),(v2,26)]:hF)) (bytes:=8) (rfl) aT (by kernel_rfl))) (aj (cg 1) bS))) (bC (ks':=vT M a r 37) 2 ⟨[(1,.pp 1 v2 0),(2,.ptr 2 0),(3,.ref 10),(11,iI 3)],[(1,aI k),(2,aI cv)],[(10,⟨201,1,lm bd [(v2,6),(v2,10),(v2,12),(v2,14),(v2,22),(v2,16),(v2,24),(v2,18),(v2,26)]⟩)],[1,2,10]⟩ ?_)))))))))))))))))))))))
 refine bu (bp (ir 57 1 15 9 (bJ [1,2,3,4,11] [1,2] [10] (bQ 2 (nu 14 [.ref 10,iI 3,.adr v2 14,.adr v2 20,iI 3,.adr v2 22,.adr v2 28,.sl (lm bd [(v2,20),(v2,28)])]) [] [] [f9 22 10 ⟨201,1,lm bd (ap v2)⟩,ci bb 40 Tryz.f101 (pn 3737) 9] (av [.v 0 1,.v 0 2,.v 0 2,.v 0 2,.v 0 2,.v 0 2,.v 0 2,.v 0 1] (aj (dm (m:=0) (cA 22 10 201 1 bd (L:=([(v2,6),(v2,10),(v2,12),(v2,14),(v2,22),(v2,16),(v2,24),(v2,18),(v2,26)]:hF)) (M:=([(v2,20),(v2,28)]:hF)) (bytes:=8) (rfl) aT (by kernel_rfl))) (aj (cg 1) bS))) (bC (ks':=vT M a r 36) 2 ⟨[(1,.pp 1 v2 0),(2,.ptr 2 0),(3,.ref 10),(11,iI 4)],[(1,aI k),(2,aI cv)],[(10,⟨201,1,lm bd (ap v2)⟩)],[1,2,10]⟩ (bu (bp (T7 4 5 3 10 (ai 1 (au (bz bd (ap v2)) (ac (bC (ks':=[eM 122,.b 2,eM 31]) 1 ⟨[(1,.pp 1 v2 0),(2,.ptr 2 0),(24,.ref 10),(25,iI 11),(26,iI 0)],[(1,aI k),(2,aI cv)],[(10,⟨201,1,lm bd (ap v2)⟩)],[1,2,10]⟩ (ox 40 (c:=cat Tryz.f101 [1,1,1,0,1,0,0]) (by kernel_rfl) (bp (cd (ks':=eM 7832::eM 7833 :: .b 3::eM 1959::eX M a r 39) 8 (ai 0 (au (cp 10 1 bd (L:=(ap v2)) (i:=(0:Int)) (by kernel_rfl)) (au (bK 201 0 bd bd (L:=(ap v2)) (j:=(0:Int).toNat) (jt (by kernel_rfl)) aT) (ac (ay 2 3 1 (ai 3 (da 32 1 1 v2 6 0 (ac ?_)))))))))))))))))))))))
 obtain⟨b,h⟩|⟨b,h⟩:=am h
 ·exact ah 34 b (bv 2 1 (ai 3 (da 37 1 1 v2 6 0 (ac (ag 0 (Sx d (v2:=v2) h))))))
 ·exact ah 34 b (ag 2 (Sx d (v2:=v2) h))
end
section
variable[GS](M:Nat→Prop)(b:aC)(r a:Int)(v2:aR)  
variable{M b r a v2}{K:Kn}{n:Nat}
def NH(c:ao K)(h:zp K n a v2=some r):ba bb 103 [iI a,.cptr (aI v2)] (fun v _=>v=iI r):=by
 refine bI (cat Tryz.f103 (pn 1)) Tryz.func103 Tryz.ntmps103 fun M b=>(bn ⟨[(0,iI a),(1,.cptr (aI v2))],[],[],[]⟩ ?_);unfold zp at h;refine ay 6 7 3 (bJ [0,1] [] [] ?_);obtain⟨i,d,h⟩:=aw h;obtain⟨v4,e,h⟩:=aw h;obtain⟨v5,f,h⟩:=aw h;obtain⟨v6,g,h⟩:=aw h;refine bQ 1 (nu 4 [.agg (aI v2),.agg (aI v2),iI a,iI i,iI v4,.agg (cu v5),iI v6]) [] [] [ci bb 11 Tryz.f103 (pn 6) 7] (av (vz 3) (aj (cj 0 1 7 (nI c d)) (aj (cj 0 1 8 (za c e)) (aj (cj 0 1 9 (mZ c f)) (aj (cj 0 1 10 (oC c g)) (aj (cg 0) bS)))))) (aL 1 ?_);cases h;exact bA
end
section
variable[GS](M:Nat→Prop)(c:aC)(r:Int×Int)(e:ab)(v2:bB)(b:aR)(v5:dO)(f d a:Int)(g:Int×Int)(j k l o q:Int)(i:Nat)(t:Int→Int→Int→Option eg)
abbrev Kk:Cx:=⟨bb,70,M,c⟩
abbrev HC:=bodyPost bb Tryz.f49 (bR M c (fun v _=>v=.tup [iI r.1,iI r.2]))
abbrev Cq(a:dn)(s:AS):=VE (Kk M c) (HC M c r) a .normal s
abbrev qu(n:Nat):aq:=.c (cat Tryz.f49 (pn n))
abbrev E5:dn:=[.b 0,qu 15]
abbrev EJ:dn:=kl (Kk M c) (HC M c r) E5 (cat Tryz.f49 (pn 956)) i::E5
def Zf:AS:=⟨[(2,.ptr 2 0),(3,.ptr 3 0),(4,iI k),(5,iI l),(6,.ptr 6 0),(27,.ref 1027),(28,iI (v5.length:Int)),(29,iI a)],[(2,az e),(3,bP v2),(6,aI b)],[(1027,(bx v5))],[2,3,6,1027]⟩
def adk:AS:=⟨[(2,.ptr 2 0),(3,.ptr 3 0),(4,iI j),(5,iI (aa (d+g.2))),(6,.ptr 6 0),(27,.ref 1027),(28,iI (v5.length:Int)),(29,iI a)],[(2,az e),(3,bP v2),(6,aI b)],[(1027,(bx v5))],[2,3,6,1027]⟩
def aeI:AS:=⟨[(4,iI o),(5,iI q),(6,.ptr 6 0)],[(6,aI b)],[],[6]⟩
def RW:AS:=⟨[(2,.ptr 2 0),(3,.ptr 3 0),(4,iI f),(5,iI d),(6,.ptr 6 0),(27,.ref 1027),(28,iI (v5.length:Int)),(29,iI a)],[(2,az e),(3,bP v2),(6,aI b)],[(1027,(bx v5))],[2,3,6,1027]⟩
abbrev Cf:Prop:=∀{f:Int} {d:Int} {a:Int},t f d a=some r→LP (Kk M c) (HC M c r) E5 (cat Tryz.f49 (pn 956)) i (RW e v2 b v5 f d a)
variable{M c r e v2 b v5 f d a g j k l o q i t}{K:Kn}{n:Nat}
def LW(f:ao K)(d:Cf M c r e v2 b v5 i t)(h:yg K n e v2 b v5 a t k l=some r):Cq M c r (qu 7655::EJ M c r i) (Zf e v2 b v5 a k l):=by
 unfold yg at h;exact ag 1 (bu (d h))
def Re(k:ao K)(f:Cf M c r e v2 b v5 i t)(h:xH K n e v2 b v5 d a g t j=some r):Cq M c r (.b 1::qu 7655::EJ M c r i) (adk e v2 b v5 d a g j):=by
 unfold xH at h;exact ag 1 (LW k f h)
def Mw(e:ao K)(h:qm K n b o q=some r):Cq M c r [qu 15] (aeI b o q):=by
 unfold qm at h;refine ay 2 3 1 (ai 0 (n6 6 6 (aI b) (sg 103 #[(.tmp 6)] [.cptr (aI b)] (ac (ay 2 3 1 (ai 2 ?_))))));obtain⟨f,a,h⟩:=aw h;refine aS (NH e a) (aP 5 2 ?_);obtain⟨g,d,h⟩:=aw h;refine aS (NH e d) (ac (aL 1 ?_));cases h;exact jj
def abW(p:ao K)(m:Cf M c r e v2 b v5 i t)(h:D1 K n e v2 b v5 t f d a=some r):Cq M c r (qu 956::EJ M c r i) (RW e v2 b v5 f d a):=by
 unfold D1 at h;refine ay 6 7 3 ?_;obtain⟨j,h⟩|⟨j,h⟩:=am h
 ·refine ah 30 j (cQ 8 9 1 3 5 (ai 0 ?_));obtain⟨o,h⟩:=aD h;refine au (cp 1027 59 aM o) (au (bK 48 0 aM az (bE o).2 (dV)) (ac (ay 2 3 1 (ai 3 ?_))));obtain⟨g,q,h⟩:=aw h;refine lS (p.gI q) (ac (ay 5 3 3 ?_));obtain⟨k,h⟩|⟨k,h⟩:=am h
  ·exact ah 43 k (ag 6 (LW p m h))
  ·refine ah 43 k (cd (ks':=qu 489887 :: .b 1::qu 7655::EJ M c r i) 6 ?_);obtain⟨l,h⟩|⟨l,h⟩:=am h
   ·exact ah 55 l (ag 2 (Re p m h))
   ·exact ah 55 l (ag 2 (Re p m h))
 ·exact ah 30 j (ag 5 (Mw p h))
def aeF(a:ao K)(m:Nat):Cf M c r e v2 b v5 m (AA K n e v2 b v5 m):=by
 induction m with
 | zero=>exact fun h=>nomatch h
 | succ m d=>exact fun h=>bp (abW a d h)
def ab5(a:ao K)(h:tZ K n e v2=some r):ba bb 49 [.agg (az e),.agg (bP v2)] (fun v _=>v=.tup [iI r.1,iI r.2]):=by
 refine bI (cat Tryz.f49 (pn 1)) Tryz.func49 Tryz.ntmps49 fun M c=>(bn ⟨[(0,.agg (az e)),(1,.agg (bP v2))],[],[],[]⟩ ?_);unfold tZ at h;refine ay 6 7 3 (ai 2 ?_);obtain⟨b,f,h⟩:=aw h;refine aS (X6 a f) (ac (bX 4 5 3 2 (ai 2 ?_)));obtain⟨v4,g,h⟩:=aw h;refine aS (eD a g) (ac (bv 3 2 ?_));obtain⟨d,h⟩|⟨d,h⟩:=am h
 ·exact ah 23 d (ag 2 (Mw a h))
 ·refine ah 23 d (ay 6 7 2 (ai 1 ?_));obtain⟨v5,i,h⟩:=aw h;exact eZ 1027 (H6 a i) (fa 21) (au (bz aM v5) (ac (ag 1 (cc (p:=pn 478) n (aeF a n h)))))
end
section
variable[GS](M:Nat→Prop)(a:aC)(r k:aR)(v2:Nat)(o v4 v5 v6 p q t b d f g:aR)  
abbrev eP(n:Nat):aq:=.c (cat Tryz.f108 (pn n))
abbrev E9:Cx:=⟨bb,40,M,a⟩
abbrev JA:=bodyPost bb Tryz.f108 (bR M a (fun v _=>v=.agg (aI r)))
abbrev kU(b:dn)(s:AS):=VE (E9 M a) (JA M a r) b .normal s
def YC:AS:=⟨[(1,.pp 1 v2 0),(2,.ptr 2 0),(24,.ref 10),(25,iI 11),(26,iI 10)],[(1,aI g),(2,aI cv)],[(10,⟨201,1,lm bd (ap v2)⟩)],[1,2,10]⟩
def abj:AS:=⟨[(1,.pp 1 v2 0),(2,.ptr 2 0),(24,.ref 10),(25,iI 11),(26,iI 9)],[(1,aI f),(2,aI cv)],[(10,⟨201,1,lm bd (ap v2)⟩)],[1,2,10]⟩
def alk:AS:=⟨[(1,.pp 1 v2 0),(2,.ptr 2 0),(24,.ref 10),(25,iI 11),(26,iI 8)],[(1,aI d),(2,aI cv)],[(10,⟨201,1,lm bd (ap v2)⟩)],[1,2,10]⟩
def aiK:AS:=⟨[(1,.pp 1 v2 0),(2,.ptr 2 0),(24,.ref 10),(25,iI 11),(26,iI 7)],[(1,aI b),(2,aI cv)],[(10,⟨201,1,lm bd (ap v2)⟩)],[1,2,10]⟩
def aax:AS:=⟨[(1,.pp 1 v2 0),(2,.ptr 2 0),(24,.ref 10),(25,iI 11),(26,iI 6)],[(1,aI t),(2,aI cv)],[(10,⟨201,1,lm bd (ap v2)⟩)],[1,2,10]⟩
def Z9:AS:=⟨[(1,.pp 1 v2 0),(2,.ptr 2 0),(24,.ref 10),(25,iI 11),(26,iI 5)],[(1,aI q),(2,aI cv)],[(10,⟨201,1,lm bd (ap v2)⟩)],[1,2,10]⟩
def adi:AS:=⟨[(1,.pp 1 v2 0),(2,.ptr 2 0),(24,.ref 10),(25,iI 11),(26,iI 4)],[(1,aI p),(2,aI cv)],[(10,⟨201,1,lm bd (ap v2)⟩)],[1,2,10]⟩
def aiG:AS:=⟨[(1,.pp 1 v2 0),(2,.ptr 2 0),(24,.ref 10),(25,iI 11),(26,iI 3)],[(1,aI v6),(2,aI cv)],[(10,⟨201,1,lm bd (ap v2)⟩)],[1,2,10]⟩
def YO:AS:=⟨[(1,.pp 1 v2 0),(2,.ptr 2 0),(24,.ref 10),(25,iI 11),(26,iI 2)],[(1,aI v5),(2,aI cv)],[(10,⟨201,1,lm bd (ap v2)⟩)],[1,2,10]⟩
def aaZ:AS:=⟨[(1,.pp 1 v2 0),(2,.ptr 2 0),(24,.ref 10),(25,iI 11),(26,iI 1)],[(1,aI v4),(2,aI cv)],[(10,⟨201,1,lm bd (ap v2)⟩)],[1,2,10]⟩
def aeZ:AS:=⟨[(1,.pp 1 v2 0),(2,.ptr 2 0),(24,.ref 10),(25,iI 11),(26,iI 0)],[(1,aI o),(2,aI cv)],[(10,⟨201,1,lm bd (ap v2)⟩)],[1,2,10]⟩
abbrev eV(m:Nat):dn:=kl (E9 M a) (JA M a r) [.b 2,eP 31] (cat Tryz.f108 (pn 244)) m::[.b 2,eP 31]
abbrev wQ(m:Nat):dn:=kl (E9 M a) (JA M a r) [.b 0,eP 15] (cat Tryz.f108 (pn 116)) m::[.b 0,eP 15]
variable{M a r k v2 o v4 v5 v6 p q t b d f g}{K:Kn}{n:Nat}
def QA(b:ao K)(h:xP K n g=some r):kU M a r (.b 3::eP 1959::eV M a r 29) (YC v2 g):=by
 unfold xP at h;refine bC (ks':=eV M a r 29) 2 ⟨[(1,.pp 1 v2 0),(2,.ptr 2 0),(24,.ref 10),(25,iI 11),(26,iI 11)],[(1,aI g),(2,aI cv)],[(10,⟨201,1,lm bd (ap v2)⟩)],[1,2,10]⟩ (bu (bp (aL 11 ?_)));cases h;exact bA
def RA(c:ao K)(h:rN K n f=some r):kU M a r (.b 3::eP 1959::eV M a r 30) (abj v2 f):=by
 unfold rN at h;refine bC (ks':=eV M a r 30) 2 ⟨[(1,.pp 1 v2 0),(2,.ptr 2 0),(24,.ref 10),(25,iI 11),(26,iI 10)],[(1,aI f),(2,aI cv)],[(10,⟨201,1,lm bd (ap v2)⟩)],[1,2,10]⟩ (bu (bp (dI 56 57 3 15 8 (ai 0 (au (cp 10 1 bd (L:=(ap v2)) (i:=(10:Int)) (by kernel_rfl)) (au (bK 201 0 bd bd (L:=(ap v2)) (j:=(10:Int).toNat) (jt (by kernel_rfl)) aT) (ac (ay 2 3 1 (ai 3 (da 32 1 1 v2 28 0 (ac ?_)))))))))));obtain⟨b,h⟩|⟨b,h⟩:=am h
 ·exact ah 34 b (bv 2 1 (ai 3 (da 37 1 1 v2 28 0 (ac (ag 0 (QA c (v2:=v2) h))))))
 ·exact ah 34 b (ag 2 (QA c (v2:=v2) h))
def Ui(c:ao K)(h:sv K n d=some r):kU M a r (.b 3::eP 1959::eV M a r 31) (alk v2 d):=by
 unfold sv at h;refine bC (ks':=eV M a r 31) 2 ⟨[(1,.pp 1 v2 0),(2,.ptr 2 0),(24,.ref 10),(25,iI 11),(26,iI 9)],[(1,aI d),(2,aI cv)],[(10,⟨201,1,lm bd (ap v2)⟩)],[1,2,10]⟩ (bu (bp (dI 56 57 3 15 8 (ai 0 (au (cp 10 1 bd (L:=(ap v2)) (i:=(9:Int)) (by kernel_rfl)) (au (bK 201 0 bd bd (L:=(ap v2)) (j:=(9:Int).toNat) (jt (by kernel_rfl)) aT) (ac (ay 2 3 1 (ai 3 (da 32 1 1 v2 20 0 (ac ?_)))))))))));obtain⟨b,h⟩|⟨b,h⟩:=am h
 ·exact ah 34 b (bv 2 1 (ai 3 (da 37 1 1 v2 20 0 (ac (ag 0 (RA c (v2:=v2) h))))))
 ·exact ah 34 b (ag 2 (RA c (v2:=v2) h))
def L7(d:ao K)(h:sn K n b=some r):kU M a r (.b 3::eP 1959::eV M a r 32) (aiK v2 b):=by
 unfold sn at h;refine bC (ks':=eV M a r 32) 2 ⟨[(1,.pp 1 v2 0),(2,.ptr 2 0),(24,.ref 10),(25,iI 11),(26,iI 8)],[(1,aI b),(2,aI cv)],[(10,⟨201,1,lm bd (ap v2)⟩)],[1,2,10]⟩ (bu (bp (dI 56 57 3 15 8 (ai 0 (au (cp 10 1 bd (L:=(ap v2)) (i:=(8:Int)) (by kernel_rfl)) (au (bK 201 0 bd bd (L:=(ap v2)) (j:=(8:Int).toNat) (jt (by kernel_rfl)) aT) (ac (ay 2 3 1 (ai 3 (da 32 1 1 v2 26 0 (ac ?_)))))))))));obtain⟨c,h⟩|⟨c,h⟩:=am h
 ·exact ah 34 c (bv 2 1 (ai 3 (da 37 1 1 v2 26 0 (ac (ag 0 (Ui d (v2:=v2) h))))))
 ·exact ah 34 c (ag 2 (Ui d (v2:=v2) h))
def Pj(c:ao K)(h:uO K n t=some r):kU M a r (.b 3::eP 1959::eV M a r 33) (aax v2 t):=by
 unfold uO at h;refine bC (ks':=eV M a r 33) 2 ⟨[(1,.pp 1 v2 0),(2,.ptr 2 0),(24,.ref 10),(25,iI 11),(26,iI 7)],[(1,aI t),(2,aI cv)],[(10,⟨201,1,lm bd (ap v2)⟩)],[1,2,10]⟩ (bu (bp (dI 56 57 3 15 8 (ai 0 (au (cp 10 1 bd (L:=(ap v2)) (i:=(7:Int)) (by kernel_rfl)) (au (bK 201 0 bd bd (L:=(ap v2)) (j:=(7:Int).toNat) (jt (by kernel_rfl)) aT) (ac (ay 2 3 1 (ai 3 (da 32 1 1 v2 18 0 (ac ?_)))))))))));obtain⟨b,h⟩|⟨b,h⟩:=am h
 ·exact ah 34 b (bv 2 1 (ai 3 (da 37 1 1 v2 18 0 (ac (ag 0 (L7 c (v2:=v2) h))))))
 ·exact ah 34 b (ag 2 (L7 c (v2:=v2) h))
def Rz(c:ao K)(h:uQ K n q=some r):kU M a r (.b 3::eP 1959::eV M a r 34) (Z9 v2 q):=by
 unfold uQ at h;refine bC (ks':=eV M a r 34) 2 ⟨[(1,.pp 1 v2 0),(2,.ptr 2 0),(24,.ref 10),(25,iI 11),(26,iI 6)],[(1,aI q),(2,aI cv)],[(10,⟨201,1,lm bd (ap v2)⟩)],[1,2,10]⟩ (bu (bp (dI 56 57 3 15 8 (ai 0 (au (cp 10 1 bd (L:=(ap v2)) (i:=(6:Int)) (by kernel_rfl)) (au (bK 201 0 bd bd (L:=(ap v2)) (j:=(6:Int).toNat) (jt (by kernel_rfl)) aT) (ac (ay 2 3 1 (ai 3 (da 32 1 1 v2 24 0 (ac ?_)))))))))));obtain⟨b,h⟩|⟨b,h⟩:=am h
 ·exact ah 34 b (bv 2 1 (ai 3 (da 37 1 1 v2 24 0 (ac (ag 0 (Pj c (v2:=v2) h))))))
 ·exact ah 34 b (ag 2 (Pj c (v2:=v2) h))
def OA(c:ao K)(h:uP K n p=some r):kU M a r (.b 3::eP 1959::eV M a r 35) (adi v2 p):=by
 unfold uP at h;refine bC (ks':=eV M a r 35) 2 ⟨[(1,.pp 1 v2 0),(2,.ptr 2 0),(24,.ref 10),(25,iI 11),(26,iI 5)],[(1,aI p),(2,aI cv)],[(10,⟨201,1,lm bd (ap v2)⟩)],[1,2,10]⟩ (bu (bp (dI 56 57 3 15 8 (ai 0 (au (cp 10 1 bd (L:=(ap v2)) (i:=(5:Int)) (by kernel_rfl)) (au (bK 201 0 bd bd (L:=(ap v2)) (j:=(5:Int).toNat) (jt (by kernel_rfl)) aT) (ac (ay 2 3 1 (ai 3 (da 32 1 1 v2 16 0 (ac ?_)))))))))));obtain⟨b,h⟩|⟨b,h⟩:=am h
 ·exact ah 34 b (bv 2 1 (ai 3 (da 37 1 1 v2 16 0 (ac (ag 0 (Rz c (v2:=v2) h))))))
 ·exact ah 34 b (ag 2 (Rz c (v2:=v2) h))
def We(c:ao K)(h:vg K n v6=some r):kU M a r (.b 3::eP 1959::eV M a r 36) (aiG v2 v6):=by
 unfold vg at h;refine bC (ks':=eV M a r 36) 2 ⟨[(1,.pp 1 v2 0),(2,.ptr 2 0),(24,.ref 10),(25,iI 11),(26,iI 4)],[(1,aI v6),(2,aI cv)],[(10,⟨201,1,lm bd (ap v2)⟩)],[1,2,10]⟩ (bu (bp (dI 56 57 3 15 8 (ai 0 (au (cp 10 1 bd (L:=(ap v2)) (i:=(4:Int)) (by kernel_rfl)) (au (bK 201 0 bd bd (L:=(ap v2)) (j:=(4:Int).toNat) (jt (by kernel_rfl)) aT) (ac (ay 2 3 1 (ai 3 (da 32 1 1 v2 22 0 (ac ?_)))))))))));obtain⟨b,h⟩|⟨b,h⟩:=am h
 ·exact ah 34 b (bv 2 1 (ai 3 (da 37 1 1 v2 22 0 (ac (ag 0 (OA c (v2:=v2) h))))))
 ·exact ah 34 b (ag 2 (OA c (v2:=v2) h))
def Ta(c:ao K)(h:sT K n v5=some r):kU M a r (.b 3::eP 1959::eV M a r 37) (YO v2 v5):=by
 unfold sT at h;refine bC (ks':=eV M a r 37) 2 ⟨[(1,.pp 1 v2 0),(2,.ptr 2 0),(24,.ref 10),(25,iI 11),(26,iI 3)],[(1,aI v5),(2,aI cv)],[(10,⟨201,1,lm bd (ap v2)⟩)],[1,2,10]⟩ (bu (bp (dI 56 57 3 15 8 (ai 0 (au (cp 10 1 bd (L:=(ap v2)) (i:=(3:Int)) (by kernel_rfl)) (au (bK 201 0 bd bd (L:=(ap v2)) (j:=(3:Int).toNat) (jt (by kernel_rfl)) aT) (ac (ay 2 3 1 (ai 3 (da 32 1 1 v2 14 0 (ac ?_)))))))))));obtain⟨b,h⟩|⟨b,h⟩:=am h
 ·exact ah 34 b (bv 2 1 (ai 3 (da 37 1 1 v2 14 0 (ac (ag 0 (We c (v2:=v2) h))))))
 ·exact ah 34 b (ag 2 (We c (v2:=v2) h))
def Q3(c:ao K)(h:tN K n v4=some r):kU M a r (.b 3::eP 1959::eV M a r 38) (aaZ v2 v4):=by
 unfold tN at h;refine bC (ks':=eV M a r 38) 2 ⟨[(1,.pp 1 v2 0),(2,.ptr 2 0),(24,.ref 10),(25,iI 11),(26,iI 2)],[(1,aI v4),(2,aI cv)],[(10,⟨201,1,lm bd (ap v2)⟩)],[1,2,10]⟩ (bu (bp (dI 56 57 3 15 8 (ai 0 (au (cp 10 1 bd (L:=(ap v2)) (i:=(2:Int)) (by kernel_rfl)) (au (bK 201 0 bd bd (L:=(ap v2)) (j:=(2:Int).toNat) (jt (by kernel_rfl)) aT) (ac (ay 2 3 1 (ai 3 (da 32 1 1 v2 12 0 (ac ?_)))))))))));obtain⟨b,h⟩|⟨b,h⟩:=am h
 ·exact ah 34 b (bv 2 1 (ai 3 (da 37 1 1 v2 12 0 (ac (ag 0 (Ta c (v2:=v2) h))))))
 ·exact ah 34 b (ag 2 (Ta c (v2:=v2) h))
def Ud(c:ao K)(h:ss K n o=some r):kU M a r (.b 3::eP 1959::eV M a r 39) (aeZ v2 o):=by
 unfold ss at h;refine bC (ks':=eV M a r 39) 2 ⟨[(1,.pp 1 v2 0),(2,.ptr 2 0),(24,.ref 10),(25,iI 11),(26,iI 1)],[(1,aI o),(2,aI cv)],[(10,⟨201,1,lm bd (ap v2)⟩)],[1,2,10]⟩ (bu (bp (dI 56 57 3 15 8 (ai 0 (au (cp 10 1 bd (L:=(ap v2)) (i:=(1:Int)) (by kernel_rfl)) (au (bK 201 0 bd bd (L:=(ap v2)) (j:=(1:Int).toNat) (jt (by kernel_rfl)) aT) (ac (ay 2 3 1 (ai 3 (da 32 1 1 v2 10 0 (ac ?_)))))))))));obtain⟨b,h⟩|⟨b,h⟩:=am h
 ·exact ah 34 b (bv 2 1 (ai 3 (da 37 1 1 v2 10 0 (ac (ag 0 (Q3 c (v2:=v2) h))))))
 ·exact ah 34 b (ag 2 (Q3 c (v2:=v2) h))
def M7(d:ao K)(h:rL K n k=some r):ba bb 108 [.agg (aI k)] (fun v _=>v=.agg (aI r)):=by
 refine bI (cat Tryz.f108 (pn 1)) Tryz.func108 Tryz.ntmps108 fun M a=>(bn ⟨[(0,.agg (aI k))],[],[],[]⟩ ?_);unfold rL at h;refine ay 6 7 3 (Rb 1 1 0 fun v2=>(ai 3 (WB 202 3 #[(0,(.tmp 7)),(1,(.tmp 8)),(2,(.tmp 9))] 10 (e:=201) (sz:=1) (l:=lm bd [(v2,6),(v2,10),(v2,12)]) (ac (bC (ks':=[eP 58,.b 0,eP 15]) 4 ⟨[(1,.pp 1 v2 0),(2,.ptr 2 0),(3,.ref 10),(11,iI 0)],[(1,aI k),(2,aI cv)],[(10,⟨201,1,lm bd [(v2,6),(v2,10),(v2,12)]⟩)],[1,2,10]⟩ (ox 40 (c:=cat Tryz.f108 [1,1,0,1,0,0]) (by kernel_rfl) (bp (cd (ks':=eP 3737 :: .b 1::eP 935::wQ M a r 39) 9 (bJ [1,2,3,4,11] [1,2] [10] (bQ 2 (nu 14 [.ref 10,iI 0,.adr v2 14,.adr v2 14,iI 0,.adr v2 22,.adr v2 22,.sl (lm bd [(v2,14),(v2,22)])]) [] [] [f9 22 10 ⟨201,1,lm bd [(v2,6),(v2,10),(v2,12),(v2,14),(v2,22)]⟩,ci bb 40 Tryz.f108 (pn 3737) 9] (av [.v 0 1,.v 0 2,.v 0 2,.v 0 2,.v 0 2,.v 0 2,.v 0 2,.v 0 1] (aj (dm (m:=0) (cA 22 10 201 1 bd (L:=([(v2,6),(v2,10),(v2,12)]:hF)) (M:=([(v2,14),(v2,22)]:hF)) (bytes:=8) (rfl) aT (by kernel_rfl))) (aj (cg 1) bS))) (bC (ks':=wQ M a r 39) 2 ⟨[(1,.pp 1 v2 0),(2,.ptr 2 0),(3,.ref 10),(11,iI 1)],[(1,aI k),(2,aI cv)],[(10,⟨201,1,lm bd [(v2,6),(v2,10),(v2,12),(v2,14),(v2,22)]⟩)],[1,2,10]⟩ (bu (bp (ir 57 1 15 9 (bJ [1,2,3,4,11] [1,2] [10] (bQ 2 (nu 14 [.ref 10,iI 1,.adr v2 14,.adr v2 16,iI 1,.adr v2 22,.adr v2 24,.sl (lm bd [(v2,16),(v2,24)])]) [] [] [f9 22 10 ⟨201,1,lm bd [(v2,6),(v2,10),(v2,12),(v2,14),(v2,22),(v2,16),(v2,24)]⟩,ci bb 40 Tryz.f108 (pn 3737) 9] (av [.v 0 1,.v 0 2,.v 0 2,.v 0 2,.v 0 2,.v 0 2,.v 0 2,.v 0 1] (aj (dm (m:=0) (cA 22 10 201 1 bd (L:=([(v2,6),(v2,10),(v2,12),(v2,14),(v2,22)]:hF)) (M:=([(v2,16),(v2,24)]:hF)) (bytes:=8) (rfl) aT (by kernel_rfl))) (aj (cg 1) bS))) (bC (ks':=wQ M a r 38) 2 ⟨[(1,.pp 1 v2 0),(2,.ptr 2 0),(3,.ref 10),(11,iI 2)],[(1,aI k),(2,aI cv)],[(10,⟨201,1,lm bd [(v2,6),(v2,10),(v2,12),(v2,14),(v2,22),(v2,16),(v2,24)]⟩)],[1,2,10]⟩ (bu (bp (ir 57 1 15 9 (bJ [1,2,3,4,11] [1,2] [10] (bQ 2 (nu 14 [.ref 10,iI 2,.adr v2 14,.adr v2 18,iI 2,.adr v2 22,.adr v2 26,.sl (lm bd [(v2,18),(v2,26)])]) [] [] [f9 22 10 ⟨201,1,lm bd [(v2,6),(v2,10),(v2,12),(v2,14),(v2,22),(v2,16),(v2,24),(v2,18),(v2,26)]⟩,ci bb 40 Tryz.f108 (pn 3737) 9] (av [.v 0 1,.v 0 2,.v 0 2,.v 0 2,.v 0 2,.v 0 2,.v 0 2,.v 0 1] (aj (dm (m:=0) (cA 22 10 201 1 bd (L:=([(v2,6),(v2,10),(v2,12),(v2,14),(v2,22),(v2,16),(v2,24)]:hF)) (M:=([(v2,18),(v2,26)]:hF)) (bytes:=8) (rfl) aT (by kernel_rfl))) (aj (cg 1) bS))) (bC (ks':=wQ M a r 37) 2 ⟨[(1,.pp 1 v2 0),(2,.ptr 2 0),(3,.ref 10),(11,iI 3)],[(1,aI k),(2,aI cv)],[(10,⟨201,1,lm bd [(v2,6),(v2,10),(v2,12),(v2,14),(v2,22),(v2,16),(v2,24),(v2,18),(v2,26)]⟩)],[1,2,10]⟩ ?_)))))))))))))))))))))))
 refine bu (bp (ir 57 1 15 9 (bJ [1,2,3,4,11] [1,2] [10] (bQ 2 (nu 14 [.ref 10,iI 3,.adr v2 14,.adr v2 20,iI 3,.adr v2 22,.adr v2 28,.sl (lm bd [(v2,20),(v2,28)])]) [] [] [f9 22 10 ⟨201,1,lm bd (ap v2)⟩,ci bb 40 Tryz.f108 (pn 3737) 9] (av [.v 0 1,.v 0 2,.v 0 2,.v 0 2,.v 0 2,.v 0 2,.v 0 2,.v 0 1] (aj (dm (m:=0) (cA 22 10 201 1 bd (L:=([(v2,6),(v2,10),(v2,12),(v2,14),(v2,22),(v2,16),(v2,24),(v2,18),(v2,26)]:hF)) (M:=([(v2,20),(v2,28)]:hF)) (bytes:=8) (rfl) aT (by kernel_rfl))) (aj (cg 1) bS))) (bC (ks':=wQ M a r 36) 2 ⟨[(1,.pp 1 v2 0),(2,.ptr 2 0),(3,.ref 10),(11,iI 4)],[(1,aI k),(2,aI cv)],[(10,⟨201,1,lm bd (ap v2)⟩)],[1,2,10]⟩ (bu (bp (T7 4 5 3 10 (ai 1 (au (bz bd (ap v2)) (ac (bC (ks':=[eP 122,.b 2,eP 31]) 1 ⟨[(1,.pp 1 v2 0),(2,.ptr 2 0),(24,.ref 10),(25,iI 11),(26,iI 0)],[(1,aI k),(2,aI cv)],[(10,⟨201,1,lm bd (ap v2)⟩)],[1,2,10]⟩ (ox 40 (c:=cat Tryz.f108 [1,1,1,0,1,0,0]) (by kernel_rfl) (bp (cd (ks':=eP 7832::eP 7833 :: .b 3::eP 1959::eV M a r 39) 8 (ai 0 (au (cp 10 1 bd (L:=(ap v2)) (i:=(0:Int)) (by kernel_rfl)) (au (bK 201 0 bd bd (L:=(ap v2)) (j:=(0:Int).toNat) (jt (by kernel_rfl)) aT) (ac (ay 2 3 1 (ai 3 (da 32 1 1 v2 6 0 (ac ?_)))))))))))))))))))))))
 obtain⟨b,h⟩|⟨b,h⟩:=am h
 ·exact ah 34 b (bv 2 1 (ai 3 (da 37 1 1 v2 6 0 (ac (ag 0 (Ud d (v2:=v2) h))))))
 ·exact ah 34 b (ag 2 (Ud d (v2:=v2) h))
end
section
variable[GS](M:Nat→Prop)(d:aC)(r:Int×Int)(g:ab)(v2:bB)(v6:dO×Bool)(a b c:Int)(e:Nat)(f:Int→Int→Int→Option eg)
abbrev E8:Cx:=⟨bb,71,M,d⟩
abbrev La:=bodyPost bb Tryz.f107 (bR M d (fun v _=>v=.tup [iI r.1,iI r.2]))
abbrev aib(a:dn)(s:AS):=VE (E8 M d) (La M d r) a .normal s
abbrev RZ(n:Nat):aq:=.c (cat Tryz.f107 (pn n))
abbrev Jx:dn:=[.b 0,RZ 63]
abbrev ajd:dn:=kl (E8 M d) (La M d r) Jx (cat Tryz.f107 (pn 500)) e::Jx
def UT:AS:=⟨[(3,.ptr 3 0),(4,iI a),(5,iI b),(47,.sl (lm aM v6.1)),(48,iI (v6.1.length:Int)),(49,iI c)],[(3,bP v2)],[],[3]⟩
abbrev NP:Prop:=∀{a:Int} {b:Int} {c:Int},f a b c=some r→LP (E8 M d) (La M d r) Jx (cat Tryz.f107 (pn 500)) e (UT v2 v6 a b c)
variable{M d r g v2 v6 a b c e f}{K:Kn}{n:Nat}
def YM(m:ao K)(o:NP M d r v2 v6 e f)(h:Et K n v2 v6 f a b c=some r):aib M d r (RZ 500::ajd M d r e) (UT v2 v6 a b c):=by
 unfold Et at h;refine ay 6 7 3 ?_;obtain⟨g,h⟩|⟨g,h⟩:=am h
 ·refine ah 50 g (cQ 8 9 1 3 5 (ai 0 ?_));obtain⟨i,h⟩:=aD h;refine au (bD aM az i (fE) (dV)) (ac (ay 2 3 1 (ai 3 ?_)));obtain⟨p,j,h⟩:=aw h;exact lS (m.gI j) (ac (ag 3 (bu (o h))))
 ·refine ah 50 g (gB 2 3 6 (ai 1 ?_));obtain⟨q,k,h⟩:=aw h;refine aS (j0 m k) (aP 3 1 ?_);obtain⟨s,l,h⟩:=aw h;refine aS (j0 m l) (ac (aL 1 ?_));cases h;exact jj
def akI(a:ao K)(m:Nat):NP M d r v2 v6 m (zA K n v2 v6 m):=by
 induction m with
 | zero=>exact fun h=>nomatch h
 | succ m b=>exact fun h=>bp (YM a b h)
def Om(a:ao K)(h:lL K n g v2=some r):ba bb 107 [.agg (az g),.agg (bP v2)] (fun v _=>v=.tup [iI r.1,iI r.2]):=by
 refine bI (cat Tryz.f107 (pn 1)) Tryz.func107 Tryz.ntmps107 fun M d=>(bn ⟨[(0,.agg (az g)),(1,.agg (bP v2))],[],[],[]⟩ ?_);unfold lL at h;refine bX 12 13 7 4 (ai 2 ?_);obtain⟨o,e,h⟩:=aw h;refine aS (M7 a e) (aP 4 1 ?_);obtain⟨v4,f,h⟩:=aw h;refine aS (eD a f) (ac (bv 3 2 ?_));obtain⟨b,h⟩|⟨b,h⟩:=am h
 ·refine ah 22 b (ay 4 5 2 (ai 1 ?_));obtain⟨v5,i,h⟩:=aw h;refine aS (j0 a i) (ac (aL 4 ?_));cases h;exact jj
 ·refine ah 22 b (fO 2 3 3 (ai 1 ?_));obtain⟨v6,j,h⟩:=aw h;refine aS (SX a j) (ac (ay 5 3 3 ?_));obtain⟨c,h⟩|⟨c,h⟩:=am h
  ·refine ah 33 c (ay 4 5 2 (ai 5 ?_));obtain⟨q,k,h⟩:=aw h;refine lS (a.xZ k) (ac (ay 2 3 1 (ai 1 ?_)));obtain⟨s,l,h⟩:=aw h;refine aS (j0 a l) (aP 3 1 ?_);obtain⟨t,m,h⟩:=aw h;refine aS (j0 a m) (ac (aL 2 ?_));cases h;exact jj
  ·exact ah 33 c (oL 4 5 3 4 (ai 1 (au (bz aM v6.1) (ac (ag 1 (cc (p:=pn 250) n (akI a n h)))))))
end
section
variable[GS](M:Nat→Prop)(b:aC)(r:Int×Int)(a:ab)(v2:bB)  
variable{M b r a v2}{K:Kn}{n:Nat}
def abm(c:ao K)(h:AQ K n a v2=some r):ba bb 51 [.agg (az a),.agg (bP v2)] (fun v _=>v=.tup [iI r.1,iI r.2]):=by
 refine bI (cat Tryz.f51 (pn 1)) Tryz.func51 Tryz.ntmps51 fun M b=>(bn ⟨[(0,.agg (az a)),(1,.agg (bP v2))],[],[],[]⟩ ?_);unfold AQ at h;refine ay 6 7 3 (ai 2 ?_);obtain⟨e,f,h⟩:=aw h;refine aS (Om c f) (ac (ay 2 3 1 (ai 2 ?_)));obtain⟨v4,g,h⟩:=aw h;refine aS (M7 c g) (ac (ay 2 3 1 (bJ [4,5,6] [6] [] ?_)));obtain⟨v5,i,h⟩:=aw h;obtain⟨v6,j,h⟩:=aw h;obtain⟨p,k,h⟩:=aw h;obtain⟨q,l,h⟩:=aw h;obtain⟨s,m,h⟩:=aw h;obtain⟨d,o,h⟩:=aw h;refine bQ 2 (nu 16 [.agg (aI v4),.agg (aI v4),iI e.1,iI v5,.agg (cu v6),iI p,.agg (aI v4),.agg (aI v4),iI e.2,iI q,.agg (cu s),iI d]) [] [] [ci bb 28 Tryz.f51 (pn 30) 12,ci bb 28 Tryz.f51 (pn 30) 13] (av (vz 3) (aj (cj 0 1 19 (za c i)) (aj (cj 0 1 20 (mZ c j)) (aj (cj 0 1 21 (oC c k)) (av [.v 0 2,.v 0 2,.v 0 2] (aj (cj 0 2 25 (za c l)) (aj (cj 0 2 26 (mZ c m)) (aj (cj 0 1 27 (oC c o)) (aj (cg 0) (aj (cg 1) bS)))))))))) (aL 1 ?_)
 cases h;exact jj
end
section
variable[GS](M:Nat→Prop)(b:aC)(r:Int×Int)(a:ab)(v2:bB)  
abbrev Ws(n:Nat):aq:=.c (cat Tryz.f48 (pn n))
variable{M b r a v2}{K:Kn}{n:Nat}
def Yv(e:ao K)(h:ql K n a v2=some r):ba bb 48 [.agg (az a),.cptr (bP v2)] (fun v _=>v=.tup [iI r.1,iI r.2]):=by
 refine bI (cat Tryz.f48 (pn 1)) Tryz.func48 Tryz.ntmps48 fun M b=>(bn ⟨[(0,.agg (az a)),(1,.cptr (bP v2))],[],[],[]⟩ ?_);unfold ql at h;refine ir 53 0 7 8 ?_;obtain⟨c,h⟩|⟨c,h⟩:=am h
 ·refine ah 7 c (ay 4 5 2 (ai 2 ?_));obtain⟨i,f,h⟩:=aw h;refine aS (ab5 e f) (ac (aL 3 ?_));cases h;exact jj
 ·refine ah 7 c (bv 7 3 ?_);obtain⟨d,h⟩|⟨d,h⟩:=am h
  ·refine ah 14 d ?_;cases h
  ·refine ah 14 d (cd (ks':=[Ws 14,Ws 15]) 4 (ai 2 ?_));obtain⟨v4,g,h⟩:=aw h;refine aS (abm e g) (ac (aL 1 ?_));cases h;exact jj
end
section
variable[GS](M:Nat→Prop)(b:aC)(r:d6)(a:aO)(v2:d6)(d v4 v5 v6:Bool)(e:aO)  
abbrev jG(n:Nat):aq:=.c (cat Tryz.f176 (pn n))
abbrev aaz:Cx:=⟨bb,72,M,b⟩
abbrev YT:=bodyPost bb Tryz.f176 (bR M b (fun v s=>v=.ref 9∧cw s.o []∧look 9 s.r=some (b6 r)))
abbrev zZ(a:dn)(s:AS):=VE (aaz M b) (YT M b r) a .normal s
def aj1:AS:=⟨[(0,.ref 9),(3,.ptr 3 0)],[(3,ax e)],[(9,(b6 v2))],[3,9]⟩
def ahU:AS:=⟨[(0,.ref 9),(3,.ptr 3 0),(64,.bool v6)],[(3,ax a)],[(9,(b6 v2))],[3,9]⟩
def abR:AS:=⟨[(0,.ref 9),(3,.ptr 3 0),(5,.bool (a.Box.Style.WhiteSpace == 2)),(32,.bool v5)],[(3,ax a)],[(9,(b6 v2))],[3,9]⟩
def agf:AS:=⟨[(0,.ref 9),(3,.ptr 3 0),(5,.bool (a.Box.Style.WhiteSpace == 2)),(24,.bool v4)],[(3,ax a)],[(9,(b6 v2))],[3,9]⟩
def aeh:AS:=⟨[(0,.ref 9),(3,.ptr 3 0),(5,.bool (a.Box.Style.WhiteSpace == 2)),(19,.bool d)],[(3,ax a)],[(9,(b6 v2))],[3,9]⟩
variable{M b r a v2 d v4 v5 v6 e}{K:Kn}{n:Nat}
def Ht(c:ao K)(h:rC K n v2 e=some r):zZ M b r [.b 1,jG 31] (aj1 v2 e):=by
 unfold rC at h;refine fO 6 7 4 (ai 3 ?_);obtain⟨a,h⟩:=aD h;refine au (cA 71 9 210 5 ax (rfl) (cY) a) (ac (aL 1 ?_));cases h;exact fj
def LC(d:ao K)(h:nh K n a v2 v6=some r):zZ M b r [jG 15609,jG 7805,.b 1,jG 31] (ahU a v2 v6):=by
 unfold nh at h;obtain⟨c,h⟩|⟨c,h⟩:=am h
 ·refine ah 64 c (aL 7 ?_);cases h;exact fj
 ·exact ah 64 c (ag 3 (Ht d h))
def UP(i:ao K)(h:tX K n a v2 v5=some r):zZ M b r [jG 487,.b 1,jG 31] (abR a v2 v5):=by
 unfold tX at h;obtain⟨j,h⟩|⟨j,h⟩:=am h
 ·refine ah 32 j (aL 6 ?_);cases h;exact fj
 ·refine ah 32 j (bv 7 3 ?_);obtain⟨c,h⟩|⟨c,h⟩:=am h
  ·refine ah 40 c (bX 8 9 5 3 (ai 1 (au (bz ax v2) (aP 4 2 ?_))));obtain⟨d,h⟩|⟨d,h⟩:=am h
   ·exact aG 46 d (ac (ag 0 (LC i h)))
   ·refine aG 46 d (aP 6 2 (au (bz ax v2) (aP 8 1 ?_)));obtain⟨f,h⟩:=aD h;refine au (cp 9 5 ax f) (aP 10 1 (au (bK 4 3 ax ax (bE f).2 aT) (aP 13 2 ?_)));obtain⟨e,h⟩|⟨e,h⟩:=am h
    ·exact aG 55 e (ac (ag 0 (LC i h)))
    ·refine aG 55 e (aP 15 2 (au (bz ax v2) (aP 17 1 ?_)));obtain⟨g,h⟩:=aD h;exact au (cp 9 5 ax g) (aP 19 1 (au (bK 3 0 ax ax (bE g).2 aT) (ac (ag 0 (LC i h)))))
  ·exact ah 40 c (ag 2 (Ht i h))
def P5(e:ao K)(h:vH K n a v2 v4=some r):zZ M b r [jG 121,.b 1,jG 31] (agf a v2 v4):=by
 unfold vH at h;obtain⟨c,h⟩|⟨c,h⟩:=am h
 ·exact ah 24 c (ag 2 (Ht e h))
 ·refine ah 24 c (ay 6 7 2 (ai 2 ?_));obtain⟨d,h⟩|⟨d,h⟩:=am h
  ·exact aG 34 d (ac (ag 0 (UP e h)))
  ·exact aG 34 d (ac (ag 0 (UP e h)))
def BI(f:ao K)(h:l7 K n a v2 d=some r):zZ M b r [jG 117,.b 0,jG 15] (aeh a v2 d):=by
 unfold l7 at h;obtain⟨c,h⟩|⟨c,h⟩:=am h
 ·refine ah 19 c (cd (ks':=[jG 120,jG 121,.b 1,jG 31]) 6 (ai 2 ?_));obtain⟨e,h⟩|⟨e,h⟩:=am h
  ·exact aG 26 e (ac (ag 0 (P5 f h)))
  ·exact aG 26 e (ac (ag 0 (P5 f h)))
 ·refine ah 19 c (ay 6 7 2 (ai 3 ?_));obtain⟨g,h⟩:=aD h;refine au (cA 18 9 210 5 ax (rfl) (cY) g) (ac (aL 3 ?_));cases h;exact fj
def X7(d:ao K)(h:zE K n a v2=some r):jM bb 176 [.ref 9,.agg (ax a)] [] 9 (b6 v2) [9] (fun v s=>v=.ref 9∧cw s.o []∧look 9 s.r=some (b6 r)):=by
 refine mM (c:=cat Tryz.f176 (pn 1)) Tryz.func176 (by kernel_rfl) _ Tryz.ntmps176 (jt (by kernel_rfl)) fun M b=>(bn ⟨[(0,.ref 9),(1,.agg (ax a))],[],[(9,(b6 v2))],[9]⟩ ?_);unfold zE at h;refine dI 233 117 0 15 11 ?_;obtain⟨e,h⟩|⟨e,h⟩:=am h
 ·exact ah 19 e (ag 2 (BI d h))
 ·refine ah 19 e (bv 7 3 ?_);obtain⟨f,h⟩|⟨f,h⟩:=am h
  ·exact ah 19 f (ag 2 (BI d h))
  ·refine ah 19 f (bv 7 3 ?_);obtain⟨g,h⟩|⟨g,h⟩:=am h
   ·exact ah 19 g (ag 2 (BI d h))
   ·exact ah 19 g (ag 2 (BI d h))
end
end
end Go.Proofs.YtocgkfoifehcbaaGreat

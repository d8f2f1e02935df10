/- The runs of the functions that RelayoutPlaces reaches do what their plain forms say, part 2. Made by a program. -/
import Derived.Test.YtocgkfoifehcbaaGreatRpP1
namespace Go.Proofs.YtocgkfoifehcbaaGreat
noncomputable section
open Go.RowKit
set_option maxRecDepth 20000
set_option linter.all false
section
variable[GS](M:Nat→Prop)(e:az)(r:Int×dw)(d:dn)(A:Int)(B:dw)(C:Nat)(a f:Int)(k:dw)(i o:Nat)(l:dw)(t:Int)(u:dw)(w:Int)(x:dw)(j y:Nat)(q:Int→Int→dw→Option (Int×dw))(z:Nat→dw→Option (Int×dw))
abbrev wY:Cx:=⟨aT,69,M,e⟩
abbrev A7:=bodyPost aT Tryz.f175 (bP M e (fun v s=>v=bb∧cB s.o [(1,[iI r.1]),(2,[.fno 175 [.ptr 1 0,.ptr 2 0,.ptr 3 0]]),(3,[.ref 9])]∧look 9 s.r=some (bx r.2)))
abbrev D3(a:ck)(s:AS):=VE (wY M e) (A7 M e r) a .normal s
abbrev jH(n:Nat):aq:=.c (cat Tryz.f175 (pn n))
abbrev GU:ck:=[.b 0]
abbrev oX:ck:=kl (wY M e) (A7 M e r) GU (cat Tryz.f175 (pn 12)) j::GU
abbrev Gv:ck:=.b 3 :: .b 2 :: .b 1::jH 103::oX M e r j
abbrev MJ:ck:=kl (wY M e) (A7 M e r) (Gv M e r j) (cat Tryz.f175 (pn 26867700)) y::(Gv M e r j)
def Xi:AS:=⟨[(0,.sl (lm aP d)),(1,.ptr 1 0),(2,.ptr 2 0),(3,.ptr 3 0),(10,iI (d.length:Int)),(11,iI a)],[(1,[iI w]),(2,[.fno 175 [.ptr 1 0,.ptr 2 0,.ptr 3 0]]),(3,[.ref 9])],[(9,(bx x))],[1,2,3,9,1000001,1,1000002,2,1000003,3]⟩
def ahg:AS:=⟨[(0,.sl (lm aP d)),(1,.ptr 1 0),(2,.ptr 2 0),(3,.ptr 3 0),(10,iI (d.length:Int)),(11,iI a)],[(1,[iI t]),(2,[.fno 175 [.ptr 1 0,.ptr 2 0,.ptr 3 0]]),(3,[.ref 9])],[(9,(bx u))],[1,2,3,9,1000001,1,1000002,2,1000003,3]⟩
def Mv:AS:=⟨[(0,.sl (lm aP d)),(1,.ptr 1 0),(2,.ptr 2 0),(3,.ptr 3 0),(6,.cptr (aD (gD d a))),(10,iI (d.length:Int)),(11,iI a),(58,.sit 320058 i ((gD d a).Text) o)],[(1,[iI (aa (f+1))]),(2,[.fno 175 [.ptr 1 0,.ptr 2 0,.ptr 3 0]]),(3,[.ref 9])],[(9,(bx l))],[1,2,3,9,320058,1000001,1,1000002,2,1000003,3]⟩
def R2:AS:=⟨[(0,.sl (lm aP d)),(1,.ptr 1 0),(2,.ptr 2 0),(3,.ptr 3 0),(10,iI (d.length:Int)),(11,iI a)],[(1,[iI f]),(2,[.fno 175 [.ptr 1 0,.ptr 2 0,.ptr 3 0]]),(3,[.ref 9])],[(9,(bx k))],[1,2,3,9,1000001,1,1000002,2,1000003,3]⟩
abbrev vd:Prop:=∀{a:Int} {f:Int} {k:dw},q a f k=some r→LP (wY M e) (A7 M e r) GU (cat Tryz.f175 (pn 12)) j (R2 d a f k)
abbrev QX:Prop:=∀{o:Nat} {l:dw},z o l=some r→LP (wY M e) (A7 M e r) (Gv M e r j) (cat Tryz.f175 (pn 26867700)) y (Mv d a f i o l)
variable{M e r d A B C a f k i o l t u w x j y q z}{K:Kn}{n:Nat}
def Wg(c:am K)(b:vd M e r d j q)(h:nN K n d a q w x=some r):D3 M e r (jH 103::oX M e r j) (Xi d a w x):=by
 unfold nN at h;exact ah 1 (bu (b h))
def wU(c:am K)(b:vd M e r d j q)(h:k9 K n d a q t u=some r):D3 M e r (.b 2 :: .b 1::jH 103::oX M e r j) (ahg d a t u):=by
 unfold k9 at h;exact ah 2 (Wg c b h)
def afY(w:am K)(c:e.w.heap.size≤i)(s:vd M e r d j q)(t:QX M e r d a f i j y z)(h:yu K n d a f q z o l=some r):D3 M e r (jH 26867700::MJ M e r j y) (Mv d a f i o l):=by
 unfold yu at h;refine av 2 3 1 (aj 0 ?_);obtain⟨b,h⟩|⟨b,h⟩:=ao h
 ·refine Hv 58 (id:=320058) (g:=i) b c (ae ?_);obtain⟨u,k,h⟩:=cc h;obtain⟨v,m,h⟩:=cc h;refine bC (ks':=jH 429883213 :: .b 4::MJ M e r j y) 6 ⟨[(0,.sl (lm aP d)),(1,.ptr 1 0),(2,.ptr 2 0),(3,.ptr 3 0),(6,.cptr (aD (gD d a))),(8,.int .i32 u),(10,iI (d.length:Int)),(11,iI a),(58,.sit 320058 i ((gD d a).Text) v)],[(1,[iI (aa (f+1))]),(2,[.fno 175 [.ptr 1 0,.ptr 2 0,.ptr 3 0]]),(3,[.ref 9])],[(9,(bx l))],[1,2,3,9,320058,1000001,1,1000002,2,1000003,3]⟩ ?_ (by subst m;subst k;kernel_rfl);refine aj 5 ?_;obtain⟨x,p,h⟩:=aw h;exact kI 9 9 [] (aez w p) (ae (ah 1 (bu (t h))))
 ·exact Ga 58 (id:=320058) (g:=i) b (ae (ah 6 (wU w s h)))
def aeU(g:am K)(b:e.w.heap.size≤i)(c:vd M e r d j q)(m:Nat):QX M e r d a f i j m (wv K n d a f q m):=by
 induction m with
 | zero=>exact fun h=>nomatch h
 | succ m k=>exact fun h=>bq (afY g b c k h)
def ahy(g:am K)(c:vd M e r d j q)(h:xW K n d q a f k=some r):D3 M e r (jH 12::oX M e r j) (R2 d a f k):=by
 unfold xW at h;refine av 6 7 3 ?_;obtain⟨l,h⟩|⟨l,h⟩:=ao h
 ·refine ai 12 l (cX 18 19 1 3 7 (aj 2 ?_));obtain⟨w,h⟩:=aB h;refine au (bX aP aD w (gB) (eE)) (ae (cj 4 5 3 2 (aj 3 ?_)));obtain⟨J,x,h⟩:=aw h;refine aR (Gq g x) (ae ?_);obtain⟨m,h⟩|⟨m,h⟩:=ao h
  ·exact ai 21 m (ah 4 (Wg g c h))
  ·refine ai 21 m ?_;obtain⟨F,y,h⟩:=cc h;refine bC (ks':=jH 26237 :: .b 2 :: .b 1::jH 103::oX M e r j) 9 ⟨[(0,.sl (lm aP d)),(1,.ptr 1 0),(2,.ptr 2 0),(3,.ptr 3 0),(6,.cptr (aD (gD d a))),(10,iI (d.length:Int)),(11,iI a),(27,iI ((gD d a).Kind)),(28,.bool F)],[(1,[iI (aa (f+1))]),(2,[.fno 175 [.ptr 1 0,.ptr 2 0,.ptr 3 0]]),(3,[.ref 9])],[(9,(bx k))],[1,2,3,9,1000001,1,1000002,2,1000003,3]⟩ ?_ (by subst y;kernel_rfl);obtain⟨o,h⟩|⟨o,h⟩:=ao h
   ·refine ai 28 o (br 2 1 (bV [0,1,2,3,6,10,11] [1,2,3] [9] (akU 5 0 [(30,.fno 175 [.ptr 1 0,.ptr 2 0,.ptr 3 0]),(31,.cptr (aD (gD d a))),(32,.cptr (aD (gD d a))),(33,.cptr (List.drop 58 (aD (gD d a)))),(34,.sl (lm aP ((gD d a).Kids)))] [] [] [] (aE (vz 5) (Ar)) ?_)));obtain⟨L,z,h⟩:=aw h;exact kI 9 9 [(1,1),(2,2),(3,3)] (g.BB z) (ae (ah 0 (wU g c h)))
   ·refine ai 28 o ?_;obtain⟨G,A,h⟩:=cc h;refine bC (ks':=jH 104951 :: .b 2 :: .b 1::jH 103::oX M e r j) 3 ⟨[(0,.sl (lm aP d)),(1,.ptr 1 0),(2,.ptr 2 0),(3,.ptr 3 0),(6,.cptr (aD (gD d a))),(10,iI (d.length:Int)),(11,iI a),(27,iI ((gD d a).Kind)),(36,.bool G)],[(1,[iI (aa (f+1))]),(2,[.fno 175 [.ptr 1 0,.ptr 2 0,.ptr 3 0]]),(3,[.ref 9])],[(9,(bx k))],[1,2,3,9,1000001,1,1000002,2,1000003,3]⟩ ?_ (by subst A;kernel_rfl);obtain⟨s,h⟩|⟨s,h⟩:=ao h
    ·refine ai 36 s (br 2 1 (aj 5 ?_));obtain⟨B,h⟩:=aB h;exact au (cG 43 9 210 5 aX (rfl) (ft) B) (ae (ah 0 (wU g c h)))
    ·refine ai 36 s ?_;obtain⟨H,C,h⟩:=cc h;refine bC (ks':=jH 419807 :: .b 2 :: .b 1::jH 103::oX M e r j) 3 ⟨[(0,.sl (lm aP d)),(1,.ptr 1 0),(2,.ptr 2 0),(3,.ptr 3 0),(6,.cptr (aD (gD d a))),(10,iI (d.length:Int)),(11,iI a),(27,iI ((gD d a).Kind)),(44,.bool H)],[(1,[iI (aa (f+1))]),(2,[.fno 175 [.ptr 1 0,.ptr 2 0,.ptr 3 0]]),(3,[.ref 9])],[(9,(bx k))],[1,2,3,9,1000001,1,1000002,2,1000003,3]⟩ ?_ (by subst C;kernel_rfl);obtain⟨t,h⟩|⟨t,h⟩:=ao h
     ·refine ai 44 t (br 2 1 (aj 5 ?_));obtain⟨D,h⟩:=aB h;exact au (cG 51 9 210 5 aX (rfl) (ft) D) (ae (ah 0 (wU g c h)))
     ·refine ai 44 t ?_;obtain⟨I,E,h⟩:=cc h;refine bC (ks':=jH 1679231 :: .b 2 :: .b 1::jH 103::oX M e r j) 3 ⟨[(0,.sl (lm aP d)),(1,.ptr 1 0),(2,.ptr 2 0),(3,.ptr 3 0),(6,.cptr (aD (gD d a))),(10,iI (d.length:Int)),(11,iI a),(52,.bool I)],[(1,[iI (aa (f+1))]),(2,[.fno 175 [.ptr 1 0,.ptr 2 0,.ptr 3 0]]),(3,[.ref 9])],[(9,(bx k))],[1,2,3,9,1000001,1,1000002,2,1000003,3]⟩ ?_ (by subst E;kernel_rfl);obtain⟨u,h⟩|⟨u,h⟩:=ao h
      ·exact ai 52 u (av 4 5 2 (aj 4 (Gs 320058 (b:=((gD d a).Text)) fun i v=>(ae (ah 1 (cf (p:=pn 13433850) n (aeU g (i:=i) v c n h)))))))
      ·exact ai 52 u (ah 2 (wU g c h))
 ·refine ai 12 l (bW (ks':=[]) 5 (pF ?_));cases h;exact n6
def XG(a:am K)(m:Nat):vd M e r d m (uX K n d m):=by
 induction m with
 | zero=>exact fun h=>nomatch h
 | succ m b=>exact fun h=>bq (ahy a b h)
def Ud(a:am K)(h:nL K n d A B=some r):lL aT 175 [.sl (lm aP d),.ptr 1 0,.ptr 2 0,.ptr 3 0] [(1,[iI A]),(2,[.fno 175 [.ptr 1 0,.ptr 2 0,.ptr 3 0]]),(3,[.ref 9])] 9 (bx B) [9,1,2,3,1000001,1000002,1000003] (fun v s=>v=bb∧cB s.o [(1,[iI r.1]),(2,[.fno 175 [.ptr 1 0,.ptr 2 0,.ptr 3 0]]),(3,[.ref 9])]∧look 9 s.r=some (bx r.2)):=by
 refine uu (c:=cat Tryz.f175 (pn 1)) Tryz.func175 (by kernel_rfl) _ Tryz.ntmps175 (il (by kernel_rfl)) fun M e=>(bn ⟨[(0,.sl (lm aP d)),(1,.ptr 1 0),(2,.ptr 2 0),(3,.ptr 3 0)],[(1,[iI A]),(2,[.fno 175 [.ptr 1 0,.ptr 2 0,.ptr 3 0]]),(3,[.ref 9])],[(9,(bx B))],[9,1,2,3,1000001,1000002,1000003]⟩ ?_);unfold nL at h;exact av 2 3 1 (aj 1 (au (bF aP d) (ae (ah 1 (cf (p:=pn 6) n (XG a n h))))))
end
section
variable[GS](M:Nat→Prop)(b:az)(r:dw)(a:dn)  
variable{M b r a}{K:Kn}{n:Nat}
def Zk(d:am K)(h:yS K n a=some r):aZ aT 154 [.sl (lm aP a)] (fun v s=>v=.ref 400003∧look 400003 s.r=some (bx r)):=by
 refine bK (cat Tryz.f154 (pn 1)) Tryz.func154 Tryz.ntmps154 fun M b=>(bn ⟨[(0,.sl (lm aP a))],[],[],[]⟩ ?_);unfold yS at h;refine av 62 63 9 (aj 0 (rb 175 #[(.tmp 4),(.tmp 5),(.tmp 3)] [.ptr 4 0,.ptr 5 0,.ptr 3 0] (ae (av 2 3 1 (aj 2 (O0 400003 3 0 210 5 ?_))))));obtain⟨e,c,h⟩:=aw h;refine kI 400003 9 [(4,1),(5,2),(3,3)] (Ud d c) (ae (aM 3 ?_));cases h;exact eX
end
section
variable[GS](M:Nat→Prop)(a:az)(r:Bool)(b:aS)(c:Bool)  
abbrev ahz(n:Nat):aq:=.c (cat Tryz.f177 (pn n))
abbrev alv:Cx:=⟨aT,24,M,a⟩
abbrev abK:=bodyPost aT Tryz.f177 (bP M a (fun v _=>v=.bool r))
abbrev alH(b:ck)(s:AS):=VE (alv M a) (abK M a r) b .normal s
def alm:AS:=⟨[(2,.bool c)],[],[],[]⟩
variable{M a r b c}{K:Kn}{n:Nat}
def IH(b:am K)(h:tU K n c=some r):alH M a r [ahz 7] (alm c):=by
 unfold tU at h;refine aM 1 ?_;cases h;exact bD
def w6(e:am K)(h:nX K n b=some r):aZ aT 177 [.agg (aX b)] (fun v _=>v=.bool r):=by
 refine bK (cat Tryz.f177 (pn 1)) Tryz.func177 Tryz.ntmps177 fun M a=>(bn ⟨[(0,.agg (aX b))],[],[],[]⟩ ?_);unfold nX at h;refine av 6 7 3 (aj 4 ?_);obtain⟨c,h⟩|⟨c,h⟩:=ao h
 ·refine aF 6 c (aW 13 9 ?_);obtain⟨d,h⟩|⟨d,h⟩:=ao h
  ·exact aF 15 d (ae (ah 0 (IH e h)))
  ·exact aF 15 d (ae (ah 0 (IH e h)))
 ·exact aF 6 c (ae (ah 0 (IH e h)))
end
section
variable[GS](M:Nat→Prop)(b:az)(r a:Int)(c d v4 v5 v6:Bool)  
abbrev iX(n:Nat):aq:=.c (cat Tryz.f188 (pn n))
abbrev ZG:Cx:=⟨aT,73,M,b⟩
abbrev ZS:=bodyPost aT Tryz.f188 (bP M b (fun v _=>v=iI r))
abbrev wP(a:ck)(s:AS):=VE (ZG M b) (ZS M b r) a .normal s
def ahh:AS:=⟨[(72,.bool v6)],[],[],[]⟩
def aeW:AS:=⟨[(0,.int .i32 a),(60,.bool v5)],[],[],[]⟩
def afg:AS:=⟨[(0,.int .i32 a),(29,.int .i32 a),(44,.bool v4)],[],[],[]⟩
def ZX:AS:=⟨[(0,.int .i32 a),(29,.int .i32 a),(30,.bool d)],[],[],[]⟩
def ajw:AS:=⟨[(0,.int .i32 a),(3,.bool c)],[],[],[]⟩
variable{M b r a c d v4 v5 v6}{K:Kn}{n:Nat}
def MA(c:am K)(h:yg K n v6=some r):wP M b r [iX 61,iX 31] (ahh v6):=by
 unfold yg at h;obtain⟨a,h⟩|⟨a,h⟩:=ao h
 ·refine ai 72 a (aM 5 ?_);cases h;exact bD
 ·refine ai 72 a (aM 5 ?_);cases h;exact bD
def vc(e:am K)(h:oa K n a v5=some r):wP M b r [iX 1887,.b 1,iX 15] (aeW a v5):=by
 unfold oa at h;obtain⟨c,h⟩|⟨c,h⟩:=ao h
 ·refine ai 60 c (aM 6 ?_);cases h;exact bD
 ·refine ai 60 c (bW (ks':=[iX 60,iX 61,iX 31]) 5 (aj 3 ?_));obtain⟨d,h⟩|⟨d,h⟩:=ao h
  ·exact aF 69 d (ae (ah 0 (MA e h)))
  ·exact aF 69 d (ae (ah 0 (MA e h)))
def jm(j:am K)(h:gL K n a v4=some r):wP M b r [iX 471,.b 1,iX 15] (afg a v4):=by
 unfold gL at h;obtain⟨c,h⟩|⟨c,h⟩:=ao h
 ·refine ai 44 c (aM 6 ?_);cases h;exact bD
 ·refine ai 44 c (av 13 7 4 ?_);obtain⟨d,h⟩|⟨d,h⟩:=ao h
  ·exact ai 60 d (ah 2 (vc j h))
  ·refine ai 60 d (br 7 3 ?_);obtain⟨e,h⟩|⟨e,h⟩:=ao h
   ·exact ai 60 e (ah 2 (vc j h))
   ·refine ai 60 e (br 7 3 ?_);obtain⟨f,h⟩|⟨f,h⟩:=ao h
    ·exact ai 60 f (ah 2 (vc j h))
    ·refine ai 60 f (br 7 3 ?_);obtain⟨g,h⟩|⟨g,h⟩:=ao h
     ·exact ai 60 g (ah 2 (vc j h))
     ·refine ai 60 g (br 7 3 ?_);obtain⟨i,h⟩|⟨i,h⟩:=ao h
      ·exact ai 60 i (ah 2 (vc j h))
      ·exact ai 60 i (ah 2 (vc j h))
def j6(c:am K)(h:iH K n a d=some r):wP M b r [iX 117,.b 1,iX 15] (ZX a d):=by
 unfold iH at h;obtain⟨e,h⟩|⟨e,h⟩:=ao h
 ·refine ai 30 e (aM 6 ?_);cases h;exact bD
 ·refine ai 30 e (av 13 7 4 ?_);obtain⟨f,h⟩|⟨f,h⟩:=ao h
  ·exact ai 44 f (ah 2 (jm c h))
  ·refine ai 44 f (br 7 3 ?_);obtain⟨g,h⟩|⟨g,h⟩:=ao h
   ·exact ai 44 g (ah 2 (jm c h))
   ·refine ai 44 g (br 7 3 ?_);obtain⟨i,h⟩|⟨i,h⟩:=ao h
    ·exact ai 44 i (ah 2 (jm c h))
    ·refine ai 44 i (br 7 3 ?_);obtain⟨j,h⟩|⟨j,h⟩:=ao h
     ·exact ai 44 j (ah 2 (jm c h))
     ·refine ai 44 j (br 7 3 ?_);obtain⟨k,h⟩|⟨k,h⟩:=ao h
      ·exact ai 44 k (ah 2 (jm c h))
      ·refine ai 44 k (br 7 3 ?_);obtain⟨l,h⟩|⟨l,h⟩:=ao h
       ·exact ai 44 l (ah 2 (jm c h))
       ·refine ai 44 l (br 7 3 ?_);obtain⟨m,h⟩|⟨m,h⟩:=ao h
        ·exact ai 44 m (ah 2 (jm c h))
        ·refine ai 44 m (br 7 3 ?_);obtain⟨o,h⟩|⟨o,h⟩:=ao h
         ·exact ai 44 o (ah 2 (jm c h))
         ·refine ai 44 o (br 7 3 ?_);obtain⟨p,h⟩|⟨p,h⟩:=ao h
          ·exact ai 44 p (ah 2 (jm c h))
          ·refine ai 44 p (br 7 3 ?_);obtain⟨q,h⟩|⟨q,h⟩:=ao h
           ·exact ai 44 q (ah 2 (jm c h))
           ·refine ai 44 q (br 7 3 ?_);obtain⟨s,h⟩|⟨s,h⟩:=ao h
            ·exact ai 44 s (ah 2 (jm c h))
            ·refine ai 44 s (br 7 3 ?_);obtain⟨t,h⟩|⟨t,h⟩:=ao h
             ·exact ai 44 t (ah 2 (jm c h))
             ·refine ai 44 t (br 7 3 ?_);obtain⟨u,h⟩|⟨u,h⟩:=ao h
              ·exact ai 44 u (ah 2 (jm c h))
              ·refine ai 44 u (br 7 3 ?_);obtain⟨v,h⟩|⟨v,h⟩:=ao h
               ·exact ai 44 v (ah 2 (jm c h))
               ·exact ai 44 v (ah 2 (jm c h))
def qc(d:am K)(h:my K n a c=some r):wP M b r [iX 25,.b 0,iX 7] (ajw a c):=by
 unfold my at h;obtain⟨s,h⟩|⟨s,h⟩:=ao h
 ·refine ai 3 s (aM 6 ?_);cases h;exact bD
 ·refine ai 3 s (br 7 3 ?_);obtain⟨t,h⟩|⟨t,h⟩:=ao h
  ·refine ai 26 t (aM 6 ?_);cases h;exact bD
  ·refine ai 26 t (bW (ks':=[iX 233,iX 117,.b 1,iX 15]) 10 ?_);obtain⟨u,h⟩|⟨u,h⟩:=ao h
   ·exact ai 30 u (ah 2 (j6 d h))
   ·refine ai 30 u (br 7 3 ?_);obtain⟨e,h⟩|⟨e,h⟩:=ao h
    ·exact ai 30 e (ah 2 (j6 d h))
    ·refine ai 30 e (br 7 3 ?_);obtain⟨f,h⟩|⟨f,h⟩:=ao h
     ·exact ai 30 f (ah 2 (j6 d h))
     ·refine ai 30 f (br 7 3 ?_);obtain⟨g,h⟩|⟨g,h⟩:=ao h
      ·exact ai 30 g (ah 2 (j6 d h))
      ·refine ai 30 g (br 7 3 ?_);obtain⟨i,h⟩|⟨i,h⟩:=ao h
       ·exact ai 30 i (ah 2 (j6 d h))
       ·refine ai 30 i (br 7 3 ?_);obtain⟨j,h⟩|⟨j,h⟩:=ao h
        ·exact ai 30 j (ah 2 (j6 d h))
        ·refine ai 30 j (br 7 3 ?_);obtain⟨k,h⟩|⟨k,h⟩:=ao h
         ·exact ai 30 k (ah 2 (j6 d h))
         ·refine ai 30 k (br 7 3 ?_);obtain⟨l,h⟩|⟨l,h⟩:=ao h
          ·exact ai 30 l (ah 2 (j6 d h))
          ·refine ai 30 l (br 7 3 ?_);obtain⟨m,h⟩|⟨m,h⟩:=ao h
           ·exact ai 30 m (ah 2 (j6 d h))
           ·refine ai 30 m (br 7 3 ?_);obtain⟨o,h⟩|⟨o,h⟩:=ao h
            ·exact ai 30 o (ah 2 (j6 d h))
            ·refine ai 30 o (br 7 3 ?_);obtain⟨p,h⟩|⟨p,h⟩:=ao h
             ·exact ai 30 p (ah 2 (j6 d h))
             ·refine ai 30 p (br 7 3 ?_);obtain⟨q,h⟩|⟨q,h⟩:=ao h
              ·exact ai 30 q (ah 2 (j6 d h))
              ·exact ai 30 q (ah 2 (j6 d h))
def TU(c:am K)(h:mA K n a=some r):aZ aT 188 [.int .i32 a] (fun v _=>v=iI r):=by
 refine bK (cat Tryz.f188 (pn 1)) Tryz.func188 Tryz.ntmps188 fun M b=>(bn ⟨[(0,.int .i32 a)],[],[],[]⟩ ?_);unfold mA at h;refine dL 24 25 0 7 5 (aj 3 ?_);obtain⟨d,h⟩|⟨d,h⟩:=ao h
 ·exact aF 6 d (ae (ah 0 (qc c h)))
 ·refine aF 6 d (aW 7 4 ?_);obtain⟨e,h⟩|⟨e,h⟩:=ao h
  ·exact aF 10 e (ae (ah 0 (qc c h)))
  ·refine aF 10 e (aW 10 3 ?_);obtain⟨f,h⟩|⟨f,h⟩:=ao h
   ·refine aF 13 f (aW 15 5 ?_);obtain⟨g,h⟩|⟨g,h⟩:=ao h
    ·exact aF 18 g (ae (ah 0 (qc c h)))
    ·refine aF 18 g (aW 18 3 ?_);obtain⟨i,h⟩|⟨i,h⟩:=ao h
     ·exact aF 21 i (ae (ah 0 (qc c h)))
     ·exact aF 21 i (ae (ah 0 (qc c h)))
   ·refine aF 13 f (aW 18 8 ?_);obtain⟨j,h⟩|⟨j,h⟩:=ao h
    ·exact aF 21 j (ae (ah 0 (qc c h)))
    ·exact aF 21 j (ae (ah 0 (qc c h)))
end
section
variable[GS](M:Nat→Prop)(a:az)(r:Bool)(b:Int)(c:Bool)  
abbrev QA(n:Nat):aq:=.c (cat Tryz.f193 (pn n))
abbrev YL:Cx:=⟨aT,9,M,a⟩
abbrev afQ:=bodyPost aT Tryz.f193 (bP M a (fun v _=>v=.bool r))
abbrev ahf(b:ck)(s:AS):=VE (YL M a) (afQ M a r) b .normal s
def alz:AS:=⟨[(4,.bool c)],[],[],[]⟩
variable{M a r b c}{K:Kn}{n:Nat}
def EA(d:am K)(h:qg K n c=some r):ahf M a r [QA 53,.b 0,QA 7] (alz c):=by
 unfold qg at h;obtain⟨b,h⟩|⟨b,h⟩:=ao h
 ·refine ai 4 b (aM 6 ?_);cases h;exact bD
 ·refine ai 4 b (aM 6 ?_);cases h;exact bD
def NG(c:am K)(h:vg K n b=some r):aZ aT 193 [.int .i32 b] (fun v _=>v=.bool r):=by
 refine bK (cat Tryz.f193 (pn 1)) Tryz.func193 Tryz.ntmps193 fun M a=>(bn ⟨[(0,.int .i32 b)],[],[],[]⟩ ?_);unfold vg at h;refine dL 105 53 0 7 9 ?_;obtain⟨d,h⟩|⟨d,h⟩:=ao h
 ·exact ai 4 d (ah 2 (EA c h))
 ·refine ai 4 d (br 7 3 ?_);obtain⟨e,h⟩|⟨e,h⟩:=ao h
  ·exact ai 4 e (ah 2 (EA c h))
  ·refine ai 4 e (br 7 3 ?_);obtain⟨f,h⟩|⟨f,h⟩:=ao h
   ·exact ai 4 f (ah 2 (EA c h))
   ·exact ai 4 f (ah 2 (EA c h))
end
section
variable[GS](M:Nat→Prop)(c:az)(r:Bool)(a b:Int)(v5 d e:Bool)  
abbrev rB(n:Nat):aq:=.c (cat Tryz.f186 (pn n))
abbrev aa0:Cx:=⟨aT,29,M,c⟩
abbrev X2:=bodyPost aT Tryz.f186 (bP M c (fun v _=>v=.bool r))
abbrev Ka(a:ck)(s:AS):=VE (aa0 M c) (X2 M c r) a .normal s
def YC:AS:=⟨[(4,.bool e)],[],[],[]⟩
def acz:AS:=⟨[(0,.int .i32 a),(1,.int .i32 b),(16,.bool d)],[],[],[]⟩
def alp:AS:=⟨[(0,.int .i32 a),(1,.int .i32 b),(5,.bool v5)],[],[],[]⟩
variable{M c r a b v5 d e}{K:Kn}{n:Nat}
def Vb(a:am K)(h:w7 K n e=some r):Ka M c r [rB 15] (YC e):=by
 unfold w7 at h;refine aM 1 ?_;cases h;exact bD
def WW(g:am K)(h:xQ K n a b d=some r):Ka M c r [rB 415,.b 0,rB 7] (acz a b d):=by
 unfold xQ at h;obtain⟨e,h⟩|⟨e,h⟩:=ao h
 ·refine ai 16 e (aM 6 ?_);cases h;exact bD
 ·refine ai 16 e (bW (ks':=[rB 14,rB 15]) 4 (aj 3 ?_));obtain⟨f,h⟩|⟨f,h⟩:=ao h
  ·exact aF 25 f (ae (ah 0 (Vb g h)))
  ·exact aF 25 f (ae (ah 0 (Vb g h)))
def Qv(g:am K)(h:zb K n a b v5=some r):Ka M c r [rB 25,.b 0,rB 7] (alp a b v5):=by
 unfold zb at h;obtain⟨d,h⟩|⟨d,h⟩:=ao h
 ·refine ai 5 d (aM 6 ?_);cases h;exact bD
 ·refine ai 5 d (av 6 7 2 (aj 1 ?_));obtain⟨v6,i,h⟩:=aw h;refine aR (NG g i) (ae ?_);obtain⟨e,h⟩|⟨e,h⟩:=ao h
  ·refine ai 13 e (aM 6 ?_);cases h;exact bD
  ·refine ai 13 e (av 6 7 2 (aj 3 ?_));obtain⟨f,h⟩|⟨f,h⟩:=ao h
   ·exact aF 19 f (ae (ah 0 (WW g h)))
   ·exact aF 19 f (ae (ah 0 (WW g h)))
def aed(d:am K)(h:xG K n a b=some r):aZ aT 186 [.int .i32 a,.int .i32 b] (fun v _=>v=.bool r):=by
 refine bK (cat Tryz.f186 (pn 1)) Tryz.func186 Tryz.ntmps186 fun M c=>(bn ⟨[(0,.int .i32 a),(1,.int .i32 b)],[],[],[]⟩ ?_);unfold xG at h;refine dL 24 25 0 7 5 (aj 1 ?_);obtain⟨i,f,h⟩:=aw h;refine aR (NG d f) (aW 3 1 ?_);obtain⟨e,h⟩|⟨e,h⟩:=ao h
 ·exact aF 8 e (ae (ah 0 (Qv d h)))
 ·refine aF 8 e (aW 4 1 ?_);obtain⟨v4,g,h⟩:=aw h;exact aR (TU d g) (ae (ah 0 (Qv d h)))
end
section
variable[GS](M:Nat→Prop)(d:az)(r:b5)(e:ByteArray)(c:Nat)(o:Int)(a:Nat)(f:b5)(j:Bool)(k:b5)(i:Nat)(l:Int→Nat→b5→Option b5)
abbrev Ft:Cx:=⟨aT,26,M,d⟩
abbrev FB:=bodyPost aT Tryz.f178 (bP M d (fun v s=>v=.ref 23∧look 23 s.r=some (bc r)))
abbrev Li(a:ck)(s:AS):=VE (Ft M d) (FB M d r) a .normal s
abbrev pi(n:Nat):aq:=.c (cat Tryz.f178 (pn n))
abbrev KQ:ck:=[.b 0,pi 31]
abbrev Cu:ck:=kl (Ft M d) (FB M d r) KQ (cat Tryz.f178 (pn 244)) i::KQ
def afV:AS:=⟨[(3,.ref 23),(6,.int .i32 ((Utf8.decode e a).1:Int)),(8,.sit 320008 c e (a+(Utf8.decode e a).2))],[],[(23,(bc k))],[23,320008]⟩
def aal:AS:=⟨[(3,.ref 23),(5,iI ((a:Nat):Int)),(6,.int .i32 ((Utf8.decode e a).1:Int)),(8,.sit 320008 c e (a+(Utf8.decode e a).2)),(19,.bool j)],[],[(23,(bc f))],[23,320008]⟩
def ME:AS:=⟨[(3,.ref 23),(4,.int .i32 o),(8,.sit 320008 c e a)],[],[(23,(bc f))],[23,320008]⟩
abbrev EL:Prop:=∀{o:Int} {a:Nat} {f:b5},l o a f=some r→LP (Ft M d) (FB M d r) KQ (cat Tryz.f178 (pn 244)) i (ME e c o a f)
variable{M d r e c o a f j k i l}{K:Kn}{n:Nat}
def TC(g:am K)(f:d.w.heap.size≤c)(b:EL M d r e c i l)(h:sa K n e a l k=some r):Li M d r (pi 7835 :: .b 1::Cu M d r i) (afV e c a k):=by
 unfold sa at h;exact ah 2 (bu (b h))
def Un(o:am K)(k:d.w.heap.size≤c)(g:EL M d r e c i l)(h:sn K n e a f l j=some r):Li M d r (pi 15669::pi 7835 :: .b 1::Cu M d r i) (aal e c a f j):=by
 unfold sn at h;obtain⟨b,h⟩|⟨b,h⟩:=ao h
 ·refine ai 19 b (br 2 1 (aj 3 ?_));obtain⟨m,h⟩:=aB h;exact au (cG 23 23 3 1 (ak .i64) (rfl) ap m) (ae (ah 0 (TC o (c:=c) k g h)))
 ·exact ai 19 b (ah 2 (TC o (c:=c) k g h))
def aaL(q:am K)(k:d.w.heap.size≤c)(m:EL M d r e c i l)(h:oc K n e l o a f=some r):Li M d r (pi 244::Cu M d r i) (ME e c o a f):=by
 unfold oc at h;refine av 2 3 1 (aj 0 ?_);obtain⟨b,h⟩|⟨b,h⟩:=ao h
 ·refine Hv 8 (id:=320008) (g:=c) b k (ae (bW (ks':=pi 15668::pi 15669::pi 7835 :: .b 1::Cu M d r i) 8 (aj 3 ?_)));obtain⟨j,h⟩|⟨j,h⟩:=ao h
  ·refine aF 15 j (aW 5 2 ?_);obtain⟨s,p,h⟩:=aw h;exact aR (aed q p) (ae (ah 0 (Un q (c:=c) k m h)))
  ·exact aF 15 j (ae (ah 0 (Un q (c:=c) k m h)))
 ·refine Ga 8 (id:=320008) (g:=c) b (ae (aM 9 ?_));cases h;exact eX
def agO(b:am K)(a:d.w.heap.size≤c)(m:Nat):EL M d r e c m (qJ K n e m):=by
 induction m with
 | zero=>exact fun h=>nomatch h
 | succ m f=>exact fun h=>bq (aaL b a f h)
def agP(f:am K)(h:y8 K n e=some r):aZ aT 178 [.str e] (fun v s=>v=.ref 23∧look 23 s.r=some (bc r)):=by
 refine bK (cat Tryz.f178 (pn 1)) Tryz.func178 Tryz.ntmps178 fun M d=>(bn ⟨[(0,.str e)],[],[],[]⟩ ?_);unfold y8 at h;exact cj 60 61 31 8 (aj 1 (Gs 320008 (b:=e) fun c a=>(ae (ic 2 0 1 (bV [3,4,8] [] [] (fQ 23 3 3 1 (ah 0 (cf (p:=pn 122) n (agO f (c:=c) a n h)))))))))
end
section
variable[GS](M:Nat→Prop)(d:az)(r:Bool)(a b:aS)(e f c:Bool)  
abbrev tc(n:Nat):aq:=.c (cat Tryz.f155 (pn n))
abbrev aej:Cx:=⟨aT,61,M,d⟩
abbrev abf:=bodyPost aT Tryz.f155 (bP M d (fun v _=>v=.bool r))
abbrev FP(a:ck)(s:AS):=VE (aej M d) (abf M d r) a .normal s
def ae7:AS:=⟨[(4,.bool f)],[],[],[]⟩
def aky:AS:=⟨[(2,.ptr 2 0),(3,.ptr 3 0),(51,.bool c)],[(2,aX a),(3,aX b)],[],[2,3]⟩
def agA:AS:=⟨[(2,.ptr 2 0),(3,.ptr 3 0),(12,.bool e)],[(2,aX a),(3,aX b)],[],[2,3]⟩
variable{M d r a b e f c}{K:Kn}{n:Nat}
def A8(a:am K)(h:oE K n f=some r):FP M d r [tc 53,tc 7] (ae7 f):=by
 unfold oE at h;refine aM 2 ?_;cases h;exact bD
def Bc(i:am K)(h:oU K n a b c=some r):FP M d r [tc 29,tc 15] (aky a b c):=by
 unfold oU at h;obtain⟨e,h⟩|⟨e,h⟩:=ao h
 ·refine ai 51 e (aM 5 ?_);cases h;exact bD
 ·refine ai 51 e (gY 2 3 3 (aj 6 ?_));obtain⟨g,f,h⟩:=aw h;refine fc 1058 (agP i f) (fk 23) (au (bF (ak .i64) g) (ae (aM 1 ?_)));cases h;exact bD
def Py(c:am K)(h:wN K n a b e=some r):FP M d r [tc 13,tc 7] (agA a b e):=by
 unfold wN at h;obtain⟨m,h⟩|⟨m,h⟩:=ao h
 ·refine ai 12 m (av 4 5 2 (aj 4 ?_));obtain⟨o,h⟩|⟨o,h⟩:=ao h
  ·refine aF 16 o (aW 12 8 ?_);obtain⟨p,h⟩|⟨p,h⟩:=ao h
   ·exact aF 24 p (ae (ah 0 (A8 c h)))
   ·refine aF 24 p (aW 13 1 ?_);obtain⟨v4,t,h⟩:=aw h;exact aR (w6 c t) (ae (ah 0 (A8 c h)))
  ·refine aF 16 o (aW 5 1 ?_);obtain⟨v5,u,h⟩:=aw h;refine aR (w6 c u) (aW 8 2 ?_);obtain⟨q,h⟩|⟨q,h⟩:=ao h
   ·refine aF 20 q (aW 12 4 ?_);obtain⟨s,h⟩|⟨s,h⟩:=ao h
    ·exact aF 24 s (ae (ah 0 (A8 c h)))
    ·refine aF 24 s (aW 13 1 ?_);obtain⟨v6,v,h⟩:=aw h;exact aR (w6 c v) (ae (ah 0 (A8 c h)))
   ·exact aF 20 q (ae (ah 0 (A8 c h)))
 ·refine ai 12 m (n9 4 5 3 4 (aj 4 ?_));obtain⟨f,h⟩|⟨f,h⟩:=ao h
  ·exact aF 32 f (ae (ah 0 (Bc c h)))
  ·refine aF 32 f (aW 9 5 ?_);obtain⟨g,h⟩|⟨g,h⟩:=ao h
   ·exact aF 37 g (ae (ah 0 (Bc c h)))
   ·refine aF 37 g (aW 10 1 ?_);obtain⟨w,k,h⟩:=aw h;refine aR (w6 c k) (aW 14 3 ?_);obtain⟨i,h⟩|⟨i,h⟩:=ao h
    ·exact aF 42 i (ae (ah 0 (Bc c h)))
    ·refine aF 42 i (aW 18 4 ?_);obtain⟨j,h⟩|⟨j,h⟩:=ao h
     ·refine aF 46 j (aW 19 1 ?_);obtain⟨x,l,h⟩:=aw h;exact aR (w6 c l) (ae (ah 0 (Bc c h)))
     ·exact aF 46 j (ae (ah 0 (Bc c h)))
def Pe(e:am K)(h:sZ K n a b=some r):aZ aT 155 [.agg (aX a),.agg (aX b)] (fun v _=>v=.bool r):=by
 refine bK (cat Tryz.f155 (pn 1)) Tryz.func155 Tryz.ntmps155 fun M d=>(bn ⟨[(0,.agg (aX a)),(1,.agg (aX b))],[],[],[]⟩ ?_);unfold sZ at h;refine cj 12 13 7 4 (aj 4 ?_);obtain⟨c,h⟩|⟨c,h⟩:=ao h
 ·exact aF 8 c (ae (ah 0 (Py e h)))
 ·exact aF 8 c (ae (ah 0 (Py e h)))
end
section
variable[GS](M:Nat→Prop)(b:az)(r a:Int)  
variable{M b r a}{K:Kn}{n:Nat}
def Es(c:am K)(h:rU K n a=some r):aZ aT 174 [iI a] (fun v _=>v=iI r):=by
 refine bK (cat Tryz.f174 (pn 1)) Tryz.func174 Tryz.ntmps174 fun M b=>(bn ⟨[(0,iI a)],[],[],[]⟩ ?_);unfold rU at h;refine aM 5 ?_;cases h;exact bD
end
section
variable[GS](M:Nat→Prop)(b:az)(r a:Int)  
variable{M b r a}{K:Kn}{n:Nat}
def Wp(d:am K)(h:za K n a=some r):aZ aT 152 [iI a] (fun v _=>v=iI r):=by
 refine bK (cat Tryz.f152 (pn 1)) Tryz.func152 Tryz.ntmps152 fun M b=>(bn ⟨[(0,iI a)],[],[],[]⟩ ?_);unfold za at h;refine av 6 7 3 (aj 1 ?_);obtain⟨e,c,h⟩:=aw h;refine aR (Es d c) (ae (aM 1 ?_));cases h;exact bD
end
section
variable[GS](M:Nat→Prop)(b:az)(r a:Int)  
variable{M b r a}{K:Kn}{n:Nat}
def OU(c:am K)(h:wL K n a=some r):aZ aT 153 [iI a] (fun v _=>v=iI r):=by
 refine bK (cat Tryz.f153 (pn 1)) Tryz.func153 Tryz.ntmps153 fun M b=>(bn ⟨[(0,iI a)],[],[],[]⟩ ?_);unfold wL at h;refine av 6 7 3 (aj 1 ?_);obtain⟨f,d,h⟩:=aw h;refine aR (Es c d) (aW 3 1 ?_);obtain⟨g,e,h⟩:=aw h;refine aR (Es c e) (ae (aM 1 ?_));cases h;exact bD
end
section
variable[GS](M:Nat→Prop)(b:az)(r:Int×Int)(a:aO)  
variable{M b r a}{K:Kn}{n:Nat}
def GF(d:am K)(h:oT K n a=some r):aZ aT 148 [.agg (aG a)] (fun v _=>v=.tup [iI r.1,iI r.2]):=by
 refine bK (cat Tryz.f148 (pn 1)) Tryz.func148 Tryz.ntmps148 fun M b=>(bn ⟨[(0,.agg (aG a))],[],[],[]⟩ ?_);unfold oT at h;refine av 14 15 5 (bV [1,4] [1] [] ?_);obtain⟨e,f,h⟩:=aw h;obtain⟨c,g,h⟩:=aw h;refine ci 1 (nu 8 [.ptr 1 37,iI a.FontSize,iI e,iI (max a.LineHeight 0),.ptr 1 37,iI a.FontSize,iI c,iI (aa ((max a.LineHeight 0)-c)),iI ((aa ((max a.LineHeight 0)-c)) / 2),iI (aa (e+((aa ((max a.LineHeight 0)-c)) / 2)))]) [] [] [cF aT 22 Tryz.f148 (pn 14) 10] (aE (vz 2) (ax (cR 0 1 10 (Wp d f)) (aE (vz 3) (ax (cR 0 1 14 (OU d g)) (aE (vz 3) (ax (cE 0) cg)))))) (aM 3 ?_);cases h;exact jC
end
section
variable[GS](M:Nat→Prop)(d:az)(r:b5)(a:Int)(b:b5)(e v4:Bool)  
abbrev WT(n:Nat):aq:=.c (cat Tryz.f194 (pn n))
abbrev aeI:Cx:=⟨aT,78,M,d⟩
abbrev adc:=bodyPost aT Tryz.f194 (bP M d (fun v s=>v=.ref 9∧cB s.o []∧look 9 s.r=some (bY r)))
abbrev T7(a:ck)(s:AS):=VE (aeI M d) (adc M d r) a .normal s
def Yg:AS:=⟨[(0,.ref 9),(1,.int .i32 a),(50,.bool v4)],[],[(9,(bY b))],[9]⟩
def aif:AS:=⟨[(0,.ref 9),(1,.int .i32 a),(5,.int .u32 (IntKind.wrap .u32 a)),(25,.bool e)],[],[(9,(bY b))],[9]⟩
variable{M d r a b e v4}{K:Kn}{n:Nat}
def UN(g:am K)(h:yJ K n a b v4=some r):T7 M d r [WT 479,.b 0] (Yg a b v4):=by
 unfold yJ at h;obtain⟨e,h⟩|⟨e,h⟩:=ao h
 ·refine ai 50 e (av 4 5 2 (aj 20 ?_));obtain⟨f,h⟩:=aB h;refine au (cG 77 9 5 1 (ak .u8) (rfl) ap f) (ae (aM 2 ?_));cases h;exact gI
 ·refine ai 50 e (av 6 7 2 (aj 2 ?_));obtain⟨c,h⟩:=aB h;refine au (cG 10 9 5 1 (ak .u8) (rfl) ap c) (ae (aM 2 ?_));cases h;exact gI
def JD(g:am K)(h:ox K n a b e=some r):T7 M d r [WT 119,.b 0] (aif a b e):=by
 unfold ox at h;obtain⟨c,h⟩|⟨c,h⟩:=ao h
 ·refine ai 25 c (av 4 5 2 (aj 15 ?_));obtain⟨i,h⟩:=aB h;refine au (cG 49 9 5 1 (ak .u8) (rfl) ap i) (ae (aM 2 ?_));cases h;exact gI
 ·refine ai 25 c (av 6 7 2 (aj 3 ?_));obtain⟨f,h⟩|⟨f,h⟩:=ao h
  ·exact aF 53 f (ae (ah 0 (UN g h)))
  ·exact aF 53 f (ae (ah 0 (UN g h)))
def abc(i:am K)(h:wh K n a b=some r):lL aT 194 [.ref 9,.int .i32 a] [] 9 (bY b) [9] (fun v s=>v=.ref 9∧cB s.o []∧look 9 s.r=some (bY r)):=by
 refine uu (c:=cat Tryz.f194 (pn 1)) Tryz.func194 (by kernel_rfl) _ Tryz.ntmps194 (il (by kernel_rfl)) fun M d=>(bn ⟨[(0,.ref 9),(1,.int .i32 a)],[],[(9,(bY b))],[9]⟩ ?_);unfold wh at h;refine ic 29 0 7 ?_;obtain⟨e,h⟩|⟨e,h⟩:=ao h
 ·refine ai 11 e (av 4 5 2 (aj 10 ?_));obtain⟨j,h⟩:=aB h;refine au (cG 24 9 5 1 (ak .u8) (rfl) ap j) (ae (aM 2 ?_));cases h;exact gI
 ·refine ai 11 e (av 13 7 4 ?_);obtain⟨f,h⟩|⟨f,h⟩:=ao h
  ·exact ai 25 f (ah 2 (JD i h))
  ·refine ai 25 f (br 3 1 (aj 3 ?_));obtain⟨g,h⟩|⟨g,h⟩:=ao h
   ·exact aF 30 g (ae (ah 0 (JD i h)))
   ·exact aF 30 g (ae (ah 0 (JD i h)))
end
section
variable[GS](M:Nat→Prop)(d:az)(r:b5)(a:Int)(b:b5)  
variable{M d r a b}{K:Kn}{n:Nat}
def S5(i:am K)(h:vf K n a b=some r):lL aT 187 [.ref 9,.int .i32 a] [] 9 (bY b) [9] (fun v s=>v=.ref 9∧cB s.o []∧look 9 s.r=some (bY r)):=by
 refine uu (c:=cat Tryz.f187 (pn 1)) Tryz.func187 (by kernel_rfl) _ Tryz.ntmps187 (il (by kernel_rfl)) fun M d=>(bn ⟨[(0,.ref 9),(1,.int .i32 a)],[],[(9,(bY b))],[9]⟩ ?_);unfold vf at h;refine av 13 7 5 ?_;obtain⟨e,h⟩|⟨e,h⟩:=ao h
 ·refine ai 7 e (av 4 5 2 (aj 4 ?_));obtain⟨f,h⟩:=aB h;refine au (cG 12 9 5 1 (ak .u8) (rfl) ap f) (ae (aM 2 ?_));cases h;exact gI
 ·refine ai 7 e (gY 2 3 3 (aj 2 ?_));obtain⟨j,g,h⟩:=aw h;refine kI 9 9 [] (abc i g) (ae (aM 1 ?_));cases h;exact gI
end
section
variable[GS](M:Nat→Prop)(f:az)(r:Int×Unit×b5)(d:Int)(e:Bool)(a:b5)  
variable{M f r d e a}{K:Kn}{n:Nat}
def QK(j:am K)(h:qe K n d e a=some r):lL aT 179 [.ptr 450119 0,.int .i32 d] [(450119,[(nD e 450119),.ref 9])] 9 (bY a) [9,450119,1450119] (fun v s=>v=.tup [iI r.1,.vv .nilIface]∧cB s.o [(450119,[.ptr 450119 0,.ref 9])]∧look 9 s.r=some (bY r.2.2)):=by
 refine uu (c:=cat Tryz.f179 (pn 1)) Tryz.func179 (by kernel_rfl) _ Tryz.ntmps179 (il (by kernel_rfl)) fun M f=>(bn ⟨[(0,.ptr 450119 0),(1,.int .i32 d)],[(450119,[(nD e 450119),.ref 9])],[(9,(bY a))],[9,450119,1450119]⟩ ?_);unfold qe at h;refine av 6 7 3 (aj 1 ?_);rcases ao h with⟨i,g⟩|⟨i,g⟩
 ·subst i;have h:=g;refine E2 450119 (b:=true) (c1:=.ref 9) (ae (av 2 3 1 (aj 4 (au (bF (ak .u8) a) (ae (av 2 3 1 (aj 6 ?_)))))));obtain⟨v4,k,h⟩:=aw h;refine kI 9 9 [] (S5 j k) (ae (av 2 3 1 (aj 4 (au (bF (ak .u8) v4) (ae (aM 1 ?_))))));cases h;exact n6
 ·subst i;have h:=g;refine E2 450119 (b:=false) (c1:=.ref 9) (ae (av 2 3 1 (aj 4 (au (bF (ak .u8) a) (ae (av 2 3 1 (aj 6 ?_)))))));obtain⟨v5,l,h⟩:=aw h;refine kI 9 9 [] (S5 j l) (ae (av 2 3 1 (aj 4 (au (bF (ak .u8) v5) (ae (aM 1 ?_))))));cases h;exact n6
end
section
variable[GS](M:Nat→Prop)(c:az)(r:Int)(a b:Int)  
variable{M c r a b}{K:Kn}{n:Nat}
def K8(d:am K)(h:oV K n a b=some r):aZ aT 180 [.int .i32 a,iI b] (fun v _=>v=iI r):=by
 refine bK (cat Tryz.f180 (pn 1)) Tryz.func180 Tryz.ntmps180 fun M c=>(bn ⟨[(0,.int .i32 a),(1,iI b)],[],[],[]⟩ ?_);unfold oV at h;refine av 6 7 3 (aj 1 ?_);obtain⟨g,e,h⟩:=aw h;refine aR (TU d e) (aW 3 1 ?_);obtain⟨v4,f,h⟩:=aw h;refine aR (Es d f) (ae (aM 1 ?_));cases h;exact bD
end
section
variable[GS](M:Nat→Prop)(a:az)(r:Int)(d:ByteArray)(e:Int)(c:Nat)(v5:Int)(v6 f:Nat)(i:Int→Nat→Option Int)
abbrev HD:Cx:=⟨aT,19,M,a⟩
abbrev Kv:=bodyPost aT Tryz.f181 (bP M a (fun v _=>v=iI r))
abbrev agG(b:ck)(s:AS):=VE (HD M a) (Kv M a r) b .normal s
abbrev QE(n:Nat):aq:=.c (cat Tryz.f181 (pn n))
abbrev Hi:ck:=[.b 0,QE 15]
abbrev alD:ck:=kl (HD M a) (Kv M a r) Hi (cat Tryz.f181 (pn 116)) f::Hi
def Pl:AS:=⟨[(1,iI e),(5,iI v5),(9,.sit 320009 c d v6)],[],[],[320009]⟩
abbrev TK:Prop:=∀{v5:Int} {v6:Nat},i v5 v6=some r→LP (HD M a) (Kv M a r) Hi (cat Tryz.f181 (pn 116)) f (Pl d e c v5 v6)
variable{M a r d e c v5 v6 f i}{K:Kn}{n:Nat}
def afI(m:am K)(k:a.w.heap.size≤c)(j:TK M a r d e c f i)(h:xp K n d e i v5 v6=some r):agG M a r (QE 116::alD M a r f) (Pl d e c v5 v6):=by
 unfold xp at h;refine av 2 3 1 (aj 0 ?_);obtain⟨b,h⟩|⟨b,h⟩:=ao h
 ·refine Hv 9 (id:=320009) (g:=c) b k (ae (ic 13 1 6 (aj 3 ?_)));obtain⟨o,l,h⟩:=aw h;exact aR (K8 m l) (ae (ah 1 (bu (j h))))
 ·refine Ga 9 (id:=320009) (g:=c) b (ae (aM 9 ?_));cases h;exact bD
def aev(f:am K)(b:a.w.heap.size≤c)(m:Nat):TK M a r d e c m (yt K n d e m):=by
 induction m with
 | zero=>exact fun h=>nomatch h
 | succ m g=>exact fun h=>bq (afI f b g h)
def PM(g:am K)(h:rE K n d e=some r):aZ aT 181 [.str d,iI e] (fun v _=>v=iI r):=by
 refine bK (cat Tryz.f181 (pn 1)) Tryz.func181 Tryz.ntmps181 fun M a=>(bn ⟨[(0,.str d),(1,iI e)],[],[],[]⟩ ?_);unfold rE at h;exact cj 28 29 15 6 (aj 1 (Gs 320009 (b:=d) fun c f=>(ae (ah 1 (cf (p:=pn 58) n (aev g (c:=c) f n h))))))
end
section
variable[GS](M:Nat→Prop)(e:az)(r:aQ)(a:dw)(v4:Int)(v5:Bool)(v6:b5)(o:Bool)(b:aO)(f:ByteArray)(g:Int)(c:aO)(i:ByteArray)(j:Int)(k:Nat)(l:Int→Bool→b5→Option aQ)
abbrev Ly:Cx:=⟨aT,59,M,e⟩
abbrev HC:=bodyPost aT Tryz.f156 (bP M e (fun v _=>v=.agg (bp r)))
abbrev BI(a:ck)(s:AS):=VE (Ly M e) (HC M e r) a .normal s
abbrev hJ(n:Nat):aq:=.c (cat Tryz.f156 (pn n))
abbrev JH:ck:=[.b 0,hJ 15]
abbrev aiu:ck:=kl (Ly M e) (HC M e r) JH (cat Tryz.f156 (pn 116)) k::JH
def adF:AS:=⟨[(2,.ptr 2 0),(6,.ptr 6 0),(7,.ptr 7 0),(8,.str f)],[(2,List.set (bp dX) 61 (.nils)),(6,aG b),(7,List.set (bp ({ dX with Text:=(bytesOf v6),Space:=g }:aQ)) 61 (.nils))],[],[2,6,7]⟩
def aab:AS:=⟨[(2,.ptr 2 0),(6,.ptr 6 0),(7,.ptr 7 0),(8,.str i)],[(2,List.set (bp dX) 61 (.nils)),(6,aG c),(7,List.set (bp ({ dX with Text:=(bytesOf v6),Space:=j }:aQ)) 61 (.nils))],[],[2,6,7]⟩
def Z9:AS:=⟨[(0,.sl (lm aX a)),(2,.ptr 2 0),(3,.ptr 451119 0)],[(2,List.set (bp dX) 61 (.nils)),(451119,[(nD o 451119),.ref 401119])],[(401119,(bY v6))],[2,451119,401119]⟩
def SA:AS:=⟨[(0,.sl (lm aX a)),(2,.ptr 2 0),(3,.ptr 451119 0),(9,.sl (lm aX a)),(10,iI (a.length:Int)),(11,iI v4)],[(2,List.set (bp dX) 61 (.nils)),(451119,[(nD v5 451119),.ref 401119])],[(401119,(bY v6))],[2,451119,401119]⟩
abbrev VR:Prop:=∀{v4:Int} {v5:Bool} {v6:b5},l v4 v5 v6=some r→LP (Ly M e) (HC M e r) JH (cat Tryz.f156 (pn 116)) k (SA a v4 v5 v6)
variable{M e r a v4 v5 v6 o b f g c i j k l}{K:Kn}{n:Nat}
def Rq(d:am K)(h:Ap K n v6 b f g=some r):BI M e r [hJ 255] (adF v6 b f g):=by
 unfold Ap at h;refine av 2 3 1 (aj 3 ?_);obtain⟨i,a,h⟩:=aw h;refine aR (PM d a) (ae (av 2 3 1 (aj 1 ?_)));obtain⟨j,c,h⟩:=aw h;refine aR (GF d c) (ae (aM 3 (va 2 ?_)));cases h;exact bD
def Wh(d:am K)(h:wB K n v6 c i j=some r):BI M e r [hJ 255] (aab v6 c i j):=by
 unfold wB at h;refine av 2 3 1 (aj 3 ?_);obtain⟨f,a,h⟩:=aw h;refine aR (PM d a) (ae (av 2 3 1 (aj 1 ?_)));obtain⟨g,b,h⟩:=aw h;refine aR (GF d b) (ae (aM 3 (va 2 ?_)));cases h;exact bD
def NL(j:am K)(h:ud K n a v6 o=some r):BI M e r [hJ 15] (Z9 a v6 o):=by
 unfold ud at h;rcases ao h with⟨f,d⟩|⟨f,d⟩
 ·subst f;have h:=d;refine av 2 3 1 (aj 1 ?_);obtain⟨k,h⟩:=aB h;refine au (bX aX aX k (ft) ap) (ae ?_);obtain⟨b,l,h⟩:=cc h;refine bC (ks':=[hJ 62,hJ 63]) 1 ⟨[(0,.sl (lm aX a)),(2,.ptr 2 0),(3,.ptr 451119 0),(6,.ptr 6 0)],[(2,List.set (bp dX) 61 (.nils)),(6,aG b),(451119,[.ptr 451119 0,.ref 401119])],[(401119,(bY v6))],[2,6,451119,401119]⟩ ?_ (by subst l;kernel_rfl);refine aj 0 ?_;obtain⟨m,h⟩:=aB h;refine FE 451119 401119 (L:=v6) m (ae (cj 12 13 7 4 (aj 2 (au (bF aX a) (aW 4 1 ?_)))));obtain⟨p,h⟩:=aB h;refine au (bX aX aX p (ft) ap) (ae ?_);obtain⟨D,q,h⟩:=cc h;refine bC (ks':=[hJ 509,hJ 255]) 0 ⟨[(2,.ptr 2 0),(6,.ptr 6 0),(7,.ptr 7 0),(8,.str (bytesOf v6)),(36,.bool D)],[(2,List.set (bp dX) 61 (.nils)),(6,aG b),(7,List.set (bp ({ dX with Text:=(bytesOf v6) }:aQ)) 61 (.nils))],[],[2,6,7]⟩ ?_ (by subst q;kernel_rfl)
  obtain⟨g,h⟩|⟨g,h⟩:=ao h
  ·refine ai 36 g (av 4 5 2 (aj 4 ?_));obtain⟨s,h⟩:=aB h;refine au (Cy s) (ae ?_);obtain⟨E,t,h⟩:=cc h;refine bC (ks':=[hJ 2037,hJ 255]) 0 ⟨[(2,.ptr 2 0),(6,.ptr 6 0),(7,.ptr 7 0),(8,.str E)],[(2,List.set (bp dX) 61 (.nils)),(6,aG b),(7,List.set (bp ({ dX with Text:=(bytesOf v6) }:aQ)) 61 (.nils))],[],[2,6,7]⟩ ?_ (by subst t;kernel_rfl);refine aj 2 ?_;obtain⟨H,u,h⟩:=aw h;exact aR (K8 j u) (ae (ah 0 (Rq j h)))
  ·exact ai 36 g (ah 2 (Rq j h))
 ·subst f;have h:=d;refine av 2 3 1 (aj 1 ?_);obtain⟨v,h⟩:=aB h;refine au (bX aX aX v (ft) ap) (ae ?_);obtain⟨c,w,h⟩:=cc h;refine bC (ks':=[hJ 62,hJ 63]) 1 ⟨[(0,.sl (lm aX a)),(2,.ptr 2 0),(3,.ptr 451119 0),(6,.ptr 6 0)],[(2,List.set (bp dX) 61 (.nils)),(6,aG c),(451119,[.nilp,.ref 401119])],[(401119,(bY v6))],[2,6,451119,401119]⟩ ?_ (by subst w;kernel_rfl);refine aj 0 ?_;obtain⟨x,h⟩:=aB h;refine FE 451119 401119 (L:=v6) x (ae (cj 12 13 7 4 (aj 2 (au (bF aX a) (aW 4 1 ?_)))));obtain⟨y,h⟩:=aB h;refine au (bX aX aX y (ft) ap) (ae ?_);obtain⟨F,z,h⟩:=cc h;refine bC (ks':=[hJ 509,hJ 255]) 0 ⟨[(2,.ptr 2 0),(6,.ptr 6 0),(7,.ptr 7 0),(8,.str (bytesOf v6)),(36,.bool F)],[(2,List.set (bp dX) 61 (.nils)),(6,aG c),(7,List.set (bp ({ dX with Text:=(bytesOf v6) }:aQ)) 61 (.nils))],[],[2,6,7]⟩ ?_ (by subst z;kernel_rfl);obtain⟨i,h⟩|⟨i,h⟩:=ao h
  ·refine ai 36 i (av 4 5 2 (aj 4 ?_));obtain⟨A,h⟩:=aB h;refine au (Cy A) (ae ?_);obtain⟨G,B,h⟩:=cc h;refine bC (ks':=[hJ 2037,hJ 255]) 0 ⟨[(2,.ptr 2 0),(6,.ptr 6 0),(7,.ptr 7 0),(8,.str G)],[(2,List.set (bp dX) 61 (.nils)),(6,aG c),(7,List.set (bp ({ dX with Text:=(bytesOf v6) }:aQ)) 61 (.nils))],[],[2,6,7]⟩ ?_ (by subst B;kernel_rfl);refine aj 2 ?_;obtain⟨I,C,h⟩:=aw h;exact aR (K8 j C) (ae (ah 0 (Wh j h)))
  ·exact ai 36 i (ah 2 (Wh j h))
def ak7(f:am K)(d:VR M e r a k l)(h:yM K n a l v4 v5 v6=some r):BI M e r (hJ 116::aiu M e r k) (SA a v4 v5 v6):=by
 unfold yM at h;rcases ao h with⟨m,b⟩|⟨m,b⟩
 ·subst m;have h:=b;refine av 6 7 3 ?_;obtain⟨o,h⟩|⟨o,h⟩:=ao h
  ·refine ai 12 o (cX 8 9 1 3 5 (aj 0 ?_));obtain⟨p,h⟩:=aB h;refine au (bX aX aX p (ft) ap) (ae (aj 2 ?_));obtain⟨q,g,h⟩:=aw h;exact kI 401119 9 [(451119,450119)] (QK f g) (ae (ah 2 (bu (d h))))
  ·exact ai 12 o (ah 5 (NL f h))
 ·subst m;have h:=b;refine av 6 7 3 ?_;obtain⟨c,h⟩|⟨c,h⟩:=ao h
  ·refine ai 12 c (cX 8 9 1 3 5 (aj 0 ?_));obtain⟨i,h⟩:=aB h;refine au (bX aX aX i (ft) ap) (ae (aj 2 ?_));obtain⟨s,j,h⟩:=aw h;exact kI 401119 9 [(451119,450119)] (QK f j) (ae (ah 2 (bu (d h))))
  ·exact ai 12 c (ah 5 (NL f h))
def abV(b:am K)(m:Nat):VR M e r a m (vj K n a m):=by
 induction m with
 | zero=>exact fun h=>nomatch h
 | succ m c=>exact fun h=>bq (ak7 b c h)
def Xg(b:am K)(h:EZ K n a=some r):aZ aT 156 [.sl (lm aX a)] (fun v _=>v=.agg (bp r)):=by
 refine bK (cat Tryz.f156 (pn 1)) Tryz.func156 Tryz.ntmps156 fun M e=>(bn ⟨[(0,.sl (lm aX a))],[],[],[]⟩ ?_);unfold EZ at h;exact av 6 7 3 (aj 0 (O2 451119 (T:=119) (d:=3) (cs:=[.nilp,.nils]) (ae (cj 4 5 3 2 (aj 1 (au (bF aX a) (ae (ic 2 0 1 (bV [0,2,3,9,10,11] [2,451119] [] (sC 401119 451119 1 5 1 (ah 0 (cf (p:=pn 58) n (abV b n h)))))))))))))
end
section
variable[GS](M:Nat→Prop)(i:az)(r:dO)(x:dn)(y:Unit)(c:dw)(a:Int)(f:dO)(g:Bool)(d:Int)(t:Bool)(o:Int)(q:aQ)(j u:Nat)(l:Int→dO→Option dO)(w:Int→Option dO)
abbrev Aa:Cx:=⟨aT,120,M,i⟩
abbrev xx:=bodyPost aT Tryz.f112 (bP M i (fun v s=>v=.ref 117∧look 117 s.r=some ⟨165,62,lm bp r⟩))
abbrev A3(a:ck)(s:AS):=VE (Aa M i) (xx M i r) a .normal s
abbrev fZ(n:Nat):aq:=.c (cat Tryz.f112 (pn n))
abbrev IK:ck:=[.b 0,fZ 31]
abbrev lR:ck:=kl (Aa M i) (xx M i r) IK (cat Tryz.f112 (pn 244)) j::IK
abbrev Kf:ck:=.b 3::fZ 4009823 :: .b 2::fZ 31327 :: .b 1::lR M i r j
abbrev LV:ck:=kl (Aa M i) (xx M i r) (Kf M i r j) (cat Tryz.f112 (pn 16039288)) u::(Kf M i r j)
def akC:AS:=⟨[(5,.sl (lm aX c)),(6,.ref 117),(8,.ptr 8 0),(9,.bool g),(10,.ptr 10 0),(11,iI o)],[(8,aX (gD c a)),(10,bp q)],[(117,⟨165,62,lm bp f⟩)],[8,10,117]⟩
def ahH:AS:=⟨[(5,.sl (lm aX c)),(6,.ref 117),(7,iI a),(8,.ptr 8 0),(9,.bool g),(10,.ptr 10 0),(11,iI d),(81,.bool t)],[(8,aX (gD c a)),(10,List.set (bp dX) 61 (.nils))],[(117,⟨165,62,lm bp f⟩)],[8,10,117]⟩
def Rm:AS:=⟨[(5,.sl (lm aX c)),(6,.ref 117),(7,iI a),(8,.ptr 8 0),(9,.bool g),(10,.ptr 10 0),(11,iI d)],[(8,aX (gD c a)),(10,List.set (bp dX) 61 (.nils))],[(117,⟨165,62,lm bp f⟩)],[8,10,117]⟩
def adQ:AS:=⟨[(5,.sl (lm aX c)),(6,.ref 117),(7,iI a),(8,.ptr 8 0),(9,.bool g)],[(8,aX (gD c a))],[(117,⟨165,62,lm bp f⟩)],[8,117]⟩
def Ve:AS:=⟨[(5,.sl (lm aX c)),(6,.ref 117),(7,iI a)],[],[(117,⟨165,62,lm bp f⟩)],[117]⟩
abbrev rX:Prop:=∀{a:Int} {f:dO},l a f=some r→LP (Aa M i) (xx M i r) IK (cat Tryz.f112 (pn 244)) j (Ve c a f)
abbrev FN:Prop:=∀{d:Int},w d=some r→LP (Aa M i) (xx M i r) (Kf M i r j) (cat Tryz.f112 (pn 16039288)) u (Rm c a f g d)
variable{M i r x y c a f g d t o q j u l w}{K:Kn}{n:Nat}
def NM(s:am K)(k:rX M i r c j l)(h:nV K n c a f g l o q=some r):A3 M i r (.b 2::fZ 31327 :: .b 1::lR M i r j) (akC c a f g o q):=by
 unfold nV at h;refine gY 2 3 2 (bV [5,6,8,9,10,11] [8,10] [117] (ci 3 (nu 100 [.ptr 8 4,.cptr (aD ((gD c a).Box)),.cptr (aD ((gD c a).Box)),.cptr (List.drop 1 (aD ((gD c a).Box))),iI (((gD c a).Box).Node),.ptr 8 4,.cptr (aD ((gD c a).Box)),.cptr (aD ((gD c a).Box)),.cptr (List.drop 2 (aD ((gD c a).Box))),.agg (aG (((gD c a).Box).Style)),.bool g,.ptr 10 0,.ptr 10 2,.ptr 10 59]) [] [] [cF aT 120 Tryz.f112 (pn 62654) 12,cF aT 120 Tryz.f112 (pn 62654) 14,cF aT 120 Tryz.f112 (pn 62654) 16] (aE [.v 0 1,.v 0 1,.v 0 1,.v 0 1,.v 0 1,.v 0 2,.v 0 2,.v 0 2,.v 0 2,.v 0 2,.v 0 3,.v 0 1] (ax (cE 0) (aE [.v 1 1] (ax (cE 1) (aE [.v 2 1] (ax (cE 2) cg)))))) ?_));obtain⟨m,b,h⟩:=cc h;obtain⟨p,d,h⟩:=cc h;refine bC (ks':=fZ 125310::fZ 125311 :: .b 1::lR M i r j) 1 ⟨[(5,.sl (lm aX c)),(6,.ref 117),(10,.ptr 10 0),(11,iI o)],[(10,bp ({ q with Node:=m,Style:=p,Glued:=g }:aQ))],[(117,⟨165,62,lm bp f⟩)],[10,117]⟩ ?_ (by subst d;subst b;kernel_rfl)
 refine aj 3 ?_;obtain⟨e,h⟩:=aB h;exact au (cG 117 117 165 62 bp (rfl) (km) e) (ae (ah 2 (bu (k h))))
def EI(s:am K)(p:rX M i r c j l)(q:FN M i r c a f g j u w)(h:mE K n c a f g d l w t=some r):A3 M i r (fZ 64157153::fZ 32078577::LV M i r j u) (ahH c a f g d t):=by
 unfold mE at h;obtain⟨b,h⟩|⟨b,h⟩:=ao h
 ·exact ai 81 b (ah 5 (bu (q h)))
 ·refine ai 81 b (bW (ks':=fZ 4009823 :: .b 2::fZ 31327 :: .b 1::lR M i r j) 5 (aj 3 ?_));obtain⟨m,h⟩:=aB h;refine au (kS aX c a d 206 (.tmp 84) (some (.tmp 85)) (some (.tmp 86)) 87 (e:=210) (sz:=5) (by kernel_rfl) (by kernel_rfl) (by kernel_rfl) (by kernel_rfl) (by kernel_rfl) (by kernel_rfl) (ft) (fun k v=>by subst v;kernel_rfl) m) ?_;obtain⟨x,o,h⟩:=aw h;exact aR (Xg s o) (ae (ah 0 (NM s p h)))
def ajR(x:am K)(o:rX M i r c j l)(p:FN M i r c a f g j u w)(h:AZ K n c a f g l w d=some r):A3 M i r (fZ 16039288::LV M i r j u) (Rm c a f g d):=by
 unfold AZ at h;refine cj 4 5 3 2 (bV [5,6,7,8,9,10,11] [8,10] [117] ?_);obtain⟨k,h⟩|⟨k,h⟩:=ao h
 ·obtain⟨q,h⟩:=aB h;obtain⟨m,h⟩|⟨m,h⟩:=ao h
  ·obtain⟨v,h⟩:=aB h;obtain⟨s,h⟩|⟨s,h⟩:=ao h
   ·obtain⟨y,h⟩:=aB h;obtain⟨z,h⟩:=aB h;obtain⟨t,A,h⟩:=aw h;exact ci 0 (nu 47 [iI d,.sl (lm aX c),iI (c.length:Int),.bool (decide (d<(c.length:Int))),.bool true,.sl (lm aX c),iI d,.cptr (aX (gD c d)),.cptr (List.drop 0 (aX (gD c d))),iI ((gD c d).Kind),.bool (((gD c d).Kind) == 1),.bool (((gD c d).Kind) == 1),.bool true,.sl (lm aX c),iI d,.cptr (aX (gD c d)),.cptr (List.drop 1 (aX (gD c d))),iI ((gD c d).Of),.ptr 8 1,iI ((gD c a).Of),.bool (((gD c d).Of) == ((gD c a).Of)),.bool (((gD c d).Of) == ((gD c a).Of)),.bool true,.sl (lm aX c),iI d,iI (aa (d-1)),.cptr (aX (gD c ((aa (d-1))))),.agg (aX (gD c ((aa (d-1))))),.sl (lm aX c),iI d,.cptr (aX (gD c d)),.agg (aX (gD c d)),.bool t,.bool (!t),.bool (!t)]) [] [] [] (aE (vz 2) (bE (bF aX c) (aE [.v 0 1] (ax (iB 0 51 (e:=(decide (d<(c.length:Int)))) (b:=true) k) (aE (vz 2) (bE (bX aX aX q (ft) ap) (aE (vz 4) (ax (iB 0 59 (e:=(((gD c d).Kind) == 1)) (b:=true) m) (aE (vz 2) (bE (bX aX aX v (ft) ap) (aE (vz 6) (ax (iB 0 69 (e:=(((gD c d).Of) == ((gD c a).Of))) (b:=true) s) (aE (vz 3) (bE (bX aX aX y (ft) ap) (aE (vz 3) (bE (bX aX aX z (ft) ap) (aE [.v 0 1] (ax (cR 0 1 79 (Pe x A)) (aE (vz 2) cg))))))))))))))))))) (ah 0 (EI x o p h))
   ·exact ci 0 (nu 47 [iI d,.sl (lm aX c),iI (c.length:Int),.bool (decide (d<(c.length:Int))),.bool true,.sl (lm aX c),iI d,.cptr (aX (gD c d)),.cptr (List.drop 0 (aX (gD c d))),iI ((gD c d).Kind),.bool (((gD c d).Kind) == 1),.bool (((gD c d).Kind) == 1),.bool true,.sl (lm aX c),iI d,.cptr (aX (gD c d)),.cptr (List.drop 1 (aX (gD c d))),iI ((gD c d).Of),.ptr 8 1,iI ((gD c a).Of),.bool (((gD c d).Of) == ((gD c a).Of)),.bool (((gD c d).Of) == ((gD c a).Of)),.bool false,bb,bb,bb,bb,bb,bb,bb,bb,bb,bb,bb,.bool false]) [] [] [] (aE (vz 2) (bE (bF aX c) (aE [.v 0 1] (ax (iB 0 51 (e:=(decide (d<(c.length:Int)))) (b:=true) k) (aE (vz 2) (bE (bX aX aX q (ft) ap) (aE (vz 4) (ax (iB 0 59 (e:=(((gD c d).Kind) == 1)) (b:=true) m) (aE (vz 2) (bE (bX aX aX v (ft) ap) (aE (vz 6) (ax (iB 0 69 (e:=(((gD c d).Of) == ((gD c a).Of))) (b:=false) s) (ax (bO 0 1) (ax (bO 0 1) (ax (bO 0 1) (ax (bO 0 1) (ax (bO 0 1) (ax (bO 0 1) (ax (bO 0 1) (ax (bO 0 1) (ax (bO 0 1) (ax (bO 0 1) (ax (bO 0 1) (aE [.v 0 1] cg)))))))))))))))))))))))) (ah 0 (EI x o p h))
  ·exact ci 0 (nu 47 [iI d,.sl (lm aX c),iI (c.length:Int),.bool (decide (d<(c.length:Int))),.bool true,.sl (lm aX c),iI d,.cptr (aX (gD c d)),.cptr (List.drop 0 (aX (gD c d))),iI ((gD c d).Kind),.bool (((gD c d).Kind) == 1),.bool (((gD c d).Kind) == 1),.bool false,bb,bb,bb,bb,bb,bb,bb,bb,.bool false,.bool false,bb,bb,bb,bb,bb,bb,bb,bb,bb,bb,bb,.bool false]) [] [] [] (aE (vz 2) (bE (bF aX c) (aE [.v 0 1] (ax (iB 0 51 (e:=(decide (d<(c.length:Int)))) (b:=true) k) (aE (vz 2) (bE (bX aX aX q (ft) ap) (aE (vz 4) (ax (iB 0 59 (e:=(((gD c d).Kind) == 1)) (b:=false) m) (ax (bO 0 1) (ax (bO 0 1) (ax (bO 0 1) (ax (bO 0 1) (ax (bO 0 1) (ax (bO 0 1) (ax (bO 0 1) (ax (bO 0 1) (aE (vz 2) (ax (bO 0 1) (ax (bO 0 1) (ax (bO 0 1) (ax (bO 0 1) (ax (bO 0 1) (ax (bO 0 1) (ax (bO 0 1) (ax (bO 0 1) (ax (bO 0 1) (ax (bO 0 1) (ax (bO 0 1) (aE [.v 0 1] cg))))))))))))))))))))))))))))) (ah 0 (EI x o p h))
 ·exact ci 0 (nu 47 [iI d,.sl (lm aX c),iI (c.length:Int),.bool (decide (d<(c.length:Int))),.bool false,bb,bb,bb,bb,bb,bb,.bool false,.bool false,bb,bb,bb,bb,bb,bb,bb,bb,.bool false,.bool false,bb,bb,bb,bb,bb,bb,bb,bb,bb,bb,bb,.bool false]) [] [] [] (aE (vz 2) (bE (bF aX c) (aE [.v 0 1] (ax (iB 0 51 (e:=(decide (d<(c.length:Int)))) (b:=false) k) (ax (bO 0 1) (ax (bO 0 1) (ax (bO 0 1) (ax (bO 0 1) (ax (bO 0 1) (ax (bO 0 1) (aE (vz 2) (ax (bO 0 1) (ax (bO 0 1) (ax (bO 0 1) (ax (bO 0 1) (ax (bO 0 1) (ax (bO 0 1) (ax (bO 0 1) (ax (bO 0 1) (aE (vz 2) (ax (bO 0 1) (ax (bO 0 1) (ax (bO 0 1) (ax (bO 0 1) (ax (bO 0 1) (ax (bO 0 1) (ax (bO 0 1) (ax (bO 0 1) (ax (bO 0 1) (ax (bO 0 1) (ax (bO 0 1) (aE [.v 0 1] cg)))))))))))))))))))))))))))))))) (ah 0 (EI x o p h))
def aaw(d:am K)(b:rX M i r c j l)(m:Nat):FN M i r c a f g j m (uV K n c a f g l m):=by
 induction m with
 | zero=>exact fun h=>nomatch h
 | succ m e=>exact fun h=>bq (ajR d b e h)
def Ko(s:am K)(e:rX M i r c j l)(h:qz K n c a f l g=some r):A3 M i r (fZ 3915 :: .b 1::lR M i r j) (adQ c a f g):=by
 unfold qz at h;obtain⟨o,k,h⟩:=cc h;refine bC (ks':=fZ 250613 :: .b 2::fZ 31327 :: .b 1::lR M i r j) 10 ⟨[(5,.sl (lm aX c)),(6,.ref 117),(7,iI a),(8,.ptr 8 0),(9,.bool g),(10,.ptr 10 0),(11,iI (aa (a+1))),(46,iI ((gD c a).Kind)),(89,.bool o)],[(8,aX (gD c a)),(10,List.set (bp dX) 61 (.nils))],[(117,⟨165,62,lm bp f⟩)],[8,10,117]⟩ ?_ (by subst k;kernel_rfl);obtain⟨b,h⟩|⟨b,h⟩:=ao h
 ·exact ai 89 b (bW (ks':=.b 2::fZ 31327 :: .b 1::lR M i r j) 2 (va 10 (ah 0 (NM s e h))))
 ·refine ai 89 b ?_;obtain⟨q,m,h⟩:=cc h;refine bC (ks':=fZ 1002455 :: .b 2::fZ 31327 :: .b 1::lR M i r j) 3 ⟨[(5,.sl (lm aX c)),(6,.ref 117),(7,iI a),(8,.ptr 8 0),(9,.bool g),(10,.ptr 10 0),(11,iI (aa (a+1))),(92,.bool q)],[(8,aX (gD c a)),(10,List.set (bp dX) 61 (.nils))],[(117,⟨165,62,lm bp f⟩)],[8,10,117]⟩ ?_ (by subst m;kernel_rfl);obtain⟨d,h⟩|⟨d,h⟩:=ao h
  ·refine ai 92 d ?_;cases h
  ·exact ai 92 d (ah 3 (cf (p:=pn 8019644) n (aaw s e n h)))
def aa9(q:am K)(m:rX M i r c j l)(h:Bh K n c l a f=some r):A3 M i r (fZ 244::lR M i r j) (Ve c a f):=by
 unfold Bh at h;refine cj 4 5 3 2 (aj 2 (au (bF aX c) (ae ?_)));obtain⟨g,h⟩|⟨g,h⟩:=ao h
 ·refine ai 17 g (bW (ks':=fZ 1956::fZ 1957 :: .b 1::lR M i r j) 4 (aj 2 ?_));obtain⟨s,h⟩:=aB h;refine au (bX aX aX s (ft) ap) (ae (av 2 3 1 (bV [5,6,7,8] [8] [117] ?_)));obtain⟨d,h⟩|⟨d,h⟩:=ao h
  ·obtain⟨p,h⟩:=aB h;obtain⟨k,h⟩|⟨k,h⟩:=ao h
   ·obtain⟨t,h⟩:=aB h;obtain⟨o,u,h⟩:=aw h;exact ci 1 (nu 22 [iI a,.bool (decide (a>0)),.bool true,.sl (lm aX c),iI a,iI (aa (a-1)),.cptr (aX (gD c ((aa (a-1))))),.cptr (List.drop 0 (aX (gD c ((aa (a-1)))))),iI ((gD c ((aa (a-1)))).Kind),.bool (((gD c ((aa (a-1)))).Kind) != 2),.bool (((gD c ((aa (a-1)))).Kind) != 2),.bool true,.sl (lm aX c),iI a,iI (aa (a-1)),.cptr (aX (gD c ((aa (a-1))))),.agg (aX (gD c ((aa (a-1))))),.agg (aX (gD c a)),.bool o,.bool (!o),.bool (!o)]) [] [] [cF aT 120 Tryz.f112 (pn 3914) 21] (aE (vz 2) (ax (iB 0 24 (e:=(decide (a>0))) (b:=true) d) (aE (vz 3) (bE (bX aX aX p (ft) ap) (aE (vz 4) (ax (iB 0 33 (e:=(((gD c ((aa (a-1)))).Kind) != 2)) (b:=true) k) (aE (vz 3) (bE (bX aX aX t (ft) ap) (aE (vz 2) (ax (cR 0 1 40 (Pe q u)) (aE (vz 2) (ax (cE 0) cg)))))))))))) (ah 0 (Ko q m h))
   ·exact ci 1 (nu 22 [iI a,.bool (decide (a>0)),.bool true,.sl (lm aX c),iI a,iI (aa (a-1)),.cptr (aX (gD c ((aa (a-1))))),.cptr (List.drop 0 (aX (gD c ((aa (a-1)))))),iI ((gD c ((aa (a-1)))).Kind),.bool (((gD c ((aa (a-1)))).Kind) != 2),.bool (((gD c ((aa (a-1)))).Kind) != 2),.bool false,bb,bb,bb,bb,bb,bb,bb,bb,.bool false]) [] [] [cF aT 120 Tryz.f112 (pn 3914) 21] (aE (vz 2) (ax (iB 0 24 (e:=(decide (a>0))) (b:=true) d) (aE (vz 3) (bE (bX aX aX p (ft) ap) (aE (vz 4) (ax (iB 0 33 (e:=(((gD c ((aa (a-1)))).Kind) != 2)) (b:=false) k) (ax (bO 0 1) (ax (bO 0 1) (ax (bO 0 1) (ax (bO 0 1) (ax (bO 0 1) (ax (bO 0 1) (ax (bO 0 1) (ax (bO 0 1) (aE [.v 0 1] (ax (cE 0) cg)))))))))))))))) (ah 0 (Ko q m h))
  ·exact ci 1 (nu 22 [iI a,.bool (decide (a>0)),.bool false,bb,bb,bb,bb,bb,bb,bb,.bool false,.bool false,bb,bb,bb,bb,bb,bb,bb,bb,.bool false]) [] [] [cF aT 120 Tryz.f112 (pn 3914) 21] (aE (vz 2) (ax (iB 0 24 (e:=(decide (a>0))) (b:=false) d) (ax (bO 0 1) (ax (bO 0 1) (ax (bO 0 1) (ax (bO 0 1) (ax (bO 0 1) (ax (bO 0 1) (ax (bO 0 1) (aE (vz 2) (ax (bO 0 1) (ax (bO 0 1) (ax (bO 0 1) (ax (bO 0 1) (ax (bO 0 1) (ax (bO 0 1) (ax (bO 0 1) (ax (bO 0 1) (aE [.v 0 1] (ax (cE 0) cg)))))))))))))))))))) (ah 0 (Ko q m h))
 ·refine ai 17 g (aM 8 ?_);cases h;exact eX
def ah7(a:am K)(m:Nat):rX M i r c m (tf K n c m):=by
 induction m with
 | zero=>exact fun h=>nomatch h
 | succ m b=>exact fun h=>bq (aa9 a b h)
def Jr(a:am K)(h:nj K n x y=some r):aZ aT 112 [.sl (lm aP x),.any] (fun v s=>v=.ref 117∧look 117 s.r=some ⟨165,62,lm bp r⟩):=by
 refine bK (cat Tryz.f112 (pn 1)) Tryz.func112 Tryz.ntmps112 fun M i=>(bn ⟨[(0,.sl (lm aP x)),(1,.any)],[],[],[]⟩ ?_);unfold nj at h;refine av 6 7 3 (aj 1 ?_);obtain⟨c,b,h⟩:=aw h;exact fc 1013 (Zk a b) (fk 400003) (ae (jb 26 0 7 6 (bV [5,6,7] [] [1013] (jz 1013 (fQ 117 6 165 62 (ah 0 (cf (p:=pn 122) n (ah7 a n h))))))))
end
section
variable[GS](M:Nat→Prop)(e:az)(r:ab×Int×Int×c6)(b:ag)(d:cb)(a:bN)(v4 v5:Int)(v6:c6)  
abbrev O4(n:Nat):aq:=.c (cat Tryz.f74 (pn n))
variable{M e r b d a v4 v5 v6}{K:Kn}{n:Nat}[SG e][PF a.Layout]
def Yr(g:am K)(h:Bf K n b d a v4 v5 v6=some r):eO aT 74 [.agg (aD b),.agg (cC d),.agg (ce a)] [(ac v4 v5)] (be v6) (fun v s=>v=.agg (aC r.1)∧cB s.o [(ac r.2.1 r.2.2.1)]∧look 440009 s.r=some (be r.2.2.2)):=by
 refine kx (c:=cat Tryz.f74 []) Tryz.func74 (by kernel_rfl) _ Tryz.ntmps74 (il (by kernel_rfl)) fun M e=>(bn ⟨[(0,.agg (aD b)),(1,.agg (cC d)),(2,.agg (ce a))],[(ac v4 v5)],[(440009,(be v6))],[440009,440001,1440001]⟩ ?_);unfold Bf at h;refine bW (ks':=[O4 6,O4 7]) 3 (aj 3 ?_);obtain⟨i,f,h⟩:=aw h;refine rx (WN g f) (ae (aM 1 ?_));cases h;exact gI
end
section
variable[GS](M:Nat→Prop)(d:az)(r:dO)(c:dn)(a:Int)(b:bN)  
variable{M d r c a b}{K:Kn}{n:Nat}
def ajJ(f:am K)(h:xl K n c a b=some r):aZ aT 109 [.sl (lm aP c),iI a,.agg (ce b)] (fun v s=>v=.ref 1009∧look 1009 s.r=some ⟨165,62,lm bp r⟩):=by
 refine bK (cat Tryz.f109 (pn 1)) Tryz.func109 Tryz.ntmps109 fun M d=>(bn ⟨[(0,.sl (lm aP c)),(1,iI a),(2,.agg (ce b))],[],[],[]⟩ ?_);unfold xl at h;refine av 6 7 3 (aj 1 (mK 4 4 ([iI a]) (mK 5 5 (ce b) (rZ 147 #[(.tmp 4),(.tmp 5)] [.cptr ([iI a]),.cptr (ce b)] (KR 8 ?_)))));obtain⟨v4,e,h⟩:=aw h;refine fc 1009 (Jr f e) (fk 117) (ae (aM 1 ?_));cases h;exact eX
end
section
variable[GS](M:Nat→Prop)(a:az)(r:Int)(b:dO)(e v4:Int)(v5:Bool)(c:Nat)(d:Int→Option Int)
abbrev KO:Cx:=⟨aT,22,M,a⟩
abbrev Fq:=bodyPost aT Tryz.f115 (bP M a (fun v _=>v=iI r))
abbrev Pc(b:ck)(s:AS):=VE (KO M a) (Fq M a r) b .normal s
abbrev D7(n:Nat):aq:=.c (cat Tryz.f115 (pn n))
abbrev J4:ck:=[.b 0,D7 15]
abbrev Q7:ck:=kl (KO M a) (Fq M a r) J4 (cat Tryz.f115 (pn 56)) c::J4
def adq:AS:=⟨[(0,.sl (lm bp b)),(5,iI v4),(18,.bool v5)],[],[],[]⟩
def Oo:AS:=⟨[(0,.sl (lm bp b)),(5,iI v4)],[],[],[]⟩
abbrev Jq:Prop:=∀{v4:Int},d v4=some r→LP (KO M a) (Fq M a r) J4 (cat Tryz.f115 (pn 56)) c (Oo b v4)
variable{M a r b e v4 v5 c d}{K:Kn}{n:Nat}
def Ux(g:am K)(f:Jq M a r b c d)(h:t9 K n b v4 d v5=some r):Pc M a r (D7 225::D7 113::Q7 M a r c) (adq b v4 v5):=by
 unfold t9 at h;obtain⟨e,h⟩|⟨e,h⟩:=ao h
 ·exact ai 18 e (ah 5 (bu (f h)))
 ·refine ai 18 e (aM 8 ?_);cases h;exact bD
def Yc(g:am K)(e:Jq M a r b c d)(h:zW K n b d v4=some r):Pc M a r (D7 56::Q7 M a r c) (Oo b v4):=by
 unfold zW at h;refine cj 4 5 3 2 (aj 2 (au (bF bp b) (aW 5 2 ?_)));obtain⟨f,h⟩|⟨f,h⟩:=ao h
 ·refine aF 12 f (aW 7 2 ?_);obtain⟨i,h⟩:=aB h;exact au (bX bp bp i (km) ap) (ae (ah 0 (Ux g e h)))
 ·exact aF 12 f (ae (ah 0 (Ux g e h)))
def YO(c:am K)(m:Nat):Jq M a r b m (AI K n b m):=by
 induction m with
 | zero=>exact fun h=>nomatch h
 | succ m d=>exact fun h=>bq (Yc c d h)
def G0(c:am K)(h:rz K n b e=some r):aZ aT 115 [.sl (lm bp b),iI e] (fun v _=>v=iI r):=by
 refine bK (cat Tryz.f115 (pn 1)) Tryz.func115 Tryz.ntmps115 fun M a=>(bn ⟨[(0,.sl (lm bp b)),(1,iI e)],[],[],[]⟩ ?_);unfold rz at h;exact ah 6 (cf (p:=pn 28) n (YO c n h))
end
section
variable[GS](M:Nat→Prop)(a:az)(r:Int)(b:dO)(c:Int)(d:Nat)(e:Int→Option Int)
abbrev Lr:Cx:=⟨aT,18,M,a⟩
abbrev HK:=bodyPost aT Tryz.f150 (bP M a (fun v _=>v=iI r))
abbrev alb(b:ck)(s:AS):=VE (Lr M a) (HK M a r) b .normal s
abbrev Uz(n:Nat):aq:=.c (cat Tryz.f150 (pn n))
abbrev I5:ck:=[.b 0,Uz 7]
abbrev ad8:ck:=kl (Lr M a) (HK M a r) I5 (cat Tryz.f150 (pn 52)) d::I5
def OS:AS:=⟨[(0,.sl (lm bp b)),(3,iI c)],[],[],[]⟩
abbrev VM:Prop:=∀{c:Int},e c=some r→LP (Lr M a) (HK M a r) I5 (cat Tryz.f150 (pn 52)) d (OS b c)
variable{M a r b c d e}{K:Kn}{n:Nat}
def acK(k:am K)(i:VM M a r b d e)(h:ru K n b e c=some r):alb M a r (Uz 52::ad8 M a r d) (OS b c):=by
 unfold ru at h;refine av 5 3 3 ?_;obtain⟨f,h⟩|⟨f,h⟩:=ao h
 ·refine ai 8 f (cX 8 9 1 3 5 (aj 2 ?_));obtain⟨j,h⟩:=aB h;refine au (bX bp bp j (km) ap) (ae ?_);obtain⟨g,h⟩|⟨g,h⟩:=ao h
  ·refine ai 16 g (aM 9 ?_);cases h;exact bD
  ·exact ai 16 g (ah 4 (bu (i h)))
 ·refine ai 8 f (aM 8 ?_);cases h;exact bD
def ac1(c:am K)(m:Nat):VM M a r b m (rT K n b m):=by
 induction m with
 | zero=>exact fun h=>nomatch h
 | succ m d=>exact fun h=>bq (acK c d h)
def M0(c:am K)(h:pG K n b=some r):aZ aT 150 [.sl (lm bp b)] (fun v _=>v=iI r):=by
 refine bK (cat Tryz.f150 (pn 1)) Tryz.func150 Tryz.ntmps150 fun M a=>(bn ⟨[(0,.sl (lm bp b))],[],[],[]⟩ ?_);unfold pG at h;exact cj 12 13 7 4 (aj 1 (au (bF bp b) (ae (ah 1 (cf (p:=pn 26) n (ac1 c n h))))))
end
section
variable[GS](M:Nat→Prop)(a:az)(r:Int)(b:dO)(c d v5:Int)(e:Nat)(f:Int→Int→Option Int)
abbrev FS:Cx:=⟨aT,33,M,a⟩
abbrev Hq:=bodyPost aT Tryz.f116 (bP M a (fun v _=>v=iI r))
abbrev UJ(b:ck)(s:AS):=VE (FS M a) (Hq M a r) b .normal s
abbrev GY(n:Nat):aq:=.c (cat Tryz.f116 (pn n))
abbrev Hj:ck:=[.b 0,GY 15]
abbrev Z1:ck:=kl (FS M a) (Hq M a r) Hj (cat Tryz.f116 (pn 116)) e::Hj
def akr:AS:=⟨[(3,iI v5)],[],[],[]⟩
def PI:AS:=⟨[(0,.sl (lm bp b)),(3,iI c),(7,.sl (lm bp b)),(8,iI (b.length:Int)),(9,iI d)],[],[],[]⟩
abbrev M4:Prop:=∀{c:Int} {d:Int},f c d=some r→LP (FS M a) (Hq M a r) Hj (cat Tryz.f116 (pn 116)) e (PI b c d)
variable{M a r b c d v5 e f}{K:Kn}{n:Nat}
def Pa(b:am K)(h:xv K n v5=some r):UJ M a r [GY 31] (akr v5):=by
 unfold xv at h;refine aM 3 ?_;cases h;exact bD
def Xo(j:am K)(k:M4 M a r b e f)(h:AW K n b f c d=some r):UJ M a r (GY 116::Z1 M a r e) (PI b c d):=by
 unfold AW at h;refine av 6 7 3 ?_;obtain⟨g,h⟩|⟨g,h⟩:=ao h
 ·refine ai 10 g (cX 8 9 1 3 5 (aj 0 ?_));obtain⟨l,h⟩:=aB h;exact au (bX bp bp l (km) ap) (ae (ah 3 (bu (k h))))
 ·refine ai 10 g (yo 4 5 3 7 (aj 1 ?_));obtain⟨v4,m,h⟩:=aw h;refine aR (M0 j m) (ae (br 3 2 ?_));obtain⟨i,h⟩|⟨i,h⟩:=ao h
  ·refine ai 24 i (br 2 1 (aj 3 ?_));obtain⟨o,h⟩:=aB h;exact au (bX bp bp o (km) ap) (ae (ah 0 (Pa j h)))
  ·exact ai 24 i (ah 2 (Pa j h))
def XX(c:am K)(m:Nat):M4 M a r b m (Au K n b m):=by
 induction m with
 | zero=>exact fun h=>nomatch h
 | succ m d=>exact fun h=>bq (Xo c d h)
def Dt(c:am K)(h:pS K n b=some r):aZ aT 116 [.sl (lm bp b)] (fun v _=>v=iI r):=by
 refine bK (cat Tryz.f116 (pn 1)) Tryz.func116 Tryz.ntmps116 fun M a=>(bn ⟨[(0,.sl (lm bp b))],[],[],[]⟩ ?_);unfold pS at h;exact cj 28 29 15 6 (aj 1 (au (bF bp b) (ae (ah 1 (cf (p:=pn 58) n (XX c n h))))))
end
section
variable[GS](M:Nat→Prop)(c:az)(r:b5)(d:dO)(f a:Int)(b:b5)(g:Int)(l:Bool)(i o:Nat)(j:Int→b5→Option b5)(q:Int→Option b5)
abbrev AJ:Cx:=⟨aT,46,M,c⟩
abbrev xM:=bodyPost aT Tryz.f110 (bP M c (fun v s=>v=.ref 16∧look 16 s.r=some (bc r)))
abbrev Di(a:ck)(s:AS):=VE (AJ M c) (xM M c r) a .normal s
abbrev kY(n:Nat):aq:=.c (cat Tryz.f110 (pn n))
abbrev Fz:ck:=[.b 0,kY 15]
abbrev E4:ck:=kl (AJ M c) (xM M c r) Fz (cat Tryz.f110 (pn 116)) i::Fz
abbrev Ib:ck:=.b 2::kY 3735 :: .b 1::E4 M c r i
abbrev Hp:ck:=kl (AJ M c) (xM M c r) (Ib M c r i) (cat Tryz.f110 (pn 14936)) o::(Ib M c r i)
def af1:AS:=⟨[(0,.sl (lm bp d)),(1,iI f),(5,.ref 16),(7,iI g)],[],[(16,⟨3,1,lm (ak .i64) (b++[a])⟩)],[16]⟩
def ajU:AS:=⟨[(0,.sl (lm bp d)),(1,iI f),(5,.ref 16),(6,iI a),(7,iI g),(32,.bool l)],[],[(16,⟨3,1,lm (ak .i64) (b++[a])⟩)],[16]⟩
def OC:AS:=⟨[(0,.sl (lm bp d)),(1,iI f),(5,.ref 16),(6,iI a),(7,iI g)],[],[(16,⟨3,1,lm (ak .i64) (b++[a])⟩)],[16]⟩
def Rt:AS:=⟨[(0,.sl (lm bp d)),(1,iI f),(5,.ref 16),(6,iI a)],[],[(16,(bc b))],[16]⟩
abbrev s5:Prop:=∀{a:Int} {b:b5},j a b=some r→LP (AJ M c) (xM M c r) Fz (cat Tryz.f110 (pn 116)) i (Rt d f a b)
abbrev Kd:Prop:=∀{g:Int},q g=some r→LP (AJ M c) (xM M c r) (Ib M c r i) (cat Tryz.f110 (pn 14936)) o (OC d f a b g)
variable{M c r d f a b g l i o j q}{K:Kn}{n:Nat}
def MU(k:am K)(e:s5 M c r d f i j)(h:DX K n d f a b g j=some r):Di M c r (kY 3735 :: .b 1::E4 M c r i) (af1 d f a b g):=by
 unfold DX at h;exact ah 2 (bu (e h))
def RE(t:am K)(s:s5 M c r d f i j)(x:Kd M c r d f a b i o q)(h:uf K n d f a b g j q l=some r):Di M c r (kY 59745::kY 29873::Hp M c r i o) (ajU d f a b g l):=by
 unfold uf at h;obtain⟨m,h⟩|⟨m,h⟩:=ao h
 ·refine ai 32 m (bW (ks':=kY 119492::kY 119493 :: .b 3::Hp M c r i o) 4 (aj 2 ?_));obtain⟨y,u,h⟩:=aw h;refine aR (G0 t u) (ae (cj 4 5 3 2 (aj 3 ?_)));obtain⟨v,h⟩:=aB h;refine au (kS bp d a y 159 (.tmp 36) (some (.tmp 37)) (some (.tmp 38)) 39 (e:=165) (sz:=62) (by kernel_rfl) (by kernel_rfl) (by kernel_rfl) (by kernel_rfl) (by kernel_rfl) (by kernel_rfl) (km) (fun k z=>by subst z;kernel_rfl) v) ?_;obtain⟨A,w,h⟩:=aw h;refine aR (Dt t w) (ae ?_);obtain⟨p,h⟩|⟨p,h⟩:=ao h
  ·exact ai 42 p (ah 6 (MU t s h))
  ·exact ai 42 p (ah 4 (bu (x h)))
 ·exact ai 32 m (ah 5 (MU t s h))
def XF(p:am K)(k:s5 M c r d f i j)(l:Kd M c r d f a b i o q)(h:zi K n d f a b j q g=some r):Di M c r (kY 14936::Hp M c r i o) (OC d f a b g):=by
 unfold zi at h;refine cj 4 5 3 2 (aj 2 (au (bF bp d) (aW 5 2 ?_)));obtain⟨e,h⟩|⟨e,h⟩:=ao h
 ·refine aF 24 e (aW 8 3 ?_);obtain⟨m,h⟩:=aB h;exact au (bX bp bp m (km) ap) (ae (ah 0 (RE p k l h)))
 ·exact aF 24 e (ae (ah 0 (RE p k l h)))
def aiZ(g:am K)(e:s5 M c r d f i j)(m:Nat):Kd M c r d f a b i m (AP K n d f a b j m):=by
 induction m with
 | zero=>exact fun h=>nomatch h
 | succ m k=>exact fun h=>bq (XF g e k h)
def aat(m:am K)(l:s5 M c r d f i j)(h:Ba K n d f j a b=some r):Di M c r (kY 116::E4 M c r i) (Rt d f a b):=by
 unfold Ba at h;refine cj 4 5 3 2 (aj 2 (au (bF bp d) (ae ?_)));obtain⟨e,h⟩|⟨e,h⟩:=ao h
 ·refine ai 12 e (bW (ks':=kY 932::kY 933 :: .b 1::E4 M c r i) 4 (aj 3 ?_));obtain⟨g,h⟩:=aB h;refine au (cG 16 16 3 1 (ak .i64) (rfl) ap g) (ae (av 2 3 1 (aj 2 ?_)));obtain⟨o,k,h⟩:=aw h;exact aR (G0 m k) (ae (ah 2 (cf (p:=pn 7468) n (aiZ m l n h))))
 ·refine ai 12 e (aM 8 ?_);cases h;exact eX
def XV(a:am K)(m:Nat):s5 M c r d f m (zF K n d f m):=by
 induction m with
 | zero=>exact fun h=>nomatch h
 | succ m b=>exact fun h=>bq (aat a b h)
def aa8(a:am K)(h:z7 K n d f=some r):aZ aT 110 [.sl (lm bp d),iI f] (fun v s=>v=.ref 16∧look 16 s.r=some (bc r)):=by
 refine bK (cat Tryz.f110 (pn 1)) Tryz.func110 Tryz.ntmps110 fun M c=>(bn ⟨[(0,.sl (lm bp d)),(1,iI f)],[],[],[]⟩ ?_);unfold z7 at h;exact jb 58 0 15 8 (bV [0,1,5,6] [] [] (fQ 16 5 3 1 (ah 0 (cf (p:=pn 58) n (XV a n h)))))
end
section
variable[GS](M:Nat→Prop)(d:az)(r:Int)(a:aO)(b c:Int)  
variable{M d r a b c}{K:Kn}{n:Nat}
def aff(i:am K)(h:su K n a b c=some r):aZ aT 149 [.agg (aG a),iI b,iI c] (fun v _=>v=iI r):=by
 refine bK (cat Tryz.f149 (pn 1)) Tryz.func149 Tryz.ntmps149 fun M d=>(bn ⟨[(0,.agg (aG a)),(1,iI b),(2,iI c)],[],[],[]⟩ ?_);unfold su at h;refine av 13 7 5 ?_;obtain⟨e,h⟩|⟨e,h⟩:=ao h
 ·refine ai 9 e (aM 5 ?_);cases h;exact bD
 ·refine ai 9 e (GX 21 0 3 8 ?_);obtain⟨f,h⟩|⟨f,h⟩:=ao h
  ·refine ai 12 f (aM 6 ?_);cases h;exact bD
  ·refine ai 12 f (br 7 3 ?_);obtain⟨g,h⟩|⟨g,h⟩:=ao h
   ·refine ai 18 g (aM 6 ?_);cases h;exact bD
   ·refine ai 18 g (aM 6 ?_);cases h;exact bD
end
section
variable[GS](M:Nat→Prop)(a:az)(r:Bool)(b c:ByteArray)(d:Bool)  
abbrev abR(n:Nat):aq:=.c (cat Tryz.f173 (pn n))
abbrev aad:Cx:=⟨aT,21,M,a⟩
abbrev Yx:=bodyPost aT Tryz.f173 (bP M a (fun v _=>v=.bool r))
abbrev ahu(b:ck)(s:AS):=VE (aad M a) (Yx M a r) b .normal s
def aaY:AS:=⟨[(4,.bool d)],[],[],[]⟩
variable{M a r b c d}{K:Kn}{n:Nat}
def LX(b:am K)(h:Av K n d=some r):ahu M a r [abR 7] (aaY d):=by
 unfold Av at h;refine aM 1 ?_;cases h;exact bD
def abF(e:am K)(h:Ek K n b c=some r):aZ aT 173 [.str b,.str c] (fun v _=>v=.bool r):=by
 refine bK (cat Tryz.f173 (pn 1)) Tryz.func173 Tryz.ntmps173 fun M a=>(bn ⟨[(0,.str b),(1,.str c)],[],[],[]⟩ ?_);unfold Ek at h;refine av 6 7 3 (aj 6 ?_);obtain⟨d,h⟩|⟨d,h⟩:=ao h
 ·refine aF 10 d (aW 12 6 ?_);obtain⟨f,h⟩:=aB h;exact au (Cy f) (ae (ah 0 (LX e h)))
 ·exact aF 10 d (ae (ah 0 (LX e h)))
end
section
variable[GS](M:Nat→Prop)(c:az)(r:Bool)(a b:ByteArray)  
variable{M c r a b}{K:Kn}{n:Nat}
def ad3(e:am K)(h:xN K n a b=some r):aZ aT 151 [.str a,.str b] (fun v _=>v=.bool r):=by
 refine bK (cat Tryz.f151 (pn 1)) Tryz.func151 Tryz.ntmps151 fun M c=>(bn ⟨[(0,.str a),(1,.str b)],[],[],[]⟩ ?_);unfold xN at h;refine av 6 7 3 (aj 2 ?_);obtain⟨f,d,h⟩:=aw h;refine aR (abF e d) (ae (aM 1 ?_));cases h;exact bD
end
section
variable[GS](M:Nat→Prop)(i:az)(r:ab)(e:dO)(j:aO)(k d l q x y c f g:Int)(o:b7)(z:Bool)(a:aQ)(A:b7)(b:Int)(t:b7)(B u C:Nat)(D:Int→Int→Int→Option ab)(w:Int→Int→b7→Option ab)(E:Int→b7→Option ab)
abbrev rI:Cx:=⟨aT,156,M,i⟩
abbrev sf:=bodyPost aT Tryz.f111 (bP M i (fun v s=>v=.agg (List.set (aC ({ r with Kids:=[] }:ab)) 66 (.ref 114))∧look 114 s.r=some (bf r.Kids)))
abbrev qr(a:ck)(s:AS):=VE (rI M i) (sf M i r) a .normal s
abbrev fd(n:Nat):aq:=.c (cat Tryz.f111 (pn n))
abbrev HR:ck:=[.b 2,fd 255]
abbrev ue:ck:=kl (rI M i) (sf M i r) HR (cat Tryz.f111 (pn 2036)) u::HR
abbrev GI:ck:=[.b 0,fd 15]
abbrev OH:ck:=kl (rI M i) (sf M i r) GI (cat Tryz.f111 (pn 116)) B::GI
abbrev Lf:ck:=.b 4::fd 521423 :: .b 3::fd 16295::ue M i r u
abbrev Jo:ck:=kl (rI M i) (sf M i r) (Lf M i r u) (cat Tryz.f111 (pn 4171380)) C::(Lf M i r u)
def ZL:AS:=⟨[(0,.sl (lm bp e)),(2,iI k),(4,.ptr 4 0),(6,.ptr 6 0),(7,iI x),(8,iI y),(24,.sl (lm bp e)),(25,iI (e.length:Int)),(26,iI q)],[(4,aG j),(6,List.set (aC bU) 66 (.nils))],[],[4,6]⟩
def VP:AS:=⟨[(6,.ptr 6 0),(7,iI d),(11,.ptr 11 0),(12,iI f),(13,iI c),(15,.ptr 15 0),(56,.sl (lm bp e)),(57,iI (e.length:Int)),(58,iI g),(117,.sl (lm aN a.Box)),(118,iI (a.Box.length:Int)),(119,iI b)],[(6,List.set (aC bU) 66 (.nils)),(11,List.set (aC ({ bU with Kind:=2,W:=k,H:=(aa (d+l)),az:=d,Style:=j }:ab)) 66 (.ref 114)),(15,bp a)],[(114,(bf t))],[6,11,15,114]⟩
def ab8:AS:=⟨[(6,.ptr 6 0),(7,iI d),(11,.ptr 11 0),(12,iI f),(13,iI c),(15,.ptr 15 0),(56,.sl (lm bp e)),(57,iI (e.length:Int)),(58,iI g)],[(6,List.set (aC bU) 66 (.nils)),(11,List.set (aC ({ bU with Kind:=2,W:=k,H:=(aa (d+l)),az:=d,Style:=j }:ab)) 66 (.ref 114)),(15,bp a)],[(114,(bf A))],[6,11,15,114]⟩
def aek:AS:=⟨[(6,.ptr 6 0),(7,iI d),(11,.ptr 11 0),(12,iI f),(13,iI c),(15,.ptr 15 0),(56,.sl (lm bp e)),(57,iI (e.length:Int)),(58,iI g)],[(6,List.set (aC bU) 66 (.nils)),(11,List.set (aC ({ bU with Kind:=2,W:=k,H:=(aa (d+l)),az:=d,Style:=j }:ab)) 66 (.ref 114)),(15,bp a)],[(114,(bf o))],[6,11,15,114]⟩
def aib:AS:=⟨[(6,.ptr 6 0),(7,iI d),(11,.ptr 11 0),(12,iI f),(13,iI c),(15,.ptr 15 0),(56,.sl (lm bp e)),(57,iI (e.length:Int)),(58,iI g),(76,.bool z)],[(6,List.set (aC bU) 66 (.nils)),(11,List.set (aC ({ bU with Kind:=2,W:=k,H:=(aa (d+l)),az:=d,Style:=j }:ab)) 66 (.ref 114)),(15,bp (gD e g))],[(114,(bf o))],[6,11,15,114]⟩
def WZ:AS:=⟨[(6,.ptr 6 0),(7,iI d),(11,.ptr 11 0),(12,iI f),(13,iI c),(56,.sl (lm bp e)),(57,iI (e.length:Int)),(58,iI g)],[(6,List.set (aC bU) 66 (.nils)),(11,List.set (aC ({ bU with Kind:=2,W:=k,H:=(aa (d+l)),az:=d,Style:=j }:ab)) 66 (.ref 114))],[(114,(bf o))],[6,11,114]⟩
def Vs:AS:=⟨[(0,.sl (lm bp e)),(2,iI k),(4,.ptr 4 0),(6,.ptr 6 0),(7,iI d),(8,iI l),(24,.sl (lm bp e)),(25,iI (e.length:Int)),(26,iI q)],[(4,aG j),(6,List.set (aC bU) 66 (.nils))],[],[4,6]⟩
abbrev Lm:Prop:=∀{d:Int} {l:Int} {q:Int},D d l q=some r→LP (rI M i) (sf M i r) GI (cat Tryz.f111 (pn 116)) B (Vs e j k d l q)
abbrev rt:Prop:=∀{f:Int} {g:Int} {o:b7},w f g o=some r→LP (rI M i) (sf M i r) HR (cat Tryz.f111 (pn 2036)) u (WZ e j k d l c f g o)
abbrev SF:Prop:=∀{b:Int} {t:b7},E b t=some r→LP (rI M i) (sf M i r) (Lf M i r u) (cat Tryz.f111 (pn 4171380)) C (VP e j k d l c f g a b t)
variable{M i r e j k d l q x y c f g o z a A b t B u C D w E}{K:Kn}{n:Nat}
def PB(b:am K)(a:Lm M i r e j k B D)(h:A5 K n e j k q D x y=some r):qr M i r (.b 1::fd 935::OH M i r B) (ZL e j k q x y):=by
 unfold A5 at h;exact ah 2 (bu (a h))
def ajj(hK:am K)(Y:rt M i r e j k d l c u w)(Z:SF M i r e j k d l c f g a u C E)(h:zf K n e j k d l c f g a w E b t=some r):qr M i r (fd 4171380::Jo M i r u C) (VP e j k d l c f g a b t):=by
 unfold zf at h;refine av 6 7 3 ?_;obtain⟨B,h⟩|⟨B,h⟩:=ao h
 ·refine ai 120 B (cX 8 9 5 3 5 (aj 0 ?_));obtain⟨G,h⟩:=aB h;refine au (bX aN aC G (ky) (dV)) (ae ?_);obtain⟨o,I,h⟩:=cc h;obtain⟨p,J,h⟩:=cc h;obtain⟨q,L,h⟩:=cc h;obtain⟨s,N,h⟩:=cc h;obtain⟨v,O,h⟩:=cc h;obtain⟨x,P,h⟩:=cc h;obtain⟨y,Q,h⟩:=cc h;obtain⟨m,R,h⟩:=cc h;obtain⟨z,S,h⟩:=cc h;obtain⟨A,T,h⟩:=cc h;refine bC (ks':=fd 533936742::fd 533936743 :: .b 5::fd 33371047::Jo M i r u C) 3 ⟨[(6,.ptr 6 0),(7,iI d),(11,.ptr 11 0),(12,iI f),(13,iI c),(15,.ptr 15 0),(18,.ptr 18 0),(56,.sl (lm bp e)),(57,iI (e.length:Int)),(58,iI g),(117,.sl (lm aN a.Box)),(118,iI (a.Box.length:Int)),(119,iI b)],[(6,List.set (aC bU) 66 (.nils)),(11,List.set (aC ({ bU with Kind:=2,W:=k,H:=(aa (d+l)),az:=d,Style:=j }:ab)) 66 (.ref 114)),(15,bp a),(18,aC (⟨o,p,q,(gD a.Box b).Y,(gD a.Box b).W,(gD a.Box b).H,s,v,x,y,m,z,A⟩:ab))],[(114,(bf t))],[6,11,15,18,114]⟩ ?_ (by subst T;subst S;subst R;subst Q;subst P;subst O;subst N;subst L;subst J;subst I;kernel_rfl)
  obtain⟨D,U,h⟩:=aw h;refine ci 1 (nu 128 [.ptr 18 3,iI ((gD a.Box b).Y),iI d,.ptr 18 5,iI ((gD a.Box b).H),iI (aa (d-((gD a.Box b).H))),.ptr 18 63,.agg (c8 m),iI D,iI (aa ((aa (d-((gD a.Box b).H)))-D)),iI (aa (((gD a.Box b).Y)+(aa ((aa (d-((gD a.Box b).H)))-D)))),.ptr 18 3]) [] [] [cF aT 156 Tryz.f111 (pn 533936742) 12] (aE (vz 8) (ax (cR 0 1 136 (n8 hK U)) (aE (vz 3) (ax (cE 0) cg)))) ?_;obtain⟨F,V,h⟩:=cc h;refine bC (ks':=fd 533936743 :: .b 5::fd 33371047::Jo M i r u C) 0 ⟨[(6,.ptr 6 0),(7,iI d),(11,.ptr 11 0),(12,iI f),(13,iI c),(15,.ptr 15 0),(18,.ptr 18 0),(56,.sl (lm bp e)),(57,iI (e.length:Int)),(58,iI g),(117,.sl (lm aN a.Box)),(118,iI (a.Box.length:Int)),(119,iI b)],[(6,List.set (aC bU) 66 (.nils)),(11,List.set (aC ({ bU with Kind:=2,W:=k,H:=(aa (d+l)),az:=d,Style:=j }:ab)) 66 (.ref 114)),(15,bp a),(18,aC (⟨o,p,q,F,(gD a.Box b).W,(gD a.Box b).H,s,v,x,y,m,z,A⟩:ab))],[(114,(bf t))],[6,11,15,18,114]⟩ ?_ (by subst V;kernel_rfl)
  refine aj 3 (au (ii aN ([(⟨o,p,q,F,(gD a.Box b).W,(gD a.Box b).H,s,v,x,y,m,z,A⟩:ab)]:b7) (new:=[aC (⟨o,p,q,F,(gD a.Box b).W,(gD a.Box b).H,s,v,x,y,m,z,A⟩:ab)]) (by simp only[n5,u7,dV])) ?_);obtain⟨X,h⟩:=aB h;exact au (cG 144 114 44 67 aN (rfl) (ky) X) (ae (ah 2 (bu (Z h))))
 ·exact ai 120 B (ah 8 (bu (Y h)))
def Xa(o:am K)(b:rt M i r e j k d l c u w)(m:Nat):SF M i r e j k d l c f g a u m (AA K n e j k d l c f g a w m):=by
 induction m with
 | zero=>exact fun h=>nomatch h
 | succ m p=>exact fun h=>bq (ajj o b p h)
def Tr(m:am K)(b:rt M i r e j k d l c u w)(h:uQ K n e j k d l c f g a w A=some r):qr M i r (fd 260711 :: .b 3::fd 16295::ue M i r u) (ab8 e j k d l c f g a A):=by
 unfold uQ at h;exact cj 4 5 3 2 (aj 2 (au (bF aN a.Box) (ae (ah 1 (cf (p:=pn 2085690) n (Xa m b n h))))))
def Uf(y:am K)(x:rt M i r e j k d l c u w)(h:ov K n e j k d l c f g o w a=some r):qr M i r (fd 130355 :: .b 3::fd 16295::ue M i r u) (aek e j k d l c f g o a):=by
 unfold ov at h;obtain⟨A,z,h⟩:=cc h;refine bC (ks':=fd 521421::fd 260711 :: .b 3::fd 16295::ue M i r u) 3 ⟨[(6,.ptr 6 0),(7,iI d),(11,.ptr 11 0),(12,iI f),(13,iI c),(15,.ptr 15 0),(56,.sl (lm bp e)),(57,iI (e.length:Int)),(58,iI g),(88,.bool A)],[(6,List.set (aC bU) 66 (.nils)),(11,List.set (aC ({ bU with Kind:=2,W:=k,H:=(aa (d+l)),az:=d,Style:=j }:ab)) 66 (.ref 114)),(15,bp a)],[(114,(bf o))],[6,11,15,114]⟩ ?_ (by subst z;kernel_rfl);obtain⟨q,h⟩|⟨q,h⟩:=ao h
 ·refine ai 88 q (br 5 3 (bV [6,7,11,12,13,15,16,56,57,58] [6,11,15] [114] ?_));obtain⟨b,s,h⟩:=aw h;obtain⟨p,t,h⟩:=aw h;obtain⟨v,h⟩:=aB h;exact ci 2 (nu 92 [.ptr 11 66,.ref 114,.ptr 15 0,iI a.Node,.ptr 15 2,.agg (aG a.Style),.ptr 15 1,.str a.Text,iI f,iI d,iI a.Style.FontSize,iI b,iI (aa (d-b)),.ptr 15 55,iI a.Width,.ptr 15 56,iI a.Space,iI (aa (a.Width+a.Space)),iI a.Style.FontSize,iI p,.agg (List.set (aC (⟨3,a.Node,f,(aa (d-b)),(aa (a.Width+a.Space)),p,0,a.Text,a.Style,dD,dD,false,[]⟩:ab)) 66 (.nils)),.sl (lm aN [(⟨3,a.Node,f,(aa (d-b)),(aa (a.Width+a.Space)),p,0,a.Text,a.Style,dD,dD,false,[]⟩:ab)])]++nu 115 [.ptr 11 66]) [] [] [gh 114 114 ⟨44,67,lm aN (o++[(⟨3,a.Node,f,(aa (d-b)),(aa (a.Width+a.Space)),p,0,a.Text,a.Style,dD,dD,false,[]⟩:ab)])⟩,cF aT 156 Tryz.f111 (pn 2085685) 24] (aE [.v 0 2,.v 0 1,.v 0 2,.v 0 2,.v 0 2,.v 0 2,.v 0 2,.v 0 2,.v 0 2,.v 0 2,.v 0 2] (ax (cR 0 2 103 (Wp y s)) (aE [.v 0 2,.v 0 2,.v 0 2,.v 0 2,.v 0 2,.v 0 2,.v 0 2] (ax (cR 0 1 111 (OU y t)) (aE [.v 0 2] (bE (ii aN ([(⟨3,a.Node,f,(aa (d-b)),(aa (a.Width+a.Space)),p,0,a.Text,a.Style,dD,dD,false,[]⟩:ab)]:b7) (new:=[aC (⟨3,a.Node,f,(aa (d-b)),(aa (a.Width+a.Space)),p,0,a.Text,a.Style,dD,dD,false,[]⟩:ab)]) (by simp only[n5,u7,dV])) (ax (dq (m:=0) (cG 114 114 44 67 aN (rfl) (ky) v)) (aE [.v 1 1] (ax (cE 1) cg))))))))) (ah 0 (Tr y x h))
 ·exact ai 88 q (ah 2 (Tr y x h))
def GA(p:am K)(b:rt M i r e j k d l c u w)(h:pI K n e j k d l c f g o w z=some r):qr M i r (fd 260709::fd 130355 :: .b 3::fd 16295::ue M i r u) (aib e j k d l c f g o z):=by
 unfold pI at h;obtain⟨a,h⟩|⟨a,h⟩:=ao h
 ·refine ai 76 a (av 4 5 2 (aj 6 ?_));obtain⟨m,h⟩:=aB h;exact au (Cy m) (ae (ah 1 (Uf p b h)))
 ·exact ai 76 a (ah 2 (Uf p b h))
def abe(q:am K)(p:rt M i r e j k d l c u w)(h:y3 K n e j k d l c w f g o=some r):qr M i r (fd 2036::ue M i r u) (WZ e j k d l c f g o):=by
 unfold y3 at h;refine av 6 7 3 ?_;obtain⟨a,h⟩|⟨a,h⟩:=ao h
 ·refine ai 59 a (cX 8 9 3 3 5 (aj 1 ?_));obtain⟨s,h⟩:=aB h;refine au (bX bp bp s (km) ap) (ae (cj 4 5 3 2 (aj 4 ?_)));obtain⟨b,h⟩|⟨b,h⟩:=ao h
  ·refine aF 66 b (aW 6 2 ?_);obtain⟨v,t,h⟩:=aw h;refine aR (ad3 q t) (aW 9 2 ?_);obtain⟨m,h⟩|⟨m,h⟩:=ao h
   ·exact aF 71 m (ae (ah 0 (GA q p h)))
   ·exact aF 71 m (ae (ah 0 (GA q p h)))
  ·exact aF 66 b (ae (ah 0 (GA q p h)))
 ·refine ai 59 a (aM 8 ?_);cases h;exact eX
def Y9(a:am K)(m:Nat):rt M i r e j k d l c m (py K n e j k d l c m):=by
 induction m with
 | zero=>exact fun h=>nomatch h
 | succ m b=>exact fun h=>bq (abe a b h)
def aiQ(a:am K)(b:Lm M i r e j k B D)(h:yH K n e j k D d l q=some r):qr M i r (fd 116::OH M i r B) (Vs e j k d l q):=by
 unfold yH at h;refine av 6 7 3 ?_;obtain⟨m,h⟩|⟨m,h⟩:=ao h
 ·refine ai 27 m (cX 8 9 1 3 5 (aj 0 ?_));obtain⟨u,h⟩:=aB h;refine au (bX bp bp u (km) ap) (ae (br 3 2 ?_));obtain⟨o,h⟩|⟨o,h⟩:=ao h
  ·exact ai 32 o (br 2 1 (bV [0,2,4,6,7,8,10,24,25,26] [4,6,10] [] (ci 2 (nu 33 [iI d,.ptr 10 57,iI ((gD e q).Above),iI (max d ((gD e q).Above)),iI l,.ptr 10 58,iI ((gD e q).Below),iI (max l ((gD e q).Below))]) [] [] [cF aT 156 Tryz.f111 (pn 14950) 8,cF aT 156 Tryz.f111 (pn 14950) 9] (aE [.v 0 1,.v 0 1,.v 0 1,.v 0 1,.v 0 2,.v 0 2,.v 0 2,.v 0 2] (ax (cE 0) (ax (cE 1) cg))) (ah 0 (PB a b h)))))
  ·exact ai 32 o (ah 2 (PB a b h))
 ·refine ai 27 m (gV 6 7 8 (bV [0,2,4,6,7,11] [4,6,11] [] ?_));obtain⟨s,v,h⟩:=aw h;obtain⟨t,f,h⟩:=aw h;refine ci 1 (nu 49 [.agg (aG j),iI k,.sl (lm bp e),iI s,iI t]) [] [] [cF aT 156 Tryz.f111 (pn 62) 5] (aE (vz 3) (ax (cR 0 1 52 (Dt a v)) (ax (cR 0 1 53 (aff a f)) (ax (cE 0) cg)))) (av 2 3 1 (aj 1 ?_));obtain⟨c,g,h⟩:=aw h;exact aR (M0 a g) (ae (cj 4 5 3 2 (aj 1 (au (bF bp e) (ae (ic 2 2 1 (bV [6,7,11,12,13,56,57,58] [6,11] [] (sC 114 11 66 44 67 (ah 0 (cf (p:=pn 1018) n (Y9 a n h)))))))))))
def YV(a:am K)(m:Nat):Lm M i r e j k m (wJ K n e j k m):=by
 induction m with
 | zero=>exact fun h=>nomatch h
 | succ m b=>exact fun h=>bq (aiQ a b h)
def alu(a:am K)(h:ET K n e j k=some r):aZ aT 111 [.sl (lm bp e),.agg (aG j),iI k] (fun v s=>v=.agg (List.set (aC ({ r with Kids:=[] }:ab)) 66 (.ref 114))∧look 114 s.r=some (bf r.Kids)):=by
 refine bK (cat Tryz.f111 (pn 1)) Tryz.func111 Tryz.ntmps111 fun M i=>(bn ⟨[(0,.sl (lm bp e)),(1,.agg (aG j)),(2,iI k)],[],[],[]⟩ ?_);unfold ET at h;refine av 6 7 3 (aj 1 ?_);obtain⟨v4,b,h⟩:=aw h;exact aR (GF a b) (ae (cj 4 5 3 2 (aj 1 (au (bF bp e) (ae (ah 1 (cf (p:=pn 58) n (YV a n h))))))))
end
section
variable[GS](M:Nat→Prop)(f:az)(r:b7×Int)(q:dn)(g:aO)(j:Int)(v4:bN)(v5:dO)(v6:b5)(b c a:Int)(d:b7)(l:Nat)(o:Int→Int→Int→b7→Option (b7×Int))
abbrev Lt:Cx:=⟨aT,61,M,f⟩
abbrev J2:=bodyPost aT Tryz.f53 (bP M f (fun v s=>v=.tup [.ref 57,iI r.2]∧look 57 s.r=some (bf r.1)))
abbrev aiM(a:ck)(s:AS):=VE (Lt M f) (J2 M f r) a .normal s
abbrev PL(n:Nat):aq:=.c (cat Tryz.f53 (pn n))
abbrev Ih:ck:=[.b 0,PL 63]
abbrev Zy:ck:=kl (Lt M f) (J2 M f r) Ih (cat Tryz.f53 (pn 500)) l::Ih
def MH:AS:=⟨[(2,iI (min (max j 0) 1048576)),(5,.ptr 5 0),(8,.ref 57),(9,iI b),(10,.sl (lm bp v5)),(11,.ref 1023),(30,iI c),(31,iI a)],[(5,aG g)],[(57,(bf d)),(1023,⟨3,1,lm (ak .i64) (v6++[(v5.length:Int)])⟩)],[5,57,1023]⟩
abbrev SH:Prop:=∀{b:Int} {c:Int} {a:Int} {d:b7},o b c a d=some r→LP (Lt M f) (J2 M f r) Ih (cat Tryz.f53 (pn 500)) l (MH g j v5 v6 b c a d)
variable{M f r q g j v4 v5 v6 b c a d l o}{K:Kn}{n:Nat}
def agS(x:am K)(w:SH M f r g j v5 v6 l o)(h:xq K n g j v5 v6 o b c a d=some r):aiM M f r (PL 500::Zy M f r l) (MH g j v5 v6 b c a d):=by
 unfold xq at h;refine av 6 7 3 ?_;obtain⟨p,h⟩|⟨p,h⟩:=ao h
 ·refine ai 32 p (cX 18 19 1 3 7 (bV [2,5,8,9,10,11,12,30,31] [5] [57,1023] ?_));obtain⟨q,h⟩:=aB h;obtain⟨s,h⟩:=aB h;obtain⟨t,h⟩:=aB h;obtain⟨m,u,h⟩:=aw h;refine ci 1 (nu 34 [.sl (lm bp v5),.ref 1023,iI a,.eptr 1023 1 (a.toNat) 0,iI (gD (v6++[(v5.length:Int)]) a),.ref 1023,iI a,iI (aa (a+1)),.eptr 1023 1 (((aa (a+1))).toNat) 0,iI (gD (v6++[(v5.length:Int)]) ((aa (a+1)))),.sl (lm bp (List.drop ((gD (v6++[(v5.length:Int)]) a)).toNat (List.take ((gD (v6++[(v5.length:Int)]) ((aa (a+1))))).toNat v5))),.agg (aG g),iI (min (max j 0) 1048576),.agg (List.set (aC ({ m with Kids:=[] }:ab)) 66 (.ref 47))]++nu 13 [.ptr 13 0]) [(13,List.set (aC bU) 66 (.nils))] [(47,(bf m.Kids))] [cF aT 61 Tryz.f53 (pn 32050) 15] (aE (vz 3) (bE (cD 1023 1 (ak .i64) (L:=(v6++[(v5.length:Int)])) q) (bE (bJ 3 0 (ak .i64) (ak .i64) (bB q).2 ap) (aE (vz 3) (bE (cD 1023 1 (ak .i64) (L:=(v6++[(v5.length:Int)])) s) (bE (bJ 3 0 (ak .i64) (ak .i64) (bB s).2 ap) (bE (kS bp v5 (gD (v6++[(v5.length:Int)]) a) (gD (v6++[(v5.length:Int)]) ((aa (a+1)))) 159 (.tmp 34) (some (.tmp 38)) (some (.tmp 43)) 44 (e:=165) (sz:=62) (by kernel_rfl) (by kernel_rfl) (by kernel_rfl) (by kernel_rfl) (by kernel_rfl) (by kernel_rfl) (km) (fun k y=>by subst y;kernel_rfl) t) (aE (vz 2) (ax (Jw 0 1 47 (alu x u) (BA (i:=66) (by kernel_rfl))) (ax (tW 0 1 44 13 (List.set (aC bU) 66 (.nils))) (ax (cE 0) cg))))))))))) (br 7 4 (aj 2 (ny 47 (au (ii aN ([({ m with Y:=b }:ab)]:b7) (new:=[aC ({ m with Y:=b }:ab)]) (by simp only[n5,u7,dV])) ?_))))
  obtain⟨v,h⟩:=aB h;exact au (cG 57 57 44 67 aN (rfl) (ky) v) (ae (ah 2 (bu (w h))))
 ·refine ai 32 p (aM 8 ?_);cases h;exact qW
def aiD(a:am K)(m:Nat):SH M f r g j v5 v6 m (AX K n g j v5 v6 m):=by
 induction m with
 | zero=>exact fun h=>nomatch h
 | succ m b=>exact fun h=>bq (agS a b h)
def aci(a:am K)(h:xw K n q g j v4=some r):aZ aT 53 [.sl (lm aP q),.agg (aG g),iI j,.agg (ce v4)] (fun v s=>v=.tup [.ref 57,iI r.2]∧look 57 s.r=some (bf r.1)):=by
 refine bK (cat Tryz.f53 (pn 1)) Tryz.func53 Tryz.ntmps53 fun M f=>(bn ⟨[(0,.sl (lm aP q)),(1,.agg (aG g)),(2,iI j),(3,.agg (ce v4))],[],[],[]⟩ ?_);unfold xw at h;refine av 14 15 5 (aj 3 ?_);obtain⟨v5,b,h⟩:=aw h;refine fc 1020 (ajJ a b) (fk 1009) (ae (av 2 3 1 (aj 2 (ny 1020 ?_))));obtain⟨v6,c,h⟩:=aw h;refine fc 1023 (aa8 a c) (fk 16) (aW 4 1 (au (bF bp v5) (aW 6 1 ?_)));obtain⟨d,h⟩:=aB h;exact au (cG 27 1023 3 1 (ak .i64) (rfl) ap d) (ae (cj 4 5 3 2 (aj 1 (au (bF (ak .i64) (v6++[(v5.length:Int)])) (ae (ic 2 0 1 (bV [2,5,8,9,10,11,30,31] [5] [1023] (fQ 57 8 44 67 (ah 0 (cf (p:=pn 250) n (aiD a n h)))))))))))
end
section
variable[GS](M:Nat→Prop)(d:az)(r:b7×Int)(a:dn)(b:aO)(c:Int)(v4:bN)  
variable{M d r a b c v4}{K:Kn}{n:Nat}
def afW(f:am K)(h:xI K n a b c v4=some r):aZ aT 52 [.sl (lm aP a),.agg (aG b),iI c,.cptr (ce v4)] (fun v s=>v=.tup [.ref 1013,iI r.2]∧look 1013 s.r=some (bf r.1)):=by
 refine bK (cat Tryz.f52 (pn 1)) Tryz.func52 Tryz.ntmps52 fun M d=>(bn ⟨[(0,.sl (lm aP a)),(1,.agg (aG b)),(2,iI c),(3,.cptr (ce v4))],[],[],[]⟩ ?_);unfold xI at h;refine av 6 7 3 (aj 4 ?_);obtain⟨v5,e,h⟩:=aw h;refine fc 1013 (aci f e) (Du (i:=0) rfl) (ae (aM 1 ?_));cases h;exact qW
end
section
variable[GS](M:Nat→Prop)(b:az)(r:Int×Int)(A:dn)(B:aO)(z:bN)(v4 v5:dO)(a i j o d c f:Int)(q:Bool)(t:Int)(u g w:Nat)(x l:Int→Int→Option eb)(y:Int→Option eb)
abbrev qn:Cx:=⟨aT,74,M,b⟩
abbrev rV:=bodyPost aT Tryz.f55 (bP M b (fun v _=>v=.tup [iI r.1,iI r.2]))
abbrev vA(a:ck)(s:AS):=VE (qn M b) (rV M b r) a .normal s
abbrev jV(n:Nat):aq:=.c (cat Tryz.f55 (pn n))
abbrev GL:ck:=[.b 2,jV 255]
abbrev JZ:ck:=kl (qn M b) (rV M b r) GL (cat Tryz.f55 (pn 2036)) g::GL
abbrev G7:ck:=[.b 0,jV 127]
abbrev LB:ck:=kl (qn M b) (rV M b r) G7 (cat Tryz.f55 (pn 1012)) u::G7
abbrev K7:ck:=.b 4::jV 32587 :: .b 3::JZ M b r g
abbrev MO:ck:=kl (qn M b) (rV M b r) (K7 M b r g) (cat Tryz.f55 (pn 130344)) w::(K7 M b r g)
def abL:AS:=⟨[(6,iI o),(7,iI 0),(9,.sl (lm bp v4)),(11,.ref 1023),(13,iI j)],[],[(1023,⟨165,62,lm bp v5⟩)],[1023]⟩
def abD:AS:=⟨[(6,iI a),(7,iI t),(11,.sl (lm bp v5)),(16,iI f)],[],[],[]⟩
def aic:AS:=⟨[(6,iI a),(7,iI d),(11,.sl (lm bp v5)),(15,iI c),(16,iI f),(59,.bool q)],[],[],[]⟩
def LR:AS:=⟨[(6,iI a),(7,iI d),(11,.sl (lm bp v5)),(15,iI c),(16,iI f)],[],[],[]⟩
def Wn:AS:=⟨[(6,iI a),(7,iI d),(11,.sl (lm bp v5)),(15,iI c)],[],[],[]⟩
def Pb:AS:=⟨[(6,iI a),(7,iI 0),(9,.sl (lm bp v4)),(11,.ref 1023),(12,iI i)],[],[(1023,⟨165,62,lm bp v5⟩)],[1023]⟩
abbrev Ii:Prop:=∀{a:Int} {i:Int},x a i=some r→LP (qn M b) (rV M b r) G7 (cat Tryz.f55 (pn 1012)) u (Pb v4 v5 a i)
abbrev tN:Prop:=∀{d:Int} {c:Int},l d c=some r→LP (qn M b) (rV M b r) GL (cat Tryz.f55 (pn 2036)) g (Wn v5 a d c)
abbrev Ff:Prop:=∀{f:Int},y f=some r→LP (qn M b) (rV M b r) (K7 M b r g) (cat Tryz.f55 (pn 130344)) w (LR v5 a d c f)
variable{M b r A B z v4 v5 a i j o d c f q t u g w x l y}{K:Kn}{n:Nat}
def SJ(c:am K)(a:Ii M b r v4 v5 u x)(h:Ab K n v4 v5 j x o=some r):vA M b r (jV 16203 :: .b 1::LB M b r u) (abL v4 v5 j o):=by
 unfold Ab at h;exact ah 2 (bu (a h))
def T3(d:am K)(c:tN M b r v5 a g l)(h:zR K n v5 a f l t=some r):vA M b r (jV 65175 :: .b 3::JZ M b r g) (abD v5 a f t):=by
 unfold zR at h;exact ah 2 (bu (c h))
def M5(s:am K)(m:tN M b r v5 a g l)(t:Ff M b r v5 a d c g w y)(h:rD K n v5 a d c f l y q=some r):vA M b r (jV 521377::jV 260689::MO M b r g w) (aic v5 a d c f q):=by
 unfold rD at h;obtain⟨i,h⟩|⟨i,h⟩:=ao h
 ·exact ai 59 i (ah 5 (bu (t h)))
 ·refine ai 59 i (yo 4 5 3 7 (aj 3 ?_));obtain⟨o,h⟩:=aB h;refine au (kS bp v5 c f 159 (.tmp 62) (some (.tmp 63)) (some (.tmp 64)) 65 (e:=165) (sz:=62) (by kernel_rfl) (by kernel_rfl) (by kernel_rfl) (by kernel_rfl) (by kernel_rfl) (by kernel_rfl) (km) (fun k u=>by subst u;kernel_rfl) o) ?_;obtain⟨v,p,h⟩:=aw h;refine aR (Dt s p) (ae (br 3 2 ?_));obtain⟨j,h⟩|⟨j,h⟩:=ao h
  ·exact ai 69 j (ah 2 (T3 s m h))
  ·exact ai 69 j (ah 2 (T3 s m h))
def ak5(m:am K)(i:tN M b r v5 a g l)(j:Ff M b r v5 a d c g w y)(h:yc K n v5 a d c l y f=some r):vA M b r (jV 130344::MO M b r g w) (LR v5 a d c f):=by
 unfold yc at h;refine cj 4 5 3 2 (aj 2 (au (bF bp v5) (aW 5 2 ?_)));obtain⟨e,h⟩|⟨e,h⟩:=ao h
 ·refine aF 51 e (aW 8 3 ?_);obtain⟨k,h⟩:=aB h;exact au (bX bp bp k (km) ap) (ae (ah 0 (M5 m i j h)))
 ·exact aF 51 e (ae (ah 0 (M5 m i j h)))
def aav(f:am K)(e:tN M b r v5 a g l)(m:Nat):Ff M b r v5 a d c g m (zz K n v5 a d c l m):=by
 induction m with
 | zero=>exact fun h=>nomatch h
 | succ m i=>exact fun h=>bq (ak5 f e i h)
def ak2(i:am K)(f:tN M b r v5 a g l)(h:yV K n v5 a l d c=some r):vA M b r (jV 2036::JZ M b r g) (Wn v5 a d c):=by
 unfold yV at h;refine cj 4 5 3 2 (aj 2 (au (bF bp v5) (ae ?_)));obtain⟨e,h⟩|⟨e,h⟩:=ao h
 ·exact ai 44 e (ah 7 (cf (p:=pn 65172) n (aav i f n h)))
 ·refine ai 44 e (aM 8 ?_);cases h;exact jC
def YW(c:am K)(m:Nat):tN M b r v5 a m (xF K n v5 a m):=by
 induction m with
 | zero=>exact fun h=>nomatch h
 | succ m d=>exact fun h=>bq (ak2 c d h)
def ahL(f:am K)(g:Ii M b r v4 v5 u x)(h:y4 K n v4 v5 x a i=some r):vA M b r (jV 1012::LB M b r u) (Pb v4 v5 a i):=by
 unfold y4 at h;refine cj 4 5 3 2 (aj 2 (au (bF bp v4) (ae ?_)));obtain⟨c,h⟩|⟨c,h⟩:=ao h
 ·refine ai 27 c (bW (ks':=jV 8100::jV 8101 :: .b 1::LB M b r u) 4 (aj 2 ?_));obtain⟨j,l,h⟩:=aw h;refine aR (G0 f l) (ae (cj 4 5 3 2 (aj 3 ?_)));obtain⟨m,h⟩:=aB h;refine au (kS bp v4 i j 159 (.tmp 31) (some (.tmp 32)) (some (.tmp 33)) 34 (e:=165) (sz:=62) (by kernel_rfl) (by kernel_rfl) (by kernel_rfl) (by kernel_rfl) (by kernel_rfl) (by kernel_rfl) (km) (fun k q=>by subst q;kernel_rfl) m) ?_;obtain⟨s,o,h⟩:=aw h;refine aR (Dt f o) (ae (br 3 2 ?_));obtain⟨d,h⟩|⟨d,h⟩:=ao h
  ·exact ai 38 d (ah 2 (SJ f g h))
  ·exact ai 38 d (ah 2 (SJ f g h))
 ·exact ai 27 c (bW (ks':=[jV 1018,.b 2,jV 255]) 9 (jz 1023 (ah 0 (cf (p:=pn 1018) n (YW f n h)))))
def aj4(a:am K)(m:Nat):Ii M b r v4 v5 m (xA K n v4 v5 m):=by
 induction m with
 | zero=>exact fun h=>nomatch h
 | succ m c=>exact fun h=>bq (ahL a c h)
def aeP(a:am K)(h:wy K n A B z=some r):aZ aT 55 [.sl (lm aP A),.agg (aG B),.agg (ce z)] (fun v _=>v=.tup [iI r.1,iI r.2]):=by
 refine bK (cat Tryz.f55 (pn 1)) Tryz.func55 Tryz.ntmps55 fun M b=>(bn ⟨[(0,.sl (lm aP A)),(1,.agg (aG B)),(2,.agg (ce z))],[],[],[]⟩ ?_);unfold wy at h;refine av 14 15 5 (aj 1 (mK 5 5 (ce z) (rb 113 #[(.tmp 5),(.tmp 8)] [.cptr (ce z),.ptr 8 0] (KR 19 ?_))));obtain⟨v4,c,h⟩:=aw h;refine fc 1020 (Jr a c) (fk 117) (ae (av 6 7 3 (aj 1 (rb 114 #[(.tmp 10),(.tmp 8)] [.ptr 10 0,.ptr 8 0] (KR 22 ?_)))));obtain⟨v5,d,h⟩:=aw h;exact fc 1023 (Jr a d) (fk 117) (ae (jb 10 0 3 4 (jz 1020 (ah 0 (cf (p:=pn 506) n (aj4 a n h))))))
end
section
variable[GS](M:Nat→Prop)(d:az)(r:Int×Int)(a:dn)(b:aO)(c:bN)  
variable{M d r a b c}{K:Kn}{n:Nat}
def akw(f:am K)(h:yl K n a b c=some r):aZ aT 54 [.sl (lm aP a),.agg (aG b),.cptr (ce c)] (fun v _=>v=.tup [iI r.1,iI r.2]):=by
 refine bK (cat Tryz.f54 (pn 1)) Tryz.func54 Tryz.ntmps54 fun M d=>(bn ⟨[(0,.sl (lm aP a)),(1,.agg (aG b)),(2,.cptr (ce c))],[],[],[]⟩ ?_);unfold yl at h;refine av 6 7 3 (aj 3 ?_);obtain⟨v4,e,h⟩:=aw h;refine aR (aeP f e) (ae (aM 1 ?_));cases h;exact jC
end
section
variable[GS](M:Nat→Prop)(c:az)(r:bN)(a b:Bool)  
variable{M c r a b}{K:Kn}{n:Nat}
def Q4(a b:Bool):∀d:Nat,m6 [(2,[eQ 36 a]),(3,[eQ 37 b]),(4,[.fno 43 [.ptr 2 0,.ptr 5 0,.ptr 3 0],.fno 48 [.ptr 5 0],.fno 52 [.ptr 5 0],.fno 54 [.ptr 5 0]]),(5,[.fno 43 [.ptr 2 0,.ptr 5 0,.ptr 3 0],.fno 48 [.ptr 5 0],.fno 52 [.ptr 5 0],.fno 54 [.ptr 5 0]])] 5 [.fno 43 [.ptr 2 0,.ptr 5 0,.ptr 3 0],.fno 48 [.ptr 5 0],.fno 52 [.ptr 5 0],.fno 54 [.ptr 5 0]] d=ce (cY d a b)
 | 0=>rfl
 | d+1=>by
   show lm (stepT [(2,[eQ 36 a]),(3,[eQ 37 b]),(4,[.fno 43 [.ptr 2 0,.ptr 5 0,.ptr 3 0],.fno 48 [.ptr 5 0],.fno 52 [.ptr 5 0],.fno 54 [.ptr 5 0]]),(5,[.fno 43 [.ptr 2 0,.ptr 5 0,.ptr 3 0],.fno 48 [.ptr 5 0],.fno 52 [.ptr 5 0],.fno 54 [.ptr 5 0]])] 5 (m6 [(2,[eQ 36 a]),(3,[eQ 37 b]),(4,[.fno 43 [.ptr 2 0,.ptr 5 0,.ptr 3 0],.fno 48 [.ptr 5 0],.fno 52 [.ptr 5 0],.fno 54 [.ptr 5 0]]),(5,[.fno 43 [.ptr 2 0,.ptr 5 0,.ptr 3 0],.fno 48 [.ptr 5 0],.fno 52 [.ptr 5 0],.fno 54 [.ptr 5 0]])] 5 [.fno 43 [.ptr 2 0,.ptr 5 0,.ptr 3 0],.fno 48 [.ptr 5 0],.fno 52 [.ptr 5 0],.fno 54 [.ptr 5 0]] d)) [.fno 43 [.ptr 2 0,.ptr 5 0,.ptr 3 0],.fno 48 [.ptr 5 0],.fno 52 [.ptr 5 0],.fno 54 [.ptr 5 0]]=_;rw[Q4 a b d];rfl
def Up(d:am K)(h:tH K n a b=some r):aZ aT 18 [eQ 36 a,eQ 37 b] (fun v _=>v=.agg (ce r)):=by
 refine bK (cat Tryz.f18 (pn 1)) Tryz.func18 Tryz.ntmps18 fun M c=>(bn ⟨[(0,eQ 36 a),(1,eQ 37 b)],[],[],[]⟩ ?_);unfold tH at h;refine av 14 15 5 (aj 0 (rb 43 #[(.tmp 2),(.tmp 5),(.tmp 3)] [.ptr 2 0,.ptr 5 0,.ptr 3 0] (ae (av 2 3 1 (aj 0 (rb 48 #[(.tmp 5)] [.ptr 5 0] (ae (av 2 3 1 (aj 0 (rb 52 #[(.tmp 5)] [.ptr 5 0] (ae (av 2 3 1 (aj 0 (rb 54 #[(.tmp 5)] [.ptr 5 0] (ae (aM 3 (bV [4] [2,3,4,5] [] (bn ⟨[(4,.ptr 4 0)],[(2,[eQ 36 a]),(3,[eQ 37 b]),(4,[.fno 43 [.ptr 2 0,.ptr 5 0,.ptr 3 0],.fno 48 [.ptr 5 0],.fno 52 [.ptr 5 0],.fno 54 [.ptr 5 0]]),(5,[.fno 43 [.ptr 2 0,.ptr 5 0,.ptr 3 0],.fno 48 [.ptr 5 0],.fno 52 [.ptr 5 0],.fno 54 [.ptr 5 0]])],[],[2,3,4,5]⟩ (XZ 4 4 5 n (Yp (s':=⟨[(4,.ptr 4 0)],[(4,ce (cY n a b))],[],[4]⟩) (amM (fun t=>(⟨[(4,.ptr 4 0)],[(4,t)],[],[4]⟩:AS)) (Q4 a b n)) ?_))))))))))))))))))));cases h;exact bD
end
section
variable[GS](M:Nat→Prop)(c:az)(r:Bool)(a b:ag)  
variable{M c r a b}{K:Kn}{n:Nat}
def air(e:am K)(h:AC K n a b=some r):aZ aT 65 [.agg (aD a),.cptr (aD b)] (fun v _=>v=.bool r):=by
 refine bK (cat Tryz.f65 (pn 1)) Tryz.func65 Tryz.ntmps65 fun M c=>(bn ⟨[(0,.agg (aD a)),(1,.cptr (aD b))],[],[],[]⟩ ?_);unfold AC at h;refine av 6 7 3 (aj 2 ?_);obtain⟨f,d,h⟩:=aw h;refine aR (e.Ca d) (ae (aM 1 ?_));cases h;exact bD
end
section
variable[GS](M:Nat→Prop)(a:az)(r:Bool)(c b:ag)(v5:Bool)  
abbrev afk(n:Nat):aq:=.c (cat Tryz.f28 (pn n))
abbrev acT:Cx:=⟨aT,14,M,a⟩
abbrev q28:=bodyPost aT Tryz.f28 (bP M a (fun v _=>v=.bool r))
abbrev aa5(b:ck)(s:AS):=VE (acT M a) (q28 M a r) b .normal s
def abY:AS:=⟨[(4,.bool v5)],[],[],[]⟩
variable{M a r c b v5}{K:Kn}{n:Nat}
def Sd(b:am K)(h:zU K n v5=some r):aa5 M a r [afk 7] (abY v5):=by
 unfold zU at h;refine aM 1 ?_;cases h;exact bD
def PD(d:am K)(h:rP K n c b=some r):aZ aT 28 [.agg (aD c),.agg (aD b)] (fun v _=>v=.bool r):=by
 refine bK (cat Tryz.f28 (pn 1)) Tryz.func28 Tryz.ntmps28 fun M a=>(bn ⟨[(0,.agg (aD c)),(1,.agg (aD b))],[],[],[]⟩ ?_);unfold rP at h;refine av 6 7 3 (aj 2 ?_);obtain⟨i,f,h⟩:=aw h;refine aR (DR d f) (aW 4 1 ?_);obtain⟨e,h⟩|⟨e,h⟩:=ao h
 ·exact aF 8 e (ae (ah 0 (Sd d h)))
 ·refine aF 8 e (aW 6 2 (mK 3 3 (aD b) (rZ 65 #[(.tmp 3)] [.cptr (aD b)] ?_)));obtain⟨v4,g,h⟩:=aw h;exact aR (MN d g) (ae (ah 0 (Sd d h)))
end
section
variable[GS](M:Nat→Prop)(a:az)(r b:ab)(c:b7)(v4:Int)(v5:b7)(d:Nat)(e:Int→b7→Option ab)
abbrev Hc:Cx:=⟨aT,26,M,a⟩
abbrev Lv:=bodyPost aT Tryz.f73 (bP M a (fun v s=>v=.agg (List.set (aC ({ r with Kids:=[] }:ab)) 66 (.ref 1006))∧look 1006 s.r=some (bf r.Kids)))
abbrev Yh(b:ck)(s:AS):=VE (Hc M a) (Lv M a r) b .normal s
abbrev SL(n:Nat):aq:=.c (cat Tryz.f73 (pn n))
abbrev I7:ck:=[.b 0,SL 15]
abbrev aji:ck:=kl (Hc M a) (Lv M a r) I7 (cat Tryz.f73 (pn 116)) d::I7
def UO:AS:=⟨[(1,.ptr 1 0),(2,.ptr 2 0),(10,iI (c.length:Int)),(11,iI v4)],[(1,List.set (aC ({ b with Kids:=[] }:ab)) 66 (.ref 1006)),(2,List.set (aC bU) 66 (.nils))],[(1006,(bf v5))],[1,2,1006]⟩
abbrev VC:Prop:=∀{v4:Int} {v5:b7},e v4 v5=some r→LP (Hc M a) (Lv M a r) I7 (cat Tryz.f73 (pn 116)) d (UO b c v4 v5)
variable{M a r b c v4 v5 d e}{K:Kn}{n:Nat}
def ZE(l:am K)(i:VC M a r b c d e)(h:EE K n b c e v4 v5=some r):Yh M a r (SL 116::aji M a r d) (UO b c v4 v5):=by
 unfold EE at h;refine av 6 7 3 ?_;obtain⟨f,h⟩|⟨f,h⟩:=ao h
 ·refine ai 12 f (GX 9 1 3 6 (bV [1,2,3,10,11] [1,2] [1006] ?_));obtain⟨j,h⟩:=aB h;obtain⟨v6,k,h⟩:=aw h;obtain⟨g,h⟩:=aB h;exact ci 1 (nu 14 [.ptr 1 66,.ref 1006,iI v4,.ptr 1 66,.ref 1006,iI v4,.eptr 1006 67 (v4.toNat) 0,.agg (aC (gD v5 v4)),.agg (aC v6),.eptr 1006 67 (v4.toNat) 0]) [] [] [eD 1006 ⟨44,67,lm aN (List.set v5 v4.toNat v6)⟩] (aE (vz 6) (bE (cD 1006 67 aN (L:=v5) j) (bE (bJ 44 0 aN aC (bB g).2 (dV)) (ax (cR 0 1 22 (l.xH k)) (bE (cD 1006 67 aN (L:=v5) g) (ax (dq (m:=0) (dI 1006 44 67 0 aN aC v6 (bB g).2 (dV))) cg)))))) (ah 2 (bu (i h)))
 ·refine ai 12 f (aM 8 ?_);cases h;exact eX
def ac2(d:am K)(m:Nat):VC M a r b c m (zI K n b c m):=by
 induction m with
 | zero=>exact fun h=>nomatch h
 | succ m e=>exact fun h=>bq (ZE d e h)
def Oy(d:am K)(h:sX K n b=some r):aZ aT 73 [.agg (aC b)] (fun v s=>v=.agg (List.set (aC ({ r with Kids:=[] }:ab)) 66 (.ref 1006))∧look 1006 s.r=some (bf r.Kids)):=by
 refine bK (cat Tryz.f73 (pn 1)) Tryz.func73 Tryz.ntmps73 fun M a=>(bn ⟨[(0,.agg (aC b))],[],[],[]⟩ ?_);unfold sX at h;refine av 6 7 3 (aj 2 ?_);obtain⟨c,e,h⟩:=aw h;exact fc 1006 (Lh d e) (fk 5) (ae (cj 4 5 3 2 (aj 2 (au (bF aN c) (ae (ah 1 (cf (p:=pn 58) n (ac2 d n h))))))))
end
section
variable[GS](M:Nat→Prop)(b:az)(r a:b5)  
variable{M b r a}{K:Kn}{n:Nat}
def akY(f:am K)(h:yn K n a=some r):aZ aT 95 [.sl (lm (ak .i64) a)] (fun v s=>v=.ref 5∧look 5 s.r=some (bc r)):=by
 refine bK (cat Tryz.f95 (pn 1)) Tryz.func95 Tryz.ntmps95 fun M b=>(bn ⟨[(0,.sl (lm (ak .i64) a))],[],[],[]⟩ ?_);unfold yn at h;refine cj 12 13 7 4 (aj 1 ?_);refine Sb (aL Tryz.f95 (pn 12) 1) (.eql) 72 72 (.tmp 3) (.const (.slice none 0 0)) 4 (lm (ak .i64) a) (r:=aJ Tryz.f95 (pn 12) 2) (e:=3) (by kernel_rfl) (by kernel_rfl) (by kernel_rfl) (by kernel_rfl) (by kernel_rfl) (by kernel_rfl) (by kernel_rfl) (by kernel_rfl) (fun d=>?_) ?_
 ·have h:=VH (by simpa using d) h;refine ae (aM 5 (fQ 5 2 3 1 ?_));cases h;exact eX
 ·have h:=LW h;refine ae (gY 2 3 3 (aj 0 (Bv 72 5 (e:=3) (sz:=1) (aW 2 1 ?_))));obtain⟨c,h⟩:=aB h;refine au (cG 7 5 3 1 (ak .i64) (rfl) ap c) (ae (aM 1 ?_));cases h;exact eX
end
section
variable[GS](M:Nat→Prop)(d:az)(r:Unit)(c:iy)(a:ag)(g:b5)(v4:Bool)(v6:b5)(b:Int)(e:Bool)(f:Nat)(i:Int→Option Unit)
abbrev Hy:Cx:=⟨aT,53,M,d⟩
abbrev I8:=bodyPost aT Tryz.f76 (bP M d (fun v _=>v=pr r))
abbrev DW(a:ck)(s:AS):=VE (Hy M d) (I8 M d r) a .normal s
abbrev mV(n:Nat):aq:=.c (cat Tryz.f76 (pn n))
abbrev IP:ck:=[.b 0]
abbrev JN:ck:=kl (Hy M d) (I8 M d r) IP (cat Tryz.f76 (pn 60)) f::IP
def Zr:AS:=⟨[(2,.sl (lm (ak .i64) v6)),(3,.ptr 3 0),(7,.ptr 7 0),(24,.sl (lm aP a.Kids)),(25,iI (a.Kids.length:Int)),(26,iI b),(43,.bool e)],[(3,qi c),(7,aD (gD a.Kids b))],[],[3,7]⟩
def UM:AS:=⟨[(2,.sl (lm (ak .i64) v6)),(3,.ptr 3 0),(24,.sl (lm aP a.Kids)),(25,iI (a.Kids.length:Int)),(26,iI b)],[(3,qi c)],[],[3]⟩
def aga:AS:=⟨[(2,.sl (lm (ak .i64) v6)),(3,.ptr 3 0),(4,.ptr 4 0)],[(3,qi c),(4,aD a)],[],[3,4]⟩
def Zl:AS:=⟨[(2,.sl (lm (ak .i64) g)),(3,.ptr 3 0),(4,.ptr 4 0),(16,.bool v4)],[(3,qi c),(4,aD a)],[],[3,4]⟩
abbrev Gp:Prop:=∀{b:Int},i b=some r→LP (Hy M d) (I8 M d r) IP (cat Tryz.f76 (pn 60)) f (UM c a v6 b)
variable{M d r c a g v4 v6 b e f i}{K:Kn}{n:Nat}
def Ge(l:am K)(k:Gp M d r c a v6 f i)(h:qo K n c a v6 b i e=some r):DW M d r (mV 7781::mV 3891 :: .b 1::mV 487::JN M d r f) (Zr c a v6 b e):=by
 unfold qo at h;obtain⟨g,h⟩|⟨g,h⟩:=ao h
 ·refine ai 43 g ?_;cases h
 ·refine ai 43 g (bW (ks':=mV 3891 :: .b 1::mV 487::JN M d r f) 2 (aj 3 ?_));obtain⟨m,j,h⟩:=aw h;exact aR (l.uL j) (ae (ah 2 (bu (k h))))
def aei(m:am K)(k:Gp M d r c a v6 f i)(h:CZ K n c a v6 i b=some r):DW M d r (mV 60::JN M d r f) (UM c a v6 b):=by
 unfold CZ at h;refine av 6 7 3 ?_;obtain⟨e,h⟩|⟨e,h⟩:=ao h
 ·refine ai 27 e (cX 8 9 1 3 5 (aj 0 ?_));obtain⟨l,h⟩:=aB h;refine au (bX aP aD l (gB) (eE)) (ae (cj 4 5 3 2 (aj 4 ?_)));obtain⟨g,h⟩|⟨g,h⟩:=ao h
  ·refine aF 33 g (aW 9 5 ?_);obtain⟨j,h⟩|⟨j,h⟩:=ao h
   ·exact aF 38 j (ae (ah 0 (Ge m k h)))
   ·exact aF 38 j (ae (ah 0 (Ge m k h)))
  ·exact aF 33 g (ae (ah 0 (Ge m k h)))
 ·refine ai 27 e (bW (ks':=[]) 5 (pF ?_));cases h;exact jC
def ajp(b:am K)(m:Nat):Gp M d r c a v6 m (uo K n c a v6 m):=by
 induction m with
 | zero=>exact fun h=>nomatch h
 | succ m e=>exact fun h=>bq (aei b e h)
def US(b:am K)(h:sT K n c a v6=some r):DW M d r [mV 7] (aga c a v6):=by
 unfold sT at h;exact av 2 3 1 (aj 2 (au (bF aP a.Kids) (ae (ah 1 (cf (p:=pn 30) n (ajp b n h))))))
def V7(e:am K)(h:sD K n c a g v4=some r):DW M d r [mV 13,mV 7] (Zl c a g v4):=by
 unfold sD at h;obtain⟨b,h⟩|⟨b,h⟩:=ao h
 ·refine ai 16 b (br 2 1 (bV [2,3,4] [3,4] [] ?_));obtain⟨v5,f,h⟩:=aw h;obtain⟨i,h⟩:=aB h;exact ci 2 (nu 17 [.sl (lm (ak .i64) g),.ref 18,.ptr 4 1,iI a.Node,.sl (lm (ak .i64) [a.Node])]) [] [(18,(bc v5))] [gh 22 18 ⟨3,1,lm (ak .i64) (v5++[a.Node])⟩,cF aT 53 Tryz.f76 (pn 26) 6] (aE [.v 0 2] (ax (Jw 0 1 18 (akY e f) (fk 5)) (aE [.v 0 2,.v 0 2,.v 0 1] (ax (dq (m:=0) (cG 22 18 3 1 (ak .i64) (rfl) ap i)) (ax (cE 1) cg))))) (jz 18 (ah 0 (US e h)))
 ·exact ai 16 b (ah 2 (US e h))
def Wl(e:am K)(h:oA K n c a g=some r):aZ aT 76 [.agg (qi c),.agg (aD a),.sl (lm (ak .i64) g)] (fun v _=>v=pr r):=by
 refine bK (cat Tryz.f76 (pn 1)) Tryz.func76 Tryz.ntmps76 fun M d=>(bn ⟨[(0,.agg (qi c)),(1,.agg (aD a)),(2,.sl (lm (ak .i64) g))],[],[],[]⟩ ?_);unfold oA at h;refine cj 12 13 7 4 (aj 4 ?_);obtain⟨b,h⟩|⟨b,h⟩:=ao h
 ·exact aF 11 b (ae (ah 0 (V7 e h)))
 ·exact aF 11 b (ae (ah 0 (V7 e h)))
end
section
variable[GS](M:Nat→Prop)(f:az)(r:ab×Int×Int×c6)(a:ag)(b d:Int)(v4:bN)(v5 v6:Int)(e:c6)  
abbrev Tf(n:Nat):aq:=.c (cat Tryz.f35 (pn n))
variable{M f r a b d v4 v5 v6 e}{K:Kn}{n:Nat}[SG f][PF v4.Layout]
def P7(j:am K)(h:oS K n a b d v4 v5 v6 e=some r):eO aT 35 [.agg (aD a),iI b,iI d,.agg (ce v4)] [(ac v5 v6)] (be e) (fun v s=>v=.agg (aC r.1)∧cB s.o [(ac r.2.1 r.2.2.1)]∧look 440009 s.r=some (be r.2.2.2)):=by
 refine kx (c:=cat Tryz.f35 []) Tryz.func35 (by kernel_rfl) _ Tryz.ntmps35 (il (by kernel_rfl)) fun M f=>(bn ⟨[(0,.agg (aD a)),(1,iI b),(2,iI d),(3,.agg (ce v4))],[(ac v5 v6)],[(440009,(be e))],[440009,440001,1440001]⟩ ?_);unfold oS at h;refine bW (ks':=[Tf 14,Tf 15]) 5 (bV [1,2,4,7,8,10] [4,7,8,440001] [440009] (Gz 10 ?_));obtain⟨t,l,h⟩:=aw h;obtain⟨k,m,h⟩:=aw h;obtain⟨g,o,h⟩:=aw h;refine ci 2 (nu 16 [.agg (aD a),.ptr 4 2,.agg (aG a.Style),iI (min (max b 0) 1048576),.agg (cC t),.agg (ce v4)]++nu 23 [.agg (List.set (aC ({ g with Kids:=[] }:ab)) 66 (.ref 23))]++nu 9 [.ptr 9 0]) [(9,List.set (aC bU) 66 (.nils))] [(23,(bf g.Kids))] [CV (some 22) (be k.2.2.2) [(ac k.2.1 k.2.2.1)] (.agg (aC k.1)),cF aT 34 Tryz.f35 (pn 14) 9] (aE [.v 0 1,.v 0 2,.v 0 2,.v 0 2] (ax (cR 0 1 20 (K2 j l)) (aE [.v 0 1] (ax (Ix 0 10 (Yr j m)) (ax (Jw 1 1 23 (Oy j o) (BA (i:=66) (by kernel_rfl))) (ax (tW 0 2 44 9 (List.set (aC bU) 66 (.nils))) (ax (cE 1) cg))))))) (av 6 7 3 (aj 3 (agT 30 0 ?_)))
 obtain⟨q,p,h⟩:=aw h;refine aR (Wl j p) (ae (aM 3 (jz 23 ?_)));cases h;exact gI
end
end
end Go.Proofs.YtocgkfoifehcbaaGreat

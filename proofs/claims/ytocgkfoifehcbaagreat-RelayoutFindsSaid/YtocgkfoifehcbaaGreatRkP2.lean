/- The runs of the functions that RelayoutFinds reaches do what their plain forms say, part 2. Made by a program. -/
import Derived.Test.YtocgkfoifehcbaaGreatRkP1
namespace Go.Proofs.YtocgkfoifehcbaaGreat
open Go.RowKit
set_option maxRecDepth 20000
set_option linter.all false
noncomputable section
def amp:=@Tryz.ntmps112
def amr:=@Tryz.func112
variable[GS](M:Nat→Prop)(f:aA)(r:Int×d6)(d:d4)(v2:Int)(A:d6)(B:Nat)(a e:Int)(i:d6)(j o:Nat)(l:d6)(t:Int)(u:d6)(w:Int)(x:d6)(k y:Nat)(q:Int→Int→d6→Option (Int×d6))(z:Nat→d6→Option (Int×d6))
abbrev yj:Cx:=⟨bb,69,M,f⟩
abbrev ya:=bodyPost bb Tryz.f175 (bJ M f (fun v s=>v=bf∧cy s.o [(1,[iI r.1]),(2,[.fno 175 [.ptr 1 0,.ptr 2 0,.ptr 3 0]]),(3,[.ref 9])]∧look 9 s.r=some (b7 r.2)))
abbrev D1(a:dt)(s:AS):=VE (yj M f) (ya M f r) a .normal s
abbrev i7(n:Nat):aq:=.c (cat Tryz.f175 (pn n))
abbrev G6:dt:=[.b 0]
abbrev oV:dt:=kl (yj M f) (ya M f r) G6 (cat Tryz.f175 (pn 12)) k::G6
abbrev IC:dt:=.b 3 :: .b 2 :: .b 1::i7 103::oV M f r k
abbrev Mr:dt:=kl (yj M f) (ya M f r) (IC M f r k) (cat Tryz.f175 (pn 26867700)) y::(IC M f r k)
def Wk:AS:=⟨[(0,.sl (lm aM d)),(1,.ptr 1 0),(2,.ptr 2 0),(3,.ptr 3 0),(10,iI (d.length:Int)),(11,iI a)],[(1,[iI w]),(2,[.fno 175 [.ptr 1 0,.ptr 2 0,.ptr 3 0]]),(3,[.ref 9])],[(9,(b7 x))],[1,2,3,9,1000001,1,1000002,2,1000003,3]⟩
def aaN:AS:=⟨[(0,.sl (lm aM d)),(1,.ptr 1 0),(2,.ptr 2 0),(3,.ptr 3 0),(10,iI (d.length:Int)),(11,iI a)],[(1,[iI t]),(2,[.fno 175 [.ptr 1 0,.ptr 2 0,.ptr 3 0]]),(3,[.ref 9])],[(9,(b7 u))],[1,2,3,9,1000001,1,1000002,2,1000003,3]⟩
def NQ:AS:=⟨[(0,.sl (lm aM d)),(1,.ptr 1 0),(2,.ptr 2 0),(3,.ptr 3 0),(6,.cptr (aB (gD d a))),(10,iI (d.length:Int)),(11,iI a),(58,.sit 320058 j ((gD d a).Text) o)],[(1,[iI (aa (e+1))]),(2,[.fno 175 [.ptr 1 0,.ptr 2 0,.ptr 3 0]]),(3,[.ref 9])],[(9,(b7 l))],[1,2,3,9,320058,1000001,1,1000002,2,1000003,3]⟩
def P6:AS:=⟨[(0,.sl (lm aM d)),(1,.ptr 1 0),(2,.ptr 2 0),(3,.ptr 3 0),(10,iI (d.length:Int)),(11,iI a)],[(1,[iI e]),(2,[.fno 175 [.ptr 1 0,.ptr 2 0,.ptr 3 0]]),(3,[.ref 9])],[(9,(b7 i))],[1,2,3,9,1000001,1,1000002,2,1000003,3]⟩
abbrev wu:Prop:=∀{a:Int} {e:Int} {i:d6},q a e i=some r→LP (yj M f) (ya M f r) G6 (cat Tryz.f175 (pn 12)) k (P6 d a e i)
abbrev MD:Prop:=∀{o:Nat} {l:d6},z o l=some r→LP (yj M f) (ya M f r) (IC M f r k) (cat Tryz.f175 (pn 26867700)) y (NQ d a e j o l)
variable{M f r d v2 A B a e i j o l t u w x k y q z}{K:Kn}{n:Nat}
theorem TQ(c:ao K)(b:wu M f r d k q)(h:nl K n d a q w x=some r):D1 M f r (i7 103::oV M f r k) (Wk d a w x):=by
 unfold nl at h;exact ag 1 (bn (b h))
theorem xM(c:ao K)(b:wu M f r d k q)(h:ky K n d a q t u=some r):D1 M f r (.b 2 :: .b 1::i7 103::oV M f r k) (aaN d a t u):=by
 unfold ky at h;exact ag 2 (TQ c b h)
theorem ajS(w:ao K)(c:f.w.heap.size≤j)(s:wu M f r d k q)(t:MD M f r d a e j k y z)(h:tU K n d a e q z o l=some r):D1 M f r (i7 26867700::Mr M f r k y) (NQ d a e j o l):=by
 unfold tU at h;refine av 2 3 1 (ai 0 ?_);obtain⟨b,h⟩|⟨b,h⟩:=am h
 ·refine KS 58 (id:=320058) (g:=j) b c (ac ?_);obtain⟨u,i,h⟩:=bW h;obtain⟨v,m,h⟩:=bW h;refine bw (ks':=i7 429883213 :: .b 4::Mr M f r k y) 6 ⟨[(0,.sl (lm aM d)),(1,.ptr 1 0),(2,.ptr 2 0),(3,.ptr 3 0),(6,.cptr (aB (gD d a))),(8,.int .i32 u),(10,iI (d.length:Int)),(11,iI a),(58,.sit 320058 j ((gD d a).Text) v)],[(1,[iI (aa (e+1))]),(2,[.fno 175 [.ptr 1 0,.ptr 2 0,.ptr 3 0]]),(3,[.ref 9])],[(9,(b7 l))],[1,2,3,9,320058,1000001,1,1000002,2,1000003,3]⟩ ?_ (by subst m;subst i;kernel_rfl);refine ai 5 ?_;obtain⟨x,p,h⟩:=bind_some h;exact jR 9 9 [] (aiZ w p) (ac (ag 1 (bn (t h))))
 ·exact KU 58 (id:=320058) (g:=j) b (ac (ag 6 (xM w s h)))
theorem VK(g:ao K)(b:f.w.heap.size≤j)(c:wu M f r d k q)(m:Nat):MD M f r d a e j k m (vq K n d a e q m):=by
 induction m with
 | zero=>intro o l h;cases h
 | succ m i=>intro o l h;have h:tU K n d a e q (vq K n d a e q m) o l=some r:=h;exact bh (ajS g b c i h)
theorem WP(g:ao K)(c:wu M f r d k q)(h:sU K n d q a e i=some r):D1 M f r (i7 12::oV M f r k) (P6 d a e i):=by
 unfold sU at h;refine av 6 7 3 ?_;obtain⟨l,h⟩|⟨l,h⟩:=am h
 ·refine ah 12 l (cN 18 19 1 3 7 (ai 2 ?_));obtain⟨w,h⟩:=aF h;refine au (bE aM aB w (fV) (d7)) (ac (cc 4 5 3 2 (ai 3 ?_)));obtain⟨J,x,h⟩:=bind_some h;refine aK (JV g x) (ac ?_);obtain⟨m,h⟩|⟨m,h⟩:=am h
  ·exact ah 21 m (ag 4 (TQ g c h))
  ·refine ah 21 m ?_;obtain⟨F,y,h⟩:=bW h;refine bw (ks':=i7 26237 :: .b 2 :: .b 1::i7 103::oV M f r k) 9 ⟨[(0,.sl (lm aM d)),(1,.ptr 1 0),(2,.ptr 2 0),(3,.ptr 3 0),(6,.cptr (aB (gD d a))),(10,iI (d.length:Int)),(11,iI a),(27,iI ((gD d a).Kind)),(28,.bool F)],[(1,[iI (aa (e+1))]),(2,[.fno 175 [.ptr 1 0,.ptr 2 0,.ptr 3 0]]),(3,[.ref 9])],[(9,(b7 i))],[1,2,3,9,1000001,1,1000002,2,1000003,3]⟩ ?_ (by subst y;kernel_rfl);obtain⟨o,h⟩|⟨o,h⟩:=am h
   ·refine ah 28 o (bg 2 1 (bK [0,1,2,3,6,10,11] [1,2,3] [9] (ae6 5 0 [(30,.fno 175 [.ptr 1 0,.ptr 2 0,.ptr 3 0]),(31,.cptr (aB (gD d a))),(32,.cptr (aB (gD d a))),(33,.cptr (List.drop 58 (aB (gD d a)))),(34,.sl (lm aM ((gD d a).Kids)))] [] [] [] (ax (vz 5) (EP)) ?_)));obtain⟨L,z,h⟩:=bind_some h;exact jR 9 9 [(1,1),(2,2),(3,3)] (g.DY z) (ac (ag 0 (xM g c h)))
   ·refine ah 28 o ?_;obtain⟨G,A,h⟩:=bW h;refine bw (ks':=i7 104951 :: .b 2 :: .b 1::i7 103::oV M f r k) 3 ⟨[(0,.sl (lm aM d)),(1,.ptr 1 0),(2,.ptr 2 0),(3,.ptr 3 0),(6,.cptr (aB (gD d a))),(10,iI (d.length:Int)),(11,iI a),(27,iI ((gD d a).Kind)),(36,.bool G)],[(1,[iI (aa (e+1))]),(2,[.fno 175 [.ptr 1 0,.ptr 2 0,.ptr 3 0]]),(3,[.ref 9])],[(9,(b7 i))],[1,2,3,9,1000001,1,1000002,2,1000003,3]⟩ ?_ (by subst A;kernel_rfl);obtain⟨s,h⟩|⟨s,h⟩:=am h
    ·refine ah 36 s (bg 2 1 (ai 5 ?_));obtain⟨B,h⟩:=aF h;exact au (cG 43 9 210 5 aw (rfl) (cU) B) (ac (ag 0 (xM g c h)))
    ·refine ah 36 s ?_;obtain⟨H,C,h⟩:=bW h;refine bw (ks':=i7 419807 :: .b 2 :: .b 1::i7 103::oV M f r k) 3 ⟨[(0,.sl (lm aM d)),(1,.ptr 1 0),(2,.ptr 2 0),(3,.ptr 3 0),(6,.cptr (aB (gD d a))),(10,iI (d.length:Int)),(11,iI a),(27,iI ((gD d a).Kind)),(44,.bool H)],[(1,[iI (aa (e+1))]),(2,[.fno 175 [.ptr 1 0,.ptr 2 0,.ptr 3 0]]),(3,[.ref 9])],[(9,(b7 i))],[1,2,3,9,1000001,1,1000002,2,1000003,3]⟩ ?_ (by subst C;kernel_rfl);obtain⟨t,h⟩|⟨t,h⟩:=am h
     ·refine ah 44 t (bg 2 1 (ai 5 ?_));obtain⟨D,h⟩:=aF h;exact au (cG 51 9 210 5 aw (rfl) (cU) D) (ac (ag 0 (xM g c h)))
     ·refine ah 44 t ?_;obtain⟨I,E,h⟩:=bW h;refine bw (ks':=i7 1679231 :: .b 2 :: .b 1::i7 103::oV M f r k) 3 ⟨[(0,.sl (lm aM d)),(1,.ptr 1 0),(2,.ptr 2 0),(3,.ptr 3 0),(6,.cptr (aB (gD d a))),(10,iI (d.length:Int)),(11,iI a),(52,.bool I)],[(1,[iI (aa (e+1))]),(2,[.fno 175 [.ptr 1 0,.ptr 2 0,.ptr 3 0]]),(3,[.ref 9])],[(9,(b7 i))],[1,2,3,9,1000001,1,1000002,2,1000003,3]⟩ ?_ (by subst E;kernel_rfl);obtain⟨u,h⟩|⟨u,h⟩:=am h
      ·exact ah 52 u (av 4 5 2 (ai 4 (I6 320058 (b:=((gD d a).Text)) fun j v=>(ac (ag 1 (cd (p:=pn 13433850) n (VK g (j:=j) v c n h)))))))
      ·exact ah 52 u (ag 2 (xM g c h))
 ·refine ah 12 l (b8 (ks':=[]) 5 (tK ?_));cases h;exact q9
theorem aed(b:ao K)(m:Nat):wu M f r d m (pj K n d m):=by
 induction m with
 | zero=>intro a e i h;cases h
 | succ m c=>intro a e i h;have h:sU K n d (pj K n d m) a e i=some r:=h;exact bh (WP b c h)
theorem OU(a:ao K)(h:mD K n d v2 A=some r):jw bb 175 [.sl (lm aM d),.ptr 1 0,.ptr 2 0,.ptr 3 0] [(1,[iI v2]),(2,[.fno 175 [.ptr 1 0,.ptr 2 0,.ptr 3 0]]),(3,[.ref 9])] 9 (b7 A) [9,1,2,3,1000001,1000002,1000003] (fun v s=>v=bf∧cy s.o [(1,[iI r.1]),(2,[.fno 175 [.ptr 1 0,.ptr 2 0,.ptr 3 0]]),(3,[.ref 9])]∧look 9 s.r=some (b7 r.2)):=by
 refine m9 (c:=cat Tryz.f175 (pn 1)) Tryz.func175 (by kernel_rfl) _ Tryz.ntmps175 (kc (by kernel_rfl)) fun M f=>(bd ⟨[(0,.sl (lm aM d)),(1,.ptr 1 0),(2,.ptr 2 0),(3,.ptr 3 0)],[(1,[iI v2]),(2,[.fno 175 [.ptr 1 0,.ptr 2 0,.ptr 3 0]]),(3,[.ref 9])],[(9,(b7 A))],[9,1,2,3,1000001,1000002,1000003]⟩ ?_);unfold mD at h;exact av 2 3 1 (ai 1 (au (bA aM d) (ac (ag 1 (cd (p:=pn 6) n (aed a n h))))))
end
noncomputable section
variable[GS](M:Nat→Prop)(b:aA)(r:d6)(a:d4)  
variable{M b r a}{K:Kn}{n:Nat}
theorem Jz(d:ao K)(h:pS K n a=some r):aX bb 154 [.sl (lm aM a)] (fun v s=>v=.ref 400003∧look 400003 s.r=some (b7 r)):=by
 refine bF (cat Tryz.f154 (pn 1)) Tryz.func154 Tryz.ntmps154 fun M b=>(bd ⟨[(0,.sl (lm aM a))],[],[],[]⟩ ?_);unfold pS at h;refine av 62 63 9 (ai 0 (rd 175 #[(.tmp 4),(.tmp 5),(.tmp 3)] [.ptr 4 0,.ptr 5 0,.ptr 3 0] (ac (av 2 3 1 (ai 2 (Ex 400003 3 0 210 5 ?_))))));obtain⟨v2,c,h⟩:=bind_some h;refine jR 400003 9 [(4,1),(5,2),(3,3)] (OU d c) (ac (aL 3 ?_));cases h;exact fC
end
noncomputable section
variable[GS](M:Nat→Prop)(a:aA)(r:Bool)(b:aJ)(v2:Bool)  
abbrev Z5(n:Nat):aq:=.c (cat Tryz.f177 (pn n))
abbrev VM:Cx:=⟨bb,24,M,a⟩
abbrev Yv:=bodyPost bb Tryz.f177 (bJ M a (fun v _=>v=.bool r))
abbrev ajh(b:dt)(s:AS):=VE (VM M a) (Yv M a r) b .normal s
def Xd:AS:=⟨[(2,.bool v2)],[],[],[]⟩
variable{M a r b v2}{K:Kn}{n:Nat}
theorem Hc(b:ao K)(h:uZ K n v2=some r):ajh M a r [Z5 7] (Xd v2):=by
 unfold uZ at h;refine aL 1 ?_;cases h;exact bv
theorem yS(e:ao K)(h:nF K n b=some r):aX bb 177 [.agg (aw b)] (fun v _=>v=.bool r):=by
 refine bF (cat Tryz.f177 (pn 1)) Tryz.func177 Tryz.ntmps177 fun M a=>(bd ⟨[(0,.agg (aw b))],[],[],[]⟩ ?_);unfold nF at h;refine av 6 7 3 (ai 4 ?_);obtain⟨c,h⟩|⟨c,h⟩:=am h
 ·refine aD 6 c (aQ 13 9 ?_);obtain⟨d,h⟩|⟨d,h⟩:=am h
  ·exact aD 15 d (ac (ag 0 (Hc e h)))
  ·exact aD 15 d (ac (ag 0 (Hc e h)))
 ·exact aD 6 c (ac (ag 0 (Hc e h)))
end
noncomputable section
variable[GS](M:Nat→Prop)(b:aA)(r a:Int)(v2 c v4 v5 v6:Bool)  
abbrev g8(n:Nat):aq:=.c (cat Tryz.f188 (pn n))
abbrev VO:Cx:=⟨bb,73,M,b⟩
abbrev ahD:=bodyPost bb Tryz.f188 (bJ M b (fun v _=>v=iI r))
abbrev yZ(a:dt)(s:AS):=VE (VO M b) (ahD M b r) a .normal s
def ajI:AS:=⟨[(72,.bool v6)],[],[],[]⟩
def ai3:AS:=⟨[(0,.int .i32 a),(60,.bool v5)],[],[],[]⟩
def acQ:AS:=⟨[(0,.int .i32 a),(29,.int .i32 a),(44,.bool v4)],[],[],[]⟩
def abq:AS:=⟨[(0,.int .i32 a),(29,.int .i32 a),(30,.bool c)],[],[],[]⟩
def abK:AS:=⟨[(0,.int .i32 a),(3,.bool v2)],[],[],[]⟩
variable{M b r a v2 c v4 v5 v6}{K:Kn}{n:Nat}
theorem Sc(c:ao K)(h:yv K n v6=some r):yZ M b r [g8 61,g8 31] (ajI v6):=by
 unfold yv at h;obtain⟨a,h⟩|⟨a,h⟩:=am h
 ·refine ah 72 a (aL 5 ?_);cases h;exact bv
 ·refine ah 72 a (aL 5 ?_);cases h;exact bv
theorem tG(e:ao K)(h:mB K n a v5=some r):yZ M b r [g8 1887,.b 1,g8 15] (ai3 a v5):=by
 unfold mB at h;obtain⟨c,h⟩|⟨c,h⟩:=am h
 ·refine ah 60 c (aL 6 ?_);cases h;exact bv
 ·refine ah 60 c (b8 (ks':=[g8 60,g8 61,g8 31]) 5 (ai 3 ?_));obtain⟨d,h⟩|⟨d,h⟩:=am h
  ·exact aD 69 d (ac (ag 0 (Sc e h)))
  ·exact aD 69 d (ac (ag 0 (Sc e h)))
theorem iK(j:ao K)(h:gl K n a v4=some r):yZ M b r [g8 471,.b 1,g8 15] (acQ a v4):=by
 unfold gl at h;obtain⟨c,h⟩|⟨c,h⟩:=am h
 ·refine ah 44 c (aL 6 ?_);cases h;exact bv
 ·refine ah 44 c (av 13 7 4 ?_);obtain⟨d,h⟩|⟨d,h⟩:=am h
  ·exact ah 60 d (ag 2 (tG j h))
  ·refine ah 60 d (bg 7 3 ?_);obtain⟨e,h⟩|⟨e,h⟩:=am h
   ·exact ah 60 e (ag 2 (tG j h))
   ·refine ah 60 e (bg 7 3 ?_);obtain⟨f,h⟩|⟨f,h⟩:=am h
    ·exact ah 60 f (ag 2 (tG j h))
    ·refine ah 60 f (bg 7 3 ?_);obtain⟨g,h⟩|⟨g,h⟩:=am h
     ·exact ah 60 g (ag 2 (tG j h))
     ·refine ah 60 g (bg 7 3 ?_);obtain⟨i,h⟩|⟨i,h⟩:=am h
      ·exact ah 60 i (ag 2 (tG j h))
      ·exact ah 60 i (ag 2 (tG j h))
theorem jI(d:ao K)(h:ia K n a c=some r):yZ M b r [g8 117,.b 1,g8 15] (abq a c):=by
 unfold ia at h;obtain⟨e,h⟩|⟨e,h⟩:=am h
 ·refine ah 30 e (aL 6 ?_);cases h;exact bv
 ·refine ah 30 e (av 13 7 4 ?_);obtain⟨f,h⟩|⟨f,h⟩:=am h
  ·exact ah 44 f (ag 2 (iK d h))
  ·refine ah 44 f (bg 7 3 ?_);obtain⟨g,h⟩|⟨g,h⟩:=am h
   ·exact ah 44 g (ag 2 (iK d h))
   ·refine ah 44 g (bg 7 3 ?_);obtain⟨i,h⟩|⟨i,h⟩:=am h
    ·exact ah 44 i (ag 2 (iK d h))
    ·refine ah 44 i (bg 7 3 ?_);obtain⟨j,h⟩|⟨j,h⟩:=am h
     ·exact ah 44 j (ag 2 (iK d h))
     ·refine ah 44 j (bg 7 3 ?_);obtain⟨k,h⟩|⟨k,h⟩:=am h
      ·exact ah 44 k (ag 2 (iK d h))
      ·refine ah 44 k (bg 7 3 ?_);obtain⟨l,h⟩|⟨l,h⟩:=am h
       ·exact ah 44 l (ag 2 (iK d h))
       ·refine ah 44 l (bg 7 3 ?_);obtain⟨m,h⟩|⟨m,h⟩:=am h
        ·exact ah 44 m (ag 2 (iK d h))
        ·refine ah 44 m (bg 7 3 ?_);obtain⟨o,h⟩|⟨o,h⟩:=am h
         ·exact ah 44 o (ag 2 (iK d h))
         ·refine ah 44 o (bg 7 3 ?_);obtain⟨p,h⟩|⟨p,h⟩:=am h
          ·exact ah 44 p (ag 2 (iK d h))
          ·refine ah 44 p (bg 7 3 ?_);obtain⟨q,h⟩|⟨q,h⟩:=am h
           ·exact ah 44 q (ag 2 (iK d h))
           ·refine ah 44 q (bg 7 3 ?_);obtain⟨s,h⟩|⟨s,h⟩:=am h
            ·exact ah 44 s (ag 2 (iK d h))
            ·refine ah 44 s (bg 7 3 ?_);obtain⟨t,h⟩|⟨t,h⟩:=am h
             ·exact ah 44 t (ag 2 (iK d h))
             ·refine ah 44 t (bg 7 3 ?_);obtain⟨u,h⟩|⟨u,h⟩:=am h
              ·exact ah 44 u (ag 2 (iK d h))
              ·refine ah 44 u (bg 7 3 ?_);obtain⟨v,h⟩|⟨v,h⟩:=am h
               ·exact ah 44 v (ag 2 (iK d h))
               ·exact ah 44 v (ag 2 (iK d h))
theorem qC(c:ao K)(h:lx K n a v2=some r):yZ M b r [g8 25,.b 0,g8 7] (abK a v2):=by
 unfold lx at h;obtain⟨q,h⟩|⟨q,h⟩:=am h
 ·refine ah 3 q (aL 6 ?_);cases h;exact bv
 ·refine ah 3 q (bg 7 3 ?_);obtain⟨s,h⟩|⟨s,h⟩:=am h
  ·refine ah 26 s (aL 6 ?_);cases h;exact bv
  ·refine ah 26 s (b8 (ks':=[g8 233,g8 117,.b 1,g8 15]) 10 ?_);obtain⟨t,h⟩|⟨t,h⟩:=am h
   ·exact ah 30 t (ag 2 (jI c h))
   ·refine ah 30 t (bg 7 3 ?_);obtain⟨d,h⟩|⟨d,h⟩:=am h
    ·exact ah 30 d (ag 2 (jI c h))
    ·refine ah 30 d (bg 7 3 ?_);obtain⟨e,h⟩|⟨e,h⟩:=am h
     ·exact ah 30 e (ag 2 (jI c h))
     ·refine ah 30 e (bg 7 3 ?_);obtain⟨f,h⟩|⟨f,h⟩:=am h
      ·exact ah 30 f (ag 2 (jI c h))
      ·refine ah 30 f (bg 7 3 ?_);obtain⟨g,h⟩|⟨g,h⟩:=am h
       ·exact ah 30 g (ag 2 (jI c h))
       ·refine ah 30 g (bg 7 3 ?_);obtain⟨i,h⟩|⟨i,h⟩:=am h
        ·exact ah 30 i (ag 2 (jI c h))
        ·refine ah 30 i (bg 7 3 ?_);obtain⟨j,h⟩|⟨j,h⟩:=am h
         ·exact ah 30 j (ag 2 (jI c h))
         ·refine ah 30 j (bg 7 3 ?_);obtain⟨k,h⟩|⟨k,h⟩:=am h
          ·exact ah 30 k (ag 2 (jI c h))
          ·refine ah 30 k (bg 7 3 ?_);obtain⟨l,h⟩|⟨l,h⟩:=am h
           ·exact ah 30 l (ag 2 (jI c h))
           ·refine ah 30 l (bg 7 3 ?_);obtain⟨m,h⟩|⟨m,h⟩:=am h
            ·exact ah 30 m (ag 2 (jI c h))
            ·refine ah 30 m (bg 7 3 ?_);obtain⟨o,h⟩|⟨o,h⟩:=am h
             ·exact ah 30 o (ag 2 (jI c h))
             ·refine ah 30 o (bg 7 3 ?_);obtain⟨p,h⟩|⟨p,h⟩:=am h
              ·exact ah 30 p (ag 2 (jI c h))
              ·exact ah 30 p (ag 2 (jI c h))
theorem TW(c:ao K)(h:l5 K n a=some r):aX bb 188 [.int .i32 a] (fun v _=>v=iI r):=by
 refine bF (cat Tryz.f188 (pn 1)) Tryz.func188 Tryz.ntmps188 fun M b=>(bd ⟨[(0,.int .i32 a)],[],[],[]⟩ ?_);unfold l5 at h;refine du 24 25 0 7 5 (ai 3 ?_);obtain⟨d,h⟩|⟨d,h⟩:=am h
 ·exact aD 6 d (ac (ag 0 (qC c h)))
 ·refine aD 6 d (aQ 7 4 ?_);obtain⟨e,h⟩|⟨e,h⟩:=am h
  ·exact aD 10 e (ac (ag 0 (qC c h)))
  ·refine aD 10 e (aQ 10 3 ?_);obtain⟨f,h⟩|⟨f,h⟩:=am h
   ·refine aD 13 f (aQ 15 5 ?_);obtain⟨g,h⟩|⟨g,h⟩:=am h
    ·exact aD 18 g (ac (ag 0 (qC c h)))
    ·refine aD 18 g (aQ 18 3 ?_);obtain⟨i,h⟩|⟨i,h⟩:=am h
     ·exact aD 21 i (ac (ag 0 (qC c h)))
     ·exact aD 21 i (ac (ag 0 (qC c h)))
   ·refine aD 13 f (aQ 18 8 ?_);obtain⟨j,h⟩|⟨j,h⟩:=am h
    ·exact aD 21 j (ac (ag 0 (qC c h)))
    ·exact aD 21 j (ac (ag 0 (qC c h)))
end
noncomputable section
variable[GS](M:Nat→Prop)(a:aA)(r:Bool)(b:Int)(v2:Bool)  
abbrev Pt(n:Nat):aq:=.c (cat Tryz.f193 (pn n))
abbrev Xw:Cx:=⟨bb,9,M,a⟩
abbrev abD:=bodyPost bb Tryz.f193 (bJ M a (fun v _=>v=.bool r))
abbrev ai0(b:dt)(s:AS):=VE (Xw M a) (abD M a r) b .normal s
def Yp:AS:=⟨[(4,.bool v2)],[],[],[]⟩
variable{M a r b v2}{K:Kn}{n:Nat}
theorem CT(c:ao K)(h:qP K n v2=some r):ai0 M a r [Pt 53,.b 0,Pt 7] (Yp v2):=by
 unfold qP at h;obtain⟨b,h⟩|⟨b,h⟩:=am h
 ·refine ah 4 b (aL 6 ?_);cases h;exact bv
 ·refine ah 4 b (aL 6 ?_);cases h;exact bv
theorem SR(c:ao K)(h:vd K n b=some r):aX bb 193 [.int .i32 b] (fun v _=>v=.bool r):=by
 refine bF (cat Tryz.f193 (pn 1)) Tryz.func193 Tryz.ntmps193 fun M a=>(bd ⟨[(0,.int .i32 b)],[],[],[]⟩ ?_);unfold vd at h;refine du 105 53 0 7 9 ?_;obtain⟨d,h⟩|⟨d,h⟩:=am h
 ·exact ah 4 d (ag 2 (CT c h))
 ·refine ah 4 d (bg 7 3 ?_);obtain⟨e,h⟩|⟨e,h⟩:=am h
  ·exact ah 4 e (ag 2 (CT c h))
  ·refine ah 4 e (bg 7 3 ?_);obtain⟨f,h⟩|⟨f,h⟩:=am h
   ·exact ah 4 f (ag 2 (CT c h))
   ·exact ah 4 f (ag 2 (CT c h))
end
noncomputable section
variable[GS](M:Nat→Prop)(b:aA)(r:Bool)(a v2:Int)(v5 c d:Bool)  
abbrev o8(n:Nat):aq:=.c (cat Tryz.f186 (pn n))
abbrev afs:Cx:=⟨bb,29,M,b⟩
abbrev ag9:=bodyPost bb Tryz.f186 (bJ M b (fun v _=>v=.bool r))
abbrev Js(a:dt)(s:AS):=VE (afs M b) (ag9 M b r) a .normal s
def aav:AS:=⟨[(4,.bool d)],[],[],[]⟩
def ah0:AS:=⟨[(0,.int .i32 a),(1,.int .i32 v2),(16,.bool c)],[],[],[]⟩
def Z7:AS:=⟨[(0,.int .i32 a),(1,.int .i32 v2),(5,.bool v5)],[],[],[]⟩
variable{M b r a v2 v5 c d}{K:Kn}{n:Nat}
theorem NC(a:ao K)(h:zQ K n d=some r):Js M b r [o8 15] (aav d):=by
 unfold zQ at h;refine aL 1 ?_;cases h;exact bv
theorem Tx(f:ao K)(h:zK K n a v2 c=some r):Js M b r [o8 415,.b 0,o8 7] (ah0 a v2 c):=by
 unfold zK at h;obtain⟨d,h⟩|⟨d,h⟩:=am h
 ·refine ah 16 d (aL 6 ?_);cases h;exact bv
 ·refine ah 16 d (b8 (ks':=[o8 14,o8 15]) 4 (ai 3 ?_));obtain⟨e,h⟩|⟨e,h⟩:=am h
  ·exact aD 25 e (ac (ag 0 (NC f h)))
  ·exact aD 25 e (ac (ag 0 (NC f h)))
theorem NO(f:ao K)(h:qg K n a v2 v5=some r):Js M b r [o8 25,.b 0,o8 7] (Z7 a v2 v5):=by
 unfold qg at h;obtain⟨c,h⟩|⟨c,h⟩:=am h
 ·refine ah 5 c (aL 6 ?_);cases h;exact bv
 ·refine ah 5 c (av 6 7 2 (ai 1 ?_));obtain⟨v6,g,h⟩:=bind_some h;refine aK (SR f g) (ac ?_);obtain⟨d,h⟩|⟨d,h⟩:=am h
  ·refine ah 13 d (aL 6 ?_);cases h;exact bv
  ·refine ah 13 d (av 6 7 2 (ai 3 ?_));obtain⟨e,h⟩|⟨e,h⟩:=am h
   ·exact aD 19 e (ac (ag 0 (Tx f h)))
   ·exact aD 19 e (ac (ag 0 (Tx f h)))
theorem afR(c:ao K)(h:Bj K n a v2=some r):aX bb 186 [.int .i32 a,.int .i32 v2] (fun v _=>v=.bool r):=by
 refine bF (cat Tryz.f186 (pn 1)) Tryz.func186 Tryz.ntmps186 fun M b=>(bd ⟨[(0,.int .i32 a),(1,.int .i32 v2)],[],[],[]⟩ ?_);unfold Bj at h;refine du 24 25 0 7 5 (ai 1 ?_);obtain⟨g,e,h⟩:=bind_some h;refine aK (SR c e) (aQ 3 1 ?_);obtain⟨d,h⟩|⟨d,h⟩:=am h
 ·exact aD 8 d (ac (ag 0 (NO c h)))
 ·refine aD 8 d (aQ 4 1 ?_);obtain⟨v4,f,h⟩:=bind_some h;exact aK (TW c f) (ac (ag 0 (NO c h)))
end
noncomputable section
variable[GS](M:Nat→Prop)(e:aA)(r:ck)(d:ByteArray)(v2:Nat)(i:Int)(a:Nat)(c:ck)(j:Bool)(k:ck)(f:Nat)(l:Int→Nat→ck→Option ck)
abbrev Hk:Cx:=⟨bb,26,M,e⟩
abbrev KW:=bodyPost bb Tryz.f178 (bJ M e (fun v s=>v=.ref 23∧look 23 s.r=some (bk r)))
abbrev IH(a:dt)(s:AS):=VE (Hk M e) (KW M e r) a .normal s
abbrev oU(n:Nat):aq:=.c (cat Tryz.f178 (pn n))
abbrev G0:dt:=[.b 0,oU 31]
abbrev Cp:dt:=kl (Hk M e) (KW M e r) G0 (cat Tryz.f178 (pn 244)) f::G0
def abY:AS:=⟨[(3,.ref 23),(6,.int .i32 ((Utf8.decode d a).1:Int)),(8,.sit 320008 v2 d (a+(Utf8.decode d a).2))],[],[(23,(bk k))],[23,320008]⟩
def aeg:AS:=⟨[(3,.ref 23),(5,iI ((a:Nat):Int)),(6,.int .i32 ((Utf8.decode d a).1:Int)),(8,.sit 320008 v2 d (a+(Utf8.decode d a).2)),(19,.bool j)],[],[(23,(bk c))],[23,320008]⟩
def K2:AS:=⟨[(3,.ref 23),(4,.int .i32 i),(8,.sit 320008 v2 d a)],[],[(23,(bk c))],[23,320008]⟩
abbrev B9:Prop:=∀{i:Int} {a:Nat} {c:ck},l i a c=some r→LP (Hk M e) (KW M e r) G0 (cat Tryz.f178 (pn 244)) f (K2 d v2 i a c)
variable{M e r d v2 i a c j k f l}{K:Kn}{n:Nat}
theorem Te(g:ao K)(c:e.w.heap.size≤v2)(b:B9 M e r d v2 f l)(h:qr K n d a l k=some r):IH M e r (oU 7835 :: .b 1::Cp M e r f) (abY d v2 a k):=by
 unfold qr at h;exact ag 2 (bn (b h))
theorem OZ(m:ao K)(i:e.w.heap.size≤v2)(g:B9 M e r d v2 f l)(h:pF K n d a c l j=some r):IH M e r (oU 15669::oU 7835 :: .b 1::Cp M e r f) (aeg d v2 a c j):=by
 unfold pF at h;obtain⟨b,h⟩|⟨b,h⟩:=am h
 ·refine ah 19 b (bg 2 1 (ai 3 ?_));obtain⟨k,h⟩:=aF h;exact au (cG 23 23 3 1 (ak .i64) (rfl) aT k) (ac (ag 0 (Te m (v2:=v2) i g h)))
 ·exact ah 19 b (ag 2 (Te m (v2:=v2) i g h))
theorem adP(p:ao K)(k:e.w.heap.size≤v2)(m:B9 M e r d v2 f l)(h:lG K n d l i a c=some r):IH M e r (oU 244::Cp M e r f) (K2 d v2 i a c):=by
 unfold lG at h;refine av 2 3 1 (ai 0 ?_);obtain⟨b,h⟩|⟨b,h⟩:=am h
 ·refine KS 8 (id:=320008) (g:=v2) b k (ac (b8 (ks':=oU 15668::oU 15669::oU 7835 :: .b 1::Cp M e r f) 8 (ai 3 ?_)));obtain⟨j,h⟩|⟨j,h⟩:=am h
  ·refine aD 15 j (aQ 5 2 ?_);obtain⟨q,o,h⟩:=bind_some h;exact aK (afR p o) (ac (ag 0 (OZ p (v2:=v2) k m h)))
  ·exact aD 15 j (ac (ag 0 (OZ p (v2:=v2) k m h)))
 ·refine KU 8 (id:=320008) (g:=v2) b (ac (aL 9 ?_));cases h;exact fC
theorem aiy(f:ao K)(b:e.w.heap.size≤v2)(m:Nat):B9 M e r d v2 m (n0 K n d m):=by
 induction m with
 | zero=>intro i a c h;cases h
 | succ m g=>intro i a c h;have h:lG K n d (n0 K n d m) i a c=some r:=h;exact bh (adP f b g h)
theorem YC(c:ao K)(h:xz K n d=some r):aX bb 178 [.str d] (fun v s=>v=.ref 23∧look 23 s.r=some (bk r)):=by
 refine bF (cat Tryz.f178 (pn 1)) Tryz.func178 Tryz.ntmps178 fun M e=>(bd ⟨[(0,.str d)],[],[],[]⟩ ?_);unfold xz at h;exact cc 60 61 31 8 (ai 1 (I6 320008 (b:=d) fun v2 a=>(ac (ib 2 0 1 (bK [3,4,8] [] [] (eL 23 3 3 1 (ag 0 (cd (p:=pn 122) n (aiy c (v2:=v2) a n h)))))))))
end
noncomputable section
variable[GS](M:Nat→Prop)(c:aA)(r:Bool)(a v2:aJ)(d e b:Bool)  
abbrev sd(n:Nat):aq:=.c (cat Tryz.f155 (pn n))
abbrev ajD:Cx:=⟨bb,61,M,c⟩
abbrev ag7:=bodyPost bb Tryz.f155 (bJ M c (fun v _=>v=.bool r))
abbrev Hn(a:dt)(s:AS):=VE (ajD M c) (ag7 M c r) a .normal s
def ahU:AS:=⟨[(4,.bool e)],[],[],[]⟩
def YB:AS:=⟨[(2,.ptr 2 0),(3,.ptr 3 0),(51,.bool b)],[(2,aw a),(3,aw v2)],[],[2,3]⟩
def agM:AS:=⟨[(2,.ptr 2 0),(3,.ptr 3 0),(12,.bool d)],[(2,aw a),(3,aw v2)],[],[2,3]⟩
variable{M c r a v2 d e b}{K:Kn}{n:Nat}
theorem wU(a:ao K)(h:nQ K n e=some r):Hn M c r [sd 53,sd 7] (ahU e):=by
 unfold nQ at h;refine aL 2 ?_;cases h;exact bv
theorem yD(g:ao K)(h:mc K n a v2 b=some r):Hn M c r [sd 29,sd 15] (YB a v2 b):=by
 unfold mc at h;obtain⟨d,h⟩|⟨d,h⟩:=am h
 ·refine ah 51 d (aL 5 ?_);cases h;exact bv
 ·refine ah 51 d (fq 2 3 3 (ai 6 ?_));obtain⟨f,e,h⟩:=bind_some h;refine eS 1058 (YC g e) (eX 23) (au (bA (ak .i64) f) (ac (aL 1 ?_)));cases h;exact bv
theorem P1(b:ao K)(h:ox K n a v2 d=some r):Hn M c r [sd 13,sd 7] (agM a v2 d):=by
 unfold ox at h;obtain⟨l,h⟩|⟨l,h⟩:=am h
 ·refine ah 12 l (av 4 5 2 (ai 4 ?_));obtain⟨m,h⟩|⟨m,h⟩:=am h
  ·refine aD 16 m (aQ 12 8 ?_);obtain⟨o,h⟩|⟨o,h⟩:=am h
   ·exact aD 24 o (ac (ag 0 (wU b h)))
   ·refine aD 24 o (aQ 13 1 ?_);obtain⟨v4,s,h⟩:=bind_some h;exact aK (yS b s) (ac (ag 0 (wU b h)))
  ·refine aD 16 m (aQ 5 1 ?_);obtain⟨v5,t,h⟩:=bind_some h;refine aK (yS b t) (aQ 8 2 ?_);obtain⟨p,h⟩|⟨p,h⟩:=am h
   ·refine aD 20 p (aQ 12 4 ?_);obtain⟨q,h⟩|⟨q,h⟩:=am h
    ·exact aD 24 q (ac (ag 0 (wU b h)))
    ·refine aD 24 q (aQ 13 1 ?_);obtain⟨v6,u,h⟩:=bind_some h;exact aK (yS b u) (ac (ag 0 (wU b h)))
   ·exact aD 20 p (ac (ag 0 (wU b h)))
 ·refine ah 12 l (rF 4 5 3 4 (ai 4 ?_));obtain⟨e,h⟩|⟨e,h⟩:=am h
  ·exact aD 32 e (ac (ag 0 (yD b h)))
  ·refine aD 32 e (aQ 9 5 ?_);obtain⟨f,h⟩|⟨f,h⟩:=am h
   ·exact aD 37 f (ac (ag 0 (yD b h)))
   ·refine aD 37 f (aQ 10 1 ?_);obtain⟨v,j,h⟩:=bind_some h;refine aK (yS b j) (aQ 14 3 ?_);obtain⟨g,h⟩|⟨g,h⟩:=am h
    ·exact aD 42 g (ac (ag 0 (yD b h)))
    ·refine aD 42 g (aQ 18 4 ?_);obtain⟨i,h⟩|⟨i,h⟩:=am h
     ·refine aD 46 i (aQ 19 1 ?_);obtain⟨w,k,h⟩:=bind_some h;exact aK (yS b k) (ac (ag 0 (yD b h)))
     ·exact aD 46 i (ac (ag 0 (yD b h)))
theorem ul(d:ao K)(h:li K n a v2=some r):aX bb 155 [.agg (aw a),.agg (aw v2)] (fun v _=>v=.bool r):=by
 refine bF (cat Tryz.f155 (pn 1)) Tryz.func155 Tryz.ntmps155 fun M c=>(bd ⟨[(0,.agg (aw a)),(1,.agg (aw v2))],[],[],[]⟩ ?_);unfold li at h;refine cc 12 13 7 4 (ai 4 ?_);obtain⟨b,h⟩|⟨b,h⟩:=am h
 ·exact aD 8 b (ac (ag 0 (P1 d h)))
 ·exact aD 8 b (ac (ag 0 (P1 d h)))
end
noncomputable section
variable[GS](M:Nat→Prop)(b:aA)(r a:Int)  
variable{M b r a}{K:Kn}{n:Nat}
theorem Bo(c:ao K)(h:qh K n a=some r):aX bb 174 [iI a] (fun v _=>v=iI r):=by
 refine bF (cat Tryz.f174 (pn 1)) Tryz.func174 Tryz.ntmps174 fun M b=>(bd ⟨[(0,iI a)],[],[],[]⟩ ?_);unfold qh at h;refine aL 5 ?_;cases h;exact bv
end
noncomputable section
variable[GS](M:Nat→Prop)(b:aA)(r a:Int)  
variable{M b r a}{K:Kn}{n:Nat}
theorem Mk(d:ao K)(h:xE K n a=some r):aX bb 152 [iI a] (fun v _=>v=iI r):=by
 refine bF (cat Tryz.f152 (pn 1)) Tryz.func152 Tryz.ntmps152 fun M b=>(bd ⟨[(0,iI a)],[],[],[]⟩ ?_);unfold xE at h;refine av 6 7 3 (ai 1 ?_);obtain⟨v2,c,h⟩:=bind_some h;refine aK (Bo d c) (ac (aL 1 ?_));cases h;exact bv
end
noncomputable section
variable[GS](M:Nat→Prop)(b:aA)(r a:Int)  
variable{M b r a}{K:Kn}{n:Nat}
theorem LB(c:ao K)(h:z5 K n a=some r):aX bb 153 [iI a] (fun v _=>v=iI r):=by
 refine bF (cat Tryz.f153 (pn 1)) Tryz.func153 Tryz.ntmps153 fun M b=>(bd ⟨[(0,iI a)],[],[],[]⟩ ?_);unfold z5 at h;refine av 6 7 3 (ai 1 ?_);obtain⟨v2,d,h⟩:=bind_some h;refine aK (Bo c d) (aQ 3 1 ?_);obtain⟨f,e,h⟩:=bind_some h;refine aK (Bo c e) (ac (aL 1 ?_));cases h;exact bv
end
noncomputable section
variable[GS](M:Nat→Prop)(b:aA)(r:Int×Int)(a:aI)  
variable{M b r a}{K:Kn}{n:Nat}
theorem KH(d:ao K)(h:ow K n a=some r):aX bb 148 [.agg (aH a)] (fun v _=>v=.tup [iI r.1,iI r.2]):=by
 refine bF (cat Tryz.f148 (pn 1)) Tryz.func148 Tryz.ntmps148 fun M b=>(bd ⟨[(0,.agg (aH a))],[],[],[]⟩ ?_);unfold ow at h;refine av 14 15 5 (bK [1,4] [1] [] ?_);obtain⟨v2,e,h⟩:=bind_some h;obtain⟨c,f,h⟩:=bind_some h;refine bQ 1 (nu 8 [.ptr 1 37,iI a.FontSize,iI v2,iI (max a.LineHeight 0),.ptr 1 37,iI a.FontSize,iI c,iI (aa ((max a.LineHeight 0)-c)),iI ((aa ((max a.LineHeight 0)-c)) / 2),iI (aa (v2+((aa ((max a.LineHeight 0)-c)) / 2)))]) [] [] [cf bb 22 Tryz.f148 (pn 14) 10] (ax (vz 2) (aj (cq 0 1 10 (Mk d e)) (ax (vz 3) (aj (cq 0 1 14 (LB d f)) (ax (vz 3) (aj (ce 0) bN)))))) (aL 3 ?_);cases h;exact gx
end
noncomputable section
variable[GS](M:Nat→Prop)(b:aA)(r:ck)(a:Int)(v2:ck)(d v4:Bool)  
abbrev TF(n:Nat):aq:=.c (cat Tryz.f194 (pn n))
abbrev ako:Cx:=⟨bb,78,M,b⟩
abbrev akm:=bodyPost bb Tryz.f194 (bJ M b (fun v s=>v=.ref 9∧cy s.o []∧look 9 s.r=some ⟨5,1,lm (ak .u8) r⟩))
abbrev U3(a:dt)(s:AS):=VE (ako M b) (akm M b r) a .normal s
def ahY:AS:=⟨[(0,.ref 9),(1,.int .i32 a),(50,.bool v4)],[],[(9,⟨5,1,lm (ak .u8) v2⟩)],[9]⟩
def ajO:AS:=⟨[(0,.ref 9),(1,.int .i32 a),(5,.int .u32 (IntKind.wrap .u32 a)),(25,.bool d)],[],[(9,⟨5,1,lm (ak .u8) v2⟩)],[9]⟩
variable{M b r a v2 d v4}{K:Kn}{n:Nat}
theorem PP(f:ao K)(h:yi K n a v2 v4=some r):U3 M b r [TF 479,.b 0] (ahY a v2 v4):=by
 unfold yi at h;obtain⟨d,h⟩|⟨d,h⟩:=am h
 ·refine ah 50 d (av 4 5 2 (ai 20 ?_));obtain⟨e,h⟩:=aF h;refine au (cG 77 9 5 1 (ak .u8) (rfl) aT e) (ac (aL 2 ?_));cases h;exact fa
 ·refine ah 50 d (av 6 7 2 (ai 2 ?_));obtain⟨c,h⟩:=aF h;refine au (cG 10 9 5 1 (ak .u8) (rfl) aT c) (ac (aL 2 ?_));cases h;exact fa
theorem G7(f:ao K)(h:nU K n a v2 d=some r):U3 M b r [TF 119,.b 0] (ajO a v2 d):=by
 unfold nU at h;obtain⟨c,h⟩|⟨c,h⟩:=am h
 ·refine ah 25 c (av 4 5 2 (ai 15 ?_));obtain⟨g,h⟩:=aF h;refine au (cG 49 9 5 1 (ak .u8) (rfl) aT g) (ac (aL 2 ?_));cases h;exact fa
 ·refine ah 25 c (av 6 7 2 (ai 3 ?_));obtain⟨e,h⟩|⟨e,h⟩:=am h
  ·exact aD 53 e (ac (ag 0 (PP f h)))
  ·exact aD 53 e (ac (ag 0 (PP f h)))
theorem Xj(g:ao K)(h:uX K n a v2=some r):jw bb 194 [.ref 9,.int .i32 a] [] 9 ⟨5,1,lm (ak .u8) v2⟩ [9] (fun v s=>v=.ref 9∧cy s.o []∧look 9 s.r=some ⟨5,1,lm (ak .u8) r⟩):=by
 refine m9 (c:=cat Tryz.f194 (pn 1)) Tryz.func194 (by kernel_rfl) _ Tryz.ntmps194 (kc (by kernel_rfl)) fun M b=>(bd ⟨[(0,.ref 9),(1,.int .i32 a)],[],[(9,⟨5,1,lm (ak .u8) v2⟩)],[9]⟩ ?_);unfold uX at h;refine ib 29 0 7 ?_;obtain⟨d,h⟩|⟨d,h⟩:=am h
 ·refine ah 11 d (av 4 5 2 (ai 10 ?_));obtain⟨i,h⟩:=aF h;refine au (cG 24 9 5 1 (ak .u8) (rfl) aT i) (ac (aL 2 ?_));cases h;exact fa
 ·refine ah 11 d (av 13 7 4 ?_);obtain⟨e,h⟩|⟨e,h⟩:=am h
  ·exact ah 25 e (ag 2 (G7 g h))
  ·refine ah 25 e (bg 3 1 (ai 3 ?_));obtain⟨f,h⟩|⟨f,h⟩:=am h
   ·exact aD 30 f (ac (ag 0 (G7 g h)))
   ·exact aD 30 f (ac (ag 0 (G7 g h)))
end
noncomputable section
variable[GS](M:Nat→Prop)(b:aA)(r:ck)(a:Int)(v2:ck)  
variable{M b r a v2}{K:Kn}{n:Nat}
theorem Ve(g:ao K)(h:tX K n a v2=some r):jw bb 187 [.ref 9,.int .i32 a] [] 9 ⟨5,1,lm (ak .u8) v2⟩ [9] (fun v s=>v=.ref 9∧cy s.o []∧look 9 s.r=some ⟨5,1,lm (ak .u8) r⟩):=by
 refine m9 (c:=cat Tryz.f187 (pn 1)) Tryz.func187 (by kernel_rfl) _ Tryz.ntmps187 (kc (by kernel_rfl)) fun M b=>(bd ⟨[(0,.ref 9),(1,.int .i32 a)],[],[(9,⟨5,1,lm (ak .u8) v2⟩)],[9]⟩ ?_);unfold tX at h;refine av 13 7 5 ?_;obtain⟨d,h⟩|⟨d,h⟩:=am h
 ·refine ah 7 d (av 4 5 2 (ai 4 ?_));obtain⟨e,h⟩:=aF h;refine au (cG 12 9 5 1 (ak .u8) (rfl) aT e) (ac (aL 2 ?_));cases h;exact fa
 ·refine ah 7 d (fq 2 3 3 (ai 2 ?_));obtain⟨i,f,h⟩:=bind_some h;refine jR 9 9 [] (Xj g f) (ac (aL 1 ?_));cases h;exact fa
end
noncomputable section
variable[GS](M:Nat→Prop)(e:aA)(r:Int×Unit×ck)(d:Int)(v2:Bool)(a:ck)  
variable{M e r d v2 a}{K:Kn}{n:Nat}
theorem MS(i:ao K)(h:pw K n d v2 a=some r):jw bb 179 [.ptr 450119 0,.int .i32 d] [(450119,[(zd v2 450119),.ref 9])] 9 ⟨5,1,lm (ak .u8) a⟩ [9,450119,1450119] (fun v s=>v=.tup [iI r.1,.vv .nilIface]∧cy s.o [(450119,[.ptr 450119 0,.ref 9])]∧look 9 s.r=some ⟨5,1,lm (ak .u8) r.2.2⟩):=by
 refine m9 (c:=cat Tryz.f179 (pn 1)) Tryz.func179 (by kernel_rfl) _ Tryz.ntmps179 (kc (by kernel_rfl)) fun M e=>(bd ⟨[(0,.ptr 450119 0),(1,.int .i32 d)],[(450119,[(zd v2 450119),.ref 9])],[(9,⟨5,1,lm (ak .u8) a⟩)],[9,450119,1450119]⟩ ?_);unfold pw at h;refine av 6 7 3 (ai 1 ?_);rcases am h with⟨g,f⟩|⟨g,f⟩
 ·subst g;have h:=f;refine Uf 450119 (b:=true) (c1:=.ref 9) (ac (av 2 3 1 (ai 4 (au (bA (ak .u8) a) (ac (av 2 3 1 (ai 6 ?_)))))));obtain⟨v4,j,h⟩:=bind_some h;refine jR 9 9 [] (Ve i j) (ac (av 2 3 1 (ai 4 (au (bA (ak .u8) v4) (ac (aL 1 ?_))))));cases h;exact q9
 ·subst g;have h:=f;refine Uf 450119 (b:=false) (c1:=.ref 9) (ac (av 2 3 1 (ai 4 (au (bA (ak .u8) a) (ac (av 2 3 1 (ai 6 ?_)))))));obtain⟨v5,k,h⟩:=bind_some h;refine jR 9 9 [] (Ve i k) (ac (av 2 3 1 (ai 4 (au (bA (ak .u8) v5) (ac (aL 1 ?_))))));cases h;exact q9
end
noncomputable section
variable[GS](M:Nat→Prop)(b:aA)(r:Int)(a v2:Int)  
variable{M b r a v2}{K:Kn}{n:Nat}
theorem I1(c:ao K)(h:nX K n a v2=some r):aX bb 180 [.int .i32 a,iI v2] (fun v _=>v=iI r):=by
 refine bF (cat Tryz.f180 (pn 1)) Tryz.func180 Tryz.ntmps180 fun M b=>(bd ⟨[(0,.int .i32 a),(1,iI v2)],[],[],[]⟩ ?_);unfold nX at h;refine av 6 7 3 (ai 1 ?_);obtain⟨f,d,h⟩:=bind_some h;refine aK (TW c d) (aQ 3 1 ?_);obtain⟨v4,e,h⟩:=bind_some h;refine aK (Bo c e) (ac (aL 1 ?_));cases h;exact bv
end
noncomputable section
variable[GS](M:Nat→Prop)(a:aA)(r:Int)(c:ByteArray)(v2:Int)(d:Nat)(v5:Int)(v6 e:Nat)(f:Int→Nat→Option Int)
abbrev Ir:Cx:=⟨bb,19,M,a⟩
abbrev ID:=bodyPost bb Tryz.f181 (bJ M a (fun v _=>v=iI r))
abbrev abf(b:dt)(s:AS):=VE (Ir M a) (ID M a r) b .normal s
abbrev Re(n:Nat):aq:=.c (cat Tryz.f181 (pn n))
abbrev JX:dt:=[.b 0,Re 15]
abbrev ahn:dt:=kl (Ir M a) (ID M a r) JX (cat Tryz.f181 (pn 116)) e::JX
def Ph:AS:=⟨[(1,iI v2),(5,iI v5),(9,.sit 320009 d c v6)],[],[],[320009]⟩
abbrev Nq:Prop:=∀{v5:Int} {v6:Nat},f v5 v6=some r→LP (Ir M a) (ID M a r) JX (cat Tryz.f181 (pn 116)) e (Ph c v2 d v5 v6)
variable{M a r c v2 d v5 v6 e f}{K:Kn}{n:Nat}
theorem acH(l:ao K)(j:a.w.heap.size≤d)(i:Nq M a r c v2 d e f)(h:sH K n c v2 f v5 v6=some r):abf M a r (Re 116::ahn M a r e) (Ph c v2 d v5 v6):=by
 unfold sH at h;refine av 2 3 1 (ai 0 ?_);obtain⟨b,h⟩|⟨b,h⟩:=am h
 ·refine KS 9 (id:=320009) (g:=d) b j (ac (ib 13 1 6 (ai 3 ?_)));obtain⟨m,k,h⟩:=bind_some h;exact aK (I1 l k) (ac (ag 1 (bn (i h))))
 ·refine KU 9 (id:=320009) (g:=d) b (ac (aL 9 ?_));cases h;exact bv
theorem Wo(e:ao K)(b:a.w.heap.size≤d)(m:Nat):Nq M a r c v2 d m (uJ K n c v2 m):=by
 induction m with
 | zero=>intro v5 v6 h;cases h
 | succ m f=>intro v5 v6 h;have h:sH K n c v2 (uJ K n c v2 m) v5 v6=some r:=h;exact bh (acH e b f h)
theorem Uh(f:ao K)(h:qQ K n c v2=some r):aX bb 181 [.str c,iI v2] (fun v _=>v=iI r):=by
 refine bF (cat Tryz.f181 (pn 1)) Tryz.func181 Tryz.ntmps181 fun M a=>(bd ⟨[(0,.str c),(1,iI v2)],[],[],[]⟩ ?_);unfold qQ at h;exact cc 28 29 15 6 (ai 1 (I6 320009 (b:=c) fun d e=>(ac (ag 1 (cd (p:=pn 58) n (Wo f (d:=d) e n h))))))
end
noncomputable section
variable[GS](M:Nat→Prop)(e:aA)(r:az)(a:d6)(v4:Int)(v5:Bool)(v6:ck)(o:Bool)(b:aI)(f:ByteArray)(g:Int)(c:aI)(i:ByteArray)(j:Int)(k:Nat)(l:Int→Bool→ck→Option az)
abbrev GT:Cx:=⟨bb,59,M,e⟩
abbrev FC:=bodyPost bb Tryz.f156 (bJ M e (fun v _=>v=.agg (aS r)))
abbrev Cj(a:dt)(s:AS):=VE (GT M e) (FC M e r) a .normal s
abbrev gE(n:Nat):aq:=.c (cat Tryz.f156 (pn n))
abbrev IU:dt:=[.b 0,gE 15]
abbrev XY:dt:=kl (GT M e) (FC M e r) IU (cat Tryz.f156 (pn 116)) k::IU
def XU:AS:=⟨[(2,.ptr 2 0),(6,.ptr 6 0),(7,.ptr 7 0),(8,.str f)],[(2,List.set (aS cR) 61 (.nils)),(6,aH b),(7,List.set (aS ({ cR with Text:=(bytesOf v6),Space:=g }:az)) 61 (.nils))],[],[2,6,7]⟩
def aia:AS:=⟨[(2,.ptr 2 0),(6,.ptr 6 0),(7,.ptr 7 0),(8,.str i)],[(2,List.set (aS cR) 61 (.nils)),(6,aH c),(7,List.set (aS ({ cR with Text:=(bytesOf v6),Space:=j }:az)) 61 (.nils))],[],[2,6,7]⟩
def Y5:AS:=⟨[(0,.sl (lm aw a)),(2,.ptr 2 0),(3,.ptr 451119 0)],[(2,List.set (aS cR) 61 (.nils)),(451119,[(zd o 451119),.ref 401119])],[(401119,⟨5,1,lm (ak .u8) v6⟩)],[2,451119,401119]⟩
def Uu:AS:=⟨[(0,.sl (lm aw a)),(2,.ptr 2 0),(3,.ptr 451119 0),(9,.sl (lm aw a)),(10,iI (a.length:Int)),(11,iI v4)],[(2,List.set (aS cR) 61 (.nils)),(451119,[(zd v5 451119),.ref 401119])],[(401119,⟨5,1,lm (ak .u8) v6⟩)],[2,451119,401119]⟩
abbrev ML:Prop:=∀{v4:Int} {v5:Bool} {v6:ck},l v4 v5 v6=some r→LP (GT M e) (FC M e r) IU (cat Tryz.f156 (pn 116)) k (Uu a v4 v5 v6)
variable{M e r a v4 v5 v6 o b f g c i j k l}{K:Kn}{n:Nat}
theorem UT(d:ao K)(h:zT K n v6 b f g=some r):Cj M e r [gE 255] (XU v6 b f g):=by
 unfold zT at h;refine av 2 3 1 (ai 3 ?_);obtain⟨i,a,h⟩:=bind_some h;refine aK (Uh d a) (ac (av 2 3 1 (ai 1 ?_)));obtain⟨j,c,h⟩:=bind_some h;refine aK (KH d c) (ac (aL 3 (nz 2 ?_)));cases h;exact bv
theorem Td(d:ao K)(h:ym K n v6 c i j=some r):Cj M e r [gE 255] (aia v6 c i j):=by
 unfold ym at h;refine av 2 3 1 (ai 3 ?_);obtain⟨f,a,h⟩:=bind_some h;refine aK (Uh d a) (ac (av 2 3 1 (ai 1 ?_)));obtain⟨g,b,h⟩:=bind_some h;refine aK (KH d b) (ac (aL 3 (nz 2 ?_)));cases h;exact bv
theorem Sb(j:ao K)(h:uT K n a v6 o=some r):Cj M e r [gE 15] (Y5 a v6 o):=by
 unfold uT at h;rcases am h with⟨f,d⟩|⟨f,d⟩
 ·subst f;have h:=d;refine av 2 3 1 (ai 1 ?_);obtain⟨k,h⟩:=aF h;refine au (bE aw aw k (cU) aT) (ac ?_);obtain⟨b,l,h⟩:=bW h;refine bw (ks':=[gE 62,gE 63]) 1 ⟨[(0,.sl (lm aw a)),(2,.ptr 2 0),(3,.ptr 451119 0),(6,.ptr 6 0)],[(2,List.set (aS cR) 61 (.nils)),(6,aH b),(451119,[.ptr 451119 0,.ref 401119])],[(401119,⟨5,1,lm (ak .u8) v6⟩)],[2,6,451119,401119]⟩ ?_ (by subst l;kernel_rfl);refine ai 0 ?_;obtain⟨m,h⟩:=aF h;refine Vl 451119 401119 (L:=v6) m (ac (cc 12 13 7 4 (ai 2 (au (bA aw a) (aQ 4 1 ?_)))));obtain⟨p,h⟩:=aF h;refine au (bE aw aw p (cU) aT) (ac ?_);obtain⟨D,q,h⟩:=bW h;refine bw (ks':=[gE 509,gE 255]) 0 ⟨[(2,.ptr 2 0),(6,.ptr 6 0),(7,.ptr 7 0),(8,.str (bytesOf v6)),(36,.bool D)],[(2,List.set (aS cR) 61 (.nils)),(6,aH b),(7,List.set (aS ({ cR with Text:=(bytesOf v6) }:az)) 61 (.nils))],[],[2,6,7]⟩ ?_ (by subst q;kernel_rfl)
  obtain⟨g,h⟩|⟨g,h⟩:=am h
  ·refine ah 36 g (av 4 5 2 (ai 4 ?_));obtain⟨s,h⟩:=aF h;refine au (CA s) (ac ?_);obtain⟨E,t,h⟩:=bW h;refine bw (ks':=[gE 2037,gE 255]) 0 ⟨[(2,.ptr 2 0),(6,.ptr 6 0),(7,.ptr 7 0),(8,.str E)],[(2,List.set (aS cR) 61 (.nils)),(6,aH b),(7,List.set (aS ({ cR with Text:=(bytesOf v6) }:az)) 61 (.nils))],[],[2,6,7]⟩ ?_ (by subst t;kernel_rfl);refine ai 2 ?_;obtain⟨H,u,h⟩:=bind_some h;exact aK (I1 j u) (ac (ag 0 (UT j h)))
  ·exact ah 36 g (ag 2 (UT j h))
 ·subst f;have h:=d;refine av 2 3 1 (ai 1 ?_);obtain⟨v,h⟩:=aF h;refine au (bE aw aw v (cU) aT) (ac ?_);obtain⟨c,w,h⟩:=bW h;refine bw (ks':=[gE 62,gE 63]) 1 ⟨[(0,.sl (lm aw a)),(2,.ptr 2 0),(3,.ptr 451119 0),(6,.ptr 6 0)],[(2,List.set (aS cR) 61 (.nils)),(6,aH c),(451119,[.nilp,.ref 401119])],[(401119,⟨5,1,lm (ak .u8) v6⟩)],[2,6,451119,401119]⟩ ?_ (by subst w;kernel_rfl);refine ai 0 ?_;obtain⟨x,h⟩:=aF h;refine Vl 451119 401119 (L:=v6) x (ac (cc 12 13 7 4 (ai 2 (au (bA aw a) (aQ 4 1 ?_)))));obtain⟨y,h⟩:=aF h;refine au (bE aw aw y (cU) aT) (ac ?_);obtain⟨F,z,h⟩:=bW h;refine bw (ks':=[gE 509,gE 255]) 0 ⟨[(2,.ptr 2 0),(6,.ptr 6 0),(7,.ptr 7 0),(8,.str (bytesOf v6)),(36,.bool F)],[(2,List.set (aS cR) 61 (.nils)),(6,aH c),(7,List.set (aS ({ cR with Text:=(bytesOf v6) }:az)) 61 (.nils))],[],[2,6,7]⟩ ?_ (by subst z;kernel_rfl);obtain⟨i,h⟩|⟨i,h⟩:=am h
  ·refine ah 36 i (av 4 5 2 (ai 4 ?_));obtain⟨A,h⟩:=aF h;refine au (CA A) (ac ?_);obtain⟨G,B,h⟩:=bW h;refine bw (ks':=[gE 2037,gE 255]) 0 ⟨[(2,.ptr 2 0),(6,.ptr 6 0),(7,.ptr 7 0),(8,.str G)],[(2,List.set (aS cR) 61 (.nils)),(6,aH c),(7,List.set (aS ({ cR with Text:=(bytesOf v6) }:az)) 61 (.nils))],[],[2,6,7]⟩ ?_ (by subst B;kernel_rfl);refine ai 2 ?_;obtain⟨I,C,h⟩:=bind_some h;exact aK (I1 j C) (ac (ag 0 (Td j h)))
  ·exact ah 36 i (ag 2 (Td j h))
theorem Z4(f:ao K)(d:ML M e r a k l)(h:rR K n a l v4 v5 v6=some r):Cj M e r (gE 116::XY M e r k) (Uu a v4 v5 v6):=by
 unfold rR at h;rcases am h with⟨m,b⟩|⟨m,b⟩
 ·subst m;have h:=b;refine av 6 7 3 ?_;obtain⟨o,h⟩|⟨o,h⟩:=am h
  ·refine ah 12 o (cN 8 9 1 3 5 (ai 0 ?_));obtain⟨p,h⟩:=aF h;refine au (bE aw aw p (cU) aT) (ac (ai 2 ?_));obtain⟨q,g,h⟩:=bind_some h;exact jR 401119 9 [(451119,450119)] (MS f g) (ac (ag 2 (bn (d h))))
  ·exact ah 12 o (ag 5 (Sb f h))
 ·subst m;have h:=b;refine av 6 7 3 ?_;obtain⟨c,h⟩|⟨c,h⟩:=am h
  ·refine ah 12 c (cN 8 9 1 3 5 (ai 0 ?_));obtain⟨i,h⟩:=aF h;refine au (bE aw aw i (cU) aT) (ac (ai 2 ?_));obtain⟨s,j,h⟩:=bind_some h;exact jR 401119 9 [(451119,450119)] (MS f j) (ac (ag 2 (bn (d h))))
  ·exact ah 12 c (ag 5 (Sb f h))
theorem aen(b:ao K)(m:Nat):ML M e r a m (qL K n a m):=by
 induction m with
 | zero=>intro v4 v5 v6 h;cases h
 | succ m c=>intro v4 v5 v6 h;have h:rR K n a (qL K n a m) v4 v5 v6=some r:=h;exact bh (Z4 b c h)
theorem EB(b:ao K)(h:qJ K n a=some r):aX bb 156 [.sl (lm aw a)] (fun v _=>v=.agg (aS r)):=by
 refine bF (cat Tryz.f156 (pn 1)) Tryz.func156 Tryz.ntmps156 fun M e=>(bd ⟨[(0,.sl (lm aw a))],[],[],[]⟩ ?_);unfold qJ at h;exact av 6 7 3 (ai 0 (agm 451119 (T:=119) (d:=3) (cs:=[.nilp,.nils]) (ac (cc 4 5 3 2 (ai 1 (au (bA aw a) (ac (ib 2 0 1 (bK [0,2,3,9,10,11] [2,451119] [] (Ed 401119 451119 1 5 1 (ag 0 (cd (p:=pn 58) n (aen b n h)))))))))))))
end
noncomputable section
variable[GS](M:Nat→Prop)(i:aA)(r:d5)(x:d4)(v2:Fv)(c:d6)(a:Int)(f:d5)(g:Bool)(d:Int)(t:Bool)(o:Int)(q:az)(j u:Nat)(l:Int→d5→Option d5)(w:Int→Option d5)
abbrev w6:Cx:=⟨bb,120,M,i⟩
abbrev yx:=bodyPost bb Tryz.f112 (bJ M i (fun v s=>v=.ref 117∧look 117 s.r=some (b6 r)))
abbrev yf(a:dt)(s:AS):=VE (w6 M i) (yx M i r) a .normal s
abbrev fD(n:Nat):aq:=.c (cat Tryz.f112 (pn n))
abbrev IA:dt:=[.b 0,fD 31]
abbrev lg:dt:=kl (w6 M i) (yx M i r) IA (cat Tryz.f112 (pn 244)) j::IA
abbrev Ha:dt:=.b 3::fD 4009823 :: .b 2::fD 31327 :: .b 1::lg M i r j
abbrev Sk:dt:=kl (w6 M i) (yx M i r) (Ha M i r j) (cat Tryz.f112 (pn 16039288)) u::(Ha M i r j)
def aaP:AS:=⟨[(1,.fn v2.id v2.aO),(5,.sl (lm aw c)),(6,.ref 117),(8,.ptr 8 0),(9,.bool g),(10,.ptr 10 0),(11,iI o)],[(8,aw (gD c a)),(10,aS q)],[(117,(b6 f))],[8,10,117]⟩
def ajb:AS:=⟨[(1,.fn v2.id v2.aO),(5,.sl (lm aw c)),(6,.ref 117),(7,iI a),(8,.ptr 8 0),(9,.bool g),(10,.ptr 10 0),(11,iI d),(81,.bool t)],[(8,aw (gD c a)),(10,List.set (aS cR) 61 (.nils))],[(117,(b6 f))],[8,10,117]⟩
def Vv:AS:=⟨[(1,.fn v2.id v2.aO),(5,.sl (lm aw c)),(6,.ref 117),(7,iI a),(8,.ptr 8 0),(9,.bool g),(10,.ptr 10 0),(11,iI d)],[(8,aw (gD c a)),(10,List.set (aS cR) 61 (.nils))],[(117,(b6 f))],[8,10,117]⟩
def ZX:AS:=⟨[(1,.fn v2.id v2.aO),(5,.sl (lm aw c)),(6,.ref 117),(7,iI a),(8,.ptr 8 0),(9,.bool g)],[(8,aw (gD c a))],[(117,(b6 f))],[8,117]⟩
def N1:AS:=⟨[(1,.fn v2.id v2.aO),(5,.sl (lm aw c)),(6,.ref 117),(7,iI a)],[],[(117,(b6 f))],[117]⟩
abbrev pi:Prop:=∀{a:Int} {f:d5},l a f=some r→LP (w6 M i) (yx M i r) IA (cat Tryz.f112 (pn 244)) j (N1 v2 c a f)
abbrev JG:Prop:=∀{d:Int},w d=some r→LP (w6 M i) (yx M i r) (Ha M i r j) (cat Tryz.f112 (pn 16039288)) u (Vv v2 c a f g d)
variable{M i r x v2 c a f g d t o q j u l w}{K:Kn}{n:Nat}
theorem F6(s:ao K)(k:pi M i r v2 c j l)(h:lv K n v2 c a f g l o q=some r):yf M i r (.b 2::fD 31327 :: .b 1::lg M i r j) (aaP v2 c a f g o q):=by
 unfold lv at h;refine fq 2 3 2 (bK [1,5,6,8,9,10,11] [8,10] [117] (bQ 3 (nu 100 [.ptr 8 4,.cptr (aB ((gD c a).Box)),.cptr (aB ((gD c a).Box)),.cptr (List.drop 1 (aB ((gD c a).Box))),iI (((gD c a).Box).Node),.ptr 8 4,.cptr (aB ((gD c a).Box)),.cptr (aB ((gD c a).Box)),.cptr (List.drop 2 (aB ((gD c a).Box))),.agg (aH (((gD c a).Box).Style)),.bool g,.ptr 10 0,.ptr 10 2,.ptr 10 59]) [] [] [cf bb 120 Tryz.f112 (pn 62654) 12,cf bb 120 Tryz.f112 (pn 62654) 14,cf bb 120 Tryz.f112 (pn 62654) 16] (ax [.v 0 1,.v 0 1,.v 0 1,.v 0 1,.v 0 1,.v 0 2,.v 0 2,.v 0 2,.v 0 2,.v 0 2,.v 0 3,.v 0 1] (aj (ce 0) (ax [.v 1 1] (aj (ce 1) (ax [.v 2 1] (aj (ce 2) bN)))))) ?_));obtain⟨m,b,h⟩:=bW h;obtain⟨p,d,h⟩:=bW h;refine bw (ks':=fD 125310::fD 125311 :: .b 1::lg M i r j) 1 ⟨[(1,.fn v2.id v2.aO),(5,.sl (lm aw c)),(6,.ref 117),(10,.ptr 10 0),(11,iI o)],[(10,aS ({ q with Node:=m,Style:=p,Glued:=g }:az))],[(117,(b6 f))],[10,117]⟩ ?_ (by subst d;subst b;kernel_rfl)
 refine ai 3 ?_;obtain⟨e,h⟩:=aF h;exact au (cG 117 117 165 62 aS (rfl) (iW) e) (ac (ag 2 (bn (k h))))
theorem En(s:ao K)(p:pi M i r v2 c j l)(q:JG M i r v2 c a f g j u w)(h:lC K n v2 c a f g d l w t=some r):yf M i r (fD 64157153::fD 32078577::Sk M i r j u) (ajb v2 c a f g d t):=by
 unfold lC at h;obtain⟨b,h⟩|⟨b,h⟩:=am h
 ·exact ah 81 b (ag 5 (bn (q h)))
 ·refine ah 81 b (b8 (ks':=fD 4009823 :: .b 2::fD 31327 :: .b 1::lg M i r j) 5 (ai 3 ?_));obtain⟨m,h⟩:=aF h;refine au (l6 aw c a d 206 (.tmp 84) (some (.tmp 85)) (some (.tmp 86)) 87 (e:=210) (sz:=5) (by kernel_rfl) (by kernel_rfl) (by kernel_rfl) (by kernel_rfl) (by kernel_rfl) (by kernel_rfl) (cU) (fun k v=>by subst v;kernel_rfl) m) ?_;obtain⟨x,o,h⟩:=bind_some h;exact aK (EB s o) (ac (ag 0 (F6 s p h)))
theorem Za(x:ao K)(o:pi M i r v2 c j l)(p:JG M i r v2 c a f g j u w)(h:ss K n v2 c a f g l w d=some r):yf M i r (fD 16039288::Sk M i r j u) (Vv v2 c a f g d):=by
 unfold ss at h;refine cc 4 5 3 2 (bK [1,5,6,7,8,9,10,11] [8,10] [117] ?_);obtain⟨k,h⟩|⟨k,h⟩:=am h
 ·obtain⟨q,h⟩:=aF h;obtain⟨m,h⟩|⟨m,h⟩:=am h
  ·obtain⟨v,h⟩:=aF h;obtain⟨s,h⟩|⟨s,h⟩:=am h
   ·obtain⟨y,h⟩:=aF h;obtain⟨z,h⟩:=aF h;obtain⟨t,A,h⟩:=bind_some h;exact bQ 0 (nu 47 [iI d,.sl (lm aw c),iI (c.length:Int),.bool (decide (d<(c.length:Int))),.bool true,.sl (lm aw c),iI d,.cptr (aw (gD c d)),.cptr (List.drop 0 (aw (gD c d))),iI ((gD c d).Kind),.bool (((gD c d).Kind) == 1),.bool (((gD c d).Kind) == 1),.bool true,.sl (lm aw c),iI d,.cptr (aw (gD c d)),.cptr (List.drop 1 (aw (gD c d))),iI ((gD c d).Of),.ptr 8 1,iI ((gD c a).Of),.bool (((gD c d).Of) == ((gD c a).Of)),.bool (((gD c d).Of) == ((gD c a).Of)),.bool true,.sl (lm aw c),iI d,iI (aa (d-1)),.cptr (aw (gD c ((aa (d-1))))),.agg (aw (gD c ((aa (d-1))))),.sl (lm aw c),iI d,.cptr (aw (gD c d)),.agg (aw (gD c d)),.bool t,.bool (!t),.bool (!t)]) [] [] [] (ax (vz 2) (bi (bA aw c) (ax [.v 0 1] (aj (cS 0 51 (e:=(decide (d<(c.length:Int)))) (b:=true) k) (ax (vz 2) (bi (bE aw aw q (cU) aT) (ax (vz 4) (aj (cS 0 59 (e:=(((gD c d).Kind) == 1)) (b:=true) m) (ax (vz 2) (bi (bE aw aw v (cU) aT) (ax (vz 6) (aj (cS 0 69 (e:=(((gD c d).Of) == ((gD c a).Of))) (b:=true) s) (ax (vz 3) (bi (bE aw aw y (cU) aT) (ax (vz 3) (bi (bE aw aw z (cU) aT) (ax [.v 0 1] (aj (cq 0 1 79 (ul x A)) (ax (vz 2) bN))))))))))))))))))) (ag 0 (En x o p h))
   ·exact bQ 0 (nu 47 [iI d,.sl (lm aw c),iI (c.length:Int),.bool (decide (d<(c.length:Int))),.bool true,.sl (lm aw c),iI d,.cptr (aw (gD c d)),.cptr (List.drop 0 (aw (gD c d))),iI ((gD c d).Kind),.bool (((gD c d).Kind) == 1),.bool (((gD c d).Kind) == 1),.bool true,.sl (lm aw c),iI d,.cptr (aw (gD c d)),.cptr (List.drop 1 (aw (gD c d))),iI ((gD c d).Of),.ptr 8 1,iI ((gD c a).Of),.bool (((gD c d).Of) == ((gD c a).Of)),.bool (((gD c d).Of) == ((gD c a).Of)),.bool false,bf,bf,bf,bf,bf,bf,bf,bf,bf,bf,bf,.bool false]) [] [] [] (ax (vz 2) (bi (bA aw c) (ax [.v 0 1] (aj (cS 0 51 (e:=(decide (d<(c.length:Int)))) (b:=true) k) (ax (vz 2) (bi (bE aw aw q (cU) aT) (ax (vz 4) (aj (cS 0 59 (e:=(((gD c d).Kind) == 1)) (b:=true) m) (ax (vz 2) (bi (bE aw aw v (cU) aT) (ax (vz 6) (aj (cS 0 69 (e:=(((gD c d).Of) == ((gD c a).Of))) (b:=false) s) (aj (aC 0 1) (aj (aC 0 1) (aj (aC 0 1) (aj (aC 0 1) (aj (aC 0 1) (aj (aC 0 1) (aj (aC 0 1) (aj (aC 0 1) (aj (aC 0 1) (aj (aC 0 1) (aj (aC 0 1) (ax [.v 0 1] bN)))))))))))))))))))))))) (ag 0 (En x o p h))
  ·exact bQ 0 (nu 47 [iI d,.sl (lm aw c),iI (c.length:Int),.bool (decide (d<(c.length:Int))),.bool true,.sl (lm aw c),iI d,.cptr (aw (gD c d)),.cptr (List.drop 0 (aw (gD c d))),iI ((gD c d).Kind),.bool (((gD c d).Kind) == 1),.bool (((gD c d).Kind) == 1),.bool false,bf,bf,bf,bf,bf,bf,bf,bf,.bool false,.bool false,bf,bf,bf,bf,bf,bf,bf,bf,bf,bf,bf,.bool false]) [] [] [] (ax (vz 2) (bi (bA aw c) (ax [.v 0 1] (aj (cS 0 51 (e:=(decide (d<(c.length:Int)))) (b:=true) k) (ax (vz 2) (bi (bE aw aw q (cU) aT) (ax (vz 4) (aj (cS 0 59 (e:=(((gD c d).Kind) == 1)) (b:=false) m) (aj (aC 0 1) (aj (aC 0 1) (aj (aC 0 1) (aj (aC 0 1) (aj (aC 0 1) (aj (aC 0 1) (aj (aC 0 1) (aj (aC 0 1) (ax (vz 2) (aj (aC 0 1) (aj (aC 0 1) (aj (aC 0 1) (aj (aC 0 1) (aj (aC 0 1) (aj (aC 0 1) (aj (aC 0 1) (aj (aC 0 1) (aj (aC 0 1) (aj (aC 0 1) (aj (aC 0 1) (ax [.v 0 1] bN))))))))))))))))))))))))))))) (ag 0 (En x o p h))
 ·exact bQ 0 (nu 47 [iI d,.sl (lm aw c),iI (c.length:Int),.bool (decide (d<(c.length:Int))),.bool false,bf,bf,bf,bf,bf,bf,.bool false,.bool false,bf,bf,bf,bf,bf,bf,bf,bf,.bool false,.bool false,bf,bf,bf,bf,bf,bf,bf,bf,bf,bf,bf,.bool false]) [] [] [] (ax (vz 2) (bi (bA aw c) (ax [.v 0 1] (aj (cS 0 51 (e:=(decide (d<(c.length:Int)))) (b:=false) k) (aj (aC 0 1) (aj (aC 0 1) (aj (aC 0 1) (aj (aC 0 1) (aj (aC 0 1) (aj (aC 0 1) (ax (vz 2) (aj (aC 0 1) (aj (aC 0 1) (aj (aC 0 1) (aj (aC 0 1) (aj (aC 0 1) (aj (aC 0 1) (aj (aC 0 1) (aj (aC 0 1) (ax (vz 2) (aj (aC 0 1) (aj (aC 0 1) (aj (aC 0 1) (aj (aC 0 1) (aj (aC 0 1) (aj (aC 0 1) (aj (aC 0 1) (aj (aC 0 1) (aj (aC 0 1) (aj (aC 0 1) (aj (aC 0 1) (ax [.v 0 1] bN)))))))))))))))))))))))))))))))) (ag 0 (En x o p h))
theorem WO(e:ao K)(b:pi M i r v2 c j l)(m:Nat):JG M i r v2 c a f g j m (pY K n v2 c a f g l m):=by
 induction m with
 | zero=>intro d h;cases h
 | succ m k=>intro d h;have h:ss K n v2 c a f g l (pY K n v2 c a f g l m) d=some r:=h;exact bh (Za e b k h)
theorem Kg(k:ao K)(e:pi M i r v2 c j l)(h:pK K n v2 c a f l g=some r):yf M i r (fD 3915 :: .b 1::lg M i r j) (ZX v2 c a f g):=by
 unfold pK at h;obtain⟨s,m,h⟩:=bW h;refine bw (ks':=fD 250613 :: .b 2::fD 31327 :: .b 1::lg M i r j) 10 ⟨[(1,.fn v2.id v2.aO),(5,.sl (lm aw c)),(6,.ref 117),(7,iI a),(8,.ptr 8 0),(9,.bool g),(10,.ptr 10 0),(11,iI (aa (a+1))),(46,iI ((gD c a).Kind)),(89,.bool s)],[(8,aw (gD c a)),(10,List.set (aS cR) 61 (.nils))],[(117,(b6 f))],[8,10,117]⟩ ?_ (by subst m;kernel_rfl);obtain⟨b,h⟩|⟨b,h⟩:=am h
 ·exact ah 89 b (b8 (ks':=.b 2::fD 31327 :: .b 1::lg M i r j) 2 (nz 10 (ag 0 (F6 k e h))))
 ·refine ah 89 b ?_;obtain⟨t,o,h⟩:=bW h;refine bw (ks':=fD 1002455 :: .b 2::fD 31327 :: .b 1::lg M i r j) 3 ⟨[(1,.fn v2.id v2.aO),(5,.sl (lm aw c)),(6,.ref 117),(7,iI a),(8,.ptr 8 0),(9,.bool g),(10,.ptr 10 0),(11,iI (aa (a+1))),(92,.bool t)],[(8,aw (gD c a)),(10,List.set (aS cR) 61 (.nils))],[(117,(b6 f))],[8,10,117]⟩ ?_ (by subst o;kernel_rfl);obtain⟨d,h⟩|⟨d,h⟩:=am h
  ·refine ah 92 d (bg 2 1 (ai 5 ?_));obtain⟨u,q,h⟩:=bind_some h;exact ld (k.uD q) (ac (ag 0 (F6 k e h)))
  ·exact ah 92 d (ag 3 (cd (p:=pn 8019644) n (WO k e n h)))
theorem ago(q:ao K)(m:pi M i r v2 c j l)(h:vi K n v2 c l a f=some r):yf M i r (fD 244::lg M i r j) (N1 v2 c a f):=by
 unfold vi at h;refine cc 4 5 3 2 (ai 2 (au (bA aw c) (ac ?_)));obtain⟨g,h⟩|⟨g,h⟩:=am h
 ·refine ah 17 g (b8 (ks':=fD 1956::fD 1957 :: .b 1::lg M i r j) 4 (ai 2 ?_));obtain⟨s,h⟩:=aF h;refine au (bE aw aw s (cU) aT) (ac (av 2 3 1 (bK [1,5,6,7,8] [8] [117] ?_)));obtain⟨d,h⟩|⟨d,h⟩:=am h
  ·obtain⟨p,h⟩:=aF h;obtain⟨k,h⟩|⟨k,h⟩:=am h
   ·obtain⟨t,h⟩:=aF h;obtain⟨o,u,h⟩:=bind_some h;exact bQ 1 (nu 22 [iI a,.bool (decide (a>0)),.bool true,.sl (lm aw c),iI a,iI (aa (a-1)),.cptr (aw (gD c ((aa (a-1))))),.cptr (List.drop 0 (aw (gD c ((aa (a-1)))))),iI ((gD c ((aa (a-1)))).Kind),.bool (((gD c ((aa (a-1)))).Kind) != 2),.bool (((gD c ((aa (a-1)))).Kind) != 2),.bool true,.sl (lm aw c),iI a,iI (aa (a-1)),.cptr (aw (gD c ((aa (a-1))))),.agg (aw (gD c ((aa (a-1))))),.agg (aw (gD c a)),.bool o,.bool (!o),.bool (!o)]) [] [] [cf bb 120 Tryz.f112 (pn 3914) 21] (ax (vz 2) (aj (cS 0 24 (e:=(decide (a>0))) (b:=true) d) (ax (vz 3) (bi (bE aw aw p (cU) aT) (ax (vz 4) (aj (cS 0 33 (e:=(((gD c ((aa (a-1)))).Kind) != 2)) (b:=true) k) (ax (vz 3) (bi (bE aw aw t (cU) aT) (ax (vz 2) (aj (cq 0 1 40 (ul q u)) (ax (vz 2) (aj (ce 0) bN)))))))))))) (ag 0 (Kg q m h))
   ·exact bQ 1 (nu 22 [iI a,.bool (decide (a>0)),.bool true,.sl (lm aw c),iI a,iI (aa (a-1)),.cptr (aw (gD c ((aa (a-1))))),.cptr (List.drop 0 (aw (gD c ((aa (a-1)))))),iI ((gD c ((aa (a-1)))).Kind),.bool (((gD c ((aa (a-1)))).Kind) != 2),.bool (((gD c ((aa (a-1)))).Kind) != 2),.bool false,bf,bf,bf,bf,bf,bf,bf,bf,.bool false]) [] [] [cf bb 120 Tryz.f112 (pn 3914) 21] (ax (vz 2) (aj (cS 0 24 (e:=(decide (a>0))) (b:=true) d) (ax (vz 3) (bi (bE aw aw p (cU) aT) (ax (vz 4) (aj (cS 0 33 (e:=(((gD c ((aa (a-1)))).Kind) != 2)) (b:=false) k) (aj (aC 0 1) (aj (aC 0 1) (aj (aC 0 1) (aj (aC 0 1) (aj (aC 0 1) (aj (aC 0 1) (aj (aC 0 1) (aj (aC 0 1) (ax [.v 0 1] (aj (ce 0) bN)))))))))))))))) (ag 0 (Kg q m h))
  ·exact bQ 1 (nu 22 [iI a,.bool (decide (a>0)),.bool false,bf,bf,bf,bf,bf,bf,bf,.bool false,.bool false,bf,bf,bf,bf,bf,bf,bf,bf,.bool false]) [] [] [cf bb 120 Tryz.f112 (pn 3914) 21] (ax (vz 2) (aj (cS 0 24 (e:=(decide (a>0))) (b:=false) d) (aj (aC 0 1) (aj (aC 0 1) (aj (aC 0 1) (aj (aC 0 1) (aj (aC 0 1) (aj (aC 0 1) (aj (aC 0 1) (ax (vz 2) (aj (aC 0 1) (aj (aC 0 1) (aj (aC 0 1) (aj (aC 0 1) (aj (aC 0 1) (aj (aC 0 1) (aj (aC 0 1) (aj (aC 0 1) (ax [.v 0 1] (aj (ce 0) bN)))))))))))))))))))) (ag 0 (Kg q m h))
 ·refine ah 17 g (aL 8 ?_);cases h;exact fC
theorem V7(b:ao K)(m:Nat):pi M i r v2 c m (pW K n v2 c m):=by
 induction m with
 | zero=>intro a f h;cases h
 | succ m d=>intro a f h;have h:vi K n v2 c (pW K n v2 c m) a f=some r:=h;exact bh (ago b d h)
theorem aaz(a:ao K)(h:td K n x v2=some r):aX bb 112 [.sl (lm aM x),.fn v2.id v2.aO] (fun v s=>v=.ref 117∧look 117 s.r=some (b6 r)):=by
 refine bF (cat Tryz.f112 (pn 1)) amr amp fun M i=>(bd ⟨[(0,.sl (lm aM x)),(1,.fn v2.id v2.aO)],[],[],[]⟩ ?_);unfold td at h;refine av 6 7 3 (ai 1 ?_);obtain⟨c,b,h⟩:=bind_some h;exact eS 1013 (Jz a b) (eX 400003) (ac (gn 26 0 7 6 (bK [1,5,6,7] [] [1013] (iR 1013 (eL 117 6 165 62 (ag 0 (cd (p:=pn 122) n (V7 a n h))))))))
end
noncomputable section
variable[GS](M:Nat→Prop)(d:aA)(r:ae×Int×Int×dO)(a:ab)(v2:bD)(b:bu)(v4 v5:Int)(v6:dO)  
abbrev Ns(n:Nat):aq:=.c (cat Tryz.f74 (pn n))
variable{M d r a v2 b v4 v5 v6}{K:Kn}{n:Nat}[SG d]
theorem ajk(f:ao K)(h:BG K n a v2 b v4 v5 v6=some r):eo bb 74 [.agg (aB a),.agg (bV v2),.agg (bI b)] [(af v4 v5)] (bt v6) (fun v s=>v=.agg (aG r.1)∧cy s.o [(af r.2.1 r.2.2.1)]∧look 440009 s.r=some (bt r.2.2.2)):=by
 refine jO (c:=cat Tryz.f74 []) Tryz.func74 (by kernel_rfl) _ Tryz.ntmps74 (kc (by kernel_rfl)) fun M d=>(bd ⟨[(0,.agg (aB a)),(1,.agg (bV v2)),(2,.agg (bI b))],[(af v4 v5)],[(440009,(bt v6))],[440009,440001,1440001]⟩ ?_);unfold BG at h;refine b8 (ks':=[Ns 6,Ns 7]) 3 (ai 3 ?_);obtain⟨g,e,h⟩:=bind_some h;refine rt (Ob f e) (ac (aL 1 ?_));cases h;exact fa
end
noncomputable section
variable[GS](M:Nat→Prop)(b:aA)(r:Int)(a:ab)(v2:Int)(c:bu)(d:Int)  
abbrev X7(n:Nat):aq:=.c (cat Tryz.f99 (pn n))
abbrev ahc:Cx:=⟨bb,46,M,b⟩
abbrev q99:=bodyPost bb Tryz.f99 (bJ M b (fun v _=>v=iI r))
abbrev ai7(a:dt)(s:AS):=VE (ahc M b) (q99 M b r) a .normal s
def afS:AS:=⟨[(1,iI v2),(3,.ptr 3 0),(7,iI d)],[(3,aB a)],[],[3]⟩
variable{M b r a v2 c d}{K:Kn}{n:Nat}
theorem Q7(e:ao K)(h:CR K n a v2 d=some r):ai7 M b r [X7 15] (afS a v2 d):=by
 unfold CR at h;refine av 2 3 1 (ai 4 ?_);obtain⟨f,c,h⟩:=bind_some h;refine aK (y8 e c) (ac (aL 1 ?_));cases h;exact bv
theorem aig(d:ao K)(h:I7 K n a v2 c=some r):aX bb 99 [.agg (aB a),iI v2,.agg (bI c)] (fun v _=>v=iI r):=by
 refine bF (cat Tryz.f99 (pn 1)) Tryz.func99 Tryz.ntmps99 fun M b=>(bd ⟨[(0,.agg (aB a)),(1,iI v2),(2,.agg (bI c))],[],[],[]⟩ ?_);unfold I7 at h;refine av 6 7 3 (ai 4 ?_);obtain⟨v4,g,h⟩:=bind_some h;refine aK (eu d g) (ac (av 5 3 3 ?_));obtain⟨e,h⟩|⟨e,h⟩:=am h
 ·refine ah 21 e (av 4 5 2 (ai 2 ?_));obtain⟨v5,i,h⟩:=bind_some h;refine aK (KZ d i) (ac (av 2 3 1 (bK [1,3,9,10] [3] [] ?_)));obtain⟨v6,j,h⟩:=bind_some h;obtain⟨m,k,h⟩:=bind_some h;obtain⟨f,l,h⟩:=bind_some h;exact bQ 1 (nu 28 [iI v2,iI v6,.ptr 3 2,.agg (aH a.Style),iI v2,.agg (bV m),iI f,iI (aa (v6-f))]) [] [] [cf bb 46 Tryz.f99 (pn 234) 8] (ax [.v 0 1] (aj (cq 0 1 29 (jP d j)) (ax (vz 3) (aj (cq 0 1 33 (m6 d k)) (aj (cq 0 1 34 (o5 d l)) (ax [.v 0 1] (aj (ce 0) bN))))))) (ag 1 (Q7 d h))
 ·exact ah 21 e (ag 2 (Q7 d h))
end
noncomputable section
variable[GS](M:Nat→Prop)(c:aA)(r:az)(a:ab)(v2:Int)(b:bu)  
variable{M c r a v2 b}{K:Kn}{n:Nat}
theorem afq(d:ao K)(h:HG K n a v2 b=some r):aX bb 147 [.agg (aB a),.cptr ([iI v2]),.cptr (bI b)] (fun v _=>v=.agg (aS r)):=by
 refine bF (cat Tryz.f147 (pn 1)) Tryz.func147 Tryz.ntmps147 fun M c=>(bd ⟨[(0,.agg (aB a)),(1,.cptr ([iI v2])),(2,.cptr (bI b))],[],[],[]⟩ ?_);unfold HG at h;refine av 6 7 3 (bK [1,2,3,4] [3,4] [] ?_);obtain⟨v4,e,h⟩:=bind_some h;obtain⟨v5,f,h⟩:=bind_some h;refine bQ 1 (nu 7 [.ptr 3 2,.agg (aH a.Style),iI v2,.agg (aB a),iI v2,.agg (bI b),iI v4,.agg (bV v5)]++nu 5 [.ptr 5 0]) [(5,bV fy)] [] [cf bb 36 Tryz.f147 (pn 6) 9] (ax (vz 6) (aj (cq 0 1 13 (aig d e)) (aj (cq 0 1 14 (m6 d f)) (aj (nO 0 1 68 5 (bV fy)) (aj (ce 0) bN))))) ?_;cases h
end
noncomputable section
variable[GS](M:Nat→Prop)(c:aA)(r:d5)(b:d4)(v2:Int)(a:bu)  
variable{M c r b v2 a}{K:Kn}{n:Nat}
theorem VQ(e:ao K)(h:zL K n b v2 a=some r):aX bb 109 [.sl (lm aM b),iI v2,.agg (bI a)] (fun v s=>v=.ref 1009∧look 1009 s.r=some (b6 r)):=by
 refine bF (cat Tryz.f109 (pn 1)) Tryz.func109 Tryz.ntmps109 fun M c=>(bd ⟨[(0,.sl (lm aM b)),(1,iI v2),(2,.agg (bI a))],[],[],[]⟩ ?_);unfold zL at h;refine av 6 7 3 (ai 1 (oJ 4 4 ([iI v2]) (oJ 5 5 (bI a) (tY 147 #[(.tmp 4),(.tmp 5)] [.cptr ([iI v2]),.cptr (bI a)] ?_))));obtain⟨v4,d,h⟩:=bind_some h;refine eS 1009 (aaz e d) (eX 117) (ac (aL 1 ?_));cases h;exact fC
end
noncomputable section
variable[GS](M:Nat→Prop)(b:aA)(r:Int)(a:d5)(v2 v4:Int)(v5:Bool)(c:Nat)(d:Int→Option Int)
abbrev Gs:Cx:=⟨bb,22,M,b⟩
abbrev KK:=bodyPost bb Tryz.f115 (bJ M b (fun v _=>v=iI r))
abbrev Tu(a:dt)(s:AS):=VE (Gs M b) (KK M b r) a .normal s
abbrev B0(n:Nat):aq:=.c (cat Tryz.f115 (pn n))
abbrev GO:dt:=[.b 0,B0 15]
abbrev Py:dt:=kl (Gs M b) (KK M b r) GO (cat Tryz.f115 (pn 56)) c::GO
def abB:AS:=⟨[(0,.sl (lm aS a)),(5,iI v4),(18,.bool v5)],[],[],[]⟩
def QB:AS:=⟨[(0,.sl (lm aS a)),(5,iI v4)],[],[],[]⟩
abbrev GM:Prop:=∀{v4:Int},d v4=some r→LP (Gs M b) (KK M b r) GO (cat Tryz.f115 (pn 56)) c (QB a v4)
variable{M b r a v2 v4 v5 c d}{K:Kn}{n:Nat}
theorem Qa(g:ao K)(f:GM M b r a c d)(h:vc K n a v4 d v5=some r):Tu M b r (B0 225::B0 113::Py M b r c) (abB a v4 v5):=by
 unfold vc at h;obtain⟨e,h⟩|⟨e,h⟩:=am h
 ·exact ah 18 e (ag 5 (bn (f h)))
 ·refine ah 18 e (aL 8 ?_);cases h;exact bv
theorem abd(g:ao K)(e:GM M b r a c d)(h:tC K n a d v4=some r):Tu M b r (B0 56::Py M b r c) (QB a v4):=by
 unfold tC at h;refine cc 4 5 3 2 (ai 2 (au (bA aS a) (aQ 5 2 ?_)));obtain⟨f,h⟩|⟨f,h⟩:=am h
 ·refine aD 12 f (aQ 7 2 ?_);obtain⟨i,h⟩:=aF h;exact au (bE aS aS i (iW) aT) (ac (ag 0 (Qa g e h)))
 ·exact aD 12 f (ac (ag 0 (Qa g e h)))
theorem VL(c:ao K)(m:Nat):GM M b r a m (vJ K n a m):=by
 induction m with
 | zero=>intro v4 h;cases h
 | succ m d=>intro v4 h;have h:tC K n a (vJ K n a m) v4=some r:=h;exact bh (abd c d h)
theorem JY(c:ao K)(h:pX K n a v2=some r):aX bb 115 [.sl (lm aS a),iI v2] (fun v _=>v=iI r):=by
 refine bF (cat Tryz.f115 (pn 1)) Tryz.func115 Tryz.ntmps115 fun M b=>(bd ⟨[(0,.sl (lm aS a)),(1,iI v2)],[],[],[]⟩ ?_);unfold pX at h;exact ag 6 (cd (p:=pn 28) n (VL c n h))
end
noncomputable section
variable[GS](M:Nat→Prop)(b:aA)(r:Int)(a:d5)(c:Int)(d:Nat)(e:Int→Option Int)
abbrev EV:Cx:=⟨bb,18,M,b⟩
abbrev Hb:=bodyPost bb Tryz.f150 (bJ M b (fun v _=>v=iI r))
abbrev ZQ(a:dt)(s:AS):=VE (EV M b) (Hb M b r) a .normal s
abbrev UV(n:Nat):aq:=.c (cat Tryz.f150 (pn n))
abbrev I0:dt:=[.b 0,UV 7]
abbrev Y0:dt:=kl (EV M b) (Hb M b r) I0 (cat Tryz.f150 (pn 52)) d::I0
def RO:AS:=⟨[(0,.sl (lm aS a)),(3,iI c)],[],[],[]⟩
abbrev UC:Prop:=∀{c:Int},e c=some r→LP (EV M b) (Hb M b r) I0 (cat Tryz.f150 (pn 52)) d (RO a c)
variable{M b r a c d e}{K:Kn}{n:Nat}
theorem abI(k:ao K)(i:UC M b r a d e)(h:oN K n a e c=some r):ZQ M b r (UV 52::Y0 M b r d) (RO a c):=by
 unfold oN at h;refine av 5 3 3 ?_;obtain⟨f,h⟩|⟨f,h⟩:=am h
 ·refine ah 8 f (cN 8 9 1 3 5 (ai 2 ?_));obtain⟨j,h⟩:=aF h;refine au (bE aS aS j (iW) aT) (ac ?_);obtain⟨g,h⟩|⟨g,h⟩:=am h
  ·refine ah 16 g (aL 9 ?_);cases h;exact bv
  ·exact ah 16 g (ag 4 (bn (i h)))
 ·refine ah 8 f (aL 8 ?_);cases h;exact bv
theorem ahd(d:ao K)(m:Nat):UC M b r a m (nI K n a m):=by
 induction m with
 | zero=>intro c h;cases h
 | succ m e=>intro c h;have h:oN K n a (nI K n a m) c=some r:=h;exact bh (abI d e h)
theorem SW(c:ao K)(h:oS K n a=some r):aX bb 150 [.sl (lm aS a)] (fun v _=>v=iI r):=by
 refine bF (cat Tryz.f150 (pn 1)) Tryz.func150 Tryz.ntmps150 fun M b=>(bd ⟨[(0,.sl (lm aS a))],[],[],[]⟩ ?_);unfold oS at h;exact cc 12 13 7 4 (ai 1 (au (bA aS a) (ac (ag 1 (cd (p:=pn 26) n (ahd c n h))))))
end
noncomputable section
variable[GS](M:Nat→Prop)(b:aA)(r:Int)(a:d5)(v2 c v5:Int)(d:Nat)(e:Int→Int→Option Int)
abbrev Hw:Cx:=⟨bb,33,M,b⟩
abbrev FD:=bodyPost bb Tryz.f116 (bJ M b (fun v _=>v=iI r))
abbrev Vo(a:dt)(s:AS):=VE (Hw M b) (FD M b r) a .normal s
abbrev FK(n:Nat):aq:=.c (cat Tryz.f116 (pn n))
abbrev Fm:dt:=[.b 0,FK 15]
abbrev adq:dt:=kl (Hw M b) (FD M b r) Fm (cat Tryz.f116 (pn 116)) d::Fm
def ajW:AS:=⟨[(3,iI v5)],[],[],[]⟩
def NB:AS:=⟨[(0,.sl (lm aS a)),(3,iI v2),(7,.sl (lm aS a)),(8,iI (a.length:Int)),(9,iI c)],[],[],[]⟩
abbrev U6:Prop:=∀{v2:Int} {c:Int},e v2 c=some r→LP (Hw M b) (FD M b r) Fm (cat Tryz.f116 (pn 116)) d (NB a v2 c)
variable{M b r a v2 c v5 d e}{K:Kn}{n:Nat}
theorem Qz(a:ao K)(h:xu K n v5=some r):Vo M b r [FK 31] (ajW v5):=by
 unfold xu at h;refine aL 3 ?_;cases h;exact bv
theorem ah3(i:ao K)(j:U6 M b r a d e)(h:wz K n a e v2 c=some r):Vo M b r (FK 116::adq M b r d) (NB a v2 c):=by
 unfold wz at h;refine av 6 7 3 ?_;obtain⟨f,h⟩|⟨f,h⟩:=am h
 ·refine ah 10 f (cN 8 9 1 3 5 (ai 0 ?_));obtain⟨k,h⟩:=aF h;exact au (bE aS aS k (iW) aT) (ac (ag 3 (bn (j h))))
 ·refine ah 10 f (tS 4 5 3 7 (ai 1 ?_));obtain⟨v4,l,h⟩:=bind_some h;refine aK (SW i l) (ac (bg 3 2 ?_));obtain⟨g,h⟩|⟨g,h⟩:=am h
  ·refine ah 24 g (bg 2 1 (ai 3 ?_));obtain⟨m,h⟩:=aF h;exact au (bE aS aS m (iW) aT) (ac (ag 0 (Qz i h)))
  ·exact ah 24 g (ag 2 (Qz i h))
theorem ag5(d:ao K)(m:Nat):U6 M b r a m (sQ K n a m):=by
 induction m with
 | zero=>intro v2 c h;cases h
 | succ m e=>intro v2 c h;have h:wz K n a (sQ K n a m) v2 c=some r:=h;exact bh (ah3 d e h)
theorem D6(c:ao K)(h:oq K n a=some r):aX bb 116 [.sl (lm aS a)] (fun v _=>v=iI r):=by
 refine bF (cat Tryz.f116 (pn 1)) Tryz.func116 Tryz.ntmps116 fun M b=>(bd ⟨[(0,.sl (lm aS a))],[],[],[]⟩ ?_);unfold oq at h;exact cc 28 29 15 6 (ai 1 (au (bA aS a) (ac (ag 1 (cd (p:=pn 58) n (ag5 c n h))))))
end
noncomputable section
variable[GS](M:Nat→Prop)(c:aA)(r:ck)(d:d5)(v2 a:Int)(b:ck)(f:Int)(j:Bool)(g l:Nat)(i:Int→ck→Option ck)(o:Int→Option ck)
abbrev Aa:Cx:=⟨bb,46,M,c⟩
abbrev zN:=bodyPost bb Tryz.f110 (bJ M c (fun v s=>v=.ref 16∧look 16 s.r=some (bk r)))
abbrev BR(a:dt)(s:AS):=VE (Aa M c) (zN M c r) a .normal s
abbrev kR(n:Nat):aq:=.c (cat Tryz.f110 (pn n))
abbrev JA:dt:=[.b 0,kR 15]
abbrev DM:dt:=kl (Aa M c) (zN M c r) JA (cat Tryz.f110 (pn 116)) g::JA
abbrev JL:dt:=.b 2::kR 3735 :: .b 1::DM M c r g
abbrev HO:dt:=kl (Aa M c) (zN M c r) (JL M c r g) (cat Tryz.f110 (pn 14936)) l::(JL M c r g)
def aiK:AS:=⟨[(0,.sl (lm aS d)),(1,iI v2),(5,.ref 16),(7,iI f)],[],[(16,⟨3,1,lm (ak .i64) (b++[a])⟩)],[16]⟩
def afW:AS:=⟨[(0,.sl (lm aS d)),(1,iI v2),(5,.ref 16),(6,iI a),(7,iI f),(32,.bool j)],[],[(16,⟨3,1,lm (ak .i64) (b++[a])⟩)],[16]⟩
def OM:AS:=⟨[(0,.sl (lm aS d)),(1,iI v2),(5,.ref 16),(6,iI a),(7,iI f)],[],[(16,⟨3,1,lm (ak .i64) (b++[a])⟩)],[16]⟩
def Ly:AS:=⟨[(0,.sl (lm aS d)),(1,iI v2),(5,.ref 16),(6,iI a)],[],[(16,(bk b))],[16]⟩
abbrev sD:Prop:=∀{a:Int} {b:ck},i a b=some r→LP (Aa M c) (zN M c r) JA (cat Tryz.f110 (pn 116)) g (Ly d v2 a b)
abbrev GL:Prop:=∀{f:Int},o f=some r→LP (Aa M c) (zN M c r) (JL M c r g) (cat Tryz.f110 (pn 14936)) l (OM d v2 a b f)
variable{M c r d v2 a b f j g l i o}{K:Kn}{n:Nat}
theorem SJ(j:ao K)(e:sD M c r d v2 g i)(h:Co K n d v2 a b f i=some r):BR M c r (kR 3735 :: .b 1::DM M c r g) (aiK d v2 a b f):=by
 unfold Co at h;exact ag 2 (bn (e h))
theorem PC(s:ao K)(q:sD M c r d v2 g i)(w:GL M c r d v2 a b g l o)(h:uv K n d v2 a b f i o j=some r):BR M c r (kR 59745::kR 29873::HO M c r g l) (afW d v2 a b f j):=by
 unfold uv at h;obtain⟨m,h⟩|⟨m,h⟩:=am h
 ·refine ah 32 m (b8 (ks':=kR 119492::kR 119493 :: .b 3::HO M c r g l) 4 (ai 2 ?_));obtain⟨x,t,h⟩:=bind_some h;refine aK (JY s t) (ac (cc 4 5 3 2 (ai 3 ?_)));obtain⟨u,h⟩:=aF h;refine au (l6 aS d a x 159 (.tmp 36) (some (.tmp 37)) (some (.tmp 38)) 39 (e:=165) (sz:=62) (by kernel_rfl) (by kernel_rfl) (by kernel_rfl) (by kernel_rfl) (by kernel_rfl) (by kernel_rfl) (iW) (fun k y=>by subst y;kernel_rfl) u) ?_;obtain⟨z,v,h⟩:=bind_some h;refine aK (D6 s v) (ac ?_);obtain⟨p,h⟩|⟨p,h⟩:=am h
  ·exact ah 42 p (ag 6 (SJ s q h))
  ·exact ah 42 p (ag 4 (bn (w h)))
 ·exact ah 32 m (ag 5 (SJ s q h))
theorem Ze(p:ao K)(j:sD M c r d v2 g i)(k:GL M c r d v2 a b g l o)(h:vZ K n d v2 a b i o f=some r):BR M c r (kR 14936::HO M c r g l) (OM d v2 a b f):=by
 unfold vZ at h;refine cc 4 5 3 2 (ai 2 (au (bA aS d) (aQ 5 2 ?_)));obtain⟨e,h⟩|⟨e,h⟩:=am h
 ·refine aD 24 e (aQ 8 3 ?_);obtain⟨m,h⟩:=aF h;exact au (bE aS aS m (iW) aT) (ac (ag 0 (PC p j k h)))
 ·exact aD 24 e (ac (ag 0 (PC p j k h)))
theorem Xe(j:ao K)(e:sD M c r d v2 g i)(m:Nat):GL M c r d v2 a b g m (sI K n d v2 a b i m):=by
 induction m with
 | zero=>intro f h;cases h
 | succ m k=>intro f h;have h:vZ K n d v2 a b i (sI K n d v2 a b i m) f=some r:=h;exact bh (Ze j e k h)
theorem ae8(l:ao K)(k:sD M c r d v2 g i)(h:tL K n d v2 i a b=some r):BR M c r (kR 116::DM M c r g) (Ly d v2 a b):=by
 unfold tL at h;refine cc 4 5 3 2 (ai 2 (au (bA aS d) (ac ?_)));obtain⟨e,h⟩|⟨e,h⟩:=am h
 ·refine ah 12 e (b8 (ks':=kR 932::kR 933 :: .b 1::DM M c r g) 4 (ai 3 ?_));obtain⟨f,h⟩:=aF h;refine au (cG 16 16 3 1 (ak .i64) (rfl) aT f) (ac (av 2 3 1 (ai 2 ?_)));obtain⟨m,j,h⟩:=bind_some h;exact aK (JY l j) (ac (ag 2 (cd (p:=pn 7468) n (Xe l k n h))))
 ·refine ah 12 e (aL 8 ?_);cases h;exact fC
theorem ajf(e:ao K)(m:Nat):sD M c r d v2 m (rM K n d v2 m):=by
 induction m with
 | zero=>intro a b h;cases h
 | succ m f=>intro a b h;have h:tL K n d v2 (rM K n d v2 m) a b=some r:=h;exact bh (ae8 e f h)
theorem afo(a:ao K)(h:z6 K n d v2=some r):aX bb 110 [.sl (lm aS d),iI v2] (fun v s=>v=.ref 16∧look 16 s.r=some (bk r)):=by
 refine bF (cat Tryz.f110 (pn 1)) Tryz.func110 Tryz.ntmps110 fun M c=>(bd ⟨[(0,.sl (lm aS d)),(1,iI v2)],[],[],[]⟩ ?_);unfold z6 at h;exact gn 58 0 15 8 (bK [0,1,5,6] [] [] (eL 16 5 3 1 (ag 0 (cd (p:=pn 58) n (ajf a n h)))))
end
noncomputable section
variable[GS](M:Nat→Prop)(c:aA)(r:Int)(a:aI)(v2 b:Int)  
variable{M c r a v2 b}{K:Kn}{n:Nat}
theorem afN(g:ao K)(h:rO K n a v2 b=some r):aX bb 149 [.agg (aH a),iI v2,iI b] (fun v _=>v=iI r):=by
 refine bF (cat Tryz.f149 (pn 1)) Tryz.func149 Tryz.ntmps149 fun M c=>(bd ⟨[(0,.agg (aH a)),(1,iI v2),(2,iI b)],[],[],[]⟩ ?_);unfold rO at h;refine av 13 7 5 ?_;obtain⟨d,h⟩|⟨d,h⟩:=am h
 ·refine ah 9 d (aL 5 ?_);cases h;exact bv
 ·refine ah 9 d (IG 21 0 3 8 ?_);obtain⟨e,h⟩|⟨e,h⟩:=am h
  ·refine ah 12 e (aL 6 ?_);cases h;exact bv
  ·refine ah 12 e (bg 7 3 ?_);obtain⟨f,h⟩|⟨f,h⟩:=am h
   ·refine ah 18 f (aL 6 ?_);cases h;exact bv
   ·refine ah 18 f (aL 6 ?_);cases h;exact bv
end
noncomputable section
variable[GS](M:Nat→Prop)(a:aA)(r:Bool)(b v2:ByteArray)(c:Bool)  
abbrev aiw(n:Nat):aq:=.c (cat Tryz.f173 (pn n))
abbrev abl:Cx:=⟨bb,21,M,a⟩
abbrev YJ:=bodyPost bb Tryz.f173 (bJ M a (fun v _=>v=.bool r))
abbrev acV(b:dt)(s:AS):=VE (abl M a) (YJ M a r) b .normal s
def af9:AS:=⟨[(4,.bool c)],[],[],[]⟩
variable{M a r b v2 c}{K:Kn}{n:Nat}
theorem MX(b:ao K)(h:yQ K n c=some r):acV M a r [aiw 7] (af9 c):=by
 unfold yQ at h;refine aL 1 ?_;cases h;exact bv
theorem Wv(d:ao K)(h:BM K n b v2=some r):aX bb 173 [.str b,.str v2] (fun v _=>v=.bool r):=by
 refine bF (cat Tryz.f173 (pn 1)) Tryz.func173 Tryz.ntmps173 fun M a=>(bd ⟨[(0,.str b),(1,.str v2)],[],[],[]⟩ ?_);unfold BM at h;refine av 6 7 3 (ai 6 ?_);obtain⟨c,h⟩|⟨c,h⟩:=am h
 ·refine aD 10 c (aQ 12 6 ?_);obtain⟨e,h⟩:=aF h;exact au (CA e) (ac (ag 0 (MX d h)))
 ·exact aD 10 c (ac (ag 0 (MX d h)))
end
noncomputable section
variable[GS](M:Nat→Prop)(b:aA)(r:Bool)(a v2:ByteArray)  
variable{M b r a v2}{K:Kn}{n:Nat}
theorem ag3(d:ao K)(h:Ae K n a v2=some r):aX bb 151 [.str a,.str v2] (fun v _=>v=.bool r):=by
 refine bF (cat Tryz.f151 (pn 1)) Tryz.func151 Tryz.ntmps151 fun M b=>(bd ⟨[(0,.str a),(1,.str v2)],[],[],[]⟩ ?_);unfold Ae at h;refine av 6 7 3 (ai 2 ?_);obtain⟨e,c,h⟩:=bind_some h;refine aK (Wv d c) (ac (aL 1 ?_));cases h;exact bv
end
noncomputable section
variable[GS](M:Nat→Prop)(j:aA)(r:ae)(f:d5)(v2:aI)(i e k q w x c d g:Int)(o:dn)(y:Bool)(a:az)(z:dn)(b:Int)(l:dn)(A t B:Nat)(C:Int→Int→Int→Option ae)(u:Int→Int→dn→Option ae)(D:Int→dn→Option ae)
abbrev ri:Cx:=⟨bb,156,M,j⟩
abbrev pu:=bodyPost bb Tryz.f111 (bJ M j (fun v s=>v=.agg (List.set (aG ({ r with Kids:=[] }:ae)) 66 (.ref 114))∧look 114 s.r=some (bx r.Kids)))
abbrev qf(a:dt)(s:AS):=VE (ri M j) (pu M j r) a .normal s
abbrev eO(n:Nat):aq:=.c (cat Tryz.f111 (pn n))
abbrev HD:dt:=[.b 2,eO 255]
abbrev ve:dt:=kl (ri M j) (pu M j r) HD (cat Tryz.f111 (pn 2036)) t::HD
abbrev E0:dt:=[.b 0,eO 15]
abbrev Pi:dt:=kl (ri M j) (pu M j r) E0 (cat Tryz.f111 (pn 116)) A::E0
abbrev Fi:dt:=.b 4::eO 521423 :: .b 3::eO 16295::ve M j r t
abbrev I2:dt:=kl (ri M j) (pu M j r) (Fi M j r t) (cat Tryz.f111 (pn 4171380)) B::(Fi M j r t)
def acg:AS:=⟨[(0,.sl (lm aS f)),(2,iI i),(4,.ptr 4 0),(6,.ptr 6 0),(7,iI w),(8,iI x),(24,.sl (lm aS f)),(25,iI (f.length:Int)),(26,iI q)],[(4,aH v2),(6,List.set (aG bT) 66 (.nils))],[],[4,6]⟩
def Uo:AS:=⟨[(6,.ptr 6 0),(7,iI e),(11,.ptr 11 0),(12,iI d),(13,iI c),(15,.ptr 15 0),(56,.sl (lm aS f)),(57,iI (f.length:Int)),(58,iI g),(117,.sl (lm aN a.Box)),(118,iI (a.Box.length:Int)),(119,iI b)],[(6,List.set (aG bT) 66 (.nils)),(11,List.set (aG ({ bT with Kind:=2,W:=i,H:=(aa (e+k)),aA:=e,Style:=v2 }:ae)) 66 (.ref 114)),(15,aS a)],[(114,(bx l))],[6,11,15,114]⟩
def WY:AS:=⟨[(6,.ptr 6 0),(7,iI e),(11,.ptr 11 0),(12,iI d),(13,iI c),(15,.ptr 15 0),(56,.sl (lm aS f)),(57,iI (f.length:Int)),(58,iI g)],[(6,List.set (aG bT) 66 (.nils)),(11,List.set (aG ({ bT with Kind:=2,W:=i,H:=(aa (e+k)),aA:=e,Style:=v2 }:ae)) 66 (.ref 114)),(15,aS a)],[(114,(bx z))],[6,11,15,114]⟩
def af3:AS:=⟨[(6,.ptr 6 0),(7,iI e),(11,.ptr 11 0),(12,iI d),(13,iI c),(15,.ptr 15 0),(56,.sl (lm aS f)),(57,iI (f.length:Int)),(58,iI g)],[(6,List.set (aG bT) 66 (.nils)),(11,List.set (aG ({ bT with Kind:=2,W:=i,H:=(aa (e+k)),aA:=e,Style:=v2 }:ae)) 66 (.ref 114)),(15,aS a)],[(114,(bx o))],[6,11,15,114]⟩
def Z6:AS:=⟨[(6,.ptr 6 0),(7,iI e),(11,.ptr 11 0),(12,iI d),(13,iI c),(15,.ptr 15 0),(56,.sl (lm aS f)),(57,iI (f.length:Int)),(58,iI g),(76,.bool y)],[(6,List.set (aG bT) 66 (.nils)),(11,List.set (aG ({ bT with Kind:=2,W:=i,H:=(aa (e+k)),aA:=e,Style:=v2 }:ae)) 66 (.ref 114)),(15,aS (gD f g))],[(114,(bx o))],[6,11,15,114]⟩
def Vx:AS:=⟨[(6,.ptr 6 0),(7,iI e),(11,.ptr 11 0),(12,iI d),(13,iI c),(56,.sl (lm aS f)),(57,iI (f.length:Int)),(58,iI g)],[(6,List.set (aG bT) 66 (.nils)),(11,List.set (aG ({ bT with Kind:=2,W:=i,H:=(aa (e+k)),aA:=e,Style:=v2 }:ae)) 66 (.ref 114))],[(114,(bx o))],[6,11,114]⟩
def Vw:AS:=⟨[(0,.sl (lm aS f)),(2,iI i),(4,.ptr 4 0),(6,.ptr 6 0),(7,iI e),(8,iI k),(24,.sl (lm aS f)),(25,iI (f.length:Int)),(26,iI q)],[(4,aH v2),(6,List.set (aG bT) 66 (.nils))],[],[4,6]⟩
abbrev Gy:Prop:=∀{e:Int} {k:Int} {q:Int},C e k q=some r→LP (ri M j) (pu M j r) E0 (cat Tryz.f111 (pn 116)) A (Vw f v2 i e k q)
abbrev qN:Prop:=∀{d:Int} {g:Int} {o:dn},u d g o=some r→LP (ri M j) (pu M j r) HD (cat Tryz.f111 (pn 2036)) t (Vx f v2 i e k c d g o)
abbrev QR:Prop:=∀{b:Int} {l:dn},D b l=some r→LP (ri M j) (pu M j r) (Fi M j r t) (cat Tryz.f111 (pn 4171380)) B (Uo f v2 i e k c d g a b l)
variable{M j r f v2 i e k q w x c d g o y a z b l A t B C u D}{K:Kn}{n:Nat}
theorem R1(b:ao K)(a:Gy M j r f v2 i A C)(h:AI K n f v2 i q C w x=some r):qf M j r (.b 1::eO 935::Pi M j r A) (acg f v2 i q w x):=by
 unfold AI at h;exact ag 2 (bn (a h))
theorem ac4(Z:ao K)(X:qN M j r f v2 i e k c t u)(Y:QR M j r f v2 i e k c d g a t B D)(h:uI K n f v2 i e k c d g a u D b l=some r):qf M j r (eO 4171380::I2 M j r t B) (Uo f v2 i e k c d g a b l):=by
 unfold uI at h;refine av 6 7 3 ?_;obtain⟨A,h⟩|⟨A,h⟩:=am h
 ·refine ah 120 A (cN 8 9 5 3 5 (ai 0 ?_));obtain⟨F,h⟩:=aF h;refine au (bE aN aG F (jY) (dM)) (ac ?_);obtain⟨o,G,h⟩:=bW h;obtain⟨p,I,h⟩:=bW h;obtain⟨q,J,h⟩:=bW h;obtain⟨s,L,h⟩:=bW h;obtain⟨v,N,h⟩:=bW h;obtain⟨w,O,h⟩:=bW h;obtain⟨x,P,h⟩:=bW h;obtain⟨m,Q,h⟩:=bW h;obtain⟨y,R,h⟩:=bW h;obtain⟨z,S,h⟩:=bW h;refine bw (ks':=eO 533936742::eO 533936743 :: .b 5::eO 33371047::I2 M j r t B) 3 ⟨[(6,.ptr 6 0),(7,iI e),(11,.ptr 11 0),(12,iI d),(13,iI c),(15,.ptr 15 0),(18,.ptr 18 0),(56,.sl (lm aS f)),(57,iI (f.length:Int)),(58,iI g),(117,.sl (lm aN a.Box)),(118,iI (a.Box.length:Int)),(119,iI b)],[(6,List.set (aG bT) 66 (.nils)),(11,List.set (aG ({ bT with Kind:=2,W:=i,H:=(aa (e+k)),aA:=e,Style:=v2 }:ae)) 66 (.ref 114)),(15,aS a),(18,aG (⟨o,p,q,(gD a.Box b).Y,(gD a.Box b).W,(gD a.Box b).H,s,v,w,x,m,y,z⟩:ae))],[(114,(bx l))],[6,11,15,18,114]⟩ ?_ (by subst S;subst R;subst Q;subst P;subst O;subst N;subst L;subst J;subst I;subst G;kernel_rfl)
  obtain⟨C,T,h⟩:=bind_some h;refine bQ 1 (nu 128 [.ptr 18 3,iI ((gD a.Box b).Y),iI e,.ptr 18 5,iI ((gD a.Box b).H),iI (aa (e-((gD a.Box b).H))),.ptr 18 63,.agg (cT m),iI C,iI (aa ((aa (e-((gD a.Box b).H)))-C)),iI (aa (((gD a.Box b).Y)+(aa ((aa (e-((gD a.Box b).H)))-C)))),.ptr 18 3]) [] [] [cf bb 156 Tryz.f111 (pn 533936742) 12] (ax (vz 8) (aj (cq 0 1 136 (my Z T)) (ax (vz 3) (aj (ce 0) bN)))) ?_;obtain⟨E,U,h⟩:=bW h;refine bw (ks':=eO 533936743 :: .b 5::eO 33371047::I2 M j r t B) 0 ⟨[(6,.ptr 6 0),(7,iI e),(11,.ptr 11 0),(12,iI d),(13,iI c),(15,.ptr 15 0),(18,.ptr 18 0),(56,.sl (lm aS f)),(57,iI (f.length:Int)),(58,iI g),(117,.sl (lm aN a.Box)),(118,iI (a.Box.length:Int)),(119,iI b)],[(6,List.set (aG bT) 66 (.nils)),(11,List.set (aG ({ bT with Kind:=2,W:=i,H:=(aa (e+k)),aA:=e,Style:=v2 }:ae)) 66 (.ref 114)),(15,aS a),(18,aG (⟨o,p,q,E,(gD a.Box b).W,(gD a.Box b).H,s,v,w,x,m,y,z⟩:ae))],[(114,(bx l))],[6,11,15,18,114]⟩ ?_ (by subst U;kernel_rfl)
  refine ai 3 (au (gq aN ([(⟨o,p,q,E,(gD a.Box b).W,(gD a.Box b).H,s,v,w,x,m,y,z⟩:ae)]:dn) (new:=[aG (⟨o,p,q,E,(gD a.Box b).W,(gD a.Box b).H,s,v,w,x,m,y,z⟩:ae)]) (by simp only[q6,yk,dM])) ?_);obtain⟨V,h⟩:=aF h;exact au (cG 144 114 44 67 aN (rfl) (jY) V) (ac (ag 2 (bn (Y h))))
 ·exact ah 120 A (ag 8 (bn (X h)))
theorem aar(p:ao K)(o:qN M j r f v2 i e k c t u)(m:Nat):QR M j r f v2 i e k c d g a t m (tq K n f v2 i e k c d g a u m):=by
 induction m with
 | zero=>intro b l h;cases h
 | succ m q=>intro b l h;have h:uI K n f v2 i e k c d g a u (tq K n f v2 i e k c d g a u m) b l=some r:=h;exact bh (ac4 p o q h)
theorem N7(l:ao K)(b:qN M j r f v2 i e k c t u)(h:wD K n f v2 i e k c d g a u z=some r):qf M j r (eO 260711 :: .b 3::eO 16295::ve M j r t) (WY f v2 i e k c d g a z):=by
 unfold wD at h;exact cc 4 5 3 2 (ai 2 (au (bA aN a.Box) (ac (ag 1 (cd (p:=pn 2085690) n (aar l b n h))))))
theorem MF(x:ao K)(w:qN M j r f v2 i e k c t u)(h:oc K n f v2 i e k c d g o u a=some r):qf M j r (eO 130355 :: .b 3::eO 16295::ve M j r t) (af3 f v2 i e k c d g o a):=by
 unfold oc at h;obtain⟨z,y,h⟩:=bW h;refine bw (ks':=eO 521421::eO 260711 :: .b 3::eO 16295::ve M j r t) 3 ⟨[(6,.ptr 6 0),(7,iI e),(11,.ptr 11 0),(12,iI d),(13,iI c),(15,.ptr 15 0),(56,.sl (lm aS f)),(57,iI (f.length:Int)),(58,iI g),(88,.bool z)],[(6,List.set (aG bT) 66 (.nils)),(11,List.set (aG ({ bT with Kind:=2,W:=i,H:=(aa (e+k)),aA:=e,Style:=v2 }:ae)) 66 (.ref 114)),(15,aS a)],[(114,(bx o))],[6,11,15,114]⟩ ?_ (by subst y;kernel_rfl);obtain⟨p,h⟩|⟨p,h⟩:=am h
 ·refine ah 88 p (bg 5 3 (bK [6,7,11,12,13,15,16,56,57,58] [6,11,15] [114] ?_));obtain⟨b,q,h⟩:=bind_some h;obtain⟨l,s,h⟩:=bind_some h;obtain⟨v,h⟩:=aF h;exact bQ 2 (nu 92 [.ptr 11 66,.ref 114,.ptr 15 0,iI a.Node,.ptr 15 2,.agg (aH a.Style),.ptr 15 1,.str a.Text,iI d,iI e,iI a.Style.FontSize,iI b,iI (aa (e-b)),.ptr 15 55,iI a.Width,.ptr 15 56,iI a.Space,iI (aa (a.Width+a.Space)),iI a.Style.FontSize,iI l,.agg (List.set (aG (⟨3,a.Node,d,(aa (e-b)),(aa (a.Width+a.Space)),l,0,a.Text,a.Style,dA,dA,false,[]⟩:ae)) 66 (.nils)),.sl (lm aN [(⟨3,a.Node,d,(aa (e-b)),(aa (a.Width+a.Space)),l,0,a.Text,a.Style,dA,dA,false,[]⟩:ae)])]++nu 115 [.ptr 11 66]) [] [] [gA 114 114 ⟨44,67,lm aN (o++[(⟨3,a.Node,d,(aa (e-b)),(aa (a.Width+a.Space)),l,0,a.Text,a.Style,dA,dA,false,[]⟩:ae)])⟩,cf bb 156 Tryz.f111 (pn 2085685) 24] (ax [.v 0 2,.v 0 1,.v 0 2,.v 0 2,.v 0 2,.v 0 2,.v 0 2,.v 0 2,.v 0 2,.v 0 2,.v 0 2] (aj (cq 0 2 103 (Mk x q)) (ax [.v 0 2,.v 0 2,.v 0 2,.v 0 2,.v 0 2,.v 0 2,.v 0 2] (aj (cq 0 1 111 (LB x s)) (ax [.v 0 2] (bi (gq aN ([(⟨3,a.Node,d,(aa (e-b)),(aa (a.Width+a.Space)),l,0,a.Text,a.Style,dA,dA,false,[]⟩:ae)]:dn) (new:=[aG (⟨3,a.Node,d,(aa (e-b)),(aa (a.Width+a.Space)),l,0,a.Text,a.Style,dA,dA,false,[]⟩:ae)]) (by simp only[q6,yk,dM])) (aj (dr (m:=0) (cG 114 114 44 67 aN (rfl) (jY) v)) (ax [.v 1 1] (aj (ce 1) bN))))))))) (ag 0 (N7 x w h))
 ·exact ah 88 p (ag 2 (N7 x w h))
theorem Ka(m:ao K)(b:qN M j r f v2 i e k c t u)(h:oT K n f v2 i e k c d g o u y=some r):qf M j r (eO 260709::eO 130355 :: .b 3::eO 16295::ve M j r t) (Z6 f v2 i e k c d g o y):=by
 unfold oT at h;obtain⟨a,h⟩|⟨a,h⟩:=am h
 ·refine ah 76 a (av 4 5 2 (ai 6 ?_));obtain⟨l,h⟩:=aF h;exact au (CA l) (ac (ag 1 (MF m b h)))
 ·exact ah 76 a (ag 2 (MF m b h))
theorem agf(p:ao K)(m:qN M j r f v2 i e k c t u)(h:tN K n f v2 i e k c u d g o=some r):qf M j r (eO 2036::ve M j r t) (Vx f v2 i e k c d g o):=by
 unfold tN at h;refine av 6 7 3 ?_;obtain⟨a,h⟩|⟨a,h⟩:=am h
 ·refine ah 59 a (cN 8 9 3 3 5 (ai 1 ?_));obtain⟨q,h⟩:=aF h;refine au (bE aS aS q (iW) aT) (ac (cc 4 5 3 2 (ai 4 ?_)));obtain⟨b,h⟩|⟨b,h⟩:=am h
  ·refine aD 66 b (aQ 6 2 ?_);obtain⟨v,s,h⟩:=bind_some h;refine aK (ag3 p s) (aQ 9 2 ?_);obtain⟨l,h⟩|⟨l,h⟩:=am h
   ·exact aD 71 l (ac (ag 0 (Ka p m h)))
   ·exact aD 71 l (ac (ag 0 (Ka p m h)))
  ·exact aD 66 b (ac (ag 0 (Ka p m h)))
 ·refine ah 59 a (aL 8 ?_);cases h;exact fC
theorem ae7(a:ao K)(m:Nat):qN M j r f v2 i e k c m (mr K n f v2 i e k c m):=by
 induction m with
 | zero=>intro d g o h;cases h
 | succ m b=>intro d g o h;have h:tN K n f v2 i e k c (mr K n f v2 i e k c m) d g o=some r:=h;exact bh (agf a b h)
theorem acb(a:ao K)(b:Gy M j r f v2 i A C)(h:vh K n f v2 i C e k q=some r):qf M j r (eO 116::Pi M j r A) (Vw f v2 i e k q):=by
 unfold vh at h;refine av 6 7 3 ?_;obtain⟨l,h⟩|⟨l,h⟩:=am h
 ·refine ah 27 l (cN 8 9 1 3 5 (ai 0 ?_));obtain⟨t,h⟩:=aF h;refine au (bE aS aS t (iW) aT) (ac (bg 3 2 ?_));obtain⟨m,h⟩|⟨m,h⟩:=am h
  ·exact ah 32 m (bg 2 1 (bK [0,2,4,6,7,8,10,24,25,26] [4,6,10] [] (bQ 2 (nu 33 [iI e,.ptr 10 57,iI ((gD f q).Above),iI (max e ((gD f q).Above)),iI k,.ptr 10 58,iI ((gD f q).Below),iI (max k ((gD f q).Below))]) [] [] [cf bb 156 Tryz.f111 (pn 14950) 8,cf bb 156 Tryz.f111 (pn 14950) 9] (ax [.v 0 1,.v 0 1,.v 0 1,.v 0 1,.v 0 2,.v 0 2,.v 0 2,.v 0 2] (aj (ce 0) (aj (ce 1) bN))) (ag 0 (R1 a b h)))))
  ·exact ah 32 m (ag 2 (R1 a b h))
 ·refine ah 27 l (gH 6 7 8 (bK [0,2,4,6,7,11] [4,6,11] [] ?_));obtain⟨o,u,h⟩:=bind_some h;obtain⟨s,d,h⟩:=bind_some h;refine bQ 1 (nu 49 [.agg (aH v2),iI i,.sl (lm aS f),iI o,iI s]) [] [] [cf bb 156 Tryz.f111 (pn 62) 5] (ax (vz 3) (aj (cq 0 1 52 (D6 a u)) (aj (cq 0 1 53 (afN a d)) (aj (ce 0) bN)))) (av 2 3 1 (ai 1 ?_));obtain⟨c,g,h⟩:=bind_some h;exact aK (SW a g) (ac (cc 4 5 3 2 (ai 1 (au (bA aS f) (ac (ib 2 2 1 (bK [6,7,11,12,13,56,57,58] [6,11] [] (Ed 114 11 66 44 67 (ag 0 (cd (p:=pn 1018) n (ae7 a n h)))))))))))
theorem Z8(a:ao K)(m:Nat):Gy M j r f v2 i m (sc K n f v2 i m):=by
 induction m with
 | zero=>intro e k q h;cases h
 | succ m b=>intro e k q h;have h:vh K n f v2 i (sc K n f v2 i m) e k q=some r:=h;exact bh (acb a b h)
theorem ahT(a:ao K)(h:Ca K n f v2 i=some r):aX bb 111 [.sl (lm aS f),.agg (aH v2),iI i] (fun v s=>v=.agg (List.set (aG ({ r with Kids:=[] }:ae)) 66 (.ref 114))∧look 114 s.r=some (bx r.Kids)):=by
 refine bF (cat Tryz.f111 (pn 1)) Tryz.func111 Tryz.ntmps111 fun M j=>(bd ⟨[(0,.sl (lm aS f)),(1,.agg (aH v2)),(2,iI i)],[],[],[]⟩ ?_);unfold Ca at h;refine av 6 7 3 (ai 1 ?_);obtain⟨v4,b,h⟩:=bind_some h;exact aK (KH a b) (ac (cc 4 5 3 2 (ai 1 (au (bA aS f) (ac (ag 1 (cd (p:=pn 58) n (Z8 a n h))))))))
end
noncomputable section
variable[GS](M:Nat→Prop)(g:aA)(r:dn×Int)(o:d4)(v2:aI)(f:Int)(v4:bu)(v5:d5)(v6:ck)(b c a:Int)(d:dn)(j:Nat)(l:Int→Int→Int→dn→Option (dn×Int))
abbrev Ko:Cx:=⟨bb,61,M,g⟩
abbrev IR:=bodyPost bb Tryz.f53 (bJ M g (fun v s=>v=.tup [.ref 57,iI r.2]∧look 57 s.r=some (bx r.1)))
abbrev Yh(a:dt)(s:AS):=VE (Ko M g) (IR M g r) a .normal s
abbrev M1(n:Nat):aq:=.c (cat Tryz.f53 (pn n))
abbrev KT:dt:=[.b 0,M1 63]
abbrev X6:dt:=kl (Ko M g) (IR M g r) KT (cat Tryz.f53 (pn 500)) j::KT
def UZ:AS:=⟨[(2,iI (min (max f 0) 1048576)),(5,.ptr 5 0),(8,.ref 57),(9,iI b),(10,.sl (lm aS v5)),(11,.ref 1023),(30,iI c),(31,iI a)],[(5,aH v2)],[(57,(bx d)),(1023,⟨3,1,lm (ak .i64) (v6++[(v5.length:Int)])⟩)],[5,57,1023]⟩
abbrev OA:Prop:=∀{b:Int} {c:Int} {a:Int} {d:dn},l b c a d=some r→LP (Ko M g) (IR M g r) KT (cat Tryz.f53 (pn 500)) j (UZ v2 f v5 v6 b c a d)
variable{M g r o v2 f v4 v5 v6 b c a d j l}{K:Kn}{n:Nat}
theorem aj4(w:ao K)(v:OA M g r v2 f v5 v6 j l)(h:vE K n v2 f v5 v6 l b c a d=some r):Yh M g r (M1 500::X6 M g r j) (UZ v2 f v5 v6 b c a d):=by
 unfold vE at h;refine av 6 7 3 ?_;obtain⟨o,h⟩|⟨o,h⟩:=am h
 ·refine ah 32 o (cN 18 19 1 3 7 (bK [2,5,8,9,10,11,12,30,31] [5] [57,1023] ?_));obtain⟨p,h⟩:=aF h;obtain⟨q,h⟩:=aF h;obtain⟨s,h⟩:=aF h;obtain⟨m,t,h⟩:=bind_some h;refine bQ 1 (nu 34 [.sl (lm aS v5),.ref 1023,iI a,.eptr 1023 1 (a.toNat) 0,iI (gD (v6++[(v5.length:Int)]) a),.ref 1023,iI a,iI (aa (a+1)),.eptr 1023 1 (((aa (a+1))).toNat) 0,iI (gD (v6++[(v5.length:Int)]) ((aa (a+1)))),.sl (lm aS (List.drop ((gD (v6++[(v5.length:Int)]) a)).toNat (List.take ((gD (v6++[(v5.length:Int)]) ((aa (a+1))))).toNat v5))),.agg (aH v2),iI (min (max f 0) 1048576),.agg (List.set (aG ({ m with Kids:=[] }:ae)) 66 (.ref 47))]++nu 13 [.ptr 13 0]) [(13,List.set (aG bT) 66 (.nils))] [(47,(bx m.Kids))] [cf bb 61 Tryz.f53 (pn 32050) 15] (ax (vz 3) (bi (cK 1023 1 (ak .i64) (L:=(v6++[(v5.length:Int)])) p) (bi (bO 3 0 (ak .i64) (ak .i64) (bH p).2 aT) (ax (vz 3) (bi (cK 1023 1 (ak .i64) (L:=(v6++[(v5.length:Int)])) q) (bi (bO 3 0 (ak .i64) (ak .i64) (bH q).2 aT) (bi (l6 aS v5 (gD (v6++[(v5.length:Int)]) a) (gD (v6++[(v5.length:Int)]) ((aa (a+1)))) 159 (.tmp 34) (some (.tmp 38)) (some (.tmp 43)) 44 (e:=165) (sz:=62) (by kernel_rfl) (by kernel_rfl) (by kernel_rfl) (by kernel_rfl) (by kernel_rfl) (by kernel_rfl) (iW) (fun k x=>by subst x;kernel_rfl) s) (ax (vz 2) (aj (Gf 0 1 47 (ahT w t) (Dw (i:=66) (by kernel_rfl))) (aj (nO 0 1 44 13 (List.set (aG bT) 66 (.nils))) (aj (ce 0) bN))))))))))) (bg 7 4 (ai 2 (mN 47 (au (gq aN ([({ m with Y:=b }:ae)]:dn) (new:=[aG ({ m with Y:=b }:ae)]) (by simp only[q6,yk,dM])) ?_))))
  obtain⟨u,h⟩:=aF h;exact au (cG 57 57 44 67 aN (rfl) (jY) u) (ac (ag 2 (bn (v h))))
 ·refine ah 32 o (aL 8 ?_);cases h;exact pq
theorem Xr(e:ao K)(m:Nat):OA M g r v2 f v5 v6 m (rU K n v2 f v5 v6 m):=by
 induction m with
 | zero=>intro b c a d h;cases h
 | succ m i=>intro b c a d h;have h:vE K n v2 f v5 v6 (rU K n v2 f v5 v6 m) b c a d=some r:=h;exact bh (aj4 e i h)
theorem ajm(a:ao K)(h:yr K n o v2 f v4=some r):aX bb 53 [.sl (lm aM o),.agg (aH v2),iI f,.agg (bI v4)] (fun v s=>v=.tup [.ref 57,iI r.2]∧look 57 s.r=some (bx r.1)):=by
 refine bF (cat Tryz.f53 (pn 1)) Tryz.func53 Tryz.ntmps53 fun M g=>(bd ⟨[(0,.sl (lm aM o)),(1,.agg (aH v2)),(2,iI f),(3,.agg (bI v4))],[],[],[]⟩ ?_);unfold yr at h;refine av 14 15 5 (ai 3 ?_);obtain⟨v5,b,h⟩:=bind_some h;refine eS 1020 (VQ a b) (eX 1009) (ac (av 2 3 1 (ai 2 (mN 1020 ?_))));obtain⟨v6,c,h⟩:=bind_some h;refine eS 1023 (afo a c) (eX 16) (aQ 4 1 (au (bA aS v5) (aQ 6 1 ?_)));obtain⟨d,h⟩:=aF h;exact au (cG 27 1023 3 1 (ak .i64) (rfl) aT d) (ac (cc 4 5 3 2 (ai 1 (au (bA (ak .i64) (v6++[(v5.length:Int)])) (ac (ib 2 0 1 (bK [2,5,8,9,10,11,30,31] [5] [1023] (eL 57 8 44 67 (ag 0 (cd (p:=pn 250) n (Xr a n h)))))))))))
end
noncomputable section
variable[GS](M:Nat→Prop)(c:aA)(r:dn×Int)(a:d4)(v2:aI)(b:Int)(v4:bu)  
variable{M c r a v2 b v4}{K:Kn}{n:Nat}
theorem ag4(e:ao K)(h:yt K n a v2 b v4=some r):aX bb 52 [.sl (lm aM a),.agg (aH v2),iI b,.cptr (bI v4)] (fun v s=>v=.tup [.ref 1013,iI r.2]∧look 1013 s.r=some (bx r.1)):=by
 refine bF (cat Tryz.f52 (pn 1)) Tryz.func52 Tryz.ntmps52 fun M c=>(bd ⟨[(0,.sl (lm aM a)),(1,.agg (aH v2)),(2,iI b),(3,.cptr (bI v4))],[],[],[]⟩ ?_);unfold yt at h;refine av 6 7 3 (ai 4 ?_);obtain⟨v5,d,h⟩:=bind_some h;refine eS 1013 (ajm e d) (Ct (i:=0) rfl) (ac (aL 1 ?_));cases h;exact pq
end
noncomputable section
variable[GS](M:Nat→Prop)(d:aA)(r:az×ck)(a:ab)(v2:bu)(b:ck)  
variable{M d r a v2 b}{K:Kn}{n:Nat}
theorem ajQ(g:ao K)(h:CK K n a v2 b=some r):jw bb 113 [.agg (aB a),.cptr (bI v2),.ptr 1 0] [(1,[.ref 9])] 9 (bk b) [9,1,1000001] (fun v s=>v=.agg (aS r.1)∧cy s.o [(1,[.ref 9])]∧look 9 s.r=some (bk r.2)):=by
 refine m9 (c:=cat Tryz.f113 (pn 1)) Tryz.func113 (by kernel_rfl) _ Tryz.ntmps113 (kc (by kernel_rfl)) fun M d=>(bd ⟨[(0,.agg (aB a)),(1,.cptr (bI v2)),(2,.ptr 1 0)],[(1,[.ref 9])],[(9,(bk b))],[9,1,1000001]⟩ ?_);unfold CK at h;refine av 6 7 3 (ai 3 ?_);obtain⟨v4,e,h⟩:=bind_some h;refine ld (g.gm e) (ac (av 2 3 1 (ai 3 ?_)));obtain⟨f,h⟩:=aF h;refine au (cG 17 9 3 1 (ak .i64) (rfl) aT f) (ac (aL 3 (nz 4 ?_)));cases h;exact fa
end
noncomputable section
variable[GS](M:Nat→Prop)(d:aA)(r:az×Int×ck)(a:ab)(v2:Int)(b:ck)  
variable{M d r a v2 b}{K:Kn}{n:Nat}
theorem aex(f:ao K)(h:DJ K n a v2 b=some r):jw bb 114 [.agg (aB a),.ptr 1 0,.ptr 2 0] [(1,[iI v2]),(2,[.ref 9])] 9 (bk b) [9,1,2,1000001,1000002] (fun v s=>v=.agg (aS r.1)∧cy s.o [(1,[iI r.2.1]),(2,[.ref 9])]∧look 9 s.r=some (bk r.2.2)):=by
 refine m9 (c:=cat Tryz.f114 (pn 1)) Tryz.func114 (by kernel_rfl) _ Tryz.ntmps114 (kc (by kernel_rfl)) fun M d=>(bd ⟨[(0,.agg (aB a)),(1,.ptr 1 0),(2,.ptr 2 0)],[(1,[iI v2]),(2,[.ref 9])],[(9,(bk b))],[9,1,2,1000001,1000002]⟩ ?_);unfold DJ at h;refine av 14 15 5 (ai 3 ?_);obtain⟨e,h⟩:=aF h;refine au (ct 9 1 (ak .i64) e) (au (bO 3 0 (ak .i64) (ak .i64) (bH e).2 aT) (ac (aL 1 (nz 4 ?_))));cases h;exact fa
end
end Go.Proofs.YtocgkfoifehcbaaGreat

/- The runs of the functions that RelayoutTwice reaches do what their plain forms say, part 2. Made by a program. -/
import Derived.Test.YtocgkfoifehcbaaGreatRtP1
namespace Go.Proofs.YtocgkfoifehcbaaGreat
open Go.RowKit
set_option maxRecDepth 20000
set_option linter.all false
noncomputable section
def al8:=@Tryz.ntmps112
def ama:=@Tryz.func112
variable[GS](M:Nat→Prop)(f:aC)(r:Int×eb)(d:d3)(v2:Int)(A:eb)(B:Nat)(a e:Int)(i:eb)(j o:Nat)(l:eb)(t:Int)(u:eb)(w:Int)(x:eb)(k y:Nat)(q:Int→Int→eb→Option (Int×eb))(z:Nat→eb→Option (Int×eb))
abbrev Ao:Cx:=⟨bb,69,M,f⟩
abbrev Ac:=bodyPost bb Tryz.f175 (bP M f (fun v s=>v=bf∧cB s.o [(1,[iI r.1]),(2,[.fno 175 [.ptr 1 0,.ptr 2 0,.ptr 3 0]]),(3,[.ref 9])]∧look 9 s.r=some (b7 r.2)))
abbrev BC(a:dt)(s:AS):=VE (Ao M f) (Ac M f r) a .normal s
abbrev jc(n:Nat):aq:=.c (cat Tryz.f175 (pn n))
abbrev Gi:dt:=[.b 0]
abbrev nQ:dt:=kl (Ao M f) (Ac M f r) Gi (cat Tryz.f175 (pn 12)) k::Gi
abbrev F4:dt:=.b 3 :: .b 2 :: .b 1::jc 103::nQ M f r k
abbrev Nk:dt:=kl (Ao M f) (Ac M f r) (F4 M f r k) (cat Tryz.f175 (pn 26867700)) y::(F4 M f r k)
def aik:AS:=⟨[(0,.sl (lm aK d)),(1,.ptr 1 0),(2,.ptr 2 0),(3,.ptr 3 0),(10,iI (d.length:Int)),(11,iI a)],[(1,[iI w]),(2,[.fno 175 [.ptr 1 0,.ptr 2 0,.ptr 3 0]]),(3,[.ref 9])],[(9,(b7 x))],[1,2,3,9,1000001,1,1000002,2,1000003,3]⟩
def aiY:AS:=⟨[(0,.sl (lm aK d)),(1,.ptr 1 0),(2,.ptr 2 0),(3,.ptr 3 0),(10,iI (d.length:Int)),(11,iI a)],[(1,[iI t]),(2,[.fno 175 [.ptr 1 0,.ptr 2 0,.ptr 3 0]]),(3,[.ref 9])],[(9,(b7 u))],[1,2,3,9,1000001,1,1000002,2,1000003,3]⟩
def Vf:AS:=⟨[(0,.sl (lm aK d)),(1,.ptr 1 0),(2,.ptr 2 0),(3,.ptr 3 0),(6,.cptr (aB (gD d a))),(10,iI (d.length:Int)),(11,iI a),(58,.sit 320058 j ((gD d a).Text) o)],[(1,[iI (aa (e+1))]),(2,[.fno 175 [.ptr 1 0,.ptr 2 0,.ptr 3 0]]),(3,[.ref 9])],[(9,(b7 l))],[1,2,3,9,320058,1000001,1,1000002,2,1000003,3]⟩
def Rg:AS:=⟨[(0,.sl (lm aK d)),(1,.ptr 1 0),(2,.ptr 2 0),(3,.ptr 3 0),(10,iI (d.length:Int)),(11,iI a)],[(1,[iI e]),(2,[.fno 175 [.ptr 1 0,.ptr 2 0,.ptr 3 0]]),(3,[.ref 9])],[(9,(b7 i))],[1,2,3,9,1000001,1,1000002,2,1000003,3]⟩
abbrev tU:Prop:=∀{a:Int} {e:Int} {i:eb},q a e i=some r→LP (Ao M f) (Ac M f r) Gi (cat Tryz.f175 (pn 12)) k (Rg d a e i)
abbrev Mv:Prop:=∀{o:Nat} {l:eb},z o l=some r→LP (Ao M f) (Ac M f r) (F4 M f r k) (cat Tryz.f175 (pn 26867700)) y (Vf d a e j o l)
variable{M f r d v2 A B a e i j o l t u w x k y q z}{K:Kn}{n:Nat}
theorem Mz(c:ao K)(b:tU M f r d k q)(h:mG K n d a q w x=some r):BC M f r (jc 103::nQ M f r k) (aik d a w x):=by
 unfold mG at h;exact ag 1 (bq (b h))
theorem yu(c:ao K)(b:tU M f r d k q)(h:kJ K n d a q t u=some r):BC M f r (.b 2 :: .b 1::jc 103::nQ M f r k) (aiY d a t u):=by
 unfold kJ at h;exact ag 2 (Mz c b h)
theorem ahM(w:ao K)(c:f.w.heap.size≤j)(s:tU M f r d k q)(t:Mv M f r d a e j k y z)(h:vL K n d a e q z o l=some r):BC M f r (jc 26867700::Nk M f r k y) (Vf d a e j o l):=by
 unfold vL at h;refine ax 2 3 1 (aj 0 ?_);obtain⟨b,h⟩|⟨b,h⟩:=am h
 ·refine KE 58 (id:=320058) (g:=j) b c (ac ?_);obtain⟨u,i,h⟩:=bV h;obtain⟨v,m,h⟩:=bV h;refine bz (ks':=jc 429883213 :: .b 4::Nk M f r k y) 6 ⟨[(0,.sl (lm aK d)),(1,.ptr 1 0),(2,.ptr 2 0),(3,.ptr 3 0),(6,.cptr (aB (gD d a))),(8,.int .i32 u),(10,iI (d.length:Int)),(11,iI a),(58,.sit 320058 j ((gD d a).Text) v)],[(1,[iI (aa (e+1))]),(2,[.fno 175 [.ptr 1 0,.ptr 2 0,.ptr 3 0]]),(3,[.ref 9])],[(9,(b7 l))],[1,2,3,9,320058,1000001,1,1000002,2,1000003,3]⟩ ?_ (by subst m;subst i;kernel_rfl);refine aj 5 ?_;obtain⟨x,p,h⟩:=bind_some h;exact kp 9 9 [] (aaW w p) (ac (ag 1 (bq (t h))))
 ·exact Gh 58 (id:=320058) (g:=j) b (ac (ag 6 (yu w s h)))
theorem aeo(g:ao K)(b:f.w.heap.size≤j)(c:tU M f r d k q)(m:Nat):Mv M f r d a e j k m (uv K n d a e q m):=by
 induction m with
 | zero=>intro o l h;cases h
 | succ m i=>intro o l h;have h:vL K n d a e q (uv K n d a e q m) o l=some r:=h;exact bn (ahM g b c i h)
theorem acw(g:ao K)(c:tU M f r d k q)(h:uz K n d q a e i=some r):BC M f r (jc 12::nQ M f r k) (Rg d a e i):=by
 unfold uz at h;refine ax 6 7 3 ?_;obtain⟨l,h⟩|⟨l,h⟩:=am h
 ·refine ah 12 l (cT 18 19 1 3 7 (aj 2 ?_));obtain⟨w,h⟩:=aD h;refine au (bB aK aB w (fu) (dR)) (ac (cf 4 5 3 2 (aj 3 ?_)));obtain⟨J,x,h⟩:=bind_some h;refine aU (IQ g x) (ac ?_);obtain⟨m,h⟩|⟨m,h⟩:=am h
  ·exact ah 21 m (ag 4 (Mz g c h))
  ·refine ah 21 m ?_;obtain⟨F,y,h⟩:=bV h;refine bz (ks':=jc 26237 :: .b 2 :: .b 1::jc 103::nQ M f r k) 9 ⟨[(0,.sl (lm aK d)),(1,.ptr 1 0),(2,.ptr 2 0),(3,.ptr 3 0),(6,.cptr (aB (gD d a))),(10,iI (d.length:Int)),(11,iI a),(27,iI ((gD d a).Kind)),(28,.bool F)],[(1,[iI (aa (e+1))]),(2,[.fno 175 [.ptr 1 0,.ptr 2 0,.ptr 3 0]]),(3,[.ref 9])],[(9,(b7 i))],[1,2,3,9,1000001,1,1000002,2,1000003,3]⟩ ?_ (by subst y;kernel_rfl);obtain⟨o,h⟩|⟨o,h⟩:=am h
   ·refine ah 28 o (bp 2 1 (bJ [0,1,2,3,6,10,11] [1,2,3] [9] (UY 5 0 [(30,.fno 175 [.ptr 1 0,.ptr 2 0,.ptr 3 0]),(31,.cptr (aB (gD d a))),(32,.cptr (aB (gD d a))),(33,.cptr (List.drop 58 (aB (gD d a)))),(34,.sl (lm aK ((gD d a).Kids)))] [] [] [] (av (vz 5) (AX)) ?_)));obtain⟨L,z,h⟩:=bind_some h;exact kp 9 9 [(1,1),(2,2),(3,3)] (g.D1 z) (ac (ag 0 (yu g c h)))
   ·refine ah 28 o ?_;obtain⟨G,A,h⟩:=bV h;refine bz (ks':=jc 104951 :: .b 2 :: .b 1::jc 103::nQ M f r k) 3 ⟨[(0,.sl (lm aK d)),(1,.ptr 1 0),(2,.ptr 2 0),(3,.ptr 3 0),(6,.cptr (aB (gD d a))),(10,iI (d.length:Int)),(11,iI a),(27,iI ((gD d a).Kind)),(36,.bool G)],[(1,[iI (aa (e+1))]),(2,[.fno 175 [.ptr 1 0,.ptr 2 0,.ptr 3 0]]),(3,[.ref 9])],[(9,(b7 i))],[1,2,3,9,1000001,1,1000002,2,1000003,3]⟩ ?_ (by subst A;kernel_rfl);obtain⟨s,h⟩|⟨s,h⟩:=am h
    ·refine ah 36 s (bp 2 1 (aj 5 ?_));obtain⟨B,h⟩:=aD h;exact au (cw 43 9 210 5 aw (rfl) (cU) B) (ac (ag 0 (yu g c h)))
    ·refine ah 36 s ?_;obtain⟨H,C,h⟩:=bV h;refine bz (ks':=jc 419807 :: .b 2 :: .b 1::jc 103::nQ M f r k) 3 ⟨[(0,.sl (lm aK d)),(1,.ptr 1 0),(2,.ptr 2 0),(3,.ptr 3 0),(6,.cptr (aB (gD d a))),(10,iI (d.length:Int)),(11,iI a),(27,iI ((gD d a).Kind)),(44,.bool H)],[(1,[iI (aa (e+1))]),(2,[.fno 175 [.ptr 1 0,.ptr 2 0,.ptr 3 0]]),(3,[.ref 9])],[(9,(b7 i))],[1,2,3,9,1000001,1,1000002,2,1000003,3]⟩ ?_ (by subst C;kernel_rfl);obtain⟨t,h⟩|⟨t,h⟩:=am h
     ·refine ah 44 t (bp 2 1 (aj 5 ?_));obtain⟨D,h⟩:=aD h;exact au (cw 51 9 210 5 aw (rfl) (cU) D) (ac (ag 0 (yu g c h)))
     ·refine ah 44 t ?_;obtain⟨I,E,h⟩:=bV h;refine bz (ks':=jc 1679231 :: .b 2 :: .b 1::jc 103::nQ M f r k) 3 ⟨[(0,.sl (lm aK d)),(1,.ptr 1 0),(2,.ptr 2 0),(3,.ptr 3 0),(6,.cptr (aB (gD d a))),(10,iI (d.length:Int)),(11,iI a),(52,.bool I)],[(1,[iI (aa (e+1))]),(2,[.fno 175 [.ptr 1 0,.ptr 2 0,.ptr 3 0]]),(3,[.ref 9])],[(9,(b7 i))],[1,2,3,9,1000001,1,1000002,2,1000003,3]⟩ ?_ (by subst E;kernel_rfl);obtain⟨u,h⟩|⟨u,h⟩:=am h
      ·exact ah 52 u (ax 4 5 2 (aj 4 (Hz 320058 (b:=((gD d a).Text)) fun j v=>(ac (ag 1 (ce (p:=pn 13433850) n (aeo g (j:=j) v c n h)))))))
      ·exact ah 52 u (ag 2 (yu g c h))
 ·refine ah 12 l (bX (ks':=[]) 5 (uo ?_));cases h;exact o8
theorem afB(b:ao K)(m:Nat):tU M f r d m (rj K n d m):=by
 induction m with
 | zero=>intro a e i h;cases h
 | succ m c=>intro a e i h;have h:uz K n d (rj K n d m) a e i=some r:=h;exact bn (acw b c h)
theorem Nf(a:ao K)(h:nh K n d v2 A=some r):jE bb 175 [.sl (lm aK d),.ptr 1 0,.ptr 2 0,.ptr 3 0] [(1,[iI v2]),(2,[.fno 175 [.ptr 1 0,.ptr 2 0,.ptr 3 0]]),(3,[.ref 9])] 9 (b7 A) [9,1,2,3,1000001,1000002,1000003] (fun v s=>v=bf∧cB s.o [(1,[iI r.1]),(2,[.fno 175 [.ptr 1 0,.ptr 2 0,.ptr 3 0]]),(3,[.ref 9])]∧look 9 s.r=some (b7 r.2)):=by
 refine mZ (c:=cat Tryz.f175 (pn 1)) Tryz.func175 (by kernel_rfl) _ Tryz.ntmps175 (lp (by kernel_rfl)) fun M f=>(bm ⟨[(0,.sl (lm aK d)),(1,.ptr 1 0),(2,.ptr 2 0),(3,.ptr 3 0)],[(1,[iI v2]),(2,[.fno 175 [.ptr 1 0,.ptr 2 0,.ptr 3 0]]),(3,[.ref 9])],[(9,(b7 A))],[9,1,2,3,1000001,1000002,1000003]⟩ ?_);unfold nh at h;exact ax 2 3 1 (aj 1 (au (bu aK d) (ac (ag 1 (ce (p:=pn 6) n (afB a n h))))))
end
noncomputable section
variable[GS](M:Nat→Prop)(b:aC)(r:eb)(a:d3)  
variable{M b r a}{K:Kn}{n:Nat}
theorem Hi(d:ao K)(h:pE K n a=some r):bc bb 154 [.sl (lm aK a)] (fun v s=>v=.ref 400003∧look 400003 s.r=some (b7 r)):=by
 refine bH (cat Tryz.f154 (pn 1)) Tryz.func154 Tryz.ntmps154 fun M b=>(bm ⟨[(0,.sl (lm aK a))],[],[],[]⟩ ?_);unfold pE at h;refine ax 62 63 9 (aj 0 (q8 175 #[(.tmp 4),(.tmp 5),(.tmp 3)] [.ptr 4 0,.ptr 5 0,.ptr 3 0] (ac (ax 2 3 1 (aj 2 (EC 400003 3 0 210 5 ?_))))));obtain⟨v2,c,h⟩:=bind_some h;refine kp 400003 9 [(4,1),(5,2),(3,3)] (Nf d c) (ac (aN 3 ?_));cases h;exact eB
end
noncomputable section
variable[GS](M:Nat→Prop)(a:aC)(r:Bool)(b:aJ)(v2:Bool)  
abbrev aa2(n:Nat):aq:=.c (cat Tryz.f177 (pn n))
abbrev age:Cx:=⟨bb,24,M,a⟩
abbrev WB:=bodyPost bb Tryz.f177 (bP M a (fun v _=>v=.bool r))
abbrev adR(b:dt)(s:AS):=VE (age M a) (WB M a r) b .normal s
def YD:AS:=⟨[(2,.bool v2)],[],[],[]⟩
variable{M a r b v2}{K:Kn}{n:Nat}
theorem FJ(b:ao K)(h:vw K n v2=some r):adR M a r [aa2 7] (YD v2):=by
 unfold vw at h;refine aN 1 ?_;cases h;exact bE
theorem zu(e:ao K)(h:m9 K n b=some r):bc bb 177 [.agg (aw b)] (fun v _=>v=.bool r):=by
 refine bH (cat Tryz.f177 (pn 1)) Tryz.func177 Tryz.ntmps177 fun M a=>(bm ⟨[(0,.agg (aw b))],[],[],[]⟩ ?_);unfold m9 at h;refine ax 6 7 3 (aj 4 ?_);obtain⟨c,h⟩|⟨c,h⟩:=am h
 ·refine aF 6 c (aQ 13 9 ?_);obtain⟨d,h⟩|⟨d,h⟩:=am h
  ·exact aF 15 d (ac (ag 0 (FJ e h)))
  ·exact aF 15 d (ac (ag 0 (FJ e h)))
 ·exact aF 6 c (ac (ag 0 (FJ e h)))
end
noncomputable section
variable[GS](M:Nat→Prop)(b:aC)(r a:Int)(v2 c v4 v5 v6:Bool)  
abbrev gM(n:Nat):aq:=.c (cat Tryz.f188 (pn n))
abbrev Yn:Cx:=⟨bb,73,M,b⟩
abbrev ac3:=bodyPost bb Tryz.f188 (bP M b (fun v _=>v=iI r))
abbrev zB(a:dt)(s:AS):=VE (Yn M b) (ac3 M b r) a .normal s
def ab0:AS:=⟨[(72,.bool v6)],[],[],[]⟩
def Zc:AS:=⟨[(0,.int .i32 a),(60,.bool v5)],[],[],[]⟩
def aaY:AS:=⟨[(0,.int .i32 a),(29,.int .i32 a),(44,.bool v4)],[],[],[]⟩
def Yc:AS:=⟨[(0,.int .i32 a),(29,.int .i32 a),(30,.bool c)],[],[],[]⟩
def Yi:AS:=⟨[(0,.int .i32 a),(3,.bool v2)],[],[],[]⟩
variable{M b r a v2 c v4 v5 v6}{K:Kn}{n:Nat}
theorem PU(c:ao K)(h:xa K n v6=some r):zB M b r [gM 61,gM 31] (ab0 v6):=by
 unfold xa at h;obtain⟨a,h⟩|⟨a,h⟩:=am h
 ·refine ah 72 a (aN 5 ?_);cases h;exact bE
 ·refine ah 72 a (aN 5 ?_);cases h;exact bE
theorem va(e:ao K)(h:mV K n a v5=some r):zB M b r [gM 1887,.b 1,gM 15] (Zc a v5):=by
 unfold mV at h;obtain⟨c,h⟩|⟨c,h⟩:=am h
 ·refine ah 60 c (aN 6 ?_);cases h;exact bE
 ·refine ah 60 c (bX (ks':=[gM 60,gM 61,gM 31]) 5 (aj 3 ?_));obtain⟨d,h⟩|⟨d,h⟩:=am h
  ·exact aF 69 d (ac (ag 0 (PU e h)))
  ·exact aF 69 d (ac (ag 0 (PU e h)))
theorem iG(j:ao K)(h:gn K n a v4=some r):zB M b r [gM 471,.b 1,gM 15] (aaY a v4):=by
 unfold gn at h;obtain⟨c,h⟩|⟨c,h⟩:=am h
 ·refine ah 44 c (aN 6 ?_);cases h;exact bE
 ·refine ah 44 c (ax 13 7 4 ?_);obtain⟨d,h⟩|⟨d,h⟩:=am h
  ·exact ah 60 d (ag 2 (va j h))
  ·refine ah 60 d (bp 7 3 ?_);obtain⟨e,h⟩|⟨e,h⟩:=am h
   ·exact ah 60 e (ag 2 (va j h))
   ·refine ah 60 e (bp 7 3 ?_);obtain⟨f,h⟩|⟨f,h⟩:=am h
    ·exact ah 60 f (ag 2 (va j h))
    ·refine ah 60 f (bp 7 3 ?_);obtain⟨g,h⟩|⟨g,h⟩:=am h
     ·exact ah 60 g (ag 2 (va j h))
     ·refine ah 60 g (bp 7 3 ?_);obtain⟨i,h⟩|⟨i,h⟩:=am h
      ·exact ah 60 i (ag 2 (va j h))
      ·exact ah 60 i (ag 2 (va j h))
theorem jH(d:ao K)(h:gQ K n a c=some r):zB M b r [gM 117,.b 1,gM 15] (Yc a c):=by
 unfold gQ at h;obtain⟨e,h⟩|⟨e,h⟩:=am h
 ·refine ah 30 e (aN 6 ?_);cases h;exact bE
 ·refine ah 30 e (ax 13 7 4 ?_);obtain⟨f,h⟩|⟨f,h⟩:=am h
  ·exact ah 44 f (ag 2 (iG d h))
  ·refine ah 44 f (bp 7 3 ?_);obtain⟨g,h⟩|⟨g,h⟩:=am h
   ·exact ah 44 g (ag 2 (iG d h))
   ·refine ah 44 g (bp 7 3 ?_);obtain⟨i,h⟩|⟨i,h⟩:=am h
    ·exact ah 44 i (ag 2 (iG d h))
    ·refine ah 44 i (bp 7 3 ?_);obtain⟨j,h⟩|⟨j,h⟩:=am h
     ·exact ah 44 j (ag 2 (iG d h))
     ·refine ah 44 j (bp 7 3 ?_);obtain⟨k,h⟩|⟨k,h⟩:=am h
      ·exact ah 44 k (ag 2 (iG d h))
      ·refine ah 44 k (bp 7 3 ?_);obtain⟨l,h⟩|⟨l,h⟩:=am h
       ·exact ah 44 l (ag 2 (iG d h))
       ·refine ah 44 l (bp 7 3 ?_);obtain⟨m,h⟩|⟨m,h⟩:=am h
        ·exact ah 44 m (ag 2 (iG d h))
        ·refine ah 44 m (bp 7 3 ?_);obtain⟨o,h⟩|⟨o,h⟩:=am h
         ·exact ah 44 o (ag 2 (iG d h))
         ·refine ah 44 o (bp 7 3 ?_);obtain⟨p,h⟩|⟨p,h⟩:=am h
          ·exact ah 44 p (ag 2 (iG d h))
          ·refine ah 44 p (bp 7 3 ?_);obtain⟨q,h⟩|⟨q,h⟩:=am h
           ·exact ah 44 q (ag 2 (iG d h))
           ·refine ah 44 q (bp 7 3 ?_);obtain⟨s,h⟩|⟨s,h⟩:=am h
            ·exact ah 44 s (ag 2 (iG d h))
            ·refine ah 44 s (bp 7 3 ?_);obtain⟨t,h⟩|⟨t,h⟩:=am h
             ·exact ah 44 t (ag 2 (iG d h))
             ·refine ah 44 t (bp 7 3 ?_);obtain⟨u,h⟩|⟨u,h⟩:=am h
              ·exact ah 44 u (ag 2 (iG d h))
              ·refine ah 44 u (bp 7 3 ?_);obtain⟨v,h⟩|⟨v,h⟩:=am h
               ·exact ah 44 v (ag 2 (iG d h))
               ·exact ah 44 v (ag 2 (iG d h))
theorem re(c:ao K)(h:lI K n a v2=some r):zB M b r [gM 25,.b 0,gM 7] (Yi a v2):=by
 unfold lI at h;obtain⟨q,h⟩|⟨q,h⟩:=am h
 ·refine ah 3 q (aN 6 ?_);cases h;exact bE
 ·refine ah 3 q (bp 7 3 ?_);obtain⟨s,h⟩|⟨s,h⟩:=am h
  ·refine ah 26 s (aN 6 ?_);cases h;exact bE
  ·refine ah 26 s (bX (ks':=[gM 233,gM 117,.b 1,gM 15]) 10 ?_);obtain⟨t,h⟩|⟨t,h⟩:=am h
   ·exact ah 30 t (ag 2 (jH c h))
   ·refine ah 30 t (bp 7 3 ?_);obtain⟨d,h⟩|⟨d,h⟩:=am h
    ·exact ah 30 d (ag 2 (jH c h))
    ·refine ah 30 d (bp 7 3 ?_);obtain⟨e,h⟩|⟨e,h⟩:=am h
     ·exact ah 30 e (ag 2 (jH c h))
     ·refine ah 30 e (bp 7 3 ?_);obtain⟨f,h⟩|⟨f,h⟩:=am h
      ·exact ah 30 f (ag 2 (jH c h))
      ·refine ah 30 f (bp 7 3 ?_);obtain⟨g,h⟩|⟨g,h⟩:=am h
       ·exact ah 30 g (ag 2 (jH c h))
       ·refine ah 30 g (bp 7 3 ?_);obtain⟨i,h⟩|⟨i,h⟩:=am h
        ·exact ah 30 i (ag 2 (jH c h))
        ·refine ah 30 i (bp 7 3 ?_);obtain⟨j,h⟩|⟨j,h⟩:=am h
         ·exact ah 30 j (ag 2 (jH c h))
         ·refine ah 30 j (bp 7 3 ?_);obtain⟨k,h⟩|⟨k,h⟩:=am h
          ·exact ah 30 k (ag 2 (jH c h))
          ·refine ah 30 k (bp 7 3 ?_);obtain⟨l,h⟩|⟨l,h⟩:=am h
           ·exact ah 30 l (ag 2 (jH c h))
           ·refine ah 30 l (bp 7 3 ?_);obtain⟨m,h⟩|⟨m,h⟩:=am h
            ·exact ah 30 m (ag 2 (jH c h))
            ·refine ah 30 m (bp 7 3 ?_);obtain⟨o,h⟩|⟨o,h⟩:=am h
             ·exact ah 30 o (ag 2 (jH c h))
             ·refine ah 30 o (bp 7 3 ?_);obtain⟨p,h⟩|⟨p,h⟩:=am h
              ·exact ah 30 p (ag 2 (jH c h))
              ·exact ah 30 p (ag 2 (jH c h))
theorem SB(c:ao K)(h:lj K n a=some r):bc bb 188 [.int .i32 a] (fun v _=>v=iI r):=by
 refine bH (cat Tryz.f188 (pn 1)) Tryz.func188 Tryz.ntmps188 fun M b=>(bm ⟨[(0,.int .i32 a)],[],[],[]⟩ ?_);unfold lj at h;refine dE 24 25 0 7 5 (aj 3 ?_);obtain⟨d,h⟩|⟨d,h⟩:=am h
 ·exact aF 6 d (ac (ag 0 (re c h)))
 ·refine aF 6 d (aQ 7 4 ?_);obtain⟨e,h⟩|⟨e,h⟩:=am h
  ·exact aF 10 e (ac (ag 0 (re c h)))
  ·refine aF 10 e (aQ 10 3 ?_);obtain⟨f,h⟩|⟨f,h⟩:=am h
   ·refine aF 13 f (aQ 15 5 ?_);obtain⟨g,h⟩|⟨g,h⟩:=am h
    ·exact aF 18 g (ac (ag 0 (re c h)))
    ·refine aF 18 g (aQ 18 3 ?_);obtain⟨i,h⟩|⟨i,h⟩:=am h
     ·exact aF 21 i (ac (ag 0 (re c h)))
     ·exact aF 21 i (ac (ag 0 (re c h)))
   ·refine aF 13 f (aQ 18 8 ?_);obtain⟨j,h⟩|⟨j,h⟩:=am h
    ·exact aF 21 j (ac (ag 0 (re c h)))
    ·exact aF 21 j (ac (ag 0 (re c h)))
end
noncomputable section
variable[GS](M:Nat→Prop)(a:aC)(r:Bool)(b:Int)(v2:Bool)  
abbrev Sk(n:Nat):aq:=.c (cat Tryz.f193 (pn n))
abbrev aha:Cx:=⟨bb,9,M,a⟩
abbrev ac1:=bodyPost bb Tryz.f193 (bP M a (fun v _=>v=.bool r))
abbrev ahR(b:dt)(s:AS):=VE (aha M a) (ac1 M a r) b .normal s
def afP:AS:=⟨[(4,.bool v2)],[],[],[]⟩
variable{M a r b v2}{K:Kn}{n:Nat}
theorem CW(c:ao K)(h:pO K n v2=some r):ahR M a r [Sk 53,.b 0,Sk 7] (afP v2):=by
 unfold pO at h;obtain⟨b,h⟩|⟨b,h⟩:=am h
 ·refine ah 4 b (aN 6 ?_);cases h;exact bE
 ·refine ah 4 b (aN 6 ?_);cases h;exact bE
theorem SW(c:ao K)(h:ss K n b=some r):bc bb 193 [.int .i32 b] (fun v _=>v=.bool r):=by
 refine bH (cat Tryz.f193 (pn 1)) Tryz.func193 Tryz.ntmps193 fun M a=>(bm ⟨[(0,.int .i32 b)],[],[],[]⟩ ?_);unfold ss at h;refine dE 105 53 0 7 9 ?_;obtain⟨d,h⟩|⟨d,h⟩:=am h
 ·exact ah 4 d (ag 2 (CW c h))
 ·refine ah 4 d (bp 7 3 ?_);obtain⟨e,h⟩|⟨e,h⟩:=am h
  ·exact ah 4 e (ag 2 (CW c h))
  ·refine ah 4 e (bp 7 3 ?_);obtain⟨f,h⟩|⟨f,h⟩:=am h
   ·exact ah 4 f (ag 2 (CW c h))
   ·exact ah 4 f (ag 2 (CW c h))
end
noncomputable section
variable[GS](M:Nat→Prop)(b:aC)(r:Bool)(a v2:Int)(v5 c d:Bool)  
abbrev pB(n:Nat):aq:=.c (cat Tryz.f186 (pn n))
abbrev W4:Cx:=⟨bb,29,M,b⟩
abbrev agn:=bodyPost bb Tryz.f186 (bP M b (fun v _=>v=.bool r))
abbrev EH(a:dt)(s:AS):=VE (W4 M b) (agn M b r) a .normal s
def ai7:AS:=⟨[(4,.bool d)],[],[],[]⟩
def VW:AS:=⟨[(0,.int .i32 a),(1,.int .i32 v2),(16,.bool c)],[],[],[]⟩
def afc:AS:=⟨[(0,.int .i32 a),(1,.int .i32 v2),(5,.bool v5)],[],[],[]⟩
variable{M b r a v2 v5 c d}{K:Kn}{n:Nat}
theorem On(a:ao K)(h:AG K n d=some r):EH M b r [pB 15] (ai7 d):=by
 unfold AG at h;refine aN 1 ?_;cases h;exact bE
theorem L6(f:ao K)(h:xd K n a v2 c=some r):EH M b r [pB 415,.b 0,pB 7] (VW a v2 c):=by
 unfold xd at h;obtain⟨d,h⟩|⟨d,h⟩:=am h
 ·refine ah 16 d (aN 6 ?_);cases h;exact bE
 ·refine ah 16 d (bX (ks':=[pB 14,pB 15]) 4 (aj 3 ?_));obtain⟨e,h⟩|⟨e,h⟩:=am h
  ·exact aF 25 e (ac (ag 0 (On f h)))
  ·exact aF 25 e (ac (ag 0 (On f h)))
theorem Pg(f:ao K)(h:pI K n a v2 v5=some r):EH M b r [pB 25,.b 0,pB 7] (afc a v2 v5):=by
 unfold pI at h;obtain⟨c,h⟩|⟨c,h⟩:=am h
 ·refine ah 5 c (aN 6 ?_);cases h;exact bE
 ·refine ah 5 c (ax 6 7 2 (aj 1 ?_));obtain⟨v6,g,h⟩:=bind_some h;refine aU (SW f g) (ac ?_);obtain⟨d,h⟩|⟨d,h⟩:=am h
  ·refine ah 13 d (aN 6 ?_);cases h;exact bE
  ·refine ah 13 d (ax 6 7 2 (aj 3 ?_));obtain⟨e,h⟩|⟨e,h⟩:=am h
   ·exact aF 19 e (ac (ag 0 (L6 f h)))
   ·exact aF 19 e (ac (ag 0 (L6 f h)))
theorem aga(c:ao K)(h:Ap K n a v2=some r):bc bb 186 [.int .i32 a,.int .i32 v2] (fun v _=>v=.bool r):=by
 refine bH (cat Tryz.f186 (pn 1)) Tryz.func186 Tryz.ntmps186 fun M b=>(bm ⟨[(0,.int .i32 a),(1,.int .i32 v2)],[],[],[]⟩ ?_);unfold Ap at h;refine dE 24 25 0 7 5 (aj 1 ?_);obtain⟨g,e,h⟩:=bind_some h;refine aU (SW c e) (aQ 3 1 ?_);obtain⟨d,h⟩|⟨d,h⟩:=am h
 ·exact aF 8 d (ac (ag 0 (Pg c h)))
 ·refine aF 8 d (aQ 4 1 ?_);obtain⟨v4,f,h⟩:=bind_some h;exact aU (SB c f) (ac (ag 0 (Pg c h)))
end
noncomputable section
variable[GS](M:Nat→Prop)(e:aC)(r:ck)(d:ByteArray)(v2:Nat)(i:Int)(a:Nat)(c:ck)(j:Bool)(k:ck)(f:Nat)(l:Int→Nat→ck→Option ck)
abbrev ER:Cx:=⟨bb,26,M,e⟩
abbrev EY:=bodyPost bb Tryz.f178 (bP M e (fun v s=>v=.ref 23∧look 23 s.r=some (bk r)))
abbrev JY(a:dt)(s:AS):=VE (ER M e) (EY M e r) a .normal s
abbrev nW(n:Nat):aq:=.c (cat Tryz.f178 (pn n))
abbrev IH:dt:=[.b 0,nW 31]
abbrev B8:dt:=kl (ER M e) (EY M e r) IH (cat Tryz.f178 (pn 244)) f::IH
def YU:AS:=⟨[(3,.ref 23),(6,.int .i32 ((Utf8.decode d a).1:Int)),(8,.sit 320008 v2 d (a+(Utf8.decode d a).2))],[],[(23,(bk k))],[23,320008]⟩
def X7:AS:=⟨[(3,.ref 23),(5,iI ((a:Nat):Int)),(6,.int .i32 ((Utf8.decode d a).1:Int)),(8,.sit 320008 v2 d (a+(Utf8.decode d a).2)),(19,.bool j)],[],[(23,(bk c))],[23,320008]⟩
def LI:AS:=⟨[(3,.ref 23),(4,.int .i32 i),(8,.sit 320008 v2 d a)],[],[(23,(bk c))],[23,320008]⟩
abbrev DX:Prop:=∀{i:Int} {a:Nat} {c:ck},l i a c=some r→LP (ER M e) (EY M e r) IH (cat Tryz.f178 (pn 244)) f (LI d v2 i a c)
variable{M e r d v2 i a c j k f l}{K:Kn}{n:Nat}
theorem MZ(g:ao K)(c:e.w.heap.size≤v2)(b:DX M e r d v2 f l)(h:qY K n d a l k=some r):JY M e r (nW 7835 :: .b 1::B8 M e r f) (YU d v2 a k):=by
 unfold qY at h;exact ag 2 (bq (b h))
theorem R6(m:ao K)(i:e.w.heap.size≤v2)(g:DX M e r d v2 f l)(h:qI K n d a c l j=some r):JY M e r (nW 15669::nW 7835 :: .b 1::B8 M e r f) (X7 d v2 a c j):=by
 unfold qI at h;obtain⟨b,h⟩|⟨b,h⟩:=am h
 ·refine ah 19 b (bp 2 1 (aj 3 ?_));obtain⟨k,h⟩:=aD h;exact au (cw 23 23 3 1 (ak .i64) (rfl) aT k) (ac (ag 0 (MZ m (v2:=v2) i g h)))
 ·exact ah 19 b (ag 2 (MZ m (v2:=v2) i g h))
theorem Z5(p:ao K)(k:e.w.heap.size≤v2)(m:DX M e r d v2 f l)(h:lQ K n d l i a c=some r):JY M e r (nW 244::B8 M e r f) (LI d v2 i a c):=by
 unfold lQ at h;refine ax 2 3 1 (aj 0 ?_);obtain⟨b,h⟩|⟨b,h⟩:=am h
 ·refine KE 8 (id:=320008) (g:=v2) b k (ac (bX (ks':=nW 15668::nW 15669::nW 7835 :: .b 1::B8 M e r f) 8 (aj 3 ?_)));obtain⟨j,h⟩|⟨j,h⟩:=am h
  ·refine aF 15 j (aQ 5 2 ?_);obtain⟨q,o,h⟩:=bind_some h;exact aU (aga p o) (ac (ag 0 (R6 p (v2:=v2) k m h)))
  ·exact aF 15 j (ac (ag 0 (R6 p (v2:=v2) k m h)))
 ·refine Gh 8 (id:=320008) (g:=v2) b (ac (aN 9 ?_));cases h;exact eB
theorem aeD(f:ao K)(b:e.w.heap.size≤v2)(m:Nat):DX M e r d v2 m (oS K n d m):=by
 induction m with
 | zero=>intro i a c h;cases h
 | succ m g=>intro i a c h;have h:lQ K n d (oS K n d m) i a c=some r:=h;exact bn (Z5 f b g h)
theorem ahW(c:ao K)(h:xv K n d=some r):bc bb 178 [.str d] (fun v s=>v=.ref 23∧look 23 s.r=some (bk r)):=by
 refine bH (cat Tryz.f178 (pn 1)) Tryz.func178 Tryz.ntmps178 fun M e=>(bm ⟨[(0,.str d)],[],[],[]⟩ ?_);unfold xv at h;exact cf 60 61 31 8 (aj 1 (Hz 320008 (b:=d) fun v2 a=>(ac (gC 2 0 1 (bJ [3,4,8] [] [] (eQ 23 3 3 1 (ag 0 (ce (p:=pn 122) n (aeD c (v2:=v2) a n h)))))))))
end
noncomputable section
variable[GS](M:Nat→Prop)(c:aC)(r:Bool)(a v2:aJ)(d e b:Bool)  
abbrev vR(n:Nat):aq:=.c (cat Tryz.f155 (pn n))
abbrev abc:Cx:=⟨bb,61,M,c⟩
abbrev aiF:=bodyPost bb Tryz.f155 (bP M c (fun v _=>v=.bool r))
abbrev ES(a:dt)(s:AS):=VE (abc M c) (aiF M c r) a .normal s
def VT:AS:=⟨[(4,.bool e)],[],[],[]⟩
def ahz:AS:=⟨[(2,.ptr 2 0),(3,.ptr 3 0),(51,.bool b)],[(2,aw a),(3,aw v2)],[],[2,3]⟩
def ade:AS:=⟨[(2,.ptr 2 0),(3,.ptr 3 0),(12,.bool d)],[(2,aw a),(3,aw v2)],[],[2,3]⟩
variable{M c r a v2 d e b}{K:Kn}{n:Nat}
theorem zM(a:ao K)(h:nK K n e=some r):ES M c r [vR 53,vR 7] (VT e):=by
 unfold nK at h;refine aN 2 ?_;cases h;exact bE
theorem yz(g:ao K)(h:lP K n a v2 b=some r):ES M c r [vR 29,vR 15] (ahz a v2 b):=by
 unfold lP at h;obtain⟨d,h⟩|⟨d,h⟩:=am h
 ·refine ah 51 d (aN 5 ?_);cases h;exact bE
 ·refine ah 51 d (fV 2 3 3 (aj 6 ?_));obtain⟨f,e,h⟩:=bind_some h;refine eT 1058 (ahW g e) (eO 23) (au (bu (ak .i64) f) (ac (aN 1 ?_)));cases h;exact bE
theorem Pl(b:ao K)(h:oF K n a v2 d=some r):ES M c r [vR 13,vR 7] (ade a v2 d):=by
 unfold oF at h;obtain⟨l,h⟩|⟨l,h⟩:=am h
 ·refine ah 12 l (ax 4 5 2 (aj 4 ?_));obtain⟨m,h⟩|⟨m,h⟩:=am h
  ·refine aF 16 m (aQ 12 8 ?_);obtain⟨o,h⟩|⟨o,h⟩:=am h
   ·exact aF 24 o (ac (ag 0 (zM b h)))
   ·refine aF 24 o (aQ 13 1 ?_);obtain⟨v4,s,h⟩:=bind_some h;exact aU (zu b s) (ac (ag 0 (zM b h)))
  ·refine aF 16 m (aQ 5 1 ?_);obtain⟨v5,t,h⟩:=bind_some h;refine aU (zu b t) (aQ 8 2 ?_);obtain⟨p,h⟩|⟨p,h⟩:=am h
   ·refine aF 20 p (aQ 12 4 ?_);obtain⟨q,h⟩|⟨q,h⟩:=am h
    ·exact aF 24 q (ac (ag 0 (zM b h)))
    ·refine aF 24 q (aQ 13 1 ?_);obtain⟨v6,u,h⟩:=bind_some h;exact aU (zu b u) (ac (ag 0 (zM b h)))
   ·exact aF 20 p (ac (ag 0 (zM b h)))
 ·refine ah 12 l (oI 4 5 3 4 (aj 4 ?_));obtain⟨e,h⟩|⟨e,h⟩:=am h
  ·exact aF 32 e (ac (ag 0 (yz b h)))
  ·refine aF 32 e (aQ 9 5 ?_);obtain⟨f,h⟩|⟨f,h⟩:=am h
   ·exact aF 37 f (ac (ag 0 (yz b h)))
   ·refine aF 37 f (aQ 10 1 ?_);obtain⟨v,j,h⟩:=bind_some h;refine aU (zu b j) (aQ 14 3 ?_);obtain⟨g,h⟩|⟨g,h⟩:=am h
    ·exact aF 42 g (ac (ag 0 (yz b h)))
    ·refine aF 42 g (aQ 18 4 ?_);obtain⟨i,h⟩|⟨i,h⟩:=am h
     ·refine aF 46 i (aQ 19 1 ?_);obtain⟨w,k,h⟩:=bind_some h;exact aU (zu b k) (ac (ag 0 (yz b h)))
     ·exact aF 46 i (ac (ag 0 (yz b h)))
theorem tV(d:ao K)(h:kX K n a v2=some r):bc bb 155 [.agg (aw a),.agg (aw v2)] (fun v _=>v=.bool r):=by
 refine bH (cat Tryz.f155 (pn 1)) Tryz.func155 Tryz.ntmps155 fun M c=>(bm ⟨[(0,.agg (aw a)),(1,.agg (aw v2))],[],[],[]⟩ ?_);unfold kX at h;refine cf 12 13 7 4 (aj 4 ?_);obtain⟨b,h⟩|⟨b,h⟩:=am h
 ·exact aF 8 b (ac (ag 0 (Pl d h)))
 ·exact aF 8 b (ac (ag 0 (Pl d h)))
end
noncomputable section
variable[GS](M:Nat→Prop)(b:aC)(r a:Int)  
variable{M b r a}{K:Kn}{n:Nat}
theorem C0(c:ao K)(h:qd K n a=some r):bc bb 174 [iI a] (fun v _=>v=iI r):=by
 refine bH (cat Tryz.f174 (pn 1)) Tryz.func174 Tryz.ntmps174 fun M b=>(bm ⟨[(0,iI a)],[],[],[]⟩ ?_);unfold qd at h;refine aN 5 ?_;cases h;exact bE
end
noncomputable section
variable[GS](M:Nat→Prop)(b:aC)(r a:Int)  
variable{M b r a}{K:Kn}{n:Nat}
theorem Tl(d:ao K)(h:yW K n a=some r):bc bb 152 [iI a] (fun v _=>v=iI r):=by
 refine bH (cat Tryz.f152 (pn 1)) Tryz.func152 Tryz.ntmps152 fun M b=>(bm ⟨[(0,iI a)],[],[],[]⟩ ?_);unfold yW at h;refine ax 6 7 3 (aj 1 ?_);obtain⟨v2,c,h⟩:=bind_some h;refine aU (C0 d c) (ac (aN 1 ?_));cases h;exact bE
end
noncomputable section
variable[GS](M:Nat→Prop)(b:aC)(r a:Int)  
variable{M b r a}{K:Kn}{n:Nat}
theorem Ul(c:ao K)(h:zx K n a=some r):bc bb 153 [iI a] (fun v _=>v=iI r):=by
 refine bH (cat Tryz.f153 (pn 1)) Tryz.func153 Tryz.ntmps153 fun M b=>(bm ⟨[(0,iI a)],[],[],[]⟩ ?_);unfold zx at h;refine ax 6 7 3 (aj 1 ?_);obtain⟨v2,d,h⟩:=bind_some h;refine aU (C0 c d) (aQ 3 1 ?_);obtain⟨f,e,h⟩:=bind_some h;refine aU (C0 c e) (ac (aN 1 ?_));cases h;exact bE
end
noncomputable section
variable[GS](M:Nat→Prop)(b:aC)(r:Int×Int)(a:aP)  
variable{M b r a}{K:Kn}{n:Nat}
theorem Hg(d:ao K)(h:ou K n a=some r):bc bb 148 [.agg (aH a)] (fun v _=>v=.tup [iI r.1,iI r.2]):=by
 refine bH (cat Tryz.f148 (pn 1)) Tryz.func148 Tryz.ntmps148 fun M b=>(bm ⟨[(0,.agg (aH a))],[],[],[]⟩ ?_);unfold ou at h;refine ax 14 15 5 (bJ [1,4] [1] [] ?_);obtain⟨v2,e,h⟩:=bind_some h;obtain⟨c,f,h⟩:=bind_some h;refine bN 1 (nu 8 [.ptr 1 37,iI a.FontSize,iI v2,iI (max a.LineHeight 0),.ptr 1 37,iI a.FontSize,iI c,iI (aa ((max a.LineHeight 0)-c)),iI ((aa ((max a.LineHeight 0)-c)) / 2),iI (aa (v2+((aa ((max a.LineHeight 0)-c)) / 2)))]) [] [] [cd bb 22 Tryz.f148 (pn 14) 10] (av (vz 2) (ai (co 0 1 10 (Tl d e)) (av (vz 3) (ai (co 0 1 14 (Ul d f)) (av (vz 3) (ai (cb 0) bL)))))) (aN 3 ?_);cases h;exact jk
end
noncomputable section
variable[GS](M:Nat→Prop)(b:aC)(r:ck)(a:Int)(v2:ck)(d v4:Bool)  
abbrev QC(n:Nat):aq:=.c (cat Tryz.f194 (pn n))
abbrev afn:Cx:=⟨bb,78,M,b⟩
abbrev aie:=bodyPost bb Tryz.f194 (bP M b (fun v s=>v=.ref 9∧cB s.o []∧look 9 s.r=some ⟨5,1,lm (ak .u8) r⟩))
abbrev RU(a:dt)(s:AS):=VE (afn M b) (aie M b r) a .normal s
def agH:AS:=⟨[(0,.ref 9),(1,.int .i32 a),(50,.bool v4)],[],[(9,⟨5,1,lm (ak .u8) v2⟩)],[9]⟩
def ae6:AS:=⟨[(0,.ref 9),(1,.int .i32 a),(5,.int .u32 (IntKind.wrap .u32 a)),(25,.bool d)],[],[(9,⟨5,1,lm (ak .u8) v2⟩)],[9]⟩
variable{M b r a v2 d v4}{K:Kn}{n:Nat}
theorem Ua(f:ao K)(h:xT K n a v2 v4=some r):RU M b r [QC 479,.b 0] (agH a v2 v4):=by
 unfold xT at h;obtain⟨d,h⟩|⟨d,h⟩:=am h
 ·refine ah 50 d (ax 4 5 2 (aj 20 ?_));obtain⟨e,h⟩:=aD h;refine au (cw 77 9 5 1 (ak .u8) (rfl) aT e) (ac (aN 2 ?_));cases h;exact fm
 ·refine ah 50 d (ax 6 7 2 (aj 2 ?_));obtain⟨c,h⟩:=aD h;refine au (cw 10 9 5 1 (ak .u8) (rfl) aT c) (ac (aN 2 ?_));cases h;exact fm
theorem Kq(f:ao K)(h:o4 K n a v2 d=some r):RU M b r [QC 119,.b 0] (ae6 a v2 d):=by
 unfold o4 at h;obtain⟨c,h⟩|⟨c,h⟩:=am h
 ·refine ah 25 c (ax 4 5 2 (aj 15 ?_));obtain⟨g,h⟩:=aD h;refine au (cw 49 9 5 1 (ak .u8) (rfl) aT g) (ac (aN 2 ?_));cases h;exact fm
 ·refine ah 25 c (ax 6 7 2 (aj 3 ?_));obtain⟨e,h⟩|⟨e,h⟩:=am h
  ·exact aF 53 e (ac (ag 0 (Ua f h)))
  ·exact aF 53 e (ac (ag 0 (Ua f h)))
theorem acs(g:ao K)(h:tR K n a v2=some r):jE bb 194 [.ref 9,.int .i32 a] [] 9 ⟨5,1,lm (ak .u8) v2⟩ [9] (fun v s=>v=.ref 9∧cB s.o []∧look 9 s.r=some ⟨5,1,lm (ak .u8) r⟩):=by
 refine mZ (c:=cat Tryz.f194 (pn 1)) Tryz.func194 (by kernel_rfl) _ Tryz.ntmps194 (lp (by kernel_rfl)) fun M b=>(bm ⟨[(0,.ref 9),(1,.int .i32 a)],[],[(9,⟨5,1,lm (ak .u8) v2⟩)],[9]⟩ ?_);unfold tR at h;refine gC 29 0 7 ?_;obtain⟨d,h⟩|⟨d,h⟩:=am h
 ·refine ah 11 d (ax 4 5 2 (aj 10 ?_));obtain⟨i,h⟩:=aD h;refine au (cw 24 9 5 1 (ak .u8) (rfl) aT i) (ac (aN 2 ?_));cases h;exact fm
 ·refine ah 11 d (ax 13 7 4 ?_);obtain⟨e,h⟩|⟨e,h⟩:=am h
  ·exact ah 25 e (ag 2 (Kq g h))
  ·refine ah 25 e (bp 3 1 (aj 3 ?_));obtain⟨f,h⟩|⟨f,h⟩:=am h
   ·exact aF 30 f (ac (ag 0 (Kq g h)))
   ·exact aF 30 f (ac (ag 0 (Kq g h)))
end
noncomputable section
variable[GS](M:Nat→Prop)(b:aC)(r:ck)(a:Int)(v2:ck)  
variable{M b r a v2}{K:Kn}{n:Nat}
theorem U2(g:ao K)(h:wm K n a v2=some r):jE bb 187 [.ref 9,.int .i32 a] [] 9 ⟨5,1,lm (ak .u8) v2⟩ [9] (fun v s=>v=.ref 9∧cB s.o []∧look 9 s.r=some ⟨5,1,lm (ak .u8) r⟩):=by
 refine mZ (c:=cat Tryz.f187 (pn 1)) Tryz.func187 (by kernel_rfl) _ Tryz.ntmps187 (lp (by kernel_rfl)) fun M b=>(bm ⟨[(0,.ref 9),(1,.int .i32 a)],[],[(9,⟨5,1,lm (ak .u8) v2⟩)],[9]⟩ ?_);unfold wm at h;refine ax 13 7 5 ?_;obtain⟨d,h⟩|⟨d,h⟩:=am h
 ·refine ah 7 d (ax 4 5 2 (aj 4 ?_));obtain⟨e,h⟩:=aD h;refine au (cw 12 9 5 1 (ak .u8) (rfl) aT e) (ac (aN 2 ?_));cases h;exact fm
 ·refine ah 7 d (fV 2 3 3 (aj 2 ?_));obtain⟨i,f,h⟩:=bind_some h;refine kp 9 9 [] (acs g f) (ac (aN 1 ?_));cases h;exact fm
end
noncomputable section
variable[GS](M:Nat→Prop)(e:aC)(r:Int×Unit×ck)(d:Int)(v2:Bool)(a:ck)  
variable{M e r d v2 a}{K:Kn}{n:Nat}
theorem TU(i:ao K)(h:ru K n d v2 a=some r):jE bb 179 [.ptr 450119 0,.int .i32 d] [(450119,[(wQ v2 450119),.ref 9])] 9 ⟨5,1,lm (ak .u8) a⟩ [9,450119,1450119] (fun v s=>v=.tup [iI r.1,.vv .nilIface]∧cB s.o [(450119,[.ptr 450119 0,.ref 9])]∧look 9 s.r=some ⟨5,1,lm (ak .u8) r.2.2⟩):=by
 refine mZ (c:=cat Tryz.f179 (pn 1)) Tryz.func179 (by kernel_rfl) _ Tryz.ntmps179 (lp (by kernel_rfl)) fun M e=>(bm ⟨[(0,.ptr 450119 0),(1,.int .i32 d)],[(450119,[(wQ v2 450119),.ref 9])],[(9,⟨5,1,lm (ak .u8) a⟩)],[9,450119,1450119]⟩ ?_);unfold ru at h;refine ax 6 7 3 (aj 1 ?_);rcases am h with⟨g,f⟩|⟨g,f⟩
 ·subst g;have h:=f;refine Sy 450119 (b:=true) (c1:=.ref 9) (ac (ax 2 3 1 (aj 4 (au (bu (ak .u8) a) (ac (ax 2 3 1 (aj 6 ?_)))))));obtain⟨v4,j,h⟩:=bind_some h;refine kp 9 9 [] (U2 i j) (ac (ax 2 3 1 (aj 4 (au (bu (ak .u8) v4) (ac (aN 1 ?_))))));cases h;exact o8
 ·subst g;have h:=f;refine Sy 450119 (b:=false) (c1:=.ref 9) (ac (ax 2 3 1 (aj 4 (au (bu (ak .u8) a) (ac (ax 2 3 1 (aj 6 ?_)))))));obtain⟨v5,k,h⟩:=bind_some h;refine kp 9 9 [] (U2 i k) (ac (ax 2 3 1 (aj 4 (au (bu (ak .u8) v5) (ac (aN 1 ?_))))));cases h;exact o8
end
noncomputable section
variable[GS](M:Nat→Prop)(b:aC)(r:Int)(a v2:Int)  
variable{M b r a v2}{K:Kn}{n:Nat}
theorem Iy(c:ao K)(h:n7 K n a v2=some r):bc bb 180 [.int .i32 a,iI v2] (fun v _=>v=iI r):=by
 refine bH (cat Tryz.f180 (pn 1)) Tryz.func180 Tryz.ntmps180 fun M b=>(bm ⟨[(0,.int .i32 a),(1,iI v2)],[],[],[]⟩ ?_);unfold n7 at h;refine ax 6 7 3 (aj 1 ?_);obtain⟨f,d,h⟩:=bind_some h;refine aU (SB c d) (aQ 3 1 ?_);obtain⟨v4,e,h⟩:=bind_some h;refine aU (C0 c e) (ac (aN 1 ?_));cases h;exact bE
end
noncomputable section
variable[GS](M:Nat→Prop)(a:aC)(r:Int)(c:ByteArray)(v2:Int)(d:Nat)(v5:Int)(v6 e:Nat)(f:Int→Nat→Option Int)
abbrev GF:Cx:=⟨bb,19,M,a⟩
abbrev JN:=bodyPost bb Tryz.f181 (bP M a (fun v _=>v=iI r))
abbrev aey(b:dt)(s:AS):=VE (GF M a) (JN M a r) b .normal s
abbrev Vn(n:Nat):aq:=.c (cat Tryz.f181 (pn n))
abbrev Gl:dt:=[.b 0,Vn 15]
abbrev Yr:dt:=kl (GF M a) (JN M a r) Gl (cat Tryz.f181 (pn 116)) e::Gl
def OH:AS:=⟨[(1,iI v2),(5,iI v5),(9,.sit 320009 d c v6)],[],[],[320009]⟩
abbrev PR:Prop:=∀{v5:Int} {v6:Nat},f v5 v6=some r→LP (GF M a) (JN M a r) Gl (cat Tryz.f181 (pn 116)) e (OH c v2 d v5 v6)
variable{M a r c v2 d v5 v6 e f}{K:Kn}{n:Nat}
theorem afI(l:ao K)(j:a.w.heap.size≤d)(i:PR M a r c v2 d e f)(h:wv K n c v2 f v5 v6=some r):aey M a r (Vn 116::Yr M a r e) (OH c v2 d v5 v6):=by
 unfold wv at h;refine ax 2 3 1 (aj 0 ?_);obtain⟨b,h⟩|⟨b,h⟩:=am h
 ·refine KE 9 (id:=320009) (g:=d) b j (ac (gC 13 1 6 (aj 3 ?_)));obtain⟨m,k,h⟩:=bind_some h;exact aU (Iy l k) (ac (ag 1 (bq (i h))))
 ·refine Gh 9 (id:=320009) (g:=d) b (ac (aN 9 ?_));cases h;exact bE
theorem ad3(e:ao K)(b:a.w.heap.size≤d)(m:Nat):PR M a r c v2 d m (sL K n c v2 m):=by
 induction m with
 | zero=>intro v5 v6 h;cases h
 | succ m f=>intro v5 v6 h;have h:wv K n c v2 (sL K n c v2 m) v5 v6=some r:=h;exact bn (afI e b f h)
theorem QB(f:ao K)(h:ql K n c v2=some r):bc bb 181 [.str c,iI v2] (fun v _=>v=iI r):=by
 refine bH (cat Tryz.f181 (pn 1)) Tryz.func181 Tryz.ntmps181 fun M a=>(bm ⟨[(0,.str c),(1,iI v2)],[],[],[]⟩ ?_);unfold ql at h;exact cf 28 29 15 6 (aj 1 (Hz 320009 (b:=c) fun d e=>(ac (ag 1 (ce (p:=pn 58) n (ad3 f (d:=d) e n h))))))
end
noncomputable section
variable[GS](M:Nat→Prop)(e:aC)(r:ay)(a:eb)(v4:Int)(v5:Bool)(v6:ck)(o:Bool)(b:aP)(f:ByteArray)(g:Int)(c:aP)(i:ByteArray)(j:Int)(k:Nat)(l:Int→Bool→ck→Option ay)
abbrev Kg:Cx:=⟨bb,59,M,e⟩
abbrev Jr:=bodyPost bb Tryz.f156 (bP M e (fun v _=>v=.agg (aX r)))
abbrev DR(a:dt)(s:AS):=VE (Kg M e) (Jr M e r) a .normal s
abbrev gF(n:Nat):aq:=.c (cat Tryz.f156 (pn n))
abbrev Fk:dt:=[.b 0,gF 15]
abbrev Wr:dt:=kl (Kg M e) (Jr M e r) Fk (cat Tryz.f156 (pn 116)) k::Fk
def ajh:AS:=⟨[(2,.ptr 2 0),(6,.ptr 6 0),(7,.ptr 7 0),(8,.str f)],[(2,List.set (aX cV) 61 (.nils)),(6,aH b),(7,List.set (aX ({ cV with Text:=(bytesOf v6),Space:=g }:ay)) 61 (.nils))],[],[2,6,7]⟩
def adc:AS:=⟨[(2,.ptr 2 0),(6,.ptr 6 0),(7,.ptr 7 0),(8,.str i)],[(2,List.set (aX cV) 61 (.nils)),(6,aH c),(7,List.set (aX ({ cV with Text:=(bytesOf v6),Space:=j }:ay)) 61 (.nils))],[],[2,6,7]⟩
def abO:AS:=⟨[(0,.sl (lm aw a)),(2,.ptr 2 0),(3,.ptr 451119 0)],[(2,List.set (aX cV) 61 (.nils)),(451119,[(wQ o 451119),.ref 401119])],[(401119,⟨5,1,lm (ak .u8) v6⟩)],[2,451119,401119]⟩
def PL:AS:=⟨[(0,.sl (lm aw a)),(2,.ptr 2 0),(3,.ptr 451119 0),(9,.sl (lm aw a)),(10,iI (a.length:Int)),(11,iI v4)],[(2,List.set (aX cV) 61 (.nils)),(451119,[(wQ v5 451119),.ref 401119])],[(401119,⟨5,1,lm (ak .u8) v6⟩)],[2,451119,401119]⟩
abbrev Tz:Prop:=∀{v4:Int} {v5:Bool} {v6:ck},l v4 v5 v6=some r→LP (Kg M e) (Jr M e r) Fk (cat Tryz.f156 (pn 116)) k (PL a v4 v5 v6)
variable{M e r a v4 v5 v6 o b f g c i j k l}{K:Kn}{n:Nat}
theorem Ph(d:ao K)(h:zA K n v6 b f g=some r):DR M e r [gF 255] (ajh v6 b f g):=by
 unfold zA at h;refine ax 2 3 1 (aj 3 ?_);obtain⟨i,a,h⟩:=bind_some h;refine aU (QB d a) (ac (ax 2 3 1 (aj 1 ?_)));obtain⟨j,c,h⟩:=bind_some h;refine aU (Hg d c) (ac (aN 3 (mJ 2 ?_)));cases h;exact bE
theorem U3(d:ao K)(h:zz K n v6 c i j=some r):DR M e r [gF 255] (adc v6 c i j):=by
 unfold zz at h;refine ax 2 3 1 (aj 3 ?_);obtain⟨f,a,h⟩:=bind_some h;refine aU (QB d a) (ac (ax 2 3 1 (aj 1 ?_)));obtain⟨g,b,h⟩:=bind_some h;refine aU (Hg d b) (ac (aN 3 (mJ 2 ?_)));cases h;exact bE
theorem SS(j:ao K)(h:sQ K n a v6 o=some r):DR M e r [gF 15] (abO a v6 o):=by
 unfold sQ at h;rcases am h with⟨f,d⟩|⟨f,d⟩
 ·subst f;have h:=d;refine ax 2 3 1 (aj 1 ?_);obtain⟨k,h⟩:=aD h;refine au (bB aw aw k (cU) aT) (ac ?_);obtain⟨b,l,h⟩:=bV h;refine bz (ks':=[gF 62,gF 63]) 1 ⟨[(0,.sl (lm aw a)),(2,.ptr 2 0),(3,.ptr 451119 0),(6,.ptr 6 0)],[(2,List.set (aX cV) 61 (.nils)),(6,aH b),(451119,[.ptr 451119 0,.ref 401119])],[(401119,⟨5,1,lm (ak .u8) v6⟩)],[2,6,451119,401119]⟩ ?_ (by subst l;kernel_rfl);refine aj 0 ?_;obtain⟨m,h⟩:=aD h;refine K1 451119 401119 (L:=v6) m (ac (cf 12 13 7 4 (aj 2 (au (bu aw a) (aQ 4 1 ?_)))));obtain⟨p,h⟩:=aD h;refine au (bB aw aw p (cU) aT) (ac ?_);obtain⟨D,q,h⟩:=bV h;refine bz (ks':=[gF 509,gF 255]) 0 ⟨[(2,.ptr 2 0),(6,.ptr 6 0),(7,.ptr 7 0),(8,.str (bytesOf v6)),(36,.bool D)],[(2,List.set (aX cV) 61 (.nils)),(6,aH b),(7,List.set (aX ({ cV with Text:=(bytesOf v6) }:ay)) 61 (.nils))],[],[2,6,7]⟩ ?_ (by subst q;kernel_rfl)
  obtain⟨g,h⟩|⟨g,h⟩:=am h
  ·refine ah 36 g (ax 4 5 2 (aj 4 ?_));obtain⟨s,h⟩:=aD h;refine au (D6 s) (ac ?_);obtain⟨E,t,h⟩:=bV h;refine bz (ks':=[gF 2037,gF 255]) 0 ⟨[(2,.ptr 2 0),(6,.ptr 6 0),(7,.ptr 7 0),(8,.str E)],[(2,List.set (aX cV) 61 (.nils)),(6,aH b),(7,List.set (aX ({ cV with Text:=(bytesOf v6) }:ay)) 61 (.nils))],[],[2,6,7]⟩ ?_ (by subst t;kernel_rfl);refine aj 2 ?_;obtain⟨H,u,h⟩:=bind_some h;exact aU (Iy j u) (ac (ag 0 (Ph j h)))
  ·exact ah 36 g (ag 2 (Ph j h))
 ·subst f;have h:=d;refine ax 2 3 1 (aj 1 ?_);obtain⟨v,h⟩:=aD h;refine au (bB aw aw v (cU) aT) (ac ?_);obtain⟨c,w,h⟩:=bV h;refine bz (ks':=[gF 62,gF 63]) 1 ⟨[(0,.sl (lm aw a)),(2,.ptr 2 0),(3,.ptr 451119 0),(6,.ptr 6 0)],[(2,List.set (aX cV) 61 (.nils)),(6,aH c),(451119,[.nilp,.ref 401119])],[(401119,⟨5,1,lm (ak .u8) v6⟩)],[2,6,451119,401119]⟩ ?_ (by subst w;kernel_rfl);refine aj 0 ?_;obtain⟨x,h⟩:=aD h;refine K1 451119 401119 (L:=v6) x (ac (cf 12 13 7 4 (aj 2 (au (bu aw a) (aQ 4 1 ?_)))));obtain⟨y,h⟩:=aD h;refine au (bB aw aw y (cU) aT) (ac ?_);obtain⟨F,z,h⟩:=bV h;refine bz (ks':=[gF 509,gF 255]) 0 ⟨[(2,.ptr 2 0),(6,.ptr 6 0),(7,.ptr 7 0),(8,.str (bytesOf v6)),(36,.bool F)],[(2,List.set (aX cV) 61 (.nils)),(6,aH c),(7,List.set (aX ({ cV with Text:=(bytesOf v6) }:ay)) 61 (.nils))],[],[2,6,7]⟩ ?_ (by subst z;kernel_rfl);obtain⟨i,h⟩|⟨i,h⟩:=am h
  ·refine ah 36 i (ax 4 5 2 (aj 4 ?_));obtain⟨A,h⟩:=aD h;refine au (D6 A) (ac ?_);obtain⟨G,B,h⟩:=bV h;refine bz (ks':=[gF 2037,gF 255]) 0 ⟨[(2,.ptr 2 0),(6,.ptr 6 0),(7,.ptr 7 0),(8,.str G)],[(2,List.set (aX cV) 61 (.nils)),(6,aH c),(7,List.set (aX ({ cV with Text:=(bytesOf v6) }:ay)) 61 (.nils))],[],[2,6,7]⟩ ?_ (by subst B;kernel_rfl);refine aj 2 ?_;obtain⟨I,C,h⟩:=bind_some h;exact aU (Iy j C) (ac (ag 0 (U3 j h)))
  ·exact ah 36 i (ag 2 (U3 j h))
theorem Zr(f:ao K)(d:Tz M e r a k l)(h:wc K n a l v4 v5 v6=some r):DR M e r (gF 116::Wr M e r k) (PL a v4 v5 v6):=by
 unfold wc at h;rcases am h with⟨m,b⟩|⟨m,b⟩
 ·subst m;have h:=b;refine ax 6 7 3 ?_;obtain⟨o,h⟩|⟨o,h⟩:=am h
  ·refine ah 12 o (cT 8 9 1 3 5 (aj 0 ?_));obtain⟨p,h⟩:=aD h;refine au (bB aw aw p (cU) aT) (ac (aj 2 ?_));obtain⟨q,g,h⟩:=bind_some h;exact kp 401119 9 [(451119,450119)] (TU f g) (ac (ag 2 (bq (d h))))
  ·exact ah 12 o (ag 5 (SS f h))
 ·subst m;have h:=b;refine ax 6 7 3 ?_;obtain⟨c,h⟩|⟨c,h⟩:=am h
  ·refine ah 12 c (cT 8 9 1 3 5 (aj 0 ?_));obtain⟨i,h⟩:=aD h;refine au (bB aw aw i (cU) aT) (ac (aj 2 ?_));obtain⟨s,j,h⟩:=bind_some h;exact kp 401119 9 [(451119,450119)] (TU f j) (ac (ag 2 (bq (d h))))
  ·exact ah 12 c (ag 5 (SS f h))
theorem Z6(b:ao K)(m:Nat):Tz M e r a m (qb K n a m):=by
 induction m with
 | zero=>intro v4 v5 v6 h;cases h
 | succ m c=>intro v4 v5 v6 h;have h:wc K n a (qb K n a m) v4 v5 v6=some r:=h;exact bn (Zr b c h)
theorem Jh(b:ao K)(h:pb K n a=some r):bc bb 156 [.sl (lm aw a)] (fun v _=>v=.agg (aX r)):=by
 refine bH (cat Tryz.f156 (pn 1)) Tryz.func156 Tryz.ntmps156 fun M e=>(bm ⟨[(0,.sl (lm aw a))],[],[],[]⟩ ?_);unfold pb at h;exact ax 6 7 3 (aj 0 (Wv 451119 (T:=119) (d:=3) (cs:=[.nilp,.nils]) (ac (cf 4 5 3 2 (aj 1 (au (bu aw a) (ac (gC 2 0 1 (bJ [0,2,3,9,10,11] [2,451119] [] (yB 401119 451119 1 5 1 (ag 0 (ce (p:=pn 58) n (Z6 b n h)))))))))))))
end
noncomputable section
variable[GS](M:Nat→Prop)(i:aC)(r:d5)(x:d3)(v2:Fv)(c:eb)(a:Int)(f:d5)(g:Bool)(d:Int)(t:Bool)(o:Int)(q:ay)(j u:Nat)(l:Int→d5→Option d5)(w:Int→Option d5)
abbrev zC:Cx:=⟨bb,120,M,i⟩
abbrev A7:=bodyPost bb Tryz.f112 (bP M i (fun v s=>v=.ref 117∧look 117 s.r=some (b6 r)))
abbrev wL(a:dt)(s:AS):=VE (zC M i) (A7 M i r) a .normal s
abbrev fI(n:Nat):aq:=.c (cat Tryz.f112 (pn n))
abbrev Kr:dt:=[.b 0,fI 31]
abbrev lC:dt:=kl (zC M i) (A7 M i r) Kr (cat Tryz.f112 (pn 244)) j::Kr
abbrev Jd:dt:=.b 3::fI 4009823 :: .b 2::fI 31327 :: .b 1::lC M i r j
abbrev P2:dt:=kl (zC M i) (A7 M i r) (Jd M i r j) (cat Tryz.f112 (pn 16039288)) u::(Jd M i r j)
def Wk:AS:=⟨[(1,.fn v2.id v2.aS),(5,.sl (lm aw c)),(6,.ref 117),(8,.ptr 8 0),(9,.bool g),(10,.ptr 10 0),(11,iI o)],[(8,aw (gD c a)),(10,aX q)],[(117,(b6 f))],[8,10,117]⟩
def abe:AS:=⟨[(1,.fn v2.id v2.aS),(5,.sl (lm aw c)),(6,.ref 117),(7,iI a),(8,.ptr 8 0),(9,.bool g),(10,.ptr 10 0),(11,iI d),(81,.bool t)],[(8,aw (gD c a)),(10,List.set (aX cV) 61 (.nils))],[(117,(b6 f))],[8,10,117]⟩
def Qe:AS:=⟨[(1,.fn v2.id v2.aS),(5,.sl (lm aw c)),(6,.ref 117),(7,iI a),(8,.ptr 8 0),(9,.bool g),(10,.ptr 10 0),(11,iI d)],[(8,aw (gD c a)),(10,List.set (aX cV) 61 (.nils))],[(117,(b6 f))],[8,10,117]⟩
def aeF:AS:=⟨[(1,.fn v2.id v2.aS),(5,.sl (lm aw c)),(6,.ref 117),(7,iI a),(8,.ptr 8 0),(9,.bool g)],[(8,aw (gD c a))],[(117,(b6 f))],[8,117]⟩
def NM:AS:=⟨[(1,.fn v2.id v2.aS),(5,.sl (lm aw c)),(6,.ref 117),(7,iI a)],[],[(117,(b6 f))],[117]⟩
abbrev qe:Prop:=∀{a:Int} {f:d5},l a f=some r→LP (zC M i) (A7 M i r) Kr (cat Tryz.f112 (pn 244)) j (NM v2 c a f)
abbrev J6:Prop:=∀{d:Int},w d=some r→LP (zC M i) (A7 M i r) (Jd M i r j) (cat Tryz.f112 (pn 16039288)) u (Qe v2 c a f g d)
variable{M i r x v2 c a f g d t o q j u l w}{K:Kn}{n:Nat}
theorem FA(s:ao K)(k:qe M i r v2 c j l)(h:lA K n v2 c a f g l o q=some r):wL M i r (.b 2::fI 31327 :: .b 1::lC M i r j) (Wk v2 c a f g o q):=by
 unfold lA at h;refine fV 2 3 2 (bJ [1,5,6,8,9,10,11] [8,10] [117] (bN 3 (nu 100 [.ptr 8 4,.cptr (aB ((gD c a).Box)),.cptr (aB ((gD c a).Box)),.cptr (List.drop 1 (aB ((gD c a).Box))),iI (((gD c a).Box).Node),.ptr 8 4,.cptr (aB ((gD c a).Box)),.cptr (aB ((gD c a).Box)),.cptr (List.drop 2 (aB ((gD c a).Box))),.agg (aH (((gD c a).Box).Style)),.bool g,.ptr 10 0,.ptr 10 2,.ptr 10 59]) [] [] [cd bb 120 Tryz.f112 (pn 62654) 12,cd bb 120 Tryz.f112 (pn 62654) 14,cd bb 120 Tryz.f112 (pn 62654) 16] (av [.v 0 1,.v 0 1,.v 0 1,.v 0 1,.v 0 1,.v 0 2,.v 0 2,.v 0 2,.v 0 2,.v 0 2,.v 0 3,.v 0 1] (ai (cb 0) (av [.v 1 1] (ai (cb 1) (av [.v 2 1] (ai (cb 2) bL)))))) ?_));obtain⟨m,b,h⟩:=bV h;obtain⟨p,d,h⟩:=bV h;refine bz (ks':=fI 125310::fI 125311 :: .b 1::lC M i r j) 1 ⟨[(1,.fn v2.id v2.aS),(5,.sl (lm aw c)),(6,.ref 117),(10,.ptr 10 0),(11,iI o)],[(10,aX ({ q with Node:=m,Style:=p,Glued:=g }:ay))],[(117,(b6 f))],[10,117]⟩ ?_ (by subst d;subst b;kernel_rfl)
 refine aj 3 ?_;obtain⟨e,h⟩:=aD h;exact au (cw 117 117 165 62 aX (rfl) (iH) e) (ac (ag 2 (bq (k h))))
theorem Cv(s:ao K)(p:qe M i r v2 c j l)(q:J6 M i r v2 c a f g j u w)(h:lz K n v2 c a f g d l w t=some r):wL M i r (fI 64157153::fI 32078577::P2 M i r j u) (abe v2 c a f g d t):=by
 unfold lz at h;obtain⟨b,h⟩|⟨b,h⟩:=am h
 ·exact ah 81 b (ag 5 (bq (q h)))
 ·refine ah 81 b (bX (ks':=fI 4009823 :: .b 2::fI 31327 :: .b 1::lC M i r j) 5 (aj 3 ?_));obtain⟨m,h⟩:=aD h;refine au (i7 aw c a d 206 (.tmp 84) (some (.tmp 85)) (some (.tmp 86)) 87 (e:=210) (sz:=5) (by kernel_rfl) (by kernel_rfl) (by kernel_rfl) (by kernel_rfl) (by kernel_rfl) (by kernel_rfl) (cU) (fun k v=>by subst v;kernel_rfl) m) ?_;obtain⟨x,o,h⟩:=bind_some h;exact aU (Jh s o) (ac (ag 0 (FA s p h)))
theorem ada(x:ao K)(o:qe M i r v2 c j l)(p:J6 M i r v2 c a f g j u w)(h:sN K n v2 c a f g l w d=some r):wL M i r (fI 16039288::P2 M i r j u) (Qe v2 c a f g d):=by
 unfold sN at h;refine cf 4 5 3 2 (bJ [1,5,6,7,8,9,10,11] [8,10] [117] ?_);obtain⟨k,h⟩|⟨k,h⟩:=am h
 ·obtain⟨q,h⟩:=aD h;obtain⟨m,h⟩|⟨m,h⟩:=am h
  ·obtain⟨v,h⟩:=aD h;obtain⟨s,h⟩|⟨s,h⟩:=am h
   ·obtain⟨y,h⟩:=aD h;obtain⟨z,h⟩:=aD h;obtain⟨t,A,h⟩:=bind_some h;exact bN 0 (nu 47 [iI d,.sl (lm aw c),iI (c.length:Int),.bool (decide (d<(c.length:Int))),.bool true,.sl (lm aw c),iI d,.cptr (aw (gD c d)),.cptr (List.drop 0 (aw (gD c d))),iI ((gD c d).Kind),.bool (((gD c d).Kind) == 1),.bool (((gD c d).Kind) == 1),.bool true,.sl (lm aw c),iI d,.cptr (aw (gD c d)),.cptr (List.drop 1 (aw (gD c d))),iI ((gD c d).Of),.ptr 8 1,iI ((gD c a).Of),.bool (((gD c d).Of) == ((gD c a).Of)),.bool (((gD c d).Of) == ((gD c a).Of)),.bool true,.sl (lm aw c),iI d,iI (aa (d-1)),.cptr (aw (gD c ((aa (d-1))))),.agg (aw (gD c ((aa (d-1))))),.sl (lm aw c),iI d,.cptr (aw (gD c d)),.agg (aw (gD c d)),.bool t,.bool (!t),.bool (!t)]) [] [] [] (av (vz 2) (bh (bu aw c) (av [.v 0 1] (ai (cH 0 51 (e:=(decide (d<(c.length:Int)))) (b:=true) k) (av (vz 2) (bh (bB aw aw q (cU) aT) (av (vz 4) (ai (cH 0 59 (e:=(((gD c d).Kind) == 1)) (b:=true) m) (av (vz 2) (bh (bB aw aw v (cU) aT) (av (vz 6) (ai (cH 0 69 (e:=(((gD c d).Of) == ((gD c a).Of))) (b:=true) s) (av (vz 3) (bh (bB aw aw y (cU) aT) (av (vz 3) (bh (bB aw aw z (cU) aT) (av [.v 0 1] (ai (co 0 1 79 (tV x A)) (av (vz 2) bL))))))))))))))))))) (ag 0 (Cv x o p h))
   ·exact bN 0 (nu 47 [iI d,.sl (lm aw c),iI (c.length:Int),.bool (decide (d<(c.length:Int))),.bool true,.sl (lm aw c),iI d,.cptr (aw (gD c d)),.cptr (List.drop 0 (aw (gD c d))),iI ((gD c d).Kind),.bool (((gD c d).Kind) == 1),.bool (((gD c d).Kind) == 1),.bool true,.sl (lm aw c),iI d,.cptr (aw (gD c d)),.cptr (List.drop 1 (aw (gD c d))),iI ((gD c d).Of),.ptr 8 1,iI ((gD c a).Of),.bool (((gD c d).Of) == ((gD c a).Of)),.bool (((gD c d).Of) == ((gD c a).Of)),.bool false,bf,bf,bf,bf,bf,bf,bf,bf,bf,bf,bf,.bool false]) [] [] [] (av (vz 2) (bh (bu aw c) (av [.v 0 1] (ai (cH 0 51 (e:=(decide (d<(c.length:Int)))) (b:=true) k) (av (vz 2) (bh (bB aw aw q (cU) aT) (av (vz 4) (ai (cH 0 59 (e:=(((gD c d).Kind) == 1)) (b:=true) m) (av (vz 2) (bh (bB aw aw v (cU) aT) (av (vz 6) (ai (cH 0 69 (e:=(((gD c d).Of) == ((gD c a).Of))) (b:=false) s) (ai (az 0 1) (ai (az 0 1) (ai (az 0 1) (ai (az 0 1) (ai (az 0 1) (ai (az 0 1) (ai (az 0 1) (ai (az 0 1) (ai (az 0 1) (ai (az 0 1) (ai (az 0 1) (av [.v 0 1] bL)))))))))))))))))))))))) (ag 0 (Cv x o p h))
  ·exact bN 0 (nu 47 [iI d,.sl (lm aw c),iI (c.length:Int),.bool (decide (d<(c.length:Int))),.bool true,.sl (lm aw c),iI d,.cptr (aw (gD c d)),.cptr (List.drop 0 (aw (gD c d))),iI ((gD c d).Kind),.bool (((gD c d).Kind) == 1),.bool (((gD c d).Kind) == 1),.bool false,bf,bf,bf,bf,bf,bf,bf,bf,.bool false,.bool false,bf,bf,bf,bf,bf,bf,bf,bf,bf,bf,bf,.bool false]) [] [] [] (av (vz 2) (bh (bu aw c) (av [.v 0 1] (ai (cH 0 51 (e:=(decide (d<(c.length:Int)))) (b:=true) k) (av (vz 2) (bh (bB aw aw q (cU) aT) (av (vz 4) (ai (cH 0 59 (e:=(((gD c d).Kind) == 1)) (b:=false) m) (ai (az 0 1) (ai (az 0 1) (ai (az 0 1) (ai (az 0 1) (ai (az 0 1) (ai (az 0 1) (ai (az 0 1) (ai (az 0 1) (av (vz 2) (ai (az 0 1) (ai (az 0 1) (ai (az 0 1) (ai (az 0 1) (ai (az 0 1) (ai (az 0 1) (ai (az 0 1) (ai (az 0 1) (ai (az 0 1) (ai (az 0 1) (ai (az 0 1) (av [.v 0 1] bL))))))))))))))))))))))))))))) (ag 0 (Cv x o p h))
 ·exact bN 0 (nu 47 [iI d,.sl (lm aw c),iI (c.length:Int),.bool (decide (d<(c.length:Int))),.bool false,bf,bf,bf,bf,bf,bf,.bool false,.bool false,bf,bf,bf,bf,bf,bf,bf,bf,.bool false,.bool false,bf,bf,bf,bf,bf,bf,bf,bf,bf,bf,bf,.bool false]) [] [] [] (av (vz 2) (bh (bu aw c) (av [.v 0 1] (ai (cH 0 51 (e:=(decide (d<(c.length:Int)))) (b:=false) k) (ai (az 0 1) (ai (az 0 1) (ai (az 0 1) (ai (az 0 1) (ai (az 0 1) (ai (az 0 1) (av (vz 2) (ai (az 0 1) (ai (az 0 1) (ai (az 0 1) (ai (az 0 1) (ai (az 0 1) (ai (az 0 1) (ai (az 0 1) (ai (az 0 1) (av (vz 2) (ai (az 0 1) (ai (az 0 1) (ai (az 0 1) (ai (az 0 1) (ai (az 0 1) (ai (az 0 1) (ai (az 0 1) (ai (az 0 1) (ai (az 0 1) (ai (az 0 1) (ai (az 0 1) (av [.v 0 1] bL)))))))))))))))))))))))))))))))) (ag 0 (Cv x o p h))
theorem ahl(e:ao K)(b:qe M i r v2 c j l)(m:Nat):J6 M i r v2 c a f g j m (qy K n v2 c a f g l m):=by
 induction m with
 | zero=>intro d h;cases h
 | succ m k=>intro d h;have h:sN K n v2 c a f g l (qy K n v2 c a f g l m) d=some r:=h;exact bn (ada e b k h)
theorem JV(k:ao K)(e:qe M i r v2 c j l)(h:rC K n v2 c a f l g=some r):wL M i r (fI 3915 :: .b 1::lC M i r j) (aeF v2 c a f g):=by
 unfold rC at h;obtain⟨s,m,h⟩:=bV h;refine bz (ks':=fI 250613 :: .b 2::fI 31327 :: .b 1::lC M i r j) 10 ⟨[(1,.fn v2.id v2.aS),(5,.sl (lm aw c)),(6,.ref 117),(7,iI a),(8,.ptr 8 0),(9,.bool g),(10,.ptr 10 0),(11,iI (aa (a+1))),(46,iI ((gD c a).Kind)),(89,.bool s)],[(8,aw (gD c a)),(10,List.set (aX cV) 61 (.nils))],[(117,(b6 f))],[8,10,117]⟩ ?_ (by subst m;kernel_rfl);obtain⟨b,h⟩|⟨b,h⟩:=am h
 ·exact ah 89 b (bX (ks':=.b 2::fI 31327 :: .b 1::lC M i r j) 2 (mJ 10 (ag 0 (FA k e h))))
 ·refine ah 89 b ?_;obtain⟨t,o,h⟩:=bV h;refine bz (ks':=fI 1002455 :: .b 2::fI 31327 :: .b 1::lC M i r j) 3 ⟨[(1,.fn v2.id v2.aS),(5,.sl (lm aw c)),(6,.ref 117),(7,iI a),(8,.ptr 8 0),(9,.bool g),(10,.ptr 10 0),(11,iI (aa (a+1))),(92,.bool t)],[(8,aw (gD c a)),(10,List.set (aX cV) 61 (.nils))],[(117,(b6 f))],[8,10,117]⟩ ?_ (by subst o;kernel_rfl);obtain⟨d,h⟩|⟨d,h⟩:=am h
  ·refine ah 92 d (bp 2 1 (aj 5 ?_));obtain⟨u,q,h⟩:=bind_some h;exact lT (k.sy q) (ac (ag 0 (FA k e h)))
  ·exact ah 92 d (ag 3 (ce (p:=pn 8019644) n (ahl k e n h)))
theorem Zv(q:ao K)(m:qe M i r v2 c j l)(h:si K n v2 c l a f=some r):wL M i r (fI 244::lC M i r j) (NM v2 c a f):=by
 unfold si at h;refine cf 4 5 3 2 (aj 2 (au (bu aw c) (ac ?_)));obtain⟨g,h⟩|⟨g,h⟩:=am h
 ·refine ah 17 g (bX (ks':=fI 1956::fI 1957 :: .b 1::lC M i r j) 4 (aj 2 ?_));obtain⟨s,h⟩:=aD h;refine au (bB aw aw s (cU) aT) (ac (ax 2 3 1 (bJ [1,5,6,7,8] [8] [117] ?_)));obtain⟨d,h⟩|⟨d,h⟩:=am h
  ·obtain⟨p,h⟩:=aD h;obtain⟨k,h⟩|⟨k,h⟩:=am h
   ·obtain⟨t,h⟩:=aD h;obtain⟨o,u,h⟩:=bind_some h;exact bN 1 (nu 22 [iI a,.bool (decide (a>0)),.bool true,.sl (lm aw c),iI a,iI (aa (a-1)),.cptr (aw (gD c ((aa (a-1))))),.cptr (List.drop 0 (aw (gD c ((aa (a-1)))))),iI ((gD c ((aa (a-1)))).Kind),.bool (((gD c ((aa (a-1)))).Kind) != 2),.bool (((gD c ((aa (a-1)))).Kind) != 2),.bool true,.sl (lm aw c),iI a,iI (aa (a-1)),.cptr (aw (gD c ((aa (a-1))))),.agg (aw (gD c ((aa (a-1))))),.agg (aw (gD c a)),.bool o,.bool (!o),.bool (!o)]) [] [] [cd bb 120 Tryz.f112 (pn 3914) 21] (av (vz 2) (ai (cH 0 24 (e:=(decide (a>0))) (b:=true) d) (av (vz 3) (bh (bB aw aw p (cU) aT) (av (vz 4) (ai (cH 0 33 (e:=(((gD c ((aa (a-1)))).Kind) != 2)) (b:=true) k) (av (vz 3) (bh (bB aw aw t (cU) aT) (av (vz 2) (ai (co 0 1 40 (tV q u)) (av (vz 2) (ai (cb 0) bL)))))))))))) (ag 0 (JV q m h))
   ·exact bN 1 (nu 22 [iI a,.bool (decide (a>0)),.bool true,.sl (lm aw c),iI a,iI (aa (a-1)),.cptr (aw (gD c ((aa (a-1))))),.cptr (List.drop 0 (aw (gD c ((aa (a-1)))))),iI ((gD c ((aa (a-1)))).Kind),.bool (((gD c ((aa (a-1)))).Kind) != 2),.bool (((gD c ((aa (a-1)))).Kind) != 2),.bool false,bf,bf,bf,bf,bf,bf,bf,bf,.bool false]) [] [] [cd bb 120 Tryz.f112 (pn 3914) 21] (av (vz 2) (ai (cH 0 24 (e:=(decide (a>0))) (b:=true) d) (av (vz 3) (bh (bB aw aw p (cU) aT) (av (vz 4) (ai (cH 0 33 (e:=(((gD c ((aa (a-1)))).Kind) != 2)) (b:=false) k) (ai (az 0 1) (ai (az 0 1) (ai (az 0 1) (ai (az 0 1) (ai (az 0 1) (ai (az 0 1) (ai (az 0 1) (ai (az 0 1) (av [.v 0 1] (ai (cb 0) bL)))))))))))))))) (ag 0 (JV q m h))
  ·exact bN 1 (nu 22 [iI a,.bool (decide (a>0)),.bool false,bf,bf,bf,bf,bf,bf,bf,.bool false,.bool false,bf,bf,bf,bf,bf,bf,bf,bf,.bool false]) [] [] [cd bb 120 Tryz.f112 (pn 3914) 21] (av (vz 2) (ai (cH 0 24 (e:=(decide (a>0))) (b:=false) d) (ai (az 0 1) (ai (az 0 1) (ai (az 0 1) (ai (az 0 1) (ai (az 0 1) (ai (az 0 1) (ai (az 0 1) (av (vz 2) (ai (az 0 1) (ai (az 0 1) (ai (az 0 1) (ai (az 0 1) (ai (az 0 1) (ai (az 0 1) (ai (az 0 1) (ai (az 0 1) (av [.v 0 1] (ai (cb 0) bL)))))))))))))))))))) (ag 0 (JV q m h))
 ·refine ah 17 g (aN 8 ?_);cases h;exact eB
theorem acj(b:ao K)(m:Nat):qe M i r v2 c m (pM K n v2 c m):=by
 induction m with
 | zero=>intro a f h;cases h
 | succ m d=>intro a f h;have h:si K n v2 c (pM K n v2 c m) a f=some r:=h;exact bn (Zv b d h)
theorem acd(a:ao K)(h:tK K n x v2=some r):bc bb 112 [.sl (lm aK x),.fn v2.id v2.aS] (fun v s=>v=.ref 117∧look 117 s.r=some (b6 r)):=by
 refine bH (cat Tryz.f112 (pn 1)) ama al8 fun M i=>(bm ⟨[(0,.sl (lm aK x)),(1,.fn v2.id v2.aS)],[],[],[]⟩ ?_);unfold tK at h;refine ax 6 7 3 (aj 1 ?_);obtain⟨c,b,h⟩:=bind_some h;exact eT 1013 (Hi a b) (eO 400003) (ac (gJ 26 0 7 6 (bJ [1,5,6,7] [] [1013] (gq 1013 (eQ 117 6 165 62 (ag 0 (ce (p:=pn 122) n (acj a n h))))))))
end
noncomputable section
variable[GS](M:Nat→Prop)(d:aC)(r:ae×Int×Int×dO)(a:ab)(v2:bZ)(b:bw)(v4 v5:Int)(v6:dO)  
abbrev OS(n:Nat):aq:=.c (cat Tryz.f74 (pn n))
variable{M d r a v2 b v4 v5 v6}{K:Kn}{n:Nat}[SG d]
theorem abI(f:ao K)(h:DK K n a v2 b v4 v5 v6=some r):eP bb 74 [.agg (aB a),.agg (cr v2),.agg (bO b)] [(af v4 v5)] (bt v6) (fun v s=>v=.agg (aG r.1)∧cB s.o [(af r.2.1 r.2.2.1)]∧look 440009 s.r=some (bt r.2.2.2)):=by
 refine jK (c:=cat Tryz.f74 []) Tryz.func74 (by kernel_rfl) _ Tryz.ntmps74 (lp (by kernel_rfl)) fun M d=>(bm ⟨[(0,.agg (aB a)),(1,.agg (cr v2)),(2,.agg (bO b))],[(af v4 v5)],[(440009,(bt v6))],[440009,440001,1440001]⟩ ?_);unfold DK at h;refine bX (ks':=[OS 6,OS 7]) 3 (aj 3 ?_);obtain⟨g,e,h⟩:=bind_some h;refine qa (LL f e) (ac (aN 1 ?_));cases h;exact fm
end
noncomputable section
variable[GS](M:Nat→Prop)(b:aC)(r:Int)(a:ab)(v2:Int)(c:bw)(d:Int)  
abbrev af0(n:Nat):aq:=.c (cat Tryz.f99 (pn n))
abbrev YQ:Cx:=⟨bb,46,M,b⟩
abbrev ZL:=bodyPost bb Tryz.f99 (bP M b (fun v _=>v=iI r))
abbrev Wb(a:dt)(s:AS):=VE (YQ M b) (ZL M b r) a .normal s
def VS:AS:=⟨[(1,iI v2),(3,.ptr 3 0),(7,iI d)],[(3,aB a)],[],[3]⟩
variable{M b r a v2 c d}{K:Kn}{n:Nat}
theorem T4(e:ao K)(h:CK K n a v2 d=some r):Wb M b r [af0 15] (VS a v2 d):=by
 unfold CK at h;refine ax 2 3 1 (aj 4 ?_);obtain⟨f,c,h⟩:=bind_some h;refine aU (wM e c) (ac (aN 1 ?_));cases h;exact bE
theorem aj3(d:ao K)(h:Fp K n a v2 c=some r):bc bb 99 [.agg (aB a),iI v2,.agg (bO c)] (fun v _=>v=iI r):=by
 refine bH (cat Tryz.f99 (pn 1)) Tryz.func99 Tryz.ntmps99 fun M b=>(bm ⟨[(0,.agg (aB a)),(1,iI v2),(2,.agg (bO c))],[],[],[]⟩ ?_);unfold Fp at h;refine ax 6 7 3 (aj 4 ?_);obtain⟨v4,g,h⟩:=bind_some h;refine aU (ep d g) (ac (ax 5 3 3 ?_));obtain⟨e,h⟩|⟨e,h⟩:=am h
 ·refine ah 21 e (ax 4 5 2 (aj 2 ?_));obtain⟨v5,i,h⟩:=bind_some h;refine aU (Mj d i) (ac (ax 2 3 1 (bJ [1,3,9,10] [3] [] ?_)));obtain⟨v6,j,h⟩:=bind_some h;obtain⟨m,k,h⟩:=bind_some h;obtain⟨f,l,h⟩:=bind_some h;exact bN 1 (nu 28 [iI v2,iI v6,.ptr 3 2,.agg (aH a.Style),iI v2,.agg (cr m),iI f,iI (aa (v6-f))]) [] [] [cd bb 46 Tryz.f99 (pn 234) 8] (av [.v 0 1] (ai (co 0 1 29 (jZ d j)) (av (vz 3) (ai (co 0 1 33 (mC d k)) (ai (co 0 1 34 (nG d l)) (av [.v 0 1] (ai (cb 0) bL))))))) (ag 1 (T4 d h))
 ·exact ah 21 e (ag 2 (T4 d h))
end
noncomputable section
variable[GS](M:Nat→Prop)(c:aC)(r:ay)(a:ab)(v2:Int)(b:bw)  
variable{M c r a v2 b}{K:Kn}{n:Nat}
theorem X8(d:ao K)(h:Hq K n a v2 b=some r):bc bb 147 [.agg (aB a),.cptr ([iI v2]),.cptr (bO b)] (fun v _=>v=.agg (aX r)):=by
 refine bH (cat Tryz.f147 (pn 1)) Tryz.func147 Tryz.ntmps147 fun M c=>(bm ⟨[(0,.agg (aB a)),(1,.cptr ([iI v2])),(2,.cptr (bO b))],[],[],[]⟩ ?_);unfold Hq at h;refine ax 6 7 3 (bJ [1,2,3,4] [3,4] [] ?_);obtain⟨v4,e,h⟩:=bind_some h;obtain⟨v5,f,h⟩:=bind_some h;refine bN 1 (nu 7 [.ptr 3 2,.agg (aH a.Style),iI v2,.agg (aB a),iI v2,.agg (bO b),iI v4,.agg (cr v5)]++nu 5 [.ptr 5 0]) [(5,cr kg)] [] [cd bb 36 Tryz.f147 (pn 6) 9] (av (vz 6) (ai (co 0 1 13 (aj3 d e)) (ai (co 0 1 14 (mC d f)) (ai (py 0 1 68 5 (cr kg)) (ai (cb 0) bL))))) ?_;cases h
end
noncomputable section
variable[GS](M:Nat→Prop)(c:aC)(r:d5)(b:d3)(v2:Int)(a:bw)  
variable{M c r b v2 a}{K:Kn}{n:Nat}
theorem agR(e:ao K)(h:A5 K n b v2 a=some r):bc bb 109 [.sl (lm aK b),iI v2,.agg (bO a)] (fun v s=>v=.ref 1009∧look 1009 s.r=some (b6 r)):=by
 refine bH (cat Tryz.f109 (pn 1)) Tryz.func109 Tryz.ntmps109 fun M c=>(bm ⟨[(0,.sl (lm aK b)),(1,iI v2),(2,.agg (bO a))],[],[],[]⟩ ?_);unfold A5 at h;refine ax 6 7 3 (aj 1 (nO 4 4 ([iI v2]) (nO 5 5 (bO a) (sd 147 #[(.tmp 4),(.tmp 5)] [.cptr ([iI v2]),.cptr (bO a)] ?_))));obtain⟨v4,d,h⟩:=bind_some h;refine eT 1009 (acd e d) (eO 117) (ac (aN 1 ?_));cases h;exact eB
end
noncomputable section
variable[GS](M:Nat→Prop)(b:aC)(r:Int)(a:d5)(v2 v4:Int)(v5:Bool)(c:Nat)(d:Int→Option Int)
abbrev Ev:Cx:=⟨bb,22,M,b⟩
abbrev FV:=bodyPost bb Tryz.f115 (bP M b (fun v _=>v=iI r))
abbrev Sj(a:dt)(s:AS):=VE (Ev M b) (FV M b r) a .normal s
abbrev C2(n:Nat):aq:=.c (cat Tryz.f115 (pn n))
abbrev F7:dt:=[.b 0,C2 15]
abbrev TH:dt:=kl (Ev M b) (FV M b r) F7 (cat Tryz.f115 (pn 56)) c::F7
def ad4:AS:=⟨[(0,.sl (lm aX a)),(5,iI v4),(18,.bool v5)],[],[],[]⟩
def MN:AS:=⟨[(0,.sl (lm aX a)),(5,iI v4)],[],[],[]⟩
abbrev Ia:Prop:=∀{v4:Int},d v4=some r→LP (Ev M b) (FV M b r) F7 (cat Tryz.f115 (pn 56)) c (MN a v4)
variable{M b r a v2 v4 v5 c d}{K:Kn}{n:Nat}
theorem MF(g:ao K)(f:Ia M b r a c d)(h:sv K n a v4 d v5=some r):Sj M b r (C2 225::C2 113::TH M b r c) (ad4 a v4 v5):=by
 unfold sv at h;obtain⟨e,h⟩|⟨e,h⟩:=am h
 ·exact ah 18 e (ag 5 (bq (f h)))
 ·refine ah 18 e (aN 8 ?_);cases h;exact bE
theorem agj(g:ao K)(e:Ia M b r a c d)(h:tm K n a d v4=some r):Sj M b r (C2 56::TH M b r c) (MN a v4):=by
 unfold tm at h;refine cf 4 5 3 2 (aj 2 (au (bu aX a) (aQ 5 2 ?_)));obtain⟨f,h⟩|⟨f,h⟩:=am h
 ·refine aF 12 f (aQ 7 2 ?_);obtain⟨i,h⟩:=aD h;exact au (bB aX aX i (iH) aT) (ac (ag 0 (MF g e h)))
 ·exact aF 12 f (ac (ag 0 (MF g e h)))
theorem abA(c:ao K)(m:Nat):Ia M b r a m (sD K n a m):=by
 induction m with
 | zero=>intro v4 h;cases h
 | succ m d=>intro v4 h;have h:tm K n a (sD K n a m) v4=some r:=h;exact bn (agj c d h)
theorem H8(c:ao K)(h:rz K n a v2=some r):bc bb 115 [.sl (lm aX a),iI v2] (fun v _=>v=iI r):=by
 refine bH (cat Tryz.f115 (pn 1)) Tryz.func115 Tryz.ntmps115 fun M b=>(bm ⟨[(0,.sl (lm aX a)),(1,iI v2)],[],[],[]⟩ ?_);unfold rz at h;exact ag 6 (ce (p:=pn 28) n (abA c n h))
end
noncomputable section
variable[GS](M:Nat→Prop)(b:aC)(r:Int)(a:d5)(c:Int)(d:Nat)(e:Int→Option Int)
abbrev JR:Cx:=⟨bb,18,M,b⟩
abbrev Gb:=bodyPost bb Tryz.f150 (bP M b (fun v _=>v=iI r))
abbrev YL(a:dt)(s:AS):=VE (JR M b) (Gb M b r) a .normal s
abbrev TE(n:Nat):aq:=.c (cat Tryz.f150 (pn n))
abbrev E9:dt:=[.b 0,TE 7]
abbrev Y0:dt:=kl (JR M b) (Gb M b r) E9 (cat Tryz.f150 (pn 52)) d::E9
def N1:AS:=⟨[(0,.sl (lm aX a)),(3,iI c)],[],[],[]⟩
abbrev U9:Prop:=∀{c:Int},e c=some r→LP (JR M b) (Gb M b r) E9 (cat Tryz.f150 (pn 52)) d (N1 a c)
variable{M b r a c d e}{K:Kn}{n:Nat}
theorem adY(k:ao K)(i:U9 M b r a d e)(h:n4 K n a e c=some r):YL M b r (TE 52::Y0 M b r d) (N1 a c):=by
 unfold n4 at h;refine ax 5 3 3 ?_;obtain⟨f,h⟩|⟨f,h⟩:=am h
 ·refine ah 8 f (cT 8 9 1 3 5 (aj 2 ?_));obtain⟨j,h⟩:=aD h;refine au (bB aX aX j (iH) aT) (ac ?_);obtain⟨g,h⟩|⟨g,h⟩:=am h
  ·refine ah 16 g (aN 9 ?_);cases h;exact bE
  ·exact ah 16 g (ag 4 (bq (i h)))
 ·refine ah 8 f (aN 8 ?_);cases h;exact bE
theorem abv(d:ao K)(m:Nat):U9 M b r a m (oY K n a m):=by
 induction m with
 | zero=>intro c h;cases h
 | succ m e=>intro c h;have h:n4 K n a (oY K n a m) c=some r:=h;exact bn (adY d e h)
theorem Oj(c:ao K)(h:nS K n a=some r):bc bb 150 [.sl (lm aX a)] (fun v _=>v=iI r):=by
 refine bH (cat Tryz.f150 (pn 1)) Tryz.func150 Tryz.ntmps150 fun M b=>(bm ⟨[(0,.sl (lm aX a))],[],[],[]⟩ ?_);unfold nS at h;exact cf 12 13 7 4 (aj 1 (au (bu aX a) (ac (ag 1 (ce (p:=pn 26) n (abv c n h))))))
end
noncomputable section
variable[GS](M:Nat→Prop)(b:aC)(r:Int)(a:d5)(v2 c v5:Int)(d:Nat)(e:Int→Int→Option Int)
abbrev Hc:Cx:=⟨bb,33,M,b⟩
abbrev II:=bodyPost bb Tryz.f116 (bP M b (fun v _=>v=iI r))
abbrev Qq(a:dt)(s:AS):=VE (Hc M b) (II M b r) a .normal s
abbrev Iu(n:Nat):aq:=.c (cat Tryz.f116 (pn n))
abbrev KH:dt:=[.b 0,Iu 15]
abbrev af7:dt:=kl (Hc M b) (II M b r) KH (cat Tryz.f116 (pn 116)) d::KH
def X2:AS:=⟨[(3,iI v5)],[],[],[]⟩
def QL:AS:=⟨[(0,.sl (lm aX a)),(3,iI v2),(7,.sl (lm aX a)),(8,iI (a.length:Int)),(9,iI c)],[],[],[]⟩
abbrev Uo:Prop:=∀{v2:Int} {c:Int},e v2 c=some r→LP (Hc M b) (II M b r) KH (cat Tryz.f116 (pn 116)) d (QL a v2 c)
variable{M b r a v2 c v5 d e}{K:Kn}{n:Nat}
theorem Pi(a:ao K)(h:xK K n v5=some r):Qq M b r [Iu 31] (X2 v5):=by
 unfold xK at h;refine aN 3 ?_;cases h;exact bE
theorem agr(i:ao K)(j:Uo M b r a d e)(h:tW K n a e v2 c=some r):Qq M b r (Iu 116::af7 M b r d) (QL a v2 c):=by
 unfold tW at h;refine ax 6 7 3 ?_;obtain⟨f,h⟩|⟨f,h⟩:=am h
 ·refine ah 10 f (cT 8 9 1 3 5 (aj 0 ?_));obtain⟨k,h⟩:=aD h;exact au (bB aX aX k (iH) aT) (ac (ag 3 (bq (j h))))
 ·refine ah 10 f (yx 4 5 3 7 (aj 1 ?_));obtain⟨v4,l,h⟩:=bind_some h;refine aU (Oj i l) (ac (bp 3 2 ?_));obtain⟨g,h⟩|⟨g,h⟩:=am h
  ·refine ah 24 g (bp 2 1 (aj 3 ?_));obtain⟨m,h⟩:=aD h;exact au (bB aX aX m (iH) aT) (ac (ag 0 (Pi i h)))
  ·exact ah 24 g (ag 2 (Pi i h))
theorem VK(d:ao K)(m:Nat):Uo M b r a m (rK K n a m):=by
 induction m with
 | zero=>intro v2 c h;cases h
 | succ m e=>intro v2 c h;have h:tW K n a (rK K n a m) v2 c=some r:=h;exact bn (agr d e h)
theorem CD(c:ao K)(h:oC K n a=some r):bc bb 116 [.sl (lm aX a)] (fun v _=>v=iI r):=by
 refine bH (cat Tryz.f116 (pn 1)) Tryz.func116 Tryz.ntmps116 fun M b=>(bm ⟨[(0,.sl (lm aX a))],[],[],[]⟩ ?_);unfold oC at h;exact cf 28 29 15 6 (aj 1 (au (bu aX a) (ac (ag 1 (ce (p:=pn 58) n (VK c n h))))))
end
noncomputable section
variable[GS](M:Nat→Prop)(c:aC)(r:ck)(d:d5)(v2 a:Int)(b:ck)(f:Int)(j:Bool)(g l:Nat)(i:Int→ck→Option ck)(o:Int→Option ck)
abbrev zP:Cx:=⟨bb,46,M,c⟩
abbrev yb:=bodyPost bb Tryz.f110 (bP M c (fun v s=>v=.ref 16∧look 16 s.r=some (bk r)))
abbrev C4(a:dt)(s:AS):=VE (zP M c) (yb M c r) a .normal s
abbrev kI(n:Nat):aq:=.c (cat Tryz.f110 (pn n))
abbrev IE:dt:=[.b 0,kI 15]
abbrev Ep:dt:=kl (zP M c) (yb M c r) IE (cat Tryz.f110 (pn 116)) g::IE
abbrev FF:dt:=.b 2::kI 3735 :: .b 1::Ep M c r g
abbrev Hv:dt:=kl (zP M c) (yb M c r) (FF M c r g) (cat Tryz.f110 (pn 14936)) l::(FF M c r g)
def aje:AS:=⟨[(0,.sl (lm aX d)),(1,iI v2),(5,.ref 16),(7,iI f)],[],[(16,⟨3,1,lm (ak .i64) (b++[a])⟩)],[16]⟩
def Zy:AS:=⟨[(0,.sl (lm aX d)),(1,iI v2),(5,.ref 16),(6,iI a),(7,iI f),(32,.bool j)],[],[(16,⟨3,1,lm (ak .i64) (b++[a])⟩)],[16]⟩
def QK:AS:=⟨[(0,.sl (lm aX d)),(1,iI v2),(5,.ref 16),(6,iI a),(7,iI f)],[],[(16,⟨3,1,lm (ak .i64) (b++[a])⟩)],[16]⟩
def Ql:AS:=⟨[(0,.sl (lm aX d)),(1,iI v2),(5,.ref 16),(6,iI a)],[],[(16,(bk b))],[16]⟩
abbrev tL:Prop:=∀{a:Int} {b:ck},i a b=some r→LP (zP M c) (yb M c r) IE (cat Tryz.f110 (pn 116)) g (Ql d v2 a b)
abbrev Fu:Prop:=∀{f:Int},o f=some r→LP (zP M c) (yb M c r) (FF M c r g) (cat Tryz.f110 (pn 14936)) l (QK d v2 a b f)
variable{M c r d v2 a b f j g l i o}{K:Kn}{n:Nat}
theorem Sp(j:ao K)(e:tL M c r d v2 g i)(h:Dd K n d v2 a b f i=some r):C4 M c r (kI 3735 :: .b 1::Ep M c r g) (aje d v2 a b f):=by
 unfold Dd at h;exact ag 2 (bq (e h))
theorem QH(s:ao K)(q:tL M c r d v2 g i)(w:Fu M c r d v2 a b g l o)(h:sO K n d v2 a b f i o j=some r):C4 M c r (kI 59745::kI 29873::Hv M c r g l) (Zy d v2 a b f j):=by
 unfold sO at h;obtain⟨m,h⟩|⟨m,h⟩:=am h
 ·refine ah 32 m (bX (ks':=kI 119492::kI 119493 :: .b 3::Hv M c r g l) 4 (aj 2 ?_));obtain⟨x,t,h⟩:=bind_some h;refine aU (H8 s t) (ac (cf 4 5 3 2 (aj 3 ?_)));obtain⟨u,h⟩:=aD h;refine au (i7 aX d a x 159 (.tmp 36) (some (.tmp 37)) (some (.tmp 38)) 39 (e:=165) (sz:=62) (by kernel_rfl) (by kernel_rfl) (by kernel_rfl) (by kernel_rfl) (by kernel_rfl) (by kernel_rfl) (iH) (fun k y=>by subst y;kernel_rfl) u) ?_;obtain⟨z,v,h⟩:=bind_some h;refine aU (CD s v) (ac ?_);obtain⟨p,h⟩|⟨p,h⟩:=am h
  ·exact ah 42 p (ag 6 (Sp s q h))
  ·exact ah 42 p (ag 4 (bq (w h)))
 ·exact ah 32 m (ag 5 (Sp s q h))
theorem ZD(p:ao K)(j:tL M c r d v2 g i)(k:Fu M c r d v2 a b g l o)(h:vA K n d v2 a b i o f=some r):C4 M c r (kI 14936::Hv M c r g l) (QK d v2 a b f):=by
 unfold vA at h;refine cf 4 5 3 2 (aj 2 (au (bu aX d) (aQ 5 2 ?_)));obtain⟨e,h⟩|⟨e,h⟩:=am h
 ·refine aF 24 e (aQ 8 3 ?_);obtain⟨m,h⟩:=aD h;exact au (bB aX aX m (iH) aT) (ac (ag 0 (QH p j k h)))
 ·exact aF 24 e (ac (ag 0 (QH p j k h)))
theorem ad0(j:ao K)(e:tL M c r d v2 g i)(m:Nat):Fu M c r d v2 a b g m (ve K n d v2 a b i m):=by
 induction m with
 | zero=>intro f h;cases h
 | succ m k=>intro f h;have h:vA K n d v2 a b i (ve K n d v2 a b i m) f=some r:=h;exact bn (ZD j e k h)
theorem afL(l:ao K)(k:tL M c r d v2 g i)(h:wC K n d v2 i a b=some r):C4 M c r (kI 116::Ep M c r g) (Ql d v2 a b):=by
 unfold wC at h;refine cf 4 5 3 2 (aj 2 (au (bu aX d) (ac ?_)));obtain⟨e,h⟩|⟨e,h⟩:=am h
 ·refine ah 12 e (bX (ks':=kI 932::kI 933 :: .b 1::Ep M c r g) 4 (aj 3 ?_));obtain⟨f,h⟩:=aD h;refine au (cw 16 16 3 1 (ak .i64) (rfl) aT f) (ac (ax 2 3 1 (aj 2 ?_)));obtain⟨m,j,h⟩:=bind_some h;exact aU (H8 l j) (ac (ag 2 (ce (p:=pn 7468) n (ad0 l k n h))))
 ·refine ah 12 e (aN 8 ?_);cases h;exact eB
theorem abT(e:ao K)(m:Nat):tL M c r d v2 m (sq K n d v2 m):=by
 induction m with
 | zero=>intro a b h;cases h
 | succ m f=>intro a b h;have h:wC K n d v2 (sq K n d v2 m) a b=some r:=h;exact bn (afL e f h)
theorem XM(a:ao K)(h:yS K n d v2=some r):bc bb 110 [.sl (lm aX d),iI v2] (fun v s=>v=.ref 16∧look 16 s.r=some (bk r)):=by
 refine bH (cat Tryz.f110 (pn 1)) Tryz.func110 Tryz.ntmps110 fun M c=>(bm ⟨[(0,.sl (lm aX d)),(1,iI v2)],[],[],[]⟩ ?_);unfold yS at h;exact gJ 58 0 15 8 (bJ [0,1,5,6] [] [] (eQ 16 5 3 1 (ag 0 (ce (p:=pn 58) n (abT a n h)))))
end
noncomputable section
variable[GS](M:Nat→Prop)(c:aC)(r:Int)(a:aP)(v2 b:Int)  
variable{M c r a v2 b}{K:Kn}{n:Nat}
theorem afV(g:ao K)(h:vp K n a v2 b=some r):bc bb 149 [.agg (aH a),iI v2,iI b] (fun v _=>v=iI r):=by
 refine bH (cat Tryz.f149 (pn 1)) Tryz.func149 Tryz.ntmps149 fun M c=>(bm ⟨[(0,.agg (aH a)),(1,iI v2),(2,iI b)],[],[],[]⟩ ?_);unfold vp at h;refine ax 13 7 5 ?_;obtain⟨d,h⟩|⟨d,h⟩:=am h
 ·refine ah 9 d (aN 5 ?_);cases h;exact bE
 ·refine ah 9 d (GM 21 0 3 8 ?_);obtain⟨e,h⟩|⟨e,h⟩:=am h
  ·refine ah 12 e (aN 6 ?_);cases h;exact bE
  ·refine ah 12 e (bp 7 3 ?_);obtain⟨f,h⟩|⟨f,h⟩:=am h
   ·refine ah 18 f (aN 6 ?_);cases h;exact bE
   ·refine ah 18 f (aN 6 ?_);cases h;exact bE
end
noncomputable section
variable[GS](M:Nat→Prop)(a:aC)(r:Bool)(b v2:ByteArray)(c:Bool)  
abbrev afC(n:Nat):aq:=.c (cat Tryz.f173 (pn n))
abbrev acC:Cx:=⟨bb,21,M,a⟩
abbrev Wl:=bodyPost bb Tryz.f173 (bP M a (fun v _=>v=.bool r))
abbrev ah3(b:dt)(s:AS):=VE (acC M a) (Wl M a r) b .normal s
def YA:AS:=⟨[(4,.bool c)],[],[],[]⟩
variable{M a r b v2 c}{K:Kn}{n:Nat}
theorem MX(b:ao K)(h:zL K n c=some r):ah3 M a r [afC 7] (YA c):=by
 unfold zL at h;refine aN 1 ?_;cases h;exact bE
theorem aaq(d:ao K)(h:Cr K n b v2=some r):bc bb 173 [.str b,.str v2] (fun v _=>v=.bool r):=by
 refine bH (cat Tryz.f173 (pn 1)) Tryz.func173 Tryz.ntmps173 fun M a=>(bm ⟨[(0,.str b),(1,.str v2)],[],[],[]⟩ ?_);unfold Cr at h;refine ax 6 7 3 (aj 6 ?_);obtain⟨c,h⟩|⟨c,h⟩:=am h
 ·refine aF 10 c (aQ 12 6 ?_);obtain⟨e,h⟩:=aD h;exact au (D6 e) (ac (ag 0 (MX d h)))
 ·exact aF 10 c (ac (ag 0 (MX d h)))
end
noncomputable section
variable[GS](M:Nat→Prop)(b:aC)(r:Bool)(a v2:ByteArray)  
variable{M b r a v2}{K:Kn}{n:Nat}
theorem aaP(d:ao K)(h:AQ K n a v2=some r):bc bb 151 [.str a,.str v2] (fun v _=>v=.bool r):=by
 refine bH (cat Tryz.f151 (pn 1)) Tryz.func151 Tryz.ntmps151 fun M b=>(bm ⟨[(0,.str a),(1,.str v2)],[],[],[]⟩ ?_);unfold AQ at h;refine ax 6 7 3 (aj 2 ?_);obtain⟨e,c,h⟩:=bind_some h;refine aU (aaq d c) (ac (aN 1 ?_));cases h;exact bE
end
noncomputable section
variable[GS](M:Nat→Prop)(j:aC)(r:ae)(f:d5)(v2:aP)(i e k q w x c d g:Int)(o:dn)(y:Bool)(a:ay)(z:dn)(b:Int)(l:dn)(A t B:Nat)(C:Int→Int→Int→Option ae)(u:Int→Int→dn→Option ae)(D:Int→dn→Option ae)
abbrev qm:Cx:=⟨bb,156,M,j⟩
abbrev rJ:=bodyPost bb Tryz.f111 (bP M j (fun v s=>v=.agg (List.set (aG ({ r with Kids:=[] }:ae)) 66 (.ref 114))∧look 114 s.r=some (bx r.Kids)))
abbrev o7(a:dt)(s:AS):=VE (qm M j) (rJ M j r) a .normal s
abbrev eW(n:Nat):aq:=.c (cat Tryz.f111 (pn n))
abbrev EI:dt:=[.b 2,eW 255]
abbrev uP:dt:=kl (qm M j) (rJ M j r) EI (cat Tryz.f111 (pn 2036)) t::EI
abbrev Hm:dt:=[.b 0,eW 15]
abbrev NG:dt:=kl (qm M j) (rJ M j r) Hm (cat Tryz.f111 (pn 116)) A::Hm
abbrev Ju:dt:=.b 4::eW 521423 :: .b 3::eW 16295::uP M j r t
abbrev Hd:dt:=kl (qm M j) (rJ M j r) (Ju M j r t) (cat Tryz.f111 (pn 4171380)) B::(Ju M j r t)
def acT:AS:=⟨[(0,.sl (lm aX f)),(2,iI i),(4,.ptr 4 0),(6,.ptr 6 0),(7,iI w),(8,iI x),(24,.sl (lm aX f)),(25,iI (f.length:Int)),(26,iI q)],[(4,aH v2),(6,List.set (aG bU) 66 (.nils))],[],[4,6]⟩
def Mc:AS:=⟨[(6,.ptr 6 0),(7,iI e),(11,.ptr 11 0),(12,iI d),(13,iI c),(15,.ptr 15 0),(56,.sl (lm aX f)),(57,iI (f.length:Int)),(58,iI g),(117,.sl (lm aO a.Box)),(118,iI (a.Box.length:Int)),(119,iI b)],[(6,List.set (aG bU) 66 (.nils)),(11,List.set (aG ({ bU with Kind:=2,W:=i,H:=(aa (e+k)),aC:=e,Style:=v2 }:ae)) 66 (.ref 114)),(15,aX a)],[(114,(bx l))],[6,11,15,114]⟩
def ae7:AS:=⟨[(6,.ptr 6 0),(7,iI e),(11,.ptr 11 0),(12,iI d),(13,iI c),(15,.ptr 15 0),(56,.sl (lm aX f)),(57,iI (f.length:Int)),(58,iI g)],[(6,List.set (aG bU) 66 (.nils)),(11,List.set (aG ({ bU with Kind:=2,W:=i,H:=(aa (e+k)),aC:=e,Style:=v2 }:ae)) 66 (.ref 114)),(15,aX a)],[(114,(bx z))],[6,11,15,114]⟩
def afD:AS:=⟨[(6,.ptr 6 0),(7,iI e),(11,.ptr 11 0),(12,iI d),(13,iI c),(15,.ptr 15 0),(56,.sl (lm aX f)),(57,iI (f.length:Int)),(58,iI g)],[(6,List.set (aG bU) 66 (.nils)),(11,List.set (aG ({ bU with Kind:=2,W:=i,H:=(aa (e+k)),aC:=e,Style:=v2 }:ae)) 66 (.ref 114)),(15,aX a)],[(114,(bx o))],[6,11,15,114]⟩
def adT:AS:=⟨[(6,.ptr 6 0),(7,iI e),(11,.ptr 11 0),(12,iI d),(13,iI c),(15,.ptr 15 0),(56,.sl (lm aX f)),(57,iI (f.length:Int)),(58,iI g),(76,.bool y)],[(6,List.set (aG bU) 66 (.nils)),(11,List.set (aG ({ bU with Kind:=2,W:=i,H:=(aa (e+k)),aC:=e,Style:=v2 }:ae)) 66 (.ref 114)),(15,aX (gD f g))],[(114,(bx o))],[6,11,15,114]⟩
def LR:AS:=⟨[(6,.ptr 6 0),(7,iI e),(11,.ptr 11 0),(12,iI d),(13,iI c),(56,.sl (lm aX f)),(57,iI (f.length:Int)),(58,iI g)],[(6,List.set (aG bU) 66 (.nils)),(11,List.set (aG ({ bU with Kind:=2,W:=i,H:=(aa (e+k)),aC:=e,Style:=v2 }:ae)) 66 (.ref 114))],[(114,(bx o))],[6,11,114]⟩
def OE:AS:=⟨[(0,.sl (lm aX f)),(2,iI i),(4,.ptr 4 0),(6,.ptr 6 0),(7,iI e),(8,iI k),(24,.sl (lm aX f)),(25,iI (f.length:Int)),(26,iI q)],[(4,aH v2),(6,List.set (aG bU) 66 (.nils))],[],[4,6]⟩
abbrev JQ:Prop:=∀{e:Int} {k:Int} {q:Int},C e k q=some r→LP (qm M j) (rJ M j r) Hm (cat Tryz.f111 (pn 116)) A (OE f v2 i e k q)
abbrev ra:Prop:=∀{d:Int} {g:Int} {o:dn},u d g o=some r→LP (qm M j) (rJ M j r) EI (cat Tryz.f111 (pn 2036)) t (LR f v2 i e k c d g o)
abbrev Mr:Prop:=∀{b:Int} {l:dn},D b l=some r→LP (qm M j) (rJ M j r) (Ju M j r t) (cat Tryz.f111 (pn 4171380)) B (Mc f v2 i e k c d g a b l)
variable{M j r f v2 i e k q w x c d g o y a z b l A t B C u D}{K:Kn}{n:Nat}
theorem SI(b:ao K)(a:JQ M j r f v2 i A C)(h:zl K n f v2 i q C w x=some r):o7 M j r (.b 1::eW 935::NG M j r A) (acT f v2 i q w x):=by
 unfold zl at h;exact ag 2 (bq (a h))
theorem ac9(Z:ao K)(X:ra M j r f v2 i e k c t u)(Y:Mr M j r f v2 i e k c d g a t B D)(h:ue K n f v2 i e k c d g a u D b l=some r):o7 M j r (eW 4171380::Hd M j r t B) (Mc f v2 i e k c d g a b l):=by
 unfold ue at h;refine ax 6 7 3 ?_;obtain⟨A,h⟩|⟨A,h⟩:=am h
 ·refine ah 120 A (cT 8 9 5 3 5 (aj 0 ?_));obtain⟨F,h⟩:=aD h;refine au (bB aO aG F (j4) (dN)) (ac ?_);obtain⟨o,G,h⟩:=bV h;obtain⟨p,I,h⟩:=bV h;obtain⟨q,J,h⟩:=bV h;obtain⟨s,L,h⟩:=bV h;obtain⟨v,N,h⟩:=bV h;obtain⟨w,O,h⟩:=bV h;obtain⟨x,P,h⟩:=bV h;obtain⟨m,Q,h⟩:=bV h;obtain⟨y,R,h⟩:=bV h;obtain⟨z,S,h⟩:=bV h;refine bz (ks':=eW 533936742::eW 533936743 :: .b 5::eW 33371047::Hd M j r t B) 3 ⟨[(6,.ptr 6 0),(7,iI e),(11,.ptr 11 0),(12,iI d),(13,iI c),(15,.ptr 15 0),(18,.ptr 18 0),(56,.sl (lm aX f)),(57,iI (f.length:Int)),(58,iI g),(117,.sl (lm aO a.Box)),(118,iI (a.Box.length:Int)),(119,iI b)],[(6,List.set (aG bU) 66 (.nils)),(11,List.set (aG ({ bU with Kind:=2,W:=i,H:=(aa (e+k)),aC:=e,Style:=v2 }:ae)) 66 (.ref 114)),(15,aX a),(18,aG (⟨o,p,q,(gD a.Box b).Y,(gD a.Box b).W,(gD a.Box b).H,s,v,w,x,m,y,z⟩:ae))],[(114,(bx l))],[6,11,15,18,114]⟩ ?_ (by subst S;subst R;subst Q;subst P;subst O;subst N;subst L;subst J;subst I;subst G;kernel_rfl)
  obtain⟨C,T,h⟩:=bind_some h;refine bN 1 (nu 128 [.ptr 18 3,iI ((gD a.Box b).Y),iI e,.ptr 18 5,iI ((gD a.Box b).H),iI (aa (e-((gD a.Box b).H))),.ptr 18 63,.agg (cX m),iI C,iI (aa ((aa (e-((gD a.Box b).H)))-C)),iI (aa (((gD a.Box b).Y)+(aa ((aa (e-((gD a.Box b).H)))-C)))),.ptr 18 3]) [] [] [cd bb 156 Tryz.f111 (pn 533936742) 12] (av (vz 8) (ai (co 0 1 136 (md Z T)) (av (vz 3) (ai (cb 0) bL)))) ?_;obtain⟨E,U,h⟩:=bV h;refine bz (ks':=eW 533936743 :: .b 5::eW 33371047::Hd M j r t B) 0 ⟨[(6,.ptr 6 0),(7,iI e),(11,.ptr 11 0),(12,iI d),(13,iI c),(15,.ptr 15 0),(18,.ptr 18 0),(56,.sl (lm aX f)),(57,iI (f.length:Int)),(58,iI g),(117,.sl (lm aO a.Box)),(118,iI (a.Box.length:Int)),(119,iI b)],[(6,List.set (aG bU) 66 (.nils)),(11,List.set (aG ({ bU with Kind:=2,W:=i,H:=(aa (e+k)),aC:=e,Style:=v2 }:ae)) 66 (.ref 114)),(15,aX a),(18,aG (⟨o,p,q,E,(gD a.Box b).W,(gD a.Box b).H,s,v,w,x,m,y,z⟩:ae))],[(114,(bx l))],[6,11,15,18,114]⟩ ?_ (by subst U;kernel_rfl)
  refine aj 3 (au (gu aO ([(⟨o,p,q,E,(gD a.Box b).W,(gD a.Box b).H,s,v,w,x,m,y,z⟩:ae)]:dn) (new:=[aG (⟨o,p,q,E,(gD a.Box b).W,(gD a.Box b).H,s,v,w,x,m,y,z⟩:ae)]) (by simp only[th,By,dN])) ?_);obtain⟨V,h⟩:=aD h;exact au (cw 144 114 44 67 aO (rfl) (j4) V) (ac (ag 2 (bq (Y h))))
 ·exact ah 120 A (ag 8 (bq (X h)))
theorem Z8(p:ao K)(o:ra M j r f v2 i e k c t u)(m:Nat):Mr M j r f v2 i e k c d g a t m (sH K n f v2 i e k c d g a u m):=by
 induction m with
 | zero=>intro b l h;cases h
 | succ m q=>intro b l h;have h:ue K n f v2 i e k c d g a u (sH K n f v2 i e k c d g a u m) b l=some r:=h;exact bn (ac9 p o q h)
theorem P6(l:ao K)(b:ra M j r f v2 i e k c t u)(h:sc K n f v2 i e k c d g a u z=some r):o7 M j r (eW 260711 :: .b 3::eW 16295::uP M j r t) (ae7 f v2 i e k c d g a z):=by
 unfold sc at h;exact cf 4 5 3 2 (aj 2 (au (bu aO a.Box) (ac (ag 1 (ce (p:=pn 2085690) n (Z8 l b n h))))))
theorem M2(x:ao K)(w:ra M j r f v2 i e k c t u)(h:n0 K n f v2 i e k c d g o u a=some r):o7 M j r (eW 130355 :: .b 3::eW 16295::uP M j r t) (afD f v2 i e k c d g o a):=by
 unfold n0 at h;obtain⟨z,y,h⟩:=bV h;refine bz (ks':=eW 521421::eW 260711 :: .b 3::eW 16295::uP M j r t) 3 ⟨[(6,.ptr 6 0),(7,iI e),(11,.ptr 11 0),(12,iI d),(13,iI c),(15,.ptr 15 0),(56,.sl (lm aX f)),(57,iI (f.length:Int)),(58,iI g),(88,.bool z)],[(6,List.set (aG bU) 66 (.nils)),(11,List.set (aG ({ bU with Kind:=2,W:=i,H:=(aa (e+k)),aC:=e,Style:=v2 }:ae)) 66 (.ref 114)),(15,aX a)],[(114,(bx o))],[6,11,15,114]⟩ ?_ (by subst y;kernel_rfl);obtain⟨p,h⟩|⟨p,h⟩:=am h
 ·refine ah 88 p (bp 5 3 (bJ [6,7,11,12,13,15,16,56,57,58] [6,11,15] [114] ?_));obtain⟨b,q,h⟩:=bind_some h;obtain⟨l,s,h⟩:=bind_some h;obtain⟨v,h⟩:=aD h;exact bN 2 (nu 92 [.ptr 11 66,.ref 114,.ptr 15 0,iI a.Node,.ptr 15 2,.agg (aH a.Style),.ptr 15 1,.str a.Text,iI d,iI e,iI a.Style.FontSize,iI b,iI (aa (e-b)),.ptr 15 55,iI a.Width,.ptr 15 56,iI a.Space,iI (aa (a.Width+a.Space)),iI a.Style.FontSize,iI l,.agg (List.set (aG (⟨3,a.Node,d,(aa (e-b)),(aa (a.Width+a.Space)),l,0,a.Text,a.Style,dF,dF,false,[]⟩:ae)) 66 (.nils)),.sl (lm aO [(⟨3,a.Node,d,(aa (e-b)),(aa (a.Width+a.Space)),l,0,a.Text,a.Style,dF,dF,false,[]⟩:ae)])]++nu 115 [.ptr 11 66]) [] [] [fS 114 114 ⟨44,67,lm aO (o++[(⟨3,a.Node,d,(aa (e-b)),(aa (a.Width+a.Space)),l,0,a.Text,a.Style,dF,dF,false,[]⟩:ae)])⟩,cd bb 156 Tryz.f111 (pn 2085685) 24] (av [.v 0 2,.v 0 1,.v 0 2,.v 0 2,.v 0 2,.v 0 2,.v 0 2,.v 0 2,.v 0 2,.v 0 2,.v 0 2] (ai (co 0 2 103 (Tl x q)) (av [.v 0 2,.v 0 2,.v 0 2,.v 0 2,.v 0 2,.v 0 2,.v 0 2] (ai (co 0 1 111 (Ul x s)) (av [.v 0 2] (bh (gu aO ([(⟨3,a.Node,d,(aa (e-b)),(aa (a.Width+a.Space)),l,0,a.Text,a.Style,dF,dF,false,[]⟩:ae)]:dn) (new:=[aG (⟨3,a.Node,d,(aa (e-b)),(aa (a.Width+a.Space)),l,0,a.Text,a.Style,dF,dF,false,[]⟩:ae)]) (by simp only[th,By,dN])) (ai (dd (m:=0) (cw 114 114 44 67 aO (rfl) (j4) v)) (av [.v 1 1] (ai (cb 1) bL))))))))) (ag 0 (P6 x w h))
 ·exact ah 88 p (ag 2 (P6 x w h))
theorem EM(m:ao K)(b:ra M j r f v2 i e k c t u)(h:oQ K n f v2 i e k c d g o u y=some r):o7 M j r (eW 260709::eW 130355 :: .b 3::eW 16295::uP M j r t) (adT f v2 i e k c d g o y):=by
 unfold oQ at h;obtain⟨a,h⟩|⟨a,h⟩:=am h
 ·refine ah 76 a (ax 4 5 2 (aj 6 ?_));obtain⟨l,h⟩:=aD h;exact au (D6 l) (ac (ag 1 (M2 m b h)))
 ·exact ah 76 a (ag 2 (M2 m b h))
theorem aep(p:ao K)(m:ra M j r f v2 i e k c t u)(h:vJ K n f v2 i e k c u d g o=some r):o7 M j r (eW 2036::uP M j r t) (LR f v2 i e k c d g o):=by
 unfold vJ at h;refine ax 6 7 3 ?_;obtain⟨a,h⟩|⟨a,h⟩:=am h
 ·refine ah 59 a (cT 8 9 3 3 5 (aj 1 ?_));obtain⟨q,h⟩:=aD h;refine au (bB aX aX q (iH) aT) (ac (cf 4 5 3 2 (aj 4 ?_)));obtain⟨b,h⟩|⟨b,h⟩:=am h
  ·refine aF 66 b (aQ 6 2 ?_);obtain⟨v,s,h⟩:=bind_some h;refine aU (aaP p s) (aQ 9 2 ?_);obtain⟨l,h⟩|⟨l,h⟩:=am h
   ·exact aF 71 l (ac (ag 0 (EM p m h)))
   ·exact aF 71 l (ac (ag 0 (EM p m h)))
  ·exact aF 66 b (ac (ag 0 (EM p m h)))
 ·refine ah 59 a (aN 8 ?_);cases h;exact eB
theorem aeh(a:ao K)(m:Nat):ra M j r f v2 i e k c m (nc K n f v2 i e k c m):=by
 induction m with
 | zero=>intro d g o h;cases h
 | succ m b=>intro d g o h;have h:vJ K n f v2 i e k c (nc K n f v2 i e k c m) d g o=some r:=h;exact bn (aep a b h)
theorem VX(a:ao K)(b:JQ M j r f v2 i A C)(h:vV K n f v2 i C e k q=some r):o7 M j r (eW 116::NG M j r A) (OE f v2 i e k q):=by
 unfold vV at h;refine ax 6 7 3 ?_;obtain⟨l,h⟩|⟨l,h⟩:=am h
 ·refine ah 27 l (cT 8 9 1 3 5 (aj 0 ?_));obtain⟨t,h⟩:=aD h;refine au (bB aX aX t (iH) aT) (ac (bp 3 2 ?_));obtain⟨m,h⟩|⟨m,h⟩:=am h
  ·exact ah 32 m (bp 2 1 (bJ [0,2,4,6,7,8,10,24,25,26] [4,6,10] [] (bN 2 (nu 33 [iI e,.ptr 10 57,iI ((gD f q).Above),iI (max e ((gD f q).Above)),iI k,.ptr 10 58,iI ((gD f q).Below),iI (max k ((gD f q).Below))]) [] [] [cd bb 156 Tryz.f111 (pn 14950) 8,cd bb 156 Tryz.f111 (pn 14950) 9] (av [.v 0 1,.v 0 1,.v 0 1,.v 0 1,.v 0 2,.v 0 2,.v 0 2,.v 0 2] (ai (cb 0) (ai (cb 1) bL))) (ag 0 (SI a b h)))))
  ·exact ah 32 m (ag 2 (SI a b h))
 ·refine ah 27 l (gB 6 7 8 (bJ [0,2,4,6,7,11] [4,6,11] [] ?_));obtain⟨o,u,h⟩:=bind_some h;obtain⟨s,d,h⟩:=bind_some h;refine bN 1 (nu 49 [.agg (aH v2),iI i,.sl (lm aX f),iI o,iI s]) [] [] [cd bb 156 Tryz.f111 (pn 62) 5] (av (vz 3) (ai (co 0 1 52 (CD a u)) (ai (co 0 1 53 (afV a d)) (ai (cb 0) bL)))) (ax 2 3 1 (aj 1 ?_));obtain⟨c,g,h⟩:=bind_some h;exact aU (Oj a g) (ac (cf 4 5 3 2 (aj 1 (au (bu aX f) (ac (gC 2 2 1 (bJ [6,7,11,12,13,56,57,58] [6,11] [] (yB 114 11 66 44 67 (ag 0 (ce (p:=pn 1018) n (aeh a n h)))))))))))
theorem ZS(a:ao K)(m:Nat):JQ M j r f v2 i m (uY K n f v2 i m):=by
 induction m with
 | zero=>intro e k q h;cases h
 | succ m b=>intro e k q h;have h:vV K n f v2 i (uY K n f v2 i m) e k q=some r:=h;exact bn (VX a b h)
theorem Wt(a:ao K)(h:Eo K n f v2 i=some r):bc bb 111 [.sl (lm aX f),.agg (aH v2),iI i] (fun v s=>v=.agg (List.set (aG ({ r with Kids:=[] }:ae)) 66 (.ref 114))∧look 114 s.r=some (bx r.Kids)):=by
 refine bH (cat Tryz.f111 (pn 1)) Tryz.func111 Tryz.ntmps111 fun M j=>(bm ⟨[(0,.sl (lm aX f)),(1,.agg (aH v2)),(2,iI i)],[],[],[]⟩ ?_);unfold Eo at h;refine ax 6 7 3 (aj 1 ?_);obtain⟨v4,b,h⟩:=bind_some h;exact aU (Hg a b) (ac (cf 4 5 3 2 (aj 1 (au (bu aX f) (ac (ag 1 (ce (p:=pn 58) n (ZS a n h))))))))
end
noncomputable section
variable[GS](M:Nat→Prop)(g:aC)(r:dn×Int)(o:d3)(v2:aP)(f:Int)(v4:bw)(v5:d5)(v6:ck)(b c a:Int)(d:dn)(j:Nat)(l:Int→Int→Int→dn→Option (dn×Int))
abbrev HO:Cx:=⟨bb,61,M,g⟩
abbrev FK:=bodyPost bb Tryz.f53 (bP M g (fun v s=>v=.tup [.ref 57,iI r.2]∧look 57 s.r=some (bx r.1)))
abbrev YV(a:dt)(s:AS):=VE (HO M g) (FK M g r) a .normal s
abbrev SE(n:Nat):aq:=.c (cat Tryz.f53 (pn n))
abbrev Fm:dt:=[.b 0,SE 63]
abbrev aiP:dt:=kl (HO M g) (FK M g r) Fm (cat Tryz.f53 (pn 500)) j::Fm
def Nn:AS:=⟨[(2,iI (min (max f 0) 1048576)),(5,.ptr 5 0),(8,.ref 57),(9,iI b),(10,.sl (lm aX v5)),(11,.ref 1023),(30,iI c),(31,iI a)],[(5,aH v2)],[(57,(bx d)),(1023,⟨3,1,lm (ak .i64) (v6++[(v5.length:Int)])⟩)],[5,57,1023]⟩
abbrev R7:Prop:=∀{b:Int} {c:Int} {a:Int} {d:dn},l b c a d=some r→LP (HO M g) (FK M g r) Fm (cat Tryz.f53 (pn 500)) j (Nn v2 f v5 v6 b c a d)
variable{M g r o v2 f v4 v5 v6 b c a d j l}{K:Kn}{n:Nat}
theorem ZY(w:ao K)(v:R7 M g r v2 f v5 v6 j l)(h:tA K n v2 f v5 v6 l b c a d=some r):YV M g r (SE 500::aiP M g r j) (Nn v2 f v5 v6 b c a d):=by
 unfold tA at h;refine ax 6 7 3 ?_;obtain⟨o,h⟩|⟨o,h⟩:=am h
 ·refine ah 32 o (cT 18 19 1 3 7 (bJ [2,5,8,9,10,11,12,30,31] [5] [57,1023] ?_));obtain⟨p,h⟩:=aD h;obtain⟨q,h⟩:=aD h;obtain⟨s,h⟩:=aD h;obtain⟨m,t,h⟩:=bind_some h;refine bN 1 (nu 34 [.sl (lm aX v5),.ref 1023,iI a,.eptr 1023 1 (a.toNat) 0,iI (gD (v6++[(v5.length:Int)]) a),.ref 1023,iI a,iI (aa (a+1)),.eptr 1023 1 (((aa (a+1))).toNat) 0,iI (gD (v6++[(v5.length:Int)]) ((aa (a+1)))),.sl (lm aX (List.drop ((gD (v6++[(v5.length:Int)]) a)).toNat (List.take ((gD (v6++[(v5.length:Int)]) ((aa (a+1))))).toNat v5))),.agg (aH v2),iI (min (max f 0) 1048576),.agg (List.set (aG ({ m with Kids:=[] }:ae)) 66 (.ref 47))]++nu 13 [.ptr 13 0]) [(13,List.set (aG bU) 66 (.nils))] [(47,(bx m.Kids))] [cd bb 61 Tryz.f53 (pn 32050) 15] (av (vz 3) (bh (cD 1023 1 (ak .i64) (L:=(v6++[(v5.length:Int)])) p) (bh (bI 3 0 (ak .i64) (ak .i64) (bD p).2 aT) (av (vz 3) (bh (cD 1023 1 (ak .i64) (L:=(v6++[(v5.length:Int)])) q) (bh (bI 3 0 (ak .i64) (ak .i64) (bD q).2 aT) (bh (i7 aX v5 (gD (v6++[(v5.length:Int)]) a) (gD (v6++[(v5.length:Int)]) ((aa (a+1)))) 159 (.tmp 34) (some (.tmp 38)) (some (.tmp 43)) 44 (e:=165) (sz:=62) (by kernel_rfl) (by kernel_rfl) (by kernel_rfl) (by kernel_rfl) (by kernel_rfl) (by kernel_rfl) (iH) (fun k x=>by subst x;kernel_rfl) s) (av (vz 2) (ai (Jp 0 1 47 (Wt w t) (D5 (i:=66) (by kernel_rfl))) (ai (py 0 1 44 13 (List.set (aG bU) 66 (.nils))) (ai (cb 0) bL))))))))))) (bp 7 4 (aj 2 (m7 47 (au (gu aO ([({ m with Y:=b }:ae)]:dn) (new:=[aG ({ m with Y:=b }:ae)]) (by simp only[th,By,dN])) ?_))))
  obtain⟨u,h⟩:=aD h;exact au (cw 57 57 44 67 aO (rfl) (j4) u) (ac (ag 2 (bq (v h))))
 ·refine ah 32 o (aN 8 ?_);cases h;exact qt
theorem ael(e:ao K)(m:Nat):R7 M g r v2 f v5 v6 m (tz K n v2 f v5 v6 m):=by
 induction m with
 | zero=>intro b c a d h;cases h
 | succ m i=>intro b c a d h;have h:tA K n v2 f v5 v6 (tz K n v2 f v5 v6 m) b c a d=some r:=h;exact bn (ZY e i h)
theorem afS(a:ao K)(h:yZ K n o v2 f v4=some r):bc bb 53 [.sl (lm aK o),.agg (aH v2),iI f,.agg (bO v4)] (fun v s=>v=.tup [.ref 57,iI r.2]∧look 57 s.r=some (bx r.1)):=by
 refine bH (cat Tryz.f53 (pn 1)) Tryz.func53 Tryz.ntmps53 fun M g=>(bm ⟨[(0,.sl (lm aK o)),(1,.agg (aH v2)),(2,iI f),(3,.agg (bO v4))],[],[],[]⟩ ?_);unfold yZ at h;refine ax 14 15 5 (aj 3 ?_);obtain⟨v5,b,h⟩:=bind_some h;refine eT 1020 (agR a b) (eO 1009) (ac (ax 2 3 1 (aj 2 (m7 1020 ?_))));obtain⟨v6,c,h⟩:=bind_some h;refine eT 1023 (XM a c) (eO 16) (aQ 4 1 (au (bu aX v5) (aQ 6 1 ?_)));obtain⟨d,h⟩:=aD h;exact au (cw 27 1023 3 1 (ak .i64) (rfl) aT d) (ac (cf 4 5 3 2 (aj 1 (au (bu (ak .i64) (v6++[(v5.length:Int)])) (ac (gC 2 0 1 (bJ [2,5,8,9,10,11,30,31] [5] [1023] (eQ 57 8 44 67 (ag 0 (ce (p:=pn 250) n (ael a n h)))))))))))
end
noncomputable section
variable[GS](M:Nat→Prop)(c:aC)(r:dn×Int)(a:d3)(v2:aP)(b:Int)(v4:bw)  
variable{M c r a v2 b v4}{K:Kn}{n:Nat}
theorem VR(e:ao K)(h:zk K n a v2 b v4=some r):bc bb 52 [.sl (lm aK a),.agg (aH v2),iI b,.cptr (bO v4)] (fun v s=>v=.tup [.ref 1013,iI r.2]∧look 1013 s.r=some (bx r.1)):=by
 refine bH (cat Tryz.f52 (pn 1)) Tryz.func52 Tryz.ntmps52 fun M c=>(bm ⟨[(0,.sl (lm aK a)),(1,.agg (aH v2)),(2,iI b),(3,.cptr (bO v4))],[],[],[]⟩ ?_);unfold zk at h;refine ax 6 7 3 (aj 4 ?_);obtain⟨v5,d,h⟩:=bind_some h;refine eT 1013 (afS e d) (C3 (i:=0) rfl) (ac (aN 1 ?_));cases h;exact qt
end
noncomputable section
variable[GS](M:Nat→Prop)(d:aC)(r:ay×ck)(a:ab)(v2:bw)(b:ck)  
variable{M d r a v2 b}{K:Kn}{n:Nat}
theorem adX(g:ao K)(h:Bv K n a v2 b=some r):jE bb 113 [.agg (aB a),.cptr (bO v2),.ptr 1 0] [(1,[.ref 9])] 9 (bk b) [9,1,1000001] (fun v s=>v=.agg (aX r.1)∧cB s.o [(1,[.ref 9])]∧look 9 s.r=some (bk r.2)):=by
 refine mZ (c:=cat Tryz.f113 (pn 1)) Tryz.func113 (by kernel_rfl) _ Tryz.ntmps113 (lp (by kernel_rfl)) fun M d=>(bm ⟨[(0,.agg (aB a)),(1,.cptr (bO v2)),(2,.ptr 1 0)],[(1,[.ref 9])],[(9,(bk b))],[9,1,1000001]⟩ ?_);unfold Bv at h;refine ax 6 7 3 (aj 3 ?_);obtain⟨v4,e,h⟩:=bind_some h;refine lT (g.gv e) (ac (ax 2 3 1 (aj 3 ?_)));obtain⟨f,h⟩:=aD h;refine au (cw 17 9 3 1 (ak .i64) (rfl) aT f) (ac (aN 3 (mJ 4 ?_)));cases h;exact fm
end
noncomputable section
variable[GS](M:Nat→Prop)(d:aC)(r:ay×Int×ck)(a:ab)(v2:Int)(b:ck)  
variable{M d r a v2 b}{K:Kn}{n:Nat}
theorem Wc(f:ao K)(h:Ci K n a v2 b=some r):jE bb 114 [.agg (aB a),.ptr 1 0,.ptr 2 0] [(1,[iI v2]),(2,[.ref 9])] 9 (bk b) [9,1,2,1000001,1000002] (fun v s=>v=.agg (aX r.1)∧cB s.o [(1,[iI r.2.1]),(2,[.ref 9])]∧look 9 s.r=some (bk r.2.2)):=by
 refine mZ (c:=cat Tryz.f114 (pn 1)) Tryz.func114 (by kernel_rfl) _ Tryz.ntmps114 (lp (by kernel_rfl)) fun M d=>(bm ⟨[(0,.agg (aB a)),(1,.ptr 1 0),(2,.ptr 2 0)],[(1,[iI v2]),(2,[.ref 9])],[(9,(bk b))],[9,1,2,1000001,1000002]⟩ ?_);unfold Ci at h;refine ax 14 15 5 (aj 3 ?_);obtain⟨e,h⟩:=aD h;refine au (cp 9 1 (ak .i64) e) (au (bI 3 0 (ak .i64) (ak .i64) (bD e).2 aT) (ac (aN 1 (mJ 4 ?_))));cases h;exact fm
end
end Go.Proofs.YtocgkfoifehcbaaGreat

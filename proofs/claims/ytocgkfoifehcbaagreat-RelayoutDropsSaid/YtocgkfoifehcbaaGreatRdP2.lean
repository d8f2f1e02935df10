/- The runs of the functions that RelayoutDrops reaches do what their plain forms say, part 2. Made by a program. -/
import Derived.Test.YtocgkfoifehcbaaGreatRdP1
namespace Go.Proofs.YtocgkfoifehcbaaGreat
open Go.RowKit
set_option maxRecDepth 20000
set_option linter.all false
noncomputable section
def amX:=@Tryz.ntmps112
def am0:=@Tryz.func112
variable[GS](M:Nat→Prop)(f:aB)(r:Int×eb)(d:d6)(v2:Int)(A:eb)(B:Nat)(a e:Int)(i:eb)(j o:Nat)(l:eb)(t:Int)(u:eb)(w:Int)(x:eb)(k y:Nat)(q:Int→Int→eb→Option (Int×eb))(z:Nat→eb→Option (Int×eb))
abbrev w9:Cx:=⟨bb,69,M,f⟩
abbrev wW:=bodyPost bb Tryz.f175 (bI M f (fun v s=>v=bf∧cq s.o [(1,[iI r.1]),(2,[.fno 175 [.ptr 1 0,.ptr 2 0,.ptr 3 0]]),(3,[.ref 9])]∧look 9 s.r=some (b7 r.2)))
abbrev D7(a:dt)(s:AS):=VE (w9 M f) (wW M f r) a .normal s
abbrev iW(n:Nat):aq:=.c (cat Tryz.f175 (pn n))
abbrev Gv:dt:=[.b 0]
abbrev oh:dt:=kl (w9 M f) (wW M f r) Gv (cat Tryz.f175 (pn 12)) k::Gv
abbrev EP:dt:=.b 3 :: .b 2 :: .b 1::iW 103::oh M f r k
abbrev Qp:dt:=kl (w9 M f) (wW M f r) (EP M f r k) (cat Tryz.f175 (pn 26867700)) y::(EP M f r k)
def aeQ:AS:=⟨[(0,.sl (lm aL d)),(1,.ptr 1 0),(2,.ptr 2 0),(3,.ptr 3 0),(10,iI (d.length:Int)),(11,iI a)],[(1,[iI w]),(2,[.fno 175 [.ptr 1 0,.ptr 2 0,.ptr 3 0]]),(3,[.ref 9])],[(9,(b7 x))],[1,2,3,9,1000001,1,1000002,2,1000003,3]⟩
def aeB:AS:=⟨[(0,.sl (lm aL d)),(1,.ptr 1 0),(2,.ptr 2 0),(3,.ptr 3 0),(10,iI (d.length:Int)),(11,iI a)],[(1,[iI t]),(2,[.fno 175 [.ptr 1 0,.ptr 2 0,.ptr 3 0]]),(3,[.ref 9])],[(9,(b7 u))],[1,2,3,9,1000001,1,1000002,2,1000003,3]⟩
def UZ:AS:=⟨[(0,.sl (lm aL d)),(1,.ptr 1 0),(2,.ptr 2 0),(3,.ptr 3 0),(6,.cptr (aA (gD d a))),(10,iI (d.length:Int)),(11,iI a),(58,.sit 320058 j ((gD d a).Text) o)],[(1,[iI (aa (e+1))]),(2,[.fno 175 [.ptr 1 0,.ptr 2 0,.ptr 3 0]]),(3,[.ref 9])],[(9,(b7 l))],[1,2,3,9,320058,1000001,1,1000002,2,1000003,3]⟩
def SS:AS:=⟨[(0,.sl (lm aL d)),(1,.ptr 1 0),(2,.ptr 2 0),(3,.ptr 3 0),(10,iI (d.length:Int)),(11,iI a)],[(1,[iI e]),(2,[.fno 175 [.ptr 1 0,.ptr 2 0,.ptr 3 0]]),(3,[.ref 9])],[(9,(b7 i))],[1,2,3,9,1000001,1,1000002,2,1000003,3]⟩
abbrev vJ:Prop:=∀{a:Int} {e:Int} {i:eb},q a e i=some r→LP (w9 M f) (wW M f r) Gv (cat Tryz.f175 (pn 12)) k (SS d a e i)
abbrev OV:Prop:=∀{o:Nat} {l:eb},z o l=some r→LP (w9 M f) (wW M f r) (EP M f r k) (cat Tryz.f175 (pn 26867700)) y (UZ d a e j o l)
variable{M f r d v2 A B a e i j o l t u w x k y q z}{K:Kn}{n:Nat}
theorem P9(c:am K)(b:vJ M f r d k q)(h:nr K n d a q w x=some r):D7 M f r (iW 103::oh M f r k) (aeQ d a w x):=by
 unfold nr at h;exact ag 1 (bn (b h))
theorem zm(c:am K)(b:vJ M f r d k q)(h:kN K n d a q t u=some r):D7 M f r (.b 2 :: .b 1::iW 103::oh M f r k) (aeB d a t u):=by
 unfold kN at h;exact ag 2 (P9 c b h)
theorem Z4(w:am K)(c:f.w.heap.size≤j)(s:vJ M f r d k q)(t:OV M f r d a e j k y z)(h:sY K n d a e q z o l=some r):D7 M f r (iW 26867700::Qp M f r k y) (UZ d a e j o l):=by
 unfold sY at h;refine ax 2 3 1 (ai 0 ?_);obtain⟨b,h⟩|⟨b,h⟩:=ao h
 ·refine Im 58 (id:=320058) (g:=j) b c (ac ?_);obtain⟨u,i,h⟩:=bU h;obtain⟨v,m,h⟩:=bU h;refine bA (ks':=iW 429883213 :: .b 4::Qp M f r k y) 6 ⟨[(0,.sl (lm aL d)),(1,.ptr 1 0),(2,.ptr 2 0),(3,.ptr 3 0),(6,.cptr (aA (gD d a))),(8,.int .i32 u),(10,iI (d.length:Int)),(11,iI a),(58,.sit 320058 j ((gD d a).Text) v)],[(1,[iI (aa (e+1))]),(2,[.fno 175 [.ptr 1 0,.ptr 2 0,.ptr 3 0]]),(3,[.ref 9])],[(9,(b7 l))],[1,2,3,9,320058,1000001,1,1000002,2,1000003,3]⟩ ?_ (by subst m;subst i;kernel_rfl);refine ai 5 ?_;obtain⟨x,p,h⟩:=bind_some h;exact jw 9 9 [] (aaY w p) (ac (ag 1 (bn (t h))))
 ·exact Kb 58 (id:=320058) (g:=j) b (ac (ag 6 (zm w s h)))
theorem WU(g:am K)(b:f.w.heap.size≤j)(c:vJ M f r d k q)(m:Nat):OV M f r d a e j k m (vy K n d a e q m):=by
 induction m with
 | zero=>intro o l h;cases h
 | succ m i=>intro o l h;have h:sY K n d a e q (vy K n d a e q m) o l=some r:=h;exact bj (Z4 g b c i h)
theorem aeX(g:am K)(c:vJ M f r d k q)(h:td K n d q a e i=some r):D7 M f r (iW 12::oh M f r k) (SS d a e i):=by
 unfold td at h;refine ax 6 7 3 ?_;obtain⟨l,h⟩|⟨l,h⟩:=ao h
 ·refine ah 12 l (cL 18 19 1 3 7 (ai 2 ?_));obtain⟨w,h⟩:=aF h;refine au (bD aL aA w (fV) (dW)) (ac (cb 4 5 3 2 (ai 3 ?_)));obtain⟨J,x,h⟩:=bind_some h;refine aP (IQ g x) (ac ?_);obtain⟨m,h⟩|⟨m,h⟩:=ao h
  ·exact ah 21 m (ag 4 (P9 g c h))
  ·refine ah 21 m ?_;obtain⟨F,y,h⟩:=bU h;refine bA (ks':=iW 26237 :: .b 2 :: .b 1::iW 103::oh M f r k) 9 ⟨[(0,.sl (lm aL d)),(1,.ptr 1 0),(2,.ptr 2 0),(3,.ptr 3 0),(6,.cptr (aA (gD d a))),(10,iI (d.length:Int)),(11,iI a),(27,iI ((gD d a).Kind)),(28,.bool F)],[(1,[iI (aa (e+1))]),(2,[.fno 175 [.ptr 1 0,.ptr 2 0,.ptr 3 0]]),(3,[.ref 9])],[(9,(b7 i))],[1,2,3,9,1000001,1,1000002,2,1000003,3]⟩ ?_ (by subst y;kernel_rfl);obtain⟨o,h⟩|⟨o,h⟩:=ao h
   ·refine ah 28 o (br 2 1 (bP [0,1,2,3,6,10,11] [1,2,3] [9] (aaE 5 0 [(30,.fno 175 [.ptr 1 0,.ptr 2 0,.ptr 3 0]),(31,.cptr (aA (gD d a))),(32,.cptr (aA (gD d a))),(33,.cptr (List.drop 58 (aA (gD d a)))),(34,.sl (lm aL ((gD d a).Kids)))] [] [] [] (ay (vz 5) (Jy)) ?_)));obtain⟨L,z,h⟩:=bind_some h;exact jw 9 9 [(1,1),(2,2),(3,3)] (g.D9 z) (ac (ag 0 (zm g c h)))
   ·refine ah 28 o ?_;obtain⟨G,A,h⟩:=bU h;refine bA (ks':=iW 104951 :: .b 2 :: .b 1::iW 103::oh M f r k) 3 ⟨[(0,.sl (lm aL d)),(1,.ptr 1 0),(2,.ptr 2 0),(3,.ptr 3 0),(6,.cptr (aA (gD d a))),(10,iI (d.length:Int)),(11,iI a),(27,iI ((gD d a).Kind)),(36,.bool G)],[(1,[iI (aa (e+1))]),(2,[.fno 175 [.ptr 1 0,.ptr 2 0,.ptr 3 0]]),(3,[.ref 9])],[(9,(b7 i))],[1,2,3,9,1000001,1,1000002,2,1000003,3]⟩ ?_ (by subst A;kernel_rfl);obtain⟨s,h⟩|⟨s,h⟩:=ao h
    ·refine ah 36 s (br 2 1 (ai 5 ?_));obtain⟨B,h⟩:=aF h;exact au (cG 43 9 210 5 av (rfl) (cQ) B) (ac (ag 0 (zm g c h)))
    ·refine ah 36 s ?_;obtain⟨H,C,h⟩:=bU h;refine bA (ks':=iW 419807 :: .b 2 :: .b 1::iW 103::oh M f r k) 3 ⟨[(0,.sl (lm aL d)),(1,.ptr 1 0),(2,.ptr 2 0),(3,.ptr 3 0),(6,.cptr (aA (gD d a))),(10,iI (d.length:Int)),(11,iI a),(27,iI ((gD d a).Kind)),(44,.bool H)],[(1,[iI (aa (e+1))]),(2,[.fno 175 [.ptr 1 0,.ptr 2 0,.ptr 3 0]]),(3,[.ref 9])],[(9,(b7 i))],[1,2,3,9,1000001,1,1000002,2,1000003,3]⟩ ?_ (by subst C;kernel_rfl);obtain⟨t,h⟩|⟨t,h⟩:=ao h
     ·refine ah 44 t (br 2 1 (ai 5 ?_));obtain⟨D,h⟩:=aF h;exact au (cG 51 9 210 5 av (rfl) (cQ) D) (ac (ag 0 (zm g c h)))
     ·refine ah 44 t ?_;obtain⟨I,E,h⟩:=bU h;refine bA (ks':=iW 1679231 :: .b 2 :: .b 1::iW 103::oh M f r k) 3 ⟨[(0,.sl (lm aL d)),(1,.ptr 1 0),(2,.ptr 2 0),(3,.ptr 3 0),(6,.cptr (aA (gD d a))),(10,iI (d.length:Int)),(11,iI a),(52,.bool I)],[(1,[iI (aa (e+1))]),(2,[.fno 175 [.ptr 1 0,.ptr 2 0,.ptr 3 0]]),(3,[.ref 9])],[(9,(b7 i))],[1,2,3,9,1000001,1,1000002,2,1000003,3]⟩ ?_ (by subst E;kernel_rfl);obtain⟨u,h⟩|⟨u,h⟩:=ao h
      ·exact ah 52 u (ax 4 5 2 (ai 4 (FK 320058 (b:=((gD d a).Text)) fun j v=>(ac (ag 1 (ca (p:=pn 13433850) n (WU g (j:=j) v c n h)))))))
      ·exact ah 52 u (ag 2 (zm g c h))
 ·refine ah 12 l (bX (ks':=[]) 5 (vF ?_));cases h;exact rE
theorem adi(b:am K)(m:Nat):vJ M f r d m (po K n d m):=by
 induction m with
 | zero=>intro a e i h;cases h
 | succ m c=>intro a e i h;have h:td K n d (po K n d m) a e i=some r:=h;exact bj (aeX b c h)
theorem Rm(a:am K)(h:m6 K n d v2 A=some r):iX bb 175 [.sl (lm aL d),.ptr 1 0,.ptr 2 0,.ptr 3 0] [(1,[iI v2]),(2,[.fno 175 [.ptr 1 0,.ptr 2 0,.ptr 3 0]]),(3,[.ref 9])] 9 (b7 A) [9,1,2,3,1000001,1000002,1000003] (fun v s=>v=bf∧cq s.o [(1,[iI r.1]),(2,[.fno 175 [.ptr 1 0,.ptr 2 0,.ptr 3 0]]),(3,[.ref 9])]∧look 9 s.r=some (b7 r.2)):=by
 refine lA (c:=cat Tryz.f175 (pn 1)) Tryz.func175 (by kernel_rfl) _ Tryz.ntmps175 (lc (by kernel_rfl)) fun M f=>(bg ⟨[(0,.sl (lm aL d)),(1,.ptr 1 0),(2,.ptr 2 0),(3,.ptr 3 0)],[(1,[iI v2]),(2,[.fno 175 [.ptr 1 0,.ptr 2 0,.ptr 3 0]]),(3,[.ref 9])],[(9,(b7 A))],[9,1,2,3,1000001,1000002,1000003]⟩ ?_);unfold m6 at h;exact ax 2 3 1 (ai 1 (au (bv aL d) (ac (ag 1 (ca (p:=pn 6) n (adi a n h))))))
end
noncomputable section
variable[GS](M:Nat→Prop)(b:aB)(r:eb)(a:d6)  
variable{M b r a}{K:Kn}{n:Nat}
theorem KM(d:am K)(h:rI K n a=some r):aY bb 154 [.sl (lm aL a)] (fun v s=>v=.ref 400003∧look 400003 s.r=some (b7 r)):=by
 refine bG (cat Tryz.f154 (pn 1)) Tryz.func154 Tryz.ntmps154 fun M b=>(bg ⟨[(0,.sl (lm aL a))],[],[],[]⟩ ?_);unfold rI at h;refine ax 62 63 9 (ai 0 (pM 175 #[(.tmp 4),(.tmp 5),(.tmp 3)] [.ptr 4 0,.ptr 5 0,.ptr 3 0] (ac (ax 2 3 1 (ai 2 (D5 400003 3 0 210 5 ?_))))));obtain⟨v2,c,h⟩:=bind_some h;refine jw 400003 9 [(4,1),(5,2),(3,3)] (Rm d c) (ac (aJ 3 ?_));cases h;exact fG
end
noncomputable section
variable[GS](M:Nat→Prop)(a:aB)(r:Bool)(b:aI)(v2:Bool)  
abbrev afG(n:Nat):aq:=.c (cat Tryz.f177 (pn n))
abbrev adD:Cx:=⟨bb,24,M,a⟩
abbrev ajt:=bodyPost bb Tryz.f177 (bI M a (fun v _=>v=.bool r))
abbrev akg(b:dt)(s:AS):=VE (adD M a) (ajt M a r) b .normal s
def WL:AS:=⟨[(2,.bool v2)],[],[],[]⟩
variable{M a r b v2}{K:Kn}{n:Nat}
theorem Gq(b:am K)(h:vN K n v2=some r):akg M a r [afG 7] (WL v2):=by
 unfold vN at h;refine aJ 1 ?_;cases h;exact bw
theorem xa(e:am K)(h:mR K n b=some r):aY bb 177 [.agg (av b)] (fun v _=>v=.bool r):=by
 refine bG (cat Tryz.f177 (pn 1)) Tryz.func177 Tryz.ntmps177 fun M a=>(bg ⟨[(0,.agg (av b))],[],[],[]⟩ ?_);unfold mR at h;refine ax 6 7 3 (ai 4 ?_);obtain⟨c,h⟩|⟨c,h⟩:=ao h
 ·refine aD 6 c (aQ 13 9 ?_);obtain⟨d,h⟩|⟨d,h⟩:=ao h
  ·exact aD 15 d (ac (ag 0 (Gq e h)))
  ·exact aD 15 d (ac (ag 0 (Gq e h)))
 ·exact aD 6 c (ac (ag 0 (Gq e h)))
end
noncomputable section
variable[GS](M:Nat→Prop)(b:aB)(r a:Int)(v2 c v4 v5 v6:Bool)  
abbrev gY(n:Nat):aq:=.c (cat Tryz.f188 (pn n))
abbrev aa0:Cx:=⟨bb,73,M,b⟩
abbrev aiZ:=bodyPost bb Tryz.f188 (bI M b (fun v _=>v=iI r))
abbrev yB(a:dt)(s:AS):=VE (aa0 M b) (aiZ M b r) a .normal s
def WE:AS:=⟨[(72,.bool v6)],[],[],[]⟩
def aii:AS:=⟨[(0,.int .i32 a),(60,.bool v5)],[],[],[]⟩
def ahy:AS:=⟨[(0,.int .i32 a),(29,.int .i32 a),(44,.bool v4)],[],[],[]⟩
def ajG:AS:=⟨[(0,.int .i32 a),(29,.int .i32 a),(30,.bool c)],[],[],[]⟩
def ae1:AS:=⟨[(0,.int .i32 a),(3,.bool v2)],[],[],[]⟩
variable{M b r a v2 c v4 v5 v6}{K:Kn}{n:Nat}
theorem Rc(c:am K)(h:AH K n v6=some r):yB M b r [gY 61,gY 31] (WE v6):=by
 unfold AH at h;obtain⟨a,h⟩|⟨a,h⟩:=ao h
 ·refine ah 72 a (aJ 5 ?_);cases h;exact bw
 ·refine ah 72 a (aJ 5 ?_);cases h;exact bw
theorem sV(e:am K)(h:my K n a v5=some r):yB M b r [gY 1887,.b 1,gY 15] (aii a v5):=by
 unfold my at h;obtain⟨c,h⟩|⟨c,h⟩:=ao h
 ·refine ah 60 c (aJ 6 ?_);cases h;exact bw
 ·refine ah 60 c (bX (ks':=[gY 60,gY 61,gY 31]) 5 (ai 3 ?_));obtain⟨d,h⟩|⟨d,h⟩:=ao h
  ·exact aD 69 d (ac (ag 0 (Rc e h)))
  ·exact aD 69 d (ac (ag 0 (Rc e h)))
theorem iC(j:am K)(h:gc K n a v4=some r):yB M b r [gY 471,.b 1,gY 15] (ahy a v4):=by
 unfold gc at h;obtain⟨c,h⟩|⟨c,h⟩:=ao h
 ·refine ah 44 c (aJ 6 ?_);cases h;exact bw
 ·refine ah 44 c (ax 13 7 4 ?_);obtain⟨d,h⟩|⟨d,h⟩:=ao h
  ·exact ah 60 d (ag 2 (sV j h))
  ·refine ah 60 d (br 7 3 ?_);obtain⟨e,h⟩|⟨e,h⟩:=ao h
   ·exact ah 60 e (ag 2 (sV j h))
   ·refine ah 60 e (br 7 3 ?_);obtain⟨f,h⟩|⟨f,h⟩:=ao h
    ·exact ah 60 f (ag 2 (sV j h))
    ·refine ah 60 f (br 7 3 ?_);obtain⟨g,h⟩|⟨g,h⟩:=ao h
     ·exact ah 60 g (ag 2 (sV j h))
     ·refine ah 60 g (br 7 3 ?_);obtain⟨i,h⟩|⟨i,h⟩:=ao h
      ·exact ah 60 i (ag 2 (sV j h))
      ·exact ah 60 i (ag 2 (sV j h))
theorem jH(d:am K)(h:im K n a c=some r):yB M b r [gY 117,.b 1,gY 15] (ajG a c):=by
 unfold im at h;obtain⟨e,h⟩|⟨e,h⟩:=ao h
 ·refine ah 30 e (aJ 6 ?_);cases h;exact bw
 ·refine ah 30 e (ax 13 7 4 ?_);obtain⟨f,h⟩|⟨f,h⟩:=ao h
  ·exact ah 44 f (ag 2 (iC d h))
  ·refine ah 44 f (br 7 3 ?_);obtain⟨g,h⟩|⟨g,h⟩:=ao h
   ·exact ah 44 g (ag 2 (iC d h))
   ·refine ah 44 g (br 7 3 ?_);obtain⟨i,h⟩|⟨i,h⟩:=ao h
    ·exact ah 44 i (ag 2 (iC d h))
    ·refine ah 44 i (br 7 3 ?_);obtain⟨j,h⟩|⟨j,h⟩:=ao h
     ·exact ah 44 j (ag 2 (iC d h))
     ·refine ah 44 j (br 7 3 ?_);obtain⟨k,h⟩|⟨k,h⟩:=ao h
      ·exact ah 44 k (ag 2 (iC d h))
      ·refine ah 44 k (br 7 3 ?_);obtain⟨l,h⟩|⟨l,h⟩:=ao h
       ·exact ah 44 l (ag 2 (iC d h))
       ·refine ah 44 l (br 7 3 ?_);obtain⟨m,h⟩|⟨m,h⟩:=ao h
        ·exact ah 44 m (ag 2 (iC d h))
        ·refine ah 44 m (br 7 3 ?_);obtain⟨o,h⟩|⟨o,h⟩:=ao h
         ·exact ah 44 o (ag 2 (iC d h))
         ·refine ah 44 o (br 7 3 ?_);obtain⟨p,h⟩|⟨p,h⟩:=ao h
          ·exact ah 44 p (ag 2 (iC d h))
          ·refine ah 44 p (br 7 3 ?_);obtain⟨q,h⟩|⟨q,h⟩:=ao h
           ·exact ah 44 q (ag 2 (iC d h))
           ·refine ah 44 q (br 7 3 ?_);obtain⟨s,h⟩|⟨s,h⟩:=ao h
            ·exact ah 44 s (ag 2 (iC d h))
            ·refine ah 44 s (br 7 3 ?_);obtain⟨t,h⟩|⟨t,h⟩:=ao h
             ·exact ah 44 t (ag 2 (iC d h))
             ·refine ah 44 t (br 7 3 ?_);obtain⟨u,h⟩|⟨u,h⟩:=ao h
              ·exact ah 44 u (ag 2 (iC d h))
              ·refine ah 44 u (br 7 3 ?_);obtain⟨v,h⟩|⟨v,h⟩:=ao h
               ·exact ah 44 v (ag 2 (iC d h))
               ·exact ah 44 v (ag 2 (iC d h))
theorem pq(c:am K)(h:mq K n a v2=some r):yB M b r [gY 25,.b 0,gY 7] (ae1 a v2):=by
 unfold mq at h;obtain⟨q,h⟩|⟨q,h⟩:=ao h
 ·refine ah 3 q (aJ 6 ?_);cases h;exact bw
 ·refine ah 3 q (br 7 3 ?_);obtain⟨s,h⟩|⟨s,h⟩:=ao h
  ·refine ah 26 s (aJ 6 ?_);cases h;exact bw
  ·refine ah 26 s (bX (ks':=[gY 233,gY 117,.b 1,gY 15]) 10 ?_);obtain⟨t,h⟩|⟨t,h⟩:=ao h
   ·exact ah 30 t (ag 2 (jH c h))
   ·refine ah 30 t (br 7 3 ?_);obtain⟨d,h⟩|⟨d,h⟩:=ao h
    ·exact ah 30 d (ag 2 (jH c h))
    ·refine ah 30 d (br 7 3 ?_);obtain⟨e,h⟩|⟨e,h⟩:=ao h
     ·exact ah 30 e (ag 2 (jH c h))
     ·refine ah 30 e (br 7 3 ?_);obtain⟨f,h⟩|⟨f,h⟩:=ao h
      ·exact ah 30 f (ag 2 (jH c h))
      ·refine ah 30 f (br 7 3 ?_);obtain⟨g,h⟩|⟨g,h⟩:=ao h
       ·exact ah 30 g (ag 2 (jH c h))
       ·refine ah 30 g (br 7 3 ?_);obtain⟨i,h⟩|⟨i,h⟩:=ao h
        ·exact ah 30 i (ag 2 (jH c h))
        ·refine ah 30 i (br 7 3 ?_);obtain⟨j,h⟩|⟨j,h⟩:=ao h
         ·exact ah 30 j (ag 2 (jH c h))
         ·refine ah 30 j (br 7 3 ?_);obtain⟨k,h⟩|⟨k,h⟩:=ao h
          ·exact ah 30 k (ag 2 (jH c h))
          ·refine ah 30 k (br 7 3 ?_);obtain⟨l,h⟩|⟨l,h⟩:=ao h
           ·exact ah 30 l (ag 2 (jH c h))
           ·refine ah 30 l (br 7 3 ?_);obtain⟨m,h⟩|⟨m,h⟩:=ao h
            ·exact ah 30 m (ag 2 (jH c h))
            ·refine ah 30 m (br 7 3 ?_);obtain⟨o,h⟩|⟨o,h⟩:=ao h
             ·exact ah 30 o (ag 2 (jH c h))
             ·refine ah 30 o (br 7 3 ?_);obtain⟨p,h⟩|⟨p,h⟩:=ao h
              ·exact ah 30 p (ag 2 (jH c h))
              ·exact ah 30 p (ag 2 (jH c h))
theorem R0(c:am K)(h:lX K n a=some r):aY bb 188 [.int .i32 a] (fun v _=>v=iI r):=by
 refine bG (cat Tryz.f188 (pn 1)) Tryz.func188 Tryz.ntmps188 fun M b=>(bg ⟨[(0,.int .i32 a)],[],[],[]⟩ ?_);unfold lX at h;refine dA 24 25 0 7 5 (ai 3 ?_);obtain⟨d,h⟩|⟨d,h⟩:=ao h
 ·exact aD 6 d (ac (ag 0 (pq c h)))
 ·refine aD 6 d (aQ 7 4 ?_);obtain⟨e,h⟩|⟨e,h⟩:=ao h
  ·exact aD 10 e (ac (ag 0 (pq c h)))
  ·refine aD 10 e (aQ 10 3 ?_);obtain⟨f,h⟩|⟨f,h⟩:=ao h
   ·refine aD 13 f (aQ 15 5 ?_);obtain⟨g,h⟩|⟨g,h⟩:=ao h
    ·exact aD 18 g (ac (ag 0 (pq c h)))
    ·refine aD 18 g (aQ 18 3 ?_);obtain⟨i,h⟩|⟨i,h⟩:=ao h
     ·exact aD 21 i (ac (ag 0 (pq c h)))
     ·exact aD 21 i (ac (ag 0 (pq c h)))
   ·refine aD 13 f (aQ 18 8 ?_);obtain⟨j,h⟩|⟨j,h⟩:=ao h
    ·exact aD 21 j (ac (ag 0 (pq c h)))
    ·exact aD 21 j (ac (ag 0 (pq c h)))
end
noncomputable section
variable[GS](M:Nat→Prop)(a:aB)(r:Bool)(b:Int)(v2:Bool)  
abbrev Sw(n:Nat):aq:=.c (cat Tryz.f193 (pn n))
abbrev ail:Cx:=⟨bb,9,M,a⟩
abbrev adu:=bodyPost bb Tryz.f193 (bI M a (fun v _=>v=.bool r))
abbrev ae2(b:dt)(s:AS):=VE (ail M a) (adu M a r) b .normal s
def ajz:AS:=⟨[(4,.bool v2)],[],[],[]⟩
variable{M a r b v2}{K:Kn}{n:Nat}
theorem Bq(c:am K)(h:qy K n v2=some r):ae2 M a r [Sw 53,.b 0,Sw 7] (ajz v2):=by
 unfold qy at h;obtain⟨b,h⟩|⟨b,h⟩:=ao h
 ·refine ah 4 b (aJ 6 ?_);cases h;exact bw
 ·refine ah 4 b (aJ 6 ?_);cases h;exact bw
theorem LW(c:am K)(h:tu K n b=some r):aY bb 193 [.int .i32 b] (fun v _=>v=.bool r):=by
 refine bG (cat Tryz.f193 (pn 1)) Tryz.func193 Tryz.ntmps193 fun M a=>(bg ⟨[(0,.int .i32 b)],[],[],[]⟩ ?_);unfold tu at h;refine dA 105 53 0 7 9 ?_;obtain⟨d,h⟩|⟨d,h⟩:=ao h
 ·exact ah 4 d (ag 2 (Bq c h))
 ·refine ah 4 d (br 7 3 ?_);obtain⟨e,h⟩|⟨e,h⟩:=ao h
  ·exact ah 4 e (ag 2 (Bq c h))
  ·refine ah 4 e (br 7 3 ?_);obtain⟨f,h⟩|⟨f,h⟩:=ao h
   ·exact ah 4 f (ag 2 (Bq c h))
   ·exact ah 4 f (ag 2 (Bq c h))
end
noncomputable section
variable[GS](M:Nat→Prop)(b:aB)(r:Bool)(a v2:Int)(v5 c d:Bool)  
abbrev qm(n:Nat):aq:=.c (cat Tryz.f186 (pn n))
abbrev Xm:Cx:=⟨bb,29,M,b⟩
abbrev W7:=bodyPost bb Tryz.f186 (bI M b (fun v _=>v=.bool r))
abbrev Gl(a:dt)(s:AS):=VE (Xm M b) (W7 M b r) a .normal s
def agH:AS:=⟨[(4,.bool d)],[],[],[]⟩
def agY:AS:=⟨[(0,.int .i32 a),(1,.int .i32 v2),(16,.bool c)],[],[],[]⟩
def Y9:AS:=⟨[(0,.int .i32 a),(1,.int .i32 v2),(5,.bool v5)],[],[],[]⟩
variable{M b r a v2 v5 c d}{K:Kn}{n:Nat}
theorem UT(a:am K)(h:zz K n d=some r):Gl M b r [qm 15] (agH d):=by
 unfold zz at h;refine aJ 1 ?_;cases h;exact bw
theorem Sl(f:am K)(h:wO K n a v2 c=some r):Gl M b r [qm 415,.b 0,qm 7] (agY a v2 c):=by
 unfold wO at h;obtain⟨d,h⟩|⟨d,h⟩:=ao h
 ·refine ah 16 d (aJ 6 ?_);cases h;exact bw
 ·refine ah 16 d (bX (ks':=[qm 14,qm 15]) 4 (ai 3 ?_));obtain⟨e,h⟩|⟨e,h⟩:=ao h
  ·exact aD 25 e (ac (ag 0 (UT f h)))
  ·exact aD 25 e (ac (ag 0 (UT f h)))
theorem Un(f:am K)(h:qu K n a v2 v5=some r):Gl M b r [qm 25,.b 0,qm 7] (Y9 a v2 v5):=by
 unfold qu at h;obtain⟨c,h⟩|⟨c,h⟩:=ao h
 ·refine ah 5 c (aJ 6 ?_);cases h;exact bw
 ·refine ah 5 c (ax 6 7 2 (ai 1 ?_));obtain⟨v6,g,h⟩:=bind_some h;refine aP (LW f g) (ac ?_);obtain⟨d,h⟩|⟨d,h⟩:=ao h
  ·refine ah 13 d (aJ 6 ?_);cases h;exact bw
  ·refine ah 13 d (ax 6 7 2 (ai 3 ?_));obtain⟨e,h⟩|⟨e,h⟩:=ao h
   ·exact aD 19 e (ac (ag 0 (Sl f h)))
   ·exact aD 19 e (ac (ag 0 (Sl f h)))
theorem aaH(c:am K)(h:ym K n a v2=some r):aY bb 186 [.int .i32 a,.int .i32 v2] (fun v _=>v=.bool r):=by
 refine bG (cat Tryz.f186 (pn 1)) Tryz.func186 Tryz.ntmps186 fun M b=>(bg ⟨[(0,.int .i32 a),(1,.int .i32 v2)],[],[],[]⟩ ?_);unfold ym at h;refine dA 24 25 0 7 5 (ai 1 ?_);obtain⟨g,e,h⟩:=bind_some h;refine aP (LW c e) (aQ 3 1 ?_);obtain⟨d,h⟩|⟨d,h⟩:=ao h
 ·exact aD 8 d (ac (ag 0 (Un c h)))
 ·refine aD 8 d (aQ 4 1 ?_);obtain⟨v4,f,h⟩:=bind_some h;exact aP (R0 c f) (ac (ag 0 (Un c h)))
end
noncomputable section
variable[GS](M:Nat→Prop)(e:aB)(r:ck)(d:ByteArray)(v2:Nat)(i:Int)(a:Nat)(c:ck)(j:Bool)(k:ck)(f:Nat)(l:Int→Nat→ck→Option ck)
abbrev J0:Cx:=⟨bb,26,M,e⟩
abbrev K1:=bodyPost bb Tryz.f178 (bI M e (fun v s=>v=.ref 23∧look 23 s.r=some (bk r)))
abbrev KC(a:dt)(s:AS):=VE (J0 M e) (K1 M e r) a .normal s
abbrev oa(n:Nat):aq:=.c (cat Tryz.f178 (pn n))
abbrev I5:dt:=[.b 0,oa 31]
abbrev CD:dt:=kl (J0 M e) (K1 M e r) I5 (cat Tryz.f178 (pn 244)) f::I5
def aiG:AS:=⟨[(3,.ref 23),(6,.int .i32 ((Utf8.decode d a).1:Int)),(8,.sit 320008 v2 d (a+(Utf8.decode d a).2))],[],[(23,(bk k))],[23,320008]⟩
def Wc:AS:=⟨[(3,.ref 23),(5,iI ((a:Nat):Int)),(6,.int .i32 ((Utf8.decode d a).1:Int)),(8,.sit 320008 v2 d (a+(Utf8.decode d a).2)),(19,.bool j)],[],[(23,(bk c))],[23,320008]⟩
def Sc:AS:=⟨[(3,.ref 23),(4,.int .i32 i),(8,.sit 320008 v2 d a)],[],[(23,(bk c))],[23,320008]⟩
abbrev Da:Prop:=∀{i:Int} {a:Nat} {c:ck},l i a c=some r→LP (J0 M e) (K1 M e r) I5 (cat Tryz.f178 (pn 244)) f (Sc d v2 i a c)
variable{M e r d v2 i a c j k f l}{K:Kn}{n:Nat}
theorem Oh(g:am K)(c:e.w.heap.size≤v2)(b:Da M e r d v2 f l)(h:pZ K n d a l k=some r):KC M e r (oa 7835 :: .b 1::CD M e r f) (aiG d v2 a k):=by
 unfold pZ at h;exact ag 2 (bn (b h))
theorem QP(m:am K)(i:e.w.heap.size≤v2)(g:Da M e r d v2 f l)(h:ro K n d a c l j=some r):KC M e r (oa 15669::oa 7835 :: .b 1::CD M e r f) (Wc d v2 a c j):=by
 unfold ro at h;obtain⟨b,h⟩|⟨b,h⟩:=ao h
 ·refine ah 19 b (br 2 1 (ai 3 ?_));obtain⟨k,h⟩:=aF h;exact au (cG 23 23 3 1 (ak .i64) (rfl) aT k) (ac (ag 0 (Oh m (v2:=v2) i g h)))
 ·exact ah 19 b (ag 2 (Oh m (v2:=v2) i g h))
theorem agV(p:am K)(k:e.w.heap.size≤v2)(m:Da M e r d v2 f l)(h:lC K n d l i a c=some r):KC M e r (oa 244::CD M e r f) (Sc d v2 i a c):=by
 unfold lC at h;refine ax 2 3 1 (ai 0 ?_);obtain⟨b,h⟩|⟨b,h⟩:=ao h
 ·refine Im 8 (id:=320008) (g:=v2) b k (ac (bX (ks':=oa 15668::oa 15669::oa 7835 :: .b 1::CD M e r f) 8 (ai 3 ?_)));obtain⟨j,h⟩|⟨j,h⟩:=ao h
  ·refine aD 15 j (aQ 5 2 ?_);obtain⟨q,o,h⟩:=bind_some h;exact aP (aaH p o) (ac (ag 0 (QP p (v2:=v2) k m h)))
  ·exact aD 15 j (ac (ag 0 (QP p (v2:=v2) k m h)))
 ·refine Kb 8 (id:=320008) (g:=v2) b (ac (aJ 9 ?_));cases h;exact fG
theorem aie(f:am K)(b:e.w.heap.size≤v2)(m:Nat):Da M e r d v2 m (pj K n d m):=by
 induction m with
 | zero=>intro i a c h;cases h
 | succ m g=>intro i a c h;have h:lC K n d (pj K n d m) i a c=some r:=h;exact bj (agV f b g h)
theorem abT(c:am K)(h:Aj K n d=some r):aY bb 178 [.str d] (fun v s=>v=.ref 23∧look 23 s.r=some (bk r)):=by
 refine bG (cat Tryz.f178 (pn 1)) Tryz.func178 Tryz.ntmps178 fun M e=>(bg ⟨[(0,.str d)],[],[],[]⟩ ?_);unfold Aj at h;exact cb 60 61 31 8 (ai 1 (FK 320008 (b:=d) fun v2 a=>(ac (gT 2 0 1 (bP [3,4,8] [] [] (eW 23 3 3 1 (ag 0 (ca (p:=pn 122) n (aie c (v2:=v2) a n h)))))))))
end
noncomputable section
variable[GS](M:Nat→Prop)(c:aB)(r:Bool)(a v2:aI)(d e b:Bool)  
abbrev vf(n:Nat):aq:=.c (cat Tryz.f155 (pn n))
abbrev aja:Cx:=⟨bb,61,M,c⟩
abbrev abQ:=bodyPost bb Tryz.f155 (bI M c (fun v _=>v=.bool r))
abbrev JA(a:dt)(s:AS):=VE (aja M c) (abQ M c r) a .normal s
def afS:AS:=⟨[(4,.bool e)],[],[],[]⟩
def V0:AS:=⟨[(2,.ptr 2 0),(3,.ptr 3 0),(51,.bool b)],[(2,av a),(3,av v2)],[],[2,3]⟩
def ad5:AS:=⟨[(2,.ptr 2 0),(3,.ptr 3 0),(12,.bool d)],[(2,av a),(3,av v2)],[],[2,3]⟩
variable{M c r a v2 d e b}{K:Kn}{n:Nat}
theorem AP(a:am K)(h:pd K n e=some r):JA M c r [vf 53,vf 7] (afS e):=by
 unfold pd at h;refine aJ 2 ?_;cases h;exact bw
theorem xt(g:am K)(h:l9 K n a v2 b=some r):JA M c r [vf 29,vf 15] (V0 a v2 b):=by
 unfold l9 at h;obtain⟨d,h⟩|⟨d,h⟩:=ao h
 ·refine ah 51 d (aJ 5 ?_);cases h;exact bw
 ·refine ah 51 d (fN 2 3 3 (ai 6 ?_));obtain⟨f,e,h⟩:=bind_some h;refine fg 1058 (abT g e) (ff 23) (au (bv (ak .i64) f) (ac (aJ 1 ?_)));cases h;exact bw
theorem S4(b:am K)(h:oe K n a v2 d=some r):JA M c r [vf 13,vf 7] (ad5 a v2 d):=by
 unfold oe at h;obtain⟨l,h⟩|⟨l,h⟩:=ao h
 ·refine ah 12 l (ax 4 5 2 (ai 4 ?_));obtain⟨m,h⟩|⟨m,h⟩:=ao h
  ·refine aD 16 m (aQ 12 8 ?_);obtain⟨o,h⟩|⟨o,h⟩:=ao h
   ·exact aD 24 o (ac (ag 0 (AP b h)))
   ·refine aD 24 o (aQ 13 1 ?_);obtain⟨v4,s,h⟩:=bind_some h;exact aP (xa b s) (ac (ag 0 (AP b h)))
  ·refine aD 16 m (aQ 5 1 ?_);obtain⟨v5,t,h⟩:=bind_some h;refine aP (xa b t) (aQ 8 2 ?_);obtain⟨p,h⟩|⟨p,h⟩:=ao h
   ·refine aD 20 p (aQ 12 4 ?_);obtain⟨q,h⟩|⟨q,h⟩:=ao h
    ·exact aD 24 q (ac (ag 0 (AP b h)))
    ·refine aD 24 q (aQ 13 1 ?_);obtain⟨v6,u,h⟩:=bind_some h;exact aP (xa b u) (ac (ag 0 (AP b h)))
   ·exact aD 20 p (ac (ag 0 (AP b h)))
 ·refine ah 12 l (nR 4 5 3 4 (ai 4 ?_));obtain⟨e,h⟩|⟨e,h⟩:=ao h
  ·exact aD 32 e (ac (ag 0 (xt b h)))
  ·refine aD 32 e (aQ 9 5 ?_);obtain⟨f,h⟩|⟨f,h⟩:=ao h
   ·exact aD 37 f (ac (ag 0 (xt b h)))
   ·refine aD 37 f (aQ 10 1 ?_);obtain⟨v,j,h⟩:=bind_some h;refine aP (xa b j) (aQ 14 3 ?_);obtain⟨g,h⟩|⟨g,h⟩:=ao h
    ·exact aD 42 g (ac (ag 0 (xt b h)))
    ·refine aD 42 g (aQ 18 4 ?_);obtain⟨i,h⟩|⟨i,h⟩:=ao h
     ·refine aD 46 i (aQ 19 1 ?_);obtain⟨w,k,h⟩:=bind_some h;exact aP (xa b k) (ac (ag 0 (xt b h)))
     ·exact aD 46 i (ac (ag 0 (xt b h)))
theorem uA(d:am K)(h:lL K n a v2=some r):aY bb 155 [.agg (av a),.agg (av v2)] (fun v _=>v=.bool r):=by
 refine bG (cat Tryz.f155 (pn 1)) Tryz.func155 Tryz.ntmps155 fun M c=>(bg ⟨[(0,.agg (av a)),(1,.agg (av v2))],[],[],[]⟩ ?_);unfold lL at h;refine cb 12 13 7 4 (ai 4 ?_);obtain⟨b,h⟩|⟨b,h⟩:=ao h
 ·exact aD 8 b (ac (ag 0 (S4 d h)))
 ·exact aD 8 b (ac (ag 0 (S4 d h)))
end
noncomputable section
variable[GS](M:Nat→Prop)(b:aB)(r a:Int)  
variable{M b r a}{K:Kn}{n:Nat}
theorem BQ(c:am K)(h:ra K n a=some r):aY bb 174 [iI a] (fun v _=>v=iI r):=by
 refine bG (cat Tryz.f174 (pn 1)) Tryz.func174 Tryz.ntmps174 fun M b=>(bg ⟨[(0,iI a)],[],[],[]⟩ ?_);unfold ra at h;refine aJ 5 ?_;cases h;exact bw
end
noncomputable section
variable[GS](M:Nat→Prop)(b:aB)(r a:Int)  
variable{M b r a}{K:Kn}{n:Nat}
theorem RP(d:am K)(h:zU K n a=some r):aY bb 152 [iI a] (fun v _=>v=iI r):=by
 refine bG (cat Tryz.f152 (pn 1)) Tryz.func152 Tryz.ntmps152 fun M b=>(bg ⟨[(0,iI a)],[],[],[]⟩ ?_);unfold zU at h;refine ax 6 7 3 (ai 1 ?_);obtain⟨v2,c,h⟩:=bind_some h;refine aP (BQ d c) (ac (aJ 1 ?_));cases h;exact bw
end
noncomputable section
variable[GS](M:Nat→Prop)(b:aB)(r a:Int)  
variable{M b r a}{K:Kn}{n:Nat}
theorem Ut(c:am K)(h:yx K n a=some r):aY bb 153 [iI a] (fun v _=>v=iI r):=by
 refine bG (cat Tryz.f153 (pn 1)) Tryz.func153 Tryz.ntmps153 fun M b=>(bg ⟨[(0,iI a)],[],[],[]⟩ ?_);unfold yx at h;refine ax 6 7 3 (ai 1 ?_);obtain⟨v2,d,h⟩:=bind_some h;refine aP (BQ c d) (aQ 3 1 ?_);obtain⟨f,e,h⟩:=bind_some h;refine aP (BQ c e) (ac (aJ 1 ?_));cases h;exact bw
end
noncomputable section
variable[GS](M:Nat→Prop)(b:aB)(r:Int×Int)(a:aN)  
variable{M b r a}{K:Kn}{n:Nat}
theorem Je(d:am K)(h:oT K n a=some r):aY bb 148 [.agg (aH a)] (fun v _=>v=.tup [iI r.1,iI r.2]):=by
 refine bG (cat Tryz.f148 (pn 1)) Tryz.func148 Tryz.ntmps148 fun M b=>(bg ⟨[(0,.agg (aH a))],[],[],[]⟩ ?_);unfold oT at h;refine ax 14 15 5 (bP [1,4] [1] [] ?_);obtain⟨v2,e,h⟩:=bind_some h;obtain⟨c,f,h⟩:=bind_some h;refine bQ 1 (nu 8 [.ptr 1 37,iI a.FontSize,iI v2,iI (max a.LineHeight 0),.ptr 1 37,iI a.FontSize,iI c,iI (aa ((max a.LineHeight 0)-c)),iI ((aa ((max a.LineHeight 0)-c)) / 2),iI (aa (v2+((aa ((max a.LineHeight 0)-c)) / 2)))]) [] [] [cf bb 22 Tryz.f148 (pn 14) 10] (ay (vz 2) (aj (cv 0 1 10 (RP d e)) (ay (vz 3) (aj (cv 0 1 14 (Ut d f)) (ay (vz 3) (aj (cg 0) bR)))))) (aJ 3 ?_);cases h;exact jm
end
noncomputable section
variable[GS](M:Nat→Prop)(b:aB)(r:ck)(a:Int)(v2:ck)(d v4:Bool)  
abbrev TJ(n:Nat):aq:=.c (cat Tryz.f194 (pn n))
abbrev V8:Cx:=⟨bb,78,M,b⟩
abbrev XO:=bodyPost bb Tryz.f194 (bI M b (fun v s=>v=.ref 9∧cq s.o []∧look 9 s.r=some ⟨5,1,lm (ak .u8) r⟩))
abbrev Nz(a:dt)(s:AS):=VE (V8 M b) (XO M b r) a .normal s
def Yi:AS:=⟨[(0,.ref 9),(1,.int .i32 a),(50,.bool v4)],[],[(9,⟨5,1,lm (ak .u8) v2⟩)],[9]⟩
def ajA:AS:=⟨[(0,.ref 9),(1,.int .i32 a),(5,.int .u32 (IntKind.wrap .u32 a)),(25,.bool d)],[],[(9,⟨5,1,lm (ak .u8) v2⟩)],[9]⟩
variable{M b r a v2 d v4}{K:Kn}{n:Nat}
theorem Nd(f:am K)(h:Al K n a v2 v4=some r):Nz M b r [TJ 479,.b 0] (Yi a v2 v4):=by
 unfold Al at h;obtain⟨d,h⟩|⟨d,h⟩:=ao h
 ·refine ah 50 d (ax 4 5 2 (ai 20 ?_));obtain⟨e,h⟩:=aF h;refine au (cG 77 9 5 1 (ak .u8) (rfl) aT e) (ac (aJ 2 ?_));cases h;exact ex
 ·refine ah 50 d (ax 6 7 2 (ai 2 ?_));obtain⟨c,h⟩:=aF h;refine au (cG 10 9 5 1 (ak .u8) (rfl) aT c) (ac (aJ 2 ?_));cases h;exact ex
theorem Ip(f:am K)(h:o7 K n a v2 d=some r):Nz M b r [TJ 119,.b 0] (ajA a v2 d):=by
 unfold o7 at h;obtain⟨c,h⟩|⟨c,h⟩:=ao h
 ·refine ah 25 c (ax 4 5 2 (ai 15 ?_));obtain⟨g,h⟩:=aF h;refine au (cG 49 9 5 1 (ak .u8) (rfl) aT g) (ac (aJ 2 ?_));cases h;exact ex
 ·refine ah 25 c (ax 6 7 2 (ai 3 ?_));obtain⟨e,h⟩|⟨e,h⟩:=ao h
  ·exact aD 53 e (ac (ag 0 (Nd f h)))
  ·exact aD 53 e (ac (ag 0 (Nd f h)))
theorem acJ(g:am K)(h:uw K n a v2=some r):iX bb 194 [.ref 9,.int .i32 a] [] 9 ⟨5,1,lm (ak .u8) v2⟩ [9] (fun v s=>v=.ref 9∧cq s.o []∧look 9 s.r=some ⟨5,1,lm (ak .u8) r⟩):=by
 refine lA (c:=cat Tryz.f194 (pn 1)) Tryz.func194 (by kernel_rfl) _ Tryz.ntmps194 (lc (by kernel_rfl)) fun M b=>(bg ⟨[(0,.ref 9),(1,.int .i32 a)],[],[(9,⟨5,1,lm (ak .u8) v2⟩)],[9]⟩ ?_);unfold uw at h;refine gT 29 0 7 ?_;obtain⟨d,h⟩|⟨d,h⟩:=ao h
 ·refine ah 11 d (ax 4 5 2 (ai 10 ?_));obtain⟨i,h⟩:=aF h;refine au (cG 24 9 5 1 (ak .u8) (rfl) aT i) (ac (aJ 2 ?_));cases h;exact ex
 ·refine ah 11 d (ax 13 7 4 ?_);obtain⟨e,h⟩|⟨e,h⟩:=ao h
  ·exact ah 25 e (ag 2 (Ip g h))
  ·refine ah 25 e (br 3 1 (ai 3 ?_));obtain⟨f,h⟩|⟨f,h⟩:=ao h
   ·exact aD 30 f (ac (ag 0 (Ip g h)))
   ·exact aD 30 f (ac (ag 0 (Ip g h)))
end
noncomputable section
variable[GS](M:Nat→Prop)(b:aB)(r:ck)(a:Int)(v2:ck)  
variable{M b r a v2}{K:Kn}{n:Nat}
theorem NI(g:am K)(h:uZ K n a v2=some r):iX bb 187 [.ref 9,.int .i32 a] [] 9 ⟨5,1,lm (ak .u8) v2⟩ [9] (fun v s=>v=.ref 9∧cq s.o []∧look 9 s.r=some ⟨5,1,lm (ak .u8) r⟩):=by
 refine lA (c:=cat Tryz.f187 (pn 1)) Tryz.func187 (by kernel_rfl) _ Tryz.ntmps187 (lc (by kernel_rfl)) fun M b=>(bg ⟨[(0,.ref 9),(1,.int .i32 a)],[],[(9,⟨5,1,lm (ak .u8) v2⟩)],[9]⟩ ?_);unfold uZ at h;refine ax 13 7 5 ?_;obtain⟨d,h⟩|⟨d,h⟩:=ao h
 ·refine ah 7 d (ax 4 5 2 (ai 4 ?_));obtain⟨e,h⟩:=aF h;refine au (cG 12 9 5 1 (ak .u8) (rfl) aT e) (ac (aJ 2 ?_));cases h;exact ex
 ·refine ah 7 d (fN 2 3 3 (ai 2 ?_));obtain⟨i,f,h⟩:=bind_some h;refine jw 9 9 [] (acJ g f) (ac (aJ 1 ?_));cases h;exact ex
end
noncomputable section
variable[GS](M:Nat→Prop)(e:aB)(r:Int×Unit×ck)(d:Int)(v2:Bool)(a:ck)  
variable{M e r d v2 a}{K:Kn}{n:Nat}
theorem N0(i:am K)(h:py K n d v2 a=some r):iX bb 179 [.ptr 450119 0,.int .i32 d] [(450119,[(xk v2 450119),.ref 9])] 9 ⟨5,1,lm (ak .u8) a⟩ [9,450119,1450119] (fun v s=>v=.tup [iI r.1,.vv .nilIface]∧cq s.o [(450119,[.ptr 450119 0,.ref 9])]∧look 9 s.r=some ⟨5,1,lm (ak .u8) r.2.2⟩):=by
 refine lA (c:=cat Tryz.f179 (pn 1)) Tryz.func179 (by kernel_rfl) _ Tryz.ntmps179 (lc (by kernel_rfl)) fun M e=>(bg ⟨[(0,.ptr 450119 0),(1,.int .i32 d)],[(450119,[(xk v2 450119),.ref 9])],[(9,⟨5,1,lm (ak .u8) a⟩)],[9,450119,1450119]⟩ ?_);unfold py at h;refine ax 6 7 3 (ai 1 ?_);rcases ao h with⟨g,f⟩|⟨g,f⟩
 ·subst g;have h:=f;refine Lu 450119 (b:=true) (c1:=.ref 9) (ac (ax 2 3 1 (ai 4 (au (bv (ak .u8) a) (ac (ax 2 3 1 (ai 6 ?_)))))));obtain⟨v4,j,h⟩:=bind_some h;refine jw 9 9 [] (NI i j) (ac (ax 2 3 1 (ai 4 (au (bv (ak .u8) v4) (ac (aJ 1 ?_))))));cases h;exact rE
 ·subst g;have h:=f;refine Lu 450119 (b:=false) (c1:=.ref 9) (ac (ax 2 3 1 (ai 4 (au (bv (ak .u8) a) (ac (ax 2 3 1 (ai 6 ?_)))))));obtain⟨v5,k,h⟩:=bind_some h;refine jw 9 9 [] (NI i k) (ac (ax 2 3 1 (ai 4 (au (bv (ak .u8) v5) (ac (aJ 1 ?_))))));cases h;exact rE
end
noncomputable section
variable[GS](M:Nat→Prop)(b:aB)(r:Int)(a v2:Int)  
variable{M b r a v2}{K:Kn}{n:Nat}
theorem IR(c:am K)(h:oM K n a v2=some r):aY bb 180 [.int .i32 a,iI v2] (fun v _=>v=iI r):=by
 refine bG (cat Tryz.f180 (pn 1)) Tryz.func180 Tryz.ntmps180 fun M b=>(bg ⟨[(0,.int .i32 a),(1,iI v2)],[],[],[]⟩ ?_);unfold oM at h;refine ax 6 7 3 (ai 1 ?_);obtain⟨f,d,h⟩:=bind_some h;refine aP (R0 c d) (aQ 3 1 ?_);obtain⟨v4,e,h⟩:=bind_some h;refine aP (BQ c e) (ac (aJ 1 ?_));cases h;exact bw
end
noncomputable section
variable[GS](M:Nat→Prop)(a:aB)(r:Int)(c:ByteArray)(v2:Int)(d:Nat)(v5:Int)(v6 e:Nat)(f:Int→Nat→Option Int)
abbrev J4:Cx:=⟨bb,19,M,a⟩
abbrev H2:=bodyPost bb Tryz.f181 (bI M a (fun v _=>v=iI r))
abbrev abU(b:dt)(s:AS):=VE (J4 M a) (H2 M a r) b .normal s
abbrev RL(n:Nat):aq:=.c (cat Tryz.f181 (pn n))
abbrev G5:dt:=[.b 0,RL 15]
abbrev ag0:dt:=kl (J4 M a) (H2 M a r) G5 (cat Tryz.f181 (pn 116)) e::G5
def Rd:AS:=⟨[(1,iI v2),(5,iI v5),(9,.sit 320009 d c v6)],[],[],[320009]⟩
abbrev LV:Prop:=∀{v5:Int} {v6:Nat},f v5 v6=some r→LP (J4 M a) (H2 M a r) G5 (cat Tryz.f181 (pn 116)) e (Rd c v2 d v5 v6)
variable{M a r c v2 d v5 v6 e f}{K:Kn}{n:Nat}
theorem Wo(l:am K)(j:a.w.heap.size≤d)(i:LV M a r c v2 d e f)(h:wu K n c v2 f v5 v6=some r):abU M a r (RL 116::ag0 M a r e) (Rd c v2 d v5 v6):=by
 unfold wu at h;refine ax 2 3 1 (ai 0 ?_);obtain⟨b,h⟩|⟨b,h⟩:=ao h
 ·refine Im 9 (id:=320009) (g:=d) b j (ac (gT 13 1 6 (ai 3 ?_)));obtain⟨m,k,h⟩:=bind_some h;exact aP (IR l k) (ac (ag 1 (bn (i h))))
 ·refine Kb 9 (id:=320009) (g:=d) b (ac (aJ 9 ?_));cases h;exact bw
theorem aca(e:am K)(b:a.w.heap.size≤d)(m:Nat):LV M a r c v2 d m (vS K n c v2 m):=by
 induction m with
 | zero=>intro v5 v6 h;cases h
 | succ m f=>intro v5 v6 h;have h:wu K n c v2 (vS K n c v2 m) v5 v6=some r:=h;exact bj (Wo e b f h)
theorem L5(f:am K)(h:pO K n c v2=some r):aY bb 181 [.str c,iI v2] (fun v _=>v=iI r):=by
 refine bG (cat Tryz.f181 (pn 1)) Tryz.func181 Tryz.ntmps181 fun M a=>(bg ⟨[(0,.str c),(1,iI v2)],[],[],[]⟩ ?_);unfold pO at h;exact cb 28 29 15 6 (ai 1 (FK 320009 (b:=c) fun d e=>(ac (ag 1 (ca (p:=pn 58) n (aca f (d:=d) e n h))))))
end
noncomputable section
variable[GS](M:Nat→Prop)(e:aB)(r:az)(a:eb)(v4:Int)(v5:Bool)(v6:ck)(o:Bool)(b:aN)(f:ByteArray)(g:Int)(c:aN)(i:ByteArray)(j:Int)(k:Nat)(l:Int→Bool→ck→Option az)
abbrev HE:Cx:=⟨bb,59,M,e⟩
abbrev GL:=bodyPost bb Tryz.f156 (bI M e (fun v _=>v=.agg (aW r)))
abbrev BB(a:dt)(s:AS):=VE (HE M e) (GL M e r) a .normal s
abbrev gG(n:Nat):aq:=.c (cat Tryz.f156 (pn n))
abbrev E1:dt:=[.b 0,gG 15]
abbrev abm:dt:=kl (HE M e) (GL M e r) E1 (cat Tryz.f156 (pn 116)) k::E1
def ajQ:AS:=⟨[(2,.ptr 2 0),(6,.ptr 6 0),(7,.ptr 7 0),(8,.str f)],[(2,List.set (aW cR) 61 (.nils)),(6,aH b),(7,List.set (aW ({ cR with Text:=(bytesOf v6),Space:=g }:az)) 61 (.nils))],[],[2,6,7]⟩
def YQ:AS:=⟨[(2,.ptr 2 0),(6,.ptr 6 0),(7,.ptr 7 0),(8,.str i)],[(2,List.set (aW cR) 61 (.nils)),(6,aH c),(7,List.set (aW ({ cR with Text:=(bytesOf v6),Space:=j }:az)) 61 (.nils))],[],[2,6,7]⟩
def ajE:AS:=⟨[(0,.sl (lm av a)),(2,.ptr 2 0),(3,.ptr 451119 0)],[(2,List.set (aW cR) 61 (.nils)),(451119,[(xk o 451119),.ref 401119])],[(401119,⟨5,1,lm (ak .u8) v6⟩)],[2,451119,401119]⟩
def QF:AS:=⟨[(0,.sl (lm av a)),(2,.ptr 2 0),(3,.ptr 451119 0),(9,.sl (lm av a)),(10,iI (a.length:Int)),(11,iI v4)],[(2,List.set (aW cR) 61 (.nils)),(451119,[(xk v5 451119),.ref 401119])],[(401119,⟨5,1,lm (ak .u8) v6⟩)],[2,451119,401119]⟩
abbrev MU:Prop:=∀{v4:Int} {v5:Bool} {v6:ck},l v4 v5 v6=some r→LP (HE M e) (GL M e r) E1 (cat Tryz.f156 (pn 116)) k (QF a v4 v5 v6)
variable{M e r a v4 v5 v6 o b f g c i j k l}{K:Kn}{n:Nat}
theorem Tv(d:am K)(h:AI K n v6 b f g=some r):BB M e r [gG 255] (ajQ v6 b f g):=by
 unfold AI at h;refine ax 2 3 1 (ai 3 ?_);obtain⟨i,a,h⟩:=bind_some h;refine aP (L5 d a) (ac (ax 2 3 1 (ai 1 ?_)));obtain⟨j,c,h⟩:=bind_some h;refine aP (Je d c) (ac (aJ 3 (nL 2 ?_)));cases h;exact bw
theorem NV(d:am K)(h:AR K n v6 c i j=some r):BB M e r [gG 255] (YQ v6 c i j):=by
 unfold AR at h;refine ax 2 3 1 (ai 3 ?_);obtain⟨f,a,h⟩:=bind_some h;refine aP (L5 d a) (ac (ax 2 3 1 (ai 1 ?_)));obtain⟨g,b,h⟩:=bind_some h;refine aP (Je d b) (ac (aJ 3 (nL 2 ?_)));cases h;exact bw
theorem NZ(j:am K)(h:sJ K n a v6 o=some r):BB M e r [gG 15] (ajE a v6 o):=by
 unfold sJ at h;rcases ao h with⟨f,d⟩|⟨f,d⟩
 ·subst f;have h:=d;refine ax 2 3 1 (ai 1 ?_);obtain⟨k,h⟩:=aF h;refine au (bD av av k (cQ) aT) (ac ?_);obtain⟨b,l,h⟩:=bU h;refine bA (ks':=[gG 62,gG 63]) 1 ⟨[(0,.sl (lm av a)),(2,.ptr 2 0),(3,.ptr 451119 0),(6,.ptr 6 0)],[(2,List.set (aW cR) 61 (.nils)),(6,aH b),(451119,[.ptr 451119 0,.ref 401119])],[(401119,⟨5,1,lm (ak .u8) v6⟩)],[2,6,451119,401119]⟩ ?_ (by subst l;kernel_rfl);refine ai 0 ?_;obtain⟨m,h⟩:=aF h;refine U3 451119 401119 (L:=v6) m (ac (cb 12 13 7 4 (ai 2 (au (bv av a) (aQ 4 1 ?_)))));obtain⟨p,h⟩:=aF h;refine au (bD av av p (cQ) aT) (ac ?_);obtain⟨D,q,h⟩:=bU h;refine bA (ks':=[gG 509,gG 255]) 0 ⟨[(2,.ptr 2 0),(6,.ptr 6 0),(7,.ptr 7 0),(8,.str (bytesOf v6)),(36,.bool D)],[(2,List.set (aW cR) 61 (.nils)),(6,aH b),(7,List.set (aW ({ cR with Text:=(bytesOf v6) }:az)) 61 (.nils))],[],[2,6,7]⟩ ?_ (by subst q;kernel_rfl)
  obtain⟨g,h⟩|⟨g,h⟩:=ao h
  ·refine ah 36 g (ax 4 5 2 (ai 4 ?_));obtain⟨s,h⟩:=aF h;refine au (CI s) (ac ?_);obtain⟨E,t,h⟩:=bU h;refine bA (ks':=[gG 2037,gG 255]) 0 ⟨[(2,.ptr 2 0),(6,.ptr 6 0),(7,.ptr 7 0),(8,.str E)],[(2,List.set (aW cR) 61 (.nils)),(6,aH b),(7,List.set (aW ({ cR with Text:=(bytesOf v6) }:az)) 61 (.nils))],[],[2,6,7]⟩ ?_ (by subst t;kernel_rfl);refine ai 2 ?_;obtain⟨H,u,h⟩:=bind_some h;exact aP (IR j u) (ac (ag 0 (Tv j h)))
  ·exact ah 36 g (ag 2 (Tv j h))
 ·subst f;have h:=d;refine ax 2 3 1 (ai 1 ?_);obtain⟨v,h⟩:=aF h;refine au (bD av av v (cQ) aT) (ac ?_);obtain⟨c,w,h⟩:=bU h;refine bA (ks':=[gG 62,gG 63]) 1 ⟨[(0,.sl (lm av a)),(2,.ptr 2 0),(3,.ptr 451119 0),(6,.ptr 6 0)],[(2,List.set (aW cR) 61 (.nils)),(6,aH c),(451119,[.nilp,.ref 401119])],[(401119,⟨5,1,lm (ak .u8) v6⟩)],[2,6,451119,401119]⟩ ?_ (by subst w;kernel_rfl);refine ai 0 ?_;obtain⟨x,h⟩:=aF h;refine U3 451119 401119 (L:=v6) x (ac (cb 12 13 7 4 (ai 2 (au (bv av a) (aQ 4 1 ?_)))));obtain⟨y,h⟩:=aF h;refine au (bD av av y (cQ) aT) (ac ?_);obtain⟨F,z,h⟩:=bU h;refine bA (ks':=[gG 509,gG 255]) 0 ⟨[(2,.ptr 2 0),(6,.ptr 6 0),(7,.ptr 7 0),(8,.str (bytesOf v6)),(36,.bool F)],[(2,List.set (aW cR) 61 (.nils)),(6,aH c),(7,List.set (aW ({ cR with Text:=(bytesOf v6) }:az)) 61 (.nils))],[],[2,6,7]⟩ ?_ (by subst z;kernel_rfl);obtain⟨i,h⟩|⟨i,h⟩:=ao h
  ·refine ah 36 i (ax 4 5 2 (ai 4 ?_));obtain⟨A,h⟩:=aF h;refine au (CI A) (ac ?_);obtain⟨G,B,h⟩:=bU h;refine bA (ks':=[gG 2037,gG 255]) 0 ⟨[(2,.ptr 2 0),(6,.ptr 6 0),(7,.ptr 7 0),(8,.str G)],[(2,List.set (aW cR) 61 (.nils)),(6,aH c),(7,List.set (aW ({ cR with Text:=(bytesOf v6) }:az)) 61 (.nils))],[],[2,6,7]⟩ ?_ (by subst B;kernel_rfl);refine ai 2 ?_;obtain⟨I,C,h⟩:=bind_some h;exact aP (IR j C) (ac (ag 0 (NV j h)))
  ·exact ah 36 i (ag 2 (NV j h))
theorem af6(f:am K)(d:MU M e r a k l)(h:tM K n a l v4 v5 v6=some r):BB M e r (gG 116::abm M e r k) (QF a v4 v5 v6):=by
 unfold tM at h;rcases ao h with⟨m,b⟩|⟨m,b⟩
 ·subst m;have h:=b;refine ax 6 7 3 ?_;obtain⟨o,h⟩|⟨o,h⟩:=ao h
  ·refine ah 12 o (cL 8 9 1 3 5 (ai 0 ?_));obtain⟨p,h⟩:=aF h;refine au (bD av av p (cQ) aT) (ac (ai 2 ?_));obtain⟨q,g,h⟩:=bind_some h;exact jw 401119 9 [(451119,450119)] (N0 f g) (ac (ag 2 (bn (d h))))
  ·exact ah 12 o (ag 5 (NZ f h))
 ·subst m;have h:=b;refine ax 6 7 3 ?_;obtain⟨c,h⟩|⟨c,h⟩:=ao h
  ·refine ah 12 c (cL 8 9 1 3 5 (ai 0 ?_));obtain⟨i,h⟩:=aF h;refine au (bD av av i (cQ) aT) (ac (ai 2 ?_));obtain⟨s,j,h⟩:=bind_some h;exact jw 401119 9 [(451119,450119)] (N0 f j) (ac (ag 2 (bn (d h))))
  ·exact ah 12 c (ag 5 (NZ f h))
theorem ajL(b:am K)(m:Nat):MU M e r a m (rx K n a m):=by
 induction m with
 | zero=>intro v4 v5 v6 h;cases h
 | succ m c=>intro v4 v5 v6 h;have h:tM K n a (rx K n a m) v4 v5 v6=some r:=h;exact bj (af6 b c h)
theorem HU(b:am K)(h:qa K n a=some r):aY bb 156 [.sl (lm av a)] (fun v _=>v=.agg (aW r)):=by
 refine bG (cat Tryz.f156 (pn 1)) Tryz.func156 Tryz.ntmps156 fun M e=>(bg ⟨[(0,.sl (lm av a))],[],[],[]⟩ ?_);unfold qa at h;exact ax 6 7 3 (ai 0 (agX 451119 (T:=119) (d:=3) (cs:=[.nilp,.nils]) (ac (cb 4 5 3 2 (ai 1 (au (bv av a) (ac (gT 2 0 1 (bP [0,2,3,9,10,11] [2,451119] [] (Ca 401119 451119 1 5 1 (ag 0 (ca (p:=pn 58) n (ajL b n h)))))))))))))
end
noncomputable section
variable[GS](M:Nat→Prop)(i:aB)(r:d7)(x:d6)(v2:Fv)(c:eb)(a:Int)(f:d7)(g:Bool)(d:Int)(t:Bool)(o:Int)(q:az)(j u:Nat)(l:Int→d7→Option d7)(w:Int→Option d7)
abbrev xv:Cx:=⟨bb,120,M,i⟩
abbrev Bl:=bodyPost bb Tryz.f112 (bI M i (fun v s=>v=.ref 117∧look 117 s.r=some (b6 r)))
abbrev yu(a:dt)(s:AS):=VE (xv M i) (Bl M i r) a .normal s
abbrev fE(n:Nat):aq:=.c (cat Tryz.f112 (pn n))
abbrev JF:dt:=[.b 0,fE 31]
abbrev lP:dt:=kl (xv M i) (Bl M i r) JF (cat Tryz.f112 (pn 244)) j::JF
abbrev H3:dt:=.b 3::fE 4009823 :: .b 2::fE 31327 :: .b 1::lP M i r j
abbrev RH:dt:=kl (xv M i) (Bl M i r) (H3 M i r j) (cat Tryz.f112 (pn 16039288)) u::(H3 M i r j)
def Wv:AS:=⟨[(1,.fn v2.id v2.aR),(5,.sl (lm av c)),(6,.ref 117),(8,.ptr 8 0),(9,.bool g),(10,.ptr 10 0),(11,iI o)],[(8,av (gD c a)),(10,aW q)],[(117,(b6 f))],[8,10,117]⟩
def WK:AS:=⟨[(1,.fn v2.id v2.aR),(5,.sl (lm av c)),(6,.ref 117),(7,iI a),(8,.ptr 8 0),(9,.bool g),(10,.ptr 10 0),(11,iI d),(81,.bool t)],[(8,av (gD c a)),(10,List.set (aW cR) 61 (.nils))],[(117,(b6 f))],[8,10,117]⟩
def Lp:AS:=⟨[(1,.fn v2.id v2.aR),(5,.sl (lm av c)),(6,.ref 117),(7,iI a),(8,.ptr 8 0),(9,.bool g),(10,.ptr 10 0),(11,iI d)],[(8,av (gD c a)),(10,List.set (aW cR) 61 (.nils))],[(117,(b6 f))],[8,10,117]⟩
def acP:AS:=⟨[(1,.fn v2.id v2.aR),(5,.sl (lm av c)),(6,.ref 117),(7,iI a),(8,.ptr 8 0),(9,.bool g)],[(8,av (gD c a))],[(117,(b6 f))],[8,117]⟩
def OQ:AS:=⟨[(1,.fn v2.id v2.aR),(5,.sl (lm av c)),(6,.ref 117),(7,iI a)],[],[(117,(b6 f))],[117]⟩
abbrev qj:Prop:=∀{a:Int} {f:d7},l a f=some r→LP (xv M i) (Bl M i r) JF (cat Tryz.f112 (pn 244)) j (OQ v2 c a f)
abbrev Ky:Prop:=∀{d:Int},w d=some r→LP (xv M i) (Bl M i r) (H3 M i r j) (cat Tryz.f112 (pn 16039288)) u (Lp v2 c a f g d)
variable{M i r x v2 c a f g d t o q j u l w}{K:Kn}{n:Nat}
theorem Ha(s:am K)(k:qj M i r v2 c j l)(h:l8 K n v2 c a f g l o q=some r):yu M i r (.b 2::fE 31327 :: .b 1::lP M i r j) (Wv v2 c a f g o q):=by
 unfold l8 at h;refine fN 2 3 2 (bP [1,5,6,8,9,10,11] [8,10] [117] (bQ 3 (nu 100 [.ptr 8 4,.cptr (aA ((gD c a).Box)),.cptr (aA ((gD c a).Box)),.cptr (List.drop 1 (aA ((gD c a).Box))),iI (((gD c a).Box).Node),.ptr 8 4,.cptr (aA ((gD c a).Box)),.cptr (aA ((gD c a).Box)),.cptr (List.drop 2 (aA ((gD c a).Box))),.agg (aH (((gD c a).Box).Style)),.bool g,.ptr 10 0,.ptr 10 2,.ptr 10 59]) [] [] [cf bb 120 Tryz.f112 (pn 62654) 12,cf bb 120 Tryz.f112 (pn 62654) 14,cf bb 120 Tryz.f112 (pn 62654) 16] (ay [.v 0 1,.v 0 1,.v 0 1,.v 0 1,.v 0 1,.v 0 2,.v 0 2,.v 0 2,.v 0 2,.v 0 2,.v 0 3,.v 0 1] (aj (cg 0) (ay [.v 1 1] (aj (cg 1) (ay [.v 2 1] (aj (cg 2) bR)))))) ?_));obtain⟨m,b,h⟩:=bU h;obtain⟨p,d,h⟩:=bU h;refine bA (ks':=fE 125310::fE 125311 :: .b 1::lP M i r j) 1 ⟨[(1,.fn v2.id v2.aR),(5,.sl (lm av c)),(6,.ref 117),(10,.ptr 10 0),(11,iI o)],[(10,aW ({ q with Node:=m,Style:=p,Glued:=g }:az))],[(117,(b6 f))],[10,117]⟩ ?_ (by subst d;subst b;kernel_rfl)
 refine ai 3 ?_;obtain⟨e,h⟩:=aF h;exact au (cG 117 117 165 62 aW (rfl) (iR) e) (ac (ag 2 (bn (k h))))
theorem Du(s:am K)(p:qj M i r v2 c j l)(q:Ky M i r v2 c a f g j u w)(h:l4 K n v2 c a f g d l w t=some r):yu M i r (fE 64157153::fE 32078577::RH M i r j u) (WK v2 c a f g d t):=by
 unfold l4 at h;obtain⟨b,h⟩|⟨b,h⟩:=ao h
 ·exact ah 81 b (ag 5 (bn (q h)))
 ·refine ah 81 b (bX (ks':=fE 4009823 :: .b 2::fE 31327 :: .b 1::lP M i r j) 5 (ai 3 ?_));obtain⟨m,h⟩:=aF h;refine au (lx av c a d 206 (.tmp 84) (some (.tmp 85)) (some (.tmp 86)) 87 (e:=210) (sz:=5) (by kernel_rfl) (by kernel_rfl) (by kernel_rfl) (by kernel_rfl) (by kernel_rfl) (by kernel_rfl) (cQ) (fun k v=>by subst v;kernel_rfl) m) ?_;obtain⟨x,o,h⟩:=bind_some h;exact aP (HU s o) (ac (ag 0 (Ha s p h)))
theorem ajU(x:am K)(o:qj M i r v2 c j l)(p:Ky M i r v2 c a f g j u w)(h:sP K n v2 c a f g l w d=some r):yu M i r (fE 16039288::RH M i r j u) (Lp v2 c a f g d):=by
 unfold sP at h;refine cb 4 5 3 2 (bP [1,5,6,7,8,9,10,11] [8,10] [117] ?_);obtain⟨k,h⟩|⟨k,h⟩:=ao h
 ·obtain⟨q,h⟩:=aF h;obtain⟨m,h⟩|⟨m,h⟩:=ao h
  ·obtain⟨v,h⟩:=aF h;obtain⟨s,h⟩|⟨s,h⟩:=ao h
   ·obtain⟨y,h⟩:=aF h;obtain⟨z,h⟩:=aF h;obtain⟨t,A,h⟩:=bind_some h;exact bQ 0 (nu 47 [iI d,.sl (lm av c),iI (c.length:Int),.bool (decide (d<(c.length:Int))),.bool true,.sl (lm av c),iI d,.cptr (av (gD c d)),.cptr (List.drop 0 (av (gD c d))),iI ((gD c d).Kind),.bool (((gD c d).Kind) == 1),.bool (((gD c d).Kind) == 1),.bool true,.sl (lm av c),iI d,.cptr (av (gD c d)),.cptr (List.drop 1 (av (gD c d))),iI ((gD c d).Of),.ptr 8 1,iI ((gD c a).Of),.bool (((gD c d).Of) == ((gD c a).Of)),.bool (((gD c d).Of) == ((gD c a).Of)),.bool true,.sl (lm av c),iI d,iI (aa (d-1)),.cptr (av (gD c ((aa (d-1))))),.agg (av (gD c ((aa (d-1))))),.sl (lm av c),iI d,.cptr (av (gD c d)),.agg (av (gD c d)),.bool t,.bool (!t),.bool (!t)]) [] [] [] (ay (vz 2) (bh (bv av c) (ay [.v 0 1] (aj (cT 0 51 (e:=(decide (d<(c.length:Int)))) (b:=true) k) (ay (vz 2) (bh (bD av av q (cQ) aT) (ay (vz 4) (aj (cT 0 59 (e:=(((gD c d).Kind) == 1)) (b:=true) m) (ay (vz 2) (bh (bD av av v (cQ) aT) (ay (vz 6) (aj (cT 0 69 (e:=(((gD c d).Of) == ((gD c a).Of))) (b:=true) s) (ay (vz 3) (bh (bD av av y (cQ) aT) (ay (vz 3) (bh (bD av av z (cQ) aT) (ay [.v 0 1] (aj (cv 0 1 79 (uA x A)) (ay (vz 2) bR))))))))))))))))))) (ag 0 (Du x o p h))
   ·exact bQ 0 (nu 47 [iI d,.sl (lm av c),iI (c.length:Int),.bool (decide (d<(c.length:Int))),.bool true,.sl (lm av c),iI d,.cptr (av (gD c d)),.cptr (List.drop 0 (av (gD c d))),iI ((gD c d).Kind),.bool (((gD c d).Kind) == 1),.bool (((gD c d).Kind) == 1),.bool true,.sl (lm av c),iI d,.cptr (av (gD c d)),.cptr (List.drop 1 (av (gD c d))),iI ((gD c d).Of),.ptr 8 1,iI ((gD c a).Of),.bool (((gD c d).Of) == ((gD c a).Of)),.bool (((gD c d).Of) == ((gD c a).Of)),.bool false,bf,bf,bf,bf,bf,bf,bf,bf,bf,bf,bf,.bool false]) [] [] [] (ay (vz 2) (bh (bv av c) (ay [.v 0 1] (aj (cT 0 51 (e:=(decide (d<(c.length:Int)))) (b:=true) k) (ay (vz 2) (bh (bD av av q (cQ) aT) (ay (vz 4) (aj (cT 0 59 (e:=(((gD c d).Kind) == 1)) (b:=true) m) (ay (vz 2) (bh (bD av av v (cQ) aT) (ay (vz 6) (aj (cT 0 69 (e:=(((gD c d).Of) == ((gD c a).Of))) (b:=false) s) (aj (aC 0 1) (aj (aC 0 1) (aj (aC 0 1) (aj (aC 0 1) (aj (aC 0 1) (aj (aC 0 1) (aj (aC 0 1) (aj (aC 0 1) (aj (aC 0 1) (aj (aC 0 1) (aj (aC 0 1) (ay [.v 0 1] bR)))))))))))))))))))))))) (ag 0 (Du x o p h))
  ·exact bQ 0 (nu 47 [iI d,.sl (lm av c),iI (c.length:Int),.bool (decide (d<(c.length:Int))),.bool true,.sl (lm av c),iI d,.cptr (av (gD c d)),.cptr (List.drop 0 (av (gD c d))),iI ((gD c d).Kind),.bool (((gD c d).Kind) == 1),.bool (((gD c d).Kind) == 1),.bool false,bf,bf,bf,bf,bf,bf,bf,bf,.bool false,.bool false,bf,bf,bf,bf,bf,bf,bf,bf,bf,bf,bf,.bool false]) [] [] [] (ay (vz 2) (bh (bv av c) (ay [.v 0 1] (aj (cT 0 51 (e:=(decide (d<(c.length:Int)))) (b:=true) k) (ay (vz 2) (bh (bD av av q (cQ) aT) (ay (vz 4) (aj (cT 0 59 (e:=(((gD c d).Kind) == 1)) (b:=false) m) (aj (aC 0 1) (aj (aC 0 1) (aj (aC 0 1) (aj (aC 0 1) (aj (aC 0 1) (aj (aC 0 1) (aj (aC 0 1) (aj (aC 0 1) (ay (vz 2) (aj (aC 0 1) (aj (aC 0 1) (aj (aC 0 1) (aj (aC 0 1) (aj (aC 0 1) (aj (aC 0 1) (aj (aC 0 1) (aj (aC 0 1) (aj (aC 0 1) (aj (aC 0 1) (aj (aC 0 1) (ay [.v 0 1] bR))))))))))))))))))))))))))))) (ag 0 (Du x o p h))
 ·exact bQ 0 (nu 47 [iI d,.sl (lm av c),iI (c.length:Int),.bool (decide (d<(c.length:Int))),.bool false,bf,bf,bf,bf,bf,bf,.bool false,.bool false,bf,bf,bf,bf,bf,bf,bf,bf,.bool false,.bool false,bf,bf,bf,bf,bf,bf,bf,bf,bf,bf,bf,.bool false]) [] [] [] (ay (vz 2) (bh (bv av c) (ay [.v 0 1] (aj (cT 0 51 (e:=(decide (d<(c.length:Int)))) (b:=false) k) (aj (aC 0 1) (aj (aC 0 1) (aj (aC 0 1) (aj (aC 0 1) (aj (aC 0 1) (aj (aC 0 1) (ay (vz 2) (aj (aC 0 1) (aj (aC 0 1) (aj (aC 0 1) (aj (aC 0 1) (aj (aC 0 1) (aj (aC 0 1) (aj (aC 0 1) (aj (aC 0 1) (ay (vz 2) (aj (aC 0 1) (aj (aC 0 1) (aj (aC 0 1) (aj (aC 0 1) (aj (aC 0 1) (aj (aC 0 1) (aj (aC 0 1) (aj (aC 0 1) (aj (aC 0 1) (aj (aC 0 1) (aj (aC 0 1) (ay [.v 0 1] bR)))))))))))))))))))))))))))))))) (ag 0 (Du x o p h))
theorem aah(e:am K)(b:qj M i r v2 c j l)(m:Nat):Ky M i r v2 c a f g j m (rA K n v2 c a f g l m):=by
 induction m with
 | zero=>intro d h;cases h
 | succ m k=>intro d h;have h:sP K n v2 c a f g l (rA K n v2 c a f g l m) d=some r:=h;exact bj (ajU e b k h)
theorem Jr(k:am K)(e:qj M i r v2 c j l)(h:qH K n v2 c a f l g=some r):yu M i r (fE 3915 :: .b 1::lP M i r j) (acP v2 c a f g):=by
 unfold qH at h;obtain⟨s,m,h⟩:=bU h;refine bA (ks':=fE 250613 :: .b 2::fE 31327 :: .b 1::lP M i r j) 10 ⟨[(1,.fn v2.id v2.aR),(5,.sl (lm av c)),(6,.ref 117),(7,iI a),(8,.ptr 8 0),(9,.bool g),(10,.ptr 10 0),(11,iI (aa (a+1))),(46,iI ((gD c a).Kind)),(89,.bool s)],[(8,av (gD c a)),(10,List.set (aW cR) 61 (.nils))],[(117,(b6 f))],[8,10,117]⟩ ?_ (by subst m;kernel_rfl);obtain⟨b,h⟩|⟨b,h⟩:=ao h
 ·exact ah 89 b (bX (ks':=.b 2::fE 31327 :: .b 1::lP M i r j) 2 (nL 10 (ag 0 (Ha k e h))))
 ·refine ah 89 b ?_;obtain⟨t,o,h⟩:=bU h;refine bA (ks':=fE 1002455 :: .b 2::fE 31327 :: .b 1::lP M i r j) 3 ⟨[(1,.fn v2.id v2.aR),(5,.sl (lm av c)),(6,.ref 117),(7,iI a),(8,.ptr 8 0),(9,.bool g),(10,.ptr 10 0),(11,iI (aa (a+1))),(92,.bool t)],[(8,av (gD c a)),(10,List.set (aW cR) 61 (.nils))],[(117,(b6 f))],[8,10,117]⟩ ?_ (by subst o;kernel_rfl);obtain⟨d,h⟩|⟨d,h⟩:=ao h
  ·refine ah 92 d (br 2 1 (ai 5 ?_));obtain⟨u,q,h⟩:=bind_some h;exact kG (k.uE q) (ac (ag 0 (Ha k e h)))
  ·exact ah 92 d (ag 3 (ca (p:=pn 8019644) n (aah k e n h)))
theorem aex(q:am K)(m:qj M i r v2 c j l)(h:tI K n v2 c l a f=some r):yu M i r (fE 244::lP M i r j) (OQ v2 c a f):=by
 unfold tI at h;refine cb 4 5 3 2 (ai 2 (au (bv av c) (ac ?_)));obtain⟨g,h⟩|⟨g,h⟩:=ao h
 ·refine ah 17 g (bX (ks':=fE 1956::fE 1957 :: .b 1::lP M i r j) 4 (ai 2 ?_));obtain⟨s,h⟩:=aF h;refine au (bD av av s (cQ) aT) (ac (ax 2 3 1 (bP [1,5,6,7,8] [8] [117] ?_)));obtain⟨d,h⟩|⟨d,h⟩:=ao h
  ·obtain⟨p,h⟩:=aF h;obtain⟨k,h⟩|⟨k,h⟩:=ao h
   ·obtain⟨t,h⟩:=aF h;obtain⟨o,u,h⟩:=bind_some h;exact bQ 1 (nu 22 [iI a,.bool (decide (a>0)),.bool true,.sl (lm av c),iI a,iI (aa (a-1)),.cptr (av (gD c ((aa (a-1))))),.cptr (List.drop 0 (av (gD c ((aa (a-1)))))),iI ((gD c ((aa (a-1)))).Kind),.bool (((gD c ((aa (a-1)))).Kind) != 2),.bool (((gD c ((aa (a-1)))).Kind) != 2),.bool true,.sl (lm av c),iI a,iI (aa (a-1)),.cptr (av (gD c ((aa (a-1))))),.agg (av (gD c ((aa (a-1))))),.agg (av (gD c a)),.bool o,.bool (!o),.bool (!o)]) [] [] [cf bb 120 Tryz.f112 (pn 3914) 21] (ay (vz 2) (aj (cT 0 24 (e:=(decide (a>0))) (b:=true) d) (ay (vz 3) (bh (bD av av p (cQ) aT) (ay (vz 4) (aj (cT 0 33 (e:=(((gD c ((aa (a-1)))).Kind) != 2)) (b:=true) k) (ay (vz 3) (bh (bD av av t (cQ) aT) (ay (vz 2) (aj (cv 0 1 40 (uA q u)) (ay (vz 2) (aj (cg 0) bR)))))))))))) (ag 0 (Jr q m h))
   ·exact bQ 1 (nu 22 [iI a,.bool (decide (a>0)),.bool true,.sl (lm av c),iI a,iI (aa (a-1)),.cptr (av (gD c ((aa (a-1))))),.cptr (List.drop 0 (av (gD c ((aa (a-1)))))),iI ((gD c ((aa (a-1)))).Kind),.bool (((gD c ((aa (a-1)))).Kind) != 2),.bool (((gD c ((aa (a-1)))).Kind) != 2),.bool false,bf,bf,bf,bf,bf,bf,bf,bf,.bool false]) [] [] [cf bb 120 Tryz.f112 (pn 3914) 21] (ay (vz 2) (aj (cT 0 24 (e:=(decide (a>0))) (b:=true) d) (ay (vz 3) (bh (bD av av p (cQ) aT) (ay (vz 4) (aj (cT 0 33 (e:=(((gD c ((aa (a-1)))).Kind) != 2)) (b:=false) k) (aj (aC 0 1) (aj (aC 0 1) (aj (aC 0 1) (aj (aC 0 1) (aj (aC 0 1) (aj (aC 0 1) (aj (aC 0 1) (aj (aC 0 1) (ay [.v 0 1] (aj (cg 0) bR)))))))))))))))) (ag 0 (Jr q m h))
  ·exact bQ 1 (nu 22 [iI a,.bool (decide (a>0)),.bool false,bf,bf,bf,bf,bf,bf,bf,.bool false,.bool false,bf,bf,bf,bf,bf,bf,bf,bf,.bool false]) [] [] [cf bb 120 Tryz.f112 (pn 3914) 21] (ay (vz 2) (aj (cT 0 24 (e:=(decide (a>0))) (b:=false) d) (aj (aC 0 1) (aj (aC 0 1) (aj (aC 0 1) (aj (aC 0 1) (aj (aC 0 1) (aj (aC 0 1) (aj (aC 0 1) (ay (vz 2) (aj (aC 0 1) (aj (aC 0 1) (aj (aC 0 1) (aj (aC 0 1) (aj (aC 0 1) (aj (aC 0 1) (aj (aC 0 1) (aj (aC 0 1) (ay [.v 0 1] (aj (cg 0) bR)))))))))))))))))))) (ag 0 (Jr q m h))
 ·refine ah 17 g (aJ 8 ?_);cases h;exact fG
theorem ZJ(b:am K)(m:Nat):qj M i r v2 c m (rL K n v2 c m):=by
 induction m with
 | zero=>intro a f h;cases h
 | succ m d=>intro a f h;have h:tI K n v2 c (rL K n v2 c m) a f=some r:=h;exact bj (aex b d h)
theorem acV(a:am K)(h:wM K n x v2=some r):aY bb 112 [.sl (lm aL x),.fn v2.id v2.aR] (fun v s=>v=.ref 117∧look 117 s.r=some (b6 r)):=by
 refine bG (cat Tryz.f112 (pn 1)) am0 amX fun M i=>(bg ⟨[(0,.sl (lm aL x)),(1,.fn v2.id v2.aR)],[],[],[]⟩ ?_);unfold wM at h;refine ax 6 7 3 (ai 1 ?_);obtain⟨c,b,h⟩:=bind_some h;exact fg 1013 (KM a b) (ff 400003) (ac (gW 26 0 7 6 (bP [1,5,6,7] [] [1013] (iz 1013 (eW 117 6 165 62 (ag 0 (ca (p:=pn 122) n (ZJ a n h))))))))
end
noncomputable section
variable[GS](M:Nat→Prop)(d:aB)(r:ae×Int×Int×dO)(a:ab)(v2:bW)(b:bz)(v4 v5:Int)(v6:dO)  
abbrev Tc(n:Nat):aq:=.c (cat Tryz.f74 (pn n))
variable{M d r a v2 b v4 v5 v6}{K:Kn}{n:Nat}[SG d]
theorem aeH(f:am K)(h:Ct K n a v2 b v4 v5 v6=some r):eA bb 74 [.agg (aA a),.agg (ct v2),.agg (bL b)] [(af v4 v5)] (bt v6) (fun v s=>v=.agg (aG r.1)∧cq s.o [(af r.2.1 r.2.2.1)]∧look 440009 s.r=some (bt r.2.2.2)):=by
 refine jC (c:=cat Tryz.f74 []) Tryz.func74 (by kernel_rfl) _ Tryz.ntmps74 (lc (by kernel_rfl)) fun M d=>(bg ⟨[(0,.agg (aA a)),(1,.agg (ct v2)),(2,.agg (bL b))],[(af v4 v5)],[(440009,(bt v6))],[440009,440001,1440001]⟩ ?_);unfold Ct at h;refine bX (ks':=[Tc 6,Tc 7]) 3 (ai 3 ?_);obtain⟨g,e,h⟩:=bind_some h;refine qG (Sk f e) (ac (aJ 1 ?_));cases h;exact ex
end
noncomputable section
variable[GS](M:Nat→Prop)(b:aB)(r:Int)(a:ab)(v2:Int)(c:bz)(d:Int)  
abbrev aeS(n:Nat):aq:=.c (cat Tryz.f99 (pn n))
abbrev agP:Cx:=⟨bb,46,M,b⟩
abbrev q99:=bodyPost bb Tryz.f99 (bI M b (fun v _=>v=iI r))
abbrev aaB(a:dt)(s:AS):=VE (agP M b) (q99 M b r) a .normal s
def adV:AS:=⟨[(1,iI v2),(3,.ptr 3 0),(7,iI d)],[(3,aA a)],[],[3]⟩
variable{M b r a v2 c d}{K:Kn}{n:Nat}
theorem PO(e:am K)(h:C9 K n a v2 d=some r):aaB M b r [aeS 15] (adV a v2 d):=by
 unfold C9 at h;refine ax 2 3 1 (ai 4 ?_);obtain⟨f,c,h⟩:=bind_some h;refine aP (zN e c) (ac (aJ 1 ?_));cases h;exact bw
theorem adO(d:am K)(h:Fd K n a v2 c=some r):aY bb 99 [.agg (aA a),iI v2,.agg (bL c)] (fun v _=>v=iI r):=by
 refine bG (cat Tryz.f99 (pn 1)) Tryz.func99 Tryz.ntmps99 fun M b=>(bg ⟨[(0,.agg (aA a)),(1,iI v2),(2,.agg (bL c))],[],[],[]⟩ ?_);unfold Fd at h;refine ax 6 7 3 (ai 4 ?_);obtain⟨v4,g,h⟩:=bind_some h;refine aP (eu d g) (ac (ax 5 3 3 ?_));obtain⟨e,h⟩|⟨e,h⟩:=ao h
 ·refine ah 21 e (ax 4 5 2 (ai 2 ?_));obtain⟨v5,i,h⟩:=bind_some h;refine aP (Vu d i) (ac (ax 2 3 1 (bP [1,3,9,10] [3] [] ?_)));obtain⟨v6,j,h⟩:=bind_some h;obtain⟨m,k,h⟩:=bind_some h;obtain⟨f,l,h⟩:=bind_some h;exact bQ 1 (nu 28 [iI v2,iI v6,.ptr 3 2,.agg (aH a.Style),iI v2,.agg (ct m),iI f,iI (aa (v6-f))]) [] [] [cf bb 46 Tryz.f99 (pn 234) 8] (ay [.v 0 1] (aj (cv 0 1 29 (jQ d j)) (ay (vz 3) (aj (cv 0 1 33 (mF d k)) (aj (cv 0 1 34 (oS d l)) (ay [.v 0 1] (aj (cg 0) bR))))))) (ag 1 (PO d h))
 ·exact ah 21 e (ag 2 (PO d h))
end
noncomputable section
variable[GS](M:Nat→Prop)(c:aB)(r:az)(a:ab)(v2:Int)(b:bz)  
variable{M c r a v2 b}{K:Kn}{n:Nat}
theorem aiJ(d:am K)(h:JJ K n a v2 b=some r):aY bb 147 [.agg (aA a),.cptr ([iI v2]),.cptr (bL b)] (fun v _=>v=.agg (aW r)):=by
 refine bG (cat Tryz.f147 (pn 1)) Tryz.func147 Tryz.ntmps147 fun M c=>(bg ⟨[(0,.agg (aA a)),(1,.cptr ([iI v2])),(2,.cptr (bL b))],[],[],[]⟩ ?_);unfold JJ at h;refine ax 6 7 3 (bP [1,2,3,4] [3,4] [] ?_);obtain⟨v4,e,h⟩:=bind_some h;obtain⟨v5,f,h⟩:=bind_some h;refine bQ 1 (nu 7 [.ptr 3 2,.agg (aH a.Style),iI v2,.agg (aA a),iI v2,.agg (bL b),iI v4,.agg (ct v5)]++nu 5 [.ptr 5 0]) [(5,ct ki)] [] [cf bb 36 Tryz.f147 (pn 6) 9] (ay (vz 6) (aj (cv 0 1 13 (adO d e)) (aj (cv 0 1 14 (mF d f)) (aj (rG 0 1 68 5 (ct ki)) (aj (cg 0) bR))))) ?_;cases h
end
noncomputable section
variable[GS](M:Nat→Prop)(c:aB)(r:d7)(b:d6)(v2:Int)(a:bz)  
variable{M c r b v2 a}{K:Kn}{n:Nat}
theorem aaN(e:am K)(h:Be K n b v2 a=some r):aY bb 109 [.sl (lm aL b),iI v2,.agg (bL a)] (fun v s=>v=.ref 1009∧look 1009 s.r=some (b6 r)):=by
 refine bG (cat Tryz.f109 (pn 1)) Tryz.func109 Tryz.ntmps109 fun M c=>(bg ⟨[(0,.sl (lm aL b)),(1,iI v2),(2,.agg (bL a))],[],[],[]⟩ ?_);unfold Be at h;refine ax 6 7 3 (ai 1 (ld 4 4 ([iI v2]) (ld 5 5 (bL a) (nO 147 #[(.tmp 4),(.tmp 5)] [.cptr ([iI v2]),.cptr (bL a)] ?_))));obtain⟨v4,d,h⟩:=bind_some h;refine fg 1009 (acV e d) (ff 117) (ac (aJ 1 ?_));cases h;exact fG
end
noncomputable section
variable[GS](M:Nat→Prop)(b:aB)(r:Int)(a:d7)(v2 v4:Int)(v5:Bool)(c:Nat)(d:Int→Option Int)
abbrev F5:Cx:=⟨bb,22,M,b⟩
abbrev Fi:=bodyPost bb Tryz.f115 (bI M b (fun v _=>v=iI r))
abbrev ND(a:dt)(s:AS):=VE (F5 M b) (Fi M b r) a .normal s
abbrev BF(n:Nat):aq:=.c (cat Tryz.f115 (pn n))
abbrev I8:dt:=[.b 0,BF 15]
abbrev MX:dt:=kl (F5 M b) (Fi M b r) I8 (cat Tryz.f115 (pn 56)) c::I8
def ZQ:AS:=⟨[(0,.sl (lm aW a)),(5,iI v4),(18,.bool v5)],[],[],[]⟩
def PD:AS:=⟨[(0,.sl (lm aW a)),(5,iI v4)],[],[],[]⟩
abbrev Hr:Prop:=∀{v4:Int},d v4=some r→LP (F5 M b) (Fi M b r) I8 (cat Tryz.f115 (pn 56)) c (PD a v4)
variable{M b r a v2 v4 v5 c d}{K:Kn}{n:Nat}
theorem MT(g:am K)(f:Hr M b r a c d)(h:vX K n a v4 d v5=some r):ND M b r (BF 225::BF 113::MX M b r c) (ZQ a v4 v5):=by
 unfold vX at h;obtain⟨e,h⟩|⟨e,h⟩:=ao h
 ·exact ah 18 e (ag 5 (bn (f h)))
 ·refine ah 18 e (aJ 8 ?_);cases h;exact bw
theorem akv(g:am K)(e:Hr M b r a c d)(h:vd K n a d v4=some r):ND M b r (BF 56::MX M b r c) (PD a v4):=by
 unfold vd at h;refine cb 4 5 3 2 (ai 2 (au (bv aW a) (aQ 5 2 ?_)));obtain⟨f,h⟩|⟨f,h⟩:=ao h
 ·refine aD 12 f (aQ 7 2 ?_);obtain⟨i,h⟩:=aF h;exact au (bD aW aW i (iR) aT) (ac (ag 0 (MT g e h)))
 ·exact aD 12 f (ac (ag 0 (MT g e h)))
theorem akk(c:am K)(m:Nat):Hr M b r a m (wz K n a m):=by
 induction m with
 | zero=>intro v4 h;cases h
 | succ m d=>intro v4 h;have h:vd K n a (wz K n a m) v4=some r:=h;exact bj (akv c d h)
theorem GD(c:am K)(h:rP K n a v2=some r):aY bb 115 [.sl (lm aW a),iI v2] (fun v _=>v=iI r):=by
 refine bG (cat Tryz.f115 (pn 1)) Tryz.func115 Tryz.ntmps115 fun M b=>(bg ⟨[(0,.sl (lm aW a)),(1,iI v2)],[],[],[]⟩ ?_);unfold rP at h;exact ag 6 (ca (p:=pn 28) n (akk c n h))
end
noncomputable section
variable[GS](M:Nat→Prop)(b:aB)(r:Int)(a:d7)(c:Int)(d:Nat)(e:Int→Option Int)
abbrev Ja:Cx:=⟨bb,18,M,b⟩
abbrev Hu:=bodyPost bb Tryz.f150 (bI M b (fun v _=>v=iI r))
abbrev acB(a:dt)(s:AS):=VE (Ja M b) (Hu M b r) a .normal s
abbrev SX(n:Nat):aq:=.c (cat Tryz.f150 (pn n))
abbrev EL:dt:=[.b 0,SX 7]
abbrev aff:dt:=kl (Ja M b) (Hu M b r) EL (cat Tryz.f150 (pn 52)) d::EL
def Mh:AS:=⟨[(0,.sl (lm aW a)),(3,iI c)],[],[],[]⟩
abbrev NJ:Prop:=∀{c:Int},e c=some r→LP (Ja M b) (Hu M b r) EL (cat Tryz.f150 (pn 52)) d (Mh a c)
variable{M b r a c d e}{K:Kn}{n:Nat}
theorem aai(k:am K)(i:NJ M b r a d e)(h:oP K n a e c=some r):acB M b r (SX 52::aff M b r d) (Mh a c):=by
 unfold oP at h;refine ax 5 3 3 ?_;obtain⟨f,h⟩|⟨f,h⟩:=ao h
 ·refine ah 8 f (cL 8 9 1 3 5 (ai 2 ?_));obtain⟨j,h⟩:=aF h;refine au (bD aW aW j (iR) aT) (ac ?_);obtain⟨g,h⟩|⟨g,h⟩:=ao h
  ·refine ah 16 g (aJ 9 ?_);cases h;exact bw
  ·exact ah 16 g (ag 4 (bn (i h)))
 ·refine ah 8 f (aJ 8 ?_);cases h;exact bw
theorem Zo(d:am K)(m:Nat):NJ M b r a m (oD K n a m):=by
 induction m with
 | zero=>intro c h;cases h
 | succ m e=>intro c h;have h:oP K n a (oD K n a m) c=some r:=h;exact bj (aai d e h)
theorem LS(c:am K)(h:oQ K n a=some r):aY bb 150 [.sl (lm aW a)] (fun v _=>v=iI r):=by
 refine bG (cat Tryz.f150 (pn 1)) Tryz.func150 Tryz.ntmps150 fun M b=>(bg ⟨[(0,.sl (lm aW a))],[],[],[]⟩ ?_);unfold oQ at h;exact cb 12 13 7 4 (ai 1 (au (bv aW a) (ac (ag 1 (ca (p:=pn 26) n (Zo c n h))))))
end
noncomputable section
variable[GS](M:Nat→Prop)(b:aB)(r:Int)(a:d7)(v2 c v5:Int)(d:Nat)(e:Int→Int→Option Int)
abbrev Kr:Cx:=⟨bb,33,M,b⟩
abbrev JH:=bodyPost bb Tryz.f116 (bI M b (fun v _=>v=iI r))
abbrev MG(a:dt)(s:AS):=VE (Kr M b) (JH M b r) a .normal s
abbrev HQ(n:Nat):aq:=.c (cat Tryz.f116 (pn n))
abbrev H6:dt:=[.b 0,HQ 15]
abbrev Zr:dt:=kl (Kr M b) (JH M b r) H6 (cat Tryz.f116 (pn 116)) d::H6
def ah4:AS:=⟨[(3,iI v5)],[],[],[]⟩
def Lv:AS:=⟨[(0,.sl (lm aW a)),(3,iI v2),(7,.sl (lm aW a)),(8,iI (a.length:Int)),(9,iI c)],[],[],[]⟩
abbrev PI:Prop:=∀{v2:Int} {c:Int},e v2 c=some r→LP (Kr M b) (JH M b r) H6 (cat Tryz.f116 (pn 116)) d (Lv a v2 c)
variable{M b r a v2 c v5 d e}{K:Kn}{n:Nat}
theorem MV(a:am K)(h:xu K n v5=some r):MG M b r [HQ 31] (ah4 v5):=by
 unfold xu at h;refine aJ 3 ?_;cases h;exact bw
theorem ais(i:am K)(j:PI M b r a d e)(h:ww K n a e v2 c=some r):MG M b r (HQ 116::Zr M b r d) (Lv a v2 c):=by
 unfold ww at h;refine ax 6 7 3 ?_;obtain⟨f,h⟩|⟨f,h⟩:=ao h
 ·refine ah 10 f (cL 8 9 1 3 5 (ai 0 ?_));obtain⟨k,h⟩:=aF h;exact au (bD aW aW k (iR) aT) (ac (ag 3 (bn (j h))))
 ·refine ah 10 f (sv 4 5 3 7 (ai 1 ?_));obtain⟨v4,l,h⟩:=bind_some h;refine aP (LS i l) (ac (br 3 2 ?_));obtain⟨g,h⟩|⟨g,h⟩:=ao h
  ·refine ah 24 g (br 2 1 (ai 3 ?_));obtain⟨m,h⟩:=aF h;exact au (bD aW aW m (iR) aT) (ac (ag 0 (MV i h)))
  ·exact ah 24 g (ag 2 (MV i h))
theorem afk(d:am K)(m:Nat):PI M b r a m (tU K n a m):=by
 induction m with
 | zero=>intro v2 c h;cases h
 | succ m e=>intro v2 c h;have h:ww K n a (tU K n a m) v2 c=some r:=h;exact bj (ais d e h)
theorem C8(c:am K)(h:nY K n a=some r):aY bb 116 [.sl (lm aW a)] (fun v _=>v=iI r):=by
 refine bG (cat Tryz.f116 (pn 1)) Tryz.func116 Tryz.ntmps116 fun M b=>(bg ⟨[(0,.sl (lm aW a))],[],[],[]⟩ ?_);unfold nY at h;exact cb 28 29 15 6 (ai 1 (au (bv aW a) (ac (ag 1 (ca (p:=pn 58) n (afk c n h))))))
end
noncomputable section
variable[GS](M:Nat→Prop)(c:aB)(r:ck)(d:d7)(v2 a:Int)(b:ck)(f:Int)(j:Bool)(g l:Nat)(i:Int→ck→Option ck)(o:Int→Option ck)
abbrev Aa:Cx:=⟨bb,46,M,c⟩
abbrev Ae:=bodyPost bb Tryz.f110 (bI M c (fun v s=>v=.ref 16∧look 16 s.r=some (bk r)))
abbrev Ea(a:dt)(s:AS):=VE (Aa M c) (Ae M c r) a .normal s
abbrev kO(n:Nat):aq:=.c (cat Tryz.f110 (pn n))
abbrev Jm:dt:=[.b 0,kO 15]
abbrev BW:dt:=kl (Aa M c) (Ae M c r) Jm (cat Tryz.f110 (pn 116)) g::Jm
abbrev JP:dt:=.b 2::kO 3735 :: .b 1::BW M c r g
abbrev Hy:dt:=kl (Aa M c) (Ae M c r) (JP M c r g) (cat Tryz.f110 (pn 14936)) l::(JP M c r g)
def Yf:AS:=⟨[(0,.sl (lm aW d)),(1,iI v2),(5,.ref 16),(7,iI f)],[],[(16,⟨3,1,lm (ak .i64) (b++[a])⟩)],[16]⟩
def aaW:AS:=⟨[(0,.sl (lm aW d)),(1,iI v2),(5,.ref 16),(6,iI a),(7,iI f),(32,.bool j)],[],[(16,⟨3,1,lm (ak .i64) (b++[a])⟩)],[16]⟩
def T8:AS:=⟨[(0,.sl (lm aW d)),(1,iI v2),(5,.ref 16),(6,iI a),(7,iI f)],[],[(16,⟨3,1,lm (ak .i64) (b++[a])⟩)],[16]⟩
def MZ:AS:=⟨[(0,.sl (lm aW d)),(1,iI v2),(5,.ref 16),(6,iI a)],[],[(16,(bk b))],[16]⟩
abbrev tf:Prop:=∀{a:Int} {b:ck},i a b=some r→LP (Aa M c) (Ae M c r) Jm (cat Tryz.f110 (pn 116)) g (MZ d v2 a b)
abbrev G2:Prop:=∀{f:Int},o f=some r→LP (Aa M c) (Ae M c r) (JP M c r g) (cat Tryz.f110 (pn 14936)) l (T8 d v2 a b f)
variable{M c r d v2 a b f j g l i o}{K:Kn}{n:Nat}
theorem LR(j:am K)(e:tf M c r d v2 g i)(h:Bu K n d v2 a b f i=some r):Ea M c r (kO 3735 :: .b 1::BW M c r g) (Yf d v2 a b f):=by
 unfold Bu at h;exact ag 2 (bn (e h))
theorem T5(s:am K)(q:tf M c r d v2 g i)(w:G2 M c r d v2 a b g l o)(h:uf K n d v2 a b f i o j=some r):Ea M c r (kO 59745::kO 29873::Hy M c r g l) (aaW d v2 a b f j):=by
 unfold uf at h;obtain⟨m,h⟩|⟨m,h⟩:=ao h
 ·refine ah 32 m (bX (ks':=kO 119492::kO 119493 :: .b 3::Hy M c r g l) 4 (ai 2 ?_));obtain⟨x,t,h⟩:=bind_some h;refine aP (GD s t) (ac (cb 4 5 3 2 (ai 3 ?_)));obtain⟨u,h⟩:=aF h;refine au (lx aW d a x 159 (.tmp 36) (some (.tmp 37)) (some (.tmp 38)) 39 (e:=165) (sz:=62) (by kernel_rfl) (by kernel_rfl) (by kernel_rfl) (by kernel_rfl) (by kernel_rfl) (by kernel_rfl) (iR) (fun k y=>by subst y;kernel_rfl) u) ?_;obtain⟨z,v,h⟩:=bind_some h;refine aP (C8 s v) (ac ?_);obtain⟨p,h⟩|⟨p,h⟩:=ao h
  ·exact ah 42 p (ag 6 (LR s q h))
  ·exact ah 42 p (ag 4 (bn (w h)))
 ·exact ah 32 m (ag 5 (LR s q h))
theorem ae3(p:am K)(j:tf M c r d v2 g i)(k:G2 M c r d v2 a b g l o)(h:tk K n d v2 a b i o f=some r):Ea M c r (kO 14936::Hy M c r g l) (T8 d v2 a b f):=by
 unfold tk at h;refine cb 4 5 3 2 (ai 2 (au (bv aW d) (aQ 5 2 ?_)));obtain⟨e,h⟩|⟨e,h⟩:=ao h
 ·refine aD 24 e (aQ 8 3 ?_);obtain⟨m,h⟩:=aF h;exact au (bD aW aW m (iR) aT) (ac (ag 0 (T5 p j k h)))
 ·exact aD 24 e (ac (ag 0 (T5 p j k h)))
theorem aan(j:am K)(e:tf M c r d v2 g i)(m:Nat):G2 M c r d v2 a b g m (ua K n d v2 a b i m):=by
 induction m with
 | zero=>intro f h;cases h
 | succ m k=>intro f h;have h:tk K n d v2 a b i (ua K n d v2 a b i m) f=some r:=h;exact bj (ae3 j e k h)
theorem aeE(l:am K)(k:tf M c r d v2 g i)(h:tO K n d v2 i a b=some r):Ea M c r (kO 116::BW M c r g) (MZ d v2 a b):=by
 unfold tO at h;refine cb 4 5 3 2 (ai 2 (au (bv aW d) (ac ?_)));obtain⟨e,h⟩|⟨e,h⟩:=ao h
 ·refine ah 12 e (bX (ks':=kO 932::kO 933 :: .b 1::BW M c r g) 4 (ai 3 ?_));obtain⟨f,h⟩:=aF h;refine au (cG 16 16 3 1 (ak .i64) (rfl) aT f) (ac (ax 2 3 1 (ai 2 ?_)));obtain⟨m,j,h⟩:=bind_some h;exact aP (GD l j) (ac (ag 2 (ca (p:=pn 7468) n (aan l k n h))))
 ·refine ah 12 e (aJ 8 ?_);cases h;exact fG
theorem ab0(e:am K)(m:Nat):tf M c r d v2 m (u9 K n d v2 m):=by
 induction m with
 | zero=>intro a b h;cases h
 | succ m f=>intro a b h;have h:tO K n d v2 (u9 K n d v2 m) a b=some r:=h;exact bj (aeE e f h)
theorem abc(a:am K)(h:yT K n d v2=some r):aY bb 110 [.sl (lm aW d),iI v2] (fun v s=>v=.ref 16∧look 16 s.r=some (bk r)):=by
 refine bG (cat Tryz.f110 (pn 1)) Tryz.func110 Tryz.ntmps110 fun M c=>(bg ⟨[(0,.sl (lm aW d)),(1,iI v2)],[],[],[]⟩ ?_);unfold yT at h;exact gW 58 0 15 8 (bP [0,1,5,6] [] [] (eW 16 5 3 1 (ag 0 (ca (p:=pn 58) n (ab0 a n h)))))
end
noncomputable section
variable[GS](M:Nat→Prop)(c:aB)(r:Int)(a:aN)(v2 b:Int)  
variable{M c r a v2 b}{K:Kn}{n:Nat}
theorem ac6(g:am K)(h:uV K n a v2 b=some r):aY bb 149 [.agg (aH a),iI v2,iI b] (fun v _=>v=iI r):=by
 refine bG (cat Tryz.f149 (pn 1)) Tryz.func149 Tryz.ntmps149 fun M c=>(bg ⟨[(0,.agg (aH a)),(1,iI v2),(2,iI b)],[],[],[]⟩ ?_);unfold uV at h;refine ax 13 7 5 ?_;obtain⟨d,h⟩|⟨d,h⟩:=ao h
 ·refine ah 9 d (aJ 5 ?_);cases h;exact bw
 ·refine ah 9 d (FS 21 0 3 8 ?_);obtain⟨e,h⟩|⟨e,h⟩:=ao h
  ·refine ah 12 e (aJ 6 ?_);cases h;exact bw
  ·refine ah 12 e (br 7 3 ?_);obtain⟨f,h⟩|⟨f,h⟩:=ao h
   ·refine ah 18 f (aJ 6 ?_);cases h;exact bw
   ·refine ah 18 f (aJ 6 ?_);cases h;exact bw
end
noncomputable section
variable[GS](M:Nat→Prop)(a:aB)(r:Bool)(b v2:ByteArray)(c:Bool)  
abbrev afr(n:Nat):aq:=.c (cat Tryz.f173 (pn n))
abbrev Z5:Cx:=⟨bb,21,M,a⟩
abbrev Yv:=bodyPost bb Tryz.f173 (bI M a (fun v _=>v=.bool r))
abbrev ahX(b:dt)(s:AS):=VE (Z5 M a) (Yv M a r) b .normal s
def ahK:AS:=⟨[(4,.bool c)],[],[],[]⟩
variable{M a r b v2 c}{K:Kn}{n:Nat}
theorem UH(b:am K)(h:A8 K n c=some r):ahX M a r [afr 7] (ahK c):=by
 unfold A8 at h;refine aJ 1 ?_;cases h;exact bw
theorem ad6(d:am K)(h:Cp K n b v2=some r):aY bb 173 [.str b,.str v2] (fun v _=>v=.bool r):=by
 refine bG (cat Tryz.f173 (pn 1)) Tryz.func173 Tryz.ntmps173 fun M a=>(bg ⟨[(0,.str b),(1,.str v2)],[],[],[]⟩ ?_);unfold Cp at h;refine ax 6 7 3 (ai 6 ?_);obtain⟨c,h⟩|⟨c,h⟩:=ao h
 ·refine aD 10 c (aQ 12 6 ?_);obtain⟨e,h⟩:=aF h;exact au (CI e) (ac (ag 0 (UH d h)))
 ·exact aD 10 c (ac (ag 0 (UH d h)))
end
noncomputable section
variable[GS](M:Nat→Prop)(b:aB)(r:Bool)(a v2:ByteArray)  
variable{M b r a v2}{K:Kn}{n:Nat}
theorem WC(d:am K)(h:yH K n a v2=some r):aY bb 151 [.str a,.str v2] (fun v _=>v=.bool r):=by
 refine bG (cat Tryz.f151 (pn 1)) Tryz.func151 Tryz.ntmps151 fun M b=>(bg ⟨[(0,.str a),(1,.str v2)],[],[],[]⟩ ?_);unfold yH at h;refine ax 6 7 3 (ai 2 ?_);obtain⟨e,c,h⟩:=bind_some h;refine aP (ad6 d c) (ac (aJ 1 ?_));cases h;exact bw
end
noncomputable section
variable[GS](M:Nat→Prop)(j:aB)(r:ae)(f:d7)(v2:aN)(i e k q w x c d g:Int)(o:dn)(y:Bool)(a:az)(z:dn)(b:Int)(l:dn)(A t B:Nat)(C:Int→Int→Int→Option ae)(u:Int→Int→dn→Option ae)(D:Int→dn→Option ae)
abbrev rC:Cx:=⟨bb,156,M,j⟩
abbrev qO:=bodyPost bb Tryz.f111 (bI M j (fun v s=>v=.agg (List.set (aG ({ r with Kids:=[] }:ae)) 66 (.ref 114))∧look 114 s.r=some (bx r.Kids)))
abbrev rp(a:dt)(s:AS):=VE (rC M j) (qO M j r) a .normal s
abbrev eQ(n:Nat):aq:=.c (cat Tryz.f111 (pn n))
abbrev HD:dt:=[.b 2,eQ 255]
abbrev tx:dt:=kl (rC M j) (qO M j r) HD (cat Tryz.f111 (pn 2036)) t::HD
abbrev Ko:dt:=[.b 0,eQ 15]
abbrev Md:dt:=kl (rC M j) (qO M j r) Ko (cat Tryz.f111 (pn 116)) A::Ko
abbrev Jx:dt:=.b 4::eQ 521423 :: .b 3::eQ 16295::tx M j r t
abbrev HT:dt:=kl (rC M j) (qO M j r) (Jx M j r t) (cat Tryz.f111 (pn 4171380)) B::(Jx M j r t)
def aaO:AS:=⟨[(0,.sl (lm aW f)),(2,iI i),(4,.ptr 4 0),(6,.ptr 6 0),(7,iI w),(8,iI x),(24,.sl (lm aW f)),(25,iI (f.length:Int)),(26,iI q)],[(4,aH v2),(6,List.set (aG bT) 66 (.nils))],[],[4,6]⟩
def SD:AS:=⟨[(6,.ptr 6 0),(7,iI e),(11,.ptr 11 0),(12,iI d),(13,iI c),(15,.ptr 15 0),(56,.sl (lm aW f)),(57,iI (f.length:Int)),(58,iI g),(117,.sl (lm aM a.Box)),(118,iI (a.Box.length:Int)),(119,iI b)],[(6,List.set (aG bT) 66 (.nils)),(11,List.set (aG ({ bT with Kind:=2,W:=i,H:=(aa (e+k)),aB:=e,Style:=v2 }:ae)) 66 (.ref 114)),(15,aW a)],[(114,(bx l))],[6,11,15,114]⟩
def agW:AS:=⟨[(6,.ptr 6 0),(7,iI e),(11,.ptr 11 0),(12,iI d),(13,iI c),(15,.ptr 15 0),(56,.sl (lm aW f)),(57,iI (f.length:Int)),(58,iI g)],[(6,List.set (aG bT) 66 (.nils)),(11,List.set (aG ({ bT with Kind:=2,W:=i,H:=(aa (e+k)),aB:=e,Style:=v2 }:ae)) 66 (.ref 114)),(15,aW a)],[(114,(bx z))],[6,11,15,114]⟩
def ajd:AS:=⟨[(6,.ptr 6 0),(7,iI e),(11,.ptr 11 0),(12,iI d),(13,iI c),(15,.ptr 15 0),(56,.sl (lm aW f)),(57,iI (f.length:Int)),(58,iI g)],[(6,List.set (aG bT) 66 (.nils)),(11,List.set (aG ({ bT with Kind:=2,W:=i,H:=(aa (e+k)),aB:=e,Style:=v2 }:ae)) 66 (.ref 114)),(15,aW a)],[(114,(bx o))],[6,11,15,114]⟩
def af8:AS:=⟨[(6,.ptr 6 0),(7,iI e),(11,.ptr 11 0),(12,iI d),(13,iI c),(15,.ptr 15 0),(56,.sl (lm aW f)),(57,iI (f.length:Int)),(58,iI g),(76,.bool y)],[(6,List.set (aG bT) 66 (.nils)),(11,List.set (aG ({ bT with Kind:=2,W:=i,H:=(aa (e+k)),aB:=e,Style:=v2 }:ae)) 66 (.ref 114)),(15,aW (gD f g))],[(114,(bx o))],[6,11,15,114]⟩
def OW:AS:=⟨[(6,.ptr 6 0),(7,iI e),(11,.ptr 11 0),(12,iI d),(13,iI c),(56,.sl (lm aW f)),(57,iI (f.length:Int)),(58,iI g)],[(6,List.set (aG bT) 66 (.nils)),(11,List.set (aG ({ bT with Kind:=2,W:=i,H:=(aa (e+k)),aB:=e,Style:=v2 }:ae)) 66 (.ref 114))],[(114,(bx o))],[6,11,114]⟩
def Rq:AS:=⟨[(0,.sl (lm aW f)),(2,iI i),(4,.ptr 4 0),(6,.ptr 6 0),(7,iI e),(8,iI k),(24,.sl (lm aW f)),(25,iI (f.length:Int)),(26,iI q)],[(4,aH v2),(6,List.set (aG bT) 66 (.nils))],[],[4,6]⟩
abbrev I3:Prop:=∀{e:Int} {k:Int} {q:Int},C e k q=some r→LP (rC M j) (qO M j r) Ko (cat Tryz.f111 (pn 116)) A (Rq f v2 i e k q)
abbrev rT:Prop:=∀{d:Int} {g:Int} {o:dn},u d g o=some r→LP (rC M j) (qO M j r) HD (cat Tryz.f111 (pn 2036)) t (OW f v2 i e k c d g o)
abbrev Nw:Prop:=∀{b:Int} {l:dn},D b l=some r→LP (rC M j) (qO M j r) (Jx M j r t) (cat Tryz.f111 (pn 4171380)) B (SD f v2 i e k c d g a b l)
variable{M j r f v2 i e k q w x c d g o y a z b l A t B C u D}{K:Kn}{n:Nat}
theorem T6(b:am K)(a:I3 M j r f v2 i A C)(h:Ad K n f v2 i q C w x=some r):rp M j r (.b 1::eQ 935::Md M j r A) (aaO f v2 i q w x):=by
 unfold Ad at h;exact ag 2 (bn (a h))
theorem aar(Z:am K)(X:rT M j r f v2 i e k c t u)(Y:Nw M j r f v2 i e k c d g a t B D)(h:ub K n f v2 i e k c d g a u D b l=some r):rp M j r (eQ 4171380::HT M j r t B) (SD f v2 i e k c d g a b l):=by
 unfold ub at h;refine ax 6 7 3 ?_;obtain⟨A,h⟩|⟨A,h⟩:=ao h
 ·refine ah 120 A (cL 8 9 5 3 5 (ai 0 ?_));obtain⟨F,h⟩:=aF h;refine au (bD aM aG F (ku) (dH)) (ac ?_);obtain⟨o,G,h⟩:=bU h;obtain⟨p,I,h⟩:=bU h;obtain⟨q,J,h⟩:=bU h;obtain⟨s,L,h⟩:=bU h;obtain⟨v,N,h⟩:=bU h;obtain⟨w,O,h⟩:=bU h;obtain⟨x,P,h⟩:=bU h;obtain⟨m,Q,h⟩:=bU h;obtain⟨y,R,h⟩:=bU h;obtain⟨z,S,h⟩:=bU h;refine bA (ks':=eQ 533936742::eQ 533936743 :: .b 5::eQ 33371047::HT M j r t B) 3 ⟨[(6,.ptr 6 0),(7,iI e),(11,.ptr 11 0),(12,iI d),(13,iI c),(15,.ptr 15 0),(18,.ptr 18 0),(56,.sl (lm aW f)),(57,iI (f.length:Int)),(58,iI g),(117,.sl (lm aM a.Box)),(118,iI (a.Box.length:Int)),(119,iI b)],[(6,List.set (aG bT) 66 (.nils)),(11,List.set (aG ({ bT with Kind:=2,W:=i,H:=(aa (e+k)),aB:=e,Style:=v2 }:ae)) 66 (.ref 114)),(15,aW a),(18,aG (⟨o,p,q,(gD a.Box b).Y,(gD a.Box b).W,(gD a.Box b).H,s,v,w,x,m,y,z⟩:ae))],[(114,(bx l))],[6,11,15,18,114]⟩ ?_ (by subst S;subst R;subst Q;subst P;subst O;subst N;subst L;subst J;subst I;subst G;kernel_rfl)
  obtain⟨C,T,h⟩:=bind_some h;refine bQ 1 (nu 128 [.ptr 18 3,iI ((gD a.Box b).Y),iI e,.ptr 18 5,iI ((gD a.Box b).H),iI (aa (e-((gD a.Box b).H))),.ptr 18 63,.agg (cS m),iI C,iI (aa ((aa (e-((gD a.Box b).H)))-C)),iI (aa (((gD a.Box b).Y)+(aa ((aa (e-((gD a.Box b).H)))-C)))),.ptr 18 3]) [] [] [cf bb 156 Tryz.f111 (pn 533936742) 12] (ay (vz 8) (aj (cv 0 1 136 (mV Z T)) (ay (vz 3) (aj (cg 0) bR)))) ?_;obtain⟨E,U,h⟩:=bU h;refine bA (ks':=eQ 533936743 :: .b 5::eQ 33371047::HT M j r t B) 0 ⟨[(6,.ptr 6 0),(7,iI e),(11,.ptr 11 0),(12,iI d),(13,iI c),(15,.ptr 15 0),(18,.ptr 18 0),(56,.sl (lm aW f)),(57,iI (f.length:Int)),(58,iI g),(117,.sl (lm aM a.Box)),(118,iI (a.Box.length:Int)),(119,iI b)],[(6,List.set (aG bT) 66 (.nils)),(11,List.set (aG ({ bT with Kind:=2,W:=i,H:=(aa (e+k)),aB:=e,Style:=v2 }:ae)) 66 (.ref 114)),(15,aW a),(18,aG (⟨o,p,q,E,(gD a.Box b).W,(gD a.Box b).H,s,v,w,x,m,y,z⟩:ae))],[(114,(bx l))],[6,11,15,18,114]⟩ ?_ (by subst U;kernel_rfl)
  refine ai 3 (au (gt aM ([(⟨o,p,q,E,(gD a.Box b).W,(gD a.Box b).H,s,v,w,x,m,y,z⟩:ae)]:dn) (new:=[aG (⟨o,p,q,E,(gD a.Box b).W,(gD a.Box b).H,s,v,w,x,m,y,z⟩:ae)]) (by simp only[rl,Db,dH])) ?_);obtain⟨V,h⟩:=aF h;exact au (cG 144 114 44 67 aM (rfl) (ku) V) (ac (ag 2 (bn (Y h))))
 ·exact ah 120 A (ag 8 (bn (X h)))
theorem ah8(p:am K)(o:rT M j r f v2 i e k c t u)(m:Nat):Nw M j r f v2 i e k c d g a t m (tN K n f v2 i e k c d g a u m):=by
 induction m with
 | zero=>intro b l h;cases h
 | succ m q=>intro b l h;have h:ub K n f v2 i e k c d g a u (tN K n f v2 i e k c d g a u m) b l=some r:=h;exact bj (aar p o q h)
theorem Ly(l:am K)(b:rT M j r f v2 i e k c t u)(h:sa K n f v2 i e k c d g a u z=some r):rp M j r (eQ 260711 :: .b 3::eQ 16295::tx M j r t) (agW f v2 i e k c d g a z):=by
 unfold sa at h;exact cb 4 5 3 2 (ai 2 (au (bv aM a.Box) (ac (ag 1 (ca (p:=pn 2085690) n (ah8 l b n h))))))
theorem Mr(x:am K)(w:rT M j r f v2 i e k c t u)(h:oq K n f v2 i e k c d g o u a=some r):rp M j r (eQ 130355 :: .b 3::eQ 16295::tx M j r t) (ajd f v2 i e k c d g o a):=by
 unfold oq at h;obtain⟨z,y,h⟩:=bU h;refine bA (ks':=eQ 521421::eQ 260711 :: .b 3::eQ 16295::tx M j r t) 3 ⟨[(6,.ptr 6 0),(7,iI e),(11,.ptr 11 0),(12,iI d),(13,iI c),(15,.ptr 15 0),(56,.sl (lm aW f)),(57,iI (f.length:Int)),(58,iI g),(88,.bool z)],[(6,List.set (aG bT) 66 (.nils)),(11,List.set (aG ({ bT with Kind:=2,W:=i,H:=(aa (e+k)),aB:=e,Style:=v2 }:ae)) 66 (.ref 114)),(15,aW a)],[(114,(bx o))],[6,11,15,114]⟩ ?_ (by subst y;kernel_rfl);obtain⟨p,h⟩|⟨p,h⟩:=ao h
 ·refine ah 88 p (br 5 3 (bP [6,7,11,12,13,15,16,56,57,58] [6,11,15] [114] ?_));obtain⟨b,q,h⟩:=bind_some h;obtain⟨l,s,h⟩:=bind_some h;obtain⟨v,h⟩:=aF h;exact bQ 2 (nu 92 [.ptr 11 66,.ref 114,.ptr 15 0,iI a.Node,.ptr 15 2,.agg (aH a.Style),.ptr 15 1,.str a.Text,iI d,iI e,iI a.Style.FontSize,iI b,iI (aa (e-b)),.ptr 15 55,iI a.Width,.ptr 15 56,iI a.Space,iI (aa (a.Width+a.Space)),iI a.Style.FontSize,iI l,.agg (List.set (aG (⟨3,a.Node,d,(aa (e-b)),(aa (a.Width+a.Space)),l,0,a.Text,a.Style,dB,dB,false,[]⟩:ae)) 66 (.nils)),.sl (lm aM [(⟨3,a.Node,d,(aa (e-b)),(aa (a.Width+a.Space)),l,0,a.Text,a.Style,dB,dB,false,[]⟩:ae)])]++nu 115 [.ptr 11 66]) [] [] [g9 114 114 ⟨44,67,lm aM (o++[(⟨3,a.Node,d,(aa (e-b)),(aa (a.Width+a.Space)),l,0,a.Text,a.Style,dB,dB,false,[]⟩:ae)])⟩,cf bb 156 Tryz.f111 (pn 2085685) 24] (ay [.v 0 2,.v 0 1,.v 0 2,.v 0 2,.v 0 2,.v 0 2,.v 0 2,.v 0 2,.v 0 2,.v 0 2,.v 0 2] (aj (cv 0 2 103 (RP x q)) (ay [.v 0 2,.v 0 2,.v 0 2,.v 0 2,.v 0 2,.v 0 2,.v 0 2] (aj (cv 0 1 111 (Ut x s)) (ay [.v 0 2] (bh (gt aM ([(⟨3,a.Node,d,(aa (e-b)),(aa (a.Width+a.Space)),l,0,a.Text,a.Style,dB,dB,false,[]⟩:ae)]:dn) (new:=[aG (⟨3,a.Node,d,(aa (e-b)),(aa (a.Width+a.Space)),l,0,a.Text,a.Style,dB,dB,false,[]⟩:ae)]) (by simp only[rl,Db,dH])) (aj (dp (m:=0) (cG 114 114 44 67 aM (rfl) (ku) v)) (ay [.v 1 1] (aj (cg 1) bR))))))))) (ag 0 (Ly x w h))
 ·exact ah 88 p (ag 2 (Ly x w h))
theorem KG(m:am K)(b:rT M j r f v2 i e k c t u)(h:o8 K n f v2 i e k c d g o u y=some r):rp M j r (eQ 260709::eQ 130355 :: .b 3::eQ 16295::tx M j r t) (af8 f v2 i e k c d g o y):=by
 unfold o8 at h;obtain⟨a,h⟩|⟨a,h⟩:=ao h
 ·refine ah 76 a (ax 4 5 2 (ai 6 ?_));obtain⟨l,h⟩:=aF h;exact au (CI l) (ac (ag 1 (Mr m b h)))
 ·exact ah 76 a (ag 2 (Mr m b h))
theorem aec(p:am K)(m:rT M j r f v2 i e k c t u)(h:vg K n f v2 i e k c u d g o=some r):rp M j r (eQ 2036::tx M j r t) (OW f v2 i e k c d g o):=by
 unfold vg at h;refine ax 6 7 3 ?_;obtain⟨a,h⟩|⟨a,h⟩:=ao h
 ·refine ah 59 a (cL 8 9 3 3 5 (ai 1 ?_));obtain⟨q,h⟩:=aF h;refine au (bD aW aW q (iR) aT) (ac (cb 4 5 3 2 (ai 4 ?_)));obtain⟨b,h⟩|⟨b,h⟩:=ao h
  ·refine aD 66 b (aQ 6 2 ?_);obtain⟨v,s,h⟩:=bind_some h;refine aP (WC p s) (aQ 9 2 ?_);obtain⟨l,h⟩|⟨l,h⟩:=ao h
   ·exact aD 71 l (ac (ag 0 (KG p m h)))
   ·exact aD 71 l (ac (ag 0 (KG p m h)))
  ·exact aD 66 b (ac (ag 0 (KG p m h)))
 ·refine ah 59 a (aJ 8 ?_);cases h;exact fG
theorem afh(a:am K)(m:Nat):rT M j r f v2 i e k c m (mJ K n f v2 i e k c m):=by
 induction m with
 | zero=>intro d g o h;cases h
 | succ m b=>intro d g o h;have h:vg K n f v2 i e k c (mJ K n f v2 i e k c m) d g o=some r:=h;exact bj (aec a b h)
theorem ZP(a:am K)(b:I3 M j r f v2 i A C)(h:tr K n f v2 i C e k q=some r):rp M j r (eQ 116::Md M j r A) (Rq f v2 i e k q):=by
 unfold tr at h;refine ax 6 7 3 ?_;obtain⟨l,h⟩|⟨l,h⟩:=ao h
 ·refine ah 27 l (cL 8 9 1 3 5 (ai 0 ?_));obtain⟨t,h⟩:=aF h;refine au (bD aW aW t (iR) aT) (ac (br 3 2 ?_));obtain⟨m,h⟩|⟨m,h⟩:=ao h
  ·exact ah 32 m (br 2 1 (bP [0,2,4,6,7,8,10,24,25,26] [4,6,10] [] (bQ 2 (nu 33 [iI e,.ptr 10 57,iI ((gD f q).Above),iI (max e ((gD f q).Above)),iI k,.ptr 10 58,iI ((gD f q).Below),iI (max k ((gD f q).Below))]) [] [] [cf bb 156 Tryz.f111 (pn 14950) 8,cf bb 156 Tryz.f111 (pn 14950) 9] (ay [.v 0 1,.v 0 1,.v 0 1,.v 0 1,.v 0 2,.v 0 2,.v 0 2,.v 0 2] (aj (cg 0) (aj (cg 1) bR))) (ag 0 (T6 a b h)))))
  ·exact ah 32 m (ag 2 (T6 a b h))
 ·refine ah 27 l (gg 6 7 8 (bP [0,2,4,6,7,11] [4,6,11] [] ?_));obtain⟨o,u,h⟩:=bind_some h;obtain⟨s,d,h⟩:=bind_some h;refine bQ 1 (nu 49 [.agg (aH v2),iI i,.sl (lm aW f),iI o,iI s]) [] [] [cf bb 156 Tryz.f111 (pn 62) 5] (ay (vz 3) (aj (cv 0 1 52 (C8 a u)) (aj (cv 0 1 53 (ac6 a d)) (aj (cg 0) bR)))) (ax 2 3 1 (ai 1 ?_));obtain⟨c,g,h⟩:=bind_some h;exact aP (LS a g) (ac (cb 4 5 3 2 (ai 1 (au (bv aW f) (ac (gT 2 2 1 (bP [6,7,11,12,13,56,57,58] [6,11] [] (Ca 114 11 66 44 67 (ag 0 (ca (p:=pn 1018) n (afh a n h)))))))))))
theorem Ya(a:am K)(m:Nat):I3 M j r f v2 i m (tT K n f v2 i m):=by
 induction m with
 | zero=>intro e k q h;cases h
 | succ m b=>intro e k q h;have h:tr K n f v2 i (tT K n f v2 i m) e k q=some r:=h;exact bj (ZP a b h)
theorem ag4(a:am K)(h:Ec K n f v2 i=some r):aY bb 111 [.sl (lm aW f),.agg (aH v2),iI i] (fun v s=>v=.agg (List.set (aG ({ r with Kids:=[] }:ae)) 66 (.ref 114))∧look 114 s.r=some (bx r.Kids)):=by
 refine bG (cat Tryz.f111 (pn 1)) Tryz.func111 Tryz.ntmps111 fun M j=>(bg ⟨[(0,.sl (lm aW f)),(1,.agg (aH v2)),(2,iI i)],[],[],[]⟩ ?_);unfold Ec at h;refine ax 6 7 3 (ai 1 ?_);obtain⟨v4,b,h⟩:=bind_some h;exact aP (Je a b) (ac (cb 4 5 3 2 (ai 1 (au (bv aW f) (ac (ag 1 (ca (p:=pn 58) n (Ya a n h))))))))
end
noncomputable section
variable[GS](M:Nat→Prop)(g:aB)(r:dn×Int)(o:d6)(v2:aN)(f:Int)(v4:bz)(v5:d7)(v6:ck)(b c a:Int)(d:dn)(j:Nat)(l:Int→Int→Int→dn→Option (dn×Int))
abbrev JR:Cx:=⟨bb,61,M,g⟩
abbrev IG:=bodyPost bb Tryz.f53 (bI M g (fun v s=>v=.tup [.ref 57,iI r.2]∧look 57 s.r=some (bx r.1)))
abbrev afz(a:dt)(s:AS):=VE (JR M g) (IG M g r) a .normal s
abbrev LL(n:Nat):aq:=.c (cat Tryz.f53 (pn n))
abbrev Gm:dt:=[.b 0,LL 63]
abbrev ZM:dt:=kl (JR M g) (IG M g r) Gm (cat Tryz.f53 (pn 500)) j::Gm
def Oj:AS:=⟨[(2,iI (min (max f 0) 1048576)),(5,.ptr 5 0),(8,.ref 57),(9,iI b),(10,.sl (lm aW v5)),(11,.ref 1023),(30,iI c),(31,iI a)],[(5,aH v2)],[(57,(bx d)),(1023,⟨3,1,lm (ak .i64) (v6++[(v5.length:Int)])⟩)],[5,57,1023]⟩
abbrev Ps:Prop:=∀{b:Int} {c:Int} {a:Int} {d:dn},l b c a d=some r→LP (JR M g) (IG M g r) Gm (cat Tryz.f53 (pn 500)) j (Oj v2 f v5 v6 b c a d)
variable{M g r o v2 f v4 v5 v6 b c a d j l}{K:Kn}{n:Nat}
theorem akm(w:am K)(v:Ps M g r v2 f v5 v6 j l)(h:uF K n v2 f v5 v6 l b c a d=some r):afz M g r (LL 500::ZM M g r j) (Oj v2 f v5 v6 b c a d):=by
 unfold uF at h;refine ax 6 7 3 ?_;obtain⟨o,h⟩|⟨o,h⟩:=ao h
 ·refine ah 32 o (cL 18 19 1 3 7 (bP [2,5,8,9,10,11,12,30,31] [5] [57,1023] ?_));obtain⟨p,h⟩:=aF h;obtain⟨q,h⟩:=aF h;obtain⟨s,h⟩:=aF h;obtain⟨m,t,h⟩:=bind_some h;refine bQ 1 (nu 34 [.sl (lm aW v5),.ref 1023,iI a,.eptr 1023 1 (a.toNat) 0,iI (gD (v6++[(v5.length:Int)]) a),.ref 1023,iI a,iI (aa (a+1)),.eptr 1023 1 (((aa (a+1))).toNat) 0,iI (gD (v6++[(v5.length:Int)]) ((aa (a+1)))),.sl (lm aW (List.drop ((gD (v6++[(v5.length:Int)]) a)).toNat (List.take ((gD (v6++[(v5.length:Int)]) ((aa (a+1))))).toNat v5))),.agg (aH v2),iI (min (max f 0) 1048576),.agg (List.set (aG ({ m with Kids:=[] }:ae)) 66 (.ref 47))]++nu 13 [.ptr 13 0]) [(13,List.set (aG bT) 66 (.nils))] [(47,(bx m.Kids))] [cf bb 61 Tryz.f53 (pn 32050) 15] (ay (vz 3) (bh (cN 1023 1 (ak .i64) (L:=(v6++[(v5.length:Int)])) p) (bh (bJ 3 0 (ak .i64) (ak .i64) (bF p).2 aT) (ay (vz 3) (bh (cN 1023 1 (ak .i64) (L:=(v6++[(v5.length:Int)])) q) (bh (bJ 3 0 (ak .i64) (ak .i64) (bF q).2 aT) (bh (lx aW v5 (gD (v6++[(v5.length:Int)]) a) (gD (v6++[(v5.length:Int)]) ((aa (a+1)))) 159 (.tmp 34) (some (.tmp 38)) (some (.tmp 43)) 44 (e:=165) (sz:=62) (by kernel_rfl) (by kernel_rfl) (by kernel_rfl) (by kernel_rfl) (by kernel_rfl) (by kernel_rfl) (iR) (fun k x=>by subst x;kernel_rfl) s) (ay (vz 2) (aj (FZ 0 1 47 (ag4 w t) (Dw (i:=66) (by kernel_rfl))) (aj (rG 0 1 44 13 (List.set (aG bT) 66 (.nils))) (aj (cg 0) bR))))))))))) (br 7 4 (ai 2 (mM 47 (au (gt aM ([({ m with Y:=b }:ae)]:dn) (new:=[aG ({ m with Y:=b }:ae)]) (by simp only[rl,Db,dH])) ?_))))
  obtain⟨u,h⟩:=aF h;exact au (cG 57 57 44 67 aM (rfl) (ku) u) (ac (ag 2 (bn (v h))))
 ·refine ah 32 o (aJ 8 ?_);cases h;exact pE
theorem afg(e:am K)(m:Nat):Ps M g r v2 f v5 v6 m (wg K n v2 f v5 v6 m):=by
 induction m with
 | zero=>intro b c a d h;cases h
 | succ m i=>intro b c a d h;have h:uF K n v2 f v5 v6 (wg K n v2 f v5 v6 m) b c a d=some r:=h;exact bj (akm e i h)
theorem Wl(a:am K)(h:xU K n o v2 f v4=some r):aY bb 53 [.sl (lm aL o),.agg (aH v2),iI f,.agg (bL v4)] (fun v s=>v=.tup [.ref 57,iI r.2]∧look 57 s.r=some (bx r.1)):=by
 refine bG (cat Tryz.f53 (pn 1)) Tryz.func53 Tryz.ntmps53 fun M g=>(bg ⟨[(0,.sl (lm aL o)),(1,.agg (aH v2)),(2,iI f),(3,.agg (bL v4))],[],[],[]⟩ ?_);unfold xU at h;refine ax 14 15 5 (ai 3 ?_);obtain⟨v5,b,h⟩:=bind_some h;refine fg 1020 (aaN a b) (ff 1009) (ac (ax 2 3 1 (ai 2 (mM 1020 ?_))));obtain⟨v6,c,h⟩:=bind_some h;refine fg 1023 (abc a c) (ff 16) (aQ 4 1 (au (bv aW v5) (aQ 6 1 ?_)));obtain⟨d,h⟩:=aF h;exact au (cG 27 1023 3 1 (ak .i64) (rfl) aT d) (ac (cb 4 5 3 2 (ai 1 (au (bv (ak .i64) (v6++[(v5.length:Int)])) (ac (gT 2 0 1 (bP [2,5,8,9,10,11,30,31] [5] [1023] (eW 57 8 44 67 (ag 0 (ca (p:=pn 250) n (afg a n h)))))))))))
end
noncomputable section
variable[GS](M:Nat→Prop)(c:aB)(r:dn×Int)(a:d6)(v2:aN)(b:Int)(v4:bz)  
variable{M c r a v2 b v4}{K:Kn}{n:Nat}
theorem ad9(e:am K)(h:wU K n a v2 b v4=some r):aY bb 52 [.sl (lm aL a),.agg (aH v2),iI b,.cptr (bL v4)] (fun v s=>v=.tup [.ref 1013,iI r.2]∧look 1013 s.r=some (bx r.1)):=by
 refine bG (cat Tryz.f52 (pn 1)) Tryz.func52 Tryz.ntmps52 fun M c=>(bg ⟨[(0,.sl (lm aL a)),(1,.agg (aH v2)),(2,iI b),(3,.cptr (bL v4))],[],[],[]⟩ ?_);unfold wU at h;refine ax 6 7 3 (ai 4 ?_);obtain⟨v5,d,h⟩:=bind_some h;refine fg 1013 (Wl e d) (D1 (i:=0) rfl) (ac (aJ 1 ?_));cases h;exact pE
end
noncomputable section
variable[GS](M:Nat→Prop)(d:aB)(r:az×ck)(a:ab)(v2:bz)(b:ck)  
variable{M d r a v2 b}{K:Kn}{n:Nat}
theorem X7(g:am K)(h:D8 K n a v2 b=some r):iX bb 113 [.agg (aA a),.cptr (bL v2),.ptr 1 0] [(1,[.ref 9])] 9 (bk b) [9,1,1000001] (fun v s=>v=.agg (aW r.1)∧cq s.o [(1,[.ref 9])]∧look 9 s.r=some (bk r.2)):=by
 refine lA (c:=cat Tryz.f113 (pn 1)) Tryz.func113 (by kernel_rfl) _ Tryz.ntmps113 (lc (by kernel_rfl)) fun M d=>(bg ⟨[(0,.agg (aA a)),(1,.cptr (bL v2)),(2,.ptr 1 0)],[(1,[.ref 9])],[(9,(bk b))],[9,1,1000001]⟩ ?_);unfold D8 at h;refine ax 6 7 3 (ai 3 ?_);obtain⟨v4,e,h⟩:=bind_some h;refine kG (g.gy e) (ac (ax 2 3 1 (ai 3 ?_)));obtain⟨f,h⟩:=aF h;refine au (cG 17 9 3 1 (ak .i64) (rfl) aT f) (ac (aJ 3 (nL 4 ?_)));cases h;exact ex
end
noncomputable section
variable[GS](M:Nat→Prop)(d:aB)(r:az×Int×ck)(a:ab)(v2:Int)(b:ck)  
variable{M d r a v2 b}{K:Kn}{n:Nat}
theorem Yd(f:am K)(h:EE K n a v2 b=some r):iX bb 114 [.agg (aA a),.ptr 1 0,.ptr 2 0] [(1,[iI v2]),(2,[.ref 9])] 9 (bk b) [9,1,2,1000001,1000002] (fun v s=>v=.agg (aW r.1)∧cq s.o [(1,[iI r.2.1]),(2,[.ref 9])]∧look 9 s.r=some (bk r.2.2)):=by
 refine lA (c:=cat Tryz.f114 (pn 1)) Tryz.func114 (by kernel_rfl) _ Tryz.ntmps114 (lc (by kernel_rfl)) fun M d=>(bg ⟨[(0,.agg (aA a)),(1,.ptr 1 0),(2,.ptr 2 0)],[(1,[iI v2]),(2,[.ref 9])],[(9,(bk b))],[9,1,2,1000001,1000002]⟩ ?_);unfold EE at h;refine ax 14 15 5 (ai 3 ?_);obtain⟨e,h⟩:=aF h;refine au (cp 9 1 (ak .i64) e) (au (bJ 3 0 (ak .i64) (ak .i64) (bF e).2 aT) (ac (aJ 1 (nL 4 ?_))));cases h;exact ex
end
end Go.Proofs.YtocgkfoifehcbaaGreat

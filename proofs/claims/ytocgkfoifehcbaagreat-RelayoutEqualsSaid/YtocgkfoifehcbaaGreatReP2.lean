/- The runs of the functions that RelayoutEquals reaches do what their plain forms say, part 2. Made by a program. -/
import Derived.Test.YtocgkfoifehcbaaGreatReP1
namespace Go.Proofs.YtocgkfoifehcbaaGreat
noncomputable section
open Go.RowKit
set_option maxRecDepth 20000
set_option linter.all false
section
def anA:=@Tryz.ntmps112
def anC:=@Tryz.func112
variable[GS](M:Nat→Prop)(e:aC)(r:Int×d6)(d:dO)(v2:Int)(A:d6)(B:Nat)(a f:Int)(k:d6)(i o:Nat)(l:d6)(t:Int)(u:d6)(w:Int)(x:d6)(j y:Nat)(q:Int→Int→d6→Option (Int×d6))(z:Nat→d6→Option (Int×d6))
abbrev zM:Cx:=⟨bb,69,M,e⟩
abbrev z9:=bodyPost bb Tryz.f175 (bR M e (fun v s=>v=be∧cw s.o [(1,[iI r.1]),(2,[.fno 175 [.ptr 1 0,.ptr 2 0,.ptr 3 0]]),(3,[.ref 9])]∧look 9 s.r=some (b6 r.2)))
abbrev BJ(a:dn)(s:AS):=VE (zM M e) (z9 M e r) a .normal s
abbrev jq(n:Nat):aq:=.c (cat Tryz.f175 (pn n))
abbrev Ky:dn:=[.b 0]
abbrev oU:dn:=kl (zM M e) (z9 M e r) Ky (cat Tryz.f175 (pn 12)) j::Ky
abbrev Ki:dn:=.b 3 :: .b 2 :: .b 1::jq 103::oU M e r j
abbrev M6:dn:=kl (zM M e) (z9 M e r) (Ki M e r j) (cat Tryz.f175 (pn 26867700)) y::(Ki M e r j)
def afd:AS:=⟨[(0,.sl (lm aM d)),(1,.ptr 1 0),(2,.ptr 2 0),(3,.ptr 3 0),(10,iI (d.length:Int)),(11,iI a)],[(1,[iI w]),(2,[.fno 175 [.ptr 1 0,.ptr 2 0,.ptr 3 0]]),(3,[.ref 9])],[(9,(b6 x))],[1,2,3,9,1000001,1,1000002,2,1000003,3]⟩
def Yw:AS:=⟨[(0,.sl (lm aM d)),(1,.ptr 1 0),(2,.ptr 2 0),(3,.ptr 3 0),(10,iI (d.length:Int)),(11,iI a)],[(1,[iI t]),(2,[.fno 175 [.ptr 1 0,.ptr 2 0,.ptr 3 0]]),(3,[.ref 9])],[(9,(b6 u))],[1,2,3,9,1000001,1,1000002,2,1000003,3]⟩
def Ow:AS:=⟨[(0,.sl (lm aM d)),(1,.ptr 1 0),(2,.ptr 2 0),(3,.ptr 3 0),(6,.cptr (az (gD d a))),(10,iI (d.length:Int)),(11,iI a),(58,.sit 320058 i ((gD d a).Text) o)],[(1,[iI (aa (f+1))]),(2,[.fno 175 [.ptr 1 0,.ptr 2 0,.ptr 3 0]]),(3,[.ref 9])],[(9,(b6 l))],[1,2,3,9,320058,1000001,1,1000002,2,1000003,3]⟩
def Um:AS:=⟨[(0,.sl (lm aM d)),(1,.ptr 1 0),(2,.ptr 2 0),(3,.ptr 3 0),(10,iI (d.length:Int)),(11,iI a)],[(1,[iI f]),(2,[.fno 175 [.ptr 1 0,.ptr 2 0,.ptr 3 0]]),(3,[.ref 9])],[(9,(b6 k))],[1,2,3,9,1000001,1,1000002,2,1000003,3]⟩
abbrev rK:Prop:=∀{a:Int} {f:Int} {k:d6},q a f k=some r→LP (zM M e) (z9 M e r) Ky (cat Tryz.f175 (pn 12)) j (Um d a f k)
abbrev T1:Prop:=∀{o:Nat} {l:d6},z o l=some r→LP (zM M e) (z9 M e r) (Ki M e r j) (cat Tryz.f175 (pn 26867700)) y (Ow d a f i o l)
variable{M e r d v2 A B a f k i o l t u w x j y q z}{K:Kn}{n:Nat}
def P7(c:ao K)(b:rK M e r d j q)(h:mV K n d a q w x=some r):BJ M e r (jq 103::oU M e r j) (afd d a w x):=by
 unfold mV at h;exact ag 1 (bu (b h))
def Ay(c:ao K)(b:rK M e r d j q)(h:ld K n d a q t u=some r):BJ M e r (.b 2 :: .b 1::jq 103::oU M e r j) (Yw d a t u):=by
 unfold ld at h;exact ag 2 (P7 c b h)
def YD(w:ao K)(c:e.w.heap.size≤i)(s:rK M e r d j q)(t:T1 M e r d a f i j y z)(h:zz K n d a f q z o l=some r):BJ M e r (jq 26867700::M6 M e r j y) (Ow d a f i o l):=by
 unfold zz at h;refine ay 2 3 1 (ai 0 ?_);obtain⟨b,h⟩|⟨b,h⟩:=am h
 ·refine Gr 58 (id:=320058) (g:=i) b c (ac ?_);obtain⟨u,k,h⟩:=bU h;obtain⟨v,m,h⟩:=bU h;refine bC (ks':=jq 429883213 :: .b 4::M6 M e r j y) 6 ⟨[(0,.sl (lm aM d)),(1,.ptr 1 0),(2,.ptr 2 0),(3,.ptr 3 0),(6,.cptr (az (gD d a))),(8,.int .i32 u),(10,iI (d.length:Int)),(11,iI a),(58,.sit 320058 i ((gD d a).Text) v)],[(1,[iI (aa (f+1))]),(2,[.fno 175 [.ptr 1 0,.ptr 2 0,.ptr 3 0]]),(3,[.ref 9])],[(9,(b6 l))],[1,2,3,9,320058,1000001,1,1000002,2,1000003,3]⟩ ?_ (by subst m;subst k;kernel_rfl);refine ai 5 ?_;obtain⟨x,p,h⟩:=aw h;exact kA 9 9 [] (X7 w p) (ac (ag 1 (bu (t h))))
 ·exact Jc 58 (id:=320058) (g:=i) b (ac (ag 6 (Ay w s h)))
def afG(g:ao K)(b:e.w.heap.size≤i)(c:rK M e r d j q)(m:Nat):T1 M e r d a f i j m (Ag K n d a f q m):=by
 induction m with
 | zero=>exact fun h=>nomatch h
 | succ m k=>exact fun h=>bp (YD g b c k h)
def Zi(g:ao K)(c:rK M e r d j q)(h:wg K n d q a f k=some r):BJ M e r (jq 12::oU M e r j) (Um d a f k):=by
 unfold wg at h;refine ay 6 7 3 ?_;obtain⟨l,h⟩|⟨l,h⟩:=am h
 ·refine ah 12 l (cQ 18 19 1 3 7 (ai 2 ?_));obtain⟨w,h⟩:=aD h;refine au (bD aM az w (fE) (dV)) (ac (bX 4 5 3 2 (ai 3 ?_)));obtain⟨J,x,h⟩:=aw h;refine aS (H0 g x) (ac ?_);obtain⟨m,h⟩|⟨m,h⟩:=am h
  ·exact ah 21 m (ag 4 (P7 g c h))
  ·refine ah 21 m ?_;obtain⟨F,y,h⟩:=bU h;refine bC (ks':=jq 26237 :: .b 2 :: .b 1::jq 103::oU M e r j) 9 ⟨[(0,.sl (lm aM d)),(1,.ptr 1 0),(2,.ptr 2 0),(3,.ptr 3 0),(6,.cptr (az (gD d a))),(10,iI (d.length:Int)),(11,iI a),(27,iI ((gD d a).Kind)),(28,.bool F)],[(1,[iI (aa (f+1))]),(2,[.fno 175 [.ptr 1 0,.ptr 2 0,.ptr 3 0]]),(3,[.ref 9])],[(9,(b6 k))],[1,2,3,9,1000001,1,1000002,2,1000003,3]⟩ ?_ (by subst y;kernel_rfl);obtain⟨o,h⟩|⟨o,h⟩:=am h
   ·refine ah 28 o (bv 2 1 (bJ [0,1,2,3,6,10,11] [1,2,3] [9] (ah1 5 0 [(30,.fno 175 [.ptr 1 0,.ptr 2 0,.ptr 3 0]),(31,.cptr (az (gD d a))),(32,.cptr (az (gD d a))),(33,.cptr (List.drop 58 (az (gD d a)))),(34,.sl (lm aM ((gD d a).Kids)))] [] [] [] (av (vz 5) (yF)) ?_)));obtain⟨L,z,h⟩:=aw h;exact kA 9 9 [(1,1),(2,2),(3,3)] (g.Bl z) (ac (ag 0 (Ay g c h)))
   ·refine ah 28 o ?_;obtain⟨G,A,h⟩:=bU h;refine bC (ks':=jq 104951 :: .b 2 :: .b 1::jq 103::oU M e r j) 3 ⟨[(0,.sl (lm aM d)),(1,.ptr 1 0),(2,.ptr 2 0),(3,.ptr 3 0),(6,.cptr (az (gD d a))),(10,iI (d.length:Int)),(11,iI a),(27,iI ((gD d a).Kind)),(36,.bool G)],[(1,[iI (aa (f+1))]),(2,[.fno 175 [.ptr 1 0,.ptr 2 0,.ptr 3 0]]),(3,[.ref 9])],[(9,(b6 k))],[1,2,3,9,1000001,1,1000002,2,1000003,3]⟩ ?_ (by subst A;kernel_rfl);obtain⟨s,h⟩|⟨s,h⟩:=am h
    ·refine ah 36 s (bv 2 1 (ai 5 ?_));obtain⟨B,h⟩:=aD h;exact au (cA 43 9 210 5 ax (rfl) (cY) B) (ac (ag 0 (Ay g c h)))
    ·refine ah 36 s ?_;obtain⟨H,C,h⟩:=bU h;refine bC (ks':=jq 419807 :: .b 2 :: .b 1::jq 103::oU M e r j) 3 ⟨[(0,.sl (lm aM d)),(1,.ptr 1 0),(2,.ptr 2 0),(3,.ptr 3 0),(6,.cptr (az (gD d a))),(10,iI (d.length:Int)),(11,iI a),(27,iI ((gD d a).Kind)),(44,.bool H)],[(1,[iI (aa (f+1))]),(2,[.fno 175 [.ptr 1 0,.ptr 2 0,.ptr 3 0]]),(3,[.ref 9])],[(9,(b6 k))],[1,2,3,9,1000001,1,1000002,2,1000003,3]⟩ ?_ (by subst C;kernel_rfl);obtain⟨t,h⟩|⟨t,h⟩:=am h
     ·refine ah 44 t (bv 2 1 (ai 5 ?_));obtain⟨D,h⟩:=aD h;exact au (cA 51 9 210 5 ax (rfl) (cY) D) (ac (ag 0 (Ay g c h)))
     ·refine ah 44 t ?_;obtain⟨I,E,h⟩:=bU h;refine bC (ks':=jq 1679231 :: .b 2 :: .b 1::jq 103::oU M e r j) 3 ⟨[(0,.sl (lm aM d)),(1,.ptr 1 0),(2,.ptr 2 0),(3,.ptr 3 0),(6,.cptr (az (gD d a))),(10,iI (d.length:Int)),(11,iI a),(52,.bool I)],[(1,[iI (aa (f+1))]),(2,[.fno 175 [.ptr 1 0,.ptr 2 0,.ptr 3 0]]),(3,[.ref 9])],[(9,(b6 k))],[1,2,3,9,1000001,1,1000002,2,1000003,3]⟩ ?_ (by subst E;kernel_rfl);obtain⟨u,h⟩|⟨u,h⟩:=am h
      ·exact ah 52 u (ay 4 5 2 (ai 4 (Js 320058 (b:=((gD d a).Text)) fun i v=>(ac (ag 1 (cc (p:=pn 13433850) n (afG g (i:=i) v c n h)))))))
      ·exact ah 52 u (ag 2 (Ay g c h))
 ·refine ah 12 l (cd (ks':=[]) 5 (uh ?_));cases h;exact pM
def aiW(a:ao K)(m:Nat):rK M e r d m (vG K n d m):=by
 induction m with
 | zero=>exact fun h=>nomatch h
 | succ m b=>exact fun h=>bp (Zi a b h)
def WD(a:ao K)(h:m9 K n d v2 A=some r):jM bb 175 [.sl (lm aM d),.ptr 1 0,.ptr 2 0,.ptr 3 0] [(1,[iI v2]),(2,[.fno 175 [.ptr 1 0,.ptr 2 0,.ptr 3 0]]),(3,[.ref 9])] 9 (b6 A) [9,1,2,3,1000001,1000002,1000003] (fun v s=>v=be∧cw s.o [(1,[iI r.1]),(2,[.fno 175 [.ptr 1 0,.ptr 2 0,.ptr 3 0]]),(3,[.ref 9])]∧look 9 s.r=some (b6 r.2)):=by
 refine mM (c:=cat Tryz.f175 (pn 1)) Tryz.func175 (by kernel_rfl) _ Tryz.ntmps175 (jt (by kernel_rfl)) fun M e=>(bn ⟨[(0,.sl (lm aM d)),(1,.ptr 1 0),(2,.ptr 2 0),(3,.ptr 3 0)],[(1,[iI v2]),(2,[.fno 175 [.ptr 1 0,.ptr 2 0,.ptr 3 0]]),(3,[.ref 9])],[(9,(b6 A))],[9,1,2,3,1000001,1000002,1000003]⟩ ?_);unfold m9 at h;exact ay 2 3 1 (ai 1 (au (bz aM d) (ac (ag 1 (cc (p:=pn 6) n (aiW a n h))))))
end
section
variable[GS](M:Nat→Prop)(b:aC)(r:d6)(a:dO)  
variable{M b r a}{K:Kn}{n:Nat}
def G9(d:ao K)(h:rt K n a=some r):ba bb 154 [.sl (lm aM a)] (fun v s=>v=.ref 400003∧look 400003 s.r=some (b6 r)):=by
 refine bI (cat Tryz.f154 (pn 1)) Tryz.func154 Tryz.ntmps154 fun M b=>(bn ⟨[(0,.sl (lm aM a))],[],[],[]⟩ ?_);unfold rt at h;refine ay 62 63 9 (ai 0 (po 175 #[(.tmp 4),(.tmp 5),(.tmp 3)] [.ptr 4 0,.ptr 5 0,.ptr 3 0] (ac (ay 2 3 1 (ai 2 (Hd 400003 3 0 210 5 ?_))))));obtain⟨v2,c,h⟩:=aw h;refine kA 400003 9 [(4,1),(5,2),(3,3)] (WD d c) (ac (aL 3 ?_));cases h;exact eO
end
section
variable[GS](M:Nat→Prop)(a:aC)(r:Bool)(b:aO)(v2:Bool)  
abbrev ai2(n:Nat):aq:=.c (cat Tryz.f177 (pn n))
abbrev W6:Cx:=⟨bb,24,M,a⟩
abbrev agj:=bodyPost bb Tryz.f177 (bR M a (fun v _=>v=.bool r))
abbrev aj2(b:dn)(s:AS):=VE (W6 M a) (agj M a r) b .normal s
def abT:AS:=⟨[(2,.bool v2)],[],[],[]⟩
variable{M a r b v2}{K:Kn}{n:Nat}
def LB(b:ao K)(h:sa K n v2=some r):aj2 M a r [ai2 7] (abT v2):=by
 unfold sa at h;refine aL 1 ?_;cases h;exact bA
def yM(e:ao K)(h:mO K n b=some r):ba bb 177 [.agg (ax b)] (fun v _=>v=.bool r):=by
 refine bI (cat Tryz.f177 (pn 1)) Tryz.func177 Tryz.ntmps177 fun M a=>(bn ⟨[(0,.agg (ax b))],[],[],[]⟩ ?_);unfold mO at h;refine ay 6 7 3 (ai 4 ?_);obtain⟨c,h⟩|⟨c,h⟩:=am h
 ·refine aG 6 c (aP 13 9 ?_);obtain⟨d,h⟩|⟨d,h⟩:=am h
  ·exact aG 15 d (ac (ag 0 (LB e h)))
  ·exact aG 15 d (ac (ag 0 (LB e h)))
 ·exact aG 6 c (ac (ag 0 (LB e h)))
end
section
variable[GS](M:Nat→Prop)(b:aC)(r a:Int)(v2 c v4 v5 v6:Bool)  
abbrev gZ(n:Nat):aq:=.c (cat Tryz.f188 (pn n))
abbrev afV:Cx:=⟨bb,73,M,b⟩
abbrev Y7:=bodyPost bb Tryz.f188 (bR M b (fun v _=>v=iI r))
abbrev AJ(a:dn)(s:AS):=VE (afV M b) (Y7 M b r) a .normal s
def adA:AS:=⟨[(72,.bool v6)],[],[],[]⟩
def aha:AS:=⟨[(0,.int .i32 a),(60,.bool v5)],[],[],[]⟩
def afj:AS:=⟨[(0,.int .i32 a),(29,.int .i32 a),(44,.bool v4)],[],[],[]⟩
def acW:AS:=⟨[(0,.int .i32 a),(29,.int .i32 a),(30,.bool c)],[],[],[]⟩
def ajO:AS:=⟨[(0,.int .i32 a),(3,.bool v2)],[],[],[]⟩
variable{M b r a v2 c v4 v5 v6}{K:Kn}{n:Nat}
def MG(c:ao K)(h:yc K n v6=some r):AJ M b r [gZ 61,gZ 31] (adA v6):=by
 unfold yc at h;obtain⟨a,h⟩|⟨a,h⟩:=am h
 ·refine ah 72 a (aL 5 ?_);cases h;exact bA
 ·refine ah 72 a (aL 5 ?_);cases h;exact bA
def sO(e:ao K)(h:mT K n a v5=some r):AJ M b r [gZ 1887,.b 1,gZ 15] (aha a v5):=by
 unfold mT at h;obtain⟨c,h⟩|⟨c,h⟩:=am h
 ·refine ah 60 c (aL 6 ?_);cases h;exact bA
 ·refine ah 60 c (cd (ks':=[gZ 60,gZ 61,gZ 31]) 5 (ai 3 ?_));obtain⟨d,h⟩|⟨d,h⟩:=am h
  ·exact aG 69 d (ac (ag 0 (MG e h)))
  ·exact aG 69 d (ac (ag 0 (MG e h)))
def iE(j:ao K)(h:gp K n a v4=some r):AJ M b r [gZ 471,.b 1,gZ 15] (afj a v4):=by
 unfold gp at h;obtain⟨c,h⟩|⟨c,h⟩:=am h
 ·refine ah 44 c (aL 6 ?_);cases h;exact bA
 ·refine ah 44 c (ay 13 7 4 ?_);obtain⟨d,h⟩|⟨d,h⟩:=am h
  ·exact ah 60 d (ag 2 (sO j h))
  ·refine ah 60 d (bv 7 3 ?_);obtain⟨e,h⟩|⟨e,h⟩:=am h
   ·exact ah 60 e (ag 2 (sO j h))
   ·refine ah 60 e (bv 7 3 ?_);obtain⟨f,h⟩|⟨f,h⟩:=am h
    ·exact ah 60 f (ag 2 (sO j h))
    ·refine ah 60 f (bv 7 3 ?_);obtain⟨g,h⟩|⟨g,h⟩:=am h
     ·exact ah 60 g (ag 2 (sO j h))
     ·refine ah 60 g (bv 7 3 ?_);obtain⟨i,h⟩|⟨i,h⟩:=am h
      ·exact ah 60 i (ag 2 (sO j h))
      ·exact ah 60 i (ag 2 (sO j h))
def jH(d:ao K)(h:ij K n a c=some r):AJ M b r [gZ 117,.b 1,gZ 15] (acW a c):=by
 unfold ij at h;obtain⟨e,h⟩|⟨e,h⟩:=am h
 ·refine ah 30 e (aL 6 ?_);cases h;exact bA
 ·refine ah 30 e (ay 13 7 4 ?_);obtain⟨f,h⟩|⟨f,h⟩:=am h
  ·exact ah 44 f (ag 2 (iE d h))
  ·refine ah 44 f (bv 7 3 ?_);obtain⟨g,h⟩|⟨g,h⟩:=am h
   ·exact ah 44 g (ag 2 (iE d h))
   ·refine ah 44 g (bv 7 3 ?_);obtain⟨i,h⟩|⟨i,h⟩:=am h
    ·exact ah 44 i (ag 2 (iE d h))
    ·refine ah 44 i (bv 7 3 ?_);obtain⟨j,h⟩|⟨j,h⟩:=am h
     ·exact ah 44 j (ag 2 (iE d h))
     ·refine ah 44 j (bv 7 3 ?_);obtain⟨k,h⟩|⟨k,h⟩:=am h
      ·exact ah 44 k (ag 2 (iE d h))
      ·refine ah 44 k (bv 7 3 ?_);obtain⟨l,h⟩|⟨l,h⟩:=am h
       ·exact ah 44 l (ag 2 (iE d h))
       ·refine ah 44 l (bv 7 3 ?_);obtain⟨m,h⟩|⟨m,h⟩:=am h
        ·exact ah 44 m (ag 2 (iE d h))
        ·refine ah 44 m (bv 7 3 ?_);obtain⟨o,h⟩|⟨o,h⟩:=am h
         ·exact ah 44 o (ag 2 (iE d h))
         ·refine ah 44 o (bv 7 3 ?_);obtain⟨p,h⟩|⟨p,h⟩:=am h
          ·exact ah 44 p (ag 2 (iE d h))
          ·refine ah 44 p (bv 7 3 ?_);obtain⟨q,h⟩|⟨q,h⟩:=am h
           ·exact ah 44 q (ag 2 (iE d h))
           ·refine ah 44 q (bv 7 3 ?_);obtain⟨s,h⟩|⟨s,h⟩:=am h
            ·exact ah 44 s (ag 2 (iE d h))
            ·refine ah 44 s (bv 7 3 ?_);obtain⟨t,h⟩|⟨t,h⟩:=am h
             ·exact ah 44 t (ag 2 (iE d h))
             ·refine ah 44 t (bv 7 3 ?_);obtain⟨u,h⟩|⟨u,h⟩:=am h
              ·exact ah 44 u (ag 2 (iE d h))
              ·refine ah 44 u (bv 7 3 ?_);obtain⟨v,h⟩|⟨v,h⟩:=am h
               ·exact ah 44 v (ag 2 (iE d h))
               ·exact ah 44 v (ag 2 (iE d h))
def qH(c:ao K)(h:lr K n a v2=some r):AJ M b r [gZ 25,.b 0,gZ 7] (ajO a v2):=by
 unfold lr at h;obtain⟨q,h⟩|⟨q,h⟩:=am h
 ·refine ah 3 q (aL 6 ?_);cases h;exact bA
 ·refine ah 3 q (bv 7 3 ?_);obtain⟨s,h⟩|⟨s,h⟩:=am h
  ·refine ah 26 s (aL 6 ?_);cases h;exact bA
  ·refine ah 26 s (cd (ks':=[gZ 233,gZ 117,.b 1,gZ 15]) 10 ?_);obtain⟨t,h⟩|⟨t,h⟩:=am h
   ·exact ah 30 t (ag 2 (jH c h))
   ·refine ah 30 t (bv 7 3 ?_);obtain⟨d,h⟩|⟨d,h⟩:=am h
    ·exact ah 30 d (ag 2 (jH c h))
    ·refine ah 30 d (bv 7 3 ?_);obtain⟨e,h⟩|⟨e,h⟩:=am h
     ·exact ah 30 e (ag 2 (jH c h))
     ·refine ah 30 e (bv 7 3 ?_);obtain⟨f,h⟩|⟨f,h⟩:=am h
      ·exact ah 30 f (ag 2 (jH c h))
      ·refine ah 30 f (bv 7 3 ?_);obtain⟨g,h⟩|⟨g,h⟩:=am h
       ·exact ah 30 g (ag 2 (jH c h))
       ·refine ah 30 g (bv 7 3 ?_);obtain⟨i,h⟩|⟨i,h⟩:=am h
        ·exact ah 30 i (ag 2 (jH c h))
        ·refine ah 30 i (bv 7 3 ?_);obtain⟨j,h⟩|⟨j,h⟩:=am h
         ·exact ah 30 j (ag 2 (jH c h))
         ·refine ah 30 j (bv 7 3 ?_);obtain⟨k,h⟩|⟨k,h⟩:=am h
          ·exact ah 30 k (ag 2 (jH c h))
          ·refine ah 30 k (bv 7 3 ?_);obtain⟨l,h⟩|⟨l,h⟩:=am h
           ·exact ah 30 l (ag 2 (jH c h))
           ·refine ah 30 l (bv 7 3 ?_);obtain⟨m,h⟩|⟨m,h⟩:=am h
            ·exact ah 30 m (ag 2 (jH c h))
            ·refine ah 30 m (bv 7 3 ?_);obtain⟨o,h⟩|⟨o,h⟩:=am h
             ·exact ah 30 o (ag 2 (jH c h))
             ·refine ah 30 o (bv 7 3 ?_);obtain⟨p,h⟩|⟨p,h⟩:=am h
              ·exact ah 30 p (ag 2 (jH c h))
              ·exact ah 30 p (ag 2 (jH c h))
def UG(c:ao K)(h:lv K n a=some r):ba bb 188 [.int .i32 a] (fun v _=>v=iI r):=by
 refine bI (cat Tryz.f188 (pn 1)) Tryz.func188 Tryz.ntmps188 fun M b=>(bn ⟨[(0,.int .i32 a)],[],[],[]⟩ ?_);unfold lv at h;refine dI 24 25 0 7 5 (ai 3 ?_);obtain⟨d,h⟩|⟨d,h⟩:=am h
 ·exact aG 6 d (ac (ag 0 (qH c h)))
 ·refine aG 6 d (aP 7 4 ?_);obtain⟨e,h⟩|⟨e,h⟩:=am h
  ·exact aG 10 e (ac (ag 0 (qH c h)))
  ·refine aG 10 e (aP 10 3 ?_);obtain⟨f,h⟩|⟨f,h⟩:=am h
   ·refine aG 13 f (aP 15 5 ?_);obtain⟨g,h⟩|⟨g,h⟩:=am h
    ·exact aG 18 g (ac (ag 0 (qH c h)))
    ·refine aG 18 g (aP 18 3 ?_);obtain⟨i,h⟩|⟨i,h⟩:=am h
     ·exact aG 21 i (ac (ag 0 (qH c h)))
     ·exact aG 21 i (ac (ag 0 (qH c h)))
   ·refine aG 13 f (aP 18 8 ?_);obtain⟨j,h⟩|⟨j,h⟩:=am h
    ·exact aG 21 j (ac (ag 0 (qH c h)))
    ·exact aG 21 j (ac (ag 0 (qH c h)))
end
section
variable[GS](M:Nat→Prop)(a:aC)(r:Bool)(b:Int)(v2:Bool)  
abbrev Rv(n:Nat):aq:=.c (cat Tryz.f193 (pn n))
abbrev aiN:Cx:=⟨bb,9,M,a⟩
abbrev agZ:=bodyPost bb Tryz.f193 (bR M a (fun v _=>v=.bool r))
abbrev ab3(b:dn)(s:AS):=VE (aiN M a) (agZ M a r) b .normal s
def aj7:AS:=⟨[(4,.bool v2)],[],[],[]⟩
variable{M a r b v2}{K:Kn}{n:Nat}
def D6(c:ao K)(h:qx K n v2=some r):ab3 M a r [Rv 53,.b 0,Rv 7] (aj7 v2):=by
 unfold qx at h;obtain⟨b,h⟩|⟨b,h⟩:=am h
 ·refine ah 4 b (aL 6 ?_);cases h;exact bA
 ·refine ah 4 b (aL 6 ?_);cases h;exact bA
def OJ(c:ao K)(h:sZ K n b=some r):ba bb 193 [.int .i32 b] (fun v _=>v=.bool r):=by
 refine bI (cat Tryz.f193 (pn 1)) Tryz.func193 Tryz.ntmps193 fun M a=>(bn ⟨[(0,.int .i32 b)],[],[],[]⟩ ?_);unfold sZ at h;refine dI 105 53 0 7 9 ?_;obtain⟨d,h⟩|⟨d,h⟩:=am h
 ·exact ah 4 d (ag 2 (D6 c h))
 ·refine ah 4 d (bv 7 3 ?_);obtain⟨e,h⟩|⟨e,h⟩:=am h
  ·exact ah 4 e (ag 2 (D6 c h))
  ·refine ah 4 e (bv 7 3 ?_);obtain⟨f,h⟩|⟨f,h⟩:=am h
   ·exact ah 4 f (ag 2 (D6 c h))
   ·exact ah 4 f (ag 2 (D6 c h))
end
section
variable[GS](M:Nat→Prop)(b:aC)(r:Bool)(a v2:Int)(v5 c d:Bool)  
abbrev q8(n:Nat):aq:=.c (cat Tryz.f186 (pn n))
abbrev ajA:Cx:=⟨bb,29,M,b⟩
abbrev Yr:=bodyPost bb Tryz.f186 (bR M b (fun v _=>v=.bool r))
abbrev Kr(a:dn)(s:AS):=VE (ajA M b) (Yr M b r) a .normal s
def ahM:AS:=⟨[(4,.bool d)],[],[],[]⟩
def ai3:AS:=⟨[(0,.int .i32 a),(1,.int .i32 v2),(16,.bool c)],[],[],[]⟩
def aaH:AS:=⟨[(0,.int .i32 a),(1,.int .i32 v2),(5,.bool v5)],[],[],[]⟩
variable{M b r a v2 v5 c d}{K:Kn}{n:Nat}
def Se(a:ao K)(h:wK K n d=some r):Kr M b r [q8 15] (ahM d):=by
 unfold wK at h;refine aL 1 ?_;cases h;exact bA
def MC(f:ao K)(h:yI K n a v2 c=some r):Kr M b r [q8 415,.b 0,q8 7] (ai3 a v2 c):=by
 unfold yI at h;obtain⟨d,h⟩|⟨d,h⟩:=am h
 ·refine ah 16 d (aL 6 ?_);cases h;exact bA
 ·refine ah 16 d (cd (ks':=[q8 14,q8 15]) 4 (ai 3 ?_));obtain⟨e,h⟩|⟨e,h⟩:=am h
  ·exact aG 25 e (ac (ag 0 (Se f h)))
  ·exact aG 25 e (ac (ag 0 (Se f h)))
def P0(f:ao K)(h:zr K n a v2 v5=some r):Kr M b r [q8 25,.b 0,q8 7] (aaH a v2 v5):=by
 unfold zr at h;obtain⟨c,h⟩|⟨c,h⟩:=am h
 ·refine ah 5 c (aL 6 ?_);cases h;exact bA
 ·refine ah 5 c (ay 6 7 2 (ai 1 ?_));obtain⟨v6,g,h⟩:=aw h;refine aS (OJ f g) (ac ?_);obtain⟨d,h⟩|⟨d,h⟩:=am h
  ·refine ah 13 d (aL 6 ?_);cases h;exact bA
  ·refine ah 13 d (ay 6 7 2 (ai 3 ?_));obtain⟨e,h⟩|⟨e,h⟩:=am h
   ·exact aG 19 e (ac (ag 0 (MC f h)))
   ·exact aG 19 e (ac (ag 0 (MC f h)))
def Xz(c:ao K)(h:xl K n a v2=some r):ba bb 186 [.int .i32 a,.int .i32 v2] (fun v _=>v=.bool r):=by
 refine bI (cat Tryz.f186 (pn 1)) Tryz.func186 Tryz.ntmps186 fun M b=>(bn ⟨[(0,.int .i32 a),(1,.int .i32 v2)],[],[],[]⟩ ?_);unfold xl at h;refine dI 24 25 0 7 5 (ai 1 ?_);obtain⟨g,e,h⟩:=aw h;refine aS (OJ c e) (aP 3 1 ?_);obtain⟨d,h⟩|⟨d,h⟩:=am h
 ·exact aG 8 d (ac (ag 0 (P0 c h)))
 ·refine aG 8 d (aP 4 1 ?_);obtain⟨v4,f,h⟩:=aw h;exact aS (UG c f) (ac (ag 0 (P0 c h)))
end
section
variable[GS](M:Nat→Prop)(c:aC)(r:b7)(d:ByteArray)(v2:Nat)(l:Int)(a:Nat)(e:b7)(i:Bool)(j:b7)(f:Nat)(k:Int→Nat→b7→Option b7)
abbrev Jf:Cx:=⟨bb,26,M,c⟩
abbrev Lz:=bodyPost bb Tryz.f178 (bR M c (fun v s=>v=.ref 23∧look 23 s.r=some (bf r)))
abbrev Fy(a:dn)(s:AS):=VE (Jf M c) (Lz M c r) a .normal s
abbrev oO(n:Nat):aq:=.c (cat Tryz.f178 (pn n))
abbrev GV:dn:=[.b 0,oO 31]
abbrev Cc:dn:=kl (Jf M c) (Lz M c r) GV (cat Tryz.f178 (pn 244)) f::GV
def aiR:AS:=⟨[(3,.ref 23),(6,.int .i32 ((Utf8.decode d a).1:Int)),(8,.sit 320008 v2 d (a+(Utf8.decode d a).2))],[],[(23,(bf j))],[23,320008]⟩
def Ye:AS:=⟨[(3,.ref 23),(5,iI ((a:Nat):Int)),(6,.int .i32 ((Utf8.decode d a).1:Int)),(8,.sit 320008 v2 d (a+(Utf8.decode d a).2)),(19,.bool i)],[],[(23,(bf e))],[23,320008]⟩
def Q7:AS:=⟨[(3,.ref 23),(4,.int .i32 l),(8,.sit 320008 v2 d a)],[],[(23,(bf e))],[23,320008]⟩
abbrev Dx:Prop:=∀{l:Int} {a:Nat} {e:b7},k l a e=some r→LP (Jf M c) (Lz M c r) GV (cat Tryz.f178 (pn 244)) f (Q7 d v2 l a e)
variable{M c r d v2 l a e i j f k}{K:Kn}{n:Nat}
def M8(g:ao K)(e:c.w.heap.size≤v2)(b:Dx M c r d v2 f k)(h:pe K n d a k j=some r):Fy M c r (oO 7835 :: .b 1::Cc M c r f) (aiR d v2 a j):=by
 unfold pe at h;exact ag 2 (bu (b h))
def Wb(m:ao K)(j:c.w.heap.size≤v2)(g:Dx M c r d v2 f k)(h:qK K n d a e k i=some r):Fy M c r (oO 15669::oO 7835 :: .b 1::Cc M c r f) (Ye d v2 a e i):=by
 unfold qK at h;obtain⟨b,h⟩|⟨b,h⟩:=am h
 ·refine ah 19 b (bv 2 1 (ai 3 ?_));obtain⟨l,h⟩:=aD h;exact au (cA 23 23 3 1 (ak .i64) (rfl) aT l) (ac (ag 0 (M8 m (v2:=v2) j g h)))
 ·exact ah 19 b (ag 2 (M8 m (v2:=v2) j g h))
def ZX(p:ao K)(j:c.w.heap.size≤v2)(m:Dx M c r d v2 f k)(h:ny K n d k l a e=some r):Fy M c r (oO 244::Cc M c r f) (Q7 d v2 l a e):=by
 unfold ny at h;refine ay 2 3 1 (ai 0 ?_);obtain⟨b,h⟩|⟨b,h⟩:=am h
 ·refine Gr 8 (id:=320008) (g:=v2) b j (ac (cd (ks':=oO 15668::oO 15669::oO 7835 :: .b 1::Cc M c r f) 8 (ai 3 ?_)));obtain⟨i,h⟩|⟨i,h⟩:=am h
  ·refine aG 15 i (aP 5 2 ?_);obtain⟨q,o,h⟩:=aw h;exact aS (Xz p o) (ac (ag 0 (Wb p (v2:=v2) j m h)))
  ·exact aG 15 i (ac (ag 0 (Wb p (v2:=v2) j m h)))
 ·refine Jc 8 (id:=320008) (g:=v2) b (ac (aL 9 ?_));cases h;exact eO
def afL(b:ao K)(a:c.w.heap.size≤v2)(m:Nat):Dx M c r d v2 m (qi K n d m):=by
 induction m with
 | zero=>exact fun h=>nomatch h
 | succ m e=>exact fun h=>bp (ZX b a e h)
def akv(e:ao K)(h:vU K n d=some r):ba bb 178 [.str d] (fun v s=>v=.ref 23∧look 23 s.r=some (bf r)):=by
 refine bI (cat Tryz.f178 (pn 1)) Tryz.func178 Tryz.ntmps178 fun M c=>(bn ⟨[(0,.str d)],[],[],[]⟩ ?_);unfold vU at h;exact bX 60 61 31 8 (ai 1 (Js 320008 (b:=d) fun v2 a=>(ac (ig 2 0 1 (bJ [3,4,8] [] [] (fb 23 3 3 1 (ag 0 (cc (p:=pn 122) n (afL e (v2:=v2) a n h)))))))))
end
section
variable[GS](M:Nat→Prop)(c:aC)(r:Bool)(a v2:aO)(d e b:Bool)  
abbrev s5(n:Nat):aq:=.c (cat Tryz.f155 (pn n))
abbrev aji:Cx:=⟨bb,61,M,c⟩
abbrev aah:=bodyPost bb Tryz.f155 (bR M c (fun v _=>v=.bool r))
abbrev HD(a:dn)(s:AS):=VE (aji M c) (aah M c r) a .normal s
def Yg:AS:=⟨[(4,.bool e)],[],[],[]⟩
def ajS:AS:=⟨[(2,.ptr 2 0),(3,.ptr 3 0),(51,.bool b)],[(2,ax a),(3,ax v2)],[],[2,3]⟩
def afP:AS:=⟨[(2,.ptr 2 0),(3,.ptr 3 0),(12,.bool d)],[(2,ax a),(3,ax v2)],[],[2,3]⟩
variable{M c r a v2 d e b}{K:Kn}{n:Nat}
def yC(a:ao K)(h:oo K n e=some r):HD M c r [s5 53,s5 7] (Yg e):=by
 unfold oo at h;refine aL 2 ?_;cases h;exact bA
def yE(g:ao K)(h:n0 K n a v2 b=some r):HD M c r [s5 29,s5 15] (ajS a v2 b):=by
 unfold n0 at h;obtain⟨d,h⟩|⟨d,h⟩:=am h
 ·refine ah 51 d (aL 5 ?_);cases h;exact bA
 ·refine ah 51 d (fO 2 3 3 (ai 6 ?_));obtain⟨f,e,h⟩:=aw h;refine eZ 1058 (akv g e) (fa 23) (au (bz (ak .i64) f) (ac (aL 1 ?_)));cases h;exact bA
def Vy(b:ao K)(h:yi K n a v2 d=some r):HD M c r [s5 13,s5 7] (afP a v2 d):=by
 unfold yi at h;obtain⟨l,h⟩|⟨l,h⟩:=am h
 ·refine ah 12 l (ay 4 5 2 (ai 4 ?_));obtain⟨m,h⟩|⟨m,h⟩:=am h
  ·refine aG 16 m (aP 12 8 ?_);obtain⟨o,h⟩|⟨o,h⟩:=am h
   ·exact aG 24 o (ac (ag 0 (yC b h)))
   ·refine aG 24 o (aP 13 1 ?_);obtain⟨v4,s,h⟩:=aw h;exact aS (yM b s) (ac (ag 0 (yC b h)))
  ·refine aG 16 m (aP 5 1 ?_);obtain⟨v5,t,h⟩:=aw h;refine aS (yM b t) (aP 8 2 ?_);obtain⟨p,h⟩|⟨p,h⟩:=am h
   ·refine aG 20 p (aP 12 4 ?_);obtain⟨q,h⟩|⟨q,h⟩:=am h
    ·exact aG 24 q (ac (ag 0 (yC b h)))
    ·refine aG 24 q (aP 13 1 ?_);obtain⟨v6,u,h⟩:=aw h;exact aS (yM b u) (ac (ag 0 (yC b h)))
   ·exact aG 20 p (ac (ag 0 (yC b h)))
 ·refine ah 12 l (oL 4 5 3 4 (ai 4 ?_));obtain⟨e,h⟩|⟨e,h⟩:=am h
  ·exact aG 32 e (ac (ag 0 (yE b h)))
  ·refine aG 32 e (aP 9 5 ?_);obtain⟨f,h⟩|⟨f,h⟩:=am h
   ·exact aG 37 f (ac (ag 0 (yE b h)))
   ·refine aG 37 f (aP 10 1 ?_);obtain⟨v,j,h⟩:=aw h;refine aS (yM b j) (aP 14 3 ?_);obtain⟨g,h⟩|⟨g,h⟩:=am h
    ·exact aG 42 g (ac (ag 0 (yE b h)))
    ·refine aG 42 g (aP 18 4 ?_);obtain⟨i,h⟩|⟨i,h⟩:=am h
     ·refine aG 46 i (aP 19 1 ?_);obtain⟨w,k,h⟩:=aw h;exact aS (yM b k) (ac (ag 0 (yE b h)))
     ·exact aG 46 i (ac (ag 0 (yE b h)))
def uB(d:ao K)(h:l8 K n a v2=some r):ba bb 155 [.agg (ax a),.agg (ax v2)] (fun v _=>v=.bool r):=by
 refine bI (cat Tryz.f155 (pn 1)) Tryz.func155 Tryz.ntmps155 fun M c=>(bn ⟨[(0,.agg (ax a)),(1,.agg (ax v2))],[],[],[]⟩ ?_);unfold l8 at h;refine bX 12 13 7 4 (ai 4 ?_);obtain⟨b,h⟩|⟨b,h⟩:=am h
 ·exact aG 8 b (ac (ag 0 (Vy d h)))
 ·exact aG 8 b (ac (ag 0 (Vy d h)))
end
section
variable[GS](M:Nat→Prop)(b:aC)(r a:Int)  
variable{M b r a}{K:Kn}{n:Nat}
def C0(c:ao K)(h:q9 K n a=some r):ba bb 174 [iI a] (fun v _=>v=iI r):=by
 refine bI (cat Tryz.f174 (pn 1)) Tryz.func174 Tryz.ntmps174 fun M b=>(bn ⟨[(0,iI a)],[],[],[]⟩ ?_);unfold q9 at h;refine aL 5 ?_;cases h;exact bA
end
section
variable[GS](M:Nat→Prop)(b:aC)(r a:Int)  
variable{M b r a}{K:Kn}{n:Nat}
def Mh(d:ao K)(h:yB K n a=some r):ba bb 152 [iI a] (fun v _=>v=iI r):=by
 refine bI (cat Tryz.f152 (pn 1)) Tryz.func152 Tryz.ntmps152 fun M b=>(bn ⟨[(0,iI a)],[],[],[]⟩ ?_);unfold yB at h;refine ay 6 7 3 (ai 1 ?_);obtain⟨v2,c,h⟩:=aw h;refine aS (C0 d c) (ac (aL 1 ?_));cases h;exact bA
end
section
variable[GS](M:Nat→Prop)(b:aC)(r a:Int)  
variable{M b r a}{K:Kn}{n:Nat}
def ME(c:ao K)(h:Af K n a=some r):ba bb 153 [iI a] (fun v _=>v=iI r):=by
 refine bI (cat Tryz.f153 (pn 1)) Tryz.func153 Tryz.ntmps153 fun M b=>(bn ⟨[(0,iI a)],[],[],[]⟩ ?_);unfold Af at h;refine ay 6 7 3 (ai 1 ?_);obtain⟨v2,d,h⟩:=aw h;refine aS (C0 c d) (aP 3 1 ?_);obtain⟨f,e,h⟩:=aw h;refine aS (C0 c e) (ac (aL 1 ?_));cases h;exact bA
end
section
variable[GS](M:Nat→Prop)(b:aC)(r:Int×Int)(a:aR)  
variable{M b r a}{K:Kn}{n:Nat}
def Gk(d:ao K)(h:ov K n a=some r):ba bb 148 [.agg (aI a)] (fun v _=>v=.tup [iI r.1,iI r.2]):=by
 refine bI (cat Tryz.f148 (pn 1)) Tryz.func148 Tryz.ntmps148 fun M b=>(bn ⟨[(0,.agg (aI a))],[],[],[]⟩ ?_);unfold ov at h;refine ay 14 15 5 (bJ [1,4] [1] [] ?_);obtain⟨v2,e,h⟩:=aw h;obtain⟨c,f,h⟩:=aw h;refine bQ 1 (nu 8 [.ptr 1 37,iI a.FontSize,iI v2,iI (max a.LineHeight 0),.ptr 1 37,iI a.FontSize,iI c,iI (aa ((max a.LineHeight 0)-c)),iI ((aa ((max a.LineHeight 0)-c)) / 2),iI (aa (v2+((aa ((max a.LineHeight 0)-c)) / 2)))]) [] [] [ci bb 22 Tryz.f148 (pn 14) 10] (av (vz 2) (aj (cj 0 1 10 (Mh d e)) (av (vz 3) (aj (cj 0 1 14 (ME d f)) (av (vz 3) (aj (cg 0) bS)))))) (aL 3 ?_);cases h;exact jj
end
section
variable[GS](M:Nat→Prop)(b:aC)(r:b7)(a:Int)(v2:b7)(d v4:Bool)  
abbrev Oc(n:Nat):aq:=.c (cat Tryz.f194 (pn n))
abbrev XX:Cx:=⟨bb,78,M,b⟩
abbrev aiQ:=bodyPost bb Tryz.f194 (bR M b (fun v s=>v=.ref 9∧cw s.o []∧look 9 s.r=some ⟨5,1,lm (ak .u8) r⟩))
abbrev Qn(a:dn)(s:AS):=VE (XX M b) (aiQ M b r) a .normal s
def afh:AS:=⟨[(0,.ref 9),(1,.int .i32 a),(50,.bool v4)],[],[(9,⟨5,1,lm (ak .u8) v2⟩)],[9]⟩
def afT:AS:=⟨[(0,.ref 9),(1,.int .i32 a),(5,.int .u32 (IntKind.wrap .u32 a)),(25,.bool d)],[],[(9,⟨5,1,lm (ak .u8) v2⟩)],[9]⟩
variable{M b r a v2 d v4}{K:Kn}{n:Nat}
def TP(f:ao K)(h:Av K n a v2 v4=some r):Qn M b r [Oc 479,.b 0] (afh a v2 v4):=by
 unfold Av at h;obtain⟨d,h⟩|⟨d,h⟩:=am h
 ·refine ah 50 d (ay 4 5 2 (ai 20 ?_));obtain⟨e,h⟩:=aD h;refine au (cA 77 9 5 1 (ak .u8) (rfl) aT e) (ac (aL 2 ?_));cases h;exact fj
 ·refine ah 50 d (ay 6 7 2 (ai 2 ?_));obtain⟨c,h⟩:=aD h;refine au (cA 10 9 5 1 (ak .u8) (rfl) aT c) (ac (aL 2 ?_));cases h;exact fj
def Hu(f:ao K)(h:oD K n a v2 d=some r):Qn M b r [Oc 119,.b 0] (afT a v2 d):=by
 unfold oD at h;obtain⟨c,h⟩|⟨c,h⟩:=am h
 ·refine ah 25 c (ay 4 5 2 (ai 15 ?_));obtain⟨g,h⟩:=aD h;refine au (cA 49 9 5 1 (ak .u8) (rfl) aT g) (ac (aL 2 ?_));cases h;exact fj
 ·refine ah 25 c (ay 6 7 2 (ai 3 ?_));obtain⟨e,h⟩|⟨e,h⟩:=am h
  ·exact aG 53 e (ac (ag 0 (TP f h)))
  ·exact aG 53 e (ac (ag 0 (TP f h)))
def ajU(g:ao K)(h:tz K n a v2=some r):jM bb 194 [.ref 9,.int .i32 a] [] 9 ⟨5,1,lm (ak .u8) v2⟩ [9] (fun v s=>v=.ref 9∧cw s.o []∧look 9 s.r=some ⟨5,1,lm (ak .u8) r⟩):=by
 refine mM (c:=cat Tryz.f194 (pn 1)) Tryz.func194 (by kernel_rfl) _ Tryz.ntmps194 (jt (by kernel_rfl)) fun M b=>(bn ⟨[(0,.ref 9),(1,.int .i32 a)],[],[(9,⟨5,1,lm (ak .u8) v2⟩)],[9]⟩ ?_);unfold tz at h;refine ig 29 0 7 ?_;obtain⟨d,h⟩|⟨d,h⟩:=am h
 ·refine ah 11 d (ay 4 5 2 (ai 10 ?_));obtain⟨i,h⟩:=aD h;refine au (cA 24 9 5 1 (ak .u8) (rfl) aT i) (ac (aL 2 ?_));cases h;exact fj
 ·refine ah 11 d (ay 13 7 4 ?_);obtain⟨e,h⟩|⟨e,h⟩:=am h
  ·exact ah 25 e (ag 2 (Hu g h))
  ·refine ah 25 e (bv 3 1 (ai 3 ?_));obtain⟨f,h⟩|⟨f,h⟩:=am h
   ·exact aG 30 f (ac (ag 0 (Hu g h)))
   ·exact aG 30 f (ac (ag 0 (Hu g h)))
end
section
variable[GS](M:Nat→Prop)(b:aC)(r:b7)(a:Int)(v2:b7)  
variable{M b r a v2}{K:Kn}{n:Nat}
def SF(g:ao K)(h:ut K n a v2=some r):jM bb 187 [.ref 9,.int .i32 a] [] 9 ⟨5,1,lm (ak .u8) v2⟩ [9] (fun v s=>v=.ref 9∧cw s.o []∧look 9 s.r=some ⟨5,1,lm (ak .u8) r⟩):=by
 refine mM (c:=cat Tryz.f187 (pn 1)) Tryz.func187 (by kernel_rfl) _ Tryz.ntmps187 (jt (by kernel_rfl)) fun M b=>(bn ⟨[(0,.ref 9),(1,.int .i32 a)],[],[(9,⟨5,1,lm (ak .u8) v2⟩)],[9]⟩ ?_);unfold ut at h;refine ay 13 7 5 ?_;obtain⟨d,h⟩|⟨d,h⟩:=am h
 ·refine ah 7 d (ay 4 5 2 (ai 4 ?_));obtain⟨e,h⟩:=aD h;refine au (cA 12 9 5 1 (ak .u8) (rfl) aT e) (ac (aL 2 ?_));cases h;exact fj
 ·refine ah 7 d (fO 2 3 3 (ai 2 ?_));obtain⟨i,f,h⟩:=aw h;refine kA 9 9 [] (ajU g f) (ac (aL 1 ?_));cases h;exact fj
end
section
variable[GS](M:Nat→Prop)(e:aC)(r:Int×Unit×b7)(d:Int)(v2:Bool)(a:b7)  
variable{M e r d v2 a}{K:Kn}{n:Nat}
def Pg(i:ao K)(h:pk K n d v2 a=some r):jM bb 179 [.ptr 450119 0,.int .i32 d] [(450119,[(Ad v2 450119),.ref 9])] 9 ⟨5,1,lm (ak .u8) a⟩ [9,450119,1450119] (fun v s=>v=.tup [iI r.1,.vv .nilIface]∧cw s.o [(450119,[.ptr 450119 0,.ref 9])]∧look 9 s.r=some ⟨5,1,lm (ak .u8) r.2.2⟩):=by
 refine mM (c:=cat Tryz.f179 (pn 1)) Tryz.func179 (by kernel_rfl) _ Tryz.ntmps179 (jt (by kernel_rfl)) fun M e=>(bn ⟨[(0,.ptr 450119 0),(1,.int .i32 d)],[(450119,[(Ad v2 450119),.ref 9])],[(9,⟨5,1,lm (ak .u8) a⟩)],[9,450119,1450119]⟩ ?_);unfold pk at h;refine ay 6 7 3 (ai 1 ?_);rcases am h with⟨g,f⟩|⟨g,f⟩
 ·subst g;have h:=f;refine Na 450119 (b:=true) (c1:=.ref 9) (ac (ay 2 3 1 (ai 4 (au (bz (ak .u8) a) (ac (ay 2 3 1 (ai 6 ?_)))))));obtain⟨v4,j,h⟩:=aw h;refine kA 9 9 [] (SF i j) (ac (ay 2 3 1 (ai 4 (au (bz (ak .u8) v4) (ac (aL 1 ?_))))));cases h;exact pM
 ·subst g;have h:=f;refine Na 450119 (b:=false) (c1:=.ref 9) (ac (ay 2 3 1 (ai 4 (au (bz (ak .u8) a) (ac (ay 2 3 1 (ai 6 ?_)))))));obtain⟨v5,k,h⟩:=aw h;refine kA 9 9 [] (SF i k) (ac (ay 2 3 1 (ai 4 (au (bz (ak .u8) v5) (ac (aL 1 ?_))))));cases h;exact pM
end
section
variable[GS](M:Nat→Prop)(b:aC)(r:Int)(a v2:Int)  
variable{M b r a v2}{K:Kn}{n:Nat}
def G4(c:ao K)(h:nW K n a v2=some r):ba bb 180 [.int .i32 a,iI v2] (fun v _=>v=iI r):=by
 refine bI (cat Tryz.f180 (pn 1)) Tryz.func180 Tryz.ntmps180 fun M b=>(bn ⟨[(0,.int .i32 a),(1,iI v2)],[],[],[]⟩ ?_);unfold nW at h;refine ay 6 7 3 (ai 1 ?_);obtain⟨f,d,h⟩:=aw h;refine aS (UG c d) (aP 3 1 ?_);obtain⟨v4,e,h⟩:=aw h;refine aS (C0 c e) (ac (aL 1 ?_));cases h;exact bA
end
section
variable[GS](M:Nat→Prop)(a:aC)(r:Int)(d:ByteArray)(v2:Int)(c:Nat)(v5:Int)(v6 e:Nat)(f:Int→Nat→Option Int)
abbrev Lb:Cx:=⟨bb,19,M,a⟩
abbrev IL:=bodyPost bb Tryz.f181 (bR M a (fun v _=>v=iI r))
abbrev Yp(b:dn)(s:AS):=VE (Lb M a) (IL M a r) b .normal s
abbrev V9(n:Nat):aq:=.c (cat Tryz.f181 (pn n))
abbrev Fi:dn:=[.b 0,V9 15]
abbrev akn:dn:=kl (Lb M a) (IL M a r) Fi (cat Tryz.f181 (pn 116)) e::Fi
def VO:AS:=⟨[(1,iI v2),(5,iI v5),(9,.sit 320009 c d v6)],[],[],[320009]⟩
abbrev OW:Prop:=∀{v5:Int} {v6:Nat},f v5 v6=some r→LP (Lb M a) (IL M a r) Fi (cat Tryz.f181 (pn 116)) e (VO d v2 c v5 v6)
variable{M a r d v2 c v5 v6 e f}{K:Kn}{n:Nat}
def ajm(l:ao K)(j:a.w.heap.size≤c)(i:OW M a r d v2 c e f)(h:xJ K n d v2 f v5 v6=some r):Yp M a r (V9 116::akn M a r e) (VO d v2 c v5 v6):=by
 unfold xJ at h;refine ay 2 3 1 (ai 0 ?_);obtain⟨b,h⟩|⟨b,h⟩:=am h
 ·refine Gr 9 (id:=320009) (g:=c) b j (ac (ig 13 1 6 (ai 3 ?_)));obtain⟨m,k,h⟩:=aw h;exact aS (G4 l k) (ac (ag 1 (bu (i h))))
 ·refine Jc 9 (id:=320009) (g:=c) b (ac (aL 9 ?_));cases h;exact bA
def ZK(e:ao K)(b:a.w.heap.size≤c)(m:Nat):OW M a r d v2 c m (As K n d v2 m):=by
 induction m with
 | zero=>exact fun h=>nomatch h
 | succ m f=>exact fun h=>bp (ajm e b f h)
def PJ(f:ao K)(h:qX K n d v2=some r):ba bb 181 [.str d,iI v2] (fun v _=>v=iI r):=by
 refine bI (cat Tryz.f181 (pn 1)) Tryz.func181 Tryz.ntmps181 fun M a=>(bn ⟨[(0,.str d),(1,iI v2)],[],[],[]⟩ ?_);unfold qX at h;exact bX 28 29 15 6 (ai 1 (Js 320009 (b:=d) fun c e=>(ac (ag 1 (cc (p:=pn 58) n (ZK f (c:=c) e n h))))))
end
section
variable[GS](M:Nat→Prop)(e:aC)(r:aB)(a:d6)(v4:Int)(v5:Bool)(v6:b7)(o:Bool)(b:aR)(f:ByteArray)(g:Int)(c:aR)(i:ByteArray)(j:Int)(k:Nat)(l:Int→Bool→b7→Option aB)
abbrev KL:Cx:=⟨bb,59,M,e⟩
abbrev Kh:=bodyPost bb Tryz.f156 (bR M e (fun v _=>v=.agg (aZ r)))
abbrev CE(a:dn)(s:AS):=VE (KL M e) (Kh M e r) a .normal s
abbrev gF(n:Nat):aq:=.c (cat Tryz.f156 (pn n))
abbrev Ke:dn:=[.b 0,gF 15]
abbrev ac0:dn:=kl (KL M e) (Kh M e r) Ke (cat Tryz.f156 (pn 116)) k::Ke
def akW:AS:=⟨[(2,.ptr 2 0),(6,.ptr 6 0),(7,.ptr 7 0),(8,.str f)],[(2,List.set (aZ cX) 61 (.nils)),(6,aI b),(7,List.set (aZ ({ cX with Text:=(bytesOf v6),Space:=g }:aB)) 61 (.nils))],[],[2,6,7]⟩
def XD:AS:=⟨[(2,.ptr 2 0),(6,.ptr 6 0),(7,.ptr 7 0),(8,.str i)],[(2,List.set (aZ cX) 61 (.nils)),(6,aI c),(7,List.set (aZ ({ cX with Text:=(bytesOf v6),Space:=j }:aB)) 61 (.nils))],[],[2,6,7]⟩
def aeR:AS:=⟨[(0,.sl (lm ax a)),(2,.ptr 2 0),(3,.ptr 451119 0)],[(2,List.set (aZ cX) 61 (.nils)),(451119,[(Ad o 451119),.ref 401119])],[(401119,⟨5,1,lm (ak .u8) v6⟩)],[2,451119,401119]⟩
def Mz:AS:=⟨[(0,.sl (lm ax a)),(2,.ptr 2 0),(3,.ptr 451119 0),(9,.sl (lm ax a)),(10,iI (a.length:Int)),(11,iI v4)],[(2,List.set (aZ cX) 61 (.nils)),(451119,[(Ad v5 451119),.ref 401119])],[(401119,⟨5,1,lm (ak .u8) v6⟩)],[2,451119,401119]⟩
abbrev Tp:Prop:=∀{v4:Int} {v5:Bool} {v6:b7},l v4 v5 v6=some r→LP (KL M e) (Kh M e r) Ke (cat Tryz.f156 (pn 116)) k (Mz a v4 v5 v6)
variable{M e r a v4 v5 v6 o b f g c i j k l}{K:Kn}{n:Nat}
def U3(d:ao K)(h:wD K n v6 b f g=some r):CE M e r [gF 255] (akW v6 b f g):=by
 unfold wD at h;refine ay 2 3 1 (ai 3 ?_);obtain⟨i,a,h⟩:=aw h;refine aS (PJ d a) (ac (ay 2 3 1 (ai 1 ?_)));obtain⟨j,c,h⟩:=aw h;refine aS (Gk d c) (ac (aL 3 (mP 2 ?_)));cases h;exact bA
def PE(d:ao K)(h:zK K n v6 c i j=some r):CE M e r [gF 255] (XD v6 c i j):=by
 unfold zK at h;refine ay 2 3 1 (ai 3 ?_);obtain⟨f,a,h⟩:=aw h;refine aS (PJ d a) (ac (ay 2 3 1 (ai 1 ?_)));obtain⟨g,b,h⟩:=aw h;refine aS (Gk d b) (ac (aL 3 (mP 2 ?_)));cases h;exact bA
def L9(j:ao K)(h:tJ K n a v6 o=some r):CE M e r [gF 15] (aeR a v6 o):=by
 unfold tJ at h;rcases am h with⟨f,d⟩|⟨f,d⟩
 ·subst f;have h:=d;refine ay 2 3 1 (ai 1 ?_);obtain⟨k,h⟩:=aD h;refine au (bD ax ax k (cY) aT) (ac ?_);obtain⟨b,l,h⟩:=bU h;refine bC (ks':=[gF 62,gF 63]) 1 ⟨[(0,.sl (lm ax a)),(2,.ptr 2 0),(3,.ptr 451119 0),(6,.ptr 6 0)],[(2,List.set (aZ cX) 61 (.nils)),(6,aI b),(451119,[.ptr 451119 0,.ref 401119])],[(401119,⟨5,1,lm (ak .u8) v6⟩)],[2,6,451119,401119]⟩ ?_ (by subst l;kernel_rfl);refine ai 0 ?_;obtain⟨m,h⟩:=aD h;refine UO 451119 401119 (L:=v6) m (ac (bX 12 13 7 4 (ai 2 (au (bz ax a) (aP 4 1 ?_)))));obtain⟨p,h⟩:=aD h;refine au (bD ax ax p (cY) aT) (ac ?_);obtain⟨D,q,h⟩:=bU h;refine bC (ks':=[gF 509,gF 255]) 0 ⟨[(2,.ptr 2 0),(6,.ptr 6 0),(7,.ptr 7 0),(8,.str (bytesOf v6)),(36,.bool D)],[(2,List.set (aZ cX) 61 (.nils)),(6,aI b),(7,List.set (aZ ({ cX with Text:=(bytesOf v6) }:aB)) 61 (.nils))],[],[2,6,7]⟩ ?_ (by subst q;kernel_rfl)
  obtain⟨g,h⟩|⟨g,h⟩:=am h
  ·refine ah 36 g (ay 4 5 2 (ai 4 ?_));obtain⟨s,h⟩:=aD h;refine au (Ec s) (ac ?_);obtain⟨E,t,h⟩:=bU h;refine bC (ks':=[gF 2037,gF 255]) 0 ⟨[(2,.ptr 2 0),(6,.ptr 6 0),(7,.ptr 7 0),(8,.str E)],[(2,List.set (aZ cX) 61 (.nils)),(6,aI b),(7,List.set (aZ ({ cX with Text:=(bytesOf v6) }:aB)) 61 (.nils))],[],[2,6,7]⟩ ?_ (by subst t;kernel_rfl);refine ai 2 ?_;obtain⟨H,u,h⟩:=aw h;exact aS (G4 j u) (ac (ag 0 (U3 j h)))
  ·exact ah 36 g (ag 2 (U3 j h))
 ·subst f;have h:=d;refine ay 2 3 1 (ai 1 ?_);obtain⟨v,h⟩:=aD h;refine au (bD ax ax v (cY) aT) (ac ?_);obtain⟨c,w,h⟩:=bU h;refine bC (ks':=[gF 62,gF 63]) 1 ⟨[(0,.sl (lm ax a)),(2,.ptr 2 0),(3,.ptr 451119 0),(6,.ptr 6 0)],[(2,List.set (aZ cX) 61 (.nils)),(6,aI c),(451119,[.nilp,.ref 401119])],[(401119,⟨5,1,lm (ak .u8) v6⟩)],[2,6,451119,401119]⟩ ?_ (by subst w;kernel_rfl);refine ai 0 ?_;obtain⟨x,h⟩:=aD h;refine UO 451119 401119 (L:=v6) x (ac (bX 12 13 7 4 (ai 2 (au (bz ax a) (aP 4 1 ?_)))));obtain⟨y,h⟩:=aD h;refine au (bD ax ax y (cY) aT) (ac ?_);obtain⟨F,z,h⟩:=bU h;refine bC (ks':=[gF 509,gF 255]) 0 ⟨[(2,.ptr 2 0),(6,.ptr 6 0),(7,.ptr 7 0),(8,.str (bytesOf v6)),(36,.bool F)],[(2,List.set (aZ cX) 61 (.nils)),(6,aI c),(7,List.set (aZ ({ cX with Text:=(bytesOf v6) }:aB)) 61 (.nils))],[],[2,6,7]⟩ ?_ (by subst z;kernel_rfl);obtain⟨i,h⟩|⟨i,h⟩:=am h
  ·refine ah 36 i (ay 4 5 2 (ai 4 ?_));obtain⟨A,h⟩:=aD h;refine au (Ec A) (ac ?_);obtain⟨G,B,h⟩:=bU h;refine bC (ks':=[gF 2037,gF 255]) 0 ⟨[(2,.ptr 2 0),(6,.ptr 6 0),(7,.ptr 7 0),(8,.str G)],[(2,List.set (aZ cX) 61 (.nils)),(6,aI c),(7,List.set (aZ ({ cX with Text:=(bytesOf v6) }:aB)) 61 (.nils))],[],[2,6,7]⟩ ?_ (by subst B;kernel_rfl);refine ai 2 ?_;obtain⟨I,C,h⟩:=aw h;exact aS (G4 j C) (ac (ag 0 (PE j h)))
  ·exact ah 36 i (ag 2 (PE j h))
def Yj(f:ao K)(d:Tp M e r a k l)(h:Ah K n a l v4 v5 v6=some r):CE M e r (gF 116::ac0 M e r k) (Mz a v4 v5 v6):=by
 unfold Ah at h;rcases am h with⟨m,b⟩|⟨m,b⟩
 ·subst m;have h:=b;refine ay 6 7 3 ?_;obtain⟨o,h⟩|⟨o,h⟩:=am h
  ·refine ah 12 o (cQ 8 9 1 3 5 (ai 0 ?_));obtain⟨p,h⟩:=aD h;refine au (bD ax ax p (cY) aT) (ac (ai 2 ?_));obtain⟨q,g,h⟩:=aw h;exact kA 401119 9 [(451119,450119)] (Pg f g) (ac (ag 2 (bu (d h))))
  ·exact ah 12 o (ag 5 (L9 f h))
 ·subst m;have h:=b;refine ay 6 7 3 ?_;obtain⟨c,h⟩|⟨c,h⟩:=am h
  ·refine ah 12 c (cQ 8 9 1 3 5 (ai 0 ?_));obtain⟨i,h⟩:=aD h;refine au (bD ax ax i (cY) aT) (ac (ai 2 ?_));obtain⟨s,j,h⟩:=aw h;exact kA 401119 9 [(451119,450119)] (Pg f j) (ac (ag 2 (bu (d h))))
  ·exact ah 12 c (ag 5 (L9 f h))
def Y1(b:ao K)(m:Nat):Tp M e r a m (uJ K n a m):=by
 induction m with
 | zero=>exact fun h=>nomatch h
 | succ m c=>exact fun h=>bp (Yj b c h)
def FK(b:ao K)(h:tc K n a=some r):ba bb 156 [.sl (lm ax a)] (fun v _=>v=.agg (aZ r)):=by
 refine bI (cat Tryz.f156 (pn 1)) Tryz.func156 Tryz.ntmps156 fun M e=>(bn ⟨[(0,.sl (lm ax a))],[],[],[]⟩ ?_);unfold tc at h;exact ay 6 7 3 (ai 0 (age 451119 (T:=119) (d:=3) (cs:=[.nilp,.nils]) (ac (bX 4 5 3 2 (ai 1 (au (bz ax a) (ac (ig 2 0 1 (bJ [0,2,3,9,10,11] [2,451119] [] (ze 401119 451119 1 5 1 (ag 0 (cc (p:=pn 58) n (Y1 b n h)))))))))))))
end
section
variable[GS](M:Nat→Prop)(i:aC)(r:d4)(x:dO)(v2:Fv)(c:d6)(a:Int)(f:d4)(g:Bool)(d:Int)(t:Bool)(o:Int)(q:aB)(j u:Nat)(l:Int→d4→Option d4)(w:Int→Option d4)
abbrev AP:Cx:=⟨bb,120,M,i⟩
abbrev xI:=bodyPost bb Tryz.f112 (bR M i (fun v s=>v=.ref 117∧look 117 s.r=some (b5 r)))
abbrev xn(a:dn)(s:AS):=VE (AP M i) (xI M i r) a .normal s
abbrev fT(n:Nat):aq:=.c (cat Tryz.f112 (pn n))
abbrev GP:dn:=[.b 0,fT 31]
abbrev lx:dn:=kl (AP M i) (xI M i r) GP (cat Tryz.f112 (pn 244)) j::GP
abbrev FD:dn:=.b 3::fT 4009823 :: .b 2::fT 31327 :: .b 1::lx M i r j
abbrev Tq:dn:=kl (AP M i) (xI M i r) (FD M i r j) (cat Tryz.f112 (pn 16039288)) u::(FD M i r j)
def acu:AS:=⟨[(1,.fn v2.id v2.aV),(5,.sl (lm ax c)),(6,.ref 117),(8,.ptr 8 0),(9,.bool g),(10,.ptr 10 0),(11,iI o)],[(8,ax (gD c a)),(10,aZ q)],[(117,(b5 f))],[8,10,117]⟩
def ach:AS:=⟨[(1,.fn v2.id v2.aV),(5,.sl (lm ax c)),(6,.ref 117),(7,iI a),(8,.ptr 8 0),(9,.bool g),(10,.ptr 10 0),(11,iI d),(81,.bool t)],[(8,ax (gD c a)),(10,List.set (aZ cX) 61 (.nils))],[(117,(b5 f))],[8,10,117]⟩
def Qh:AS:=⟨[(1,.fn v2.id v2.aV),(5,.sl (lm ax c)),(6,.ref 117),(7,iI a),(8,.ptr 8 0),(9,.bool g),(10,.ptr 10 0),(11,iI d)],[(8,ax (gD c a)),(10,List.set (aZ cX) 61 (.nils))],[(117,(b5 f))],[8,10,117]⟩
def af8:AS:=⟨[(1,.fn v2.id v2.aV),(5,.sl (lm ax c)),(6,.ref 117),(7,iI a),(8,.ptr 8 0),(9,.bool g)],[(8,ax (gD c a))],[(117,(b5 f))],[8,117]⟩
def ND:AS:=⟨[(1,.fn v2.id v2.aV),(5,.sl (lm ax c)),(6,.ref 117),(7,iI a)],[],[(117,(b5 f))],[117]⟩
abbrev pL:Prop:=∀{a:Int} {f:d4},l a f=some r→LP (AP M i) (xI M i r) GP (cat Tryz.f112 (pn 244)) j (ND v2 c a f)
abbrev Fp:Prop:=∀{d:Int},w d=some r→LP (AP M i) (xI M i r) (FD M i r j) (cat Tryz.f112 (pn 16039288)) u (Qh v2 c a f g d)
variable{M i r x v2 c a f g d t o q j u l w}{K:Kn}{n:Nat}
def IW(s:ao K)(k:pL M i r v2 c j l)(h:lU K n v2 c a f g l o q=some r):xn M i r (.b 2::fT 31327 :: .b 1::lx M i r j) (acu v2 c a f g o q):=by
 unfold lU at h;refine fO 2 3 2 (bJ [1,5,6,8,9,10,11] [8,10] [117] (bQ 3 (nu 100 [.ptr 8 4,.cptr (az ((gD c a).Box)),.cptr (az ((gD c a).Box)),.cptr (List.drop 1 (az ((gD c a).Box))),iI (((gD c a).Box).Node),.ptr 8 4,.cptr (az ((gD c a).Box)),.cptr (az ((gD c a).Box)),.cptr (List.drop 2 (az ((gD c a).Box))),.agg (aI (((gD c a).Box).Style)),.bool g,.ptr 10 0,.ptr 10 2,.ptr 10 59]) [] [] [ci bb 120 Tryz.f112 (pn 62654) 12,ci bb 120 Tryz.f112 (pn 62654) 14,ci bb 120 Tryz.f112 (pn 62654) 16] (av [.v 0 1,.v 0 1,.v 0 1,.v 0 1,.v 0 1,.v 0 2,.v 0 2,.v 0 2,.v 0 2,.v 0 2,.v 0 3,.v 0 1] (aj (cg 0) (av [.v 1 1] (aj (cg 1) (av [.v 2 1] (aj (cg 2) bS)))))) ?_));obtain⟨m,b,h⟩:=bU h;obtain⟨p,d,h⟩:=bU h;refine bC (ks':=fT 125310::fT 125311 :: .b 1::lx M i r j) 1 ⟨[(1,.fn v2.id v2.aV),(5,.sl (lm ax c)),(6,.ref 117),(10,.ptr 10 0),(11,iI o)],[(10,aZ ({ q with Node:=m,Style:=p,Glued:=g }:aB))],[(117,(b5 f))],[10,117]⟩ ?_ (by subst d;subst b;kernel_rfl)
 refine ai 3 ?_;obtain⟨e,h⟩:=aD h;exact au (cA 117 117 165 62 aZ (rfl) (iJ) e) (ac (ag 2 (bu (k h))))
def A8(s:ao K)(p:pL M i r v2 c j l)(q:Fp M i r v2 c a f g j u w)(h:lz K n v2 c a f g d l w t=some r):xn M i r (fT 64157153::fT 32078577::Tq M i r j u) (ach v2 c a f g d t):=by
 unfold lz at h;obtain⟨b,h⟩|⟨b,h⟩:=am h
 ·exact ah 81 b (ag 5 (bu (q h)))
 ·refine ah 81 b (cd (ks':=fT 4009823 :: .b 2::fT 31327 :: .b 1::lx M i r j) 5 (ai 3 ?_));obtain⟨m,h⟩:=aD h;refine au (jp ax c a d 206 (.tmp 84) (some (.tmp 85)) (some (.tmp 86)) 87 (e:=210) (sz:=5) (by kernel_rfl) (by kernel_rfl) (by kernel_rfl) (by kernel_rfl) (by kernel_rfl) (by kernel_rfl) (cY) (fun k v=>by subst v;kernel_rfl) m) ?_;obtain⟨x,o,h⟩:=aw h;exact aS (FK s o) (ac (ag 0 (IW s p h)))
def aaN(x:ao K)(o:pL M i r v2 c j l)(p:Fp M i r v2 c a f g j u w)(h:we K n v2 c a f g l w d=some r):xn M i r (fT 16039288::Tq M i r j u) (Qh v2 c a f g d):=by
 unfold we at h;refine bX 4 5 3 2 (bJ [1,5,6,7,8,9,10,11] [8,10] [117] ?_);obtain⟨k,h⟩|⟨k,h⟩:=am h
 ·obtain⟨q,h⟩:=aD h;obtain⟨m,h⟩|⟨m,h⟩:=am h
  ·obtain⟨v,h⟩:=aD h;obtain⟨s,h⟩|⟨s,h⟩:=am h
   ·obtain⟨y,h⟩:=aD h;obtain⟨z,h⟩:=aD h;obtain⟨t,A,h⟩:=aw h;exact bQ 0 (nu 47 [iI d,.sl (lm ax c),iI (c.length:Int),.bool (decide (d<(c.length:Int))),.bool true,.sl (lm ax c),iI d,.cptr (ax (gD c d)),.cptr (List.drop 0 (ax (gD c d))),iI ((gD c d).Kind),.bool (((gD c d).Kind) == 1),.bool (((gD c d).Kind) == 1),.bool true,.sl (lm ax c),iI d,.cptr (ax (gD c d)),.cptr (List.drop 1 (ax (gD c d))),iI ((gD c d).Of),.ptr 8 1,iI ((gD c a).Of),.bool (((gD c d).Of) == ((gD c a).Of)),.bool (((gD c d).Of) == ((gD c a).Of)),.bool true,.sl (lm ax c),iI d,iI (aa (d-1)),.cptr (ax (gD c ((aa (d-1))))),.agg (ax (gD c ((aa (d-1))))),.sl (lm ax c),iI d,.cptr (ax (gD c d)),.agg (ax (gD c d)),.bool t,.bool (!t),.bool (!t)]) [] [] [] (av (vz 2) (bi (bz ax c) (av [.v 0 1] (aj (cW 0 51 (e:=(decide (d<(c.length:Int)))) (b:=true) k) (av (vz 2) (bi (bD ax ax q (cY) aT) (av (vz 4) (aj (cW 0 59 (e:=(((gD c d).Kind) == 1)) (b:=true) m) (av (vz 2) (bi (bD ax ax v (cY) aT) (av (vz 6) (aj (cW 0 69 (e:=(((gD c d).Of) == ((gD c a).Of))) (b:=true) s) (av (vz 3) (bi (bD ax ax y (cY) aT) (av (vz 3) (bi (bD ax ax z (cY) aT) (av [.v 0 1] (aj (cj 0 1 79 (uB x A)) (av (vz 2) bS))))))))))))))))))) (ag 0 (A8 x o p h))
   ·exact bQ 0 (nu 47 [iI d,.sl (lm ax c),iI (c.length:Int),.bool (decide (d<(c.length:Int))),.bool true,.sl (lm ax c),iI d,.cptr (ax (gD c d)),.cptr (List.drop 0 (ax (gD c d))),iI ((gD c d).Kind),.bool (((gD c d).Kind) == 1),.bool (((gD c d).Kind) == 1),.bool true,.sl (lm ax c),iI d,.cptr (ax (gD c d)),.cptr (List.drop 1 (ax (gD c d))),iI ((gD c d).Of),.ptr 8 1,iI ((gD c a).Of),.bool (((gD c d).Of) == ((gD c a).Of)),.bool (((gD c d).Of) == ((gD c a).Of)),.bool false,be,be,be,be,be,be,be,be,be,be,be,.bool false]) [] [] [] (av (vz 2) (bi (bz ax c) (av [.v 0 1] (aj (cW 0 51 (e:=(decide (d<(c.length:Int)))) (b:=true) k) (av (vz 2) (bi (bD ax ax q (cY) aT) (av (vz 4) (aj (cW 0 59 (e:=(((gD c d).Kind) == 1)) (b:=true) m) (av (vz 2) (bi (bD ax ax v (cY) aT) (av (vz 6) (aj (cW 0 69 (e:=(((gD c d).Of) == ((gD c a).Of))) (b:=false) s) (aj (aF 0 1) (aj (aF 0 1) (aj (aF 0 1) (aj (aF 0 1) (aj (aF 0 1) (aj (aF 0 1) (aj (aF 0 1) (aj (aF 0 1) (aj (aF 0 1) (aj (aF 0 1) (aj (aF 0 1) (av [.v 0 1] bS)))))))))))))))))))))))) (ag 0 (A8 x o p h))
  ·exact bQ 0 (nu 47 [iI d,.sl (lm ax c),iI (c.length:Int),.bool (decide (d<(c.length:Int))),.bool true,.sl (lm ax c),iI d,.cptr (ax (gD c d)),.cptr (List.drop 0 (ax (gD c d))),iI ((gD c d).Kind),.bool (((gD c d).Kind) == 1),.bool (((gD c d).Kind) == 1),.bool false,be,be,be,be,be,be,be,be,.bool false,.bool false,be,be,be,be,be,be,be,be,be,be,be,.bool false]) [] [] [] (av (vz 2) (bi (bz ax c) (av [.v 0 1] (aj (cW 0 51 (e:=(decide (d<(c.length:Int)))) (b:=true) k) (av (vz 2) (bi (bD ax ax q (cY) aT) (av (vz 4) (aj (cW 0 59 (e:=(((gD c d).Kind) == 1)) (b:=false) m) (aj (aF 0 1) (aj (aF 0 1) (aj (aF 0 1) (aj (aF 0 1) (aj (aF 0 1) (aj (aF 0 1) (aj (aF 0 1) (aj (aF 0 1) (av (vz 2) (aj (aF 0 1) (aj (aF 0 1) (aj (aF 0 1) (aj (aF 0 1) (aj (aF 0 1) (aj (aF 0 1) (aj (aF 0 1) (aj (aF 0 1) (aj (aF 0 1) (aj (aF 0 1) (aj (aF 0 1) (av [.v 0 1] bS))))))))))))))))))))))))))))) (ag 0 (A8 x o p h))
 ·exact bQ 0 (nu 47 [iI d,.sl (lm ax c),iI (c.length:Int),.bool (decide (d<(c.length:Int))),.bool false,be,be,be,be,be,be,.bool false,.bool false,be,be,be,be,be,be,be,be,.bool false,.bool false,be,be,be,be,be,be,be,be,be,be,be,.bool false]) [] [] [] (av (vz 2) (bi (bz ax c) (av [.v 0 1] (aj (cW 0 51 (e:=(decide (d<(c.length:Int)))) (b:=false) k) (aj (aF 0 1) (aj (aF 0 1) (aj (aF 0 1) (aj (aF 0 1) (aj (aF 0 1) (aj (aF 0 1) (av (vz 2) (aj (aF 0 1) (aj (aF 0 1) (aj (aF 0 1) (aj (aF 0 1) (aj (aF 0 1) (aj (aF 0 1) (aj (aF 0 1) (aj (aF 0 1) (av (vz 2) (aj (aF 0 1) (aj (aF 0 1) (aj (aF 0 1) (aj (aF 0 1) (aj (aF 0 1) (aj (aF 0 1) (aj (aF 0 1) (aj (aF 0 1) (aj (aF 0 1) (aj (aF 0 1) (aj (aF 0 1) (av [.v 0 1] bS)))))))))))))))))))))))))))))))) (ag 0 (A8 x o p h))
def abI(d:ao K)(b:pL M i r v2 c j l)(m:Nat):Fp M i r v2 c a f g j m (uy K n v2 c a f g l m):=by
 induction m with
 | zero=>exact fun h=>nomatch h
 | succ m e=>exact fun h=>bp (aaN d b e h)
def GJ(k:ao K)(e:pL M i r v2 c j l)(h:pY K n v2 c a f l g=some r):xn M i r (fT 3915 :: .b 1::lx M i r j) (af8 v2 c a f g):=by
 unfold pY at h;obtain⟨s,m,h⟩:=bU h;refine bC (ks':=fT 250613 :: .b 2::fT 31327 :: .b 1::lx M i r j) 10 ⟨[(1,.fn v2.id v2.aV),(5,.sl (lm ax c)),(6,.ref 117),(7,iI a),(8,.ptr 8 0),(9,.bool g),(10,.ptr 10 0),(11,iI (aa (a+1))),(46,iI ((gD c a).Kind)),(89,.bool s)],[(8,ax (gD c a)),(10,List.set (aZ cX) 61 (.nils))],[(117,(b5 f))],[8,10,117]⟩ ?_ (by subst m;kernel_rfl);obtain⟨b,h⟩|⟨b,h⟩:=am h
 ·exact ah 89 b (cd (ks':=.b 2::fT 31327 :: .b 1::lx M i r j) 2 (mP 10 (ag 0 (IW k e h))))
 ·refine ah 89 b ?_;obtain⟨t,o,h⟩:=bU h;refine bC (ks':=fT 1002455 :: .b 2::fT 31327 :: .b 1::lx M i r j) 3 ⟨[(1,.fn v2.id v2.aV),(5,.sl (lm ax c)),(6,.ref 117),(7,iI a),(8,.ptr 8 0),(9,.bool g),(10,.ptr 10 0),(11,iI (aa (a+1))),(92,.bool t)],[(8,ax (gD c a)),(10,List.set (aZ cX) 61 (.nils))],[(117,(b5 f))],[8,10,117]⟩ ?_ (by subst o;kernel_rfl);obtain⟨d,h⟩|⟨d,h⟩:=am h
  ·refine ah 92 d (bv 2 1 (ai 5 ?_));obtain⟨u,q,h⟩:=aw h;exact lS (k.sB q) (ac (ag 0 (IW k e h)))
  ·exact ah 92 d (ag 3 (cc (p:=pn 8019644) n (abI k e n h)))
def afX(q:ao K)(m:pL M i r v2 c j l)(h:wN K n v2 c l a f=some r):xn M i r (fT 244::lx M i r j) (ND v2 c a f):=by
 unfold wN at h;refine bX 4 5 3 2 (ai 2 (au (bz ax c) (ac ?_)));obtain⟨g,h⟩|⟨g,h⟩:=am h
 ·refine ah 17 g (cd (ks':=fT 1956::fT 1957 :: .b 1::lx M i r j) 4 (ai 2 ?_));obtain⟨s,h⟩:=aD h;refine au (bD ax ax s (cY) aT) (ac (ay 2 3 1 (bJ [1,5,6,7,8] [8] [117] ?_)));obtain⟨d,h⟩|⟨d,h⟩:=am h
  ·obtain⟨p,h⟩:=aD h;obtain⟨k,h⟩|⟨k,h⟩:=am h
   ·obtain⟨t,h⟩:=aD h;obtain⟨o,u,h⟩:=aw h;exact bQ 1 (nu 22 [iI a,.bool (decide (a>0)),.bool true,.sl (lm ax c),iI a,iI (aa (a-1)),.cptr (ax (gD c ((aa (a-1))))),.cptr (List.drop 0 (ax (gD c ((aa (a-1)))))),iI ((gD c ((aa (a-1)))).Kind),.bool (((gD c ((aa (a-1)))).Kind) != 2),.bool (((gD c ((aa (a-1)))).Kind) != 2),.bool true,.sl (lm ax c),iI a,iI (aa (a-1)),.cptr (ax (gD c ((aa (a-1))))),.agg (ax (gD c ((aa (a-1))))),.agg (ax (gD c a)),.bool o,.bool (!o),.bool (!o)]) [] [] [ci bb 120 Tryz.f112 (pn 3914) 21] (av (vz 2) (aj (cW 0 24 (e:=(decide (a>0))) (b:=true) d) (av (vz 3) (bi (bD ax ax p (cY) aT) (av (vz 4) (aj (cW 0 33 (e:=(((gD c ((aa (a-1)))).Kind) != 2)) (b:=true) k) (av (vz 3) (bi (bD ax ax t (cY) aT) (av (vz 2) (aj (cj 0 1 40 (uB q u)) (av (vz 2) (aj (cg 0) bS)))))))))))) (ag 0 (GJ q m h))
   ·exact bQ 1 (nu 22 [iI a,.bool (decide (a>0)),.bool true,.sl (lm ax c),iI a,iI (aa (a-1)),.cptr (ax (gD c ((aa (a-1))))),.cptr (List.drop 0 (ax (gD c ((aa (a-1)))))),iI ((gD c ((aa (a-1)))).Kind),.bool (((gD c ((aa (a-1)))).Kind) != 2),.bool (((gD c ((aa (a-1)))).Kind) != 2),.bool false,be,be,be,be,be,be,be,be,.bool false]) [] [] [ci bb 120 Tryz.f112 (pn 3914) 21] (av (vz 2) (aj (cW 0 24 (e:=(decide (a>0))) (b:=true) d) (av (vz 3) (bi (bD ax ax p (cY) aT) (av (vz 4) (aj (cW 0 33 (e:=(((gD c ((aa (a-1)))).Kind) != 2)) (b:=false) k) (aj (aF 0 1) (aj (aF 0 1) (aj (aF 0 1) (aj (aF 0 1) (aj (aF 0 1) (aj (aF 0 1) (aj (aF 0 1) (aj (aF 0 1) (av [.v 0 1] (aj (cg 0) bS)))))))))))))))) (ag 0 (GJ q m h))
  ·exact bQ 1 (nu 22 [iI a,.bool (decide (a>0)),.bool false,be,be,be,be,be,be,be,.bool false,.bool false,be,be,be,be,be,be,be,be,.bool false]) [] [] [ci bb 120 Tryz.f112 (pn 3914) 21] (av (vz 2) (aj (cW 0 24 (e:=(decide (a>0))) (b:=false) d) (aj (aF 0 1) (aj (aF 0 1) (aj (aF 0 1) (aj (aF 0 1) (aj (aF 0 1) (aj (aF 0 1) (aj (aF 0 1) (av (vz 2) (aj (aF 0 1) (aj (aF 0 1) (aj (aF 0 1) (aj (aF 0 1) (aj (aF 0 1) (aj (aF 0 1) (aj (aF 0 1) (aj (aF 0 1) (av [.v 0 1] (aj (cg 0) bS)))))))))))))))))))) (ag 0 (GJ q m h))
 ·refine ah 17 g (aL 8 ?_);cases h;exact eO
def aeE(a:ao K)(m:Nat):pL M i r v2 c m (uS K n v2 c m):=by
 induction m with
 | zero=>exact fun h=>nomatch h
 | succ m b=>exact fun h=>bp (afX a b h)
def Ya(a:ao K)(h:uD K n x v2=some r):ba bb 112 [.sl (lm aM x),.fn v2.id v2.aV] (fun v s=>v=.ref 117∧look 117 s.r=some (b5 r)):=by
 refine bI (cat Tryz.f112 (pn 1)) anC anA fun M i=>(bn ⟨[(0,.sl (lm aM x)),(1,.fn v2.id v2.aV)],[],[],[]⟩ ?_);unfold uD at h;refine ay 6 7 3 (ai 1 ?_);obtain⟨c,b,h⟩:=aw h;exact eZ 1013 (G9 a b) (fa 400003) (ac (ir 26 0 7 6 (bJ [1,5,6,7] [] [1013] (gG 1013 (fb 117 6 165 62 (ag 0 (cc (p:=pn 122) n (aeE a n h))))))))
end
section
variable[GS](M:Nat→Prop)(d:aC)(r:ae×Int×Int×dt)(b:ab)(v2:cf)(a:bB)(v4 v5:Int)(v6:dt)  
abbrev WA(n:Nat):aq:=.c (cat Tryz.f74 (pn n))
variable{M d r b v2 a v4 v5 v6}{K:Kn}{n:Nat}[SG d][PF a.Layout]
def adG(f:ao K)(h:zG K n b v2 a v4 v5 v6=some r):d8 bb 74 [.agg (az b),.agg (cu v2),.agg (bP a)] [(af v4 v5)] (bk v6) (fun v s=>v=.agg (aH r.1)∧cw s.o [(af r.2.1 r.2.2.1)]∧look 440009 s.r=some (bk r.2.2.2)):=by
 refine kn (c:=cat Tryz.f74 []) Tryz.func74 (by kernel_rfl) _ Tryz.ntmps74 (jt (by kernel_rfl)) fun M d=>(bn ⟨[(0,.agg (az b)),(1,.agg (cu v2)),(2,.agg (bP a))],[(af v4 v5)],[(440009,(bk v6))],[440009,440001,1440001]⟩ ?_);unfold zG at h;refine cd (ks':=[WA 6,WA 7]) 3 (ai 3 ?_);obtain⟨g,e,h⟩:=aw h;refine pG (Ml f e) (ac (aL 1 ?_));cases h;exact fj
end
section
variable[GS](M:Nat→Prop)(b:aC)(r:Int)(a:ab)(v2:Int)(c:bB)(d:Int)  
abbrev aeP(n:Nat):aq:=.c (cat Tryz.f99 (pn n))
abbrev abw:Cx:=⟨bb,46,M,b⟩
abbrev q99:=bodyPost bb Tryz.f99 (bR M b (fun v _=>v=iI r))
abbrev abg(a:dn)(s:AS):=VE (abw M b) (q99 M b r) a .normal s
def acR:AS:=⟨[(1,iI v2),(3,.ptr 3 0),(7,iI d)],[(3,az a)],[],[3]⟩
variable{M b r a v2 c d}{K:Kn}{n:Nat}
def Wl(e:ao K)(h:BF K n a v2 d=some r):abg M b r [aeP 15] (acR a v2 d):=by
 unfold BF at h;refine ay 2 3 1 (ai 4 ?_);obtain⟨f,c,h⟩:=aw h;refine aS (za e c) (ac (aL 1 ?_));cases h;exact bA
def agS(d:ao K)(h:FP K n a v2 c=some r):ba bb 99 [.agg (az a),iI v2,.agg (bP c)] (fun v _=>v=iI r):=by
 refine bI (cat Tryz.f99 (pn 1)) Tryz.func99 Tryz.ntmps99 fun M b=>(bn ⟨[(0,.agg (az a)),(1,iI v2),(2,.agg (bP c))],[],[],[]⟩ ?_);unfold FP at h;refine ay 6 7 3 (ai 4 ?_);obtain⟨v4,g,h⟩:=aw h;refine aS (eD d g) (ac (ay 5 3 3 ?_));obtain⟨e,h⟩|⟨e,h⟩:=am h
 ·refine ah 21 e (ay 4 5 2 (ai 2 ?_));obtain⟨v5,i,h⟩:=aw h;refine aS (Om d i) (ac (ay 2 3 1 (bJ [1,3,9,10] [3] [] ?_)));obtain⟨v6,j,h⟩:=aw h;obtain⟨m,k,h⟩:=aw h;obtain⟨f,l,h⟩:=aw h;exact bQ 1 (nu 28 [iI v2,iI v6,.ptr 3 2,.agg (aI a.Style),iI v2,.agg (cu m),iI f,iI (aa (v6-f))]) [] [] [ci bb 46 Tryz.f99 (pn 234) 8] (av [.v 0 1] (aj (cj 0 1 29 (j0 d j)) (av (vz 3) (aj (cj 0 1 33 (mZ d k)) (aj (cj 0 1 34 (oC d l)) (av [.v 0 1] (aj (cg 0) bS))))))) (ag 1 (Wl d h))
 ·exact ah 21 e (ag 2 (Wl d h))
end
section
variable[GS](M:Nat→Prop)(c:aC)(r:aB)(a:ab)(v2:Int)(b:bB)  
variable{M c r a v2 b}{K:Kn}{n:Nat}
def agY(d:ao K)(h:F0 K n a v2 b=some r):ba bb 147 [.agg (az a),.cptr ([iI v2]),.cptr (bP b)] (fun v _=>v=.agg (aZ r)):=by
 refine bI (cat Tryz.f147 (pn 1)) Tryz.func147 Tryz.ntmps147 fun M c=>(bn ⟨[(0,.agg (az a)),(1,.cptr ([iI v2])),(2,.cptr (bP b))],[],[],[]⟩ ?_);unfold F0 at h;refine ay 6 7 3 (bJ [1,2,3,4] [3,4] [] ?_);obtain⟨v4,e,h⟩:=aw h;obtain⟨v5,f,h⟩:=aw h;refine bQ 1 (nu 7 [.ptr 3 2,.agg (aI a.Style),iI v2,.agg (az a),iI v2,.agg (bP b),iI v4,.agg (cu v5)]++nu 5 [.ptr 5 0]) [(5,cu jW)] [] [ci bb 36 Tryz.f147 (pn 6) 9] (av (vz 6) (aj (cj 0 1 13 (agS d e)) (aj (cj 0 1 14 (mZ d f)) (aj (qy 0 1 68 5 (cu jW)) (aj (cg 0) bS))))) ?_;cases h
end
section
variable[GS](M:Nat→Prop)(c:aC)(r:d4)(b:dO)(v2:Int)(a:bB)  
variable{M c r b v2 a}{K:Kn}{n:Nat}
def ac4(e:ao K)(h:zN K n b v2 a=some r):ba bb 109 [.sl (lm aM b),iI v2,.agg (bP a)] (fun v s=>v=.ref 1009∧look 1009 s.r=some (b5 r)):=by
 refine bI (cat Tryz.f109 (pn 1)) Tryz.func109 Tryz.ntmps109 fun M c=>(bn ⟨[(0,.sl (lm aM b)),(1,iI v2),(2,.agg (bP a))],[],[],[]⟩ ?_);unfold zN at h;refine ay 6 7 3 (ai 1 (n6 4 4 ([iI v2]) (n6 5 5 (bP a) (sg 147 #[(.tmp 4),(.tmp 5)] [.cptr ([iI v2]),.cptr (bP a)] ?_))));obtain⟨v4,d,h⟩:=aw h;refine eZ 1009 (Ya e d) (fa 117) (ac (aL 1 ?_));cases h;exact eO
end
section
variable[GS](M:Nat→Prop)(a:aC)(r:Int)(b:d4)(v2 v4:Int)(v5:Bool)(c:Nat)(d:Int→Option Int)
abbrev E0:Cx:=⟨bb,22,M,a⟩
abbrev HQ:=bodyPost bb Tryz.f115 (bR M a (fun v _=>v=iI r))
abbrev U8(b:dn)(s:AS):=VE (E0 M a) (HQ M a r) b .normal s
abbrev Dg(n:Nat):aq:=.c (cat Tryz.f115 (pn n))
abbrev G2:dn:=[.b 0,Dg 15]
abbrev Ql:dn:=kl (E0 M a) (HQ M a r) G2 (cat Tryz.f115 (pn 56)) c::G2
def XY:AS:=⟨[(0,.sl (lm aZ b)),(5,iI v4),(18,.bool v5)],[],[],[]⟩
def Uf:AS:=⟨[(0,.sl (lm aZ b)),(5,iI v4)],[],[],[]⟩
abbrev GG:Prop:=∀{v4:Int},d v4=some r→LP (E0 M a) (HQ M a r) G2 (cat Tryz.f115 (pn 56)) c (Uf b v4)
variable{M a r b v2 v4 v5 c d}{K:Kn}{n:Nat}
def Wk(g:ao K)(f:GG M a r b c d)(h:vo K n b v4 d v5=some r):U8 M a r (Dg 225::Dg 113::Ql M a r c) (XY b v4 v5):=by
 unfold vo at h;obtain⟨e,h⟩|⟨e,h⟩:=am h
 ·exact ah 18 e (ag 5 (bu (f h)))
 ·refine ah 18 e (aL 8 ?_);cases h;exact bA
def aif(g:ao K)(e:GG M a r b c d)(h:AC K n b d v4=some r):U8 M a r (Dg 56::Ql M a r c) (Uf b v4):=by
 unfold AC at h;refine bX 4 5 3 2 (ai 2 (au (bz aZ b) (aP 5 2 ?_)));obtain⟨f,h⟩|⟨f,h⟩:=am h
 ·refine aG 12 f (aP 7 2 ?_);obtain⟨i,h⟩:=aD h;exact au (bD aZ aZ i (iJ) aT) (ac (ag 0 (Wk g e h)))
 ·exact aG 12 f (ac (ag 0 (Wk g e h)))
def ZA(c:ao K)(m:Nat):GG M a r b m (wk K n b m):=by
 induction m with
 | zero=>exact fun h=>nomatch h
 | succ m d=>exact fun h=>bp (aif c d h)
def HX(c:ao K)(h:pW K n b v2=some r):ba bb 115 [.sl (lm aZ b),iI v2] (fun v _=>v=iI r):=by
 refine bI (cat Tryz.f115 (pn 1)) Tryz.func115 Tryz.ntmps115 fun M a=>(bn ⟨[(0,.sl (lm aZ b)),(1,iI v2)],[],[],[]⟩ ?_);unfold pW at h;exact ag 6 (cc (p:=pn 28) n (ZA c n h))
end
section
variable[GS](M:Nat→Prop)(a:aC)(r:Int)(b:d4)(c:Int)(d:Nat)(e:Int→Option Int)
abbrev GM:Cx:=⟨bb,18,M,a⟩
abbrev Lc:=bodyPost bb Tryz.f150 (bR M a (fun v _=>v=iI r))
abbrev aeg(b:dn)(s:AS):=VE (GM M a) (Lc M a r) b .normal s
abbrev TK(n:Nat):aq:=.c (cat Tryz.f150 (pn n))
abbrev LD:dn:=[.b 0,TK 7]
abbrev acO:dn:=kl (GM M a) (Lc M a r) LD (cat Tryz.f150 (pn 52)) d::LD
def SQ:AS:=⟨[(0,.sl (lm aZ b)),(3,iI c)],[],[],[]⟩
abbrev Ma:Prop:=∀{c:Int},e c=some r→LP (GM M a) (Lc M a r) LD (cat Tryz.f150 (pn 52)) d (SQ b c)
variable{M a r b c d e}{K:Kn}{n:Nat}
def alx(k:ao K)(i:Ma M a r b d e)(h:pT K n b e c=some r):aeg M a r (TK 52::acO M a r d) (SQ b c):=by
 unfold pT at h;refine ay 5 3 3 ?_;obtain⟨f,h⟩|⟨f,h⟩:=am h
 ·refine ah 8 f (cQ 8 9 1 3 5 (ai 2 ?_));obtain⟨j,h⟩:=aD h;refine au (bD aZ aZ j (iJ) aT) (ac ?_);obtain⟨g,h⟩|⟨g,h⟩:=am h
  ·refine ah 16 g (aL 9 ?_);cases h;exact bA
  ·exact ah 16 g (ag 4 (bu (i h)))
 ·refine ah 8 f (aL 8 ?_);cases h;exact bA
def alo(c:ao K)(m:Nat):Ma M a r b m (qq K n b m):=by
 induction m with
 | zero=>exact fun h=>nomatch h
 | succ m d=>exact fun h=>bp (alx c d h)
def PS(c:ao K)(h:oB K n b=some r):ba bb 150 [.sl (lm aZ b)] (fun v _=>v=iI r):=by
 refine bI (cat Tryz.f150 (pn 1)) Tryz.func150 Tryz.ntmps150 fun M a=>(bn ⟨[(0,.sl (lm aZ b))],[],[],[]⟩ ?_);unfold oB at h;exact bX 12 13 7 4 (ai 1 (au (bz aZ b) (ac (ag 1 (cc (p:=pn 26) n (alo c n h))))))
end
section
variable[GS](M:Nat→Prop)(a:aC)(r:Int)(b:d4)(v2 c v5:Int)(d:Nat)(e:Int→Int→Option Int)
abbrev F6:Cx:=⟨bb,33,M,a⟩
abbrev FS:=bodyPost bb Tryz.f116 (bR M a (fun v _=>v=iI r))
abbrev UV(b:dn)(s:AS):=VE (F6 M a) (FS M a r) b .normal s
abbrev G3(n:Nat):aq:=.c (cat Tryz.f116 (pn n))
abbrev Iq:dn:=[.b 0,G3 15]
abbrev Z4:dn:=kl (F6 M a) (FS M a r) Iq (cat Tryz.f116 (pn 116)) d::Iq
def Xy:AS:=⟨[(3,iI v5)],[],[],[]⟩
def Uq:AS:=⟨[(0,.sl (lm aZ b)),(3,iI v2),(7,.sl (lm aZ b)),(8,iI (b.length:Int)),(9,iI c)],[],[],[]⟩
abbrev MK:Prop:=∀{v2:Int} {c:Int},e v2 c=some r→LP (F6 M a) (FS M a r) Iq (cat Tryz.f116 (pn 116)) d (Uq b v2 c)
variable{M a r b v2 c v5 d e}{K:Kn}{n:Nat}
def Vk(b:ao K)(h:zk K n v5=some r):UV M a r [G3 31] (Xy v5):=by
 unfold zk at h;refine aL 3 ?_;cases h;exact bA
def WJ(i:ao K)(j:MK M a r b d e)(h:wh K n b e v2 c=some r):UV M a r (G3 116::Z4 M a r d) (Uq b v2 c):=by
 unfold wh at h;refine ay 6 7 3 ?_;obtain⟨f,h⟩|⟨f,h⟩:=am h
 ·refine ah 10 f (cQ 8 9 1 3 5 (ai 0 ?_));obtain⟨k,h⟩:=aD h;exact au (bD aZ aZ k (iJ) aT) (ac (ag 3 (bu (j h))))
 ·refine ah 10 f (xg 4 5 3 7 (ai 1 ?_));obtain⟨v4,l,h⟩:=aw h;refine aS (PS i l) (ac (bv 3 2 ?_));obtain⟨g,h⟩|⟨g,h⟩:=am h
  ·refine ah 24 g (bv 2 1 (ai 3 ?_));obtain⟨m,h⟩:=aD h;exact au (bD aZ aZ m (iJ) aT) (ac (ag 0 (Vk i h)))
  ·exact ah 24 g (ag 2 (Vk i h))
def aip(c:ao K)(m:Nat):MK M a r b m (zi K n b m):=by
 induction m with
 | zero=>exact fun h=>nomatch h
 | succ m d=>exact fun h=>bp (WJ c d h)
def EY(c:ao K)(h:pP K n b=some r):ba bb 116 [.sl (lm aZ b)] (fun v _=>v=iI r):=by
 refine bI (cat Tryz.f116 (pn 1)) Tryz.func116 Tryz.ntmps116 fun M a=>(bn ⟨[(0,.sl (lm aZ b))],[],[],[]⟩ ?_);unfold pP at h;exact bX 28 29 15 6 (ai 1 (au (bz aZ b) (ac (ag 1 (cc (p:=pn 58) n (aip c n h))))))
end
section
variable[GS](M:Nat→Prop)(c:aC)(r:b7)(d:d4)(v2 a:Int)(b:b7)(f:Int)(j:Bool)(g l:Nat)(i:Int→b7→Option b7)(o:Int→Option b7)
abbrev y5:Cx:=⟨bb,46,M,c⟩
abbrev AU:=bodyPost bb Tryz.f110 (bR M c (fun v s=>v=.ref 16∧look 16 s.r=some (bf r)))
abbrev Bp(a:dn)(s:AS):=VE (y5 M c) (AU M c r) a .normal s
abbrev kH(n:Nat):aq:=.c (cat Tryz.f110 (pn n))
abbrev GO:dn:=[.b 0,kH 15]
abbrev Ez:dn:=kl (y5 M c) (AU M c r) GO (cat Tryz.f110 (pn 116)) g::GO
abbrev Lq:dn:=.b 2::kH 3735 :: .b 1::Ez M c r g
abbrev HE:dn:=kl (y5 M c) (AU M c r) (Lq M c r g) (cat Tryz.f110 (pn 14936)) l::(Lq M c r g)
def W5:AS:=⟨[(0,.sl (lm aZ d)),(1,iI v2),(5,.ref 16),(7,iI f)],[],[(16,⟨3,1,lm (ak .i64) (b++[a])⟩)],[16]⟩
def air:AS:=⟨[(0,.sl (lm aZ d)),(1,iI v2),(5,.ref 16),(6,iI a),(7,iI f),(32,.bool j)],[],[(16,⟨3,1,lm (ak .i64) (b++[a])⟩)],[16]⟩
def Si:AS:=⟨[(0,.sl (lm aZ d)),(1,iI v2),(5,.ref 16),(6,iI a),(7,iI f)],[],[(16,⟨3,1,lm (ak .i64) (b++[a])⟩)],[16]⟩
def M0:AS:=⟨[(0,.sl (lm aZ d)),(1,iI v2),(5,.ref 16),(6,iI a)],[],[(16,(bf b))],[16]⟩
abbrev sL:Prop:=∀{a:Int} {b:b7},i a b=some r→LP (y5 M c) (AU M c r) GO (cat Tryz.f110 (pn 116)) g (M0 d v2 a b)
abbrev I9:Prop:=∀{f:Int},o f=some r→LP (y5 M c) (AU M c r) (Lq M c r g) (cat Tryz.f110 (pn 14936)) l (Si d v2 a b f)
variable{M c r d v2 a b f j g l i o}{K:Kn}{n:Nat}
def L8(j:ao K)(e:sL M c r d v2 g i)(h:Ea K n d v2 a b f i=some r):Bp M c r (kH 3735 :: .b 1::Ez M c r g) (W5 d v2 a b f):=by
 unfold Ea at h;exact ag 2 (bu (e h))
def Tu(s:ao K)(q:sL M c r d v2 g i)(w:I9 M c r d v2 a b g l o)(h:uR K n d v2 a b f i o j=some r):Bp M c r (kH 59745::kH 29873::HE M c r g l) (air d v2 a b f j):=by
 unfold uR at h;obtain⟨m,h⟩|⟨m,h⟩:=am h
 ·refine ah 32 m (cd (ks':=kH 119492::kH 119493 :: .b 3::HE M c r g l) 4 (ai 2 ?_));obtain⟨x,t,h⟩:=aw h;refine aS (HX s t) (ac (bX 4 5 3 2 (ai 3 ?_)));obtain⟨u,h⟩:=aD h;refine au (jp aZ d a x 159 (.tmp 36) (some (.tmp 37)) (some (.tmp 38)) 39 (e:=165) (sz:=62) (by kernel_rfl) (by kernel_rfl) (by kernel_rfl) (by kernel_rfl) (by kernel_rfl) (by kernel_rfl) (iJ) (fun k y=>by subst y;kernel_rfl) u) ?_;obtain⟨z,v,h⟩:=aw h;refine aS (EY s v) (ac ?_);obtain⟨p,h⟩|⟨p,h⟩:=am h
  ·exact ah 42 p (ag 6 (L8 s q h))
  ·exact ah 42 p (ag 4 (bu (w h)))
 ·exact ah 32 m (ag 5 (L8 s q h))
def ahX(p:ao K)(j:sL M c r d v2 g i)(k:I9 M c r d v2 a b g l o)(h:wH K n d v2 a b i o f=some r):Bp M c r (kH 14936::HE M c r g l) (Si d v2 a b f):=by
 unfold wH at h;refine bX 4 5 3 2 (ai 2 (au (bz aZ d) (aP 5 2 ?_)));obtain⟨e,h⟩|⟨e,h⟩:=am h
 ·refine aG 24 e (aP 8 3 ?_);obtain⟨m,h⟩:=aD h;exact au (bD aZ aZ m (iJ) aT) (ac (ag 0 (Tu p j k h)))
 ·exact aG 24 e (ac (ag 0 (Tu p j k h)))
def act(f:ao K)(e:sL M c r d v2 g i)(m:Nat):I9 M c r d v2 a b g m (wu K n d v2 a b i m):=by
 induction m with
 | zero=>exact fun h=>nomatch h
 | succ m j=>exact fun h=>bp (ahX f e j h)
def aeY(l:ao K)(k:sL M c r d v2 g i)(h:AO K n d v2 i a b=some r):Bp M c r (kH 116::Ez M c r g) (M0 d v2 a b):=by
 unfold AO at h;refine bX 4 5 3 2 (ai 2 (au (bz aZ d) (ac ?_)));obtain⟨e,h⟩|⟨e,h⟩:=am h
 ·refine ah 12 e (cd (ks':=kH 932::kH 933 :: .b 1::Ez M c r g) 4 (ai 3 ?_));obtain⟨f,h⟩:=aD h;refine au (cA 16 16 3 1 (ak .i64) (rfl) aT f) (ac (ay 2 3 1 (ai 2 ?_)));obtain⟨m,j,h⟩:=aw h;exact aS (HX l j) (ac (ag 2 (cc (p:=pn 7468) n (act l k n h))))
 ·refine ah 12 e (aL 8 ?_);cases h;exact eO
def aeB(a:ao K)(m:Nat):sL M c r d v2 m (AI K n d v2 m):=by
 induction m with
 | zero=>exact fun h=>nomatch h
 | succ m b=>exact fun h=>bp (aeY a b h)
def ahE(a:ao K)(h:xr K n d v2=some r):ba bb 110 [.sl (lm aZ d),iI v2] (fun v s=>v=.ref 16∧look 16 s.r=some (bf r)):=by
 refine bI (cat Tryz.f110 (pn 1)) Tryz.func110 Tryz.ntmps110 fun M c=>(bn ⟨[(0,.sl (lm aZ d)),(1,iI v2)],[],[],[]⟩ ?_);unfold xr at h;exact ir 58 0 15 8 (bJ [0,1,5,6] [] [] (fb 16 5 3 1 (ag 0 (cc (p:=pn 58) n (aeB a n h)))))
end
section
variable[GS](M:Nat→Prop)(c:aC)(r:Int)(a:aR)(v2 b:Int)  
variable{M c r a v2 b}{K:Kn}{n:Nat}
def WT(g:ao K)(h:sP K n a v2 b=some r):ba bb 149 [.agg (aI a),iI v2,iI b] (fun v _=>v=iI r):=by
 refine bI (cat Tryz.f149 (pn 1)) Tryz.func149 Tryz.ntmps149 fun M c=>(bn ⟨[(0,.agg (aI a)),(1,iI v2),(2,iI b)],[],[],[]⟩ ?_);unfold sP at h;refine ay 13 7 5 ?_;obtain⟨d,h⟩|⟨d,h⟩:=am h
 ·refine ah 9 d (aL 5 ?_);cases h;exact bA
 ·refine ah 9 d (EK 21 0 3 8 ?_);obtain⟨e,h⟩|⟨e,h⟩:=am h
  ·refine ah 12 e (aL 6 ?_);cases h;exact bA
  ·refine ah 12 e (bv 7 3 ?_);obtain⟨f,h⟩|⟨f,h⟩:=am h
   ·refine ah 18 f (aL 6 ?_);cases h;exact bA
   ·refine ah 18 f (aL 6 ?_);cases h;exact bA
end
section
variable[GS](M:Nat→Prop)(a:aC)(r:Bool)(b v2:ByteArray)(c:Bool)  
abbrev ac9(n:Nat):aq:=.c (cat Tryz.f173 (pn n))
abbrev ZN:Cx:=⟨bb,21,M,a⟩
abbrev afY:=bodyPost bb Tryz.f173 (bR M a (fun v _=>v=.bool r))
abbrev Y9(b:dn)(s:AS):=VE (ZN M a) (afY M a r) b .normal s
def aaP:AS:=⟨[(4,.bool c)],[],[],[]⟩
variable{M a r b v2 c}{K:Kn}{n:Nat}
def P6(b:ao K)(h:wx K n c=some r):Y9 M a r [ac9 7] (aaP c):=by
 unfold wx at h;refine aL 1 ?_;cases h;exact bA
def aeT(d:ao K)(h:EV K n b v2=some r):ba bb 173 [.str b,.str v2] (fun v _=>v=.bool r):=by
 refine bI (cat Tryz.f173 (pn 1)) Tryz.func173 Tryz.ntmps173 fun M a=>(bn ⟨[(0,.str b),(1,.str v2)],[],[],[]⟩ ?_);unfold EV at h;refine ay 6 7 3 (ai 6 ?_);obtain⟨c,h⟩|⟨c,h⟩:=am h
 ·refine aG 10 c (aP 12 6 ?_);obtain⟨e,h⟩:=aD h;exact au (Ec e) (ac (ag 0 (P6 d h)))
 ·exact aG 10 c (ac (ag 0 (P6 d h)))
end
section
variable[GS](M:Nat→Prop)(b:aC)(r:Bool)(a v2:ByteArray)  
variable{M b r a v2}{K:Kn}{n:Nat}
def WH(d:ao K)(h:Aq K n a v2=some r):ba bb 151 [.str a,.str v2] (fun v _=>v=.bool r):=by
 refine bI (cat Tryz.f151 (pn 1)) Tryz.func151 Tryz.ntmps151 fun M b=>(bn ⟨[(0,.str a),(1,.str v2)],[],[],[]⟩ ?_);unfold Aq at h;refine ay 6 7 3 (ai 2 ?_);obtain⟨e,c,h⟩:=aw h;refine aS (aeT d c) (ac (aL 1 ?_));cases h;exact bA
end
section
variable[GS](M:Nat→Prop)(i:aC)(r:ae)(e:d4)(v2:aR)(j d k o w x c f g:Int)(l:c6)(y:Bool)(a:aB)(z:c6)(b:Int)(q:c6)(A t B:Nat)(C:Int→Int→Int→Option ae)(u:Int→Int→c6→Option ae)(D:Int→c6→Option ae)
abbrev rb:Cx:=⟨bb,156,M,i⟩
abbrev pR:=bodyPost bb Tryz.f111 (bR M i (fun v s=>v=.agg (List.set (aH ({ r with Kids:=[] }:ae)) 66 (.ref 114))∧look 114 s.r=some (bt r.Kids)))
abbrev qn(a:dn)(s:AS):=VE (rb M i) (pR M i r) a .normal s
abbrev eU(n:Nat):aq:=.c (cat Tryz.f111 (pn n))
abbrev Fm:dn:=[.b 2,eU 255]
abbrev tV:dn:=kl (rb M i) (pR M i r) Fm (cat Tryz.f111 (pn 2036)) t::Fm
abbrev I6:dn:=[.b 0,eU 15]
abbrev Wj:dn:=kl (rb M i) (pR M i r) I6 (cat Tryz.f111 (pn 116)) A::I6
abbrev Gt:dn:=.b 4::eU 521423 :: .b 3::eU 16295::tV M i r t
abbrev KJ:dn:=kl (rb M i) (pR M i r) (Gt M i r t) (cat Tryz.f111 (pn 4171380)) B::(Gt M i r t)
def Xs:AS:=⟨[(0,.sl (lm aZ e)),(2,iI j),(4,.ptr 4 0),(6,.ptr 6 0),(7,iI w),(8,iI x),(24,.sl (lm aZ e)),(25,iI (e.length:Int)),(26,iI o)],[(4,aI v2),(6,List.set (aH bV) 66 (.nils))],[],[4,6]⟩
def Oj:AS:=⟨[(6,.ptr 6 0),(7,iI d),(11,.ptr 11 0),(12,iI f),(13,iI c),(15,.ptr 15 0),(56,.sl (lm aZ e)),(57,iI (e.length:Int)),(58,iI g),(117,.sl (lm aQ a.Box)),(118,iI (a.Box.length:Int)),(119,iI b)],[(6,List.set (aH bV) 66 (.nils)),(11,List.set (aH ({ bV with Kind:=2,W:=j,H:=(aa (d+k)),aC:=d,Style:=v2 }:ae)) 66 (.ref 114)),(15,aZ a)],[(114,(bt q))],[6,11,15,114]⟩
def abZ:AS:=⟨[(6,.ptr 6 0),(7,iI d),(11,.ptr 11 0),(12,iI f),(13,iI c),(15,.ptr 15 0),(56,.sl (lm aZ e)),(57,iI (e.length:Int)),(58,iI g)],[(6,List.set (aH bV) 66 (.nils)),(11,List.set (aH ({ bV with Kind:=2,W:=j,H:=(aa (d+k)),aC:=d,Style:=v2 }:ae)) 66 (.ref 114)),(15,aZ a)],[(114,(bt z))],[6,11,15,114]⟩
def abJ:AS:=⟨[(6,.ptr 6 0),(7,iI d),(11,.ptr 11 0),(12,iI f),(13,iI c),(15,.ptr 15 0),(56,.sl (lm aZ e)),(57,iI (e.length:Int)),(58,iI g)],[(6,List.set (aH bV) 66 (.nils)),(11,List.set (aH ({ bV with Kind:=2,W:=j,H:=(aa (d+k)),aC:=d,Style:=v2 }:ae)) 66 (.ref 114)),(15,aZ a)],[(114,(bt l))],[6,11,15,114]⟩
def afD:AS:=⟨[(6,.ptr 6 0),(7,iI d),(11,.ptr 11 0),(12,iI f),(13,iI c),(15,.ptr 15 0),(56,.sl (lm aZ e)),(57,iI (e.length:Int)),(58,iI g),(76,.bool y)],[(6,List.set (aH bV) 66 (.nils)),(11,List.set (aH ({ bV with Kind:=2,W:=j,H:=(aa (d+k)),aC:=d,Style:=v2 }:ae)) 66 (.ref 114)),(15,aZ (gD e g))],[(114,(bt l))],[6,11,15,114]⟩
def R0:AS:=⟨[(6,.ptr 6 0),(7,iI d),(11,.ptr 11 0),(12,iI f),(13,iI c),(56,.sl (lm aZ e)),(57,iI (e.length:Int)),(58,iI g)],[(6,List.set (aH bV) 66 (.nils)),(11,List.set (aH ({ bV with Kind:=2,W:=j,H:=(aa (d+k)),aC:=d,Style:=v2 }:ae)) 66 (.ref 114))],[(114,(bt l))],[6,11,114]⟩
def Pe:AS:=⟨[(0,.sl (lm aZ e)),(2,iI j),(4,.ptr 4 0),(6,.ptr 6 0),(7,iI d),(8,iI k),(24,.sl (lm aZ e)),(25,iI (e.length:Int)),(26,iI o)],[(4,aI v2),(6,List.set (aH bV) 66 (.nils))],[],[4,6]⟩
abbrev Gb:Prop:=∀{d:Int} {k:Int} {o:Int},C d k o=some r→LP (rb M i) (pR M i r) I6 (cat Tryz.f111 (pn 116)) A (Pe e v2 j d k o)
abbrev qa:Prop:=∀{f:Int} {g:Int} {l:c6},u f g l=some r→LP (rb M i) (pR M i r) Fm (cat Tryz.f111 (pn 2036)) t (R0 e v2 j d k c f g l)
abbrev M9:Prop:=∀{b:Int} {q:c6},D b q=some r→LP (rb M i) (pR M i r) (Gt M i r t) (cat Tryz.f111 (pn 4171380)) B (Oj e v2 j d k c f g a b q)
variable{M i r e v2 j d k o w x c f g l y a z b q A t B C u D}{K:Kn}{n:Nat}
def Rk(b:ao K)(a:Gb M i r e v2 j A C)(h:yU K n e v2 j o C w x=some r):qn M i r (.b 1::eU 935::Wj M i r A) (Xs e v2 j o w x):=by
 unfold yU at h;exact ag 2 (bu (a h))
def ajx(Z:ao K)(X:qa M i r e v2 j d k c t u)(Y:M9 M i r e v2 j d k c f g a t B D)(h:xW K n e v2 j d k c f g a u D b q=some r):qn M i r (eU 4171380::KJ M i r t B) (Oj e v2 j d k c f g a b q):=by
 unfold xW at h;refine ay 6 7 3 ?_;obtain⟨A,h⟩|⟨A,h⟩:=am h
 ·refine ah 120 A (cQ 8 9 5 3 5 (ai 0 ?_));obtain⟨F,h⟩:=aD h;refine au (bD aQ aH F (jZ) (dP)) (ac ?_);obtain⟨m,G,h⟩:=bU h;obtain⟨o,I,h⟩:=bU h;obtain⟨p,J,h⟩:=bU h;obtain⟨s,L,h⟩:=bU h;obtain⟨v,N,h⟩:=bU h;obtain⟨w,O,h⟩:=bU h;obtain⟨x,P,h⟩:=bU h;obtain⟨l,Q,h⟩:=bU h;obtain⟨y,R,h⟩:=bU h;obtain⟨z,S,h⟩:=bU h;refine bC (ks':=eU 533936742::eU 533936743 :: .b 5::eU 33371047::KJ M i r t B) 3 ⟨[(6,.ptr 6 0),(7,iI d),(11,.ptr 11 0),(12,iI f),(13,iI c),(15,.ptr 15 0),(18,.ptr 18 0),(56,.sl (lm aZ e)),(57,iI (e.length:Int)),(58,iI g),(117,.sl (lm aQ a.Box)),(118,iI (a.Box.length:Int)),(119,iI b)],[(6,List.set (aH bV) 66 (.nils)),(11,List.set (aH ({ bV with Kind:=2,W:=j,H:=(aa (d+k)),aC:=d,Style:=v2 }:ae)) 66 (.ref 114)),(15,aZ a),(18,aH (⟨m,o,p,(gD a.Box b).Y,(gD a.Box b).W,(gD a.Box b).H,s,v,w,x,l,y,z⟩:ae))],[(114,(bt q))],[6,11,15,18,114]⟩ ?_ (by subst S;subst R;subst Q;subst P;subst O;subst N;subst L;subst J;subst I;subst G;kernel_rfl)
  obtain⟨C,T,h⟩:=aw h;refine bQ 1 (nu 128 [.ptr 18 3,iI ((gD a.Box b).Y),iI d,.ptr 18 5,iI ((gD a.Box b).H),iI (aa (d-((gD a.Box b).H))),.ptr 18 63,.agg (cU l),iI C,iI (aa ((aa (d-((gD a.Box b).H)))-C)),iI (aa (((gD a.Box b).Y)+(aa ((aa (d-((gD a.Box b).H)))-C)))),.ptr 18 3]) [] [] [ci bb 156 Tryz.f111 (pn 533936742) 12] (av (vz 8) (aj (cj 0 1 136 (nc Z T)) (av (vz 3) (aj (cg 0) bS)))) ?_;obtain⟨E,U,h⟩:=bU h;refine bC (ks':=eU 533936743 :: .b 5::eU 33371047::KJ M i r t B) 0 ⟨[(6,.ptr 6 0),(7,iI d),(11,.ptr 11 0),(12,iI f),(13,iI c),(15,.ptr 15 0),(18,.ptr 18 0),(56,.sl (lm aZ e)),(57,iI (e.length:Int)),(58,iI g),(117,.sl (lm aQ a.Box)),(118,iI (a.Box.length:Int)),(119,iI b)],[(6,List.set (aH bV) 66 (.nils)),(11,List.set (aH ({ bV with Kind:=2,W:=j,H:=(aa (d+k)),aC:=d,Style:=v2 }:ae)) 66 (.ref 114)),(15,aZ a),(18,aH (⟨m,o,p,E,(gD a.Box b).W,(gD a.Box b).H,s,v,w,x,l,y,z⟩:ae))],[(114,(bt q))],[6,11,15,18,114]⟩ ?_ (by subst U;kernel_rfl)
  refine ai 3 (au (gz aQ ([(⟨m,o,p,E,(gD a.Box b).W,(gD a.Box b).H,s,v,w,x,l,y,z⟩:ae)]:c6) (new:=[aH (⟨m,o,p,E,(gD a.Box b).W,(gD a.Box b).H,s,v,w,x,l,y,z⟩:ae)]) (by simp only[rv,zt,dP])) ?_);obtain⟨V,h⟩:=aD h;exact au (cA 144 114 44 67 aQ (rfl) (jZ) V) (ac (ag 2 (bu (Y h))))
 ·exact ah 120 A (ag 8 (bu (X h)))
def Zd(l:ao K)(b:qa M i r e v2 j d k c t u)(m:Nat):M9 M i r e v2 j d k c f g a t m (xD K n e v2 j d k c f g a u m):=by
 induction m with
 | zero=>exact fun h=>nomatch h
 | succ m o=>exact fun h=>bp (ajx l b o h)
def Nn(l:ao K)(b:qa M i r e v2 j d k c t u)(h:vy K n e v2 j d k c f g a u z=some r):qn M i r (eU 260711 :: .b 3::eU 16295::tV M i r t) (abZ e v2 j d k c f g a z):=by
 unfold vy at h;exact bX 4 5 3 2 (ai 2 (au (bz aQ a.Box) (ac (ag 1 (cc (p:=pn 2085690) n (Zd l b n h))))))
def LU(x:ao K)(w:qa M i r e v2 j d k c t u)(h:nU K n e v2 j d k c f g l u a=some r):qn M i r (eU 130355 :: .b 3::eU 16295::tV M i r t) (abJ e v2 j d k c f g l a):=by
 unfold nU at h;obtain⟨z,y,h⟩:=bU h;refine bC (ks':=eU 521421::eU 260711 :: .b 3::eU 16295::tV M i r t) 3 ⟨[(6,.ptr 6 0),(7,iI d),(11,.ptr 11 0),(12,iI f),(13,iI c),(15,.ptr 15 0),(56,.sl (lm aZ e)),(57,iI (e.length:Int)),(58,iI g),(88,.bool z)],[(6,List.set (aH bV) 66 (.nils)),(11,List.set (aH ({ bV with Kind:=2,W:=j,H:=(aa (d+k)),aC:=d,Style:=v2 }:ae)) 66 (.ref 114)),(15,aZ a)],[(114,(bt l))],[6,11,15,114]⟩ ?_ (by subst y;kernel_rfl);obtain⟨p,h⟩|⟨p,h⟩:=am h
 ·refine ah 88 p (bv 5 3 (bJ [6,7,11,12,13,15,16,56,57,58] [6,11,15] [114] ?_));obtain⟨b,q,h⟩:=aw h;obtain⟨o,s,h⟩:=aw h;obtain⟨v,h⟩:=aD h;exact bQ 2 (nu 92 [.ptr 11 66,.ref 114,.ptr 15 0,iI a.Node,.ptr 15 2,.agg (aI a.Style),.ptr 15 1,.str a.Text,iI f,iI d,iI a.Style.FontSize,iI b,iI (aa (d-b)),.ptr 15 55,iI a.Width,.ptr 15 56,iI a.Space,iI (aa (a.Width+a.Space)),iI a.Style.FontSize,iI o,.agg (List.set (aH (⟨3,a.Node,f,(aa (d-b)),(aa (a.Width+a.Space)),o,0,a.Text,a.Style,dJ,dJ,false,[]⟩:ae)) 66 (.nils)),.sl (lm aQ [(⟨3,a.Node,f,(aa (d-b)),(aa (a.Width+a.Space)),o,0,a.Text,a.Style,dJ,dJ,false,[]⟩:ae)])]++nu 115 [.ptr 11 66]) [] [] [f9 114 114 ⟨44,67,lm aQ (l++[(⟨3,a.Node,f,(aa (d-b)),(aa (a.Width+a.Space)),o,0,a.Text,a.Style,dJ,dJ,false,[]⟩:ae)])⟩,ci bb 156 Tryz.f111 (pn 2085685) 24] (av [.v 0 2,.v 0 1,.v 0 2,.v 0 2,.v 0 2,.v 0 2,.v 0 2,.v 0 2,.v 0 2,.v 0 2,.v 0 2] (aj (cj 0 2 103 (Mh x q)) (av [.v 0 2,.v 0 2,.v 0 2,.v 0 2,.v 0 2,.v 0 2,.v 0 2] (aj (cj 0 1 111 (ME x s)) (av [.v 0 2] (bi (gz aQ ([(⟨3,a.Node,f,(aa (d-b)),(aa (a.Width+a.Space)),o,0,a.Text,a.Style,dJ,dJ,false,[]⟩:ae)]:c6) (new:=[aH (⟨3,a.Node,f,(aa (d-b)),(aa (a.Width+a.Space)),o,0,a.Text,a.Style,dJ,dJ,false,[]⟩:ae)]) (by simp only[rv,zt,dP])) (aj (dm (m:=0) (cA 114 114 44 67 aQ (rfl) (jZ) v)) (av [.v 1 1] (aj (cg 1) bS))))))))) (ag 0 (Nn x w h))
 ·exact ah 88 p (ag 2 (Nn x w h))
def FJ(o:ao K)(b:qa M i r e v2 j d k c t u)(h:om K n e v2 j d k c f g l u y=some r):qn M i r (eU 260709::eU 130355 :: .b 3::eU 16295::tV M i r t) (afD e v2 j d k c f g l y):=by
 unfold om at h;obtain⟨a,h⟩|⟨a,h⟩:=am h
 ·refine ah 76 a (ay 4 5 2 (ai 6 ?_));obtain⟨m,h⟩:=aD h;exact au (Ec m) (ac (ag 1 (LU o b h)))
 ·exact ah 76 a (ag 2 (LU o b h))
def WO(p:ao K)(o:qa M i r e v2 j d k c t u)(h:z5 K n e v2 j d k c u f g l=some r):qn M i r (eU 2036::tV M i r t) (R0 e v2 j d k c f g l):=by
 unfold z5 at h;refine ay 6 7 3 ?_;obtain⟨a,h⟩|⟨a,h⟩:=am h
 ·refine ah 59 a (cQ 8 9 3 3 5 (ai 1 ?_));obtain⟨q,h⟩:=aD h;refine au (bD aZ aZ q (iJ) aT) (ac (bX 4 5 3 2 (ai 4 ?_)));obtain⟨b,h⟩|⟨b,h⟩:=am h
  ·refine aG 66 b (aP 6 2 ?_);obtain⟨v,s,h⟩:=aw h;refine aS (WH p s) (aP 9 2 ?_);obtain⟨m,h⟩|⟨m,h⟩:=am h
   ·exact aG 71 m (ac (ag 0 (FJ p o h)))
   ·exact aG 71 m (ac (ag 0 (FJ p o h)))
  ·exact aG 66 b (ac (ag 0 (FJ p o h)))
 ·refine ah 59 a (aL 8 ?_);cases h;exact eO
def Z1(a:ao K)(m:Nat):qa M i r e v2 j d k c m (oK K n e v2 j d k c m):=by
 induction m with
 | zero=>exact fun h=>nomatch h
 | succ m b=>exact fun h=>bp (WO a b h)
def ahC(a:ao K)(b:Gb M i r e v2 j A C)(h:xu K n e v2 j C d k o=some r):qn M i r (eU 116::Wj M i r A) (Pe e v2 j d k o):=by
 unfold xu at h;refine ay 6 7 3 ?_;obtain⟨l,h⟩|⟨l,h⟩:=am h
 ·refine ah 27 l (cQ 8 9 1 3 5 (ai 0 ?_));obtain⟨t,h⟩:=aD h;refine au (bD aZ aZ t (iJ) aT) (ac (bv 3 2 ?_));obtain⟨m,h⟩|⟨m,h⟩:=am h
  ·exact ah 32 m (bv 2 1 (bJ [0,2,4,6,7,8,10,24,25,26] [4,6,10] [] (bQ 2 (nu 33 [iI d,.ptr 10 57,iI ((gD e o).Above),iI (max d ((gD e o).Above)),iI k,.ptr 10 58,iI ((gD e o).Below),iI (max k ((gD e o).Below))]) [] [] [ci bb 156 Tryz.f111 (pn 14950) 8,ci bb 156 Tryz.f111 (pn 14950) 9] (av [.v 0 1,.v 0 1,.v 0 1,.v 0 1,.v 0 2,.v 0 2,.v 0 2,.v 0 2] (aj (cg 0) (aj (cg 1) bS))) (ag 0 (Rk a b h)))))
  ·exact ah 32 m (ag 2 (Rk a b h))
 ·refine ah 27 l (gB 6 7 8 (bJ [0,2,4,6,7,11] [4,6,11] [] ?_));obtain⟨q,u,h⟩:=aw h;obtain⟨s,f,h⟩:=aw h;refine bQ 1 (nu 49 [.agg (aI v2),iI j,.sl (lm aZ e),iI q,iI s]) [] [] [ci bb 156 Tryz.f111 (pn 62) 5] (av (vz 3) (aj (cj 0 1 52 (EY a u)) (aj (cj 0 1 53 (WT a f)) (aj (cg 0) bS)))) (ay 2 3 1 (ai 1 ?_));obtain⟨c,g,h⟩:=aw h;exact aS (PS a g) (ac (bX 4 5 3 2 (ai 1 (au (bz aZ e) (ac (ig 2 2 1 (bJ [6,7,11,12,13,56,57,58] [6,11] [] (ze 114 11 66 44 67 (ag 0 (cc (p:=pn 1018) n (Z1 a n h)))))))))))
def WX(a:ao K)(m:Nat):Gb M i r e v2 j m (zX K n e v2 j m):=by
 induction m with
 | zero=>exact fun h=>nomatch h
 | succ m b=>exact fun h=>bp (ahC a b h)
def ad0(a:ao K)(h:DZ K n e v2 j=some r):ba bb 111 [.sl (lm aZ e),.agg (aI v2),iI j] (fun v s=>v=.agg (List.set (aH ({ r with Kids:=[] }:ae)) 66 (.ref 114))∧look 114 s.r=some (bt r.Kids)):=by
 refine bI (cat Tryz.f111 (pn 1)) Tryz.func111 Tryz.ntmps111 fun M i=>(bn ⟨[(0,.sl (lm aZ e)),(1,.agg (aI v2)),(2,iI j)],[],[],[]⟩ ?_);unfold DZ at h;refine ay 6 7 3 (ai 1 ?_);obtain⟨v4,b,h⟩:=aw h;exact aS (Gk a b) (ac (bX 4 5 3 2 (ai 1 (au (bz aZ e) (ac (ag 1 (cc (p:=pn 58) n (WX a n h))))))))
end
section
variable[GS](M:Nat→Prop)(f:aC)(r:c6×Int)(o:dO)(v2:aR)(g:Int)(v4:bB)(v5:d4)(v6:b7)(b c a:Int)(d:c6)(j:Nat)(l:Int→Int→Int→c6→Option (c6×Int))
abbrev LN:Cx:=⟨bb,61,M,f⟩
abbrev JI:=bodyPost bb Tryz.f53 (bR M f (fun v s=>v=.tup [.ref 57,iI r.2]∧look 57 s.r=some (bt r.1)))
abbrev aij(a:dn)(s:AS):=VE (LN M f) (JI M f r) a .normal s
abbrev NC(n:Nat):aq:=.c (cat Tryz.f53 (pn n))
abbrev JS:dn:=[.b 0,NC 63]
abbrev adv:dn:=kl (LN M f) (JI M f r) JS (cat Tryz.f53 (pn 500)) j::JS
def Mo:AS:=⟨[(2,iI (min (max g 0) 1048576)),(5,.ptr 5 0),(8,.ref 57),(9,iI b),(10,.sl (lm aZ v5)),(11,.ref 1023),(30,iI c),(31,iI a)],[(5,aI v2)],[(57,(bt d)),(1023,⟨3,1,lm (ak .i64) (v6++[(v5.length:Int)])⟩)],[5,57,1023]⟩
abbrev TO:Prop:=∀{b:Int} {c:Int} {a:Int} {d:c6},l b c a d=some r→LP (LN M f) (JI M f r) JS (cat Tryz.f53 (pn 500)) j (Mo v2 g v5 v6 b c a d)
variable{M f r o v2 g v4 v5 v6 b c a d j l}{K:Kn}{n:Nat}
def ac5(w:ao K)(v:TO M f r v2 g v5 v6 j l)(h:zj K n v2 g v5 v6 l b c a d=some r):aij M f r (NC 500::adv M f r j) (Mo v2 g v5 v6 b c a d):=by
 unfold zj at h;refine ay 6 7 3 ?_;obtain⟨o,h⟩|⟨o,h⟩:=am h
 ·refine ah 32 o (cQ 18 19 1 3 7 (bJ [2,5,8,9,10,11,12,30,31] [5] [57,1023] ?_));obtain⟨p,h⟩:=aD h;obtain⟨q,h⟩:=aD h;obtain⟨s,h⟩:=aD h;obtain⟨m,t,h⟩:=aw h;refine bQ 1 (nu 34 [.sl (lm aZ v5),.ref 1023,iI a,.eptr 1023 1 (a.toNat) 0,iI (gD (v6++[(v5.length:Int)]) a),.ref 1023,iI a,iI (aa (a+1)),.eptr 1023 1 (((aa (a+1))).toNat) 0,iI (gD (v6++[(v5.length:Int)]) ((aa (a+1)))),.sl (lm aZ (List.drop ((gD (v6++[(v5.length:Int)]) a)).toNat (List.take ((gD (v6++[(v5.length:Int)]) ((aa (a+1))))).toNat v5))),.agg (aI v2),iI (min (max g 0) 1048576),.agg (List.set (aH ({ m with Kids:=[] }:ae)) 66 (.ref 47))]++nu 13 [.ptr 13 0]) [(13,List.set (aH bV) 66 (.nils))] [(47,(bt m.Kids))] [ci bb 61 Tryz.f53 (pn 32050) 15] (av (vz 3) (bi (cF 1023 1 (ak .i64) (L:=(v6++[(v5.length:Int)])) p) (bi (bK 3 0 (ak .i64) (ak .i64) (bE p).2 aT) (av (vz 3) (bi (cF 1023 1 (ak .i64) (L:=(v6++[(v5.length:Int)])) q) (bi (bK 3 0 (ak .i64) (ak .i64) (bE q).2 aT) (bi (jp aZ v5 (gD (v6++[(v5.length:Int)]) a) (gD (v6++[(v5.length:Int)]) ((aa (a+1)))) 159 (.tmp 34) (some (.tmp 38)) (some (.tmp 43)) 44 (e:=165) (sz:=62) (by kernel_rfl) (by kernel_rfl) (by kernel_rfl) (by kernel_rfl) (by kernel_rfl) (by kernel_rfl) (iJ) (fun k x=>by subst x;kernel_rfl) s) (av (vz 2) (aj (Ks 0 1 47 (ad0 w t) (Ex (i:=66) (by kernel_rfl))) (aj (qy 0 1 44 13 (List.set (aH bV) 66 (.nils))) (aj (cg 0) bS))))))))))) (bv 7 4 (ai 2 (mz 47 (au (gz aQ ([({ m with Y:=b }:ae)]:c6) (new:=[aH ({ m with Y:=b }:ae)]) (by simp only[rv,zt,dP])) ?_))))
  obtain⟨u,h⟩:=aD h;exact au (cA 57 57 44 67 aQ (rfl) (jZ) u) (ac (ag 2 (bu (v h))))
 ·refine ah 32 o (aL 8 ?_);cases h;exact qD
def aiU(a:ao K)(m:Nat):TO M f r v2 g v5 v6 m (wR K n v2 g v5 v6 m):=by
 induction m with
 | zero=>exact fun h=>nomatch h
 | succ m b=>exact fun h=>bp (ac5 a b h)
def Zj(a:ao K)(h:yt K n o v2 g v4=some r):ba bb 53 [.sl (lm aM o),.agg (aI v2),iI g,.agg (bP v4)] (fun v s=>v=.tup [.ref 57,iI r.2]∧look 57 s.r=some (bt r.1)):=by
 refine bI (cat Tryz.f53 (pn 1)) Tryz.func53 Tryz.ntmps53 fun M f=>(bn ⟨[(0,.sl (lm aM o)),(1,.agg (aI v2)),(2,iI g),(3,.agg (bP v4))],[],[],[]⟩ ?_);unfold yt at h;refine ay 14 15 5 (ai 3 ?_);obtain⟨v5,b,h⟩:=aw h;refine eZ 1020 (ac4 a b) (fa 1009) (ac (ay 2 3 1 (ai 2 (mz 1020 ?_))));obtain⟨v6,c,h⟩:=aw h;refine eZ 1023 (ahE a c) (fa 16) (aP 4 1 (au (bz aZ v5) (aP 6 1 ?_)));obtain⟨d,h⟩:=aD h;exact au (cA 27 1023 3 1 (ak .i64) (rfl) aT d) (ac (bX 4 5 3 2 (ai 1 (au (bz (ak .i64) (v6++[(v5.length:Int)])) (ac (ig 2 0 1 (bJ [2,5,8,9,10,11,30,31] [5] [1023] (fb 57 8 44 67 (ag 0 (cc (p:=pn 250) n (aiU a n h)))))))))))
end
section
variable[GS](M:Nat→Prop)(c:aC)(r:c6×Int)(a:dO)(v2:aR)(b:Int)(v4:bB)  
variable{M c r a v2 b v4}{K:Kn}{n:Nat}
def akL(e:ao K)(h:vP K n a v2 b v4=some r):ba bb 52 [.sl (lm aM a),.agg (aI v2),iI b,.cptr (bP v4)] (fun v s=>v=.tup [.ref 1013,iI r.2]∧look 1013 s.r=some (bt r.1)):=by
 refine bI (cat Tryz.f52 (pn 1)) Tryz.func52 Tryz.ntmps52 fun M c=>(bn ⟨[(0,.sl (lm aM a)),(1,.agg (aI v2)),(2,iI b),(3,.cptr (bP v4))],[],[],[]⟩ ?_);unfold vP at h;refine ay 6 7 3 (ai 4 ?_);obtain⟨v5,d,h⟩:=aw h;refine eZ 1013 (Zj e d) (C7 (i:=0) rfl) (ac (aL 1 ?_));cases h;exact qD
end
section
variable[GS](M:Nat→Prop)(d:aC)(r:aB×b7)(a:ab)(v2:bB)(b:b7)  
variable{M d r a v2 b}{K:Kn}{n:Nat}
def Y4(g:ao K)(h:D0 K n a v2 b=some r):jM bb 113 [.agg (az a),.cptr (bP v2),.ptr 1 0] [(1,[.ref 9])] 9 (bf b) [9,1,1000001] (fun v s=>v=.agg (aZ r.1)∧cw s.o [(1,[.ref 9])]∧look 9 s.r=some (bf r.2)):=by
 refine mM (c:=cat Tryz.f113 (pn 1)) Tryz.func113 (by kernel_rfl) _ Tryz.ntmps113 (jt (by kernel_rfl)) fun M d=>(bn ⟨[(0,.agg (az a)),(1,.cptr (bP v2)),(2,.ptr 1 0)],[(1,[.ref 9])],[(9,(bf b))],[9,1,1000001]⟩ ?_);unfold D0 at h;refine ay 6 7 3 (ai 3 ?_);obtain⟨v4,e,h⟩:=aw h;refine lS (g.gI e) (ac (ay 2 3 1 (ai 3 ?_)));obtain⟨f,h⟩:=aD h;refine au (cA 17 9 3 1 (ak .i64) (rfl) aT f) (ac (aL 3 (mP 4 ?_)));cases h;exact fj
end
section
variable[GS](M:Nat→Prop)(d:aC)(r:aB×Int×b7)(a:ab)(v2:Int)(b:b7)  
variable{M d r a v2 b}{K:Kn}{n:Nat}
def Xf(f:ao K)(h:Ei K n a v2 b=some r):jM bb 114 [.agg (az a),.ptr 1 0,.ptr 2 0] [(1,[iI v2]),(2,[.ref 9])] 9 (bf b) [9,1,2,1000001,1000002] (fun v s=>v=.agg (aZ r.1)∧cw s.o [(1,[iI r.2.1]),(2,[.ref 9])]∧look 9 s.r=some (bf r.2.2)):=by
 refine mM (c:=cat Tryz.f114 (pn 1)) Tryz.func114 (by kernel_rfl) _ Tryz.ntmps114 (jt (by kernel_rfl)) fun M d=>(bn ⟨[(0,.agg (az a)),(1,.ptr 1 0),(2,.ptr 2 0)],[(1,[iI v2]),(2,[.ref 9])],[(9,(bf b))],[9,1,2,1000001,1000002]⟩ ?_);unfold Ei at h;refine ay 14 15 5 (ai 3 ?_);obtain⟨e,h⟩:=aD h;refine au (cp 9 1 (ak .i64) e) (au (bK 3 0 (ak .i64) (ak .i64) (bE e).2 aT) (ac (aL 1 (mP 4 ?_))));cases h;exact fj
end
end
end Go.Proofs.YtocgkfoifehcbaaGreat

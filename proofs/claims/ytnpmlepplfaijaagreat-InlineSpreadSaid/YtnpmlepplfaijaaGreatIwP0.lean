/- The runs of the functions that InlineSpread reaches do what their plain forms say, part 0. Made by a program. -/
import Derived.Test.YtnpmlepplfaijaaGreatIwGk
namespace Go.Proofs.YtnpmlepplfaijaaGreat
open Go.RowKit
set_option maxRecDepth 20000
set_option linter.all false
set_option linter.unusedVariables false
set_option linter.unusedSimpArgs false
noncomputable section
variable(M:Nat→Prop)(w0:aF)(r:cg)   
variable{M w0 r }{K:Kn}{n:Nat}
theorem wK(hK:am K)(h:i7 K n=some r):aO Tryz.prog 10 [] (fun v _=>v=.agg (ct r)):=by
 refine bg (cat Tryz.f10 (pn 1)) Tryz.func10 Tryz.ntmps10 fun M w0=>(bc ⟨[],[],[],[]⟩ ?_);unfold i7 at h;refine aE 5 ?_;cases h;exact ba
end
noncomputable section
variable(M:Nat→Prop)(w0:aF)(r:Bool)(v1:ai)(v2:Bool)  
abbrev Rx(n:Nat):aq:=.c (cat Tryz.f87 (pn n))
abbrev WI:Cx:=⟨Tryz.prog,12,M,w0⟩
abbrev q87:=bodyPost Tryz.prog Tryz.f87 (bu M w0 (fun v _=>v=.bool r))
abbrev Pj(ks:List aq)(s:AS):=VE (WI M w0) (q87 M w0 r) ks .normal s
def W2:AS:=⟨[(2,.bool v2)],[],[],[]⟩
variable{M w0 r v1 v2}{K:Kn}{n:Nat}
theorem HM(hK:am K)(h:wa K n v2=some r):Pj M w0 r [Rx 7] (W2 v2):=by
 unfold wa at h;refine aE 1 ?_;cases h;exact ba
theorem Gv(hK:am K)(h:gB K n v1=some r):aO Tryz.prog 87 [.agg (aW v1)] (fun v _=>v=.bool r):=by
 refine bg (cat Tryz.f87 (pn 1)) Tryz.func87 Tryz.ntmps87 fun M w0=>(bc ⟨[(0,.agg (aW v1))],[],[],[]⟩ ?_);unfold gB at h;refine az 6 7 3 (aj 4 ?_);obtain⟨h1,h⟩|⟨h1,h⟩:=ak h
 ·exact aA 6 h1 (ac (ae 0 (HM hK h)))
 ·exact aA 6 h1 (ac (ae 0 (HM hK h)))
end
noncomputable section
variable(M:Nat→Prop)(w0:aF)(r:List aw)(v1:aw)(v2:List aw)(v3 v4 v5 v6:Bool)(v7:aw)  
abbrev gU(n:Nat):aq:=.c (cat Tryz.f88 (pn n))
abbrev S7:Cx:=⟨Tryz.prog,72,M,w0⟩
abbrev PG:=bodyPost Tryz.prog Tryz.f88 (bu M w0 (fun v s=>v=.ref 9∧dh s.o []∧look 9 s.r=some ⟨101,5,lm au r⟩))
abbrev ui(ks:List aq)(s:AS):=VE (S7 M w0) (PG M w0 r) ks .normal s
def abi:AS:=⟨[(0,.ref 9),(3,.ptr 3 0)],[(3,au v7)],[(9,⟨101,5,lm au v2⟩)],[3,9]⟩
def Y0:AS:=⟨[(0,.ref 9),(3,.ptr 3 0),(64,.bool v6)],[(3,au v1)],[(9,⟨101,5,lm au v2⟩)],[3,9]⟩
def aaI:AS:=⟨[(0,.ref 9),(3,.ptr 3 0),(5,.bool (v1.Box.Style.WhiteSpace == 2)),(32,.bool v5)],[(3,au v1)],[(9,⟨101,5,lm au v2⟩)],[3,9]⟩
def PD:AS:=⟨[(0,.ref 9),(3,.ptr 3 0),(5,.bool (v1.Box.Style.WhiteSpace == 2)),(24,.bool v4)],[(3,au v1)],[(9,⟨101,5,lm au v2⟩)],[3,9]⟩
def OI:AS:=⟨[(0,.ref 9),(3,.ptr 3 0),(5,.bool (v1.Box.Style.WhiteSpace == 2)),(19,.bool v3)],[(3,au v1)],[(9,⟨101,5,lm au v2⟩)],[3,9]⟩
variable{M w0 r v1 v2 v3 v4 v5 v6 v7}{K:Kn}{n:Nat}
theorem EP(hK:am K)(h:qr K n v2 v7=some r):ui M w0 r [.b 1,gU 31] (abi v2 v7):=by
 unfold qr at h;refine dB 6 7 4 (aj 3 ?_);obtain⟨h16,h⟩:=aK h;refine aB (cD 71 9 101 5 au (rfl) (cv) h16) (ac (aE 1 ?_));cases h;exact eK
theorem B8(hK:am K)(h:lj K n v1 v2 v6=some r):ui M w0 r [gU 15609,gU 7805,.b 1,gU 31] (Y0 v1 v2 v6):=by
 unfold lj at h;obtain⟨h15,h⟩|⟨h15,h⟩:=ak h
 ·refine ag 64 h15 (aE 7 ?_);cases h;exact eK
 ·exact ag 64 h15 (ae 3 (EP hK h))
theorem JS(hK:am K)(h:sO K n v1 v2 v5=some r):ui M w0 r [gU 487,.b 1,gU 31] (aaI v1 v2 v5):=by
 unfold sO at h;obtain⟨h9,h⟩|⟨h9,h⟩:=ak h
 ·refine ag 32 h9 (aE 6 ?_);cases h;exact eK
 ·refine ag 32 h9 (bh 7 3 ?_);obtain⟨h10,h⟩|⟨h10,h⟩:=ak h
  ·refine ag 40 h10 (bH 8 9 5 3 (aj 1 (aB (bq au v2) (aL 4 2 ?_))));obtain⟨h11,h⟩|⟨h11,h⟩:=ak h
   ·exact aA 46 h11 (ac (ae 0 (B8 hK h)))
   ·refine aA 46 h11 (aL 6 2 (aB (bq au v2) (aL 8 1 ?_)));obtain⟨h12,h⟩:=aK h;refine aB (cS 9 5 au h12) (aL 10 1 (aB (cp 4 3 au au (cj h12).2 ((fun _=>rfl))) (aL 13 2 ?_)));obtain⟨h13,h⟩|⟨h13,h⟩:=ak h
    ·exact aA 55 h13 (ac (ae 0 (B8 hK h)))
    ·refine aA 55 h13 (aL 15 2 (aB (bq au v2) (aL 17 1 ?_)));obtain⟨h14,h⟩:=aK h;exact aB (cS 9 5 au h14) (aL 19 1 (aB (cp 3 0 au au (cj h14).2 ((fun _=>rfl))) (ac (ae 0 (B8 hK h)))))
  ·exact ag 40 h10 (ae 2 (EP hK h))
theorem Mk(hK:am K)(h:sc K n v1 v2 v4=some r):ui M w0 r [gU 121,.b 1,gU 31] (PD v1 v2 v4):=by
 unfold sc at h;obtain⟨h7,h⟩|⟨h7,h⟩:=ak h
 ·exact ag 24 h7 (ae 2 (EP hK h))
 ·refine ag 24 h7 (az 6 7 2 (aj 2 ?_));obtain⟨h8,h⟩|⟨h8,h⟩:=ak h
  ·exact aA 34 h8 (ac (ae 0 (JS hK h)))
  ·exact aA 34 h8 (ac (ae 0 (JS hK h)))
theorem xD(hK:am K)(h:km K n v1 v2 v3=some r):ui M w0 r [gU 117,.b 0,gU 15] (OI v1 v2 v3):=by
 unfold km at h;obtain⟨h4,h⟩|⟨h4,h⟩:=ak h
 ·refine ag 19 h4 (co (ks':=[gU 120,gU 121,.b 1,gU 31]) 6 (aj 2 ?_));obtain⟨h6,h⟩|⟨h6,h⟩:=ak h
  ·exact aA 26 h6 (ac (ae 0 (Mk hK h)))
  ·exact aA 26 h6 (ac (ae 0 (Mk hK h)))
 ·refine ag 19 h4 (az 6 7 2 (aj 3 ?_));obtain⟨h5,h⟩:=aK h;refine aB (cD 18 9 101 5 au (rfl) (cv) h5) (ac (aE 3 ?_));cases h;exact eK
theorem W9(hK:am K)(h:vG K n v1 v2=some r):fl Tryz.prog 88 [.ref 9,.agg (au v1)] [] 9 ⟨101,5,lm au v2⟩ [9] (fun v s=>v=.ref 9∧dh s.o []∧look 9 s.r=some ⟨101,5,lm au r⟩):=by
 refine je (c:=cat Tryz.f88 (pn 1)) Tryz.func88 (by kernel_rfl) _ Tryz.ntmps88 (of_decide_eq_true (by kernel_rfl)) fun M w0=>(bc ⟨[(0,.ref 9),(1,.agg (au v1))],[],[(9,⟨101,5,lm au v2⟩)],[9]⟩ ?_);unfold vG at h;refine dk 233 117 0 15 11 ?_;obtain⟨h1,h⟩|⟨h1,h⟩:=ak h
 ·exact ag 19 h1 (ae 2 (xD hK h))
 ·refine ag 19 h1 (bh 7 3 ?_);obtain⟨h2,h⟩|⟨h2,h⟩:=ak h
  ·exact ag 19 h2 (ae 2 (xD hK h))
  ·refine ag 19 h2 (bh 7 3 ?_);obtain⟨h3,h⟩|⟨h3,h⟩:=ak h
   ·exact ag 19 h3 (ae 2 (xD hK h))
   ·exact ag 19 h3 (ae 2 (xD hK h))
end
noncomputable section
variable(M:Nat→Prop)(w0:aF)(r:Int×(List aw))(v1:List ai)(v2:Int)(v3:List aw)(v10:Nat)(v23 v24:Int)(v25:List aw)(v32 v36:Nat)(v37:List aw)(v41:Int)(v42:List aw)(v43:Int)(v44:List aw)(m1 m2:Nat)(L1:Int→Int→(List aw)→Option (Int×(List aw)))(L2:Nat→(List aw)→Option (Int×(List aw)))
abbrev vw:Cx:=⟨Tryz.prog,69,M,w0⟩
abbrev vY:=bodyPost Tryz.prog Tryz.f86 (bu M w0 (fun v s=>v=.tup []∧dh s.o [(1,[iI r.1]),(2,[.fno 86 [.ptr 1 0,.ptr 2 0,.ptr 3 0]]),(3,[.ref 9])]∧look 9 s.r=some ⟨101,5,lm au r.2⟩))
abbrev zj(ks:List aq)(s:AS):=VE (vw M w0) (vY M w0 r) ks .normal s
abbrev gl(n:Nat):aq:=.c (cat Tryz.f86 (pn n))
abbrev F7:List aq:=[.b 0]
abbrev nk:List aq:=kl (vw M w0) (vY M w0 r) F7 (cat Tryz.f86 (pn 12)) m1::F7
abbrev BT:List aq:=.b 3 :: .b 2 :: .b 1::gl 103::nk M w0 r m1
abbrev ID:List aq:=kl (vw M w0) (vY M w0 r) (BT M w0 r m1) (cat Tryz.f86 (pn 26867700)) m2::(BT M w0 r m1)
def Pn:AS:=⟨[(0,.sl (lm aQ v1)),(1,.ptr 1 0),(2,.ptr 2 0),(3,.ptr 3 0),(10,iI (v1.length:Int)),(11,iI v23)],[(1,[iI v43]),(2,[.fno 86 [.ptr 1 0,.ptr 2 0,.ptr 3 0]]),(3,[.ref 9])],[(9,⟨101,5,lm au v44⟩)],[1,2,3,9,1000001,1,1000002,2,1000003,3]⟩
def Qj:AS:=⟨[(0,.sl (lm aQ v1)),(1,.ptr 1 0),(2,.ptr 2 0),(3,.ptr 3 0),(10,iI (v1.length:Int)),(11,iI v23)],[(1,[iI v41]),(2,[.fno 86 [.ptr 1 0,.ptr 2 0,.ptr 3 0]]),(3,[.ref 9])],[(9,⟨101,5,lm au v42⟩)],[1,2,3,9,1000001,1,1000002,2,1000003,3]⟩
def Mf:AS:=⟨[(0,.sl (lm aQ v1)),(1,.ptr 1 0),(2,.ptr 2 0),(3,.ptr 3 0),(6,.cptr (aW (gD v1 v23))),(10,iI (v1.length:Int)),(11,iI v23),(58,.sit 320058 v32 ((gD v1 v23).Text) v36)],[(1,[iI (aa (v24+1))]),(2,[.fno 86 [.ptr 1 0,.ptr 2 0,.ptr 3 0]]),(3,[.ref 9])],[(9,⟨101,5,lm au v37⟩)],[1,2,3,9,320058,1000001,1,1000002,2,1000003,3]⟩
def GO:AS:=⟨[(0,.sl (lm aQ v1)),(1,.ptr 1 0),(2,.ptr 2 0),(3,.ptr 3 0),(10,iI (v1.length:Int)),(11,iI v23)],[(1,[iI v24]),(2,[.fno 86 [.ptr 1 0,.ptr 2 0,.ptr 3 0]]),(3,[.ref 9])],[(9,⟨101,5,lm au v25⟩)],[1,2,3,9,1000001,1,1000002,2,1000003,3]⟩
abbrev sF:Prop:=∀{v23:Int} {v24:Int} {v25:(List aw)},L1 v23 v24 v25=some r→LP (vw M w0) (vY M w0 r) F7 (cat Tryz.f86 (pn 12)) m1 (GO v1 v23 v24 v25)
abbrev Ln:Prop:=∀{v36:Nat} {v37:(List aw)},L2 v36 v37=some r→LP (vw M w0) (vY M w0 r) (BT M w0 r m1) (cat Tryz.f86 (pn 26867700)) m2 (Mf v1 v23 v24 v32 v36 v37)
variable{M w0 r v1 v2 v3 v10 v23 v24 v25 v32 v36 v37 v41 v42 v43 v44 m1 m2 L1 L2}{K:Kn}{n:Nat}
theorem Lh(hK:am K)(hL1:sF M w0 r v1 m1 L1)(h:lM K n v1 v23 L1 v43 v44=some r):zj M w0 r (gl 103::nk M w0 r m1) (Pn v1 v23 v43 v44):=by
 unfold lM at h;exact ae 1 (bt (hL1 h))
theorem ve(hK:am K)(hL1:sF M w0 r v1 m1 L1)(h:jk K n v1 v23 L1 v41 v42=some r):zj M w0 r (.b 2 :: .b 1::gl 103::nk M w0 r m1) (Qj v1 v23 v41 v42):=by
 unfold jk at h;exact ae 2 (Lh hK hL1 h)
theorem OJ(hK:am K)(hv32:w0.w.heap.size≤v32)(hL1:sF M w0 r v1 m1 L1)(hL2:Ln M w0 r v1 v23 v24 v32 m1 m2 L2)(h:qO K n v1 v23 v24 L1 L2 v36 v37=some r):zj M w0 r (gl 26867700::ID M w0 r m1 m2) (Mf v1 v23 v24 v32 v36 v37):=by
 unfold qO at h;refine az 2 3 1 (aj 0 ?_);obtain⟨h43,h⟩|⟨h43,h⟩:=ak h
 ·refine za 58 (id:=320058) (g:=v32) h43 hv32 (ac ?_);obtain⟨v38,h44,h⟩:=bW h;obtain⟨v39,h45,h⟩:=bW h;refine bB (ks':=gl 429883213 :: .b 4::ID M w0 r m1 m2) 6 ⟨[(0,.sl (lm aQ v1)),(1,.ptr 1 0),(2,.ptr 2 0),(3,.ptr 3 0),(6,.cptr (aW (gD v1 v23))),(8,.int .i32 v38),(10,iI (v1.length:Int)),(11,iI v23),(58,.sit 320058 v32 ((gD v1 v23).Text) v39)],[(1,[iI (aa (v24+1))]),(2,[.fno 86 [.ptr 1 0,.ptr 2 0,.ptr 3 0]]),(3,[.ref 9])],[(9,⟨101,5,lm au v37⟩)],[1,2,3,9,320058,1000001,1,1000002,2,1000003,3]⟩ ?_ (by subst h45;subst h44;kernel_rfl);refine aj 5 ?_;obtain⟨v40,h46,h⟩:=bind_some h;exact gH 9 9 [] (W9 hK h46) (ac (ae 1 (bt (hL2 h))))
 ·exact Am 58 (id:=320058) (g:=v32) h43 (ac (ae 6 (ve hK hL1 h)))
theorem Yc(hK:am K)(hv32:w0.w.heap.size≤v32)(hL1:sF M w0 r v1 m1 L1)(m:Nat):Ln M w0 r v1 v23 v24 v32 m1 m (sn K n v1 v23 v24 L1 m):=by
 induction m with
 | zero=>intro v36 v37 h;cases h
 | succ m ih=>intro v36 v37 h;have h:qO K n v1 v23 v24 L1 (sn K n v1 v23 v24 L1 m) v36 v37=some r:=h;exact bp (OJ hK hv32 hL1 ih h)
theorem Y4(hK:am K)(hL1:sF M w0 r v1 m1 L1)(h:tq K n v1 L1 v23 v24 v25=some r):zj M w0 r (gl 12::nk M w0 r m1) (GO v1 v23 v24 v25):=by
 unfold tq at h;refine az 6 7 3 ?_;obtain⟨h24,h⟩|⟨h24,h⟩:=ak h
 ·refine ag 12 h24 (cQ 18 19 1 3 7 (aj 2 ?_));obtain⟨h25,h⟩:=aK h;refine aB (bw aQ aW h25 (fi) (dK)) (ac (bH 4 5 3 2 (aj 3 ?_)));obtain⟨v26,h26,h⟩:=bind_some h;refine aD (Gv hK h26) (ac ?_);obtain⟨h27,h⟩|⟨h27,h⟩:=ak h
  ·exact ag 21 h27 (ae 4 (Lh hK hL1 h))
  ·refine ag 21 h27 ?_;obtain⟨v27,h28,h⟩:=bW h;refine bB (ks':=gl 26237 :: .b 2 :: .b 1::gl 103::nk M w0 r m1) 9 ⟨[(0,.sl (lm aQ v1)),(1,.ptr 1 0),(2,.ptr 2 0),(3,.ptr 3 0),(6,.cptr (aW (gD v1 v23))),(10,iI (v1.length:Int)),(11,iI v23),(27,iI ((gD v1 v23).Kind)),(28,.bool v27)],[(1,[iI (aa (v24+1))]),(2,[.fno 86 [.ptr 1 0,.ptr 2 0,.ptr 3 0]]),(3,[.ref 9])],[(9,⟨101,5,lm au v25⟩)],[1,2,3,9,1000001,1,1000002,2,1000003,3]⟩ ?_ (by subst h28;kernel_rfl);obtain⟨h29,h⟩|⟨h29,h⟩:=ak h
   ·refine ag 28 h29 (bh 2 1 (bI [0,1,2,3,6,10,11] [1,2,3] [9] (OH 5 0 [(30,.fno 86 [.ptr 1 0,.ptr 2 0,.ptr 3 0]),(31,.cptr (aW (gD v1 v23))),(32,.cptr (aW (gD v1 v23))),(33,.cptr (List.drop 58 (aW (gD v1 v23)))),(34,.sl (lm aQ ((gD v1 v23).Kids)))] [] [] [] (av (vz 5) (C9)) ?_)));obtain⟨v28,h30,h⟩:=bind_some h;exact gH 9 9 [(1,1),(2,2),(3,3)] (hK.y9 h30) (ac (ae 0 (ve hK hL1 h)))
   ·refine ag 28 h29 ?_;obtain⟨v29,h31,h⟩:=bW h;refine bB (ks':=gl 104951 :: .b 2 :: .b 1::gl 103::nk M w0 r m1) 3 ⟨[(0,.sl (lm aQ v1)),(1,.ptr 1 0),(2,.ptr 2 0),(3,.ptr 3 0),(6,.cptr (aW (gD v1 v23))),(10,iI (v1.length:Int)),(11,iI v23),(27,iI ((gD v1 v23).Kind)),(36,.bool v29)],[(1,[iI (aa (v24+1))]),(2,[.fno 86 [.ptr 1 0,.ptr 2 0,.ptr 3 0]]),(3,[.ref 9])],[(9,⟨101,5,lm au v25⟩)],[1,2,3,9,1000001,1,1000002,2,1000003,3]⟩ ?_ (by subst h31;kernel_rfl);obtain⟨h32,h⟩|⟨h32,h⟩:=ak h
    ·refine ag 36 h32 (bh 2 1 (aj 5 ?_));obtain⟨h33,h⟩:=aK h;exact aB (cD 43 9 101 5 au (rfl) (cv) h33) (ac (ae 0 (ve hK hL1 h)))
    ·refine ag 36 h32 ?_;obtain⟨v30,h34,h⟩:=bW h;refine bB (ks':=gl 419807 :: .b 2 :: .b 1::gl 103::nk M w0 r m1) 3 ⟨[(0,.sl (lm aQ v1)),(1,.ptr 1 0),(2,.ptr 2 0),(3,.ptr 3 0),(6,.cptr (aW (gD v1 v23))),(10,iI (v1.length:Int)),(11,iI v23),(27,iI ((gD v1 v23).Kind)),(44,.bool v30)],[(1,[iI (aa (v24+1))]),(2,[.fno 86 [.ptr 1 0,.ptr 2 0,.ptr 3 0]]),(3,[.ref 9])],[(9,⟨101,5,lm au v25⟩)],[1,2,3,9,1000001,1,1000002,2,1000003,3]⟩ ?_ (by subst h34;kernel_rfl);obtain⟨h35,h⟩|⟨h35,h⟩:=ak h
     ·refine ag 44 h35 (bh 2 1 (aj 5 ?_));obtain⟨h36,h⟩:=aK h;exact aB (cD 51 9 101 5 au (rfl) (cv) h36) (ac (ae 0 (ve hK hL1 h)))
     ·refine ag 44 h35 ?_;obtain⟨v31,h37,h⟩:=bW h;refine bB (ks':=gl 1679231 :: .b 2 :: .b 1::gl 103::nk M w0 r m1) 3 ⟨[(0,.sl (lm aQ v1)),(1,.ptr 1 0),(2,.ptr 2 0),(3,.ptr 3 0),(6,.cptr (aW (gD v1 v23))),(10,iI (v1.length:Int)),(11,iI v23),(52,.bool v31)],[(1,[iI (aa (v24+1))]),(2,[.fno 86 [.ptr 1 0,.ptr 2 0,.ptr 3 0]]),(3,[.ref 9])],[(9,⟨101,5,lm au v25⟩)],[1,2,3,9,1000001,1,1000002,2,1000003,3]⟩ ?_ (by subst h37;kernel_rfl);obtain⟨h38,h⟩|⟨h38,h⟩:=ak h
      ·exact ag 52 h38 (az 4 5 2 (aj 4 (zD 320058 (b:=((gD v1 v23).Text)) fun v32 hv32=>(ac (ae 1 (cf (p:=pn 13433850) n (Yc hK (v32:=v32) hv32 hL1 n h)))))))
      ·exact ag 52 h38 (ae 2 (ve hK hL1 h))
 ·refine ag 12 h24 (co (ks':=[]) 5 (Vp ?_));cases h;exact Ey
theorem SX(hK:am K)(m:Nat):sF M w0 r v1 m (qp K n v1 m):=by
 induction m with
 | zero=>intro v23 v24 v25 h;cases h
 | succ m ih=>intro v23 v24 v25 h;have h:tq K n v1 (qp K n v1 m) v23 v24 v25=some r:=h;exact bp (Y4 hK ih h)
theorem JZ(hK:am K)(h:kY K n v1 v2 v3=some r):fl Tryz.prog 86 [.sl (lm aQ v1),.ptr 1 0,.ptr 2 0,.ptr 3 0] [(1,[iI v2]),(2,[.fno 86 [.ptr 1 0,.ptr 2 0,.ptr 3 0]]),(3,[.ref 9])] 9 ⟨101,5,lm au v3⟩ [9,1,2,3,1000001,1000002,1000003] (fun v s=>v=.tup []∧dh s.o [(1,[iI r.1]),(2,[.fno 86 [.ptr 1 0,.ptr 2 0,.ptr 3 0]]),(3,[.ref 9])]∧look 9 s.r=some ⟨101,5,lm au r.2⟩):=by
 refine je (c:=cat Tryz.f86 (pn 1)) Tryz.func86 (by kernel_rfl) _ Tryz.ntmps86 (of_decide_eq_true (by kernel_rfl)) fun M w0=>(bc ⟨[(0,.sl (lm aQ v1)),(1,.ptr 1 0),(2,.ptr 2 0),(3,.ptr 3 0)],[(1,[iI v2]),(2,[.fno 86 [.ptr 1 0,.ptr 2 0,.ptr 3 0]]),(3,[.ref 9])],[(9,⟨101,5,lm au v3⟩)],[9,1,2,3,1000001,1000002,1000003]⟩ ?_);unfold kY at h;exact az 2 3 1 (aj 1 (aB (bq aQ v1) (ac (ae 1 (cf (p:=pn 6) n (SX hK n h))))))
end
noncomputable section
variable(M:Nat→Prop)(w0:aF)(r:List aw)(v1:List ai)  
variable{M w0 r v1}{K:Kn}{n:Nat}
theorem A8(hK:am K)(h:pW K n v1=some r):aO Tryz.prog 52 [.sl (lm aQ v1)] (fun v s=>v=.ref 400003∧look 400003 s.r=some ⟨101,5,lm au r⟩):=by
 refine bg (cat Tryz.f52 (pn 1)) Tryz.func52 Tryz.ntmps52 fun M w0=>(bc ⟨[(0,.sl (lm aQ v1))],[],[],[]⟩ ?_);unfold pW at h;refine az 62 63 9 (aj 0 (Bb 86 #[(.tmp 4),(.tmp 5),(.tmp 3)] [.ptr 4 0,.ptr 5 0,.ptr 3 0] (ac (az 2 3 1 (aj 2 (Ge 400003 3 0 101 5 ?_))))));obtain⟨v2,h1,h⟩:=bind_some h;refine gH 400003 9 [(4,1),(5,2),(3,3)] (JZ hK h1) (ac (aE 3 ?_));cases h;exact fa
end
noncomputable section
variable(M:Nat→Prop)(w0:aF)(r:Bool)(v1:aw)(v2:Bool)  
abbrev RV(n:Nat):aq:=.c (cat Tryz.f89 (pn n))
abbrev QP:Cx:=⟨Tryz.prog,24,M,w0⟩
abbrev QK:=bodyPost Tryz.prog Tryz.f89 (bu M w0 (fun v _=>v=.bool r))
abbrev ZG(ks:List aq)(s:AS):=VE (QP M w0) (QK M w0 r) ks .normal s
def Wk:AS:=⟨[(2,.bool v2)],[],[],[]⟩
variable{M w0 r v1 v2}{K:Kn}{n:Nat}
theorem Bh(hK:am K)(h:tr K n v2=some r):ZG M w0 r [RV 7] (Wk v2):=by
 unfold tr at h;refine aE 1 ?_;cases h;exact ba
theorem wQ(hK:am K)(h:kG K n v1=some r):aO Tryz.prog 89 [.agg (au v1)] (fun v _=>v=.bool r):=by
 refine bg (cat Tryz.f89 (pn 1)) Tryz.func89 Tryz.ntmps89 fun M w0=>(bc ⟨[(0,.agg (au v1))],[],[],[]⟩ ?_);unfold kG at h;refine az 6 7 3 (aj 4 ?_);obtain⟨h1,h⟩|⟨h1,h⟩:=ak h
 ·refine aA 6 h1 (aL 13 9 ?_);obtain⟨h2,h⟩|⟨h2,h⟩:=ak h
  ·exact aA 15 h2 (ac (ae 0 (Bh hK h)))
  ·exact aA 15 h2 (ac (ae 0 (Bh hK h)))
 ·exact aA 6 h1 (ac (ae 0 (Bh hK h)))
end
noncomputable section
variable(M:Nat→Prop)(w0:aF)(r v1:Int)(v2 v3 v4 v5 v6:Bool)  
abbrev fK(n:Nat):aq:=.c (cat Tryz.f117 (pn n))
abbrev acJ:Cx:=⟨Tryz.prog,73,M,w0⟩
abbrev RX:=bodyPost Tryz.prog Tryz.f117 (bu M w0 (fun v _=>v=iI r))
abbrev vT(ks:List aq)(s:AS):=VE (acJ M w0) (RX M w0 r) ks .normal s
def Sw:AS:=⟨[(72,.bool v6)],[],[],[]⟩
def abt:AS:=⟨[(0,.int .i32 v1),(60,.bool v5)],[],[],[]⟩
def TF:AS:=⟨[(0,.int .i32 v1),(29,.int .i32 v1),(44,.bool v4)],[],[],[]⟩
def Pk:AS:=⟨[(0,.int .i32 v1),(29,.int .i32 v1),(30,.bool v3)],[],[],[]⟩
def ZM:AS:=⟨[(0,.int .i32 v1),(3,.bool v2)],[],[],[]⟩
variable{M w0 r v1 v2 v3 v4 v5 v6}{K:Kn}{n:Nat}
theorem Ht(hK:am K)(h:oN K n v6=some r):vT M w0 r [fK 61,fK 31] (Sw v6):=by
 unfold oN at h;obtain⟨h44,h⟩|⟨h44,h⟩:=ak h
 ·refine ag 72 h44 (aE 5 ?_);cases h;exact ba
 ·refine ag 72 h44 (aE 5 ?_);cases h;exact ba
theorem tC(hK:am K)(h:fY K n v1 v5=some r):vT M w0 r [fK 1887,.b 1,fK 15] (abt v1 v5):=by
 unfold fY at h;obtain⟨h42,h⟩|⟨h42,h⟩:=ak h
 ·refine ag 60 h42 (aE 6 ?_);cases h;exact ba
 ·refine ag 60 h42 (co (ks':=[fK 60,fK 61,fK 31]) 5 (aj 3 ?_));obtain⟨h43,h⟩|⟨h43,h⟩:=ak h
  ·exact aA 69 h43 (ac (ae 0 (Ht hK h)))
  ·exact aA 69 h43 (ac (ae 0 (Ht hK h)))
theorem fZ(hK:am K)(h:dA K n v1 v4=some r):vT M w0 r [fK 471,.b 1,fK 15] (TF v1 v4):=by
 unfold dA at h;obtain⟨h36,h⟩|⟨h36,h⟩:=ak h
 ·refine ag 44 h36 (aE 6 ?_);cases h;exact ba
 ·refine ag 44 h36 (az 13 7 4 ?_);obtain⟨h37,h⟩|⟨h37,h⟩:=ak h
  ·exact ag 60 h37 (ae 2 (tC hK h))
  ·refine ag 60 h37 (bh 7 3 ?_);obtain⟨h38,h⟩|⟨h38,h⟩:=ak h
   ·exact ag 60 h38 (ae 2 (tC hK h))
   ·refine ag 60 h38 (bh 7 3 ?_);obtain⟨h39,h⟩|⟨h39,h⟩:=ak h
    ·exact ag 60 h39 (ae 2 (tC hK h))
    ·refine ag 60 h39 (bh 7 3 ?_);obtain⟨h40,h⟩|⟨h40,h⟩:=ak h
     ·exact ag 60 h40 (ae 2 (tC hK h))
     ·refine ag 60 h40 (bh 7 3 ?_);obtain⟨h41,h⟩|⟨h41,h⟩:=ak h
      ·exact ag 60 h41 (ae 2 (tC hK h))
      ·exact ag 60 h41 (ae 2 (tC hK h))
theorem gV(hK:am K)(h:dN K n v1 v3=some r):vT M w0 r [fK 117,.b 1,fK 15] (Pk v1 v3):=by
 unfold dN at h;obtain⟨h21,h⟩|⟨h21,h⟩:=ak h
 ·refine ag 30 h21 (aE 6 ?_);cases h;exact ba
 ·refine ag 30 h21 (az 13 7 4 ?_);obtain⟨h22,h⟩|⟨h22,h⟩:=ak h
  ·exact ag 44 h22 (ae 2 (fZ hK h))
  ·refine ag 44 h22 (bh 7 3 ?_);obtain⟨h23,h⟩|⟨h23,h⟩:=ak h
   ·exact ag 44 h23 (ae 2 (fZ hK h))
   ·refine ag 44 h23 (bh 7 3 ?_);obtain⟨h24,h⟩|⟨h24,h⟩:=ak h
    ·exact ag 44 h24 (ae 2 (fZ hK h))
    ·refine ag 44 h24 (bh 7 3 ?_);obtain⟨h25,h⟩|⟨h25,h⟩:=ak h
     ·exact ag 44 h25 (ae 2 (fZ hK h))
     ·refine ag 44 h25 (bh 7 3 ?_);obtain⟨h26,h⟩|⟨h26,h⟩:=ak h
      ·exact ag 44 h26 (ae 2 (fZ hK h))
      ·refine ag 44 h26 (bh 7 3 ?_);obtain⟨h27,h⟩|⟨h27,h⟩:=ak h
       ·exact ag 44 h27 (ae 2 (fZ hK h))
       ·refine ag 44 h27 (bh 7 3 ?_);obtain⟨h28,h⟩|⟨h28,h⟩:=ak h
        ·exact ag 44 h28 (ae 2 (fZ hK h))
        ·refine ag 44 h28 (bh 7 3 ?_);obtain⟨h29,h⟩|⟨h29,h⟩:=ak h
         ·exact ag 44 h29 (ae 2 (fZ hK h))
         ·refine ag 44 h29 (bh 7 3 ?_);obtain⟨h30,h⟩|⟨h30,h⟩:=ak h
          ·exact ag 44 h30 (ae 2 (fZ hK h))
          ·refine ag 44 h30 (bh 7 3 ?_);obtain⟨h31,h⟩|⟨h31,h⟩:=ak h
           ·exact ag 44 h31 (ae 2 (fZ hK h))
           ·refine ag 44 h31 (bh 7 3 ?_);obtain⟨h32,h⟩|⟨h32,h⟩:=ak h
            ·exact ag 44 h32 (ae 2 (fZ hK h))
            ·refine ag 44 h32 (bh 7 3 ?_);obtain⟨h33,h⟩|⟨h33,h⟩:=ak h
             ·exact ag 44 h33 (ae 2 (fZ hK h))
             ·refine ag 44 h33 (bh 7 3 ?_);obtain⟨h34,h⟩|⟨h34,h⟩:=ak h
              ·exact ag 44 h34 (ae 2 (fZ hK h))
              ·refine ag 44 h34 (bh 7 3 ?_);obtain⟨h35,h⟩|⟨h35,h⟩:=ak h
               ·exact ag 44 h35 (ae 2 (fZ hK h))
               ·exact ag 44 h35 (ae 2 (fZ hK h))
theorem oD(hK:am K)(h:gj K n v1 v2=some r):vT M w0 r [fK 25,.b 0,fK 7] (ZM v1 v2):=by
 unfold gj at h;obtain⟨h7,h⟩|⟨h7,h⟩:=ak h
 ·refine ag 3 h7 (aE 6 ?_);cases h;exact ba
 ·refine ag 3 h7 (bh 7 3 ?_);obtain⟨h8,h⟩|⟨h8,h⟩:=ak h
  ·refine ag 26 h8 (aE 6 ?_);cases h;exact ba
  ·refine ag 26 h8 (co (ks':=[fK 233,fK 117,.b 1,fK 15]) 10 ?_);obtain⟨h9,h⟩|⟨h9,h⟩:=ak h
   ·exact ag 30 h9 (ae 2 (gV hK h))
   ·refine ag 30 h9 (bh 7 3 ?_);obtain⟨h10,h⟩|⟨h10,h⟩:=ak h
    ·exact ag 30 h10 (ae 2 (gV hK h))
    ·refine ag 30 h10 (bh 7 3 ?_);obtain⟨h11,h⟩|⟨h11,h⟩:=ak h
     ·exact ag 30 h11 (ae 2 (gV hK h))
     ·refine ag 30 h11 (bh 7 3 ?_);obtain⟨h12,h⟩|⟨h12,h⟩:=ak h
      ·exact ag 30 h12 (ae 2 (gV hK h))
      ·refine ag 30 h12 (bh 7 3 ?_);obtain⟨h13,h⟩|⟨h13,h⟩:=ak h
       ·exact ag 30 h13 (ae 2 (gV hK h))
       ·refine ag 30 h13 (bh 7 3 ?_);obtain⟨h14,h⟩|⟨h14,h⟩:=ak h
        ·exact ag 30 h14 (ae 2 (gV hK h))
        ·refine ag 30 h14 (bh 7 3 ?_);obtain⟨h15,h⟩|⟨h15,h⟩:=ak h
         ·exact ag 30 h15 (ae 2 (gV hK h))
         ·refine ag 30 h15 (bh 7 3 ?_);obtain⟨h16,h⟩|⟨h16,h⟩:=ak h
          ·exact ag 30 h16 (ae 2 (gV hK h))
          ·refine ag 30 h16 (bh 7 3 ?_);obtain⟨h17,h⟩|⟨h17,h⟩:=ak h
           ·exact ag 30 h17 (ae 2 (gV hK h))
           ·refine ag 30 h17 (bh 7 3 ?_);obtain⟨h18,h⟩|⟨h18,h⟩:=ak h
            ·exact ag 30 h18 (ae 2 (gV hK h))
            ·refine ag 30 h18 (bh 7 3 ?_);obtain⟨h19,h⟩|⟨h19,h⟩:=ak h
             ·exact ag 30 h19 (ae 2 (gV hK h))
             ·refine ag 30 h19 (bh 7 3 ?_);obtain⟨h20,h⟩|⟨h20,h⟩:=ak h
              ·exact ag 30 h20 (ae 2 (gV hK h))
              ·exact ag 30 h20 (ae 2 (gV hK h))
theorem Ov(hK:am K)(h:gv K n v1=some r):aO Tryz.prog 117 [.int .i32 v1] (fun v _=>v=iI r):=by
 refine bg (cat Tryz.f117 (pn 1)) Tryz.func117 Tryz.ntmps117 fun M w0=>(bc ⟨[(0,.int .i32 v1)],[],[],[]⟩ ?_);unfold gv at h;refine dk 24 25 0 7 5 (aj 3 ?_);obtain⟨h1,h⟩|⟨h1,h⟩:=ak h
 ·exact aA 6 h1 (ac (ae 0 (oD hK h)))
 ·refine aA 6 h1 (aL 7 4 ?_);obtain⟨h2,h⟩|⟨h2,h⟩:=ak h
  ·exact aA 10 h2 (ac (ae 0 (oD hK h)))
  ·refine aA 10 h2 (aL 10 3 ?_);obtain⟨h3,h⟩|⟨h3,h⟩:=ak h
   ·refine aA 13 h3 (aL 15 5 ?_);obtain⟨h4,h⟩|⟨h4,h⟩:=ak h
    ·exact aA 18 h4 (ac (ae 0 (oD hK h)))
    ·refine aA 18 h4 (aL 18 3 ?_);obtain⟨h5,h⟩|⟨h5,h⟩:=ak h
     ·exact aA 21 h5 (ac (ae 0 (oD hK h)))
     ·exact aA 21 h5 (ac (ae 0 (oD hK h)))
   ·refine aA 13 h3 (aL 18 8 ?_);obtain⟨h6,h⟩|⟨h6,h⟩:=ak h
    ·exact aA 21 h6 (ac (ae 0 (oD hK h)))
    ·exact aA 21 h6 (ac (ae 0 (oD hK h)))
end
noncomputable section
variable(M:Nat→Prop)(w0:aF)(r:Bool)(v1:Int)(v2:Bool)  
abbrev LO(n:Nat):aq:=.c (cat Tryz.f126 (pn n))
abbrev Vd:Cx:=⟨Tryz.prog,9,M,w0⟩
abbrev Rm:=bodyPost Tryz.prog Tryz.f126 (bu M w0 (fun v _=>v=.bool r))
abbrev S9(ks:List aq)(s:AS):=VE (Vd M w0) (Rm M w0 r) ks .normal s
def XN:AS:=⟨[(4,.bool v2)],[],[],[]⟩
variable{M w0 r v1 v2}{K:Kn}{n:Nat}
theorem y0(hK:am K)(h:pR K n v2=some r):S9 M w0 r [LO 53,.b 0,LO 7] (XN v2):=by
 unfold pR at h;obtain⟨h4,h⟩|⟨h4,h⟩:=ak h
 ·refine ag 4 h4 (aE 6 ?_);cases h;exact ba
 ·refine ag 4 h4 (aE 6 ?_);cases h;exact ba
theorem Ob(hK:am K)(h:tR K n v1=some r):aO Tryz.prog 126 [.int .i32 v1] (fun v _=>v=.bool r):=by
 refine bg (cat Tryz.f126 (pn 1)) Tryz.func126 Tryz.ntmps126 fun M w0=>(bc ⟨[(0,.int .i32 v1)],[],[],[]⟩ ?_);unfold tR at h;refine dk 105 53 0 7 9 ?_;obtain⟨h1,h⟩|⟨h1,h⟩:=ak h
 ·exact ag 4 h1 (ae 2 (y0 hK h))
 ·refine ag 4 h1 (bh 7 3 ?_);obtain⟨h2,h⟩|⟨h2,h⟩:=ak h
  ·exact ag 4 h2 (ae 2 (y0 hK h))
  ·refine ag 4 h2 (bh 7 3 ?_);obtain⟨h3,h⟩|⟨h3,h⟩:=ak h
   ·exact ag 4 h3 (ae 2 (y0 hK h))
   ·exact ag 4 h3 (ae 2 (y0 hK h))
end
noncomputable section
variable(M:Nat→Prop)(w0:aF)(r:Bool)(v1 v2:Int)(v5 v7 v8:Bool)  
abbrev oq(n:Nat):aq:=.c (cat Tryz.f114 (pn n))
abbrev Rk:Cx:=⟨Tryz.prog,29,M,w0⟩
abbrev Qg:=bodyPost Tryz.prog Tryz.f114 (bu M w0 (fun v _=>v=.bool r))
abbrev E7(ks:List aq)(s:AS):=VE (Rk M w0) (Qg M w0 r) ks .normal s
def YI:AS:=⟨[(4,.bool v8)],[],[],[]⟩
def acW:AS:=⟨[(0,.int .i32 v1),(1,.int .i32 v2),(16,.bool v7)],[],[],[]⟩
def ZQ:AS:=⟨[(0,.int .i32 v1),(1,.int .i32 v2),(5,.bool v5)],[],[],[]⟩
variable{M w0 r v1 v2 v5 v7 v8}{K:Kn}{n:Nat}
theorem Kr(hK:am K)(h:vf K n v8=some r):E7 M w0 r [oq 15] (YI v8):=by
 unfold vf at h;refine aE 1 ?_;cases h;exact ba
theorem Hk(hK:am K)(h:t8 K n v1 v2 v7=some r):E7 M w0 r [oq 415,.b 0,oq 7] (acW v1 v2 v7):=by
 unfold t8 at h;obtain⟨h8,h⟩|⟨h8,h⟩:=ak h
 ·refine ag 16 h8 (aE 6 ?_);cases h;exact ba
 ·refine ag 16 h8 (co (ks':=[oq 14,oq 15]) 4 (aj 3 ?_));obtain⟨h9,h⟩|⟨h9,h⟩:=ak h
  ·exact aA 25 h9 (ac (ae 0 (Kr hK h)))
  ·exact aA 25 h9 (ac (ae 0 (Kr hK h)))
theorem LS(hK:am K)(h:oK K n v1 v2 v5=some r):E7 M w0 r [oq 25,.b 0,oq 7] (ZQ v1 v2 v5):=by
 unfold oK at h;obtain⟨h4,h⟩|⟨h4,h⟩:=ak h
 ·refine ag 5 h4 (aE 6 ?_);cases h;exact ba
 ·refine ag 5 h4 (az 6 7 2 (aj 1 ?_));obtain⟨v6,h5,h⟩:=bind_some h;refine aD (Ob hK h5) (ac ?_);obtain⟨h6,h⟩|⟨h6,h⟩:=ak h
  ·refine ag 13 h6 (aE 6 ?_);cases h;exact ba
  ·refine ag 13 h6 (az 6 7 2 (aj 3 ?_));obtain⟨h7,h⟩|⟨h7,h⟩:=ak h
   ·exact aA 19 h7 (ac (ae 0 (Hk hK h)))
   ·exact aA 19 h7 (ac (ae 0 (Hk hK h)))
theorem Tn(hK:am K)(h:vZ K n v1 v2=some r):aO Tryz.prog 114 [.int .i32 v1,.int .i32 v2] (fun v _=>v=.bool r):=by
 refine bg (cat Tryz.f114 (pn 1)) Tryz.func114 Tryz.ntmps114 fun M w0=>(bc ⟨[(0,.int .i32 v1),(1,.int .i32 v2)],[],[],[]⟩ ?_);unfold vZ at h;refine dk 24 25 0 7 5 (aj 1 ?_);obtain⟨v3,h1,h⟩:=bind_some h;refine aD (Ob hK h1) (aL 3 1 ?_);obtain⟨h2,h⟩|⟨h2,h⟩:=ak h
 ·exact aA 8 h2 (ac (ae 0 (LS hK h)))
 ·refine aA 8 h2 (aL 4 1 ?_);obtain⟨v4,h3,h⟩:=bind_some h;exact aD (Ov hK h3) (ac (ae 0 (LS hK h)))
end
noncomputable section
variable(M:Nat→Prop)(w0:aF)(r:List Int)(v1:ByteArray)(v2:Nat)(v9:Int)(v10:Nat)(v11:List Int)(v13:Bool)(v14:List Int)(m1:Nat)(L1:Int→Nat→(List Int)→Option (List Int))
abbrev Fr:Cx:=⟨Tryz.prog,26,M,w0⟩
abbrev BX:=bodyPost Tryz.prog Tryz.f90 (bu M w0 (fun v s=>v=.ref 23∧look 23 s.r=some ⟨3,1,lm (bi .i64) r⟩))
abbrev Dr(ks:List aq)(s:AS):=VE (Fr M w0) (BX M w0 r) ks .normal s
abbrev nz(n:Nat):aq:=.c (cat Tryz.f90 (pn n))
abbrev CQ:List aq:=[.b 0,nz 31]
abbrev xw:List aq:=kl (Fr M w0) (BX M w0 r) CQ (cat Tryz.f90 (pn 244)) m1::CQ
def ab0:AS:=⟨[(3,.ref 23),(6,.int .i32 ((Utf8.decode v1 v10).1:Int)),(8,.sit 320008 v2 v1 (v10+(Utf8.decode v1 v10).2))],[],[(23,⟨3,1,lm (bi .i64) v14⟩)],[23,320008]⟩
def aac:AS:=⟨[(3,.ref 23),(5,iI ((v10:Nat):Int)),(6,.int .i32 ((Utf8.decode v1 v10).1:Int)),(8,.sit 320008 v2 v1 (v10+(Utf8.decode v1 v10).2)),(19,.bool v13)],[],[(23,⟨3,1,lm (bi .i64) v11⟩)],[23,320008]⟩
def Mz:AS:=⟨[(3,.ref 23),(4,.int .i32 v9),(8,.sit 320008 v2 v1 v10)],[],[(23,⟨3,1,lm (bi .i64) v11⟩)],[23,320008]⟩
abbrev yv:Prop:=∀{v9:Int} {v10:Nat} {v11:(List Int)},L1 v9 v10 v11=some r→LP (Fr M w0) (BX M w0 r) CQ (cat Tryz.f90 (pn 244)) m1 (Mz v1 v2 v9 v10 v11)
variable{M w0 r v1 v2 v9 v10 v11 v13 v14 m1 L1}{K:Kn}{n:Nat}
theorem Hv(hK:am K)(hv2:w0.w.heap.size≤v2)(hL1:yv M w0 r v1 v2 m1 L1)(h:nY K n v1 v10 L1 v14=some r):Dr M w0 r (nz 7835 :: .b 1::xw M w0 r m1) (ab0 v1 v2 v10 v14):=by
 unfold nY at h;exact ae 2 (bt (hL1 h))
theorem Jn(hK:am K)(hv2:w0.w.heap.size≤v2)(hL1:yv M w0 r v1 v2 m1 L1)(h:oa K n v1 v10 v11 L1 v13=some r):Dr M w0 r (nz 15669::nz 7835 :: .b 1::xw M w0 r m1) (aac v1 v2 v10 v11 v13):=by
 unfold oa at h;obtain⟨h14,h⟩|⟨h14,h⟩:=ak h
 ·refine ag 19 h14 (bh 2 1 (aj 3 ?_));obtain⟨h15,h⟩:=aK h;exact aB (cD 23 23 3 1 (bi .i64) (rfl) ((fun _=>rfl)) h15) (ac (ae 0 (Hv hK (v2:=v2) hv2 hL1 h)))
 ·exact ag 19 h14 (ae 2 (Hv hK (v2:=v2) hv2 hL1 h))
theorem Wz(hK:am K)(hv2:w0.w.heap.size≤v2)(hL1:yv M w0 r v1 v2 m1 L1)(h:jG K n v1 L1 v9 v10 v11=some r):Dr M w0 r (nz 244::xw M w0 r m1) (Mz v1 v2 v9 v10 v11):=by
 unfold jG at h;refine az 2 3 1 (aj 0 ?_);obtain⟨h11,h⟩|⟨h11,h⟩:=ak h
 ·refine za 8 (id:=320008) (g:=v2) h11 hv2 (ac (co (ks':=nz 15668::nz 15669::nz 7835 :: .b 1::xw M w0 r m1) 8 (aj 3 ?_)));obtain⟨h12,h⟩|⟨h12,h⟩:=ak h
  ·refine aA 15 h12 (aL 5 2 ?_);obtain⟨v12,h13,h⟩:=bind_some h;exact aD (Tn hK h13) (ac (ae 0 (Jn hK (v2:=v2) hv2 hL1 h)))
  ·exact aA 15 h12 (ac (ae 0 (Jn hK (v2:=v2) hv2 hL1 h)))
 ·refine Am 8 (id:=320008) (g:=v2) h11 (ac (aE 9 ?_));cases h;exact fa
theorem Ta(hK:am K)(hv2:w0.w.heap.size≤v2)(m:Nat):yv M w0 r v1 v2 m (my K n v1 m):=by
 induction m with
 | zero=>intro v9 v10 v11 h;cases h
 | succ m ih=>intro v9 v10 v11 h;have h:jG K n v1 (my K n v1 m) v9 v10 v11=some r:=h;exact bp (Wz hK hv2 ih h)
theorem WU(hK:am K)(h:tY K n v1=some r):aO Tryz.prog 90 [.str v1] (fun v s=>v=.ref 23∧look 23 s.r=some ⟨3,1,lm (bi .i64) r⟩):=by
 refine bg (cat Tryz.f90 (pn 1)) Tryz.func90 Tryz.ntmps90 fun M w0=>(bc ⟨[(0,.str v1)],[],[],[]⟩ ?_);unfold tY at h;exact bH 60 61 31 8 (aj 1 (zD 320008 (b:=v1) fun v2 hv2=>(ac (jF 2 0 1 (bI [3,4,8] [] [] (fh 23 3 3 1 (ae 0 (cf (p:=pn 122) n (Ta hK (v2:=v2) hv2 n h)))))))))
end
noncomputable section
variable(M:Nat→Prop)(w0:aF)(r:Bool)(v1 v2:aw)(v3 v7 v10:Bool)  
abbrev rN(n:Nat):aq:=.c (cat Tryz.f53 (pn n))
abbrev T7:Cx:=⟨Tryz.prog,61,M,w0⟩
abbrev O0:=bodyPost Tryz.prog Tryz.f53 (bu M w0 (fun v _=>v=.bool r))
abbrev FF(ks:List aq)(s:AS):=VE (T7 M w0) (O0 M w0 r) ks .normal s
def abp:AS:=⟨[(4,.bool v7)],[],[],[]⟩
def R6:AS:=⟨[(2,.ptr 2 0),(3,.ptr 3 0),(51,.bool v10)],[(2,au v1),(3,au v2)],[],[2,3]⟩
def aaX:AS:=⟨[(2,.ptr 2 0),(3,.ptr 3 0),(12,.bool v3)],[(2,au v1),(3,au v2)],[],[2,3]⟩
variable{M w0 r v1 v2 v3 v7 v10}{K:Kn}{n:Nat}
theorem uD(hK:am K)(h:mZ K n v7=some r):FF M w0 r [rN 53,rN 7] (abp v7):=by
 unfold mZ at h;refine aE 2 ?_;cases h;exact ba
theorem vK(hK:am K)(h:j9 K n v1 v2 v10=some r):FF M w0 r [rN 29,rN 15] (R6 v1 v2 v10):=by
 unfold j9 at h;obtain⟨h16,h⟩|⟨h16,h⟩:=ak h
 ·refine ag 51 h16 (aE 5 ?_);cases h;exact ba
 ·refine ag 51 h16 (dB 2 3 3 (aj 6 ?_));obtain⟨v11,h17,h⟩:=bind_some h;refine dx 1058 (WU hK h17) (fx 23) (aB (bq (bi .i64) v11) (ac (aE 1 ?_)));cases h;exact ba
theorem Mb(hK:am K)(h:mb K n v1 v2 v3=some r):FF M w0 r [rN 13,rN 7] (aaX v1 v2 v3):=by
 unfold mb at h;obtain⟨h2,h⟩|⟨h2,h⟩:=ak h
 ·refine ag 12 h2 (az 4 5 2 (aj 4 ?_));obtain⟨h3,h⟩|⟨h3,h⟩:=ak h
  ·refine aA 16 h3 (aL 12 8 ?_);obtain⟨h4,h⟩|⟨h4,h⟩:=ak h
   ·exact aA 24 h4 (ac (ae 0 (uD hK h)))
   ·refine aA 24 h4 (aL 13 1 ?_);obtain⟨v4,h5,h⟩:=bind_some h;exact aD (wQ hK h5) (ac (ae 0 (uD hK h)))
  ·refine aA 16 h3 (aL 5 1 ?_);obtain⟨v5,h6,h⟩:=bind_some h;refine aD (wQ hK h6) (aL 8 2 ?_);obtain⟨h7,h⟩|⟨h7,h⟩:=ak h
   ·refine aA 20 h7 (aL 12 4 ?_);obtain⟨h8,h⟩|⟨h8,h⟩:=ak h
    ·exact aA 24 h8 (ac (ae 0 (uD hK h)))
    ·refine aA 24 h8 (aL 13 1 ?_);obtain⟨v6,h9,h⟩:=bind_some h;exact aD (wQ hK h9) (ac (ae 0 (uD hK h)))
   ·exact aA 20 h7 (ac (ae 0 (uD hK h)))
 ·refine ag 12 h2 (ii 4 5 3 4 (aj 4 ?_));obtain⟨h10,h⟩|⟨h10,h⟩:=ak h
  ·exact aA 32 h10 (ac (ae 0 (vK hK h)))
  ·refine aA 32 h10 (aL 9 5 ?_);obtain⟨h11,h⟩|⟨h11,h⟩:=ak h
   ·exact aA 37 h11 (ac (ae 0 (vK hK h)))
   ·refine aA 37 h11 (aL 10 1 ?_);obtain⟨v8,h12,h⟩:=bind_some h;refine aD (wQ hK h12) (aL 14 3 ?_);obtain⟨h13,h⟩|⟨h13,h⟩:=ak h
    ·exact aA 42 h13 (ac (ae 0 (vK hK h)))
    ·refine aA 42 h13 (aL 18 4 ?_);obtain⟨h14,h⟩|⟨h14,h⟩:=ak h
     ·refine aA 46 h14 (aL 19 1 ?_);obtain⟨v9,h15,h⟩:=bind_some h;exact aD (wQ hK h15) (ac (ae 0 (vK hK h)))
     ·exact aA 46 h14 (ac (ae 0 (vK hK h)))
theorem rb(hK:am K)(h:jU K n v1 v2=some r):aO Tryz.prog 53 [.agg (au v1),.agg (au v2)] (fun v _=>v=.bool r):=by
 refine bg (cat Tryz.f53 (pn 1)) Tryz.func53 Tryz.ntmps53 fun M w0=>(bc ⟨[(0,.agg (au v1)),(1,.agg (au v2))],[],[],[]⟩ ?_);unfold jU at h;refine bH 12 13 7 4 (aj 4 ?_);obtain⟨h1,h⟩|⟨h1,h⟩:=ak h
 ·exact aA 8 h1 (ac (ae 0 (Mb hK h)))
 ·exact aA 8 h1 (ac (ae 0 (Mb hK h)))
end
noncomputable section
variable(M:Nat→Prop)(w0:aF)(r v1:Int)  
variable{M w0 r v1}{K:Kn}{n:Nat}
theorem zL(hK:am K)(h:qx K n v1=some r):aO Tryz.prog 85 [iI v1] (fun v _=>v=iI r):=by
 refine bg (cat Tryz.f85 (pn 1)) Tryz.func85 Tryz.ntmps85 fun M w0=>(bc ⟨[(0,iI v1)],[],[],[]⟩ ?_);unfold qx at h;refine aE 5 ?_;cases h;exact ba
end
noncomputable section
variable(M:Nat→Prop)(w0:aF)(r v1:Int)  
variable{M w0 r v1}{K:Kn}{n:Nat}
theorem Gd(hK:am K)(h:vd K n v1=some r):aO Tryz.prog 49 [iI v1] (fun v _=>v=iI r):=by
 refine bg (cat Tryz.f49 (pn 1)) Tryz.func49 Tryz.ntmps49 fun M w0=>(bc ⟨[(0,iI v1)],[],[],[]⟩ ?_);unfold vd at h;refine az 6 7 3 (aj 1 ?_);obtain⟨v2,h1,h⟩:=bind_some h;refine aD (zL hK h1) (ac (aE 1 ?_));cases h;exact ba
end
noncomputable section
variable(M:Nat→Prop)(w0:aF)(r v1:Int)  
variable{M w0 r v1}{K:Kn}{n:Nat}
theorem L6(hK:am K)(h:vc K n v1=some r):aO Tryz.prog 50 [iI v1] (fun v _=>v=iI r):=by
 refine bg (cat Tryz.f50 (pn 1)) Tryz.func50 Tryz.ntmps50 fun M w0=>(bc ⟨[(0,iI v1)],[],[],[]⟩ ?_);unfold vc at h;refine az 6 7 3 (aj 1 ?_);obtain⟨v2,h1,h⟩:=bind_some h;refine aD (zL hK h1) (aL 3 1 ?_);obtain⟨v3,h2,h⟩:=bind_some h;refine aD (zL hK h2) (ac (aE 1 ?_));cases h;exact ba
end
noncomputable section
variable(M:Nat→Prop)(w0:aF)(r:Int×Int)(v1:aI)  
variable{M w0 r v1}{K:Kn}{n:Nat}
theorem zT(hK:am K)(h:jJ K n v1=some r):aO Tryz.prog 20 [.agg (aJ v1)] (fun v _=>v=.tup [iI r.1,iI r.2]):=by
 refine bg (cat Tryz.f20 (pn 1)) Tryz.func20 Tryz.ntmps20 fun M w0=>(bc ⟨[(0,.agg (aJ v1))],[],[],[]⟩ ?_);unfold jJ at h;refine az 14 15 5 (bI [1,4] [1] [] ?_);obtain⟨v2,h1,h⟩:=bind_some h;obtain⟨v3,h2,h⟩:=bind_some h;refine bF 1 (nu 8 [.ptr 1 37,iI v1.FontSize,iI v2,iI (max v1.LineHeight 0),.ptr 1 37,iI v1.FontSize,iI v3,iI (aa ((max v1.LineHeight 0)-v3)),iI ((aa ((max v1.LineHeight 0)-v3)) / 2),iI (aa (v2+((aa ((max v1.LineHeight 0)-v3)) / 2)))]) [] [] [bR Tryz.prog 22 Tryz.f20 (pn 14) 10] (av (vz 2) (ab (cb 0 1 10 (Gd hK h1)) (av (vz 3) (ab (cb 0 1 14 (L6 hK h2)) (av (vz 3) (ab (bQ 0) bG)))))) (aE 3 ?_);cases h;exact dS
end
noncomputable section
variable(M:Nat→Prop)(w0:aF)(r:List Int)(v1:Int)(v2:List Int)(v3 v4:Bool)  
abbrev NF(n:Nat):aq:=.c (cat Tryz.f128 (pn n))
abbrev UJ:Cx:=⟨Tryz.prog,78,M,w0⟩
abbrev SN:=bodyPost Tryz.prog Tryz.f128 (bu M w0 (fun v s=>v=.ref 9∧dh s.o []∧look 9 s.r=some ⟨5,1,lm (bi .u8) r⟩))
abbrev NR(ks:List aq)(s:AS):=VE (UJ M w0) (SN M w0 r) ks .normal s
def abm:AS:=⟨[(0,.ref 9),(1,.int .i32 v1),(50,.bool v4)],[],[(9,⟨5,1,lm (bi .u8) v2⟩)],[9]⟩
def Ti:AS:=⟨[(0,.ref 9),(1,.int .i32 v1),(5,.int .u32 (IntKind.wrap .u32 v1)),(25,.bool v3)],[],[(9,⟨5,1,lm (bi .u8) v2⟩)],[9]⟩
variable{M w0 r v1 v2 v3 v4}{K:Kn}{n:Nat}
theorem GE(hK:am K)(h:vU K n v1 v2 v4=some r):NR M w0 r [NF 479,.b 0] (abm v1 v2 v4):=by
 unfold vU at h;obtain⟨h8,h⟩|⟨h8,h⟩:=ak h
 ·refine ag 50 h8 (az 4 5 2 (aj 20 ?_));obtain⟨h9,h⟩:=aK h;refine aB (cD 77 9 5 1 (bi .u8) (rfl) ((fun _=>rfl)) h9) (ac (aE 2 ?_));cases h;exact eK
 ·refine ag 50 h8 (az 6 7 2 (aj 2 ?_));obtain⟨h10,h⟩:=aK h;refine aB (cD 10 9 5 1 (bi .u8) (rfl) ((fun _=>rfl)) h10) (ac (aE 2 ?_));cases h;exact eK
theorem Dc(hK:am K)(h:nC K n v1 v2 v3=some r):NR M w0 r [NF 119,.b 0] (Ti v1 v2 v3):=by
 unfold nC at h;obtain⟨h5,h⟩|⟨h5,h⟩:=ak h
 ·refine ag 25 h5 (az 4 5 2 (aj 15 ?_));obtain⟨h6,h⟩:=aK h;refine aB (cD 49 9 5 1 (bi .u8) (rfl) ((fun _=>rfl)) h6) (ac (aE 2 ?_));cases h;exact eK
 ·refine ag 25 h5 (az 6 7 2 (aj 3 ?_));obtain⟨h7,h⟩|⟨h7,h⟩:=ak h
  ·exact aA 53 h7 (ac (ae 0 (GE hK h)))
  ·exact aA 53 h7 (ac (ae 0 (GE hK h)))
theorem Xr(hK:am K)(h:ri K n v1 v2=some r):fl Tryz.prog 128 [.ref 9,.int .i32 v1] [] 9 ⟨5,1,lm (bi .u8) v2⟩ [9] (fun v s=>v=.ref 9∧dh s.o []∧look 9 s.r=some ⟨5,1,lm (bi .u8) r⟩):=by
 refine je (c:=cat Tryz.f128 (pn 1)) Tryz.func128 (by kernel_rfl) _ Tryz.ntmps128 (of_decide_eq_true (by kernel_rfl)) fun M w0=>(bc ⟨[(0,.ref 9),(1,.int .i32 v1)],[],[(9,⟨5,1,lm (bi .u8) v2⟩)],[9]⟩ ?_);unfold ri at h;refine jF 29 0 7 ?_;obtain⟨h1,h⟩|⟨h1,h⟩:=ak h
 ·refine ag 11 h1 (az 4 5 2 (aj 10 ?_));obtain⟨h2,h⟩:=aK h;refine aB (cD 24 9 5 1 (bi .u8) (rfl) ((fun _=>rfl)) h2) (ac (aE 2 ?_));cases h;exact eK
 ·refine ag 11 h1 (az 13 7 4 ?_);obtain⟨h3,h⟩|⟨h3,h⟩:=ak h
  ·exact ag 25 h3 (ae 2 (Dc hK h))
  ·refine ag 25 h3 (bh 3 1 (aj 3 ?_));obtain⟨h4,h⟩|⟨h4,h⟩:=ak h
   ·exact aA 30 h4 (ac (ae 0 (Dc hK h)))
   ·exact aA 30 h4 (ac (ae 0 (Dc hK h)))
end
noncomputable section
variable(M:Nat→Prop)(w0:aF)(r:List Int)(v1:Int)(v2:List Int)  
variable{M w0 r v1 v2}{K:Kn}{n:Nat}
theorem I6(hK:am K)(h:ru K n v1 v2=some r):fl Tryz.prog 116 [.ref 9,.int .i32 v1] [] 9 ⟨5,1,lm (bi .u8) v2⟩ [9] (fun v s=>v=.ref 9∧dh s.o []∧look 9 s.r=some ⟨5,1,lm (bi .u8) r⟩):=by
 refine je (c:=cat Tryz.f116 (pn 1)) Tryz.func116 (by kernel_rfl) _ Tryz.ntmps116 (of_decide_eq_true (by kernel_rfl)) fun M w0=>(bc ⟨[(0,.ref 9),(1,.int .i32 v1)],[],[(9,⟨5,1,lm (bi .u8) v2⟩)],[9]⟩ ?_);unfold ru at h;refine az 13 7 5 ?_;obtain⟨h1,h⟩|⟨h1,h⟩:=ak h
 ·refine ag 7 h1 (az 4 5 2 (aj 4 ?_));obtain⟨h2,h⟩:=aK h;refine aB (cD 12 9 5 1 (bi .u8) (rfl) ((fun _=>rfl)) h2) (ac (aE 2 ?_));cases h;exact eK
 ·refine ag 7 h1 (dB 2 3 3 (aj 2 ?_));obtain⟨v3,h3,h⟩:=bind_some h;refine gH 9 9 [] (Xr hK h3) (ac (aE 1 ?_));cases h;exact eK
end
noncomputable section
variable(M:Nat→Prop)(w0:aF)(r:Int×Unit×(List Int))(v1:Int)(v2:Bool)(v3:List Int)  
variable{M w0 r v1 v2 v3}{K:Kn}{n:Nat}
theorem Iq(hK:am K)(h:oc K n v1 v2 v3=some r):fl Tryz.prog 91 [.ptr 450132 0,.int .i32 v1] [(450132,[(vD v2 450132),.ref 9])] 9 ⟨5,1,lm (bi .u8) v3⟩ [9,450132,1450132] (fun v s=>v=.tup [iI r.1,.vv .nilIface]∧dh s.o [(450132,[.ptr 450132 0,.ref 9])]∧look 9 s.r=some ⟨5,1,lm (bi .u8) r.2.2⟩):=by
 refine je (c:=cat Tryz.f91 (pn 1)) Tryz.func91 (by kernel_rfl) _ Tryz.ntmps91 (of_decide_eq_true (by kernel_rfl)) fun M w0=>(bc ⟨[(0,.ptr 450132 0),(1,.int .i32 v1)],[(450132,[(vD v2 450132),.ref 9])],[(9,⟨5,1,lm (bi .u8) v3⟩)],[9,450132,1450132]⟩ ?_);unfold oc at h;refine az 6 7 3 (aj 1 ?_);rcases ak h with⟨h1,gh1⟩|⟨h1,gh1⟩
 ·subst h1;have h:=gh1;refine Mo 450132 (b:=true) (c1:=.ref 9) (ac (az 2 3 1 (aj 4 (aB (bq (bi .u8) v3) (ac (az 2 3 1 (aj 6 ?_)))))));obtain⟨v4,h2,h⟩:=bind_some h;refine gH 9 9 [] (I6 hK h2) (ac (az 2 3 1 (aj 4 (aB (bq (bi .u8) v4) (ac (aE 1 ?_))))));cases h;exact Ey
 ·subst h1;have h:=gh1;refine Mo 450132 (b:=false) (c1:=.ref 9) (ac (az 2 3 1 (aj 4 (aB (bq (bi .u8) v3) (ac (az 2 3 1 (aj 6 ?_)))))));obtain⟨v5,h3,h⟩:=bind_some h;refine gH 9 9 [] (I6 hK h3) (ac (az 2 3 1 (aj 4 (aB (bq (bi .u8) v5) (ac (aE 1 ?_))))));cases h;exact Ey
end
noncomputable section
variable(M:Nat→Prop)(w0:aF)(r:Int)(v1 v2:Int)  
variable{M w0 r v1 v2}{K:Kn}{n:Nat}
theorem Ew(hK:am K)(h:nR K n v1 v2=some r):aO Tryz.prog 93 [.int .i32 v1,iI v2] (fun v _=>v=iI r):=by
 refine bg (cat Tryz.f93 (pn 1)) Tryz.func93 Tryz.ntmps93 fun M w0=>(bc ⟨[(0,.int .i32 v1),(1,iI v2)],[],[],[]⟩ ?_);unfold nR at h;refine az 6 7 3 (aj 1 ?_);obtain⟨v3,h1,h⟩:=bind_some h;refine aD (Ov hK h1) (aL 3 1 ?_);obtain⟨v4,h2,h⟩:=bind_some h;refine aD (zL hK h2) (ac (aE 1 ?_));cases h;exact ba
end
noncomputable section
variable(M:Nat→Prop)(w0:aF)(r:Int)(v1:ByteArray)(v2:Int)(v3:Nat)(v5:Int)(v6 m1:Nat)(L1:Int→Nat→Option Int)
abbrev B1:Cx:=⟨Tryz.prog,19,M,w0⟩
abbrev Fy:=bodyPost Tryz.prog Tryz.f94 (bu M w0 (fun v _=>v=iI r))
abbrev Xy(ks:List aq)(s:AS):=VE (B1 M w0) (Fy M w0 r) ks .normal s
abbrev KH(n:Nat):aq:=.c (cat Tryz.f94 (pn n))
abbrev A0:List aq:=[.b 0,KH 15]
abbrev QC:List aq:=kl (B1 M w0) (Fy M w0 r) A0 (cat Tryz.f94 (pn 116)) m1::A0
def Hp:AS:=⟨[(1,iI v2),(5,iI v5),(9,.sit 320009 v3 v1 v6)],[],[],[320009]⟩
abbrev I1:Prop:=∀{v5:Int} {v6:Nat},L1 v5 v6=some r→LP (B1 M w0) (Fy M w0 r) A0 (cat Tryz.f94 (pn 116)) m1 (Hp v1 v2 v3 v5 v6)
variable{M w0 r v1 v2 v3 v5 v6 m1 L1}{K:Kn}{n:Nat}
theorem Yi(hK:am K)(hv3:w0.w.heap.size≤v3)(hL1:I1 M w0 r v1 v2 v3 m1 L1)(h:sw K n v1 v2 L1 v5 v6=some r):Xy M w0 r (KH 116::QC M w0 r m1) (Hp v1 v2 v3 v5 v6):=by
 unfold sw at h;refine az 2 3 1 (aj 0 ?_);obtain⟨h3,h⟩|⟨h3,h⟩:=ak h
 ·refine za 9 (id:=320009) (g:=v3) h3 hv3 (ac (jF 13 1 6 (aj 3 ?_)));obtain⟨v7,h4,h⟩:=bind_some h;exact aD (Ew hK h4) (ac (ae 1 (bt (hL1 h))))
 ·refine Am 9 (id:=320009) (g:=v3) h3 (ac (aE 9 ?_));cases h;exact ba
theorem Tm(hK:am K)(hv3:w0.w.heap.size≤v3)(m:Nat):I1 M w0 r v1 v2 v3 m (ry K n v1 v2 m):=by
 induction m with
 | zero=>intro v5 v6 h;cases h
 | succ m ih=>intro v5 v6 h;have h:sw K n v1 v2 (ry K n v1 v2 m) v5 v6=some r:=h;exact bp (Yi hK hv3 ih h)
theorem GA(hK:am K)(h:qg K n v1 v2=some r):aO Tryz.prog 94 [.str v1,iI v2] (fun v _=>v=iI r):=by
 refine bg (cat Tryz.f94 (pn 1)) Tryz.func94 Tryz.ntmps94 fun M w0=>(bc ⟨[(0,.str v1),(1,iI v2)],[],[],[]⟩ ?_);unfold qg at h;exact bH 28 29 15 6 (aj 1 (zD 320009 (b:=v1) fun v3 hv3=>(ac (ae 1 (cf (p:=pn 58) n (Tm hK (v3:=v3) hv3 n h))))))
end
noncomputable section
variable(M:Nat→Prop)(w0:aF)(r:ay)(v1:List aw)(v4:Int)(v5:Bool)(v6:List Int)(v9:Bool)(v10:aI)(v14:ByteArray)(v15:Int)(v18:aI)(v22:ByteArray)(v23:Int)(m1:Nat)(L1:Int→Bool→(List Int)→Option ay)
abbrev Cg:Cx:=⟨Tryz.prog,59,M,w0⟩
abbrev Fo:=bodyPost Tryz.prog Tryz.f54 (bu M w0 (fun v _=>v=.agg (aN r)))
abbrev xQ(ks:List aq)(s:AS):=VE (Cg M w0) (Fo M w0 r) ks .normal s
abbrev fy(n:Nat):aq:=.c (cat Tryz.f54 (pn n))
abbrev AM:List aq:=[.b 0,fy 15]
abbrev abx:List aq:=kl (Cg M w0) (Fo M w0 r) AM (cat Tryz.f54 (pn 116)) m1::AM
def XK:AS:=⟨[(2,.ptr 2 0),(6,.ptr 6 0),(7,.ptr 7 0),(8,.str v14)],[(2,List.set (aN cq) 61 (.nils)),(6,aJ v10),(7,List.set (aN ({ cq with Text:=(bytesOf v6),Space:=v15 }:ay)) 61 (.nils))],[],[2,6,7]⟩
def acD:AS:=⟨[(2,.ptr 2 0),(6,.ptr 6 0),(7,.ptr 7 0),(8,.str v22)],[(2,List.set (aN cq) 61 (.nils)),(6,aJ v18),(7,List.set (aN ({ cq with Text:=(bytesOf v6),Space:=v23 }:ay)) 61 (.nils))],[],[2,6,7]⟩
def XM:AS:=⟨[(0,.sl (lm au v1)),(2,.ptr 2 0),(3,.ptr 451132 0)],[(2,List.set (aN cq) 61 (.nils)),(451132,[(vD v9 451132),.ref 401132])],[(401132,⟨5,1,lm (bi .u8) v6⟩)],[2,451132,401132]⟩
def La:AS:=⟨[(0,.sl (lm au v1)),(2,.ptr 2 0),(3,.ptr 451132 0),(9,.sl (lm au v1)),(10,iI (v1.length:Int)),(11,iI v4)],[(2,List.set (aN cq) 61 (.nils)),(451132,[(vD v5 451132),.ref 401132])],[(401132,⟨5,1,lm (bi .u8) v6⟩)],[2,451132,401132]⟩
abbrev HA:Prop:=∀{v4:Int} {v5:Bool} {v6:(List Int)},L1 v4 v5 v6=some r→LP (Cg M w0) (Fo M w0 r) AM (cat Tryz.f54 (pn 116)) m1 (La v1 v4 v5 v6)
variable{M w0 r v1 v4 v5 v6 v9 v10 v14 v15 v18 v22 v23 m1 L1}{K:Kn}{n:Nat}
theorem MC(hK:am K)(h:vm K n v6 v10 v14 v15=some r):xQ M w0 r [fy 255] (XK v6 v10 v14 v15):=by
 unfold vm at h;refine az 2 3 1 (aj 3 ?_);obtain⟨v16,h24,h⟩:=bind_some h;refine aD (GA hK h24) (ac (az 2 3 1 (aj 1 ?_)));obtain⟨v17,h25,h⟩:=bind_some h;refine aD (zT hK h25) (ac (aE 3 (kO 2 ?_)));cases h;exact ba
theorem LY(hK:am K)(h:wL K n v6 v18 v22 v23=some r):xQ M w0 r [fy 255] (acD v6 v18 v22 v23):=by
 unfold wL at h;refine az 2 3 1 (aj 3 ?_);obtain⟨v24,h35,h⟩:=bind_some h;refine aD (GA hK h35) (ac (az 2 3 1 (aj 1 ?_)));obtain⟨v25,h36,h⟩:=bind_some h;refine aD (zT hK h36) (ac (aE 3 (kO 2 ?_)));cases h;exact ba
theorem Kp(hK:am K)(h:qZ K n v1 v6 v9=some r):xQ M w0 r [fy 15] (XM v1 v6 v9):=by
 unfold qZ at h;rcases ak h with⟨h14,gh14⟩|⟨h14,gh14⟩
 ·subst h14;have h:=gh14;refine az 2 3 1 (aj 1 ?_);obtain⟨h15,h⟩:=aK h;refine aB (bw au au h15 (cv) ((fun _=>rfl))) (ac ?_);obtain⟨v10,h16,h⟩:=bW h;refine bB (ks':=[fy 62,fy 63]) 1 ⟨[(0,.sl (lm au v1)),(2,.ptr 2 0),(3,.ptr 451132 0),(6,.ptr 6 0)],[(2,List.set (aN cq) 61 (.nils)),(6,aJ v10),(451132,[.ptr 451132 0,.ref 401132])],[(401132,⟨5,1,lm (bi .u8) v6⟩)],[2,6,451132,401132]⟩ ?_ (by subst h16;kernel_rfl);refine aj 0 ?_;obtain⟨h17,h⟩:=aK h;refine G5 451132 401132 (L:=v6) h17 (ac (bH 12 13 7 4 (aj 2 (aB (bq au v1) (aL 4 1 ?_)))));obtain⟨h18,h⟩:=aK h;refine aB (bw au au h18 (cv) ((fun _=>rfl))) (ac ?_);obtain⟨v11,h19,h⟩:=bW h;refine bB (ks':=[fy 509,fy 255]) 0 ⟨[(2,.ptr 2 0),(6,.ptr 6 0),(7,.ptr 7 0),(8,.str (bytesOf v6)),(36,.bool v11)],[(2,List.set (aN cq) 61 (.nils)),(6,aJ v10),(7,List.set (aN ({ cq with Text:=(bytesOf v6) }:ay)) 61 (.nils))],[],[2,6,7]⟩ ?_ (by subst h19;kernel_rfl)
  obtain⟨h20,h⟩|⟨h20,h⟩:=ak h
  ·refine ag 36 h20 (az 4 5 2 (aj 4 ?_));obtain⟨h21,h⟩:=aK h;refine aB (yb h21) (ac ?_);obtain⟨v12,h22,h⟩:=bW h;refine bB (ks':=[fy 2037,fy 255]) 0 ⟨[(2,.ptr 2 0),(6,.ptr 6 0),(7,.ptr 7 0),(8,.str v12)],[(2,List.set (aN cq) 61 (.nils)),(6,aJ v10),(7,List.set (aN ({ cq with Text:=(bytesOf v6) }:ay)) 61 (.nils))],[],[2,6,7]⟩ ?_ (by subst h22;kernel_rfl);refine aj 2 ?_;obtain⟨v13,h23,h⟩:=bind_some h;exact aD (Ew hK h23) (ac (ae 0 (MC hK h)))
  ·exact ag 36 h20 (ae 2 (MC hK h))
 ·subst h14;have h:=gh14;refine az 2 3 1 (aj 1 ?_);obtain⟨h26,h⟩:=aK h;refine aB (bw au au h26 (cv) ((fun _=>rfl))) (ac ?_);obtain⟨v18,h27,h⟩:=bW h;refine bB (ks':=[fy 62,fy 63]) 1 ⟨[(0,.sl (lm au v1)),(2,.ptr 2 0),(3,.ptr 451132 0),(6,.ptr 6 0)],[(2,List.set (aN cq) 61 (.nils)),(6,aJ v18),(451132,[.nilp,.ref 401132])],[(401132,⟨5,1,lm (bi .u8) v6⟩)],[2,6,451132,401132]⟩ ?_ (by subst h27;kernel_rfl);refine aj 0 ?_;obtain⟨h28,h⟩:=aK h;refine G5 451132 401132 (L:=v6) h28 (ac (bH 12 13 7 4 (aj 2 (aB (bq au v1) (aL 4 1 ?_)))));obtain⟨h29,h⟩:=aK h;refine aB (bw au au h29 (cv) ((fun _=>rfl))) (ac ?_);obtain⟨v19,h30,h⟩:=bW h;refine bB (ks':=[fy 509,fy 255]) 0 ⟨[(2,.ptr 2 0),(6,.ptr 6 0),(7,.ptr 7 0),(8,.str (bytesOf v6)),(36,.bool v19)],[(2,List.set (aN cq) 61 (.nils)),(6,aJ v18),(7,List.set (aN ({ cq with Text:=(bytesOf v6) }:ay)) 61 (.nils))],[],[2,6,7]⟩ ?_ (by subst h30;kernel_rfl);obtain⟨h31,h⟩|⟨h31,h⟩:=ak h
  ·refine ag 36 h31 (az 4 5 2 (aj 4 ?_));obtain⟨h32,h⟩:=aK h;refine aB (yb h32) (ac ?_);obtain⟨v20,h33,h⟩:=bW h;refine bB (ks':=[fy 2037,fy 255]) 0 ⟨[(2,.ptr 2 0),(6,.ptr 6 0),(7,.ptr 7 0),(8,.str v20)],[(2,List.set (aN cq) 61 (.nils)),(6,aJ v18),(7,List.set (aN ({ cq with Text:=(bytesOf v6) }:ay)) 61 (.nils))],[],[2,6,7]⟩ ?_ (by subst h33;kernel_rfl);refine aj 2 ?_;obtain⟨v21,h34,h⟩:=bind_some h;exact aD (Ew hK h34) (ac (ae 0 (LY hK h)))
  ·exact ag 36 h31 (ae 2 (LY hK h))
theorem Rc(hK:am K)(hL1:HA M w0 r v1 m1 L1)(h:tw K n v1 L1 v4 v5 v6=some r):xQ M w0 r (fy 116::abx M w0 r m1) (La v1 v4 v5 v6):=by
 unfold tw at h;rcases ak h with⟨h7,gh7⟩|⟨h7,gh7⟩
 ·subst h7;have h:=gh7;refine az 6 7 3 ?_;obtain⟨h8,h⟩|⟨h8,h⟩:=ak h
  ·refine ag 12 h8 (cQ 8 9 1 3 5 (aj 0 ?_));obtain⟨h9,h⟩:=aK h;refine aB (bw au au h9 (cv) ((fun _=>rfl))) (ac (aj 2 ?_));obtain⟨v7,h10,h⟩:=bind_some h;exact gH 401132 9 [(451132,450132)] (Iq hK h10) (ac (ae 2 (bt (hL1 h))))
  ·exact ag 12 h8 (ae 5 (Kp hK h))
 ·subst h7;have h:=gh7;refine az 6 7 3 ?_;obtain⟨h11,h⟩|⟨h11,h⟩:=ak h
  ·refine ag 12 h11 (cQ 8 9 1 3 5 (aj 0 ?_));obtain⟨h12,h⟩:=aK h;refine aB (bw au au h12 (cv) ((fun _=>rfl))) (ac (aj 2 ?_));obtain⟨v8,h13,h⟩:=bind_some h;exact gH 401132 9 [(451132,450132)] (Iq hK h13) (ac (ae 2 (bt (hL1 h))))
  ·exact ag 12 h11 (ae 5 (Kp hK h))
theorem Po(hK:am K)(m:Nat):HA M w0 r v1 m (pg K n v1 m):=by
 induction m with
 | zero=>intro v4 v5 v6 h;cases h
 | succ m ih=>intro v4 v5 v6 h;have h:tw K n v1 (pg K n v1 m) v4 v5 v6=some r:=h;exact bp (Rc hK ih h)
theorem AN(hK:am K)(h:oY K n v1=some r):aO Tryz.prog 54 [.sl (lm au v1)] (fun v _=>v=.agg (aN r)):=by
 refine bg (cat Tryz.f54 (pn 1)) Tryz.func54 Tryz.ntmps54 fun M w0=>(bc ⟨[(0,.sl (lm au v1))],[],[],[]⟩ ?_);unfold oY at h;exact az 6 7 3 (aj 0 (Q2 451132 (T:=132) (d:=3) (cs:=[.nilp,.nils]) (ac (bH 4 5 3 2 (aj 1 (aB (bq au v1) (ac (jF 2 0 1 (bI [0,2,3,9,10,11] [2,451132] [] (xZ 401132 451132 1 5 1 (ae 0 (cf (p:=pn 58) n (Po hK n h)))))))))))))
end
noncomputable section
variable(M:Nat→Prop)(w0:aF)(r:List ay)(v1:List ai)(v2:Fv)(v3:List aw)(v30:Int)(v31:List ay)(v33:Bool)(v39:Int)(v41:Bool)(v43:Int)(v44:ay)(m1 m2:Nat)(L1:Int→(List ay)→Option (List ay))(L2:Int→Option (List ay))
abbrev w2:Cx:=⟨Tryz.prog,120,M,w0⟩
abbrev wy:=bodyPost Tryz.prog Tryz.f22 (bu M w0 (fun v s=>v=.ref 117∧look 117 s.r=some ⟨46,62,lm aN r⟩))
abbrev ur(ks:List aq)(s:AS):=VE (w2 M w0) (wy M w0 r) ks .normal s
abbrev er(n:Nat):aq:=.c (cat Tryz.f22 (pn n))
abbrev FY:List aq:=[.b 0,er 31]
abbrev jE:List aq:=kl (w2 M w0) (wy M w0 r) FY (cat Tryz.f22 (pn 244)) m1::FY
abbrev Cj:List aq:=.b 3::er 4009823 :: .b 2::er 31327 :: .b 1::jE M w0 r m1
abbrev N6:List aq:=kl (w2 M w0) (wy M w0 r) (Cj M w0 r m1) (cat Tryz.f22 (pn 16039288)) m2::(Cj M w0 r m1)
def Ra:AS:=⟨[(1,.fn v2.id v2.bb),(5,.sl (lm au v3)),(6,.ref 117),(8,.ptr 8 0),(9,.bool v33),(10,.ptr 10 0),(11,iI v43)],[(8,au (gD v3 v30)),(10,aN v44)],[(117,⟨46,62,lm aN v31⟩)],[8,10,117]⟩
def WP:AS:=⟨[(1,.fn v2.id v2.bb),(5,.sl (lm au v3)),(6,.ref 117),(7,iI v30),(8,.ptr 8 0),(9,.bool v33),(10,.ptr 10 0),(11,iI v39),(81,.bool v41)],[(8,au (gD v3 v30)),(10,List.set (aN cq) 61 (.nils))],[(117,⟨46,62,lm aN v31⟩)],[8,10,117]⟩
def KY:AS:=⟨[(1,.fn v2.id v2.bb),(5,.sl (lm au v3)),(6,.ref 117),(7,iI v30),(8,.ptr 8 0),(9,.bool v33),(10,.ptr 10 0),(11,iI v39)],[(8,au (gD v3 v30)),(10,List.set (aN cq) 61 (.nils))],[(117,⟨46,62,lm aN v31⟩)],[8,10,117]⟩
def ab3:AS:=⟨[(1,.fn v2.id v2.bb),(5,.sl (lm au v3)),(6,.ref 117),(7,iI v30),(8,.ptr 8 0),(9,.bool v33)],[(8,au (gD v3 v30))],[(117,⟨46,62,lm aN v31⟩)],[8,117]⟩
def Nz:AS:=⟨[(1,.fn v2.id v2.bb),(5,.sl (lm au v3)),(6,.ref 117),(7,iI v30)],[],[(117,⟨46,62,lm aN v31⟩)],[117]⟩
abbrev oV:Prop:=∀{v30:Int} {v31:(List ay)},L1 v30 v31=some r→LP (w2 M w0) (wy M w0 r) FY (cat Tryz.f22 (pn 244)) m1 (Nz v2 v3 v30 v31)
abbrev FC:Prop:=∀{v39:Int},L2 v39=some r→LP (w2 M w0) (wy M w0 r) (Cj M w0 r m1) (cat Tryz.f22 (pn 16039288)) m2 (KY v2 v3 v30 v31 v33 v39)
variable{M w0 r v1 v2 v3 v30 v31 v33 v39 v41 v43 v44 m1 m2 L1 L2}{K:Kn}{n:Nat}
theorem Fm(hK:am K)(hL1:oV M w0 r v2 v3 m1 L1)(h:jZ K n v2 v3 v30 v31 v33 L1 v43 v44=some r):ur M w0 r (.b 2::er 31327 :: .b 1::jE M w0 r m1) (Ra v2 v3 v30 v31 v33 v43 v44):=by
 unfold jZ at h;refine dB 2 3 2 (bI [1,5,6,8,9,10,11] [8,10] [117] (bF 3 (nu 100 [.ptr 8 4,.cptr (aW ((gD v3 v30).Box)),.cptr (aW ((gD v3 v30).Box)),.cptr (List.drop 1 (aW ((gD v3 v30).Box))),iI (((gD v3 v30).Box).Node),.ptr 8 4,.cptr (aW ((gD v3 v30).Box)),.cptr (aW ((gD v3 v30).Box)),.cptr (List.drop 2 (aW ((gD v3 v30).Box))),.agg (aJ (((gD v3 v30).Box).Style)),.bool v33,.ptr 10 0,.ptr 10 2,.ptr 10 59]) [] [] [bR Tryz.prog 120 Tryz.f22 (pn 62654) 12,bR Tryz.prog 120 Tryz.f22 (pn 62654) 14,bR Tryz.prog 120 Tryz.f22 (pn 62654) 16] (av [.v 0 1,.v 0 1,.v 0 1,.v 0 1,.v 0 1,.v 0 2,.v 0 2,.v 0 2,.v 0 2,.v 0 2,.v 0 3,.v 0 1] (ab (bQ 0) (av [.v 1 1] (ab (bQ 1) (av [.v 2 1] (ab (bQ 2) bG)))))) ?_));obtain⟨v45,h94,h⟩:=bW h;obtain⟨v46,h95,h⟩:=bW h;refine bB (ks':=er 125310::er 125311 :: .b 1::jE M w0 r m1) 1 ⟨[(1,.fn v2.id v2.bb),(5,.sl (lm au v3)),(6,.ref 117),(10,.ptr 10 0),(11,iI v43)],[(10,aN ({ v44 with Node:=v45,Style:=v46,Glued:=v33 }:ay))],[(117,⟨46,62,lm aN v31⟩)],[10,117]⟩ ?_ (by subst h95;subst h94;kernel_rfl)
 refine aj 3 ?_;obtain⟨h96,h⟩:=aK h;exact aB (cD 117 117 46 62 aN (rfl) (gi) h96) (ac (ae 2 (bt (hL1 h))))
theorem zz(hK:am K)(hL1:oV M w0 r v2 v3 m1 L1)(hL2:FC M w0 r v2 v3 v30 v31 v33 m1 m2 L2)(h:jY K n v2 v3 v30 v31 v33 v39 L1 L2 v41=some r):ur M w0 r (er 64157153::er 32078577::N6 M w0 r m1 m2) (WP v2 v3 v30 v31 v33 v39 v41):=by
 unfold jY at h;obtain⟨h91,h⟩|⟨h91,h⟩:=ak h
 ·exact ag 81 h91 (ae 5 (bt (hL2 h)))
 ·refine ag 81 h91 (co (ks':=er 4009823 :: .b 2::er 31327 :: .b 1::jE M w0 r m1) 5 (aj 3 ?_));obtain⟨h92,h⟩:=aK h;refine aB (oM au v3 v30 v39 97 (.tmp 84) (some (.tmp 85)) (some (.tmp 86)) 87 (e:=101) (sz:=5) (by kernel_rfl) (by kernel_rfl) (by kernel_rfl) (by kernel_rfl) (by kernel_rfl) (by kernel_rfl) (cv) (fun k hk=>by subst hk;kernel_rfl) h92) ?_;obtain⟨v42,h93,h⟩:=bind_some h;exact aD (AN hK h93) (ac (ae 0 (Fm hK hL1 h)))
theorem acI(hK:am K)(hL1:oV M w0 r v2 v3 m1 L1)(hL2:FC M w0 r v2 v3 v30 v31 v33 m1 m2 L2)(h:qK K n v2 v3 v30 v31 v33 L1 L2 v39=some r):ur M w0 r (er 16039288::N6 M w0 r m1 m2) (KY v2 v3 v30 v31 v33 v39):=by
 unfold qK at h;refine bH 4 5 3 2 (bI [1,5,6,7,8,9,10,11] [8,10] [117] ?_);obtain⟨h83,h⟩|⟨h83,h⟩:=ak h
 ·obtain⟨h84,h⟩:=aK h;obtain⟨h85,h⟩|⟨h85,h⟩:=ak h
  ·obtain⟨h86,h⟩:=aK h;obtain⟨h87,h⟩|⟨h87,h⟩:=ak h
   ·obtain⟨h88,h⟩:=aK h;obtain⟨h89,h⟩:=aK h;obtain⟨v40,h90,h⟩:=bind_some h;exact bF 0 (nu 47 [iI v39,.sl (lm au v3),iI (v3.length:Int),.bool (decide (v39<(v3.length:Int))),.bool true,.sl (lm au v3),iI v39,.cptr (au (gD v3 v39)),.cptr (List.drop 0 (au (gD v3 v39))),iI ((gD v3 v39).Kind),.bool (((gD v3 v39).Kind) == 1),.bool (((gD v3 v39).Kind) == 1),.bool true,.sl (lm au v3),iI v39,.cptr (au (gD v3 v39)),.cptr (List.drop 1 (au (gD v3 v39))),iI ((gD v3 v39).Of),.ptr 8 1,iI ((gD v3 v30).Of),.bool (((gD v3 v39).Of) == ((gD v3 v30).Of)),.bool (((gD v3 v39).Of) == ((gD v3 v30).Of)),.bool true,.sl (lm au v3),iI v39,iI (aa (v39-1)),.cptr (au (gD v3 ((aa (v39-1))))),.agg (au (gD v3 ((aa (v39-1))))),.sl (lm au v3),iI v39,.cptr (au (gD v3 v39)),.agg (au (gD v3 v39)),.bool v40,.bool (!v40),.bool (!v40)]) [] [] [] (av (vz 2) (bv (bq au v3) (av [.v 0 1] (ab (bC 0 51 (e:=(decide (v39<(v3.length:Int)))) (b:=true) h83) (av (vz 2) (bv (bw au au h84 (cv) ((fun _=>rfl))) (av (vz 4) (ab (bC 0 59 (e:=(((gD v3 v39).Kind) == 1)) (b:=true) h85) (av (vz 2) (bv (bw au au h86 (cv) ((fun _=>rfl))) (av (vz 6) (ab (bC 0 69 (e:=(((gD v3 v39).Of) == ((gD v3 v30).Of))) (b:=true) h87) (av (vz 3) (bv (bw au au h88 (cv) ((fun _=>rfl))) (av (vz 3) (bv (bw au au h89 (cv) ((fun _=>rfl))) (av [.v 0 1] (ab (cb 0 1 79 (rb hK h90)) (av (vz 2) bG))))))))))))))))))) (ae 0 (zz hK hL1 hL2 h))
   ·exact bF 0 (nu 47 [iI v39,.sl (lm au v3),iI (v3.length:Int),.bool (decide (v39<(v3.length:Int))),.bool true,.sl (lm au v3),iI v39,.cptr (au (gD v3 v39)),.cptr (List.drop 0 (au (gD v3 v39))),iI ((gD v3 v39).Kind),.bool (((gD v3 v39).Kind) == 1),.bool (((gD v3 v39).Kind) == 1),.bool true,.sl (lm au v3),iI v39,.cptr (au (gD v3 v39)),.cptr (List.drop 1 (au (gD v3 v39))),iI ((gD v3 v39).Of),.ptr 8 1,iI ((gD v3 v30).Of),.bool (((gD v3 v39).Of) == ((gD v3 v30).Of)),.bool (((gD v3 v39).Of) == ((gD v3 v30).Of)),.bool false,.tup [],.tup [],.tup [],.tup [],.tup [],.tup [],.tup [],.tup [],.tup [],.tup [],.tup [],.bool false]) [] [] [] (av (vz 2) (bv (bq au v3) (av [.v 0 1] (ab (bC 0 51 (e:=(decide (v39<(v3.length:Int)))) (b:=true) h83) (av (vz 2) (bv (bw au au h84 (cv) ((fun _=>rfl))) (av (vz 4) (ab (bC 0 59 (e:=(((gD v3 v39).Kind) == 1)) (b:=true) h85) (av (vz 2) (bv (bw au au h86 (cv) ((fun _=>rfl))) (av (vz 6) (ab (bC 0 69 (e:=(((gD v3 v39).Of) == ((gD v3 v30).Of))) (b:=false) h87) (ab (ao 0 1) (ab (ao 0 1) (ab (ao 0 1) (ab (ao 0 1) (ab (ao 0 1) (ab (ao 0 1) (ab (ao 0 1) (ab (ao 0 1) (ab (ao 0 1) (ab (ao 0 1) (ab (ao 0 1) (av [.v 0 1] bG)))))))))))))))))))))))) (ae 0 (zz hK hL1 hL2 h))
  ·exact bF 0 (nu 47 [iI v39,.sl (lm au v3),iI (v3.length:Int),.bool (decide (v39<(v3.length:Int))),.bool true,.sl (lm au v3),iI v39,.cptr (au (gD v3 v39)),.cptr (List.drop 0 (au (gD v3 v39))),iI ((gD v3 v39).Kind),.bool (((gD v3 v39).Kind) == 1),.bool (((gD v3 v39).Kind) == 1),.bool false,.tup [],.tup [],.tup [],.tup [],.tup [],.tup [],.tup [],.tup [],.bool false,.bool false,.tup [],.tup [],.tup [],.tup [],.tup [],.tup [],.tup [],.tup [],.tup [],.tup [],.tup [],.bool false]) [] [] [] (av (vz 2) (bv (bq au v3) (av [.v 0 1] (ab (bC 0 51 (e:=(decide (v39<(v3.length:Int)))) (b:=true) h83) (av (vz 2) (bv (bw au au h84 (cv) ((fun _=>rfl))) (av (vz 4) (ab (bC 0 59 (e:=(((gD v3 v39).Kind) == 1)) (b:=false) h85) (ab (ao 0 1) (ab (ao 0 1) (ab (ao 0 1) (ab (ao 0 1) (ab (ao 0 1) (ab (ao 0 1) (ab (ao 0 1) (ab (ao 0 1) (av (vz 2) (ab (ao 0 1) (ab (ao 0 1) (ab (ao 0 1) (ab (ao 0 1) (ab (ao 0 1) (ab (ao 0 1) (ab (ao 0 1) (ab (ao 0 1) (ab (ao 0 1) (ab (ao 0 1) (ab (ao 0 1) (av [.v 0 1] bG))))))))))))))))))))))))))))) (ae 0 (zz hK hL1 hL2 h))
 ·exact bF 0 (nu 47 [iI v39,.sl (lm au v3),iI (v3.length:Int),.bool (decide (v39<(v3.length:Int))),.bool false,.tup [],.tup [],.tup [],.tup [],.tup [],.tup [],.bool false,.bool false,.tup [],.tup [],.tup [],.tup [],.tup [],.tup [],.tup [],.tup [],.bool false,.bool false,.tup [],.tup [],.tup [],.tup [],.tup [],.tup [],.tup [],.tup [],.tup [],.tup [],.tup [],.bool false]) [] [] [] (av (vz 2) (bv (bq au v3) (av [.v 0 1] (ab (bC 0 51 (e:=(decide (v39<(v3.length:Int)))) (b:=false) h83) (ab (ao 0 1) (ab (ao 0 1) (ab (ao 0 1) (ab (ao 0 1) (ab (ao 0 1) (ab (ao 0 1) (av (vz 2) (ab (ao 0 1) (ab (ao 0 1) (ab (ao 0 1) (ab (ao 0 1) (ab (ao 0 1) (ab (ao 0 1) (ab (ao 0 1) (ab (ao 0 1) (av (vz 2) (ab (ao 0 1) (ab (ao 0 1) (ab (ao 0 1) (ab (ao 0 1) (ab (ao 0 1) (ab (ao 0 1) (ab (ao 0 1) (ab (ao 0 1) (ab (ao 0 1) (ab (ao 0 1) (ab (ao 0 1) (av [.v 0 1] bG)))))))))))))))))))))))))))))))) (ae 0 (zz hK hL1 hL2 h))
theorem abC(hK:am K)(hL1:oV M w0 r v2 v3 m1 L1)(m:Nat):FC M w0 r v2 v3 v30 v31 v33 m1 m (pE K n v2 v3 v30 v31 v33 L1 m):=by
 induction m with
 | zero=>intro v39 h;cases h
 | succ m ih=>intro v39 h;have h:qK K n v2 v3 v30 v31 v33 L1 (pE K n v2 v3 v30 v31 v33 L1 m) v39=some r:=h;exact bp (acI hK hL1 ih h)
theorem BD(hK:am K)(hL1:oV M w0 r v2 v3 m1 L1)(h:pD K n v2 v3 v30 v31 L1 v33=some r):ur M w0 r (er 3915 :: .b 1::jE M w0 r m1) (ab3 v2 v3 v30 v31 v33):=by
 unfold pD at h;obtain⟨v34,h69,h⟩:=bW h;refine bB (ks':=er 250613 :: .b 2::er 31327 :: .b 1::jE M w0 r m1) 10 ⟨[(1,.fn v2.id v2.bb),(5,.sl (lm au v3)),(6,.ref 117),(7,iI v30),(8,.ptr 8 0),(9,.bool v33),(10,.ptr 10 0),(11,iI (aa (v30+1))),(46,iI ((gD v3 v30).Kind)),(89,.bool v34)],[(8,au (gD v3 v30)),(10,List.set (aN cq) 61 (.nils))],[(117,⟨46,62,lm aN v31⟩)],[8,10,117]⟩ ?_ (by subst h69;kernel_rfl);obtain⟨h70,h⟩|⟨h70,h⟩:=ak h
 ·exact ag 89 h70 (co (ks':=.b 2::er 31327 :: .b 1::jE M w0 r m1) 2 (kO 10 (ae 0 (Fm hK hL1 h))))
 ·refine ag 89 h70 ?_;obtain⟨v35,h71,h⟩:=bW h;refine bB (ks':=er 1002455 :: .b 2::er 31327 :: .b 1::jE M w0 r m1) 3 ⟨[(1,.fn v2.id v2.bb),(5,.sl (lm au v3)),(6,.ref 117),(7,iI v30),(8,.ptr 8 0),(9,.bool v33),(10,.ptr 10 0),(11,iI (aa (v30+1))),(92,.bool v35)],[(8,au (gD v3 v30)),(10,List.set (aN cq) 61 (.nils))],[(117,⟨46,62,lm aN v31⟩)],[8,10,117]⟩ ?_ (by subst h71;kernel_rfl);obtain⟨h72,h⟩|⟨h72,h⟩:=ak h
  ·refine ag 92 h72 (bh 2 1 (aj 5 ?_));obtain⟨v36,h73,h⟩:=bind_some h;exact ox (hK.rP h73) (ac (ae 0 (Fm hK hL1 h)))
  ·exact ag 92 h72 (ae 3 (cf (p:=pn 8019644) n (abC hK hL1 n h)))
theorem ab6(hK:am K)(hL1:oV M w0 r v2 v3 m1 L1)(h:s6 K n v2 v3 L1 v30 v31=some r):ur M w0 r (er 244::jE M w0 r m1) (Nz v2 v3 v30 v31):=by
 unfold s6 at h;refine bH 4 5 3 2 (aj 2 (aB (bq au v3) (ac ?_)));obtain⟨h62,h⟩|⟨h62,h⟩:=ak h
 ·refine ag 17 h62 (co (ks':=er 1956::er 1957 :: .b 1::jE M w0 r m1) 4 (aj 2 ?_));obtain⟨h63,h⟩:=aK h;refine aB (bw au au h63 (cv) ((fun _=>rfl))) (ac (az 2 3 1 (bI [1,5,6,7,8] [8] [117] ?_)));obtain⟨h64,h⟩|⟨h64,h⟩:=ak h
  ·obtain⟨h65,h⟩:=aK h;obtain⟨h66,h⟩|⟨h66,h⟩:=ak h
   ·obtain⟨h67,h⟩:=aK h;obtain⟨v32,h68,h⟩:=bind_some h;exact bF 1 (nu 22 [iI v30,.bool (decide (v30>0)),.bool true,.sl (lm au v3),iI v30,iI (aa (v30-1)),.cptr (au (gD v3 ((aa (v30-1))))),.cptr (List.drop 0 (au (gD v3 ((aa (v30-1)))))),iI ((gD v3 ((aa (v30-1)))).Kind),.bool (((gD v3 ((aa (v30-1)))).Kind) != 2),.bool (((gD v3 ((aa (v30-1)))).Kind) != 2),.bool true,.sl (lm au v3),iI v30,iI (aa (v30-1)),.cptr (au (gD v3 ((aa (v30-1))))),.agg (au (gD v3 ((aa (v30-1))))),.agg (au (gD v3 v30)),.bool v32,.bool (!v32),.bool (!v32)]) [] [] [bR Tryz.prog 120 Tryz.f22 (pn 3914) 21] (av (vz 2) (ab (bC 0 24 (e:=(decide (v30>0))) (b:=true) h64) (av (vz 3) (bv (bw au au h65 (cv) ((fun _=>rfl))) (av (vz 4) (ab (bC 0 33 (e:=(((gD v3 ((aa (v30-1)))).Kind) != 2)) (b:=true) h66) (av (vz 3) (bv (bw au au h67 (cv) ((fun _=>rfl))) (av (vz 2) (ab (cb 0 1 40 (rb hK h68)) (av (vz 2) (ab (bQ 0) bG)))))))))))) (ae 0 (BD hK hL1 h))
   ·exact bF 1 (nu 22 [iI v30,.bool (decide (v30>0)),.bool true,.sl (lm au v3),iI v30,iI (aa (v30-1)),.cptr (au (gD v3 ((aa (v30-1))))),.cptr (List.drop 0 (au (gD v3 ((aa (v30-1)))))),iI ((gD v3 ((aa (v30-1)))).Kind),.bool (((gD v3 ((aa (v30-1)))).Kind) != 2),.bool (((gD v3 ((aa (v30-1)))).Kind) != 2),.bool false,.tup [],.tup [],.tup [],.tup [],.tup [],.tup [],.tup [],.tup [],.bool false]) [] [] [bR Tryz.prog 120 Tryz.f22 (pn 3914) 21] (av (vz 2) (ab (bC 0 24 (e:=(decide (v30>0))) (b:=true) h64) (av (vz 3) (bv (bw au au h65 (cv) ((fun _=>rfl))) (av (vz 4) (ab (bC 0 33 (e:=(((gD v3 ((aa (v30-1)))).Kind) != 2)) (b:=false) h66) (ab (ao 0 1) (ab (ao 0 1) (ab (ao 0 1) (ab (ao 0 1) (ab (ao 0 1) (ab (ao 0 1) (ab (ao 0 1) (ab (ao 0 1) (av [.v 0 1] (ab (bQ 0) bG)))))))))))))))) (ae 0 (BD hK hL1 h))
  ·exact bF 1 (nu 22 [iI v30,.bool (decide (v30>0)),.bool false,.tup [],.tup [],.tup [],.tup [],.tup [],.tup [],.tup [],.bool false,.bool false,.tup [],.tup [],.tup [],.tup [],.tup [],.tup [],.tup [],.tup [],.bool false]) [] [] [bR Tryz.prog 120 Tryz.f22 (pn 3914) 21] (av (vz 2) (ab (bC 0 24 (e:=(decide (v30>0))) (b:=false) h64) (ab (ao 0 1) (ab (ao 0 1) (ab (ao 0 1) (ab (ao 0 1) (ab (ao 0 1) (ab (ao 0 1) (ab (ao 0 1) (av (vz 2) (ab (ao 0 1) (ab (ao 0 1) (ab (ao 0 1) (ab (ao 0 1) (ab (ao 0 1) (ab (ao 0 1) (ab (ao 0 1) (ab (ao 0 1) (av [.v 0 1] (ab (bQ 0) bG)))))))))))))))))))) (ae 0 (BD hK hL1 h))
 ·refine ag 17 h62 (aE 8 ?_);cases h;exact fa
theorem ZZ(hK:am K)(m:Nat):oV M w0 r v2 v3 m (ph K n v2 v3 m):=by
 induction m with
 | zero=>intro v30 v31 h;cases h
 | succ m ih=>intro v30 v31 h;have h:s6 K n v2 v3 (ph K n v2 v3 m) v30 v31=some r:=h;exact bp (ab6 hK ih h)
theorem YE(hK:am K)(h:tB K n v1 v2=some r):aO Tryz.prog 22 [.sl (lm aQ v1),.fn v2.id v2.bb] (fun v s=>v=.ref 117∧look 117 s.r=some ⟨46,62,lm aN r⟩):=by
 refine bg (cat Tryz.f22 (pn 1)) Tryz.func22 Tryz.ntmps22 fun M w0=>(bc ⟨[(0,.sl (lm aQ v1)),(1,.fn v2.id v2.bb)],[],[],[]⟩ ?_);unfold tB at h;refine az 6 7 3 (aj 1 ?_);obtain⟨v3,h1,h⟩:=bind_some h;exact dx 1013 (A8 hK h1) (fx 400003) (ac (fr 26 0 7 6 (bI [1,5,6,7] [] [1013] (kB 1013 (fh 117 6 46 62 (ae 0 (cf (p:=pn 122) n (ZZ hK n h))))))))
end
noncomputable section
variable(M:Nat→Prop)(w0:aF)(r v1:Int)  
variable{M w0 r v1}{K:Kn}{n:Nat}
theorem iE(hK:am K)(h:fL K n v1=some r):aO Tryz.prog 56 [iI v1] (fun v _=>v=iI r):=by
 refine bg (cat Tryz.f56 (pn 1)) Tryz.func56 Tryz.ntmps56 fun M w0=>(bc ⟨[(0,iI v1)],[],[],[]⟩ ?_);unfold fL at h;refine aE 5 ?_;cases h;exact ba
end
noncomputable section
variable(M:Nat→Prop)(w0:aF)(r:Int×Bool)(v1:cr)(v2 v4:Int)  
abbrev Sx(n:Nat):aq:=.c (cat Tryz.f55 (pn n))
abbrev Vl:Cx:=⟨Tryz.prog,25,M,w0⟩
abbrev q55:=bodyPost Tryz.prog Tryz.f55 (bu M w0 (fun v _=>v=.tup [iI r.1,.bool r.2]))
abbrev UQ(ks:List aq)(s:AS):=VE (Vl M w0) (q55 M w0 r) ks .normal s
def abh:AS:=⟨[(6,iI v4)],[],[],[]⟩
variable{M w0 r v1 v2 v4}{K:Kn}{n:Nat}
theorem Lj(hK:am K)(h:tF K n v4=some r):UQ M w0 r [.b 0,Sx 15] (abh v4):=by
 unfold tF at h;refine aE 4 ?_;cases h;exact dS
theorem eU(hK:am K)(h:dX K n v1 v2=some r):aO Tryz.prog 55 [.agg (gS v1),iI v2] (fun v _=>v=.tup [iI r.1,.bool r.2]):=by
 refine bg (cat Tryz.f55 (pn 1)) Tryz.func55 Tryz.ntmps55 fun M w0=>(bc ⟨[(0,.agg (gS v1)),(1,iI v2)],[],[],[]⟩ ?_);unfold dX at h;refine fr 117 0 15 10 ?_;obtain⟨h1,h⟩|⟨h1,h⟩:=ak h
 ·exact ag 11 h1 (ae 2 (Lj hK h))
 ·refine ag 11 h1 (bh 7 3 ?_);obtain⟨h2,h⟩|⟨h2,h⟩:=ak h
  ·refine ag 13 h2 (bh 2 1 (aj 1 ?_));obtain⟨v3,h3,h⟩:=bind_some h;exact aD (iE hK h3) (ac (ae 0 (Lj hK h)))
  ·refine ag 13 h2 (aE 6 ?_);cases h;exact dS
end
noncomputable section
variable(M:Nat→Prop)(w0:aF)(r:aV)(v1:aI)(v2 v3:Int)  
abbrev pU(n:Nat):aq:=.c (cat Tryz.f24 (pn n))
abbrev WO:Cx:=⟨Tryz.prog,52,M,w0⟩
abbrev X7:=bodyPost Tryz.prog Tryz.f24 (bu M w0 (fun v _=>v=.agg (bm r)))
abbrev vL(m:Nat):List aq:=kl (WO M w0) (X7 M w0 r) [.b 0,pU 15] (cat Tryz.f24 (pn 116)) m::[.b 0,pU 15]
variable{M w0 r v1 v2 v3}{K:Kn}{n:Nat}
theorem wu(hK:am K)(h:lN K n v1 v2 v3=some r):aO Tryz.prog 24 [.agg (aJ v1),iI v2,iI v3] (fun v _=>v=.agg (bm r)):=by
 refine bg (cat Tryz.f24 (pn 1)) Tryz.func24 Tryz.ntmps24 fun M w0=>(bc ⟨[(0,.agg (aJ v1)),(1,iI v2),(2,iI v3)],[],[],[]⟩ ?_);unfold lN at h;refine bB (ks':=[pU 58,.b 0,pU 15]) 8 ⟨[(1,iI v2),(3,.ptr 3 0),(6,.ptr 6 0),(7,.ptr 7 0),(13,iI 0)],[(3,aJ v1),(6,bm dM),(7,bm ({ dM with Content:=v3 }:aV))],[],[3,6,7]⟩ (n6 40 (c:=cat Tryz.f24 [1,1,0,1,0,0]) (by kernel_rfl) (bp (co (ks':=pU 7474::pU 7475 :: .b 1::pU 935::vL M w0 r 39) 10 (aj 6 ?_))));obtain⟨v4,h1,h⟩:=bind_some h;refine aD (eU hK h1) (ac (az 2 3 1 (aj 5 ?_)));obtain⟨v5,h2,h⟩:=bind_some h;refine aD (iE hK h2) (ac (az 2 3 1 (aj 5 ?_)));obtain⟨v6,h3,h⟩:=bind_some h;refine aD (eU hK h3) (ac (bB (ks':=vL M w0 r 39) 3 ⟨[(1,iI v2),(3,.ptr 3 0),(6,.ptr 6 0),(7,.ptr 7 0),(13,iI 1)],[(3,aJ v1),(6,bm dM),(7,bm (⟨⟨v4.1,0,0,0⟩,⟨v5,0,0,0⟩,⟨(max v6.1 0),0,0,0⟩,v3⟩:aV))],[],[3,6,7]⟩ (bt (bp (dk 114 115 1 15 10 (aj 6 ?_))))));obtain⟨v7,h4,h⟩:=bind_some h
 refine aD (eU hK h4) (ac (az 2 3 1 (aj 5 ?_)));obtain⟨v8,h5,h⟩:=bind_some h;refine aD (iE hK h5) (ac (az 2 3 1 (aj 5 ?_)));obtain⟨v9,h6,h⟩:=bind_some h;refine aD (eU hK h6) (ac (bB (ks':=vL M w0 r 38) 3 ⟨[(1,iI v2),(3,.ptr 3 0),(6,.ptr 6 0),(7,.ptr 7 0),(13,iI 2)],[(3,aJ v1),(6,bm dM),(7,bm (⟨⟨v4.1,v7.1,0,0⟩,⟨v5,v8,0,0⟩,⟨(max v6.1 0),(max v9.1 0),0,0⟩,v3⟩:aV))],[],[3,6,7]⟩ (bt (bp (dk 114 115 1 15 10 (aj 6 ?_))))));obtain⟨v10,h7,h⟩:=bind_some h;refine aD (eU hK h7) (ac (az 2 3 1 (aj 5 ?_)));obtain⟨v11,h8,h⟩:=bind_some h;refine aD (iE hK h8) (ac (az 2 3 1 (aj 5 ?_)));obtain⟨v12,h9,h⟩:=bind_some h;refine aD (eU hK h9) (ac (bB (ks':=vL M w0 r 37) 3 ⟨[(1,iI v2),(3,.ptr 3 0),(6,.ptr 6 0),(7,.ptr 7 0),(13,iI 3)],[(3,aJ v1),(6,bm dM),(7,bm (⟨⟨v4.1,v7.1,v10.1,0⟩,⟨v5,v8,v11,0⟩,⟨(max v6.1 0),(max v9.1 0),(max v12.1 0),0⟩,v3⟩:aV))],[],[3,6,7]⟩ (bt (bp (dk 114 115 1 15 10 (aj 6 ?_))))));obtain⟨v13,h10,h⟩:=bind_some h
 refine aD (eU hK h10) (ac (az 2 3 1 (aj 5 ?_)));obtain⟨v14,h11,h⟩:=bind_some h;refine aD (iE hK h11) (ac (az 2 3 1 (aj 5 ?_)));obtain⟨v15,h12,h⟩:=bind_some h;refine aD (eU hK h12) (ac (bB (ks':=vL M w0 r 36) 3 ⟨[(1,iI v2),(3,.ptr 3 0),(6,.ptr 6 0),(7,.ptr 7 0),(13,iI 4)],[(3,aJ v1),(6,bm dM),(7,bm (⟨⟨v4.1,v7.1,v10.1,v13.1⟩,⟨v5,v8,v11,v14⟩,⟨(max v6.1 0),(max v9.1 0),(max v12.1 0),(max v15.1 0)⟩,v3⟩:aV))],[],[3,6,7]⟩ (bt (bp (aE 11 ?_)))));cases h;exact ba
end
noncomputable section
variable(M:Nat→Prop)(w0:aF)(r:Int)(v1:aV)  
variable{M w0 r v1}{K:Kn}{n:Nat}
theorem s7(hK:am K)(h:kL K n v1=some r):aO Tryz.prog 28 [.agg (bm v1)] (fun v _=>v=iI r):=by
 refine bg (cat Tryz.f28 (pn 1)) Tryz.func28 Tryz.ntmps28 fun M w0=>(bc ⟨[(0,.agg (bm v1))],[],[],[]⟩ ?_);unfold kL at h;refine aE 5 ?_;cases h;exact ba
end
noncomputable section
variable(M:Nat→Prop)(w0:aF)(r v1:aI)(v2:Nat)(v3 v4 v5 v6 v7 v8 v9 v10 v11 v12 v13:aI)  
abbrev dE(n:Nat):aq:=.c (cat Tryz.f95 (pn n))
abbrev D7:Cx:=⟨Tryz.prog,40,M,w0⟩
abbrev Fi:=bodyPost Tryz.prog Tryz.f95 (bu M w0 (fun v _=>v=.agg (aJ r)))
abbrev iL(ks:List aq)(s:AS):=VE (D7 M w0) (Fi M w0 r) ks .normal s
def RF:AS:=⟨[(1,.pp 1 v2 0),(2,.ptr 2 0),(24,.ref 10),(25,iI 11),(26,iI 10)],[(1,aJ v13),(2,aJ cz)],[(10,⟨154,1,lm bD [(v2,6),(v2,10),(v2,12),(v2,14),(v2,22),(v2,16),(v2,24),(v2,18),(v2,26),(v2,20),(v2,28)]⟩)],[1,2,10]⟩
def TQ:AS:=⟨[(1,.pp 1 v2 0),(2,.ptr 2 0),(24,.ref 10),(25,iI 11),(26,iI 9)],[(1,aJ v12),(2,aJ cz)],[(10,⟨154,1,lm bD [(v2,6),(v2,10),(v2,12),(v2,14),(v2,22),(v2,16),(v2,24),(v2,18),(v2,26),(v2,20),(v2,28)]⟩)],[1,2,10]⟩
def TI:AS:=⟨[(1,.pp 1 v2 0),(2,.ptr 2 0),(24,.ref 10),(25,iI 11),(26,iI 8)],[(1,aJ v11),(2,aJ cz)],[(10,⟨154,1,lm bD [(v2,6),(v2,10),(v2,12),(v2,14),(v2,22),(v2,16),(v2,24),(v2,18),(v2,26),(v2,20),(v2,28)]⟩)],[1,2,10]⟩
def Zt:AS:=⟨[(1,.pp 1 v2 0),(2,.ptr 2 0),(24,.ref 10),(25,iI 11),(26,iI 7)],[(1,aJ v10),(2,aJ cz)],[(10,⟨154,1,lm bD [(v2,6),(v2,10),(v2,12),(v2,14),(v2,22),(v2,16),(v2,24),(v2,18),(v2,26),(v2,20),(v2,28)]⟩)],[1,2,10]⟩
def Vk:AS:=⟨[(1,.pp 1 v2 0),(2,.ptr 2 0),(24,.ref 10),(25,iI 11),(26,iI 6)],[(1,aJ v9),(2,aJ cz)],[(10,⟨154,1,lm bD [(v2,6),(v2,10),(v2,12),(v2,14),(v2,22),(v2,16),(v2,24),(v2,18),(v2,26),(v2,20),(v2,28)]⟩)],[1,2,10]⟩
def WW:AS:=⟨[(1,.pp 1 v2 0),(2,.ptr 2 0),(24,.ref 10),(25,iI 11),(26,iI 5)],[(1,aJ v8),(2,aJ cz)],[(10,⟨154,1,lm bD [(v2,6),(v2,10),(v2,12),(v2,14),(v2,22),(v2,16),(v2,24),(v2,18),(v2,26),(v2,20),(v2,28)]⟩)],[1,2,10]⟩
def Ps:AS:=⟨[(1,.pp 1 v2 0),(2,.ptr 2 0),(24,.ref 10),(25,iI 11),(26,iI 4)],[(1,aJ v7),(2,aJ cz)],[(10,⟨154,1,lm bD [(v2,6),(v2,10),(v2,12),(v2,14),(v2,22),(v2,16),(v2,24),(v2,18),(v2,26),(v2,20),(v2,28)]⟩)],[1,2,10]⟩
def VB:AS:=⟨[(1,.pp 1 v2 0),(2,.ptr 2 0),(24,.ref 10),(25,iI 11),(26,iI 3)],[(1,aJ v6),(2,aJ cz)],[(10,⟨154,1,lm bD [(v2,6),(v2,10),(v2,12),(v2,14),(v2,22),(v2,16),(v2,24),(v2,18),(v2,26),(v2,20),(v2,28)]⟩)],[1,2,10]⟩
def QO:AS:=⟨[(1,.pp 1 v2 0),(2,.ptr 2 0),(24,.ref 10),(25,iI 11),(26,iI 2)],[(1,aJ v5),(2,aJ cz)],[(10,⟨154,1,lm bD [(v2,6),(v2,10),(v2,12),(v2,14),(v2,22),(v2,16),(v2,24),(v2,18),(v2,26),(v2,20),(v2,28)]⟩)],[1,2,10]⟩
def QR:AS:=⟨[(1,.pp 1 v2 0),(2,.ptr 2 0),(24,.ref 10),(25,iI 11),(26,iI 1)],[(1,aJ v4),(2,aJ cz)],[(10,⟨154,1,lm bD [(v2,6),(v2,10),(v2,12),(v2,14),(v2,22),(v2,16),(v2,24),(v2,18),(v2,26),(v2,20),(v2,28)]⟩)],[1,2,10]⟩
def WZ:AS:=⟨[(1,.pp 1 v2 0),(2,.ptr 2 0),(24,.ref 10),(25,iI 11),(26,iI 0)],[(1,aJ v3),(2,aJ cz)],[(10,⟨154,1,lm bD [(v2,6),(v2,10),(v2,12),(v2,14),(v2,22),(v2,16),(v2,24),(v2,18),(v2,26),(v2,20),(v2,28)]⟩)],[1,2,10]⟩
abbrev dJ(m:Nat):List aq:=kl (D7 M w0) (Fi M w0 r) [.b 2,dE 31] (cat Tryz.f95 (pn 244)) m::[.b 2,dE 31]
abbrev wn(m:Nat):List aq:=kl (D7 M w0) (Fi M w0 r) [.b 0,dE 15] (cat Tryz.f95 (pn 116)) m::[.b 0,dE 15]
variable{M w0 r v1 v2 v3 v4 v5 v6 v7 v8 v9 v10 v11 v12 v13}{K:Kn}{n:Nat}
theorem Hd(hK:am K)(h:s5 K n v13=some r):iL M w0 r (.b 3::dE 1959::dJ M w0 r 29) (RF v2 v13):=by
 unfold s5 at h;refine bB (ks':=dJ M w0 r 29) 2 ⟨[(1,.pp 1 v2 0),(2,.ptr 2 0),(24,.ref 10),(25,iI 11),(26,iI 11)],[(1,aJ v13),(2,aJ cz)],[(10,⟨154,1,lm bD [(v2,6),(v2,10),(v2,12),(v2,14),(v2,22),(v2,16),(v2,24),(v2,18),(v2,26),(v2,20),(v2,28)]⟩)],[1,2,10]⟩ (bt (bp (aE 11 ?_)));cases h;exact ba
theorem Ml(hK:am K)(h:qi K n v12=some r):iL M w0 r (.b 3::dE 1959::dJ M w0 r 30) (TQ v2 v12):=by
 unfold qi at h;refine bB (ks':=dJ M w0 r 30) 2 ⟨[(1,.pp 1 v2 0),(2,.ptr 2 0),(24,.ref 10),(25,iI 11),(26,iI 10)],[(1,aJ v12),(2,aJ cz)],[(10,⟨154,1,lm bD [(v2,6),(v2,10),(v2,12),(v2,14),(v2,22),(v2,16),(v2,24),(v2,18),(v2,26),(v2,20),(v2,28)]⟩)],[1,2,10]⟩ (bt (bp (dk 56 57 3 15 8 (aj 0 (aB (cS 10 1 bD (L:=([(v2,6),(v2,10),(v2,12),(v2,14),(v2,22),(v2,16),(v2,24),(v2,18),(v2,26),(v2,20),(v2,28)]:List (Nat×Nat))) (i:=(10:Int)) (by kernel_rfl)) (aB (cp 154 0 bD bD (L:=([(v2,6),(v2,10),(v2,12),(v2,14),(v2,22),(v2,16),(v2,24),(v2,18),(v2,26),(v2,20),(v2,28)]:List (Nat×Nat))) (j:=(10:Int).toNat) (of_decide_eq_true (by kernel_rfl)) ((fun _=>rfl))) (ac (az 2 3 1 (aj 3 (dT 32 1 1 v2 28 0 (ac ?_)))))))))));obtain⟨h11,h⟩|⟨h11,h⟩:=ak h
 ·exact ag 34 h11 (bh 2 1 (aj 3 (dT 37 1 1 v2 28 0 (ac (ae 0 (Hd hK (v2:=v2) h))))))
 ·exact ag 34 h11 (ae 2 (Hd hK (v2:=v2) h))
theorem KC(hK:am K)(h:pM K n v11=some r):iL M w0 r (.b 3::dE 1959::dJ M w0 r 31) (TI v2 v11):=by
 unfold pM at h;refine bB (ks':=dJ M w0 r 31) 2 ⟨[(1,.pp 1 v2 0),(2,.ptr 2 0),(24,.ref 10),(25,iI 11),(26,iI 9)],[(1,aJ v11),(2,aJ cz)],[(10,⟨154,1,lm bD [(v2,6),(v2,10),(v2,12),(v2,14),(v2,22),(v2,16),(v2,24),(v2,18),(v2,26),(v2,20),(v2,28)]⟩)],[1,2,10]⟩ (bt (bp (dk 56 57 3 15 8 (aj 0 (aB (cS 10 1 bD (L:=([(v2,6),(v2,10),(v2,12),(v2,14),(v2,22),(v2,16),(v2,24),(v2,18),(v2,26),(v2,20),(v2,28)]:List (Nat×Nat))) (i:=(9:Int)) (by kernel_rfl)) (aB (cp 154 0 bD bD (L:=([(v2,6),(v2,10),(v2,12),(v2,14),(v2,22),(v2,16),(v2,24),(v2,18),(v2,26),(v2,20),(v2,28)]:List (Nat×Nat))) (j:=(9:Int).toNat) (of_decide_eq_true (by kernel_rfl)) ((fun _=>rfl))) (ac (az 2 3 1 (aj 3 (dT 32 1 1 v2 20 0 (ac ?_)))))))))));obtain⟨h10,h⟩|⟨h10,h⟩:=ak h
 ·exact ag 34 h10 (bh 2 1 (aj 3 (dT 37 1 1 v2 20 0 (ac (ae 0 (Ml hK (v2:=v2) h))))))
 ·exact ag 34 h10 (ae 2 (Ml hK (v2:=v2) h))
theorem JA(hK:am K)(h:oh K n v10=some r):iL M w0 r (.b 3::dE 1959::dJ M w0 r 32) (Zt v2 v10):=by
 unfold oh at h;refine bB (ks':=dJ M w0 r 32) 2 ⟨[(1,.pp 1 v2 0),(2,.ptr 2 0),(24,.ref 10),(25,iI 11),(26,iI 8)],[(1,aJ v10),(2,aJ cz)],[(10,⟨154,1,lm bD [(v2,6),(v2,10),(v2,12),(v2,14),(v2,22),(v2,16),(v2,24),(v2,18),(v2,26),(v2,20),(v2,28)]⟩)],[1,2,10]⟩ (bt (bp (dk 56 57 3 15 8 (aj 0 (aB (cS 10 1 bD (L:=([(v2,6),(v2,10),(v2,12),(v2,14),(v2,22),(v2,16),(v2,24),(v2,18),(v2,26),(v2,20),(v2,28)]:List (Nat×Nat))) (i:=(8:Int)) (by kernel_rfl)) (aB (cp 154 0 bD bD (L:=([(v2,6),(v2,10),(v2,12),(v2,14),(v2,22),(v2,16),(v2,24),(v2,18),(v2,26),(v2,20),(v2,28)]:List (Nat×Nat))) (j:=(8:Int).toNat) (of_decide_eq_true (by kernel_rfl)) ((fun _=>rfl))) (ac (az 2 3 1 (aj 3 (dT 32 1 1 v2 26 0 (ac ?_)))))))))));obtain⟨h9,h⟩|⟨h9,h⟩:=ak h
 ·exact ag 34 h9 (bh 2 1 (aj 3 (dT 37 1 1 v2 26 0 (ac (ae 0 (KC hK (v2:=v2) h))))))
 ·exact ag 34 h9 (ae 2 (KC hK (v2:=v2) h))
theorem M4(hK:am K)(h:pT K n v9=some r):iL M w0 r (.b 3::dE 1959::dJ M w0 r 33) (Vk v2 v9):=by
 unfold pT at h;refine bB (ks':=dJ M w0 r 33) 2 ⟨[(1,.pp 1 v2 0),(2,.ptr 2 0),(24,.ref 10),(25,iI 11),(26,iI 7)],[(1,aJ v9),(2,aJ cz)],[(10,⟨154,1,lm bD [(v2,6),(v2,10),(v2,12),(v2,14),(v2,22),(v2,16),(v2,24),(v2,18),(v2,26),(v2,20),(v2,28)]⟩)],[1,2,10]⟩ (bt (bp (dk 56 57 3 15 8 (aj 0 (aB (cS 10 1 bD (L:=([(v2,6),(v2,10),(v2,12),(v2,14),(v2,22),(v2,16),(v2,24),(v2,18),(v2,26),(v2,20),(v2,28)]:List (Nat×Nat))) (i:=(7:Int)) (by kernel_rfl)) (aB (cp 154 0 bD bD (L:=([(v2,6),(v2,10),(v2,12),(v2,14),(v2,22),(v2,16),(v2,24),(v2,18),(v2,26),(v2,20),(v2,28)]:List (Nat×Nat))) (j:=(7:Int).toNat) (of_decide_eq_true (by kernel_rfl)) ((fun _=>rfl))) (ac (az 2 3 1 (aj 3 (dT 32 1 1 v2 18 0 (ac ?_)))))))))));obtain⟨h8,h⟩|⟨h8,h⟩:=ak h
 ·exact ag 34 h8 (bh 2 1 (aj 3 (dT 37 1 1 v2 18 0 (ac (ae 0 (JA hK (v2:=v2) h))))))
 ·exact ag 34 h8 (ae 2 (JA hK (v2:=v2) h))
theorem G3(hK:am K)(h:oo K n v8=some r):iL M w0 r (.b 3::dE 1959::dJ M w0 r 34) (WW v2 v8):=by
 unfold oo at h;refine bB (ks':=dJ M w0 r 34) 2 ⟨[(1,.pp 1 v2 0),(2,.ptr 2 0),(24,.ref 10),(25,iI 11),(26,iI 6)],[(1,aJ v8),(2,aJ cz)],[(10,⟨154,1,lm bD [(v2,6),(v2,10),(v2,12),(v2,14),(v2,22),(v2,16),(v2,24),(v2,18),(v2,26),(v2,20),(v2,28)]⟩)],[1,2,10]⟩ (bt (bp (dk 56 57 3 15 8 (aj 0 (aB (cS 10 1 bD (L:=([(v2,6),(v2,10),(v2,12),(v2,14),(v2,22),(v2,16),(v2,24),(v2,18),(v2,26),(v2,20),(v2,28)]:List (Nat×Nat))) (i:=(6:Int)) (by kernel_rfl)) (aB (cp 154 0 bD bD (L:=([(v2,6),(v2,10),(v2,12),(v2,14),(v2,22),(v2,16),(v2,24),(v2,18),(v2,26),(v2,20),(v2,28)]:List (Nat×Nat))) (j:=(6:Int).toNat) (of_decide_eq_true (by kernel_rfl)) ((fun _=>rfl))) (ac (az 2 3 1 (aj 3 (dT 32 1 1 v2 24 0 (ac ?_)))))))))));obtain⟨h7,h⟩|⟨h7,h⟩:=ak h
 ·exact ag 34 h7 (bh 2 1 (aj 3 (dT 37 1 1 v2 24 0 (ac (ae 0 (M4 hK (v2:=v2) h))))))
 ·exact ag 34 h7 (ae 2 (M4 hK (v2:=v2) h))
theorem LB(hK:am K)(h:pc K n v7=some r):iL M w0 r (.b 3::dE 1959::dJ M w0 r 35) (Ps v2 v7):=by
 unfold pc at h;refine bB (ks':=dJ M w0 r 35) 2 ⟨[(1,.pp 1 v2 0),(2,.ptr 2 0),(24,.ref 10),(25,iI 11),(26,iI 5)],[(1,aJ v7),(2,aJ cz)],[(10,⟨154,1,lm bD [(v2,6),(v2,10),(v2,12),(v2,14),(v2,22),(v2,16),(v2,24),(v2,18),(v2,26),(v2,20),(v2,28)]⟩)],[1,2,10]⟩ (bt (bp (dk 56 57 3 15 8 (aj 0 (aB (cS 10 1 bD (L:=([(v2,6),(v2,10),(v2,12),(v2,14),(v2,22),(v2,16),(v2,24),(v2,18),(v2,26),(v2,20),(v2,28)]:List (Nat×Nat))) (i:=(5:Int)) (by kernel_rfl)) (aB (cp 154 0 bD bD (L:=([(v2,6),(v2,10),(v2,12),(v2,14),(v2,22),(v2,16),(v2,24),(v2,18),(v2,26),(v2,20),(v2,28)]:List (Nat×Nat))) (j:=(5:Int).toNat) (of_decide_eq_true (by kernel_rfl)) ((fun _=>rfl))) (ac (az 2 3 1 (aj 3 (dT 32 1 1 v2 16 0 (ac ?_)))))))))));obtain⟨h6,h⟩|⟨h6,h⟩:=ak h
 ·exact ag 34 h6 (bh 2 1 (aj 3 (dT 37 1 1 v2 16 0 (ac (ae 0 (G3 hK (v2:=v2) h))))))
 ·exact ag 34 h6 (ae 2 (G3 hK (v2:=v2) h))
theorem IR(hK:am K)(h:qb K n v6=some r):iL M w0 r (.b 3::dE 1959::dJ M w0 r 36) (VB v2 v6):=by
 unfold qb at h;refine bB (ks':=dJ M w0 r 36) 2 ⟨[(1,.pp 1 v2 0),(2,.ptr 2 0),(24,.ref 10),(25,iI 11),(26,iI 4)],[(1,aJ v6),(2,aJ cz)],[(10,⟨154,1,lm bD [(v2,6),(v2,10),(v2,12),(v2,14),(v2,22),(v2,16),(v2,24),(v2,18),(v2,26),(v2,20),(v2,28)]⟩)],[1,2,10]⟩ (bt (bp (dk 56 57 3 15 8 (aj 0 (aB (cS 10 1 bD (L:=([(v2,6),(v2,10),(v2,12),(v2,14),(v2,22),(v2,16),(v2,24),(v2,18),(v2,26),(v2,20),(v2,28)]:List (Nat×Nat))) (i:=(4:Int)) (by kernel_rfl)) (aB (cp 154 0 bD bD (L:=([(v2,6),(v2,10),(v2,12),(v2,14),(v2,22),(v2,16),(v2,24),(v2,18),(v2,26),(v2,20),(v2,28)]:List (Nat×Nat))) (j:=(4:Int).toNat) (of_decide_eq_true (by kernel_rfl)) ((fun _=>rfl))) (ac (az 2 3 1 (aj 3 (dT 32 1 1 v2 22 0 (ac ?_)))))))))));obtain⟨h5,h⟩|⟨h5,h⟩:=ak h
 ·exact ag 34 h5 (bh 2 1 (aj 3 (dT 37 1 1 v2 22 0 (ac (ae 0 (LB hK (v2:=v2) h))))))
 ·exact ag 34 h5 (ae 2 (LB hK (v2:=v2) h))
theorem GX(hK:am K)(h:oW K n v5=some r):iL M w0 r (.b 3::dE 1959::dJ M w0 r 37) (QO v2 v5):=by
 unfold oW at h;refine bB (ks':=dJ M w0 r 37) 2 ⟨[(1,.pp 1 v2 0),(2,.ptr 2 0),(24,.ref 10),(25,iI 11),(26,iI 3)],[(1,aJ v5),(2,aJ cz)],[(10,⟨154,1,lm bD [(v2,6),(v2,10),(v2,12),(v2,14),(v2,22),(v2,16),(v2,24),(v2,18),(v2,26),(v2,20),(v2,28)]⟩)],[1,2,10]⟩ (bt (bp (dk 56 57 3 15 8 (aj 0 (aB (cS 10 1 bD (L:=([(v2,6),(v2,10),(v2,12),(v2,14),(v2,22),(v2,16),(v2,24),(v2,18),(v2,26),(v2,20),(v2,28)]:List (Nat×Nat))) (i:=(3:Int)) (by kernel_rfl)) (aB (cp 154 0 bD bD (L:=([(v2,6),(v2,10),(v2,12),(v2,14),(v2,22),(v2,16),(v2,24),(v2,18),(v2,26),(v2,20),(v2,28)]:List (Nat×Nat))) (j:=(3:Int).toNat) (of_decide_eq_true (by kernel_rfl)) ((fun _=>rfl))) (ac (az 2 3 1 (aj 3 (dT 32 1 1 v2 14 0 (ac ?_)))))))))));obtain⟨h4,h⟩|⟨h4,h⟩:=ak h
 ·exact ag 34 h4 (bh 2 1 (aj 3 (dT 37 1 1 v2 14 0 (ac (ae 0 (IR hK (v2:=v2) h))))))
 ·exact ag 34 h4 (ae 2 (IR hK (v2:=v2) h))
theorem MF(hK:am K)(h:oI K n v4=some r):iL M w0 r (.b 3::dE 1959::dJ M w0 r 38) (QR v2 v4):=by
 unfold oI at h;refine bB (ks':=dJ M w0 r 38) 2 ⟨[(1,.pp 1 v2 0),(2,.ptr 2 0),(24,.ref 10),(25,iI 11),(26,iI 2)],[(1,aJ v4),(2,aJ cz)],[(10,⟨154,1,lm bD [(v2,6),(v2,10),(v2,12),(v2,14),(v2,22),(v2,16),(v2,24),(v2,18),(v2,26),(v2,20),(v2,28)]⟩)],[1,2,10]⟩ (bt (bp (dk 56 57 3 15 8 (aj 0 (aB (cS 10 1 bD (L:=([(v2,6),(v2,10),(v2,12),(v2,14),(v2,22),(v2,16),(v2,24),(v2,18),(v2,26),(v2,20),(v2,28)]:List (Nat×Nat))) (i:=(2:Int)) (by kernel_rfl)) (aB (cp 154 0 bD bD (L:=([(v2,6),(v2,10),(v2,12),(v2,14),(v2,22),(v2,16),(v2,24),(v2,18),(v2,26),(v2,20),(v2,28)]:List (Nat×Nat))) (j:=(2:Int).toNat) (of_decide_eq_true (by kernel_rfl)) ((fun _=>rfl))) (ac (az 2 3 1 (aj 3 (dT 32 1 1 v2 12 0 (ac ?_)))))))))));obtain⟨h3,h⟩|⟨h3,h⟩:=ak h
 ·exact ag 34 h3 (bh 2 1 (aj 3 (dT 37 1 1 v2 12 0 (ac (ae 0 (GX hK (v2:=v2) h))))))
 ·exact ag 34 h3 (ae 2 (GX hK (v2:=v2) h))
theorem Nk(hK:am K)(h:nU K n v3=some r):iL M w0 r (.b 3::dE 1959::dJ M w0 r 39) (WZ v2 v3):=by
 unfold nU at h;refine bB (ks':=dJ M w0 r 39) 2 ⟨[(1,.pp 1 v2 0),(2,.ptr 2 0),(24,.ref 10),(25,iI 11),(26,iI 1)],[(1,aJ v3),(2,aJ cz)],[(10,⟨154,1,lm bD [(v2,6),(v2,10),(v2,12),(v2,14),(v2,22),(v2,16),(v2,24),(v2,18),(v2,26),(v2,20),(v2,28)]⟩)],[1,2,10]⟩ (bt (bp (dk 56 57 3 15 8 (aj 0 (aB (cS 10 1 bD (L:=([(v2,6),(v2,10),(v2,12),(v2,14),(v2,22),(v2,16),(v2,24),(v2,18),(v2,26),(v2,20),(v2,28)]:List (Nat×Nat))) (i:=(1:Int)) (by kernel_rfl)) (aB (cp 154 0 bD bD (L:=([(v2,6),(v2,10),(v2,12),(v2,14),(v2,22),(v2,16),(v2,24),(v2,18),(v2,26),(v2,20),(v2,28)]:List (Nat×Nat))) (j:=(1:Int).toNat) (of_decide_eq_true (by kernel_rfl)) ((fun _=>rfl))) (ac (az 2 3 1 (aj 3 (dT 32 1 1 v2 10 0 (ac ?_)))))))))));obtain⟨h2,h⟩|⟨h2,h⟩:=ak h
 ·exact ag 34 h2 (bh 2 1 (aj 3 (dT 37 1 1 v2 10 0 (ac (ae 0 (MF hK (v2:=v2) h))))))
 ·exact ag 34 h2 (ae 2 (MF hK (v2:=v2) h))
theorem Og(hK:am K)(h:mg K n v1=some r):aO Tryz.prog 95 [.agg (aJ v1)] (fun v _=>v=.agg (aJ r)):=by
 refine bg (cat Tryz.f95 (pn 1)) Tryz.func95 Tryz.ntmps95 fun M w0=>(bc ⟨[(0,.agg (aJ v1))],[],[],[]⟩ ?_);unfold mg at h;refine az 6 7 3 (Tg 1 1 0 fun v2=>(aj 3 (Xl 155 3 #[(0,(.tmp 7)),(1,(.tmp 8)),(2,(.tmp 9))] 10 (e:=154) (sz:=1) (l:=lm bD [(v2,6),(v2,10),(v2,12)]) (ac (bB (ks':=[dE 58,.b 0,dE 15]) 4 ⟨[(1,.pp 1 v2 0),(2,.ptr 2 0),(3,.ref 10),(11,iI 0)],[(1,aJ v1),(2,aJ cz)],[(10,⟨154,1,lm bD [(v2,6),(v2,10),(v2,12)]⟩)],[1,2,10]⟩ (n6 40 (c:=cat Tryz.f95 [1,1,0,1,0,0]) (by kernel_rfl) (bp (co (ks':=dE 3737 :: .b 1::dE 935::wn M w0 r 39) 9 (bI [1,2,3,4,11] [1,2] [10] (bF 2 (nu 14 [.ref 10,iI 0,.adr v2 14,.adr v2 14,iI 0,.adr v2 22,.adr v2 22,.sl (lm bD [(v2,14),(v2,22)])]) [] [] [iJ 22 10 ⟨154,1,lm bD [(v2,6),(v2,10),(v2,12),(v2,14),(v2,22)]⟩,bR Tryz.prog 40 Tryz.f95 (pn 3737) 9] (av [.v 0 1,.v 0 2,.v 0 2,.v 0 2,.v 0 2,.v 0 2,.v 0 2,.v 0 1] (ab (g9 (m:=0) (cD 22 10 154 1 bD (L:=([(v2,6),(v2,10),(v2,12)]:List (Nat×Nat))) (M:=([(v2,14),(v2,22)]:(List (Nat×Nat)))) (bytes:=8) (rfl) (fun _=>rfl) (by kernel_rfl))) (ab (bQ 1) bG))) (bB (ks':=wn M w0 r 39) 2 ⟨[(1,.pp 1 v2 0),(2,.ptr 2 0),(3,.ref 10),(11,iI 1)],[(1,aJ v1),(2,aJ cz)],[(10,⟨154,1,lm bD [(v2,6),(v2,10),(v2,12),(v2,14),(v2,22)]⟩)],[1,2,10]⟩ (bt (bp (fr 57 1 15 9 (bI [1,2,3,4,11] [1,2] [10] (bF 2 (nu 14 [.ref 10,iI 1,.adr v2 14,.adr v2 16,iI 1,.adr v2 22,.adr v2 24,.sl (lm bD [(v2,16),(v2,24)])]) [] [] [iJ 22 10 ⟨154,1,lm bD [(v2,6),(v2,10),(v2,12),(v2,14),(v2,22),(v2,16),(v2,24)]⟩,bR Tryz.prog 40 Tryz.f95 (pn 3737) 9] (av [.v 0 1,.v 0 2,.v 0 2,.v 0 2,.v 0 2,.v 0 2,.v 0 2,.v 0 1] (ab (g9 (m:=0) (cD 22 10 154 1 bD (L:=([(v2,6),(v2,10),(v2,12),(v2,14),(v2,22)]:List (Nat×Nat))) (M:=([(v2,16),(v2,24)]:(List (Nat×Nat)))) (bytes:=8) (rfl) (fun _=>rfl) (by kernel_rfl))) (ab (bQ 1) bG))) (bB (ks':=wn M w0 r 38) 2 ⟨[(1,.pp 1 v2 0),(2,.ptr 2 0),(3,.ref 10),(11,iI 2)],[(1,aJ v1),(2,aJ cz)],[(10,⟨154,1,lm bD [(v2,6),(v2,10),(v2,12),(v2,14),(v2,22),(v2,16),(v2,24)]⟩)],[1,2,10]⟩ (bt (bp (fr 57 1 15 9 (bI [1,2,3,4,11] [1,2] [10] (bF 2 (nu 14 [.ref 10,iI 2,.adr v2 14,.adr v2 18,iI 2,.adr v2 22,.adr v2 26,.sl (lm bD [(v2,18),(v2,26)])]) [] [] [iJ 22 10 ⟨154,1,lm bD [(v2,6),(v2,10),(v2,12),(v2,14),(v2,22),(v2,16),(v2,24),(v2,18),(v2,26)]⟩,bR Tryz.prog 40 Tryz.f95 (pn 3737) 9] (av [.v 0 1,.v 0 2,.v 0 2,.v 0 2,.v 0 2,.v 0 2,.v 0 2,.v 0 1] (ab (g9 (m:=0) (cD 22 10 154 1 bD (L:=([(v2,6),(v2,10),(v2,12),(v2,14),(v2,22),(v2,16),(v2,24)]:List (Nat×Nat))) (M:=([(v2,18),(v2,26)]:(List (Nat×Nat)))) (bytes:=8) (rfl) (fun _=>rfl) (by kernel_rfl))) (ab (bQ 1) bG))) (bB (ks':=wn M w0 r 37) 2 ⟨[(1,.pp 1 v2 0),(2,.ptr 2 0),(3,.ref 10),(11,iI 3)],[(1,aJ v1),(2,aJ cz)],[(10,⟨154,1,lm bD [(v2,6),(v2,10),(v2,12),(v2,14),(v2,22),(v2,16),(v2,24),(v2,18),(v2,26)]⟩)],[1,2,10]⟩ ?_)))))))))))))))))))))))
 refine bt (bp (fr 57 1 15 9 (bI [1,2,3,4,11] [1,2] [10] (bF 2 (nu 14 [.ref 10,iI 3,.adr v2 14,.adr v2 20,iI 3,.adr v2 22,.adr v2 28,.sl (lm bD [(v2,20),(v2,28)])]) [] [] [iJ 22 10 ⟨154,1,lm bD [(v2,6),(v2,10),(v2,12),(v2,14),(v2,22),(v2,16),(v2,24),(v2,18),(v2,26),(v2,20),(v2,28)]⟩,bR Tryz.prog 40 Tryz.f95 (pn 3737) 9] (av [.v 0 1,.v 0 2,.v 0 2,.v 0 2,.v 0 2,.v 0 2,.v 0 2,.v 0 1] (ab (g9 (m:=0) (cD 22 10 154 1 bD (L:=([(v2,6),(v2,10),(v2,12),(v2,14),(v2,22),(v2,16),(v2,24),(v2,18),(v2,26)]:List (Nat×Nat))) (M:=([(v2,20),(v2,28)]:(List (Nat×Nat)))) (bytes:=8) (rfl) (fun _=>rfl) (by kernel_rfl))) (ab (bQ 1) bG))) (bB (ks':=wn M w0 r 36) 2 ⟨[(1,.pp 1 v2 0),(2,.ptr 2 0),(3,.ref 10),(11,iI 4)],[(1,aJ v1),(2,aJ cz)],[(10,⟨154,1,lm bD [(v2,6),(v2,10),(v2,12),(v2,14),(v2,22),(v2,16),(v2,24),(v2,18),(v2,26),(v2,20),(v2,28)]⟩)],[1,2,10]⟩ (bt (bp (WS 4 5 3 10 (aj 1 (aB (bq bD ([(v2,6),(v2,10),(v2,12),(v2,14),(v2,22),(v2,16),(v2,24),(v2,18),(v2,26),(v2,20),(v2,28)]:List (Nat×Nat))) (ac (bB (ks':=[dE 122,.b 2,dE 31]) 1 ⟨[(1,.pp 1 v2 0),(2,.ptr 2 0),(24,.ref 10),(25,iI 11),(26,iI 0)],[(1,aJ v1),(2,aJ cz)],[(10,⟨154,1,lm bD [(v2,6),(v2,10),(v2,12),(v2,14),(v2,22),(v2,16),(v2,24),(v2,18),(v2,26),(v2,20),(v2,28)]⟩)],[1,2,10]⟩ (n6 40 (c:=cat Tryz.f95 [1,1,1,0,1,0,0]) (by kernel_rfl) (bp (co (ks':=dE 7832::dE 7833 :: .b 3::dE 1959::dJ M w0 r 39) 8 (aj 0 (aB (cS 10 1 bD (L:=([(v2,6),(v2,10),(v2,12),(v2,14),(v2,22),(v2,16),(v2,24),(v2,18),(v2,26),(v2,20),(v2,28)]:List (Nat×Nat))) (i:=(0:Int)) (by kernel_rfl)) (aB (cp 154 0 bD bD (L:=([(v2,6),(v2,10),(v2,12),(v2,14),(v2,22),(v2,16),(v2,24),(v2,18),(v2,26),(v2,20),(v2,28)]:List (Nat×Nat))) (j:=(0:Int).toNat) (of_decide_eq_true (by kernel_rfl)) ((fun _=>rfl))) (ac (az 2 3 1 (aj 3 (dT 32 1 1 v2 6 0 (ac ?_)))))))))))))))))))))))
 obtain⟨h1,h⟩|⟨h1,h⟩:=ak h
 ·exact ag 34 h1 (bh 2 1 (aj 3 (dT 37 1 1 v2 6 0 (ac (ae 0 (Nk hK (v2:=v2) h))))))
 ·exact ag 34 h1 (ae 2 (Nk hK (v2:=v2) h))
end
noncomputable section
variable(M:Nat→Prop)(w0:aF)(r:Int)(v1:List ai)(v2:Fv)(v4:Int)(m1:Nat)(L1:Int→Option Int)
abbrev BH:Cx:=⟨Tryz.prog,19,M,w0⟩
abbrev F5:=bodyPost Tryz.prog Tryz.f129 (bu M w0 (fun v _=>v=iI r))
abbrev Ua(ks:List aq)(s:AS):=VE (BH M w0) (F5 M w0 r) ks .normal s
abbrev JH(n:Nat):aq:=.c (cat Tryz.f129 (pn n))
abbrev Cd:List aq:=[.b 0,JH 7]
abbrev WX:List aq:=kl (BH M w0) (F5 M w0 r) Cd (cat Tryz.f129 (pn 52)) m1::Cd
def Oe:AS:=⟨[(0,.sl (lm aQ v1)),(1,.fn v2.id v2.bb),(7,iI (v1.length:Int)),(8,iI v4)],[],[],[]⟩
abbrev Ho:Prop:=∀{v4:Int},L1 v4=some r→LP (BH M w0) (F5 M w0 r) Cd (cat Tryz.f129 (pn 52)) m1 (Oe v1 v2 v4)
variable{M w0 r v1 v2 v4 m1 L1}{K:Kn}{n:Nat}
theorem OW(hK:am K)(hL1:Ho M w0 r v1 v2 m1 L1)(h:lQ K n v1 v2 L1 v4=some r):Ua M w0 r (JH 52::WX M w0 r m1) (Oe v1 v2 v4):=by
 unfold lQ at h;refine az 6 7 3 ?_;obtain⟨h5,h⟩|⟨h5,h⟩:=ak h
 ·refine ag 9 h5 (cQ 18 19 1 3 7 (aj 3 ?_));obtain⟨h6,h⟩:=aK h;refine aB (bw aQ aW h6 (fi) (dK)) (aL 5 1 ?_);obtain⟨v5,h7,h⟩:=bind_some h;refine ox (hK.jn h7) (ac ?_);obtain⟨h8,h⟩|⟨h8,h⟩:=ak h
  ·refine ag 16 h8 (aE 9 ?_);cases h;exact ba
  ·exact ag 16 h8 (ae 4 (bt (hL1 h)))
 ·refine ag 9 h5 (aE 8 ?_);cases h;exact ba
theorem XL(hK:am K)(m:Nat):Ho M w0 r v1 v2 m (k7 K n v1 v2 m):=by
 induction m with
 | zero=>intro v4 h;cases h
 | succ m ih=>intro v4 h;have h:lQ K n v1 v2 (k7 K n v1 v2 m) v4=some r:=h;exact bp (OW hK ih h)
theorem act(hK:am K)(h:uW K n v1 v2=some r):aO Tryz.prog 129 [.sl (lm aQ v1),.fn v2.id v2.bb] (fun v _=>v=iI r):=by
 refine bg (cat Tryz.f129 (pn 1)) Tryz.func129 Tryz.ntmps129 fun M w0=>(bc ⟨[(0,.sl (lm aQ v1)),(1,.fn v2.id v2.bb)],[],[],[]⟩ ?_);unfold uW at h;exact bH 12 13 7 4 (aj 1 (aB (bq aQ v1) (ac (ae 1 (cf (p:=pn 26) n (XL hK n h))))))
end
noncomputable section
variable(M:Nat→Prop)(w0:aF)(r:Bool)(v1:List ai)(v2:Fv)  
variable{M w0 r v1 v2}{K:Kn}{n:Nat}
theorem aa9(hK:am K)(h:mO K n v1 v2=some r):aO Tryz.prog 118 [.sl (lm aQ v1),.fn v2.id v2.bb] (fun v _=>v=.bool r):=by
 refine bg (cat Tryz.f118 (pn 1)) Tryz.func118 Tryz.ntmps118 fun M w0=>(bc ⟨[(0,.sl (lm aQ v1)),(1,.fn v2.id v2.bb)],[],[],[]⟩ ?_);unfold mO at h;refine az 6 7 3 (aj 2 ?_);obtain⟨v3,h1,h⟩:=bind_some h;refine aD (act hK h1) (ac (aE 1 ?_));cases h;exact ba
end
noncomputable section
variable(M:Nat→Prop)(w0:aF)(r:(List ai)×Bool)(v1:ai)(v8:Int)(v9 v11:(List ai))(m1:Nat)(L1:Int→(List ai)→Option ((List ai)×Bool))
abbrev Cb:Cx:=⟨Tryz.prog,24,M,w0⟩
abbrev DG:=bodyPost Tryz.prog Tryz.f96 (bu M w0 (fun v _=>v=.tup [.sl (lm aQ r.1),.bool r.2]))
abbrev Oa(ks:List aq)(s:AS):=VE (Cb M w0) (DG M w0 r) ks .normal s
abbrev Ee(n:Nat):aq:=.c (cat Tryz.f96 (pn n))
abbrev CB:List aq:=[.b 0,Ee 15]
abbrev IL:List aq:=kl (Cb M w0) (DG M w0 r) CB (cat Tryz.f96 (pn 116)) m1::CB
def Vg:AS:=⟨[(4,.ref 19),(8,.sl (lm aQ v1.Kids)),(9,iI (v1.Kids.length:Int)),(10,iI v8)],[],[(19,⟨52,59,lm aQ v11⟩)],[19]⟩
def IW:AS:=⟨[(4,.ref 19),(8,.sl (lm aQ v1.Kids)),(9,iI (v1.Kids.length:Int)),(10,iI v8)],[],[(19,⟨52,59,lm aQ v9⟩)],[19]⟩
abbrev Cv:Prop:=∀{v8:Int} {v9:(List ai)},L1 v8 v9=some r→LP (Cb M w0) (DG M w0 r) CB (cat Tryz.f96 (pn 116)) m1 (IW v1 v8 v9)
variable{M w0 r v1 v8 v9 v11 m1 L1}{K:Kn}{n:Nat}
theorem N2(hK:am K)(hL1:Cv M w0 r v1 m1 L1)(h:tV K n v1 v8 L1 v11=some r):Oa M w0 r (.b 1::Ee 935::IL M w0 r m1) (Vg v1 v8 v11):=by
 unfold tV at h;exact ae 2 (bt (hL1 h))
theorem abr(hK:am K)(hL1:Cv M w0 r v1 m1 L1)(h:kC K n v1 L1 v8 v9=some r):Oa M w0 r (Ee 116::IL M w0 r m1) (IW v1 v8 v9):=by
 unfold kC at h;refine az 6 7 3 ?_;obtain⟨h13,h⟩|⟨h13,h⟩:=ak h
 ·refine ag 11 h13 (cQ 8 9 1 3 5 (aj 0 ?_));obtain⟨h14,h⟩:=aK h;refine aB (bw aQ aW h14 (fi) (dK)) (ac (az 2 3 1 (aj 1 ?_)));obtain⟨v10,h15,h⟩:=bind_some h;refine aD (Gv hK h15) (ac ?_);obtain⟨h16,h⟩|⟨h16,h⟩:=ak h
  ·refine ag 15 h16 (bh 2 1 (aj 2 (aB (fB aQ ([(gD v1.Kids v8)]:List ai) (new:=[aW (gD v1.Kids v8)]) (by simp only[List.map_cons,List.map_nil,dK])) ?_)));obtain⟨h17,h⟩:=aK h;exact aB (cD 19 19 52 59 aQ (rfl) (fi) h17) (ac (ae 0 (N2 hK hL1 h)))
  ·exact ag 15 h16 (ae 2 (N2 hK hL1 h))
 ·refine ag 11 h13 (kx 2 3 6 (aj 2 (lT 19 ?_)));obtain⟨v12,h18,h⟩:=bind_some h;refine aD (aa9 hK h18) (ac (aE 1 ?_));cases h;exact dS
theorem ZL(hK:am K)(m:Nat):Cv M w0 r v1 m (nS K n v1 m):=by
 induction m with
 | zero=>intro v8 v9 h;cases h
 | succ m ih=>intro v8 v9 h;have h:kC K n v1 (nS K n v1 m) v8 v9=some r:=h;exact bp (abr hK ih h)
theorem MM(hK:am K)(h:jw K n v1=some r):aO Tryz.prog 96 [.agg (aW v1)] (fun v _=>v=.tup [.sl (lm aQ r.1),.bool r.2]):=by
 refine bg (cat Tryz.f96 (pn 1)) Tryz.func96 Tryz.ntmps96 fun M w0=>(bc ⟨[(0,.agg (aW v1))],[],[],[]⟩ ?_);unfold jw at h;exact bH 28 29 15 6 (aj 2 (aB (bq aQ v1.Kids) (ac (jF 2 0 1 (bI [4,8,9,10] [] [] (fh 19 4 52 59 (ae 0 (cf (p:=pn 58) n (ZL hK n h)))))))))
end
noncomputable section
variable(M:Nat→Prop)(w0:aF)(r:Int×Int)(v1:ai)(v2:cg)(v6:(List ai)×Bool)(v11 v12 v13:Int)(m1:Nat)(L1:Int→Int→Int→Option (Int×Int))
abbrev DV:Cx:=⟨Tryz.prog,71,M,w0⟩
abbrev Bm:=bodyPost Tryz.prog Tryz.f57 (bu M w0 (fun v _=>v=.tup [iI r.1,iI r.2]))
abbrev Wr(ks:List aq)(s:AS):=VE (DV M w0) (Bm M w0 r) ks .normal s
abbrev LW(n:Nat):aq:=.c (cat Tryz.f57 (pn n))
abbrev BR:List aq:=[.b 0,LW 63]
abbrev SA:List aq:=kl (DV M w0) (Bm M w0 r) BR (cat Tryz.f57 (pn 500)) m1::BR
def HQ:AS:=⟨[(3,.ptr 3 0),(4,iI v11),(5,iI v12),(47,.sl (lm aQ v6.1)),(48,iI (v6.1.length:Int)),(49,iI v13)],[(3,ct v2)],[],[3]⟩
abbrev Ld:Prop:=∀{v11:Int} {v12:Int} {v13:Int},L1 v11 v12 v13=some r→LP (DV M w0) (Bm M w0 r) BR (cat Tryz.f57 (pn 500)) m1 (HQ v2 v6 v11 v12 v13)
variable{M w0 r v1 v2 v6 v11 v12 v13 m1 L1}{K:Kn}{n:Nat}
theorem RB(hK:am K)(hL1:Ld M w0 r v2 v6 m1 L1)(h:y7 K n v2 v6 L1 v11 v12 v13=some r):Wr M w0 r (LW 500::SA M w0 r m1) (HQ v2 v6 v11 v12 v13):=by
 unfold y7 at h;refine az 6 7 3 ?_;obtain⟨h13,h⟩|⟨h13,h⟩:=ak h
 ·refine ag 50 h13 (cQ 8 9 1 3 5 (aj 0 ?_));obtain⟨h14,h⟩:=aK h;refine aB (bw aQ aW h14 (fi) (dK)) (ac (az 2 3 1 (aj 3 ?_)));obtain⟨v14,h15,h⟩:=bind_some h;exact ox (hK.lJ h15) (ac (ae 3 (bt (hL1 h))))
 ·refine ag 50 h13 (kx 2 3 6 (aj 1 ?_));obtain⟨v15,h16,h⟩:=bind_some h;refine aD (iE hK h16) (aL 3 1 ?_);obtain⟨v16,h17,h⟩:=bind_some h;refine aD (iE hK h17) (ac (aE 1 ?_));cases h;exact dS
theorem XH(hK:am K)(m:Nat):Ld M w0 r v2 v6 m (xK K n v2 v6 m):=by
 induction m with
 | zero=>intro v11 v12 v13 h;cases h
 | succ m ih=>intro v11 v12 v13 h;have h:y7 K n v2 v6 (xK K n v2 v6 m) v11 v12 v13=some r:=h;exact bp (RB hK ih h)
theorem Ni(hK:am K)(h:jQ K n v1 v2=some r):aO Tryz.prog 57 [.agg (aW v1),.agg (ct v2)] (fun v _=>v=.tup [iI r.1,iI r.2]):=by
 refine bg (cat Tryz.f57 (pn 1)) Tryz.func57 Tryz.ntmps57 fun M w0=>(bc ⟨[(0,.agg (aW v1)),(1,.agg (ct v2))],[],[],[]⟩ ?_);unfold jQ at h;refine bH 12 13 7 4 (aj 2 ?_);obtain⟨v3,h1,h⟩:=bind_some h;refine aD (Og hK h1) (aL 4 1 ?_);obtain⟨v4,h2,h⟩:=bind_some h;refine aD (eU hK h2) (ac (bh 3 2 ?_));obtain⟨h3,h⟩|⟨h3,h⟩:=ak h
 ·refine ag 22 h3 (az 4 5 2 (aj 1 ?_));obtain⟨v5,h4,h⟩:=bind_some h;refine aD (iE hK h4) (ac (aE 4 ?_));cases h;exact dS
 ·refine ag 22 h3 (dB 2 3 3 (aj 1 ?_));obtain⟨v6,h5,h⟩:=bind_some h;refine aD (MM hK h5) (ac (az 5 3 3 ?_));obtain⟨h6,h⟩|⟨h6,h⟩:=ak h
  ·refine ag 33 h6 (az 4 5 2 (aj 5 ?_));obtain⟨v7,h7,h⟩:=bind_some h;refine ox (hK.tn h7) (ac (az 2 3 1 (aj 1 ?_)));obtain⟨v8,h8,h⟩:=bind_some h;refine aD (iE hK h8) (aL 3 1 ?_);obtain⟨v9,h9,h⟩:=bind_some h;refine aD (iE hK h9) (ac (aE 2 ?_));cases h;exact dS
  ·exact ag 33 h6 (ii 4 5 3 4 (aj 1 (aB (bq aQ v6.1) (ac (ae 1 (cf (p:=pn 250) n (XH hK n h)))))))
end
noncomputable section
variable(M:Nat→Prop)(w0:aF)(r:Int)(v1:aI)(v2 v3 v5 v7:Int)  
abbrev Jq(n:Nat):aq:=.c (cat Tryz.f58 (pn n))
abbrev PV:Cx:=⟨Tryz.prog,37,M,w0⟩
abbrev q58:=bodyPost Tryz.prog Tryz.f58 (bu M w0 (fun v _=>v=iI r))
abbrev NO(ks:List aq)(s:AS):=VE (PV M w0) (q58 M w0 r) ks .normal s
def Tc:AS:=⟨[(2,iI v7)],[],[],[]⟩
def T3:AS:=⟨[(1,iI v2),(2,iI v5),(3,.ptr 3 0)],[(3,aJ v1)],[],[3]⟩
variable{M w0 r v1 v2 v3 v5 v7}{K:Kn}{n:Nat}
theorem L8(hK:am K)(h:vA K n v7=some r):NO M w0 r [Jq 31] (Tc v7):=by
 unfold vA at h;refine aE 3 ?_;cases h;exact ba
theorem Jp(hK:am K)(h:uC K n v1 v2 v5=some r):NO M w0 r [Jq 15] (T3 v1 v2 v5):=by
 unfold uC at h;refine bH 4 5 3 2 (aj 3 ?_);obtain⟨v6,h3,h⟩:=bind_some h;refine aD (eU hK h3) (ac (bh 3 2 ?_));obtain⟨h4,h⟩|⟨h4,h⟩:=ak h
 ·exact ag 32 h4 (ae 2 (L8 hK h))
 ·exact ag 32 h4 (ae 2 (L8 hK h))
theorem Ao(hK:am K)(h:mQ K n v1 v2 v3=some r):aO Tryz.prog 58 [.agg (aJ v1),iI v2,iI v3] (fun v _=>v=iI r):=by
 refine bg (cat Tryz.f58 (pn 1)) Tryz.func58 Tryz.ntmps58 fun M w0=>(bc ⟨[(0,.agg (aJ v1)),(1,iI v2),(2,iI v3)],[],[],[]⟩ ?_);unfold mQ at h;refine bH 28 29 15 6 (aj 3 ?_);obtain⟨v4,h1,h⟩:=bind_some h;refine aD (eU hK h1) (ac (bh 3 2 ?_));obtain⟨h2,h⟩|⟨h2,h⟩:=ak h
 ·exact ag 20 h2 (ae 2 (Jp hK h))
 ·exact ag 20 h2 (ae 2 (Jp hK h))
end
noncomputable section
variable(M:Nat→Prop)(w0:aF)(r:Int)(v1:ai)(v2:Int)(v3:cg)(v9:Int)  
abbrev V7(n:Nat):aq:=.c (cat Tryz.f25 (pn n))
abbrev TC:Cx:=⟨Tryz.prog,46,M,w0⟩
abbrev q25:=bodyPost Tryz.prog Tryz.f25 (bu M w0 (fun v _=>v=iI r))
abbrev Sl(ks:List aq)(s:AS):=VE (TC M w0) (q25 M w0 r) ks .normal s
def PZ:AS:=⟨[(1,iI v2),(3,.ptr 3 0),(7,iI v9)],[(3,aW v1)],[],[3]⟩
variable{M w0 r v1 v2 v3 v9}{K:Kn}{n:Nat}
theorem Ic(hK:am K)(h:pI K n v1 v2 v9=some r):Sl M w0 r [V7 15] (PZ v1 v2 v9):=by
 unfold pI at h;refine az 2 3 1 (aj 4 ?_);obtain⟨v10,h7,h⟩:=bind_some h;refine aD (Ao hK h7) (ac (aE 1 ?_));cases h;exact ba
theorem ZR(hK:am K)(h:mB K n v1 v2 v3=some r):aO Tryz.prog 25 [.agg (aW v1),iI v2,.agg (ct v3)] (fun v _=>v=iI r):=by
 refine bg (cat Tryz.f25 (pn 1)) Tryz.func25 Tryz.ntmps25 fun M w0=>(bc ⟨[(0,.agg (aW v1)),(1,iI v2),(2,.agg (ct v3))],[],[],[]⟩ ?_);unfold mB at h;refine az 6 7 3 (aj 4 ?_);obtain⟨v4,h1,h⟩:=bind_some h;refine aD (eU hK h1) (ac (az 5 3 3 ?_));obtain⟨h2,h⟩|⟨h2,h⟩:=ak h
 ·refine ag 21 h2 (az 4 5 2 (aj 2 ?_));obtain⟨v5,h3,h⟩:=bind_some h;refine aD (Ni hK h3) (ac (az 2 3 1 (bI [1,3,9,10] [3] [] ?_)));obtain⟨v6,h4,h⟩:=bind_some h;obtain⟨v7,h5,h⟩:=bind_some h;obtain⟨v8,h6,h⟩:=bind_some h;exact bF 1 (nu 28 [iI v2,iI v6,.ptr 3 2,.agg (aJ v1.Style),iI v2,.agg (bm v7),iI v8,iI (aa (v6-v8))]) [] [] [bR Tryz.prog 46 Tryz.f25 (pn 234) 8] (av [.v 0 1] (ab (cb 0 1 29 (iE hK h4)) (av (vz 3) (ab (cb 0 1 33 (wu hK h5)) (ab (cb 0 1 34 (s7 hK h6)) (av [.v 0 1] (ab (bQ 0) bG))))))) (ae 1 (Ic hK h))
 ·exact ag 21 h2 (ae 2 (Ic hK h))
end
noncomputable section
variable(M:Nat→Prop)(w0:aF)(r v1:ah)(v2:Int)(v3:Int×Bool)(v5:Int)  
abbrev YQ(n:Nat):aq:=.c (cat Tryz.f26 (pn n))
abbrev Sm:Cx:=⟨Tryz.prog,45,M,w0⟩
abbrev Rn:=bodyPost Tryz.prog Tryz.f26 (bu M w0 (fun v _=>v=.agg (aH r)))
abbrev Rg(ks:List aq)(s:AS):=VE (Sm M w0) (Rn M w0 r) ks .normal s
def Vb:AS:=⟨[(2,.ptr 2 0),(4,.ptr 4 0)],[(2,aH ({ v1 with X:=(aa (v1.X+v3.1)),Y:=v5 }:ah)),(4,List.set (aH bA) 66 (.nils))],[],[2,4]⟩
variable{M w0 r v1 v2 v3 v5}{K:Kn}{n:Nat}
theorem Jh(hK:am K)(h:tu K n v1 v3 v5=some r):Rg M w0 r [YQ 63] (Vb v1 v3 v5):=by
 unfold tu at h;refine aE 3 ?_;cases h;exact ba
theorem Ly(hK:am K)(h:nj K n v1 v2=some r):aO Tryz.prog 26 [.agg (aH v1),iI v2] (fun v _=>v=.agg (aH r)):=by
 refine bg (cat Tryz.f26 (pn 1)) Tryz.func26 Tryz.ntmps26 fun M w0=>(bc ⟨[(0,.agg (aH v1)),(1,iI v2)],[],[],[]⟩ ?_);unfold nj at h;refine az 13 7 5 ?_;obtain⟨h1,h⟩|⟨h1,h⟩:=ak h
 ·refine ag 12 h1 (aE 5 ?_);cases h;exact ba
 ·refine ag 12 h1 (dB 2 3 3 (aj 4 ?_));obtain⟨v3,h2,h⟩:=bind_some h;refine aD (eU hK h2) (ac (az 13 7 5 ?_));obtain⟨h3,h⟩|⟨h3,h⟩:=ak h
  ·refine ag 31 h3 (az 4 5 2 (aj 3 ?_));obtain⟨v4,h4,h⟩:=bind_some h;exact aD (eU hK h4) (ac (ae 1 (Jh hK h)))
  ·exact ag 31 h3 (ae 2 (Jh hK h))
end
noncomputable section
variable(M:Nat→Prop)(w0:aF)(r:Int)(v1:ax)  
variable{M w0 r v1}{K:Kn}{n:Nat}
theorem rq(hK:am K)(h:gk K n v1=some r):aO Tryz.prog 29 [.agg (bS v1)] (fun v _=>v=iI r):=by
 refine bg (cat Tryz.f29 (pn 1)) Tryz.func29 Tryz.ntmps29 fun M w0=>(bc ⟨[(0,.agg (bS v1))],[],[],[]⟩ ?_);unfold gk at h;refine aE 5 ?_;cases h;exact ba
end
noncomputable section
variable(M:Nat→Prop)(w0:aF)(r:ax)(v1 v2:ax)  
variable{M w0 r v1 v2}{K:Kn}{n:Nat}
theorem vt(hK:am K)(h:ix K n v1 v2=some r):aO Tryz.prog 100 [.agg (bS v1),.agg (bS v2)] (fun v _=>v=.agg (bS r)):=by
 refine bg (cat Tryz.f100 (pn 1)) Tryz.func100 Tryz.ntmps100 fun M w0=>(bc ⟨[(0,.agg (bS v1)),(1,.agg (bS v2))],[],[],[]⟩ ?_);unfold ix at h;refine aE 5 ?_;cases h;exact ba
end
noncomputable section
variable(M:Nat→Prop)(w0:aF)(r:(List ah)×Int×ax×ax×Bool)(v1:List ah)(v16:Int)(v17:Bool)(v18:Int)(v19 v20:ax)(v21:List ah)(v22:ax)(v24:Int)(v25:ax)(v26:Int)(v27:Bool)(v28 v29 v30:ax)(m1:Nat)(L1:Int→Bool→Int→ax→ax→(List ah)→Option ((List ah)×Int×ax×ax×Bool))
abbrev Fn:Cx:=⟨Tryz.prog,52,M,w0⟩
abbrev AB:=bodyPost Tryz.prog Tryz.f97 (bu M w0 (fun v s=>v=.tup [.ref 43,iI r.2.1,.agg (bS r.2.2.1),.agg (bS r.2.2.2.1),.bool r.2.2.2.2]∧look 43 s.r=some ⟨59,67,lm aG r.1⟩))
abbrev uw(ks:List aq)(s:AS):=VE (Fn M w0) (AB M w0 r) ks .normal s
abbrev ke(n:Nat):aq:=.c (cat Tryz.f97 (pn n))
abbrev BE:List aq:=[.b 0,ke 31]
abbrev Af:List aq:=kl (Fn M w0) (AB M w0 r) BE (cat Tryz.f97 (pn 244)) m1::BE
def aaL:AS:=⟨[(2,.ref 43),(3,iI v26),(4,.ptr 4 0),(5,.ptr 5 0),(6,.bool v27),(7,.ptr 7 0),(9,.ptr 9 0),(10,.sl (lm aG v1)),(11,iI (v1.length:Int)),(12,iI v18)],[(4,bS v28),(5,bS cI),(7,bS v29),(9,aH ({ (gD v1 v18)with Y:=v24 }:ah))],[(43,⟨59,67,lm aG v21⟩)],[4,5,7,9,43]⟩
def aaf:AS:=⟨[(2,.ref 43),(4,.ptr 4 0),(5,.ptr 5 0),(7,.ptr 7 0),(9,.ptr 9 0),(10,.sl (lm aG v1)),(11,iI (v1.length:Int)),(12,iI v18)],[(4,bS v25),(5,bS cI),(7,bS v22),(9,aH ({ (gD v1 v18)with Y:=v24 }:ah))],[(43,⟨59,67,lm aG v21⟩)],[4,5,7,9,43]⟩
def aaw:AS:=⟨[(2,.ref 43),(3,iI v16),(4,.ptr 4 0),(5,.ptr 5 0),(6,.bool v17),(7,.ptr 7 0),(9,.ptr 9 0),(10,.sl (lm aG v1)),(11,iI (v1.length:Int)),(12,iI v18)],[(4,bS v19),(5,bS cI),(7,bS v22),(9,aH ({ (gD v1 v18)with Y:=v24 }:ah))],[(43,⟨59,67,lm aG v21⟩)],[4,5,7,9,43]⟩
def aae:AS:=⟨[(2,.ref 43),(3,iI v16),(4,.ptr 4 0),(5,.ptr 5 0),(6,.bool v17),(7,.ptr 7 0)],[(4,bS v30),(5,bS cI),(7,bS v20)],[(43,⟨59,67,lm aG v21⟩)],[4,5,7,43]⟩
def GN:AS:=⟨[(2,.ref 43),(3,iI v16),(4,.ptr 4 0),(5,.ptr 5 0),(6,.bool v17),(7,.ptr 7 0),(10,.sl (lm aG v1)),(11,iI (v1.length:Int)),(12,iI v18)],[(4,bS v19),(5,bS cI),(7,bS v20)],[(43,⟨59,67,lm aG v21⟩)],[4,5,7,43]⟩
abbrev wC:Prop:=∀{v16:Int} {v17:Bool} {v18:Int} {v19:ax} {v20:ax} {v21:(List ah)},L1 v16 v17 v18 v19 v20 v21=some r→LP (Fn M w0) (AB M w0 r) BE (cat Tryz.f97 (pn 244)) m1 (GN v1 v16 v17 v18 v19 v20 v21)
variable{M w0 r v1 v16 v17 v18 v19 v20 v21 v22 v24 v25 v26 v27 v28 v29 v30 m1 L1}{K:Kn}{n:Nat}
theorem Is(hK:am K)(hL1:wC M w0 r v1 m1 L1)(h:oB K n v1 v18 v21 v24 L1 v26 v27 v28 v29=some r):uw M w0 r (ke 125343 :: .b 1::ke 1959::Af M w0 r m1) (aaL v1 v18 v21 v24 v26 v27 v28 v29):=by
 unfold oB at h;refine aj 2 (aB (fB aG ([({ (gD v1 v18)with Y:=v24 }:ah)]:List ah) (new:=[aH ({ (gD v1 v18)with Y:=v24 }:ah)]) (by simp only[List.map_cons,List.map_nil,dc])) ?_);obtain⟨h22,h⟩:=aK h;exact aB (cD 43 43 59 67 aG (rfl) (fc) h22) (ac (ae 2 (bt (hL1 h))))
theorem KM(hK:am K)(hL1:wC M w0 r v1 m1 L1)(h:pe K n v1 v18 v21 v22 v24 L1 v25=some r):uw M w0 r (ke 1002741::ke 125343 :: .b 1::ke 1959::Af M w0 r m1) (aaf v1 v18 v21 v22 v24 v25):=by
 unfold pe at h;exact ae 5 (Is hK hL1 h)
theorem Ha(hK:am K)(hL1:wC M w0 r v1 m1 L1)(h:o9 K n v1 v16 v17 v18 v19 v21 v22 L1 v24=some r):uw M w0 r (ke 62671 :: .b 1::ke 1959::Af M w0 r m1) (aaw v1 v16 v17 v18 v19 v21 v22 v24):=by
 unfold o9 at h;refine az 5 3 3 ?_;obtain⟨h20,h⟩|⟨h20,h⟩:=ak h
 ·refine ag 30 h20 (az 9 5 4 ?_);obtain⟨h21,h⟩|⟨h21,h⟩:=ak h
  ·exact ag 31 h21 (ae 2 (KM hK hL1 h))
  ·exact ag 31 h21 (ae 2 (KM hK hL1 h))
 ·exact ag 30 h20 (ae 2 (Is hK hL1 h))
theorem HN(hK:am K)(h:oU K n v16 v17 v20 v21 v30=some r):uw M w0 r [ke 63] (aae v16 v17 v20 v21 v30):=by
 unfold oU at h;refine az 2 3 1 (bI [2,3,4,5,6,7] [4,5,7] [43] (bF 5 (nu 47 [.ref 43,iI v16,.agg (bS v30),.agg (bS v20),.bool v17]) [] [] [bR Tryz.prog 52 Tryz.f97 (pn 126) 5,bR Tryz.prog 52 Tryz.f97 (pn 126) 6,bR Tryz.prog 52 Tryz.f97 (pn 126) 7,bR Tryz.prog 52 Tryz.f97 (pn 126) 8,bR Tryz.prog 52 Tryz.f97 (pn 126) 9] (av [.v 0 1,.v 0 2,.v 0 3,.v 0 4,.v 0 5] (ab (bQ 0) (ab (bQ 1) (ab (bQ 2) (ab (bQ 3) (ab (bQ 4) bG)))))) (aE 1 ?_)));cases h;exact vp
theorem SG(hK:am K)(hL1:wC M w0 r v1 m1 L1)(h:qd K n v1 L1 v16 v17 v18 v19 v20 v21=some r):uw M w0 r (ke 244::Af M w0 r m1) (GN v1 v16 v17 v18 v19 v20 v21):=by
 unfold qd at h;refine az 6 7 3 ?_;obtain⟨h15,h⟩|⟨h15,h⟩:=ak h
 ·refine ag 13 h15 (cQ 8 9 1 3 5 (aj 0 ?_));obtain⟨h16,h⟩:=aK h;refine aB (bw aG aH h16 (fc) (dc)) (ac (az 2 3 1 (aj 3 ?_)));obtain⟨v22,h17,h⟩:=bind_some h;refine aD (vt hK h17) (ac (az 13 7 5 ?_));obtain⟨h18,h⟩|⟨h18,h⟩:=ak h
  ·refine ag 22 h18 (bh 2 1 (aj 2 ?_));obtain⟨v23,h19,h⟩:=bind_some h;exact aD (rq hK h19) (ac (ae 0 (Ha hK hL1 h)))
  ·exact ag 22 h18 (ae 2 (Ha hK hL1 h))
 ·refine ag 13 h15 (kx 5 3 8 ?_);obtain⟨h23,h⟩|⟨h23,h⟩:=ak h
  ·exact ag 45 h23 (ae 2 (HN hK h))
  ·exact ag 45 h23 (ae 2 (HN hK h))
theorem S0(hK:am K)(m:Nat):wC M w0 r v1 m (iR K n v1 m):=by
 induction m with
 | zero=>intro v16 v17 v18 v19 v20 v21 h;cases h
 | succ m ih=>intro v16 v17 v18 v19 v20 v21 h;have h:qd K n v1 (iR K n v1 m) v16 v17 v18 v19 v20 v21=some r:=h;exact bp (SG hK ih h)
theorem aa3(hK:am K)(h:nZ K n v1=some r):aO Tryz.prog 97 [.sl (lm aG v1)] (fun v s=>v=.tup [.ref 43,iI r.2.1,.agg (bS r.2.2.1),.agg (bS r.2.2.2.1),.bool r.2.2.2.2]∧look 43 s.r=some ⟨59,67,lm aG r.1⟩):=by
 refine bg (cat Tryz.f97 (pn 1)) Tryz.func97 Tryz.ntmps97 fun M w0=>(bc ⟨[(0,.sl (lm aG v1))],[],[],[]⟩ ?_);unfold nZ at h;exact bH 60 61 31 8 (aj 1 (aB (bq aG v1) (ac (jF 2 0 1 (bI [2,3,4,5,6,7,10,11,12] [4,5,7] [] (fh 43 2 59 67 (ae 0 (cf (p:=pn 122) n (S0 hK n h)))))))))
end
noncomputable section
variable(M:Nat→Prop)(w0:aF)(r v1:List ah)  
variable{M w0 r v1}{K:Kn}{n:Nat}
theorem QB(hK:am K)(h:nK K n v1=some r):aO Tryz.prog 98 [.sl (lm aG v1)] (fun v s=>v=.ref 5∧look 5 s.r=some ⟨59,67,lm aG r⟩):=by
 refine bg (cat Tryz.f98 (pn 1)) Tryz.func98 Tryz.ntmps98 fun M w0=>(bc ⟨[(0,.sl (lm aG v1))],[],[],[]⟩ ?_);unfold nK at h;refine bH 12 13 7 4 (aj 1 ?_);refine Yv (bd Tryz.f98 (pn 12) 1) (.eql) 44 44 (.tmp 3) (.const (.slice none 0 0)) 4 (lm aG v1) (r:=aX Tryz.f98 (pn 12) 2) (e:=59) (by kernel_rfl) (by kernel_rfl) (by kernel_rfl) (by kernel_rfl) (by kernel_rfl) (by kernel_rfl) (by kernel_rfl) (by kernel_rfl) (fun hq=>?_) ?_
 ·have h:=Xm (by simpa using hq) h;refine ac (aE 5 (fh 5 2 59 67 ?_));cases h;exact fa
 ·have h:=Tq h;refine ac (dB 2 3 3 (aj 0 (Yu 44 5 (e:=59) (sz:=67) (aL 2 1 ?_))));obtain⟨h2,h⟩:=aK h;refine aB (cD 7 5 59 67 aG (rfl) (fc) h2) (ac (aE 1 ?_));cases h;exact fa
end
noncomputable section
variable(M:Nat→Prop)(w0:aF)(r:ax)(v1:Int)  
variable{M w0 r v1}{K:Kn}{n:Nat}
theorem L7(hK:am K)(h:sV K n v1=some r):aO Tryz.prog 99 [iI v1] (fun v _=>v=.agg (bS r)):=by
 refine bg (cat Tryz.f99 (pn 1)) Tryz.func99 Tryz.ntmps99 fun M w0=>(bc ⟨[(0,iI v1)],[],[],[]⟩ ?_);unfold sV at h;refine aE 5 ?_;cases h;exact ba
end
noncomputable section
variable(M:Nat→Prop)(w0:aF)(r:Int)(v1:aV)  
variable{M w0 r v1}{K:Kn}{n:Nat}
theorem Tw(hK:am K)(h:zp K n v1=some r):aO Tryz.prog 101 [.agg (bm v1)] (fun v _=>v=iI r):=by
 refine bg (cat Tryz.f101 (pn 1)) Tryz.func101 Tryz.ntmps101 fun M w0=>(bc ⟨[(0,.agg (bm v1))],[],[],[]⟩ ?_);unfold zp at h;refine aE 5 ?_;cases h;exact ba
end
noncomputable section
variable(M:Nat→Prop)(w0:aF)(r:Bool)(v1:ai)(v2:Bool)  
abbrev XF(n:Nat):aq:=.c (cat Tryz.f102 (pn n))
abbrev SF:Cx:=⟨Tryz.prog,16,M,w0⟩
abbrev Yk:=bodyPost Tryz.prog Tryz.f102 (bu M w0 (fun v _=>v=.bool r))
abbrev Y2(ks:List aq)(s:AS):=VE (SF M w0) (Yk M w0 r) ks .normal s
def Qi:AS:=⟨[(2,.bool v2)],[],[],[]⟩
variable{M w0 r v1 v2}{K:Kn}{n:Nat}
theorem Fq(hK:am K)(h:pi K n v2=some r):Y2 M w0 r [XF 7] (Qi v2):=by
 unfold pi at h;refine aE 1 ?_;cases h;exact ba
theorem Nf(hK:am K)(h:mS K n v1=some r):aO Tryz.prog 102 [.agg (aW v1)] (fun v _=>v=.bool r):=by
 refine bg (cat Tryz.f102 (pn 1)) Tryz.func102 Tryz.ntmps102 fun M w0=>(bc ⟨[(0,.agg (aW v1))],[],[],[]⟩ ?_);unfold mS at h;refine az 6 7 3 (aj 4 ?_);obtain⟨h1,h⟩|⟨h1,h⟩:=ak h
 ·exact aA 6 h1 (ac (ae 0 (Fq hK h)))
 ·refine aA 6 h1 (aL 9 5 ?_);obtain⟨h2,h⟩|⟨h2,h⟩:=ak h
  ·exact aA 11 h2 (ac (ae 0 (Fq hK h)))
  ·exact aA 11 h2 (ac (ae 0 (Fq hK h)))
end
end Go.Proofs.YtnpmlepplfaijaaGreat

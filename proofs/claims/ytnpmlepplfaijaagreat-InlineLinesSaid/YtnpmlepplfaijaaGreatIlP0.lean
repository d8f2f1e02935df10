/- The runs of the functions that InlineLines reaches do what their plain forms say, part 0. Made by a program. -/
import Derived.Test.YtnpmlepplfaijaaGreatIlGk
namespace Go.Proofs.YtnpmlepplfaijaaGreat
open Go.RowKit
set_option maxRecDepth 20000
set_option linter.all false
set_option linter.unusedVariables false
set_option linter.unusedSimpArgs false
noncomputable section
variable(M:Nat→Prop)(w0:aE)(r:cD)   
variable{M w0 r }{K:Kn}{n:Nat}
theorem yN(hK:am K)(h:oN K n=some r):aN Tryz.prog 10 [] (fun v _=>v=.agg (cW r)):=by
 refine bc (cat Tryz.f10 (pn 1)) Tryz.func10 Tryz.ntmps10 fun M w0=>(aZ ⟨[],[],[],[]⟩ ?_);unfold oN at h;refine aG 5 ?_;cases h;exact aV
end
noncomputable section
variable(M:Nat→Prop)(w0:aE)(r:Bool)(v1:ah)(v2:Bool)  
abbrev NT(n:Nat):ao:=.c (cat Tryz.f87 (pn n))
abbrev Tg:Cx:=⟨Tryz.prog,12,M,w0⟩
abbrev ZO:=bodyPost Tryz.prog Tryz.f87 (bq M w0 (fun v _=>v=.bool r))
abbrev NH(ks:List ao)(s:AS):=VE (Tg M w0) (ZO M w0 r) ks .normal s
def Pm:AS:=⟨[(2,.bool v2)],[],[],[]⟩
variable{M w0 r v1 v2}{K:Kn}{n:Nat}
theorem Hl(hK:am K)(h:ul K n v2=some r):NH M w0 r [NT 7] (Pm v2):=by
 unfold ul at h;refine aG 1 ?_;cases h;exact aV
theorem Hc(hK:am K)(h:fQ K n v1=some r):aN Tryz.prog 87 [.agg (aX v1)] (fun v _=>v=.bool r):=by
 refine bc (cat Tryz.f87 (pn 1)) Tryz.func87 Tryz.ntmps87 fun M w0=>(aZ ⟨[(0,.agg (aX v1))],[],[],[]⟩ ?_);unfold fQ at h;refine aw 6 7 3 (aj 4 ?_);obtain⟨h1,h⟩|⟨h1,h⟩:=ak h
 ·exact av 6 h1 (ac (ae 0 (Hl hK h)))
 ·exact av 6 h1 (ac (ae 0 (Hl hK h)))
end
noncomputable section
variable(M:Nat→Prop)(w0:aE)(r:List au)(v1:au)(v2:List au)(v3 v4 v5 v6:Bool)(v7:au)  
abbrev gy(n:Nat):ao:=.c (cat Tryz.f88 (pn n))
abbrev TR:Cx:=⟨Tryz.prog,72,M,w0⟩
abbrev OW:=bodyPost Tryz.prog Tryz.f88 (bq M w0 (fun v s=>v=.ref 9∧dt s.o []∧look 9 s.r=some ⟨101,5,lm aM r⟩))
abbrev uB(ks:List ao)(s:AS):=VE (TR M w0) (OW M w0 r) ks .normal s
def Wp:AS:=⟨[(0,.ref 9),(3,.ptr 3 0)],[(3,aM v7)],[(9,⟨101,5,lm aM v2⟩)],[3,9]⟩
def Nh:AS:=⟨[(0,.ref 9),(3,.ptr 3 0),(64,.bool v6)],[(3,aM v1)],[(9,⟨101,5,lm aM v2⟩)],[3,9]⟩
def MJ:AS:=⟨[(0,.ref 9),(3,.ptr 3 0),(5,.bool (v1.Box.Style.WhiteSpace == 2)),(32,.bool v5)],[(3,aM v1)],[(9,⟨101,5,lm aM v2⟩)],[3,9]⟩
def WE:AS:=⟨[(0,.ref 9),(3,.ptr 3 0),(5,.bool (v1.Box.Style.WhiteSpace == 2)),(24,.bool v4)],[(3,aM v1)],[(9,⟨101,5,lm aM v2⟩)],[3,9]⟩
def Xd:AS:=⟨[(0,.ref 9),(3,.ptr 3 0),(5,.bool (v1.Box.Style.WhiteSpace == 2)),(19,.bool v3)],[(3,aM v1)],[(9,⟨101,5,lm aM v2⟩)],[3,9]⟩
variable{M w0 r v1 v2 v3 v4 v5 v6 v7}{K:Kn}{n:Nat}
theorem BF(hK:am K)(h:nt K n v2 v7=some r):uB M w0 r [.b 1,gy 31] (Wp v2 v7):=by
 unfold nt at h;refine dU 6 7 4 (aj 3 ?_);obtain⟨h16,h⟩:=aL h;refine az (cp 71 9 101 5 aM (rfl) (dH) h16) (ac (aG 1 ?_));cases h;exact fB
theorem CA(hK:am K)(h:kj K n v1 v2 v6=some r):uB M w0 r [gy 15609,gy 7805,.b 1,gy 31] (Nh v1 v2 v6):=by
 unfold kj at h;obtain⟨h15,h⟩|⟨h15,h⟩:=ak h
 ·refine ag 64 h15 (aG 7 ?_);cases h;exact fB
 ·exact ag 64 h15 (ae 3 (BF hK h))
theorem Fa(hK:am K)(h:sM K n v1 v2 v5=some r):uB M w0 r [gy 487,.b 1,gy 31] (MJ v1 v2 v5):=by
 unfold sM at h;obtain⟨h9,h⟩|⟨h9,h⟩:=ak h
 ·refine ag 32 h9 (aG 6 ?_);cases h;exact fB
 ·refine ag 32 h9 (bh 7 3 ?_);obtain⟨h10,h⟩|⟨h10,h⟩:=ak h
  ·refine ag 40 h10 (bK 8 9 5 3 (aj 1 (az (bv aM v2) (aJ 4 2 ?_))));obtain⟨h11,h⟩|⟨h11,h⟩:=ak h
   ·exact av 46 h11 (ac (ae 0 (CA hK h)))
   ·refine av 46 h11 (aJ 6 2 (az (bv aM v2) (aJ 8 1 ?_)));obtain⟨h12,h⟩:=aL h;refine az (dh 9 5 aM h12) (aJ 10 1 (az (co 4 3 aM aM (ci h12).2 ((fun _=>rfl))) (aJ 13 2 ?_)));obtain⟨h13,h⟩|⟨h13,h⟩:=ak h
    ·exact av 55 h13 (ac (ae 0 (CA hK h)))
    ·refine av 55 h13 (aJ 15 2 (az (bv aM v2) (aJ 17 1 ?_)));obtain⟨h14,h⟩:=aL h;exact az (dh 9 5 aM h14) (aJ 19 1 (az (co 3 0 aM aM (ci h14).2 ((fun _=>rfl))) (ac (ae 0 (CA hK h)))))
  ·exact ag 40 h10 (ae 2 (BF hK h))
theorem K5(hK:am K)(h:sB K n v1 v2 v4=some r):uB M w0 r [gy 121,.b 1,gy 31] (WE v1 v2 v4):=by
 unfold sB at h;obtain⟨h7,h⟩|⟨h7,h⟩:=ak h
 ·exact ag 24 h7 (ae 2 (BF hK h))
 ·refine ag 24 h7 (aw 6 7 2 (aj 2 ?_));obtain⟨h8,h⟩|⟨h8,h⟩:=ak h
  ·exact av 34 h8 (ac (ae 0 (Fa hK h)))
  ·exact av 34 h8 (ac (ae 0 (Fa hK h)))
theorem yZ(hK:am K)(h:jG K n v1 v2 v3=some r):uB M w0 r [gy 117,.b 0,gy 15] (Xd v1 v2 v3):=by
 unfold jG at h;obtain⟨h4,h⟩|⟨h4,h⟩:=ak h
 ·refine ag 19 h4 (cz (ks':=[gy 120,gy 121,.b 1,gy 31]) 6 (aj 2 ?_));obtain⟨h6,h⟩|⟨h6,h⟩:=ak h
  ·exact av 26 h6 (ac (ae 0 (K5 hK h)))
  ·exact av 26 h6 (ac (ae 0 (K5 hK h)))
 ·refine ag 19 h4 (aw 6 7 2 (aj 3 ?_));obtain⟨h5,h⟩:=aL h;refine az (cp 18 9 101 5 aM (rfl) (dH) h5) (ac (aG 3 ?_));cases h;exact fB
theorem ZR(hK:am K)(h:uU K n v1 v2=some r):gm Tryz.prog 88 [.ref 9,.agg (aM v1)] [] 9 ⟨101,5,lm aM v2⟩ [9] (fun v s=>v=.ref 9∧dt s.o []∧look 9 s.r=some ⟨101,5,lm aM r⟩):=by
 refine pb (c:=cat Tryz.f88 (pn 1)) Tryz.func88 (by kernel_rfl) _ Tryz.ntmps88 (of_decide_eq_true (by kernel_rfl)) fun M w0=>(aZ ⟨[(0,.ref 9),(1,.agg (aM v1))],[],[(9,⟨101,5,lm aM v2⟩)],[9]⟩ ?_);unfold uU at h;refine c9 233 117 0 15 11 ?_;obtain⟨h1,h⟩|⟨h1,h⟩:=ak h
 ·exact ag 19 h1 (ae 2 (yZ hK h))
 ·refine ag 19 h1 (bh 7 3 ?_);obtain⟨h2,h⟩|⟨h2,h⟩:=ak h
  ·exact ag 19 h2 (ae 2 (yZ hK h))
  ·refine ag 19 h2 (bh 7 3 ?_);obtain⟨h3,h⟩|⟨h3,h⟩:=ak h
   ·exact ag 19 h3 (ae 2 (yZ hK h))
   ·exact ag 19 h3 (ae 2 (yZ hK h))
end
noncomputable section
variable(M:Nat→Prop)(w0:aE)(r:Int×(List au))(v1:List ah)(v2:Int)(v3:List au)(v10:Nat)(v23 v24:Int)(v25:List au)(v32 v36:Nat)(v37:List au)(v41:Int)(v42:List au)(v43:Int)(v44:List au)(m1 m2:Nat)(L1:Int→Int→(List au)→Option (Int×(List au)))(L2:Nat→(List au)→Option (Int×(List au)))
abbrev vt:Cx:=⟨Tryz.prog,69,M,w0⟩
abbrev sX:=bodyPost Tryz.prog Tryz.f86 (bq M w0 (fun v s=>v=.tup []∧dt s.o [(1,[iI r.1]),(2,[.fno 86 [.ptr 1 0,.ptr 2 0,.ptr 3 0]]),(3,[.ref 9])]∧look 9 s.r=some ⟨101,5,lm aM r.2⟩))
abbrev yY(ks:List ao)(s:AS):=VE (vt M w0) (sX M w0 r) ks .normal s
abbrev ga(n:Nat):ao:=.c (cat Tryz.f86 (pn n))
abbrev C1:List ao:=[.b 0]
abbrev lV:List ao:=kl (vt M w0) (sX M w0 r) C1 (cat Tryz.f86 (pn 12)) m1::C1
abbrev Aw:List ao:=.b 3 :: .b 2 :: .b 1::ga 103::lV M w0 r m1
abbrev J1:List ao:=kl (vt M w0) (sX M w0 r) (Aw M w0 r m1) (cat Tryz.f86 (pn 26867700)) m2::(Aw M w0 r m1)
def Ua:AS:=⟨[(0,.sl (lm aP v1)),(1,.ptr 1 0),(2,.ptr 2 0),(3,.ptr 3 0),(10,iI (v1.length:Int)),(11,iI v23)],[(1,[iI v43]),(2,[.fno 86 [.ptr 1 0,.ptr 2 0,.ptr 3 0]]),(3,[.ref 9])],[(9,⟨101,5,lm aM v44⟩)],[1,2,3,9,1000001,1,1000002,2,1000003,3]⟩
def Tq:AS:=⟨[(0,.sl (lm aP v1)),(1,.ptr 1 0),(2,.ptr 2 0),(3,.ptr 3 0),(10,iI (v1.length:Int)),(11,iI v23)],[(1,[iI v41]),(2,[.fno 86 [.ptr 1 0,.ptr 2 0,.ptr 3 0]]),(3,[.ref 9])],[(9,⟨101,5,lm aM v42⟩)],[1,2,3,9,1000001,1,1000002,2,1000003,3]⟩
def Ew:AS:=⟨[(0,.sl (lm aP v1)),(1,.ptr 1 0),(2,.ptr 2 0),(3,.ptr 3 0),(6,.cptr (aX (gD v1 v23))),(10,iI (v1.length:Int)),(11,iI v23),(58,.sit 320058 v32 ((gD v1 v23).Text) v36)],[(1,[iI (aa (v24+1))]),(2,[.fno 86 [.ptr 1 0,.ptr 2 0,.ptr 3 0]]),(3,[.ref 9])],[(9,⟨101,5,lm aM v37⟩)],[1,2,3,9,320058,1000001,1,1000002,2,1000003,3]⟩
def FL:AS:=⟨[(0,.sl (lm aP v1)),(1,.ptr 1 0),(2,.ptr 2 0),(3,.ptr 3 0),(10,iI (v1.length:Int)),(11,iI v23)],[(1,[iI v24]),(2,[.fno 86 [.ptr 1 0,.ptr 2 0,.ptr 3 0]]),(3,[.ref 9])],[(9,⟨101,5,lm aM v25⟩)],[1,2,3,9,1000001,1,1000002,2,1000003,3]⟩
abbrev qD:Prop:=∀{v23:Int} {v24:Int} {v25:(List au)},L1 v23 v24 v25=some r→LP (vt M w0) (sX M w0 r) C1 (cat Tryz.f86 (pn 12)) m1 (FL v1 v23 v24 v25)
abbrev H0:Prop:=∀{v36:Nat} {v37:(List au)},L2 v36 v37=some r→LP (vt M w0) (sX M w0 r) (Aw M w0 r m1) (cat Tryz.f86 (pn 26867700)) m2 (Ew v1 v23 v24 v32 v36 v37)
variable{M w0 r v1 v2 v3 v10 v23 v24 v25 v32 v36 v37 v41 v42 v43 v44 m1 m2 L1 L2}{K:Kn}{n:Nat}
theorem GD(hK:am K)(hL1:qD M w0 r v1 m1 L1)(h:kO K n v1 v23 L1 v43 v44=some r):yY M w0 r (ga 103::lV M w0 r m1) (Ua v1 v23 v43 v44):=by
 unfold kO at h;exact ae 1 (bt (hL1 h))
theorem tK(hK:am K)(hL1:qD M w0 r v1 m1 L1)(h:iY K n v1 v23 L1 v41 v42=some r):yY M w0 r (.b 2 :: .b 1::ga 103::lV M w0 r m1) (Tq v1 v23 v41 v42):=by
 unfold iY at h;exact ae 2 (GD hK hL1 h)
theorem U5(hK:am K)(hv32:w0.w.heap.size≤v32)(hL1:qD M w0 r v1 m1 L1)(hL2:H0 M w0 r v1 v23 v24 v32 m1 m2 L2)(h:rL K n v1 v23 v24 L1 L2 v36 v37=some r):yY M w0 r (ga 26867700::J1 M w0 r m1 m2) (Ew v1 v23 v24 v32 v36 v37):=by
 unfold rL at h;refine aw 2 3 1 (aj 0 ?_);obtain⟨h43,h⟩|⟨h43,h⟩:=ak h
 ·refine xO 58 (id:=320058) (g:=v32) h43 hv32 (ac ?_);obtain⟨v38,h44,h⟩:=bL h;obtain⟨v39,h45,h⟩:=bL h;refine bw (ks':=ga 429883213 :: .b 4::J1 M w0 r m1 m2) 6 ⟨[(0,.sl (lm aP v1)),(1,.ptr 1 0),(2,.ptr 2 0),(3,.ptr 3 0),(6,.cptr (aX (gD v1 v23))),(8,.int .i32 v38),(10,iI (v1.length:Int)),(11,iI v23),(58,.sit 320058 v32 ((gD v1 v23).Text) v39)],[(1,[iI (aa (v24+1))]),(2,[.fno 86 [.ptr 1 0,.ptr 2 0,.ptr 3 0]]),(3,[.ref 9])],[(9,⟨101,5,lm aM v37⟩)],[1,2,3,9,320058,1000001,1,1000002,2,1000003,3]⟩ ?_ (by subst h45;subst h44;kernel_rfl);refine aj 5 ?_;obtain⟨v40,h46,h⟩:=bind_some h;exact jL 9 9 [] (ZR hK h46) (ac (ae 1 (bt (hL2 h))))
 ·exact zd 58 (id:=320058) (g:=v32) h43 (ac (ae 6 (tK hK hL1 h)))
theorem Ou(hK:am K)(hv32:w0.w.heap.size≤v32)(hL1:qD M w0 r v1 m1 L1)(m:Nat):H0 M w0 r v1 v23 v24 v32 m1 m (qZ K n v1 v23 v24 L1 m):=by
 induction m with
 | zero=>intro v36 v37 h;cases h
 | succ m ih=>intro v36 v37 h;have h:rL K n v1 v23 v24 L1 (qZ K n v1 v23 v24 L1 m) v36 v37=some r:=h;exact bp (U5 hK hv32 hL1 ih h)
theorem Y4(hK:am K)(hL1:qD M w0 r v1 m1 L1)(h:qL K n v1 L1 v23 v24 v25=some r):yY M w0 r (ga 12::lV M w0 r m1) (FL v1 v23 v24 v25):=by
 unfold qL at h;refine aw 6 7 3 ?_;obtain⟨h24,h⟩|⟨h24,h⟩:=ak h
 ·refine ag 12 h24 (cE 18 19 1 3 7 (aj 2 ?_));obtain⟨h25,h⟩:=aL h;refine az (bN aP aX h25 (eW) (dC)) (ac (bK 4 5 3 2 (aj 3 ?_)));obtain⟨v26,h26,h⟩:=bind_some h;refine aD (Hc hK h26) (ac ?_);obtain⟨h27,h⟩|⟨h27,h⟩:=ak h
  ·exact ag 21 h27 (ae 4 (GD hK hL1 h))
  ·refine ag 21 h27 ?_;obtain⟨v27,h28,h⟩:=bL h;refine bw (ks':=ga 26237 :: .b 2 :: .b 1::ga 103::lV M w0 r m1) 9 ⟨[(0,.sl (lm aP v1)),(1,.ptr 1 0),(2,.ptr 2 0),(3,.ptr 3 0),(6,.cptr (aX (gD v1 v23))),(10,iI (v1.length:Int)),(11,iI v23),(27,iI ((gD v1 v23).Kind)),(28,.bool v27)],[(1,[iI (aa (v24+1))]),(2,[.fno 86 [.ptr 1 0,.ptr 2 0,.ptr 3 0]]),(3,[.ref 9])],[(9,⟨101,5,lm aM v25⟩)],[1,2,3,9,1000001,1,1000002,2,1000003,3]⟩ ?_ (by subst h28;kernel_rfl);obtain⟨h29,h⟩|⟨h29,h⟩:=ak h
   ·refine ag 28 h29 (bh 2 1 (bF [0,1,2,3,6,10,11] [1,2,3] [9] (ZB 5 0 [(30,.fno 86 [.ptr 1 0,.ptr 2 0,.ptr 3 0]),(31,.cptr (aX (gD v1 v23))),(32,.cptr (aX (gD v1 v23))),(33,.cptr (List.drop 58 (aX (gD v1 v23)))),(34,.sl (lm aP ((gD v1 v23).Kids)))] [] [] [] (ay (vz 5) (Db)) ?_)));obtain⟨v28,h30,h⟩:=bind_some h;exact jL 9 9 [(1,1),(2,2),(3,3)] (hK.xf h30) (ac (ae 0 (tK hK hL1 h)))
   ·refine ag 28 h29 ?_;obtain⟨v29,h31,h⟩:=bL h;refine bw (ks':=ga 104951 :: .b 2 :: .b 1::ga 103::lV M w0 r m1) 3 ⟨[(0,.sl (lm aP v1)),(1,.ptr 1 0),(2,.ptr 2 0),(3,.ptr 3 0),(6,.cptr (aX (gD v1 v23))),(10,iI (v1.length:Int)),(11,iI v23),(27,iI ((gD v1 v23).Kind)),(36,.bool v29)],[(1,[iI (aa (v24+1))]),(2,[.fno 86 [.ptr 1 0,.ptr 2 0,.ptr 3 0]]),(3,[.ref 9])],[(9,⟨101,5,lm aM v25⟩)],[1,2,3,9,1000001,1,1000002,2,1000003,3]⟩ ?_ (by subst h31;kernel_rfl);obtain⟨h32,h⟩|⟨h32,h⟩:=ak h
    ·refine ag 36 h32 (bh 2 1 (aj 5 ?_));obtain⟨h33,h⟩:=aL h;exact az (cp 43 9 101 5 aM (rfl) (dH) h33) (ac (ae 0 (tK hK hL1 h)))
    ·refine ag 36 h32 ?_;obtain⟨v30,h34,h⟩:=bL h;refine bw (ks':=ga 419807 :: .b 2 :: .b 1::ga 103::lV M w0 r m1) 3 ⟨[(0,.sl (lm aP v1)),(1,.ptr 1 0),(2,.ptr 2 0),(3,.ptr 3 0),(6,.cptr (aX (gD v1 v23))),(10,iI (v1.length:Int)),(11,iI v23),(27,iI ((gD v1 v23).Kind)),(44,.bool v30)],[(1,[iI (aa (v24+1))]),(2,[.fno 86 [.ptr 1 0,.ptr 2 0,.ptr 3 0]]),(3,[.ref 9])],[(9,⟨101,5,lm aM v25⟩)],[1,2,3,9,1000001,1,1000002,2,1000003,3]⟩ ?_ (by subst h34;kernel_rfl);obtain⟨h35,h⟩|⟨h35,h⟩:=ak h
     ·refine ag 44 h35 (bh 2 1 (aj 5 ?_));obtain⟨h36,h⟩:=aL h;exact az (cp 51 9 101 5 aM (rfl) (dH) h36) (ac (ae 0 (tK hK hL1 h)))
     ·refine ag 44 h35 ?_;obtain⟨v31,h37,h⟩:=bL h;refine bw (ks':=ga 1679231 :: .b 2 :: .b 1::ga 103::lV M w0 r m1) 3 ⟨[(0,.sl (lm aP v1)),(1,.ptr 1 0),(2,.ptr 2 0),(3,.ptr 3 0),(6,.cptr (aX (gD v1 v23))),(10,iI (v1.length:Int)),(11,iI v23),(52,.bool v31)],[(1,[iI (aa (v24+1))]),(2,[.fno 86 [.ptr 1 0,.ptr 2 0,.ptr 3 0]]),(3,[.ref 9])],[(9,⟨101,5,lm aM v25⟩)],[1,2,3,9,1000001,1,1000002,2,1000003,3]⟩ ?_ (by subst h37;kernel_rfl);obtain⟨h38,h⟩|⟨h38,h⟩:=ak h
      ·exact ag 52 h38 (aw 4 5 2 (aj 4 (wI 320058 (b:=((gD v1 v23).Text)) fun v32 hv32=>(ac (ae 1 (cd (p:=pn 13433850) n (Ou hK (v32:=v32) hv32 hL1 n h)))))))
      ·exact ag 52 h38 (ae 2 (tK hK hL1 h))
 ·refine ag 12 h24 (cz (ks':=[]) 5 (Yl ?_));cases h;exact C2
theorem NP(hK:am K)(m:Nat):qD M w0 r v1 m (oq K n v1 m):=by
 induction m with
 | zero=>intro v23 v24 v25 h;cases h
 | succ m ih=>intro v23 v24 v25 h;have h:qL K n v1 (oq K n v1 m) v23 v24 v25=some r:=h;exact bp (Y4 hK ih h)
theorem J2(hK:am K)(h:jP K n v1 v2 v3=some r):gm Tryz.prog 86 [.sl (lm aP v1),.ptr 1 0,.ptr 2 0,.ptr 3 0] [(1,[iI v2]),(2,[.fno 86 [.ptr 1 0,.ptr 2 0,.ptr 3 0]]),(3,[.ref 9])] 9 ⟨101,5,lm aM v3⟩ [9,1,2,3,1000001,1000002,1000003] (fun v s=>v=.tup []∧dt s.o [(1,[iI r.1]),(2,[.fno 86 [.ptr 1 0,.ptr 2 0,.ptr 3 0]]),(3,[.ref 9])]∧look 9 s.r=some ⟨101,5,lm aM r.2⟩):=by
 refine pb (c:=cat Tryz.f86 (pn 1)) Tryz.func86 (by kernel_rfl) _ Tryz.ntmps86 (of_decide_eq_true (by kernel_rfl)) fun M w0=>(aZ ⟨[(0,.sl (lm aP v1)),(1,.ptr 1 0),(2,.ptr 2 0),(3,.ptr 3 0)],[(1,[iI v2]),(2,[.fno 86 [.ptr 1 0,.ptr 2 0,.ptr 3 0]]),(3,[.ref 9])],[(9,⟨101,5,lm aM v3⟩)],[9,1,2,3,1000001,1000002,1000003]⟩ ?_);unfold jP at h;exact aw 2 3 1 (aj 1 (az (bv aP v1) (ac (ae 1 (cd (p:=pn 6) n (NP hK n h))))))
end
noncomputable section
variable(M:Nat→Prop)(w0:aE)(r:List au)(v1:List ah)  
variable{M w0 r v1}{K:Kn}{n:Nat}
theorem ZQ(hK:am K)(h:td K n v1=some r):aN Tryz.prog 52 [.sl (lm aP v1)] (fun v s=>v=.ref 400003∧look 400003 s.r=some ⟨101,5,lm aM r⟩):=by
 refine bc (cat Tryz.f52 (pn 1)) Tryz.func52 Tryz.ntmps52 fun M w0=>(aZ ⟨[(0,.sl (lm aP v1))],[],[],[]⟩ ?_);unfold td at h;refine aw 62 63 9 (aj 0 (N4 86 #[(.tmp 4),(.tmp 5),(.tmp 3)] [.ptr 4 0,.ptr 5 0,.ptr 3 0] (ac (aw 2 3 1 (aj 2 (SZ 400003 3 0 101 5 ?_))))));obtain⟨v2,h1,h⟩:=bind_some h;refine jL 400003 9 [(4,1),(5,2),(3,3)] (J2 hK h1) (ac (aG 3 ?_));cases h;exact d9
end
noncomputable section
variable(M:Nat→Prop)(w0:aE)(r:Bool)(v1:au)(v2:Bool)  
abbrev Vk(n:Nat):ao:=.c (cat Tryz.f89 (pn n))
abbrev Q1:Cx:=⟨Tryz.prog,24,M,w0⟩
abbrev U1:=bodyPost Tryz.prog Tryz.f89 (bq M w0 (fun v _=>v=.bool r))
abbrev NV(ks:List ao)(s:AS):=VE (Q1 M w0) (U1 M w0 r) ks .normal s
def Qs:AS:=⟨[(2,.bool v2)],[],[],[]⟩
variable{M w0 r v1 v2}{K:Kn}{n:Nat}
theorem AW(hK:am K)(h:pY K n v2=some r):NV M w0 r [Vk 7] (Qs v2):=by
 unfold pY at h;refine aG 1 ?_;cases h;exact aV
theorem vD(hK:am K)(h:kS K n v1=some r):aN Tryz.prog 89 [.agg (aM v1)] (fun v _=>v=.bool r):=by
 refine bc (cat Tryz.f89 (pn 1)) Tryz.func89 Tryz.ntmps89 fun M w0=>(aZ ⟨[(0,.agg (aM v1))],[],[],[]⟩ ?_);unfold kS at h;refine aw 6 7 3 (aj 4 ?_);obtain⟨h1,h⟩|⟨h1,h⟩:=ak h
 ·refine av 6 h1 (aJ 13 9 ?_);obtain⟨h2,h⟩|⟨h2,h⟩:=ak h
  ·exact av 15 h2 (ac (ae 0 (AW hK h)))
  ·exact av 15 h2 (ac (ae 0 (AW hK h)))
 ·exact av 6 h1 (ac (ae 0 (AW hK h)))
end
noncomputable section
variable(M:Nat→Prop)(w0:aE)(r v1:Int)(v2 v3 v4 v5 v6:Bool)  
abbrev fw(n:Nat):ao:=.c (cat Tryz.f117 (pn n))
abbrev WG:Cx:=⟨Tryz.prog,73,M,w0⟩
abbrev aah:=bodyPost Tryz.prog Tryz.f117 (bq M w0 (fun v _=>v=iI r))
abbrev tr(ks:List ao)(s:AS):=VE (WG M w0) (aah M w0 r) ks .normal s
def S3:AS:=⟨[(72,.bool v6)],[],[],[]⟩
def Vv:AS:=⟨[(0,.int .i32 v1),(60,.bool v5)],[],[],[]⟩
def Te:AS:=⟨[(0,.int .i32 v1),(29,.int .i32 v1),(44,.bool v4)],[],[],[]⟩
def QD:AS:=⟨[(0,.int .i32 v1),(29,.int .i32 v1),(30,.bool v3)],[],[],[]⟩
def Xm:AS:=⟨[(0,.int .i32 v1),(3,.bool v2)],[],[],[]⟩
variable{M w0 r v1 v2 v3 v4 v5 v6}{K:Kn}{n:Nat}
theorem Ir(hK:am K)(h:rW K n v6=some r):tr M w0 r [fw 61,fw 31] (S3 v6):=by
 unfold rW at h;obtain⟨h44,h⟩|⟨h44,h⟩:=ak h
 ·refine ag 72 h44 (aG 5 ?_);cases h;exact aV
 ·refine ag 72 h44 (aG 5 ?_);cases h;exact aV
theorem rE(hK:am K)(h:gb K n v1 v5=some r):tr M w0 r [fw 1887,.b 1,fw 15] (Vv v1 v5):=by
 unfold gb at h;obtain⟨h42,h⟩|⟨h42,h⟩:=ak h
 ·refine ag 60 h42 (aG 6 ?_);cases h;exact aV
 ·refine ag 60 h42 (cz (ks':=[fw 60,fw 61,fw 31]) 5 (aj 3 ?_));obtain⟨h43,h⟩|⟨h43,h⟩:=ak h
  ·exact av 69 h43 (ac (ae 0 (Ir hK h)))
  ·exact av 69 h43 (ac (ae 0 (Ir hK h)))
theorem fD(hK:am K)(h:dz K n v1 v4=some r):tr M w0 r [fw 471,.b 1,fw 15] (Te v1 v4):=by
 unfold dz at h;obtain⟨h36,h⟩|⟨h36,h⟩:=ak h
 ·refine ag 44 h36 (aG 6 ?_);cases h;exact aV
 ·refine ag 44 h36 (aw 13 7 4 ?_);obtain⟨h37,h⟩|⟨h37,h⟩:=ak h
  ·exact ag 60 h37 (ae 2 (rE hK h))
  ·refine ag 60 h37 (bh 7 3 ?_);obtain⟨h38,h⟩|⟨h38,h⟩:=ak h
   ·exact ag 60 h38 (ae 2 (rE hK h))
   ·refine ag 60 h38 (bh 7 3 ?_);obtain⟨h39,h⟩|⟨h39,h⟩:=ak h
    ·exact ag 60 h39 (ae 2 (rE hK h))
    ·refine ag 60 h39 (bh 7 3 ?_);obtain⟨h40,h⟩|⟨h40,h⟩:=ak h
     ·exact ag 60 h40 (ae 2 (rE hK h))
     ·refine ag 60 h40 (bh 7 3 ?_);obtain⟨h41,h⟩|⟨h41,h⟩:=ak h
      ·exact ag 60 h41 (ae 2 (rE hK h))
      ·exact ag 60 h41 (ae 2 (rE hK h))
theorem gt(hK:am K)(h:dJ K n v1 v3=some r):tr M w0 r [fw 117,.b 1,fw 15] (QD v1 v3):=by
 unfold dJ at h;obtain⟨h21,h⟩|⟨h21,h⟩:=ak h
 ·refine ag 30 h21 (aG 6 ?_);cases h;exact aV
 ·refine ag 30 h21 (aw 13 7 4 ?_);obtain⟨h22,h⟩|⟨h22,h⟩:=ak h
  ·exact ag 44 h22 (ae 2 (fD hK h))
  ·refine ag 44 h22 (bh 7 3 ?_);obtain⟨h23,h⟩|⟨h23,h⟩:=ak h
   ·exact ag 44 h23 (ae 2 (fD hK h))
   ·refine ag 44 h23 (bh 7 3 ?_);obtain⟨h24,h⟩|⟨h24,h⟩:=ak h
    ·exact ag 44 h24 (ae 2 (fD hK h))
    ·refine ag 44 h24 (bh 7 3 ?_);obtain⟨h25,h⟩|⟨h25,h⟩:=ak h
     ·exact ag 44 h25 (ae 2 (fD hK h))
     ·refine ag 44 h25 (bh 7 3 ?_);obtain⟨h26,h⟩|⟨h26,h⟩:=ak h
      ·exact ag 44 h26 (ae 2 (fD hK h))
      ·refine ag 44 h26 (bh 7 3 ?_);obtain⟨h27,h⟩|⟨h27,h⟩:=ak h
       ·exact ag 44 h27 (ae 2 (fD hK h))
       ·refine ag 44 h27 (bh 7 3 ?_);obtain⟨h28,h⟩|⟨h28,h⟩:=ak h
        ·exact ag 44 h28 (ae 2 (fD hK h))
        ·refine ag 44 h28 (bh 7 3 ?_);obtain⟨h29,h⟩|⟨h29,h⟩:=ak h
         ·exact ag 44 h29 (ae 2 (fD hK h))
         ·refine ag 44 h29 (bh 7 3 ?_);obtain⟨h30,h⟩|⟨h30,h⟩:=ak h
          ·exact ag 44 h30 (ae 2 (fD hK h))
          ·refine ag 44 h30 (bh 7 3 ?_);obtain⟨h31,h⟩|⟨h31,h⟩:=ak h
           ·exact ag 44 h31 (ae 2 (fD hK h))
           ·refine ag 44 h31 (bh 7 3 ?_);obtain⟨h32,h⟩|⟨h32,h⟩:=ak h
            ·exact ag 44 h32 (ae 2 (fD hK h))
            ·refine ag 44 h32 (bh 7 3 ?_);obtain⟨h33,h⟩|⟨h33,h⟩:=ak h
             ·exact ag 44 h33 (ae 2 (fD hK h))
             ·refine ag 44 h33 (bh 7 3 ?_);obtain⟨h34,h⟩|⟨h34,h⟩:=ak h
              ·exact ag 44 h34 (ae 2 (fD hK h))
              ·refine ag 44 h34 (bh 7 3 ?_);obtain⟨h35,h⟩|⟨h35,h⟩:=ak h
               ·exact ag 44 h35 (ae 2 (fD hK h))
               ·exact ag 44 h35 (ae 2 (fD hK h))
theorem po(hK:am K)(h:gl K n v1 v2=some r):tr M w0 r [fw 25,.b 0,fw 7] (Xm v1 v2):=by
 unfold gl at h;obtain⟨h7,h⟩|⟨h7,h⟩:=ak h
 ·refine ag 3 h7 (aG 6 ?_);cases h;exact aV
 ·refine ag 3 h7 (bh 7 3 ?_);obtain⟨h8,h⟩|⟨h8,h⟩:=ak h
  ·refine ag 26 h8 (aG 6 ?_);cases h;exact aV
  ·refine ag 26 h8 (cz (ks':=[fw 233,fw 117,.b 1,fw 15]) 10 ?_);obtain⟨h9,h⟩|⟨h9,h⟩:=ak h
   ·exact ag 30 h9 (ae 2 (gt hK h))
   ·refine ag 30 h9 (bh 7 3 ?_);obtain⟨h10,h⟩|⟨h10,h⟩:=ak h
    ·exact ag 30 h10 (ae 2 (gt hK h))
    ·refine ag 30 h10 (bh 7 3 ?_);obtain⟨h11,h⟩|⟨h11,h⟩:=ak h
     ·exact ag 30 h11 (ae 2 (gt hK h))
     ·refine ag 30 h11 (bh 7 3 ?_);obtain⟨h12,h⟩|⟨h12,h⟩:=ak h
      ·exact ag 30 h12 (ae 2 (gt hK h))
      ·refine ag 30 h12 (bh 7 3 ?_);obtain⟨h13,h⟩|⟨h13,h⟩:=ak h
       ·exact ag 30 h13 (ae 2 (gt hK h))
       ·refine ag 30 h13 (bh 7 3 ?_);obtain⟨h14,h⟩|⟨h14,h⟩:=ak h
        ·exact ag 30 h14 (ae 2 (gt hK h))
        ·refine ag 30 h14 (bh 7 3 ?_);obtain⟨h15,h⟩|⟨h15,h⟩:=ak h
         ·exact ag 30 h15 (ae 2 (gt hK h))
         ·refine ag 30 h15 (bh 7 3 ?_);obtain⟨h16,h⟩|⟨h16,h⟩:=ak h
          ·exact ag 30 h16 (ae 2 (gt hK h))
          ·refine ag 30 h16 (bh 7 3 ?_);obtain⟨h17,h⟩|⟨h17,h⟩:=ak h
           ·exact ag 30 h17 (ae 2 (gt hK h))
           ·refine ag 30 h17 (bh 7 3 ?_);obtain⟨h18,h⟩|⟨h18,h⟩:=ak h
            ·exact ag 30 h18 (ae 2 (gt hK h))
            ·refine ag 30 h18 (bh 7 3 ?_);obtain⟨h19,h⟩|⟨h19,h⟩:=ak h
             ·exact ag 30 h19 (ae 2 (gt hK h))
             ·refine ag 30 h19 (bh 7 3 ?_);obtain⟨h20,h⟩|⟨h20,h⟩:=ak h
              ·exact ag 30 h20 (ae 2 (gt hK h))
              ·exact ag 30 h20 (ae 2 (gt hK h))
theorem LG(hK:am K)(h:gJ K n v1=some r):aN Tryz.prog 117 [.int .i32 v1] (fun v _=>v=iI r):=by
 refine bc (cat Tryz.f117 (pn 1)) Tryz.func117 Tryz.ntmps117 fun M w0=>(aZ ⟨[(0,.int .i32 v1)],[],[],[]⟩ ?_);unfold gJ at h;refine c9 24 25 0 7 5 (aj 3 ?_);obtain⟨h1,h⟩|⟨h1,h⟩:=ak h
 ·exact av 6 h1 (ac (ae 0 (po hK h)))
 ·refine av 6 h1 (aJ 7 4 ?_);obtain⟨h2,h⟩|⟨h2,h⟩:=ak h
  ·exact av 10 h2 (ac (ae 0 (po hK h)))
  ·refine av 10 h2 (aJ 10 3 ?_);obtain⟨h3,h⟩|⟨h3,h⟩:=ak h
   ·refine av 13 h3 (aJ 15 5 ?_);obtain⟨h4,h⟩|⟨h4,h⟩:=ak h
    ·exact av 18 h4 (ac (ae 0 (po hK h)))
    ·refine av 18 h4 (aJ 18 3 ?_);obtain⟨h5,h⟩|⟨h5,h⟩:=ak h
     ·exact av 21 h5 (ac (ae 0 (po hK h)))
     ·exact av 21 h5 (ac (ae 0 (po hK h)))
   ·refine av 13 h3 (aJ 18 8 ?_);obtain⟨h6,h⟩|⟨h6,h⟩:=ak h
    ·exact av 21 h6 (ac (ae 0 (po hK h)))
    ·exact av 21 h6 (ac (ae 0 (po hK h)))
end
noncomputable section
variable(M:Nat→Prop)(w0:aE)(r:Bool)(v1:Int)(v2:Bool)  
abbrev Ln(n:Nat):ao:=.c (cat Tryz.f126 (pn n))
abbrev WM:Cx:=⟨Tryz.prog,9,M,w0⟩
abbrev Ud:=bodyPost Tryz.prog Tryz.f126 (bq M w0 (fun v _=>v=.bool r))
abbrev UW(ks:List ao)(s:AS):=VE (WM M w0) (Ud M w0 r) ks .normal s
def T7:AS:=⟨[(4,.bool v2)],[],[],[]⟩
variable{M w0 r v1 v2}{K:Kn}{n:Nat}
theorem xp(hK:am K)(h:pc K n v2=some r):UW M w0 r [Ln 53,.b 0,Ln 7] (T7 v2):=by
 unfold pc at h;obtain⟨h4,h⟩|⟨h4,h⟩:=ak h
 ·refine ag 4 h4 (aG 6 ?_);cases h;exact aV
 ·refine ag 4 h4 (aG 6 ?_);cases h;exact aV
theorem HJ(hK:am K)(h:ry K n v1=some r):aN Tryz.prog 126 [.int .i32 v1] (fun v _=>v=.bool r):=by
 refine bc (cat Tryz.f126 (pn 1)) Tryz.func126 Tryz.ntmps126 fun M w0=>(aZ ⟨[(0,.int .i32 v1)],[],[],[]⟩ ?_);unfold ry at h;refine c9 105 53 0 7 9 ?_;obtain⟨h1,h⟩|⟨h1,h⟩:=ak h
 ·exact ag 4 h1 (ae 2 (xp hK h))
 ·refine ag 4 h1 (bh 7 3 ?_);obtain⟨h2,h⟩|⟨h2,h⟩:=ak h
  ·exact ag 4 h2 (ae 2 (xp hK h))
  ·refine ag 4 h2 (bh 7 3 ?_);obtain⟨h3,h⟩|⟨h3,h⟩:=ak h
   ·exact ag 4 h3 (ae 2 (xp hK h))
   ·exact ag 4 h3 (ae 2 (xp hK h))
end
noncomputable section
variable(M:Nat→Prop)(w0:aE)(r:Bool)(v1 v2:Int)(v5 v7 v8:Bool)  
abbrev oI(n:Nat):ao:=.c (cat Tryz.f114 (pn n))
abbrev TB:Cx:=⟨Tryz.prog,29,M,w0⟩
abbrev Uh:=bodyPost Tryz.prog Tryz.f114 (bq M w0 (fun v _=>v=.bool r))
abbrev CQ(ks:List ao)(s:AS):=VE (TB M w0) (Uh M w0 r) ks .normal s
def aam:AS:=⟨[(4,.bool v8)],[],[],[]⟩
def Ul:AS:=⟨[(0,.int .i32 v1),(1,.int .i32 v2),(16,.bool v7)],[],[],[]⟩
def Ry:AS:=⟨[(0,.int .i32 v1),(1,.int .i32 v2),(5,.bool v5)],[],[],[]⟩
variable{M w0 r v1 v2 v5 v7 v8}{K:Kn}{n:Nat}
theorem Ko(hK:am K)(h:uE K n v8=some r):CQ M w0 r [oI 15] (aam v8):=by
 unfold uE at h;refine aG 1 ?_;cases h;exact aV
theorem Ih(hK:am K)(h:vp K n v1 v2 v7=some r):CQ M w0 r [oI 415,.b 0,oI 7] (Ul v1 v2 v7):=by
 unfold vp at h;obtain⟨h8,h⟩|⟨h8,h⟩:=ak h
 ·refine ag 16 h8 (aG 6 ?_);cases h;exact aV
 ·refine ag 16 h8 (cz (ks':=[oI 14,oI 15]) 4 (aj 3 ?_));obtain⟨h9,h⟩|⟨h9,h⟩:=ak h
  ·exact av 25 h9 (ac (ae 0 (Ko hK h)))
  ·exact av 25 h9 (ac (ae 0 (Ko hK h)))
theorem Gy(hK:am K)(h:o5 K n v1 v2 v5=some r):CQ M w0 r [oI 25,.b 0,oI 7] (Ry v1 v2 v5):=by
 unfold o5 at h;obtain⟨h4,h⟩|⟨h4,h⟩:=ak h
 ·refine ag 5 h4 (aG 6 ?_);cases h;exact aV
 ·refine ag 5 h4 (aw 6 7 2 (aj 1 ?_));obtain⟨v6,h5,h⟩:=bind_some h;refine aD (HJ hK h5) (ac ?_);obtain⟨h6,h⟩|⟨h6,h⟩:=ak h
  ·refine ag 13 h6 (aG 6 ?_);cases h;exact aV
  ·refine ag 13 h6 (aw 6 7 2 (aj 3 ?_));obtain⟨h7,h⟩|⟨h7,h⟩:=ak h
   ·exact av 19 h7 (ac (ae 0 (Ih hK h)))
   ·exact av 19 h7 (ac (ae 0 (Ih hK h)))
theorem XH(hK:am K)(h:tU K n v1 v2=some r):aN Tryz.prog 114 [.int .i32 v1,.int .i32 v2] (fun v _=>v=.bool r):=by
 refine bc (cat Tryz.f114 (pn 1)) Tryz.func114 Tryz.ntmps114 fun M w0=>(aZ ⟨[(0,.int .i32 v1),(1,.int .i32 v2)],[],[],[]⟩ ?_);unfold tU at h;refine c9 24 25 0 7 5 (aj 1 ?_);obtain⟨v3,h1,h⟩:=bind_some h;refine aD (HJ hK h1) (aJ 3 1 ?_);obtain⟨h2,h⟩|⟨h2,h⟩:=ak h
 ·exact av 8 h2 (ac (ae 0 (Gy hK h)))
 ·refine av 8 h2 (aJ 4 1 ?_);obtain⟨v4,h3,h⟩:=bind_some h;exact aD (LG hK h3) (ac (ae 0 (Gy hK h)))
end
noncomputable section
variable(M:Nat→Prop)(w0:aE)(r:List Int)(v1:ByteArray)(v2:Nat)(v9:Int)(v10:Nat)(v11:List Int)(v13:Bool)(v14:List Int)(m1:Nat)(L1:Int→Nat→(List Int)→Option (List Int))
abbrev zy:Cx:=⟨Tryz.prog,26,M,w0⟩
abbrev Ad:=bodyPost Tryz.prog Tryz.f90 (bq M w0 (fun v s=>v=.ref 23∧look 23 s.r=some ⟨3,1,lm (br .i64) r⟩))
abbrev Bl(ks:List ao)(s:AS):=VE (zy M w0) (Ad M w0 r) ks .normal s
abbrev nk(n:Nat):ao:=.c (cat Tryz.f90 (pn n))
abbrev Dj:List ao:=[.b 0,nk 31]
abbrev yr:List ao:=kl (zy M w0) (Ad M w0 r) Dj (cat Tryz.f90 (pn 244)) m1::Dj
def XS:AS:=⟨[(3,.ref 23),(6,.int .i32 ((Utf8.decode v1 v10).1:Int)),(8,.sit 320008 v2 v1 (v10+(Utf8.decode v1 v10).2))],[],[(23,⟨3,1,lm (br .i64) v14⟩)],[23,320008]⟩
def O6:AS:=⟨[(3,.ref 23),(5,iI ((v10:Nat):Int)),(6,.int .i32 ((Utf8.decode v1 v10).1:Int)),(8,.sit 320008 v2 v1 (v10+(Utf8.decode v1 v10).2)),(19,.bool v13)],[],[(23,⟨3,1,lm (br .i64) v11⟩)],[23,320008]⟩
def II:AS:=⟨[(3,.ref 23),(4,.int .i32 v9),(8,.sit 320008 v2 v1 v10)],[],[(23,⟨3,1,lm (br .i64) v11⟩)],[23,320008]⟩
abbrev zg:Prop:=∀{v9:Int} {v10:Nat} {v11:(List Int)},L1 v9 v10 v11=some r→LP (zy M w0) (Ad M w0 r) Dj (cat Tryz.f90 (pn 244)) m1 (II v1 v2 v9 v10 v11)
variable{M w0 r v1 v2 v9 v10 v11 v13 v14 m1 L1}{K:Kn}{n:Nat}
theorem El(hK:am K)(hv2:w0.w.heap.size≤v2)(hL1:zg M w0 r v1 v2 m1 L1)(h:ox K n v1 v10 L1 v14=some r):Bl M w0 r (nk 7835 :: .b 1::yr M w0 r m1) (XS v1 v2 v10 v14):=by
 unfold ox at h;exact ae 2 (bt (hL1 h))
theorem Ls(hK:am K)(hv2:w0.w.heap.size≤v2)(hL1:zg M w0 r v1 v2 m1 L1)(h:o9 K n v1 v10 v11 L1 v13=some r):Bl M w0 r (nk 15669::nk 7835 :: .b 1::yr M w0 r m1) (O6 v1 v2 v10 v11 v13):=by
 unfold o9 at h;obtain⟨h14,h⟩|⟨h14,h⟩:=ak h
 ·refine ag 19 h14 (bh 2 1 (aj 3 ?_));obtain⟨h15,h⟩:=aL h;exact az (cp 23 23 3 1 (br .i64) (rfl) ((fun _=>rfl)) h15) (ac (ae 0 (El hK (v2:=v2) hv2 hL1 h)))
 ·exact ag 19 h14 (ae 2 (El hK (v2:=v2) hv2 hL1 h))
theorem aas(hK:am K)(hv2:w0.w.heap.size≤v2)(hL1:zg M w0 r v1 v2 m1 L1)(h:jI K n v1 L1 v9 v10 v11=some r):Bl M w0 r (nk 244::yr M w0 r m1) (II v1 v2 v9 v10 v11):=by
 unfold jI at h;refine aw 2 3 1 (aj 0 ?_);obtain⟨h11,h⟩|⟨h11,h⟩:=ak h
 ·refine xO 8 (id:=320008) (g:=v2) h11 hv2 (ac (cz (ks':=nk 15668::nk 15669::nk 7835 :: .b 1::yr M w0 r m1) 8 (aj 3 ?_)));obtain⟨h12,h⟩|⟨h12,h⟩:=ak h
  ·refine av 15 h12 (aJ 5 2 ?_);obtain⟨v12,h13,h⟩:=bind_some h;exact aD (XH hK h13) (ac (ae 0 (Ls hK (v2:=v2) hv2 hL1 h)))
  ·exact av 15 h12 (ac (ae 0 (Ls hK (v2:=v2) hv2 hL1 h)))
 ·refine zd 8 (id:=320008) (g:=v2) h11 (ac (aG 9 ?_));cases h;exact d9
theorem T9(hK:am K)(hv2:w0.w.heap.size≤v2)(m:Nat):zg M w0 r v1 v2 m (mO K n v1 m):=by
 induction m with
 | zero=>intro v9 v10 v11 h;cases h
 | succ m ih=>intro v9 v10 v11 h;have h:jI K n v1 (mO K n v1 m) v9 v10 v11=some r:=h;exact bp (aas hK hv2 ih h)
theorem Wt(hK:am K)(h:un K n v1=some r):aN Tryz.prog 90 [.str v1] (fun v s=>v=.ref 23∧look 23 s.r=some ⟨3,1,lm (br .i64) r⟩):=by
 refine bc (cat Tryz.f90 (pn 1)) Tryz.func90 Tryz.ntmps90 fun M w0=>(aZ ⟨[(0,.str v1)],[],[],[]⟩ ?_);unfold un at h;exact bK 60 61 31 8 (aj 1 (wI 320008 (b:=v1) fun v2 hv2=>(ac (jb 2 0 1 (bF [3,4,8] [] [] (eX 23 3 3 1 (ae 0 (cd (p:=pn 122) n (T9 hK (v2:=v2) hv2 n h)))))))))
end
noncomputable section
variable(M:Nat→Prop)(w0:aE)(r:Bool)(v1 v2:au)(v3 v7 v10:Bool)  
abbrev rN(n:Nat):ao:=.c (cat Tryz.f53 (pn n))
abbrev Og:Cx:=⟨Tryz.prog,61,M,w0⟩
abbrev Nz:=bodyPost Tryz.prog Tryz.f53 (bq M w0 (fun v _=>v=.bool r))
abbrev DV(ks:List ao)(s:AS):=VE (Og M w0) (Nz M w0 r) ks .normal s
def Zx:AS:=⟨[(4,.bool v7)],[],[],[]⟩
def Zg:AS:=⟨[(2,.ptr 2 0),(3,.ptr 3 0),(51,.bool v10)],[(2,aM v1),(3,aM v2)],[],[2,3]⟩
def V8:AS:=⟨[(2,.ptr 2 0),(3,.ptr 3 0),(12,.bool v3)],[(2,aM v1),(3,aM v2)],[],[2,3]⟩
variable{M w0 r v1 v2 v3 v7 v10}{K:Kn}{n:Nat}
theorem tw(hK:am K)(h:ms K n v7=some r):DV M w0 r [rN 53,rN 7] (Zx v7):=by
 unfold ms at h;refine aG 2 ?_;cases h;exact aV
theorem sY(hK:am K)(h:jp K n v1 v2 v10=some r):DV M w0 r [rN 29,rN 15] (Zg v1 v2 v10):=by
 unfold jp at h;obtain⟨h16,h⟩|⟨h16,h⟩:=ak h
 ·refine ag 51 h16 (aG 5 ?_);cases h;exact aV
 ·refine ag 51 h16 (dU 2 3 3 (aj 6 ?_));obtain⟨v11,h17,h⟩:=bind_some h;refine dm 1058 (Wt hK h17) (fH 23) (az (bv (br .i64) v11) (ac (aG 1 ?_)));cases h;exact aV
theorem FG(hK:am K)(h:mU K n v1 v2 v3=some r):DV M w0 r [rN 13,rN 7] (V8 v1 v2 v3):=by
 unfold mU at h;obtain⟨h2,h⟩|⟨h2,h⟩:=ak h
 ·refine ag 12 h2 (aw 4 5 2 (aj 4 ?_));obtain⟨h3,h⟩|⟨h3,h⟩:=ak h
  ·refine av 16 h3 (aJ 12 8 ?_);obtain⟨h4,h⟩|⟨h4,h⟩:=ak h
   ·exact av 24 h4 (ac (ae 0 (tw hK h)))
   ·refine av 24 h4 (aJ 13 1 ?_);obtain⟨v4,h5,h⟩:=bind_some h;exact aD (vD hK h5) (ac (ae 0 (tw hK h)))
  ·refine av 16 h3 (aJ 5 1 ?_);obtain⟨v5,h6,h⟩:=bind_some h;refine aD (vD hK h6) (aJ 8 2 ?_);obtain⟨h7,h⟩|⟨h7,h⟩:=ak h
   ·refine av 20 h7 (aJ 12 4 ?_);obtain⟨h8,h⟩|⟨h8,h⟩:=ak h
    ·exact av 24 h8 (ac (ae 0 (tw hK h)))
    ·refine av 24 h8 (aJ 13 1 ?_);obtain⟨v6,h9,h⟩:=bind_some h;exact aD (vD hK h9) (ac (ae 0 (tw hK h)))
   ·exact av 20 h7 (ac (ae 0 (tw hK h)))
 ·refine ag 12 h2 (gE 4 5 3 4 (aj 4 ?_));obtain⟨h10,h⟩|⟨h10,h⟩:=ak h
  ·exact av 32 h10 (ac (ae 0 (sY hK h)))
  ·refine av 32 h10 (aJ 9 5 ?_);obtain⟨h11,h⟩|⟨h11,h⟩:=ak h
   ·exact av 37 h11 (ac (ae 0 (sY hK h)))
   ·refine av 37 h11 (aJ 10 1 ?_);obtain⟨v8,h12,h⟩:=bind_some h;refine aD (vD hK h12) (aJ 14 3 ?_);obtain⟨h13,h⟩|⟨h13,h⟩:=ak h
    ·exact av 42 h13 (ac (ae 0 (sY hK h)))
    ·refine av 42 h13 (aJ 18 4 ?_);obtain⟨h14,h⟩|⟨h14,h⟩:=ak h
     ·refine av 46 h14 (aJ 19 1 ?_);obtain⟨v9,h15,h⟩:=bind_some h;exact aD (vD hK h15) (ac (ae 0 (sY hK h)))
     ·exact av 46 h14 (ac (ae 0 (sY hK h)))
theorem H2(hK:am K)(h:rb K n v1 v2=some r):aN Tryz.prog 53 [.agg (aM v1),.agg (aM v2)] (fun v _=>v=.bool r):=by
 refine bc (cat Tryz.f53 (pn 1)) Tryz.func53 Tryz.ntmps53 fun M w0=>(aZ ⟨[(0,.agg (aM v1)),(1,.agg (aM v2))],[],[],[]⟩ ?_);unfold rb at h;refine bK 12 13 7 4 (aj 4 ?_);obtain⟨h1,h⟩|⟨h1,h⟩:=ak h
 ·exact av 8 h1 (ac (ae 0 (FG hK h)))
 ·exact av 8 h1 (ac (ae 0 (FG hK h)))
end
noncomputable section
variable(M:Nat→Prop)(w0:aE)(r v1:Int)  
variable{M w0 r v1}{K:Kn}{n:Nat}
theorem yC(hK:am K)(h:mP K n v1=some r):aN Tryz.prog 85 [iI v1] (fun v _=>v=iI r):=by
 refine bc (cat Tryz.f85 (pn 1)) Tryz.func85 Tryz.ntmps85 fun M w0=>(aZ ⟨[(0,iI v1)],[],[],[]⟩ ?_);unfold mP at h;refine aG 5 ?_;cases h;exact aV
end
noncomputable section
variable(M:Nat→Prop)(w0:aE)(r v1:Int)  
variable{M w0 r v1}{K:Kn}{n:Nat}
theorem E0(hK:am K)(h:pI K n v1=some r):aN Tryz.prog 49 [iI v1] (fun v _=>v=iI r):=by
 refine bc (cat Tryz.f49 (pn 1)) Tryz.func49 Tryz.ntmps49 fun M w0=>(aZ ⟨[(0,iI v1)],[],[],[]⟩ ?_);unfold pI at h;refine aw 6 7 3 (aj 1 ?_);obtain⟨v2,h1,h⟩:=bind_some h;refine aD (yC hK h1) (ac (aG 1 ?_));cases h;exact aV
end
noncomputable section
variable(M:Nat→Prop)(w0:aE)(r v1:Int)  
variable{M w0 r v1}{K:Kn}{n:Nat}
theorem Eu(hK:am K)(h:re K n v1=some r):aN Tryz.prog 50 [iI v1] (fun v _=>v=iI r):=by
 refine bc (cat Tryz.f50 (pn 1)) Tryz.func50 Tryz.ntmps50 fun M w0=>(aZ ⟨[(0,iI v1)],[],[],[]⟩ ?_);unfold re at h;refine aw 6 7 3 (aj 1 ?_);obtain⟨v2,h1,h⟩:=bind_some h;refine aD (yC hK h1) (aJ 3 1 ?_);obtain⟨v3,h2,h⟩:=bind_some h;refine aD (yC hK h2) (ac (aG 1 ?_));cases h;exact aV
end
noncomputable section
variable(M:Nat→Prop)(w0:aE)(r:Int×Int)(v1:aF)  
variable{M w0 r v1}{K:Kn}{n:Nat}
theorem xe(hK:am K)(h:i7 K n v1=some r):aN Tryz.prog 20 [.agg (aI v1)] (fun v _=>v=.tup [iI r.1,iI r.2]):=by
 refine bc (cat Tryz.f20 (pn 1)) Tryz.func20 Tryz.ntmps20 fun M w0=>(aZ ⟨[(0,.agg (aI v1))],[],[],[]⟩ ?_);unfold i7 at h;refine aw 14 15 5 (bF [1,4] [1] [] ?_);obtain⟨v2,h1,h⟩:=bind_some h;obtain⟨v3,h2,h⟩:=bind_some h;refine bP 1 (nu 8 [.ptr 1 37,iI v1.FontSize,iI v2,iI (max v1.LineHeight 0),.ptr 1 37,iI v1.FontSize,iI v3,iI (aa ((max v1.LineHeight 0)-v3)),iI ((aa ((max v1.LineHeight 0)-v3)) / 2),iI (aa (v2+((aa ((max v1.LineHeight 0)-v3)) / 2)))]) [] [] [bR Tryz.prog 22 Tryz.f20 (pn 14) 10] (ay (vz 2) (ai (bU 0 1 10 (E0 hK h1)) (ay (vz 3) (ai (bU 0 1 14 (Eu hK h2)) (ay (vz 3) (ai (bS 0) bO)))))) (aG 3 ?_);cases h;exact d8
end
noncomputable section
variable(M:Nat→Prop)(w0:aE)(r:List Int)(v1:Int)(v2:List Int)(v3 v4:Bool)  
abbrev JZ(n:Nat):ao:=.c (cat Tryz.f128 (pn n))
abbrev Sf:Cx:=⟨Tryz.prog,78,M,w0⟩
abbrev Rn:=bodyPost Tryz.prog Tryz.f128 (bq M w0 (fun v s=>v=.ref 9∧dt s.o []∧look 9 s.r=some ⟨5,1,lm (br .u8) r⟩))
abbrev KC(ks:List ao)(s:AS):=VE (Sf M w0) (Rn M w0 r) ks .normal s
def Pw:AS:=⟨[(0,.ref 9),(1,.int .i32 v1),(50,.bool v4)],[],[(9,⟨5,1,lm (br .u8) v2⟩)],[9]⟩
def Q3:AS:=⟨[(0,.ref 9),(1,.int .i32 v1),(5,.int .u32 (IntKind.wrap .u32 v1)),(25,.bool v3)],[],[(9,⟨5,1,lm (br .u8) v2⟩)],[9]⟩
variable{M w0 r v1 v2 v3 v4}{K:Kn}{n:Nat}
theorem FA(hK:am K)(h:u0 K n v1 v2 v4=some r):KC M w0 r [JZ 479,.b 0] (Pw v1 v2 v4):=by
 unfold u0 at h;obtain⟨h8,h⟩|⟨h8,h⟩:=ak h
 ·refine ag 50 h8 (aw 4 5 2 (aj 20 ?_));obtain⟨h9,h⟩:=aL h;refine az (cp 77 9 5 1 (br .u8) (rfl) ((fun _=>rfl)) h9) (ac (aG 2 ?_));cases h;exact fB
 ·refine ag 50 h8 (aw 6 7 2 (aj 2 ?_));obtain⟨h10,h⟩:=aL h;refine az (cp 10 9 5 1 (br .u8) (rfl) ((fun _=>rfl)) h10) (ac (aG 2 ?_));cases h;exact fB
theorem AI(hK:am K)(h:mC K n v1 v2 v3=some r):KC M w0 r [JZ 119,.b 0] (Q3 v1 v2 v3):=by
 unfold mC at h;obtain⟨h5,h⟩|⟨h5,h⟩:=ak h
 ·refine ag 25 h5 (aw 4 5 2 (aj 15 ?_));obtain⟨h6,h⟩:=aL h;refine az (cp 49 9 5 1 (br .u8) (rfl) ((fun _=>rfl)) h6) (ac (aG 2 ?_));cases h;exact fB
 ·refine ag 25 h5 (aw 6 7 2 (aj 3 ?_));obtain⟨h7,h⟩|⟨h7,h⟩:=ak h
  ·exact av 53 h7 (ac (ae 0 (FA hK h)))
  ·exact av 53 h7 (ac (ae 0 (FA hK h)))
theorem MV(hK:am K)(h:qq K n v1 v2=some r):gm Tryz.prog 128 [.ref 9,.int .i32 v1] [] 9 ⟨5,1,lm (br .u8) v2⟩ [9] (fun v s=>v=.ref 9∧dt s.o []∧look 9 s.r=some ⟨5,1,lm (br .u8) r⟩):=by
 refine pb (c:=cat Tryz.f128 (pn 1)) Tryz.func128 (by kernel_rfl) _ Tryz.ntmps128 (of_decide_eq_true (by kernel_rfl)) fun M w0=>(aZ ⟨[(0,.ref 9),(1,.int .i32 v1)],[],[(9,⟨5,1,lm (br .u8) v2⟩)],[9]⟩ ?_);unfold qq at h;refine jb 29 0 7 ?_;obtain⟨h1,h⟩|⟨h1,h⟩:=ak h
 ·refine ag 11 h1 (aw 4 5 2 (aj 10 ?_));obtain⟨h2,h⟩:=aL h;refine az (cp 24 9 5 1 (br .u8) (rfl) ((fun _=>rfl)) h2) (ac (aG 2 ?_));cases h;exact fB
 ·refine ag 11 h1 (aw 13 7 4 ?_);obtain⟨h3,h⟩|⟨h3,h⟩:=ak h
  ·exact ag 25 h3 (ae 2 (AI hK h))
  ·refine ag 25 h3 (bh 3 1 (aj 3 ?_));obtain⟨h4,h⟩|⟨h4,h⟩:=ak h
   ·exact av 30 h4 (ac (ae 0 (AI hK h)))
   ·exact av 30 h4 (ac (ae 0 (AI hK h)))
end
noncomputable section
variable(M:Nat→Prop)(w0:aE)(r:List Int)(v1:Int)(v2:List Int)  
variable{M w0 r v1 v2}{K:Kn}{n:Nat}
theorem FI(hK:am K)(h:sE K n v1 v2=some r):gm Tryz.prog 116 [.ref 9,.int .i32 v1] [] 9 ⟨5,1,lm (br .u8) v2⟩ [9] (fun v s=>v=.ref 9∧dt s.o []∧look 9 s.r=some ⟨5,1,lm (br .u8) r⟩):=by
 refine pb (c:=cat Tryz.f116 (pn 1)) Tryz.func116 (by kernel_rfl) _ Tryz.ntmps116 (of_decide_eq_true (by kernel_rfl)) fun M w0=>(aZ ⟨[(0,.ref 9),(1,.int .i32 v1)],[],[(9,⟨5,1,lm (br .u8) v2⟩)],[9]⟩ ?_);unfold sE at h;refine aw 13 7 5 ?_;obtain⟨h1,h⟩|⟨h1,h⟩:=ak h
 ·refine ag 7 h1 (aw 4 5 2 (aj 4 ?_));obtain⟨h2,h⟩:=aL h;refine az (cp 12 9 5 1 (br .u8) (rfl) ((fun _=>rfl)) h2) (ac (aG 2 ?_));cases h;exact fB
 ·refine ag 7 h1 (dU 2 3 3 (aj 2 ?_));obtain⟨v3,h3,h⟩:=bind_some h;refine jL 9 9 [] (MV hK h3) (ac (aG 1 ?_));cases h;exact fB
end
noncomputable section
variable(M:Nat→Prop)(w0:aE)(r:Int×Unit×(List Int))(v1:Int)(v2:Bool)(v3:List Int)  
variable{M w0 r v1 v2 v3}{K:Kn}{n:Nat}
theorem I3(hK:am K)(h:oG K n v1 v2 v3=some r):gm Tryz.prog 91 [.ptr 450132 0,.int .i32 v1] [(450132,[(tc v2 450132),.ref 9])] 9 ⟨5,1,lm (br .u8) v3⟩ [9,450132,1450132] (fun v s=>v=.tup [iI r.1,.vv .nilIface]∧dt s.o [(450132,[.ptr 450132 0,.ref 9])]∧look 9 s.r=some ⟨5,1,lm (br .u8) r.2.2⟩):=by
 refine pb (c:=cat Tryz.f91 (pn 1)) Tryz.func91 (by kernel_rfl) _ Tryz.ntmps91 (of_decide_eq_true (by kernel_rfl)) fun M w0=>(aZ ⟨[(0,.ptr 450132 0),(1,.int .i32 v1)],[(450132,[(tc v2 450132),.ref 9])],[(9,⟨5,1,lm (br .u8) v3⟩)],[9,450132,1450132]⟩ ?_);unfold oG at h;refine aw 6 7 3 (aj 1 ?_);rcases ak h with⟨h1,gh1⟩|⟨h1,gh1⟩
 ·subst h1;have h:=gh1;refine K9 450132 (b:=true) (c1:=.ref 9) (ac (aw 2 3 1 (aj 4 (az (bv (br .u8) v3) (ac (aw 2 3 1 (aj 6 ?_)))))));obtain⟨v4,h2,h⟩:=bind_some h;refine jL 9 9 [] (FI hK h2) (ac (aw 2 3 1 (aj 4 (az (bv (br .u8) v4) (ac (aG 1 ?_))))));cases h;exact C2
 ·subst h1;have h:=gh1;refine K9 450132 (b:=false) (c1:=.ref 9) (ac (aw 2 3 1 (aj 4 (az (bv (br .u8) v3) (ac (aw 2 3 1 (aj 6 ?_)))))));obtain⟨v5,h3,h⟩:=bind_some h;refine jL 9 9 [] (FI hK h3) (ac (aw 2 3 1 (aj 4 (az (bv (br .u8) v5) (ac (aG 1 ?_))))));cases h;exact C2
end
noncomputable section
variable(M:Nat→Prop)(w0:aE)(r:Int)(v1 v2:Int)  
variable{M w0 r v1 v2}{K:Kn}{n:Nat}
theorem B1(hK:am K)(h:mW K n v1 v2=some r):aN Tryz.prog 93 [.int .i32 v1,iI v2] (fun v _=>v=iI r):=by
 refine bc (cat Tryz.f93 (pn 1)) Tryz.func93 Tryz.ntmps93 fun M w0=>(aZ ⟨[(0,.int .i32 v1),(1,iI v2)],[],[],[]⟩ ?_);unfold mW at h;refine aw 6 7 3 (aj 1 ?_);obtain⟨v3,h1,h⟩:=bind_some h;refine aD (LG hK h1) (aJ 3 1 ?_);obtain⟨v4,h2,h⟩:=bind_some h;refine aD (yC hK h2) (ac (aG 1 ?_));cases h;exact aV
end
noncomputable section
variable(M:Nat→Prop)(w0:aE)(r:Int)(v1:ByteArray)(v2:Int)(v3:Nat)(v5:Int)(v6 m1:Nat)(L1:Int→Nat→Option Int)
abbrev Bw:Cx:=⟨Tryz.prog,19,M,w0⟩
abbrev CC:=bodyPost Tryz.prog Tryz.f94 (bq M w0 (fun v _=>v=iI r))
abbrev aak(ks:List ao)(s:AS):=VE (Bw M w0) (CC M w0 r) ks .normal s
abbrev Me(n:Nat):ao:=.c (cat Tryz.f94 (pn n))
abbrev Bb:List ao:=[.b 0,Me 15]
abbrev RF:List ao:=kl (Bw M w0) (CC M w0 r) Bb (cat Tryz.f94 (pn 116)) m1::Bb
def JO:AS:=⟨[(1,iI v2),(5,iI v5),(9,.sit 320009 v3 v1 v6)],[],[],[320009]⟩
abbrev FN:Prop:=∀{v5:Int} {v6:Nat},L1 v5 v6=some r→LP (Bw M w0) (CC M w0 r) Bb (cat Tryz.f94 (pn 116)) m1 (JO v1 v2 v3 v5 v6)
variable{M w0 r v1 v2 v3 v5 v6 m1 L1}{K:Kn}{n:Nat}
theorem O4(hK:am K)(hv3:w0.w.heap.size≤v3)(hL1:FN M w0 r v1 v2 v3 m1 L1)(h:qm K n v1 v2 L1 v5 v6=some r):aak M w0 r (Me 116::RF M w0 r m1) (JO v1 v2 v3 v5 v6):=by
 unfold qm at h;refine aw 2 3 1 (aj 0 ?_);obtain⟨h3,h⟩|⟨h3,h⟩:=ak h
 ·refine xO 9 (id:=320009) (g:=v3) h3 hv3 (ac (jb 13 1 6 (aj 3 ?_)));obtain⟨v7,h4,h⟩:=bind_some h;exact aD (B1 hK h4) (ac (ae 1 (bt (hL1 h))))
 ·refine zd 9 (id:=320009) (g:=v3) h3 (ac (aG 9 ?_));cases h;exact aV
theorem VZ(hK:am K)(hv3:w0.w.heap.size≤v3)(m:Nat):FN M w0 r v1 v2 v3 m (qN K n v1 v2 m):=by
 induction m with
 | zero=>intro v5 v6 h;cases h
 | succ m ih=>intro v5 v6 h;have h:qm K n v1 v2 (qN K n v1 v2 m) v5 v6=some r:=h;exact bp (O4 hK hv3 ih h)
theorem JC(hK:am K)(h:ot K n v1 v2=some r):aN Tryz.prog 94 [.str v1,iI v2] (fun v _=>v=iI r):=by
 refine bc (cat Tryz.f94 (pn 1)) Tryz.func94 Tryz.ntmps94 fun M w0=>(aZ ⟨[(0,.str v1),(1,iI v2)],[],[],[]⟩ ?_);unfold ot at h;exact bK 28 29 15 6 (aj 1 (wI 320009 (b:=v1) fun v3 hv3=>(ac (ae 1 (cd (p:=pn 58) n (VZ hK (v3:=v3) hv3 n h))))))
end
noncomputable section
variable(M:Nat→Prop)(w0:aE)(r:aH)(v1:List au)(v4:Int)(v5:Bool)(v6:List Int)(v9:Bool)(v10:aF)(v14:ByteArray)(v15:Int)(v18:aF)(v22:ByteArray)(v23:Int)(m1:Nat)(L1:Int→Bool→(List Int)→Option aH)
abbrev Bi:Cx:=⟨Tryz.prog,59,M,w0⟩
abbrev De:=bodyPost Tryz.prog Tryz.f54 (bq M w0 (fun v _=>v=.agg (bg r)))
abbrev za(ks:List ao)(s:AS):=VE (Bi M w0) (De M w0 r) ks .normal s
abbrev eU(n:Nat):ao:=.c (cat Tryz.f54 (pn n))
abbrev AQ:List ao:=[.b 0,eU 15]
abbrev Tu:List ao:=kl (Bi M w0) (De M w0 r) AQ (cat Tryz.f54 (pn 116)) m1::AQ
def ZH:AS:=⟨[(2,.ptr 2 0),(6,.ptr 6 0),(7,.ptr 7 0),(8,.str v14)],[(2,List.set (bg cJ) 61 (.nils)),(6,aI v10),(7,List.set (bg ({ cJ with Text:=(bytesOf v6),Space:=v15 }:aH)) 61 (.nils))],[],[2,6,7]⟩
def ZL:AS:=⟨[(2,.ptr 2 0),(6,.ptr 6 0),(7,.ptr 7 0),(8,.str v22)],[(2,List.set (bg cJ) 61 (.nils)),(6,aI v18),(7,List.set (bg ({ cJ with Text:=(bytesOf v6),Space:=v23 }:aH)) 61 (.nils))],[],[2,6,7]⟩
def PP:AS:=⟨[(0,.sl (lm aM v1)),(2,.ptr 2 0),(3,.ptr 451132 0)],[(2,List.set (bg cJ) 61 (.nils)),(451132,[(tc v9 451132),.ref 401132])],[(401132,⟨5,1,lm (br .u8) v6⟩)],[2,451132,401132]⟩
def GL:AS:=⟨[(0,.sl (lm aM v1)),(2,.ptr 2 0),(3,.ptr 451132 0),(9,.sl (lm aM v1)),(10,iI (v1.length:Int)),(11,iI v4)],[(2,List.set (bg cJ) 61 (.nils)),(451132,[(tc v5 451132),.ref 401132])],[(401132,⟨5,1,lm (br .u8) v6⟩)],[2,451132,401132]⟩
abbrev HE:Prop:=∀{v4:Int} {v5:Bool} {v6:(List Int)},L1 v4 v5 v6=some r→LP (Bi M w0) (De M w0 r) AQ (cat Tryz.f54 (pn 116)) m1 (GL v1 v4 v5 v6)
variable{M w0 r v1 v4 v5 v6 v9 v10 v14 v15 v18 v22 v23 m1 L1}{K:Kn}{n:Nat}
theorem GE(hK:am K)(h:s9 K n v6 v10 v14 v15=some r):za M w0 r [eU 255] (ZH v6 v10 v14 v15):=by
 unfold s9 at h;refine aw 2 3 1 (aj 3 ?_);obtain⟨v16,h24,h⟩:=bind_some h;refine aD (JC hK h24) (ac (aw 2 3 1 (aj 1 ?_)));obtain⟨v17,h25,h⟩:=bind_some h;refine aD (xe hK h25) (ac (aG 3 (uX 2 ?_)));cases h;exact aV
theorem Ff(hK:am K)(h:wj K n v6 v18 v22 v23=some r):za M w0 r [eU 255] (ZL v6 v18 v22 v23):=by
 unfold wj at h;refine aw 2 3 1 (aj 3 ?_);obtain⟨v24,h35,h⟩:=bind_some h;refine aD (JC hK h35) (ac (aw 2 3 1 (aj 1 ?_)));obtain⟨v25,h36,h⟩:=bind_some h;refine aD (xe hK h36) (ac (aG 3 (uX 2 ?_)));cases h;exact aV
theorem HI(hK:am K)(h:qh K n v1 v6 v9=some r):za M w0 r [eU 15] (PP v1 v6 v9):=by
 unfold qh at h;rcases ak h with⟨h14,gh14⟩|⟨h14,gh14⟩
 ·subst h14;have h:=gh14;refine aw 2 3 1 (aj 1 ?_);obtain⟨h15,h⟩:=aL h;refine az (bN aM aM h15 (dH) ((fun _=>rfl))) (ac ?_);obtain⟨v10,h16,h⟩:=bL h;refine bw (ks':=[eU 62,eU 63]) 1 ⟨[(0,.sl (lm aM v1)),(2,.ptr 2 0),(3,.ptr 451132 0),(6,.ptr 6 0)],[(2,List.set (bg cJ) 61 (.nils)),(6,aI v10),(451132,[.ptr 451132 0,.ref 401132])],[(401132,⟨5,1,lm (br .u8) v6⟩)],[2,6,451132,401132]⟩ ?_ (by subst h16;kernel_rfl);refine aj 0 ?_;obtain⟨h17,h⟩:=aL h;refine Lp 451132 401132 (L:=v6) h17 (ac (bK 12 13 7 4 (aj 2 (az (bv aM v1) (aJ 4 1 ?_)))));obtain⟨h18,h⟩:=aL h;refine az (bN aM aM h18 (dH) ((fun _=>rfl))) (ac ?_);obtain⟨v11,h19,h⟩:=bL h;refine bw (ks':=[eU 509,eU 255]) 0 ⟨[(2,.ptr 2 0),(6,.ptr 6 0),(7,.ptr 7 0),(8,.str (bytesOf v6)),(36,.bool v11)],[(2,List.set (bg cJ) 61 (.nils)),(6,aI v10),(7,List.set (bg ({ cJ with Text:=(bytesOf v6) }:aH)) 61 (.nils))],[],[2,6,7]⟩ ?_ (by subst h19;kernel_rfl)
  obtain⟨h20,h⟩|⟨h20,h⟩:=ak h
  ·refine ag 36 h20 (aw 4 5 2 (aj 4 ?_));obtain⟨h21,h⟩:=aL h;refine az (uQ h21) (ac ?_);obtain⟨v12,h22,h⟩:=bL h;refine bw (ks':=[eU 2037,eU 255]) 0 ⟨[(2,.ptr 2 0),(6,.ptr 6 0),(7,.ptr 7 0),(8,.str v12)],[(2,List.set (bg cJ) 61 (.nils)),(6,aI v10),(7,List.set (bg ({ cJ with Text:=(bytesOf v6) }:aH)) 61 (.nils))],[],[2,6,7]⟩ ?_ (by subst h22;kernel_rfl);refine aj 2 ?_;obtain⟨v13,h23,h⟩:=bind_some h;exact aD (B1 hK h23) (ac (ae 0 (GE hK h)))
  ·exact ag 36 h20 (ae 2 (GE hK h))
 ·subst h14;have h:=gh14;refine aw 2 3 1 (aj 1 ?_);obtain⟨h26,h⟩:=aL h;refine az (bN aM aM h26 (dH) ((fun _=>rfl))) (ac ?_);obtain⟨v18,h27,h⟩:=bL h;refine bw (ks':=[eU 62,eU 63]) 1 ⟨[(0,.sl (lm aM v1)),(2,.ptr 2 0),(3,.ptr 451132 0),(6,.ptr 6 0)],[(2,List.set (bg cJ) 61 (.nils)),(6,aI v18),(451132,[.nilp,.ref 401132])],[(401132,⟨5,1,lm (br .u8) v6⟩)],[2,6,451132,401132]⟩ ?_ (by subst h27;kernel_rfl);refine aj 0 ?_;obtain⟨h28,h⟩:=aL h;refine Lp 451132 401132 (L:=v6) h28 (ac (bK 12 13 7 4 (aj 2 (az (bv aM v1) (aJ 4 1 ?_)))));obtain⟨h29,h⟩:=aL h;refine az (bN aM aM h29 (dH) ((fun _=>rfl))) (ac ?_);obtain⟨v19,h30,h⟩:=bL h;refine bw (ks':=[eU 509,eU 255]) 0 ⟨[(2,.ptr 2 0),(6,.ptr 6 0),(7,.ptr 7 0),(8,.str (bytesOf v6)),(36,.bool v19)],[(2,List.set (bg cJ) 61 (.nils)),(6,aI v18),(7,List.set (bg ({ cJ with Text:=(bytesOf v6) }:aH)) 61 (.nils))],[],[2,6,7]⟩ ?_ (by subst h30;kernel_rfl);obtain⟨h31,h⟩|⟨h31,h⟩:=ak h
  ·refine ag 36 h31 (aw 4 5 2 (aj 4 ?_));obtain⟨h32,h⟩:=aL h;refine az (uQ h32) (ac ?_);obtain⟨v20,h33,h⟩:=bL h;refine bw (ks':=[eU 2037,eU 255]) 0 ⟨[(2,.ptr 2 0),(6,.ptr 6 0),(7,.ptr 7 0),(8,.str v20)],[(2,List.set (bg cJ) 61 (.nils)),(6,aI v18),(7,List.set (bg ({ cJ with Text:=(bytesOf v6) }:aH)) 61 (.nils))],[],[2,6,7]⟩ ?_ (by subst h33;kernel_rfl);refine aj 2 ?_;obtain⟨v21,h34,h⟩:=bind_some h;exact aD (B1 hK h34) (ac (ae 0 (Ff hK h)))
  ·exact ag 36 h31 (ae 2 (Ff hK h))
theorem Ug(hK:am K)(hL1:HE M w0 r v1 m1 L1)(h:rz K n v1 L1 v4 v5 v6=some r):za M w0 r (eU 116::Tu M w0 r m1) (GL v1 v4 v5 v6):=by
 unfold rz at h;rcases ak h with⟨h7,gh7⟩|⟨h7,gh7⟩
 ·subst h7;have h:=gh7;refine aw 6 7 3 ?_;obtain⟨h8,h⟩|⟨h8,h⟩:=ak h
  ·refine ag 12 h8 (cE 8 9 1 3 5 (aj 0 ?_));obtain⟨h9,h⟩:=aL h;refine az (bN aM aM h9 (dH) ((fun _=>rfl))) (ac (aj 2 ?_));obtain⟨v7,h10,h⟩:=bind_some h;exact jL 401132 9 [(451132,450132)] (I3 hK h10) (ac (ae 2 (bt (hL1 h))))
  ·exact ag 12 h8 (ae 5 (HI hK h))
 ·subst h7;have h:=gh7;refine aw 6 7 3 ?_;obtain⟨h11,h⟩|⟨h11,h⟩:=ak h
  ·refine ag 12 h11 (cE 8 9 1 3 5 (aj 0 ?_));obtain⟨h12,h⟩:=aL h;refine az (bN aM aM h12 (dH) ((fun _=>rfl))) (ac (aj 2 ?_));obtain⟨v8,h13,h⟩:=bind_some h;exact jL 401132 9 [(451132,450132)] (I3 hK h13) (ac (ae 2 (bt (hL1 h))))
  ·exact ag 12 h11 (ae 5 (HI hK h))
theorem O5(hK:am K)(m:Nat):HE M w0 r v1 m (pd K n v1 m):=by
 induction m with
 | zero=>intro v4 v5 v6 h;cases h
 | succ m ih=>intro v4 v5 v6 h;have h:rz K n v1 (pd K n v1 m) v4 v5 v6=some r:=h;exact bp (Ug hK ih h)
theorem Uw(hK:am K)(h:tn K n v1=some r):aN Tryz.prog 54 [.sl (lm aM v1)] (fun v _=>v=.agg (bg r)):=by
 refine bc (cat Tryz.f54 (pn 1)) Tryz.func54 Tryz.ntmps54 fun M w0=>(aZ ⟨[(0,.sl (lm aM v1))],[],[],[]⟩ ?_);unfold tn at h;exact aw 6 7 3 (aj 0 (YH 451132 (T:=132) (d:=3) (cs:=[.nilp,.nils]) (ac (bK 4 5 3 2 (aj 1 (az (bv aM v1) (ac (jb 2 0 1 (bF [0,2,3,9,10,11] [2,451132] [] (vo 401132 451132 1 5 1 (ae 0 (cd (p:=pn 58) n (O5 hK n h)))))))))))))
end
noncomputable section
variable(M:Nat→Prop)(w0:aE)(r:List aH)(v1:List ah)(v2:Fv)(v3:List au)(v30:Int)(v31:List aH)(v33:Bool)(v39:Int)(v41:Bool)(v43:Int)(v44:aH)(m1 m2:Nat)(L1:Int→(List aH)→Option (List aH))(L2:Int→Option (List aH))
abbrev wi:Cx:=⟨Tryz.prog,120,M,w0⟩
abbrev uJ:=bodyPost Tryz.prog Tryz.f22 (bq M w0 (fun v s=>v=.ref 117∧look 117 s.r=some ⟨46,62,lm bg r⟩))
abbrev uo(ks:List ao)(s:AS):=VE (wi M w0) (uJ M w0 r) ks .normal s
abbrev d4(n:Nat):ao:=.c (cat Tryz.f22 (pn n))
abbrev Ar:List ao:=[.b 0,d4 31]
abbrev jk:List ao:=kl (wi M w0) (uJ M w0 r) Ar (cat Tryz.f22 (pn 244)) m1::Ar
abbrev AZ:List ao:=.b 3::d4 4009823 :: .b 2::d4 31327 :: .b 1::jk M w0 r m1
abbrev KD:List ao:=kl (wi M w0) (uJ M w0 r) (AZ M w0 r m1) (cat Tryz.f22 (pn 16039288)) m2::(AZ M w0 r m1)
def SH:AS:=⟨[(1,.fn v2.id v2.ba),(5,.sl (lm aM v3)),(6,.ref 117),(8,.ptr 8 0),(9,.bool v33),(10,.ptr 10 0),(11,iI v43)],[(8,aM (gD v3 v30)),(10,bg v44)],[(117,⟨46,62,lm bg v31⟩)],[8,10,117]⟩
def SM:AS:=⟨[(1,.fn v2.id v2.ba),(5,.sl (lm aM v3)),(6,.ref 117),(7,iI v30),(8,.ptr 8 0),(9,.bool v33),(10,.ptr 10 0),(11,iI v39),(81,.bool v41)],[(8,aM (gD v3 v30)),(10,List.set (bg cJ) 61 (.nils))],[(117,⟨46,62,lm bg v31⟩)],[8,10,117]⟩
def G9:AS:=⟨[(1,.fn v2.id v2.ba),(5,.sl (lm aM v3)),(6,.ref 117),(7,iI v30),(8,.ptr 8 0),(9,.bool v33),(10,.ptr 10 0),(11,iI v39)],[(8,aM (gD v3 v30)),(10,List.set (bg cJ) 61 (.nils))],[(117,⟨46,62,lm bg v31⟩)],[8,10,117]⟩
def SR:AS:=⟨[(1,.fn v2.id v2.ba),(5,.sl (lm aM v3)),(6,.ref 117),(7,iI v30),(8,.ptr 8 0),(9,.bool v33)],[(8,aM (gD v3 v30))],[(117,⟨46,62,lm bg v31⟩)],[8,117]⟩
def Mc:AS:=⟨[(1,.fn v2.id v2.ba),(5,.sl (lm aM v3)),(6,.ref 117),(7,iI v30)],[],[(117,⟨46,62,lm bg v31⟩)],[117]⟩
abbrev ph:Prop:=∀{v30:Int} {v31:(List aH)},L1 v30 v31=some r→LP (wi M w0) (uJ M w0 r) Ar (cat Tryz.f22 (pn 244)) m1 (Mc v2 v3 v30 v31)
abbrev CP:Prop:=∀{v39:Int},L2 v39=some r→LP (wi M w0) (uJ M w0 r) (AZ M w0 r m1) (cat Tryz.f22 (pn 16039288)) m2 (G9 v2 v3 v30 v31 v33 v39)
variable{M w0 r v1 v2 v3 v30 v31 v33 v39 v41 v43 v44 m1 m2 L1 L2}{K:Kn}{n:Nat}
theorem z2(hK:am K)(hL1:ph M w0 r v2 v3 m1 L1)(h:jm K n v2 v3 v30 v31 v33 L1 v43 v44=some r):uo M w0 r (.b 2::d4 31327 :: .b 1::jk M w0 r m1) (SH v2 v3 v30 v31 v33 v43 v44):=by
 unfold jm at h;refine dU 2 3 2 (bF [1,5,6,8,9,10,11] [8,10] [117] (bP 3 (nu 100 [.ptr 8 4,.cptr (aX ((gD v3 v30).Box)),.cptr (aX ((gD v3 v30).Box)),.cptr (List.drop 1 (aX ((gD v3 v30).Box))),iI (((gD v3 v30).Box).Node),.ptr 8 4,.cptr (aX ((gD v3 v30).Box)),.cptr (aX ((gD v3 v30).Box)),.cptr (List.drop 2 (aX ((gD v3 v30).Box))),.agg (aI (((gD v3 v30).Box).Style)),.bool v33,.ptr 10 0,.ptr 10 2,.ptr 10 59]) [] [] [bR Tryz.prog 120 Tryz.f22 (pn 62654) 12,bR Tryz.prog 120 Tryz.f22 (pn 62654) 14,bR Tryz.prog 120 Tryz.f22 (pn 62654) 16] (ay [.v 0 1,.v 0 1,.v 0 1,.v 0 1,.v 0 1,.v 0 2,.v 0 2,.v 0 2,.v 0 2,.v 0 2,.v 0 3,.v 0 1] (ai (bS 0) (ay [.v 1 1] (ai (bS 1) (ay [.v 2 1] (ai (bS 2) bO)))))) ?_));obtain⟨v45,h94,h⟩:=bL h;obtain⟨v46,h95,h⟩:=bL h;refine bw (ks':=d4 125310::d4 125311 :: .b 1::jk M w0 r m1) 1 ⟨[(1,.fn v2.id v2.ba),(5,.sl (lm aM v3)),(6,.ref 117),(10,.ptr 10 0),(11,iI v43)],[(10,bg ({ v44 with Node:=v45,Style:=v46,Glued:=v33 }:aH))],[(117,⟨46,62,lm bg v31⟩)],[10,117]⟩ ?_ (by subst h95;subst h94;kernel_rfl)
 refine aj 3 ?_;obtain⟨h96,h⟩:=aL h;exact az (cp 117 117 46 62 bg (rfl) (jx) h96) (ac (ae 2 (bt (hL1 h))))
theorem xJ(hK:am K)(hL1:ph M w0 r v2 v3 m1 L1)(hL2:CP M w0 r v2 v3 v30 v31 v33 m1 m2 L2)(h:jE K n v2 v3 v30 v31 v33 v39 L1 L2 v41=some r):uo M w0 r (d4 64157153::d4 32078577::KD M w0 r m1 m2) (SM v2 v3 v30 v31 v33 v39 v41):=by
 unfold jE at h;obtain⟨h91,h⟩|⟨h91,h⟩:=ak h
 ·exact ag 81 h91 (ae 5 (bt (hL2 h)))
 ·refine ag 81 h91 (cz (ks':=d4 4009823 :: .b 2::d4 31327 :: .b 1::jk M w0 r m1) 5 (aj 3 ?_));obtain⟨h92,h⟩:=aL h;refine az (uL aM v3 v30 v39 97 (.tmp 84) (some (.tmp 85)) (some (.tmp 86)) 87 (e:=101) (sz:=5) (by kernel_rfl) (by kernel_rfl) (by kernel_rfl) (by kernel_rfl) (by kernel_rfl) (by kernel_rfl) (dH) (fun k hk=>by subst hk;kernel_rfl) h92) ?_;obtain⟨v42,h93,h⟩:=bind_some h;exact aD (Uw hK h93) (ac (ae 0 (z2 hK hL1 h)))
theorem WA(hK:am K)(hL1:ph M w0 r v2 v3 m1 L1)(hL2:CP M w0 r v2 v3 v30 v31 v33 m1 m2 L2)(h:qR K n v2 v3 v30 v31 v33 L1 L2 v39=some r):uo M w0 r (d4 16039288::KD M w0 r m1 m2) (G9 v2 v3 v30 v31 v33 v39):=by
 unfold qR at h;refine bK 4 5 3 2 (bF [1,5,6,7,8,9,10,11] [8,10] [117] ?_);obtain⟨h83,h⟩|⟨h83,h⟩:=ak h
 ·obtain⟨h84,h⟩:=aL h;obtain⟨h85,h⟩|⟨h85,h⟩:=ak h
  ·obtain⟨h86,h⟩:=aL h;obtain⟨h87,h⟩|⟨h87,h⟩:=ak h
   ·obtain⟨h88,h⟩:=aL h;obtain⟨h89,h⟩:=aL h;obtain⟨v40,h90,h⟩:=bind_some h;exact bP 0 (nu 47 [iI v39,.sl (lm aM v3),iI (v3.length:Int),.bool (decide (v39<(v3.length:Int))),.bool true,.sl (lm aM v3),iI v39,.cptr (aM (gD v3 v39)),.cptr (List.drop 0 (aM (gD v3 v39))),iI ((gD v3 v39).Kind),.bool (((gD v3 v39).Kind) == 1),.bool (((gD v3 v39).Kind) == 1),.bool true,.sl (lm aM v3),iI v39,.cptr (aM (gD v3 v39)),.cptr (List.drop 1 (aM (gD v3 v39))),iI ((gD v3 v39).Of),.ptr 8 1,iI ((gD v3 v30).Of),.bool (((gD v3 v39).Of) == ((gD v3 v30).Of)),.bool (((gD v3 v39).Of) == ((gD v3 v30).Of)),.bool true,.sl (lm aM v3),iI v39,iI (aa (v39-1)),.cptr (aM (gD v3 ((aa (v39-1))))),.agg (aM (gD v3 ((aa (v39-1))))),.sl (lm aM v3),iI v39,.cptr (aM (gD v3 v39)),.agg (aM (gD v3 v39)),.bool v40,.bool (!v40),.bool (!v40)]) [] [] [] (ay (vz 2) (bI (bv aM v3) (ay [.v 0 1] (ai (cf 0 51 (e:=(decide (v39<(v3.length:Int)))) (b:=true) h83) (ay (vz 2) (bI (bN aM aM h84 (dH) ((fun _=>rfl))) (ay (vz 4) (ai (cf 0 59 (e:=(((gD v3 v39).Kind) == 1)) (b:=true) h85) (ay (vz 2) (bI (bN aM aM h86 (dH) ((fun _=>rfl))) (ay (vz 6) (ai (cf 0 69 (e:=(((gD v3 v39).Of) == ((gD v3 v30).Of))) (b:=true) h87) (ay (vz 3) (bI (bN aM aM h88 (dH) ((fun _=>rfl))) (ay (vz 3) (bI (bN aM aM h89 (dH) ((fun _=>rfl))) (ay [.v 0 1] (ai (bU 0 1 79 (H2 hK h90)) (ay (vz 2) bO))))))))))))))))))) (ae 0 (xJ hK hL1 hL2 h))
   ·exact bP 0 (nu 47 [iI v39,.sl (lm aM v3),iI (v3.length:Int),.bool (decide (v39<(v3.length:Int))),.bool true,.sl (lm aM v3),iI v39,.cptr (aM (gD v3 v39)),.cptr (List.drop 0 (aM (gD v3 v39))),iI ((gD v3 v39).Kind),.bool (((gD v3 v39).Kind) == 1),.bool (((gD v3 v39).Kind) == 1),.bool true,.sl (lm aM v3),iI v39,.cptr (aM (gD v3 v39)),.cptr (List.drop 1 (aM (gD v3 v39))),iI ((gD v3 v39).Of),.ptr 8 1,iI ((gD v3 v30).Of),.bool (((gD v3 v39).Of) == ((gD v3 v30).Of)),.bool (((gD v3 v39).Of) == ((gD v3 v30).Of)),.bool false,.tup [],.tup [],.tup [],.tup [],.tup [],.tup [],.tup [],.tup [],.tup [],.tup [],.tup [],.bool false]) [] [] [] (ay (vz 2) (bI (bv aM v3) (ay [.v 0 1] (ai (cf 0 51 (e:=(decide (v39<(v3.length:Int)))) (b:=true) h83) (ay (vz 2) (bI (bN aM aM h84 (dH) ((fun _=>rfl))) (ay (vz 4) (ai (cf 0 59 (e:=(((gD v3 v39).Kind) == 1)) (b:=true) h85) (ay (vz 2) (bI (bN aM aM h86 (dH) ((fun _=>rfl))) (ay (vz 6) (ai (cf 0 69 (e:=(((gD v3 v39).Of) == ((gD v3 v30).Of))) (b:=false) h87) (ai (ax 0 1) (ai (ax 0 1) (ai (ax 0 1) (ai (ax 0 1) (ai (ax 0 1) (ai (ax 0 1) (ai (ax 0 1) (ai (ax 0 1) (ai (ax 0 1) (ai (ax 0 1) (ai (ax 0 1) (ay [.v 0 1] bO)))))))))))))))))))))))) (ae 0 (xJ hK hL1 hL2 h))
  ·exact bP 0 (nu 47 [iI v39,.sl (lm aM v3),iI (v3.length:Int),.bool (decide (v39<(v3.length:Int))),.bool true,.sl (lm aM v3),iI v39,.cptr (aM (gD v3 v39)),.cptr (List.drop 0 (aM (gD v3 v39))),iI ((gD v3 v39).Kind),.bool (((gD v3 v39).Kind) == 1),.bool (((gD v3 v39).Kind) == 1),.bool false,.tup [],.tup [],.tup [],.tup [],.tup [],.tup [],.tup [],.tup [],.bool false,.bool false,.tup [],.tup [],.tup [],.tup [],.tup [],.tup [],.tup [],.tup [],.tup [],.tup [],.tup [],.bool false]) [] [] [] (ay (vz 2) (bI (bv aM v3) (ay [.v 0 1] (ai (cf 0 51 (e:=(decide (v39<(v3.length:Int)))) (b:=true) h83) (ay (vz 2) (bI (bN aM aM h84 (dH) ((fun _=>rfl))) (ay (vz 4) (ai (cf 0 59 (e:=(((gD v3 v39).Kind) == 1)) (b:=false) h85) (ai (ax 0 1) (ai (ax 0 1) (ai (ax 0 1) (ai (ax 0 1) (ai (ax 0 1) (ai (ax 0 1) (ai (ax 0 1) (ai (ax 0 1) (ay (vz 2) (ai (ax 0 1) (ai (ax 0 1) (ai (ax 0 1) (ai (ax 0 1) (ai (ax 0 1) (ai (ax 0 1) (ai (ax 0 1) (ai (ax 0 1) (ai (ax 0 1) (ai (ax 0 1) (ai (ax 0 1) (ay [.v 0 1] bO))))))))))))))))))))))))))))) (ae 0 (xJ hK hL1 hL2 h))
 ·exact bP 0 (nu 47 [iI v39,.sl (lm aM v3),iI (v3.length:Int),.bool (decide (v39<(v3.length:Int))),.bool false,.tup [],.tup [],.tup [],.tup [],.tup [],.tup [],.bool false,.bool false,.tup [],.tup [],.tup [],.tup [],.tup [],.tup [],.tup [],.tup [],.bool false,.bool false,.tup [],.tup [],.tup [],.tup [],.tup [],.tup [],.tup [],.tup [],.tup [],.tup [],.tup [],.bool false]) [] [] [] (ay (vz 2) (bI (bv aM v3) (ay [.v 0 1] (ai (cf 0 51 (e:=(decide (v39<(v3.length:Int)))) (b:=false) h83) (ai (ax 0 1) (ai (ax 0 1) (ai (ax 0 1) (ai (ax 0 1) (ai (ax 0 1) (ai (ax 0 1) (ay (vz 2) (ai (ax 0 1) (ai (ax 0 1) (ai (ax 0 1) (ai (ax 0 1) (ai (ax 0 1) (ai (ax 0 1) (ai (ax 0 1) (ai (ax 0 1) (ay (vz 2) (ai (ax 0 1) (ai (ax 0 1) (ai (ax 0 1) (ai (ax 0 1) (ai (ax 0 1) (ai (ax 0 1) (ai (ax 0 1) (ai (ax 0 1) (ai (ax 0 1) (ai (ax 0 1) (ai (ax 0 1) (ay [.v 0 1] bO)))))))))))))))))))))))))))))))) (ae 0 (xJ hK hL1 hL2 h))
theorem Vm(hK:am K)(hL1:ph M w0 r v2 v3 m1 L1)(m:Nat):CP M w0 r v2 v3 v30 v31 v33 m1 m (oc K n v2 v3 v30 v31 v33 L1 m):=by
 induction m with
 | zero=>intro v39 h;cases h
 | succ m ih=>intro v39 h;have h:qR K n v2 v3 v30 v31 v33 L1 (oc K n v2 v3 v30 v31 v33 L1 m) v39=some r:=h;exact bp (WA hK hL1 ih h)
theorem DL(hK:am K)(hL1:ph M w0 r v2 v3 m1 L1)(h:oK K n v2 v3 v30 v31 L1 v33=some r):uo M w0 r (d4 3915 :: .b 1::jk M w0 r m1) (SR v2 v3 v30 v31 v33):=by
 unfold oK at h;obtain⟨v34,h69,h⟩:=bL h;refine bw (ks':=d4 250613 :: .b 2::d4 31327 :: .b 1::jk M w0 r m1) 10 ⟨[(1,.fn v2.id v2.ba),(5,.sl (lm aM v3)),(6,.ref 117),(7,iI v30),(8,.ptr 8 0),(9,.bool v33),(10,.ptr 10 0),(11,iI (aa (v30+1))),(46,iI ((gD v3 v30).Kind)),(89,.bool v34)],[(8,aM (gD v3 v30)),(10,List.set (bg cJ) 61 (.nils))],[(117,⟨46,62,lm bg v31⟩)],[8,10,117]⟩ ?_ (by subst h69;kernel_rfl);obtain⟨h70,h⟩|⟨h70,h⟩:=ak h
 ·exact ag 89 h70 (cz (ks':=.b 2::d4 31327 :: .b 1::jk M w0 r m1) 2 (uX 10 (ae 0 (z2 hK hL1 h))))
 ·refine ag 89 h70 ?_;obtain⟨v35,h71,h⟩:=bL h;refine bw (ks':=d4 1002455 :: .b 2::d4 31327 :: .b 1::jk M w0 r m1) 3 ⟨[(1,.fn v2.id v2.ba),(5,.sl (lm aM v3)),(6,.ref 117),(7,iI v30),(8,.ptr 8 0),(9,.bool v33),(10,.ptr 10 0),(11,iI (aa (v30+1))),(92,.bool v35)],[(8,aM (gD v3 v30)),(10,List.set (bg cJ) 61 (.nils))],[(117,⟨46,62,lm bg v31⟩)],[8,10,117]⟩ ?_ (by subst h71;kernel_rfl);obtain⟨h72,h⟩|⟨h72,h⟩:=ak h
  ·refine ag 92 h72 (bh 2 1 (aj 5 ?_));obtain⟨v36,h73,h⟩:=bind_some h;exact sR (hK.pC h73) (ac (ae 0 (z2 hK hL1 h)))
  ·exact ag 92 h72 (ae 3 (cd (p:=pn 8019644) n (Vm hK hL1 n h)))
theorem OJ(hK:am K)(hL1:ph M w0 r v2 v3 m1 L1)(h:qE K n v2 v3 L1 v30 v31=some r):uo M w0 r (d4 244::jk M w0 r m1) (Mc v2 v3 v30 v31):=by
 unfold qE at h;refine bK 4 5 3 2 (aj 2 (az (bv aM v3) (ac ?_)));obtain⟨h62,h⟩|⟨h62,h⟩:=ak h
 ·refine ag 17 h62 (cz (ks':=d4 1956::d4 1957 :: .b 1::jk M w0 r m1) 4 (aj 2 ?_));obtain⟨h63,h⟩:=aL h;refine az (bN aM aM h63 (dH) ((fun _=>rfl))) (ac (aw 2 3 1 (bF [1,5,6,7,8] [8] [117] ?_)));obtain⟨h64,h⟩|⟨h64,h⟩:=ak h
  ·obtain⟨h65,h⟩:=aL h;obtain⟨h66,h⟩|⟨h66,h⟩:=ak h
   ·obtain⟨h67,h⟩:=aL h;obtain⟨v32,h68,h⟩:=bind_some h;exact bP 1 (nu 22 [iI v30,.bool (decide (v30>0)),.bool true,.sl (lm aM v3),iI v30,iI (aa (v30-1)),.cptr (aM (gD v3 ((aa (v30-1))))),.cptr (List.drop 0 (aM (gD v3 ((aa (v30-1)))))),iI ((gD v3 ((aa (v30-1)))).Kind),.bool (((gD v3 ((aa (v30-1)))).Kind) != 2),.bool (((gD v3 ((aa (v30-1)))).Kind) != 2),.bool true,.sl (lm aM v3),iI v30,iI (aa (v30-1)),.cptr (aM (gD v3 ((aa (v30-1))))),.agg (aM (gD v3 ((aa (v30-1))))),.agg (aM (gD v3 v30)),.bool v32,.bool (!v32),.bool (!v32)]) [] [] [bR Tryz.prog 120 Tryz.f22 (pn 3914) 21] (ay (vz 2) (ai (cf 0 24 (e:=(decide (v30>0))) (b:=true) h64) (ay (vz 3) (bI (bN aM aM h65 (dH) ((fun _=>rfl))) (ay (vz 4) (ai (cf 0 33 (e:=(((gD v3 ((aa (v30-1)))).Kind) != 2)) (b:=true) h66) (ay (vz 3) (bI (bN aM aM h67 (dH) ((fun _=>rfl))) (ay (vz 2) (ai (bU 0 1 40 (H2 hK h68)) (ay (vz 2) (ai (bS 0) bO)))))))))))) (ae 0 (DL hK hL1 h))
   ·exact bP 1 (nu 22 [iI v30,.bool (decide (v30>0)),.bool true,.sl (lm aM v3),iI v30,iI (aa (v30-1)),.cptr (aM (gD v3 ((aa (v30-1))))),.cptr (List.drop 0 (aM (gD v3 ((aa (v30-1)))))),iI ((gD v3 ((aa (v30-1)))).Kind),.bool (((gD v3 ((aa (v30-1)))).Kind) != 2),.bool (((gD v3 ((aa (v30-1)))).Kind) != 2),.bool false,.tup [],.tup [],.tup [],.tup [],.tup [],.tup [],.tup [],.tup [],.bool false]) [] [] [bR Tryz.prog 120 Tryz.f22 (pn 3914) 21] (ay (vz 2) (ai (cf 0 24 (e:=(decide (v30>0))) (b:=true) h64) (ay (vz 3) (bI (bN aM aM h65 (dH) ((fun _=>rfl))) (ay (vz 4) (ai (cf 0 33 (e:=(((gD v3 ((aa (v30-1)))).Kind) != 2)) (b:=false) h66) (ai (ax 0 1) (ai (ax 0 1) (ai (ax 0 1) (ai (ax 0 1) (ai (ax 0 1) (ai (ax 0 1) (ai (ax 0 1) (ai (ax 0 1) (ay [.v 0 1] (ai (bS 0) bO)))))))))))))))) (ae 0 (DL hK hL1 h))
  ·exact bP 1 (nu 22 [iI v30,.bool (decide (v30>0)),.bool false,.tup [],.tup [],.tup [],.tup [],.tup [],.tup [],.tup [],.bool false,.bool false,.tup [],.tup [],.tup [],.tup [],.tup [],.tup [],.tup [],.tup [],.bool false]) [] [] [bR Tryz.prog 120 Tryz.f22 (pn 3914) 21] (ay (vz 2) (ai (cf 0 24 (e:=(decide (v30>0))) (b:=false) h64) (ai (ax 0 1) (ai (ax 0 1) (ai (ax 0 1) (ai (ax 0 1) (ai (ax 0 1) (ai (ax 0 1) (ai (ax 0 1) (ay (vz 2) (ai (ax 0 1) (ai (ax 0 1) (ai (ax 0 1) (ai (ax 0 1) (ai (ax 0 1) (ai (ax 0 1) (ai (ax 0 1) (ai (ax 0 1) (ay [.v 0 1] (ai (bS 0) bO)))))))))))))))))))) (ae 0 (DL hK hL1 h))
 ·refine ag 17 h62 (aG 8 ?_);cases h;exact d9
theorem Zv(hK:am K)(m:Nat):ph M w0 r v2 v3 m (pj K n v2 v3 m):=by
 induction m with
 | zero=>intro v30 v31 h;cases h
 | succ m ih=>intro v30 v31 h;have h:qE K n v2 v3 (pj K n v2 v3 m) v30 v31=some r:=h;exact bp (OJ hK ih h)
theorem Z0(hK:am K)(h:rM K n v1 v2=some r):aN Tryz.prog 22 [.sl (lm aP v1),.fn v2.id v2.ba] (fun v s=>v=.ref 117∧look 117 s.r=some ⟨46,62,lm bg r⟩):=by
 refine bc (cat Tryz.f22 (pn 1)) Tryz.func22 Tryz.ntmps22 fun M w0=>(aZ ⟨[(0,.sl (lm aP v1)),(1,.fn v2.id v2.ba)],[],[],[]⟩ ?_);unfold rM at h;refine aw 6 7 3 (aj 1 ?_);obtain⟨v3,h1,h⟩:=bind_some h;exact dm 1013 (ZQ hK h1) (fH 400003) (ac (eO 26 0 7 6 (bF [1,5,6,7] [] [1013] (vx 1013 (eX 117 6 46 62 (ae 0 (cd (p:=pn 122) n (Zv hK n h))))))))
end
noncomputable section
variable(M:Nat→Prop)(w0:aE)(r v1:Int)  
variable{M w0 r v1}{K:Kn}{n:Nat}
theorem g7(hK:am K)(h:fh K n v1=some r):aN Tryz.prog 56 [iI v1] (fun v _=>v=iI r):=by
 refine bc (cat Tryz.f56 (pn 1)) Tryz.func56 Tryz.ntmps56 fun M w0=>(aZ ⟨[(0,iI v1)],[],[],[]⟩ ?_);unfold fh at h;refine aG 5 ?_;cases h;exact aV
end
noncomputable section
variable(M:Nat→Prop)(w0:aE)(r:Int×Bool)(v1:cu)(v2 v4:Int)  
abbrev Ml(n:Nat):ao:=.c (cat Tryz.f55 (pn n))
abbrev W5:Cx:=⟨Tryz.prog,25,M,w0⟩
abbrev WD:=bodyPost Tryz.prog Tryz.f55 (bq M w0 (fun v _=>v=.tup [iI r.1,.bool r.2]))
abbrev O3(ks:List ao)(s:AS):=VE (W5 M w0) (WD M w0 r) ks .normal s
def Sj:AS:=⟨[(6,iI v4)],[],[],[]⟩
variable{M w0 r v1 v2 v4}{K:Kn}{n:Nat}
theorem Lm(hK:am K)(h:rV K n v4=some r):O3 M w0 r [.b 0,Ml 15] (Sj v4):=by
 unfold rV at h;refine aG 4 ?_;cases h;exact d8
theorem eM(hK:am K)(h:dQ K n v1 v2=some r):aN Tryz.prog 55 [.agg (gC v1),iI v2] (fun v _=>v=.tup [iI r.1,.bool r.2]):=by
 refine bc (cat Tryz.f55 (pn 1)) Tryz.func55 Tryz.ntmps55 fun M w0=>(aZ ⟨[(0,.agg (gC v1)),(1,iI v2)],[],[],[]⟩ ?_);unfold dQ at h;refine eO 117 0 15 10 ?_;obtain⟨h1,h⟩|⟨h1,h⟩:=ak h
 ·exact ag 11 h1 (ae 2 (Lm hK h))
 ·refine ag 11 h1 (bh 7 3 ?_);obtain⟨h2,h⟩|⟨h2,h⟩:=ak h
  ·refine ag 13 h2 (bh 2 1 (aj 1 ?_));obtain⟨v3,h3,h⟩:=bind_some h;exact aD (g7 hK h3) (ac (ae 0 (Lm hK h)))
  ·refine ag 13 h2 (aG 6 ?_);cases h;exact d8
end
noncomputable section
variable(M:Nat→Prop)(w0:aE)(r:aR)(v1:aF)(v2 v3:Int)  
abbrev nJ(n:Nat):ao:=.c (cat Tryz.f24 (pn n))
abbrev P4:Cx:=⟨Tryz.prog,52,M,w0⟩
abbrev O9:=bodyPost Tryz.prog Tryz.f24 (bq M w0 (fun v _=>v=.agg (bi r)))
abbrev ve(m:Nat):List ao:=kl (P4 M w0) (O9 M w0 r) [.b 0,nJ 15] (cat Tryz.f24 (pn 116)) m::[.b 0,nJ 15]
variable{M w0 r v1 v2 v3}{K:Kn}{n:Nat}
theorem vY(hK:am K)(h:jU K n v1 v2 v3=some r):aN Tryz.prog 24 [.agg (aI v1),iI v2,iI v3] (fun v _=>v=.agg (bi r)):=by
 refine bc (cat Tryz.f24 (pn 1)) Tryz.func24 Tryz.ntmps24 fun M w0=>(aZ ⟨[(0,.agg (aI v1)),(1,iI v2),(2,iI v3)],[],[],[]⟩ ?_);unfold jU at h;refine bw (ks':=[nJ 58,.b 0,nJ 15]) 8 ⟨[(1,iI v2),(3,.ptr 3 0),(6,.ptr 6 0),(7,.ptr 7 0),(13,iI 0)],[(3,aI v1),(6,bi dv),(7,bi ({ dv with Content:=v3 }:aR))],[],[3,6,7]⟩ (o6 40 (c:=cat Tryz.f24 [1,1,0,1,0,0]) (by kernel_rfl) (bp (cz (ks':=nJ 7474::nJ 7475 :: .b 1::nJ 935::ve M w0 r 39) 10 (aj 6 ?_))));obtain⟨v4,h1,h⟩:=bind_some h;refine aD (eM hK h1) (ac (aw 2 3 1 (aj 5 ?_)));obtain⟨v5,h2,h⟩:=bind_some h;refine aD (g7 hK h2) (ac (aw 2 3 1 (aj 5 ?_)));obtain⟨v6,h3,h⟩:=bind_some h;refine aD (eM hK h3) (ac (bw (ks':=ve M w0 r 39) 3 ⟨[(1,iI v2),(3,.ptr 3 0),(6,.ptr 6 0),(7,.ptr 7 0),(13,iI 1)],[(3,aI v1),(6,bi dv),(7,bi (⟨⟨v4.1,0,0,0⟩,⟨v5,0,0,0⟩,⟨(max v6.1 0),0,0,0⟩,v3⟩:aR))],[],[3,6,7]⟩ (bt (bp (c9 114 115 1 15 10 (aj 6 ?_))))));obtain⟨v7,h4,h⟩:=bind_some h
 refine aD (eM hK h4) (ac (aw 2 3 1 (aj 5 ?_)));obtain⟨v8,h5,h⟩:=bind_some h;refine aD (g7 hK h5) (ac (aw 2 3 1 (aj 5 ?_)));obtain⟨v9,h6,h⟩:=bind_some h;refine aD (eM hK h6) (ac (bw (ks':=ve M w0 r 38) 3 ⟨[(1,iI v2),(3,.ptr 3 0),(6,.ptr 6 0),(7,.ptr 7 0),(13,iI 2)],[(3,aI v1),(6,bi dv),(7,bi (⟨⟨v4.1,v7.1,0,0⟩,⟨v5,v8,0,0⟩,⟨(max v6.1 0),(max v9.1 0),0,0⟩,v3⟩:aR))],[],[3,6,7]⟩ (bt (bp (c9 114 115 1 15 10 (aj 6 ?_))))));obtain⟨v10,h7,h⟩:=bind_some h;refine aD (eM hK h7) (ac (aw 2 3 1 (aj 5 ?_)));obtain⟨v11,h8,h⟩:=bind_some h;refine aD (g7 hK h8) (ac (aw 2 3 1 (aj 5 ?_)));obtain⟨v12,h9,h⟩:=bind_some h;refine aD (eM hK h9) (ac (bw (ks':=ve M w0 r 37) 3 ⟨[(1,iI v2),(3,.ptr 3 0),(6,.ptr 6 0),(7,.ptr 7 0),(13,iI 3)],[(3,aI v1),(6,bi dv),(7,bi (⟨⟨v4.1,v7.1,v10.1,0⟩,⟨v5,v8,v11,0⟩,⟨(max v6.1 0),(max v9.1 0),(max v12.1 0),0⟩,v3⟩:aR))],[],[3,6,7]⟩ (bt (bp (c9 114 115 1 15 10 (aj 6 ?_))))));obtain⟨v13,h10,h⟩:=bind_some h
 refine aD (eM hK h10) (ac (aw 2 3 1 (aj 5 ?_)));obtain⟨v14,h11,h⟩:=bind_some h;refine aD (g7 hK h11) (ac (aw 2 3 1 (aj 5 ?_)));obtain⟨v15,h12,h⟩:=bind_some h;refine aD (eM hK h12) (ac (bw (ks':=ve M w0 r 36) 3 ⟨[(1,iI v2),(3,.ptr 3 0),(6,.ptr 6 0),(7,.ptr 7 0),(13,iI 4)],[(3,aI v1),(6,bi dv),(7,bi (⟨⟨v4.1,v7.1,v10.1,v13.1⟩,⟨v5,v8,v11,v14⟩,⟨(max v6.1 0),(max v9.1 0),(max v12.1 0),(max v15.1 0)⟩,v3⟩:aR))],[],[3,6,7]⟩ (bt (bp (aG 11 ?_)))));cases h;exact aV
end
noncomputable section
variable(M:Nat→Prop)(w0:aE)(r:Int)(v1:aR)  
variable{M w0 r v1}{K:Kn}{n:Nat}
theorem qe(hK:am K)(h:kL K n v1=some r):aN Tryz.prog 28 [.agg (bi v1)] (fun v _=>v=iI r):=by
 refine bc (cat Tryz.f28 (pn 1)) Tryz.func28 Tryz.ntmps28 fun M w0=>(aZ ⟨[(0,.agg (bi v1))],[],[],[]⟩ ?_);unfold kL at h;refine aG 5 ?_;cases h;exact aV
end
noncomputable section
variable(M:Nat→Prop)(w0:aE)(r v1:aF)(v2:Nat)(v3 v4 v5 v6 v7 v8 v9 v10 v11 v12 v13:aF)  
abbrev dp(n:Nat):ao:=.c (cat Tryz.f95 (pn n))
abbrev AK:Cx:=⟨Tryz.prog,40,M,w0⟩
abbrev Ct:=bodyPost Tryz.prog Tryz.f95 (bq M w0 (fun v _=>v=.agg (aI r)))
abbrev iq(ks:List ao)(s:AS):=VE (AK M w0) (Ct M w0 r) ks .normal s
def UU:AS:=⟨[(1,.pp 1 v2 0),(2,.ptr 2 0),(24,.ref 10),(25,iI 11),(26,iI 10)],[(1,aI v13),(2,aI cj)],[(10,⟨154,1,lm bz [(v2,6),(v2,10),(v2,12),(v2,14),(v2,22),(v2,16),(v2,24),(v2,18),(v2,26),(v2,20),(v2,28)]⟩)],[1,2,10]⟩
def Vl:AS:=⟨[(1,.pp 1 v2 0),(2,.ptr 2 0),(24,.ref 10),(25,iI 11),(26,iI 9)],[(1,aI v12),(2,aI cj)],[(10,⟨154,1,lm bz [(v2,6),(v2,10),(v2,12),(v2,14),(v2,22),(v2,16),(v2,24),(v2,18),(v2,26),(v2,20),(v2,28)]⟩)],[1,2,10]⟩
def TE:AS:=⟨[(1,.pp 1 v2 0),(2,.ptr 2 0),(24,.ref 10),(25,iI 11),(26,iI 8)],[(1,aI v11),(2,aI cj)],[(10,⟨154,1,lm bz [(v2,6),(v2,10),(v2,12),(v2,14),(v2,22),(v2,16),(v2,24),(v2,18),(v2,26),(v2,20),(v2,28)]⟩)],[1,2,10]⟩
def aag:AS:=⟨[(1,.pp 1 v2 0),(2,.ptr 2 0),(24,.ref 10),(25,iI 11),(26,iI 7)],[(1,aI v10),(2,aI cj)],[(10,⟨154,1,lm bz [(v2,6),(v2,10),(v2,12),(v2,14),(v2,22),(v2,16),(v2,24),(v2,18),(v2,26),(v2,20),(v2,28)]⟩)],[1,2,10]⟩
def OS:AS:=⟨[(1,.pp 1 v2 0),(2,.ptr 2 0),(24,.ref 10),(25,iI 11),(26,iI 6)],[(1,aI v9),(2,aI cj)],[(10,⟨154,1,lm bz [(v2,6),(v2,10),(v2,12),(v2,14),(v2,22),(v2,16),(v2,24),(v2,18),(v2,26),(v2,20),(v2,28)]⟩)],[1,2,10]⟩
def Y9:AS:=⟨[(1,.pp 1 v2 0),(2,.ptr 2 0),(24,.ref 10),(25,iI 11),(26,iI 5)],[(1,aI v8),(2,aI cj)],[(10,⟨154,1,lm bz [(v2,6),(v2,10),(v2,12),(v2,14),(v2,22),(v2,16),(v2,24),(v2,18),(v2,26),(v2,20),(v2,28)]⟩)],[1,2,10]⟩
def aan:AS:=⟨[(1,.pp 1 v2 0),(2,.ptr 2 0),(24,.ref 10),(25,iI 11),(26,iI 4)],[(1,aI v7),(2,aI cj)],[(10,⟨154,1,lm bz [(v2,6),(v2,10),(v2,12),(v2,14),(v2,22),(v2,16),(v2,24),(v2,18),(v2,26),(v2,20),(v2,28)]⟩)],[1,2,10]⟩
def Xi:AS:=⟨[(1,.pp 1 v2 0),(2,.ptr 2 0),(24,.ref 10),(25,iI 11),(26,iI 3)],[(1,aI v6),(2,aI cj)],[(10,⟨154,1,lm bz [(v2,6),(v2,10),(v2,12),(v2,14),(v2,22),(v2,16),(v2,24),(v2,18),(v2,26),(v2,20),(v2,28)]⟩)],[1,2,10]⟩
def NG:AS:=⟨[(1,.pp 1 v2 0),(2,.ptr 2 0),(24,.ref 10),(25,iI 11),(26,iI 2)],[(1,aI v5),(2,aI cj)],[(10,⟨154,1,lm bz [(v2,6),(v2,10),(v2,12),(v2,14),(v2,22),(v2,16),(v2,24),(v2,18),(v2,26),(v2,20),(v2,28)]⟩)],[1,2,10]⟩
def RO:AS:=⟨[(1,.pp 1 v2 0),(2,.ptr 2 0),(24,.ref 10),(25,iI 11),(26,iI 1)],[(1,aI v4),(2,aI cj)],[(10,⟨154,1,lm bz [(v2,6),(v2,10),(v2,12),(v2,14),(v2,22),(v2,16),(v2,24),(v2,18),(v2,26),(v2,20),(v2,28)]⟩)],[1,2,10]⟩
def Su:AS:=⟨[(1,.pp 1 v2 0),(2,.ptr 2 0),(24,.ref 10),(25,iI 11),(26,iI 0)],[(1,aI v3),(2,aI cj)],[(10,⟨154,1,lm bz [(v2,6),(v2,10),(v2,12),(v2,14),(v2,22),(v2,16),(v2,24),(v2,18),(v2,26),(v2,20),(v2,28)]⟩)],[1,2,10]⟩
abbrev dx(m:Nat):List ao:=kl (AK M w0) (Ct M w0 r) [.b 2,dp 31] (cat Tryz.f95 (pn 244)) m::[.b 2,dp 31]
abbrev uz(m:Nat):List ao:=kl (AK M w0) (Ct M w0 r) [.b 0,dp 15] (cat Tryz.f95 (pn 116)) m::[.b 0,dp 15]
variable{M w0 r v1 v2 v3 v4 v5 v6 v7 v8 v9 v10 v11 v12 v13}{K:Kn}{n:Nat}
theorem F6(hK:am K)(h:sG K n v13=some r):iq M w0 r (.b 3::dp 1959::dx M w0 r 29) (UU v2 v13):=by
 unfold sG at h;refine bw (ks':=dx M w0 r 29) 2 ⟨[(1,.pp 1 v2 0),(2,.ptr 2 0),(24,.ref 10),(25,iI 11),(26,iI 11)],[(1,aI v13),(2,aI cj)],[(10,⟨154,1,lm bz [(v2,6),(v2,10),(v2,12),(v2,14),(v2,22),(v2,16),(v2,24),(v2,18),(v2,26),(v2,20),(v2,28)]⟩)],[1,2,10]⟩ (bt (bp (aG 11 ?_)));cases h;exact aV
theorem Ij(hK:am K)(h:oi K n v12=some r):iq M w0 r (.b 3::dp 1959::dx M w0 r 30) (Vl v2 v12):=by
 unfold oi at h;refine bw (ks':=dx M w0 r 30) 2 ⟨[(1,.pp 1 v2 0),(2,.ptr 2 0),(24,.ref 10),(25,iI 11),(26,iI 10)],[(1,aI v12),(2,aI cj)],[(10,⟨154,1,lm bz [(v2,6),(v2,10),(v2,12),(v2,14),(v2,22),(v2,16),(v2,24),(v2,18),(v2,26),(v2,20),(v2,28)]⟩)],[1,2,10]⟩ (bt (bp (c9 56 57 3 15 8 (aj 0 (az (dh 10 1 bz (L:=([(v2,6),(v2,10),(v2,12),(v2,14),(v2,22),(v2,16),(v2,24),(v2,18),(v2,26),(v2,20),(v2,28)]:List (Nat×Nat))) (i:=(10:Int)) (by kernel_rfl)) (az (co 154 0 bz bz (L:=([(v2,6),(v2,10),(v2,12),(v2,14),(v2,22),(v2,16),(v2,24),(v2,18),(v2,26),(v2,20),(v2,28)]:List (Nat×Nat))) (j:=(10:Int).toNat) (of_decide_eq_true (by kernel_rfl)) ((fun _=>rfl))) (ac (aw 2 3 1 (aj 3 (dN 32 1 1 v2 28 0 (ac ?_)))))))))));obtain⟨h11,h⟩|⟨h11,h⟩:=ak h
 ·exact ag 34 h11 (bh 2 1 (aj 3 (dN 37 1 1 v2 28 0 (ac (ae 0 (F6 hK (v2:=v2) h))))))
 ·exact ag 34 h11 (ae 2 (F6 hK (v2:=v2) h))
theorem Ge(hK:am K)(h:ol K n v11=some r):iq M w0 r (.b 3::dp 1959::dx M w0 r 31) (TE v2 v11):=by
 unfold ol at h;refine bw (ks':=dx M w0 r 31) 2 ⟨[(1,.pp 1 v2 0),(2,.ptr 2 0),(24,.ref 10),(25,iI 11),(26,iI 9)],[(1,aI v11),(2,aI cj)],[(10,⟨154,1,lm bz [(v2,6),(v2,10),(v2,12),(v2,14),(v2,22),(v2,16),(v2,24),(v2,18),(v2,26),(v2,20),(v2,28)]⟩)],[1,2,10]⟩ (bt (bp (c9 56 57 3 15 8 (aj 0 (az (dh 10 1 bz (L:=([(v2,6),(v2,10),(v2,12),(v2,14),(v2,22),(v2,16),(v2,24),(v2,18),(v2,26),(v2,20),(v2,28)]:List (Nat×Nat))) (i:=(9:Int)) (by kernel_rfl)) (az (co 154 0 bz bz (L:=([(v2,6),(v2,10),(v2,12),(v2,14),(v2,22),(v2,16),(v2,24),(v2,18),(v2,26),(v2,20),(v2,28)]:List (Nat×Nat))) (j:=(9:Int).toNat) (of_decide_eq_true (by kernel_rfl)) ((fun _=>rfl))) (ac (aw 2 3 1 (aj 3 (dN 32 1 1 v2 20 0 (ac ?_)))))))))));obtain⟨h10,h⟩|⟨h10,h⟩:=ak h
 ·exact ag 34 h10 (bh 2 1 (aj 3 (dN 37 1 1 v2 20 0 (ac (ae 0 (Ij hK (v2:=v2) h))))))
 ·exact ag 34 h10 (ae 2 (Ij hK (v2:=v2) h))
theorem EU(hK:am K)(h:oC K n v10=some r):iq M w0 r (.b 3::dp 1959::dx M w0 r 32) (aag v2 v10):=by
 unfold oC at h;refine bw (ks':=dx M w0 r 32) 2 ⟨[(1,.pp 1 v2 0),(2,.ptr 2 0),(24,.ref 10),(25,iI 11),(26,iI 8)],[(1,aI v10),(2,aI cj)],[(10,⟨154,1,lm bz [(v2,6),(v2,10),(v2,12),(v2,14),(v2,22),(v2,16),(v2,24),(v2,18),(v2,26),(v2,20),(v2,28)]⟩)],[1,2,10]⟩ (bt (bp (c9 56 57 3 15 8 (aj 0 (az (dh 10 1 bz (L:=([(v2,6),(v2,10),(v2,12),(v2,14),(v2,22),(v2,16),(v2,24),(v2,18),(v2,26),(v2,20),(v2,28)]:List (Nat×Nat))) (i:=(8:Int)) (by kernel_rfl)) (az (co 154 0 bz bz (L:=([(v2,6),(v2,10),(v2,12),(v2,14),(v2,22),(v2,16),(v2,24),(v2,18),(v2,26),(v2,20),(v2,28)]:List (Nat×Nat))) (j:=(8:Int).toNat) (of_decide_eq_true (by kernel_rfl)) ((fun _=>rfl))) (ac (aw 2 3 1 (aj 3 (dN 32 1 1 v2 26 0 (ac ?_)))))))))));obtain⟨h9,h⟩|⟨h9,h⟩:=ak h
 ·exact ag 34 h9 (bh 2 1 (aj 3 (dN 37 1 1 v2 26 0 (ac (ae 0 (Ge hK (v2:=v2) h))))))
 ·exact ag 34 h9 (ae 2 (Ge hK (v2:=v2) h))
theorem IG(hK:am K)(h:nW K n v9=some r):iq M w0 r (.b 3::dp 1959::dx M w0 r 33) (OS v2 v9):=by
 unfold nW at h;refine bw (ks':=dx M w0 r 33) 2 ⟨[(1,.pp 1 v2 0),(2,.ptr 2 0),(24,.ref 10),(25,iI 11),(26,iI 7)],[(1,aI v9),(2,aI cj)],[(10,⟨154,1,lm bz [(v2,6),(v2,10),(v2,12),(v2,14),(v2,22),(v2,16),(v2,24),(v2,18),(v2,26),(v2,20),(v2,28)]⟩)],[1,2,10]⟩ (bt (bp (c9 56 57 3 15 8 (aj 0 (az (dh 10 1 bz (L:=([(v2,6),(v2,10),(v2,12),(v2,14),(v2,22),(v2,16),(v2,24),(v2,18),(v2,26),(v2,20),(v2,28)]:List (Nat×Nat))) (i:=(7:Int)) (by kernel_rfl)) (az (co 154 0 bz bz (L:=([(v2,6),(v2,10),(v2,12),(v2,14),(v2,22),(v2,16),(v2,24),(v2,18),(v2,26),(v2,20),(v2,28)]:List (Nat×Nat))) (j:=(7:Int).toNat) (of_decide_eq_true (by kernel_rfl)) ((fun _=>rfl))) (ac (aw 2 3 1 (aj 3 (dN 32 1 1 v2 18 0 (ac ?_)))))))))));obtain⟨h8,h⟩|⟨h8,h⟩:=ak h
 ·exact ag 34 h8 (bh 2 1 (aj 3 (dN 37 1 1 v2 18 0 (ac (ae 0 (EU hK (v2:=v2) h))))))
 ·exact ag 34 h8 (ae 2 (EU hK (v2:=v2) h))
theorem IW(hK:am K)(h:nM K n v8=some r):iq M w0 r (.b 3::dp 1959::dx M w0 r 34) (Y9 v2 v8):=by
 unfold nM at h;refine bw (ks':=dx M w0 r 34) 2 ⟨[(1,.pp 1 v2 0),(2,.ptr 2 0),(24,.ref 10),(25,iI 11),(26,iI 6)],[(1,aI v8),(2,aI cj)],[(10,⟨154,1,lm bz [(v2,6),(v2,10),(v2,12),(v2,14),(v2,22),(v2,16),(v2,24),(v2,18),(v2,26),(v2,20),(v2,28)]⟩)],[1,2,10]⟩ (bt (bp (c9 56 57 3 15 8 (aj 0 (az (dh 10 1 bz (L:=([(v2,6),(v2,10),(v2,12),(v2,14),(v2,22),(v2,16),(v2,24),(v2,18),(v2,26),(v2,20),(v2,28)]:List (Nat×Nat))) (i:=(6:Int)) (by kernel_rfl)) (az (co 154 0 bz bz (L:=([(v2,6),(v2,10),(v2,12),(v2,14),(v2,22),(v2,16),(v2,24),(v2,18),(v2,26),(v2,20),(v2,28)]:List (Nat×Nat))) (j:=(6:Int).toNat) (of_decide_eq_true (by kernel_rfl)) ((fun _=>rfl))) (ac (aw 2 3 1 (aj 3 (dN 32 1 1 v2 24 0 (ac ?_)))))))))));obtain⟨h7,h⟩|⟨h7,h⟩:=ak h
 ·exact ag 34 h7 (bh 2 1 (aj 3 (dN 37 1 1 v2 24 0 (ac (ae 0 (IG hK (v2:=v2) h))))))
 ·exact ag 34 h7 (ae 2 (IG hK (v2:=v2) h))
theorem Jg(hK:am K)(h:oy K n v7=some r):iq M w0 r (.b 3::dp 1959::dx M w0 r 35) (aan v2 v7):=by
 unfold oy at h;refine bw (ks':=dx M w0 r 35) 2 ⟨[(1,.pp 1 v2 0),(2,.ptr 2 0),(24,.ref 10),(25,iI 11),(26,iI 5)],[(1,aI v7),(2,aI cj)],[(10,⟨154,1,lm bz [(v2,6),(v2,10),(v2,12),(v2,14),(v2,22),(v2,16),(v2,24),(v2,18),(v2,26),(v2,20),(v2,28)]⟩)],[1,2,10]⟩ (bt (bp (c9 56 57 3 15 8 (aj 0 (az (dh 10 1 bz (L:=([(v2,6),(v2,10),(v2,12),(v2,14),(v2,22),(v2,16),(v2,24),(v2,18),(v2,26),(v2,20),(v2,28)]:List (Nat×Nat))) (i:=(5:Int)) (by kernel_rfl)) (az (co 154 0 bz bz (L:=([(v2,6),(v2,10),(v2,12),(v2,14),(v2,22),(v2,16),(v2,24),(v2,18),(v2,26),(v2,20),(v2,28)]:List (Nat×Nat))) (j:=(5:Int).toNat) (of_decide_eq_true (by kernel_rfl)) ((fun _=>rfl))) (ac (aw 2 3 1 (aj 3 (dN 32 1 1 v2 16 0 (ac ?_)))))))))));obtain⟨h6,h⟩|⟨h6,h⟩:=ak h
 ·exact ag 34 h6 (bh 2 1 (aj 3 (dN 37 1 1 v2 16 0 (ac (ae 0 (IW hK (v2:=v2) h))))))
 ·exact ag 34 h6 (ae 2 (IW hK (v2:=v2) h))
theorem EV(hK:am K)(h:nY K n v6=some r):iq M w0 r (.b 3::dp 1959::dx M w0 r 36) (Xi v2 v6):=by
 unfold nY at h;refine bw (ks':=dx M w0 r 36) 2 ⟨[(1,.pp 1 v2 0),(2,.ptr 2 0),(24,.ref 10),(25,iI 11),(26,iI 4)],[(1,aI v6),(2,aI cj)],[(10,⟨154,1,lm bz [(v2,6),(v2,10),(v2,12),(v2,14),(v2,22),(v2,16),(v2,24),(v2,18),(v2,26),(v2,20),(v2,28)]⟩)],[1,2,10]⟩ (bt (bp (c9 56 57 3 15 8 (aj 0 (az (dh 10 1 bz (L:=([(v2,6),(v2,10),(v2,12),(v2,14),(v2,22),(v2,16),(v2,24),(v2,18),(v2,26),(v2,20),(v2,28)]:List (Nat×Nat))) (i:=(4:Int)) (by kernel_rfl)) (az (co 154 0 bz bz (L:=([(v2,6),(v2,10),(v2,12),(v2,14),(v2,22),(v2,16),(v2,24),(v2,18),(v2,26),(v2,20),(v2,28)]:List (Nat×Nat))) (j:=(4:Int).toNat) (of_decide_eq_true (by kernel_rfl)) ((fun _=>rfl))) (ac (aw 2 3 1 (aj 3 (dN 32 1 1 v2 22 0 (ac ?_)))))))))));obtain⟨h5,h⟩|⟨h5,h⟩:=ak h
 ·exact ag 34 h5 (bh 2 1 (aj 3 (dN 37 1 1 v2 22 0 (ac (ae 0 (Jg hK (v2:=v2) h))))))
 ·exact ag 34 h5 (ae 2 (Jg hK (v2:=v2) h))
theorem Ki(hK:am K)(h:nF K n v5=some r):iq M w0 r (.b 3::dp 1959::dx M w0 r 37) (NG v2 v5):=by
 unfold nF at h;refine bw (ks':=dx M w0 r 37) 2 ⟨[(1,.pp 1 v2 0),(2,.ptr 2 0),(24,.ref 10),(25,iI 11),(26,iI 3)],[(1,aI v5),(2,aI cj)],[(10,⟨154,1,lm bz [(v2,6),(v2,10),(v2,12),(v2,14),(v2,22),(v2,16),(v2,24),(v2,18),(v2,26),(v2,20),(v2,28)]⟩)],[1,2,10]⟩ (bt (bp (c9 56 57 3 15 8 (aj 0 (az (dh 10 1 bz (L:=([(v2,6),(v2,10),(v2,12),(v2,14),(v2,22),(v2,16),(v2,24),(v2,18),(v2,26),(v2,20),(v2,28)]:List (Nat×Nat))) (i:=(3:Int)) (by kernel_rfl)) (az (co 154 0 bz bz (L:=([(v2,6),(v2,10),(v2,12),(v2,14),(v2,22),(v2,16),(v2,24),(v2,18),(v2,26),(v2,20),(v2,28)]:List (Nat×Nat))) (j:=(3:Int).toNat) (of_decide_eq_true (by kernel_rfl)) ((fun _=>rfl))) (ac (aw 2 3 1 (aj 3 (dN 32 1 1 v2 14 0 (ac ?_)))))))))));obtain⟨h4,h⟩|⟨h4,h⟩:=ak h
 ·exact ag 34 h4 (bh 2 1 (aj 3 (dN 37 1 1 v2 14 0 (ac (ae 0 (EV hK (v2:=v2) h))))))
 ·exact ag 34 h4 (ae 2 (EV hK (v2:=v2) h))
theorem Gr(hK:am K)(h:nX K n v4=some r):iq M w0 r (.b 3::dp 1959::dx M w0 r 38) (RO v2 v4):=by
 unfold nX at h;refine bw (ks':=dx M w0 r 38) 2 ⟨[(1,.pp 1 v2 0),(2,.ptr 2 0),(24,.ref 10),(25,iI 11),(26,iI 2)],[(1,aI v4),(2,aI cj)],[(10,⟨154,1,lm bz [(v2,6),(v2,10),(v2,12),(v2,14),(v2,22),(v2,16),(v2,24),(v2,18),(v2,26),(v2,20),(v2,28)]⟩)],[1,2,10]⟩ (bt (bp (c9 56 57 3 15 8 (aj 0 (az (dh 10 1 bz (L:=([(v2,6),(v2,10),(v2,12),(v2,14),(v2,22),(v2,16),(v2,24),(v2,18),(v2,26),(v2,20),(v2,28)]:List (Nat×Nat))) (i:=(2:Int)) (by kernel_rfl)) (az (co 154 0 bz bz (L:=([(v2,6),(v2,10),(v2,12),(v2,14),(v2,22),(v2,16),(v2,24),(v2,18),(v2,26),(v2,20),(v2,28)]:List (Nat×Nat))) (j:=(2:Int).toNat) (of_decide_eq_true (by kernel_rfl)) ((fun _=>rfl))) (ac (aw 2 3 1 (aj 3 (dN 32 1 1 v2 12 0 (ac ?_)))))))))));obtain⟨h3,h⟩|⟨h3,h⟩:=ak h
 ·exact ag 34 h3 (bh 2 1 (aj 3 (dN 37 1 1 v2 12 0 (ac (ae 0 (Ki hK (v2:=v2) h))))))
 ·exact ag 34 h3 (ae 2 (Ki hK (v2:=v2) h))
theorem IX(hK:am K)(h:nS K n v3=some r):iq M w0 r (.b 3::dp 1959::dx M w0 r 39) (Su v2 v3):=by
 unfold nS at h;refine bw (ks':=dx M w0 r 39) 2 ⟨[(1,.pp 1 v2 0),(2,.ptr 2 0),(24,.ref 10),(25,iI 11),(26,iI 1)],[(1,aI v3),(2,aI cj)],[(10,⟨154,1,lm bz [(v2,6),(v2,10),(v2,12),(v2,14),(v2,22),(v2,16),(v2,24),(v2,18),(v2,26),(v2,20),(v2,28)]⟩)],[1,2,10]⟩ (bt (bp (c9 56 57 3 15 8 (aj 0 (az (dh 10 1 bz (L:=([(v2,6),(v2,10),(v2,12),(v2,14),(v2,22),(v2,16),(v2,24),(v2,18),(v2,26),(v2,20),(v2,28)]:List (Nat×Nat))) (i:=(1:Int)) (by kernel_rfl)) (az (co 154 0 bz bz (L:=([(v2,6),(v2,10),(v2,12),(v2,14),(v2,22),(v2,16),(v2,24),(v2,18),(v2,26),(v2,20),(v2,28)]:List (Nat×Nat))) (j:=(1:Int).toNat) (of_decide_eq_true (by kernel_rfl)) ((fun _=>rfl))) (ac (aw 2 3 1 (aj 3 (dN 32 1 1 v2 10 0 (ac ?_)))))))))));obtain⟨h2,h⟩|⟨h2,h⟩:=ak h
 ·exact ag 34 h2 (bh 2 1 (aj 3 (dN 37 1 1 v2 10 0 (ac (ae 0 (Gr hK (v2:=v2) h))))))
 ·exact ag 34 h2 (ae 2 (Gr hK (v2:=v2) h))
theorem KW(hK:am K)(h:lY K n v1=some r):aN Tryz.prog 95 [.agg (aI v1)] (fun v _=>v=.agg (aI r)):=by
 refine bc (cat Tryz.f95 (pn 1)) Tryz.func95 Tryz.ntmps95 fun M w0=>(aZ ⟨[(0,.agg (aI v1))],[],[],[]⟩ ?_);unfold lY at h;refine aw 6 7 3 (Zm 1 1 0 fun v2=>(aj 3 (Y5 155 3 #[(0,(.tmp 7)),(1,(.tmp 8)),(2,(.tmp 9))] 10 (e:=154) (sz:=1) (l:=lm bz [(v2,6),(v2,10),(v2,12)]) (ac (bw (ks':=[dp 58,.b 0,dp 15]) 4 ⟨[(1,.pp 1 v2 0),(2,.ptr 2 0),(3,.ref 10),(11,iI 0)],[(1,aI v1),(2,aI cj)],[(10,⟨154,1,lm bz [(v2,6),(v2,10),(v2,12)]⟩)],[1,2,10]⟩ (o6 40 (c:=cat Tryz.f95 [1,1,0,1,0,0]) (by kernel_rfl) (bp (cz (ks':=dp 3737 :: .b 1::dp 935::uz M w0 r 39) 9 (bF [1,2,3,4,11] [1,2] [10] (bP 2 (nu 14 [.ref 10,iI 0,.adr v2 14,.adr v2 14,iI 0,.adr v2 22,.adr v2 22,.sl (lm bz [(v2,14),(v2,22)])]) [] [] [ii 22 10 ⟨154,1,lm bz [(v2,6),(v2,10),(v2,12),(v2,14),(v2,22)]⟩,bR Tryz.prog 40 Tryz.f95 (pn 3737) 9] (ay [.v 0 1,.v 0 2,.v 0 2,.v 0 2,.v 0 2,.v 0 2,.v 0 2,.v 0 1] (ai (gF (m:=0) (cp 22 10 154 1 bz (L:=([(v2,6),(v2,10),(v2,12)]:List (Nat×Nat))) (M:=([(v2,14),(v2,22)]:(List (Nat×Nat)))) (bytes:=8) (rfl) (fun _=>rfl) (by kernel_rfl))) (ai (bS 1) bO))) (bw (ks':=uz M w0 r 39) 2 ⟨[(1,.pp 1 v2 0),(2,.ptr 2 0),(3,.ref 10),(11,iI 1)],[(1,aI v1),(2,aI cj)],[(10,⟨154,1,lm bz [(v2,6),(v2,10),(v2,12),(v2,14),(v2,22)]⟩)],[1,2,10]⟩ (bt (bp (eO 57 1 15 9 (bF [1,2,3,4,11] [1,2] [10] (bP 2 (nu 14 [.ref 10,iI 1,.adr v2 14,.adr v2 16,iI 1,.adr v2 22,.adr v2 24,.sl (lm bz [(v2,16),(v2,24)])]) [] [] [ii 22 10 ⟨154,1,lm bz [(v2,6),(v2,10),(v2,12),(v2,14),(v2,22),(v2,16),(v2,24)]⟩,bR Tryz.prog 40 Tryz.f95 (pn 3737) 9] (ay [.v 0 1,.v 0 2,.v 0 2,.v 0 2,.v 0 2,.v 0 2,.v 0 2,.v 0 1] (ai (gF (m:=0) (cp 22 10 154 1 bz (L:=([(v2,6),(v2,10),(v2,12),(v2,14),(v2,22)]:List (Nat×Nat))) (M:=([(v2,16),(v2,24)]:(List (Nat×Nat)))) (bytes:=8) (rfl) (fun _=>rfl) (by kernel_rfl))) (ai (bS 1) bO))) (bw (ks':=uz M w0 r 38) 2 ⟨[(1,.pp 1 v2 0),(2,.ptr 2 0),(3,.ref 10),(11,iI 2)],[(1,aI v1),(2,aI cj)],[(10,⟨154,1,lm bz [(v2,6),(v2,10),(v2,12),(v2,14),(v2,22),(v2,16),(v2,24)]⟩)],[1,2,10]⟩ (bt (bp (eO 57 1 15 9 (bF [1,2,3,4,11] [1,2] [10] (bP 2 (nu 14 [.ref 10,iI 2,.adr v2 14,.adr v2 18,iI 2,.adr v2 22,.adr v2 26,.sl (lm bz [(v2,18),(v2,26)])]) [] [] [ii 22 10 ⟨154,1,lm bz [(v2,6),(v2,10),(v2,12),(v2,14),(v2,22),(v2,16),(v2,24),(v2,18),(v2,26)]⟩,bR Tryz.prog 40 Tryz.f95 (pn 3737) 9] (ay [.v 0 1,.v 0 2,.v 0 2,.v 0 2,.v 0 2,.v 0 2,.v 0 2,.v 0 1] (ai (gF (m:=0) (cp 22 10 154 1 bz (L:=([(v2,6),(v2,10),(v2,12),(v2,14),(v2,22),(v2,16),(v2,24)]:List (Nat×Nat))) (M:=([(v2,18),(v2,26)]:(List (Nat×Nat)))) (bytes:=8) (rfl) (fun _=>rfl) (by kernel_rfl))) (ai (bS 1) bO))) (bw (ks':=uz M w0 r 37) 2 ⟨[(1,.pp 1 v2 0),(2,.ptr 2 0),(3,.ref 10),(11,iI 3)],[(1,aI v1),(2,aI cj)],[(10,⟨154,1,lm bz [(v2,6),(v2,10),(v2,12),(v2,14),(v2,22),(v2,16),(v2,24),(v2,18),(v2,26)]⟩)],[1,2,10]⟩ ?_)))))))))))))))))))))))
 refine bt (bp (eO 57 1 15 9 (bF [1,2,3,4,11] [1,2] [10] (bP 2 (nu 14 [.ref 10,iI 3,.adr v2 14,.adr v2 20,iI 3,.adr v2 22,.adr v2 28,.sl (lm bz [(v2,20),(v2,28)])]) [] [] [ii 22 10 ⟨154,1,lm bz [(v2,6),(v2,10),(v2,12),(v2,14),(v2,22),(v2,16),(v2,24),(v2,18),(v2,26),(v2,20),(v2,28)]⟩,bR Tryz.prog 40 Tryz.f95 (pn 3737) 9] (ay [.v 0 1,.v 0 2,.v 0 2,.v 0 2,.v 0 2,.v 0 2,.v 0 2,.v 0 1] (ai (gF (m:=0) (cp 22 10 154 1 bz (L:=([(v2,6),(v2,10),(v2,12),(v2,14),(v2,22),(v2,16),(v2,24),(v2,18),(v2,26)]:List (Nat×Nat))) (M:=([(v2,20),(v2,28)]:(List (Nat×Nat)))) (bytes:=8) (rfl) (fun _=>rfl) (by kernel_rfl))) (ai (bS 1) bO))) (bw (ks':=uz M w0 r 36) 2 ⟨[(1,.pp 1 v2 0),(2,.ptr 2 0),(3,.ref 10),(11,iI 4)],[(1,aI v1),(2,aI cj)],[(10,⟨154,1,lm bz [(v2,6),(v2,10),(v2,12),(v2,14),(v2,22),(v2,16),(v2,24),(v2,18),(v2,26),(v2,20),(v2,28)]⟩)],[1,2,10]⟩ (bt (bp (Uf 4 5 3 10 (aj 1 (az (bv bz ([(v2,6),(v2,10),(v2,12),(v2,14),(v2,22),(v2,16),(v2,24),(v2,18),(v2,26),(v2,20),(v2,28)]:List (Nat×Nat))) (ac (bw (ks':=[dp 122,.b 2,dp 31]) 1 ⟨[(1,.pp 1 v2 0),(2,.ptr 2 0),(24,.ref 10),(25,iI 11),(26,iI 0)],[(1,aI v1),(2,aI cj)],[(10,⟨154,1,lm bz [(v2,6),(v2,10),(v2,12),(v2,14),(v2,22),(v2,16),(v2,24),(v2,18),(v2,26),(v2,20),(v2,28)]⟩)],[1,2,10]⟩ (o6 40 (c:=cat Tryz.f95 [1,1,1,0,1,0,0]) (by kernel_rfl) (bp (cz (ks':=dp 7832::dp 7833 :: .b 3::dp 1959::dx M w0 r 39) 8 (aj 0 (az (dh 10 1 bz (L:=([(v2,6),(v2,10),(v2,12),(v2,14),(v2,22),(v2,16),(v2,24),(v2,18),(v2,26),(v2,20),(v2,28)]:List (Nat×Nat))) (i:=(0:Int)) (by kernel_rfl)) (az (co 154 0 bz bz (L:=([(v2,6),(v2,10),(v2,12),(v2,14),(v2,22),(v2,16),(v2,24),(v2,18),(v2,26),(v2,20),(v2,28)]:List (Nat×Nat))) (j:=(0:Int).toNat) (of_decide_eq_true (by kernel_rfl)) ((fun _=>rfl))) (ac (aw 2 3 1 (aj 3 (dN 32 1 1 v2 6 0 (ac ?_)))))))))))))))))))))))
 obtain⟨h1,h⟩|⟨h1,h⟩:=ak h
 ·exact ag 34 h1 (bh 2 1 (aj 3 (dN 37 1 1 v2 6 0 (ac (ae 0 (IX hK (v2:=v2) h))))))
 ·exact ag 34 h1 (ae 2 (IX hK (v2:=v2) h))
end
noncomputable section
variable(M:Nat→Prop)(w0:aE)(r:Int)(v1:List ah)(v2:Fv)(v4:Int)(m1:Nat)(L1:Int→Option Int)
abbrev zo:Cx:=⟨Tryz.prog,19,M,w0⟩
abbrev AC:=bodyPost Tryz.prog Tryz.f129 (bq M w0 (fun v _=>v=iI r))
abbrev Sn(ks:List ao)(s:AS):=VE (zo M w0) (AC M w0 r) ks .normal s
abbrev K3(n:Nat):ao:=.c (cat Tryz.f129 (pn n))
abbrev Az:List ao:=[.b 0,K3 7]
abbrev QI:List ao:=kl (zo M w0) (AC M w0 r) Az (cat Tryz.f129 (pn 52)) m1::Az
def F0:AS:=⟨[(0,.sl (lm aP v1)),(1,.fn v2.id v2.ba),(7,iI (v1.length:Int)),(8,iI v4)],[],[],[]⟩
abbrev E7:Prop:=∀{v4:Int},L1 v4=some r→LP (zo M w0) (AC M w0 r) Az (cat Tryz.f129 (pn 52)) m1 (F0 v1 v2 v4)
variable{M w0 r v1 v2 v4 m1 L1}{K:Kn}{n:Nat}
theorem Qw(hK:am K)(hL1:E7 M w0 r v1 v2 m1 L1)(h:kz K n v1 v2 L1 v4=some r):Sn M w0 r (K3 52::QI M w0 r m1) (F0 v1 v2 v4):=by
 unfold kz at h;refine aw 6 7 3 ?_;obtain⟨h5,h⟩|⟨h5,h⟩:=ak h
 ·refine ag 9 h5 (cE 18 19 1 3 7 (aj 3 ?_));obtain⟨h6,h⟩:=aL h;refine az (bN aP aX h6 (eW) (dC)) (aJ 5 1 ?_);obtain⟨v5,h7,h⟩:=bind_some h;refine sR (hK.jz h7) (ac ?_);obtain⟨h8,h⟩|⟨h8,h⟩:=ak h
  ·refine ag 16 h8 (aG 9 ?_);cases h;exact aV
  ·exact ag 16 h8 (ae 4 (bt (hL1 h)))
 ·refine ag 9 h5 (aG 8 ?_);cases h;exact aV
theorem Rg(hK:am K)(m:Nat):E7 M w0 r v1 v2 m (jY K n v1 v2 m):=by
 induction m with
 | zero=>intro v4 h;cases h
 | succ m ih=>intro v4 h;have h:kz K n v1 v2 (jY K n v1 v2 m) v4=some r:=h;exact bp (Qw hK ih h)
theorem XL(hK:am K)(h:vW K n v1 v2=some r):aN Tryz.prog 129 [.sl (lm aP v1),.fn v2.id v2.ba] (fun v _=>v=iI r):=by
 refine bc (cat Tryz.f129 (pn 1)) Tryz.func129 Tryz.ntmps129 fun M w0=>(aZ ⟨[(0,.sl (lm aP v1)),(1,.fn v2.id v2.ba)],[],[],[]⟩ ?_);unfold vW at h;exact bK 12 13 7 4 (aj 1 (az (bv aP v1) (ac (ae 1 (cd (p:=pn 26) n (Rg hK n h))))))
end
noncomputable section
variable(M:Nat→Prop)(w0:aE)(r:Bool)(v1:List ah)(v2:Fv)  
variable{M w0 r v1 v2}{K:Kn}{n:Nat}
theorem Oe(hK:am K)(h:lr K n v1 v2=some r):aN Tryz.prog 118 [.sl (lm aP v1),.fn v2.id v2.ba] (fun v _=>v=.bool r):=by
 refine bc (cat Tryz.f118 (pn 1)) Tryz.func118 Tryz.ntmps118 fun M w0=>(aZ ⟨[(0,.sl (lm aP v1)),(1,.fn v2.id v2.ba)],[],[],[]⟩ ?_);unfold lr at h;refine aw 6 7 3 (aj 2 ?_);obtain⟨v3,h1,h⟩:=bind_some h;refine aD (XL hK h1) (ac (aG 1 ?_));cases h;exact aV
end
noncomputable section
variable(M:Nat→Prop)(w0:aE)(r:(List ah)×Bool)(v1:ah)(v8:Int)(v9 v11:(List ah))(m1:Nat)(L1:Int→(List ah)→Option ((List ah)×Bool))
abbrev z5:Cx:=⟨Tryz.prog,24,M,w0⟩
abbrev Dq:=bodyPost Tryz.prog Tryz.f96 (bq M w0 (fun v _=>v=.tup [.sl (lm aP r.1),.bool r.2]))
abbrev JY(ks:List ao)(s:AS):=VE (z5 M w0) (Dq M w0 r) ks .normal s
abbrev D8(n:Nat):ao:=.c (cat Tryz.f96 (pn n))
abbrev BL:List ao:=[.b 0,D8 15]
abbrev Kp:List ao:=kl (z5 M w0) (Dq M w0 r) BL (cat Tryz.f96 (pn 116)) m1::BL
def ZW:AS:=⟨[(4,.ref 19),(8,.sl (lm aP v1.Kids)),(9,iI (v1.Kids.length:Int)),(10,iI v8)],[],[(19,⟨52,59,lm aP v11⟩)],[19]⟩
def JD:AS:=⟨[(4,.ref 19),(8,.sl (lm aP v1.Kids)),(9,iI (v1.Kids.length:Int)),(10,iI v8)],[],[(19,⟨52,59,lm aP v9⟩)],[19]⟩
abbrev Cs:Prop:=∀{v8:Int} {v9:(List ah)},L1 v8 v9=some r→LP (z5 M w0) (Dq M w0 r) BL (cat Tryz.f96 (pn 116)) m1 (JD v1 v8 v9)
variable{M w0 r v1 v8 v9 v11 m1 L1}{K:Kn}{n:Nat}
theorem HY(hK:am K)(hL1:Cs M w0 r v1 m1 L1)(h:qY K n v1 v8 L1 v11=some r):JY M w0 r (.b 1::D8 935::Kp M w0 r m1) (ZW v1 v8 v11):=by
 unfold qY at h;exact ae 2 (bt (hL1 h))
theorem Wk(hK:am K)(hL1:Cs M w0 r v1 m1 L1)(h:k7 K n v1 L1 v8 v9=some r):JY M w0 r (D8 116::Kp M w0 r m1) (JD v1 v8 v9):=by
 unfold k7 at h;refine aw 6 7 3 ?_;obtain⟨h13,h⟩|⟨h13,h⟩:=ak h
 ·refine ag 11 h13 (cE 8 9 1 3 5 (aj 0 ?_));obtain⟨h14,h⟩:=aL h;refine az (bN aP aX h14 (eW) (dC)) (ac (aw 2 3 1 (aj 1 ?_)));obtain⟨v10,h15,h⟩:=bind_some h;refine aD (Hc hK h15) (ac ?_);obtain⟨h16,h⟩|⟨h16,h⟩:=ak h
  ·refine ag 15 h16 (bh 2 1 (aj 2 (az (er aP ([(gD v1.Kids v8)]:List ah) (new:=[aX (gD v1.Kids v8)]) (by simp only[List.map_cons,List.map_nil,dC])) ?_)));obtain⟨h17,h⟩:=aL h;exact az (cp 19 19 52 59 aP (rfl) (eW) h17) (ac (ae 0 (HY hK hL1 h)))
  ·exact ag 15 h16 (ae 2 (HY hK hL1 h))
 ·refine ag 11 h13 (lH 2 3 6 (aj 2 (iP 19 ?_)));obtain⟨v12,h18,h⟩:=bind_some h;refine aD (Oe hK h18) (ac (aG 1 ?_));cases h;exact d8
theorem Y2(hK:am K)(m:Nat):Cs M w0 r v1 m (mw K n v1 m):=by
 induction m with
 | zero=>intro v8 v9 h;cases h
 | succ m ih=>intro v8 v9 h;have h:k7 K n v1 (mw K n v1 m) v8 v9=some r:=h;exact bp (Wk hK ih h)
theorem LQ(hK:am K)(h:je K n v1=some r):aN Tryz.prog 96 [.agg (aX v1)] (fun v _=>v=.tup [.sl (lm aP r.1),.bool r.2]):=by
 refine bc (cat Tryz.f96 (pn 1)) Tryz.func96 Tryz.ntmps96 fun M w0=>(aZ ⟨[(0,.agg (aX v1))],[],[],[]⟩ ?_);unfold je at h;exact bK 28 29 15 6 (aj 2 (az (bv aP v1.Kids) (ac (jb 2 0 1 (bF [4,8,9,10] [] [] (eX 19 4 52 59 (ae 0 (cd (p:=pn 58) n (Y2 hK n h)))))))))
end
noncomputable section
variable(M:Nat→Prop)(w0:aE)(r:Int×Int)(v1:ah)(v2:cD)(v6:(List ah)×Bool)(v11 v12 v13:Int)(m1:Nat)(L1:Int→Int→Int→Option (Int×Int))
abbrev BE:Cx:=⟨Tryz.prog,71,M,w0⟩
abbrev BU:=bodyPost Tryz.prog Tryz.f57 (bq M w0 (fun v _=>v=.tup [iI r.1,iI r.2]))
abbrev S4(ks:List ao)(s:AS):=VE (BE M w0) (BU M w0 r) ks .normal s
abbrev KS(n:Nat):ao:=.c (cat Tryz.f57 (pn n))
abbrev BR:List ao:=[.b 0,KS 63]
abbrev QG:List ao:=kl (BE M w0) (BU M w0 r) BR (cat Tryz.f57 (pn 500)) m1::BR
def Kh:AS:=⟨[(3,.ptr 3 0),(4,iI v11),(5,iI v12),(47,.sl (lm aP v6.1)),(48,iI (v6.1.length:Int)),(49,iI v13)],[(3,cW v2)],[],[3]⟩
abbrev Kg:Prop:=∀{v11:Int} {v12:Int} {v13:Int},L1 v11 v12 v13=some r→LP (BE M w0) (BU M w0 r) BR (cat Tryz.f57 (pn 500)) m1 (Kh v2 v6 v11 v12 v13)
variable{M w0 r v1 v2 v6 v11 v12 v13 m1 L1}{K:Kn}{n:Nat}
theorem Rl(hK:am K)(hL1:Kg M w0 r v2 v6 m1 L1)(h:yc K n v2 v6 L1 v11 v12 v13=some r):S4 M w0 r (KS 500::QG M w0 r m1) (Kh v2 v6 v11 v12 v13):=by
 unfold yc at h;refine aw 6 7 3 ?_;obtain⟨h13,h⟩|⟨h13,h⟩:=ak h
 ·refine ag 50 h13 (cE 8 9 1 3 5 (aj 0 ?_));obtain⟨h14,h⟩:=aL h;refine az (bN aP aX h14 (eW) (dC)) (ac (aw 2 3 1 (aj 3 ?_)));obtain⟨v14,h15,h⟩:=bind_some h;exact sR (hK.ye h15) (ac (ae 3 (bt (hL1 h))))
 ·refine ag 50 h13 (lH 2 3 6 (aj 1 ?_));obtain⟨v15,h16,h⟩:=bind_some h;refine aD (g7 hK h16) (aJ 3 1 ?_);obtain⟨v16,h17,h⟩:=bind_some h;refine aD (g7 hK h17) (ac (aG 1 ?_));cases h;exact d8
theorem R0(hK:am K)(m:Nat):Kg M w0 r v2 v6 m (wM K n v2 v6 m):=by
 induction m with
 | zero=>intro v11 v12 v13 h;cases h
 | succ m ih=>intro v11 v12 v13 h;have h:yc K n v2 v6 (wM K n v2 v6 m) v11 v12 v13=some r:=h;exact bp (Rl hK ih h)
theorem Ek(hK:am K)(h:mc K n v1 v2=some r):aN Tryz.prog 57 [.agg (aX v1),.agg (cW v2)] (fun v _=>v=.tup [iI r.1,iI r.2]):=by
 refine bc (cat Tryz.f57 (pn 1)) Tryz.func57 Tryz.ntmps57 fun M w0=>(aZ ⟨[(0,.agg (aX v1)),(1,.agg (cW v2))],[],[],[]⟩ ?_);unfold mc at h;refine bK 12 13 7 4 (aj 2 ?_);obtain⟨v3,h1,h⟩:=bind_some h;refine aD (KW hK h1) (aJ 4 1 ?_);obtain⟨v4,h2,h⟩:=bind_some h;refine aD (eM hK h2) (ac (bh 3 2 ?_));obtain⟨h3,h⟩|⟨h3,h⟩:=ak h
 ·refine ag 22 h3 (aw 4 5 2 (aj 1 ?_));obtain⟨v5,h4,h⟩:=bind_some h;refine aD (g7 hK h4) (ac (aG 4 ?_));cases h;exact d8
 ·refine ag 22 h3 (dU 2 3 3 (aj 1 ?_));obtain⟨v6,h5,h⟩:=bind_some h;refine aD (LQ hK h5) (ac (aw 5 3 3 ?_));obtain⟨h6,h⟩|⟨h6,h⟩:=ak h
  ·refine ag 33 h6 (aw 4 5 2 (aj 5 ?_));obtain⟨v7,h7,h⟩:=bind_some h;refine sR (hK.sZ h7) (ac (aw 2 3 1 (aj 1 ?_)));obtain⟨v8,h8,h⟩:=bind_some h;refine aD (g7 hK h8) (aJ 3 1 ?_);obtain⟨v9,h9,h⟩:=bind_some h;refine aD (g7 hK h9) (ac (aG 2 ?_));cases h;exact d8
  ·exact ag 33 h6 (gE 4 5 3 4 (aj 1 (az (bv aP v6.1) (ac (ae 1 (cd (p:=pn 250) n (R0 hK n h)))))))
end
noncomputable section
variable(M:Nat→Prop)(w0:aE)(r:Int)(v1:aF)(v2 v3 v5 v7:Int)  
abbrev LH(n:Nat):ao:=.c (cat Tryz.f58 (pn n))
abbrev SF:Cx:=⟨Tryz.prog,37,M,w0⟩
abbrev Yo:=bodyPost Tryz.prog Tryz.f58 (bq M w0 (fun v _=>v=iI r))
abbrev K1(ks:List ao)(s:AS):=VE (SF M w0) (Yo M w0 r) ks .normal s
def Ue:AS:=⟨[(2,iI v7)],[],[],[]⟩
def Ql:AS:=⟨[(1,iI v2),(2,iI v5),(3,.ptr 3 0)],[(3,aI v1)],[],[3]⟩
variable{M w0 r v1 v2 v3 v5 v7}{K:Kn}{n:Nat}
theorem Fh(hK:am K)(h:ui K n v7=some r):K1 M w0 r [LH 31] (Ue v7):=by
 unfold ui at h;refine aG 3 ?_;cases h;exact aV
theorem Ez(hK:am K)(h:tX K n v1 v2 v5=some r):K1 M w0 r [LH 15] (Ql v1 v2 v5):=by
 unfold tX at h;refine bK 4 5 3 2 (aj 3 ?_);obtain⟨v6,h3,h⟩:=bind_some h;refine aD (eM hK h3) (ac (bh 3 2 ?_));obtain⟨h4,h⟩|⟨h4,h⟩:=ak h
 ·exact ag 32 h4 (ae 2 (Fh hK h))
 ·exact ag 32 h4 (ae 2 (Fh hK h))
theorem yR(hK:am K)(h:nl K n v1 v2 v3=some r):aN Tryz.prog 58 [.agg (aI v1),iI v2,iI v3] (fun v _=>v=iI r):=by
 refine bc (cat Tryz.f58 (pn 1)) Tryz.func58 Tryz.ntmps58 fun M w0=>(aZ ⟨[(0,.agg (aI v1)),(1,iI v2),(2,iI v3)],[],[],[]⟩ ?_);unfold nl at h;refine bK 28 29 15 6 (aj 3 ?_);obtain⟨v4,h1,h⟩:=bind_some h;refine aD (eM hK h1) (ac (bh 3 2 ?_));obtain⟨h2,h⟩|⟨h2,h⟩:=ak h
 ·exact ag 20 h2 (ae 2 (Ez hK h))
 ·exact ag 20 h2 (ae 2 (Ez hK h))
end
noncomputable section
variable(M:Nat→Prop)(w0:aE)(r:Int)(v1:ah)(v2:Int)(v3:cD)(v9:Int)  
abbrev Vo(n:Nat):ao:=.c (cat Tryz.f25 (pn n))
abbrev YV:Cx:=⟨Tryz.prog,46,M,w0⟩
abbrev P1:=bodyPost Tryz.prog Tryz.f25 (bq M w0 (fun v _=>v=iI r))
abbrev Oj(ks:List ao)(s:AS):=VE (YV M w0) (P1 M w0 r) ks .normal s
def Ww:AS:=⟨[(1,iI v2),(3,.ptr 3 0),(7,iI v9)],[(3,aX v1)],[],[3]⟩
variable{M w0 r v1 v2 v3 v9}{K:Kn}{n:Nat}
theorem EQ(hK:am K)(h:n9 K n v1 v2 v9=some r):Oj M w0 r [Vo 15] (Ww v1 v2 v9):=by
 unfold n9 at h;refine aw 2 3 1 (aj 4 ?_);obtain⟨v10,h7,h⟩:=bind_some h;refine aD (yR hK h7) (ac (aG 1 ?_));cases h;exact aV
theorem Xc(hK:am K)(h:nd K n v1 v2 v3=some r):aN Tryz.prog 25 [.agg (aX v1),iI v2,.agg (cW v3)] (fun v _=>v=iI r):=by
 refine bc (cat Tryz.f25 (pn 1)) Tryz.func25 Tryz.ntmps25 fun M w0=>(aZ ⟨[(0,.agg (aX v1)),(1,iI v2),(2,.agg (cW v3))],[],[],[]⟩ ?_);unfold nd at h;refine aw 6 7 3 (aj 4 ?_);obtain⟨v4,h1,h⟩:=bind_some h;refine aD (eM hK h1) (ac (aw 5 3 3 ?_));obtain⟨h2,h⟩|⟨h2,h⟩:=ak h
 ·refine ag 21 h2 (aw 4 5 2 (aj 2 ?_));obtain⟨v5,h3,h⟩:=bind_some h;refine aD (Ek hK h3) (ac (aw 2 3 1 (bF [1,3,9,10] [3] [] ?_)));obtain⟨v6,h4,h⟩:=bind_some h;obtain⟨v7,h5,h⟩:=bind_some h;obtain⟨v8,h6,h⟩:=bind_some h;exact bP 1 (nu 28 [iI v2,iI v6,.ptr 3 2,.agg (aI v1.Style),iI v2,.agg (bi v7),iI v8,iI (aa (v6-v8))]) [] [] [bR Tryz.prog 46 Tryz.f25 (pn 234) 8] (ay [.v 0 1] (ai (bU 0 1 29 (g7 hK h4)) (ay (vz 3) (ai (bU 0 1 33 (vY hK h5)) (ai (bU 0 1 34 (qe hK h6)) (ay [.v 0 1] (ai (bS 0) bO))))))) (ae 1 (EQ hK h))
 ·exact ag 21 h2 (ae 2 (EQ hK h))
end
noncomputable section
variable(M:Nat→Prop)(w0:aE)(r v1:ab)(v2:Int)(v3:Int×Bool)(v5:Int)  
abbrev ZK(n:Nat):ao:=.c (cat Tryz.f26 (pn n))
abbrev aaj:Cx:=⟨Tryz.prog,45,M,w0⟩
abbrev Vy:=bodyPost Tryz.prog Tryz.f26 (bq M w0 (fun v _=>v=.agg (aC r)))
abbrev Ng(ks:List ao)(s:AS):=VE (aaj M w0) (Vy M w0 r) ks .normal s
def XR:AS:=⟨[(2,.ptr 2 0),(4,.ptr 4 0)],[(2,aC ({ v1 with X:=(aa (v1.X+v3.1)),Y:=v5 }:ab)),(4,List.set (aC bb) 66 (.nils))],[],[2,4]⟩
variable{M w0 r v1 v2 v3 v5}{K:Kn}{n:Nat}
theorem LM(hK:am K)(h:rU K n v1 v3 v5=some r):Ng M w0 r [ZK 63] (XR v1 v3 v5):=by
 unfold rU at h;refine aG 3 ?_;cases h;exact aV
theorem J5(hK:am K)(h:mf K n v1 v2=some r):aN Tryz.prog 26 [.agg (aC v1),iI v2] (fun v _=>v=.agg (aC r)):=by
 refine bc (cat Tryz.f26 (pn 1)) Tryz.func26 Tryz.ntmps26 fun M w0=>(aZ ⟨[(0,.agg (aC v1)),(1,iI v2)],[],[],[]⟩ ?_);unfold mf at h;refine aw 13 7 5 ?_;obtain⟨h1,h⟩|⟨h1,h⟩:=ak h
 ·refine ag 12 h1 (aG 5 ?_);cases h;exact aV
 ·refine ag 12 h1 (dU 2 3 3 (aj 4 ?_));obtain⟨v3,h2,h⟩:=bind_some h;refine aD (eM hK h2) (ac (aw 13 7 5 ?_));obtain⟨h3,h⟩|⟨h3,h⟩:=ak h
  ·refine ag 31 h3 (aw 4 5 2 (aj 3 ?_));obtain⟨v4,h4,h⟩:=bind_some h;exact aD (eM hK h4) (ac (ae 1 (LM hK h)))
  ·exact ag 31 h3 (ae 2 (LM hK h))
end
noncomputable section
variable(M:Nat→Prop)(w0:aE)(r:Int)(v1:aq)  
variable{M w0 r v1}{K:Kn}{n:Nat}
theorem rF(hK:am K)(h:fP K n v1=some r):aN Tryz.prog 29 [.agg (bJ v1)] (fun v _=>v=iI r):=by
 refine bc (cat Tryz.f29 (pn 1)) Tryz.func29 Tryz.ntmps29 fun M w0=>(aZ ⟨[(0,.agg (bJ v1))],[],[],[]⟩ ?_);unfold fP at h;refine aG 5 ?_;cases h;exact aV
end
noncomputable section
variable(M:Nat→Prop)(w0:aE)(r:aq)(v1 v2:aq)  
variable{M w0 r v1 v2}{K:Kn}{n:Nat}
theorem vO(hK:am K)(h:gO K n v1 v2=some r):aN Tryz.prog 100 [.agg (bJ v1),.agg (bJ v2)] (fun v _=>v=.agg (bJ r)):=by
 refine bc (cat Tryz.f100 (pn 1)) Tryz.func100 Tryz.ntmps100 fun M w0=>(aZ ⟨[(0,.agg (bJ v1)),(1,.agg (bJ v2))],[],[],[]⟩ ?_);unfold gO at h;refine aG 5 ?_;cases h;exact aV
end
noncomputable section
variable(M:Nat→Prop)(w0:aE)(r:(List ab)×Int×aq×aq×Bool)(v1:List ab)(v16:Int)(v17:Bool)(v18:Int)(v19 v20:aq)(v21:List ab)(v22:aq)(v24:Int)(v25:aq)(v26:Int)(v27:Bool)(v28 v29 v30:aq)(m1:Nat)(L1:Int→Bool→Int→aq→aq→(List ab)→Option ((List ab)×Int×aq×aq×Bool))
abbrev Ax:Cx:=⟨Tryz.prog,52,M,w0⟩
abbrev zY:=bodyPost Tryz.prog Tryz.f97 (bq M w0 (fun v s=>v=.tup [.ref 43,iI r.2.1,.agg (bJ r.2.2.1),.agg (bJ r.2.2.2.1),.bool r.2.2.2.2]∧look 43 s.r=some ⟨59,67,lm aB r.1⟩))
abbrev ud(ks:List ao)(s:AS):=VE (Ax M w0) (zY M w0 r) ks .normal s
abbrev jw(n:Nat):ao:=.c (cat Tryz.f97 (pn n))
abbrev Bt:List ao:=[.b 0,jw 31]
abbrev yE:List ao:=kl (Ax M w0) (zY M w0 r) Bt (cat Tryz.f97 (pn 244)) m1::Bt
def M7:AS:=⟨[(2,.ref 43),(3,iI v26),(4,.ptr 4 0),(5,.ptr 5 0),(6,.bool v27),(7,.ptr 7 0),(9,.ptr 9 0),(10,.sl (lm aB v1)),(11,iI (v1.length:Int)),(12,iI v18)],[(4,bJ v28),(5,bJ bX),(7,bJ v29),(9,aC ({ (gD v1 v18)with Y:=v24 }:ab))],[(43,⟨59,67,lm aB v21⟩)],[4,5,7,9,43]⟩
def NC:AS:=⟨[(2,.ref 43),(4,.ptr 4 0),(5,.ptr 5 0),(7,.ptr 7 0),(9,.ptr 9 0),(10,.sl (lm aB v1)),(11,iI (v1.length:Int)),(12,iI v18)],[(4,bJ v25),(5,bJ bX),(7,bJ v22),(9,aC ({ (gD v1 v18)with Y:=v24 }:ab))],[(43,⟨59,67,lm aB v21⟩)],[4,5,7,9,43]⟩
def Yg:AS:=⟨[(2,.ref 43),(3,iI v16),(4,.ptr 4 0),(5,.ptr 5 0),(6,.bool v17),(7,.ptr 7 0),(9,.ptr 9 0),(10,.sl (lm aB v1)),(11,iI (v1.length:Int)),(12,iI v18)],[(4,bJ v19),(5,bJ bX),(7,bJ v22),(9,aC ({ (gD v1 v18)with Y:=v24 }:ab))],[(43,⟨59,67,lm aB v21⟩)],[4,5,7,9,43]⟩
def aav:AS:=⟨[(2,.ref 43),(3,iI v16),(4,.ptr 4 0),(5,.ptr 5 0),(6,.bool v17),(7,.ptr 7 0)],[(4,bJ v30),(5,bJ bX),(7,bJ v20)],[(43,⟨59,67,lm aB v21⟩)],[4,5,7,43]⟩
def IH:AS:=⟨[(2,.ref 43),(3,iI v16),(4,.ptr 4 0),(5,.ptr 5 0),(6,.bool v17),(7,.ptr 7 0),(10,.sl (lm aB v1)),(11,iI (v1.length:Int)),(12,iI v18)],[(4,bJ v19),(5,bJ bX),(7,bJ v20)],[(43,⟨59,67,lm aB v21⟩)],[4,5,7,43]⟩
abbrev uR:Prop:=∀{v16:Int} {v17:Bool} {v18:Int} {v19:aq} {v20:aq} {v21:(List ab)},L1 v16 v17 v18 v19 v20 v21=some r→LP (Ax M w0) (zY M w0 r) Bt (cat Tryz.f97 (pn 244)) m1 (IH v1 v16 v17 v18 v19 v20 v21)
variable{M w0 r v1 v16 v17 v18 v19 v20 v21 v22 v24 v25 v26 v27 v28 v29 v30 m1 L1}{K:Kn}{n:Nat}
theorem HC(hK:am K)(hL1:uR M w0 r v1 m1 L1)(h:pm K n v1 v18 v21 v24 L1 v26 v27 v28 v29=some r):ud M w0 r (jw 125343 :: .b 1::jw 1959::yE M w0 r m1) (M7 v1 v18 v21 v24 v26 v27 v28 v29):=by
 unfold pm at h;refine aj 2 (az (er aB ([({ (gD v1 v18)with Y:=v24 }:ab)]:List ab) (new:=[aC ({ (gD v1 v18)with Y:=v24 }:ab)]) (by simp only[List.map_cons,List.map_nil,cH])) ?_);obtain⟨h22,h⟩:=aL h;exact az (cp 43 43 59 67 aB (rfl) (dF) h22) (ac (ae 2 (bt (hL1 h))))
theorem FO(hK:am K)(hL1:uR M w0 r v1 m1 L1)(h:oh K n v1 v18 v21 v22 v24 L1 v25=some r):ud M w0 r (jw 1002741::jw 125343 :: .b 1::jw 1959::yE M w0 r m1) (NC v1 v18 v21 v22 v24 v25):=by
 unfold oh at h;exact ae 5 (HC hK hL1 h)
theorem Fn(hK:am K)(hL1:uR M w0 r v1 m1 L1)(h:nq K n v1 v16 v17 v18 v19 v21 v22 L1 v24=some r):ud M w0 r (jw 62671 :: .b 1::jw 1959::yE M w0 r m1) (Yg v1 v16 v17 v18 v19 v21 v22 v24):=by
 unfold nq at h;refine aw 5 3 3 ?_;obtain⟨h20,h⟩|⟨h20,h⟩:=ak h
 ·refine ag 30 h20 (aw 9 5 4 ?_);obtain⟨h21,h⟩|⟨h21,h⟩:=ak h
  ·exact ag 31 h21 (ae 2 (FO hK hL1 h))
  ·exact ag 31 h21 (ae 2 (FO hK hL1 h))
 ·exact ag 30 h20 (ae 2 (HC hK hL1 h))
theorem LU(hK:am K)(h:o1 K n v16 v17 v20 v21 v30=some r):ud M w0 r [jw 63] (aav v16 v17 v20 v21 v30):=by
 unfold o1 at h;refine aw 2 3 1 (bF [2,3,4,5,6,7] [4,5,7] [43] (bP 5 (nu 47 [.ref 43,iI v16,.agg (bJ v30),.agg (bJ v20),.bool v17]) [] [] [bR Tryz.prog 52 Tryz.f97 (pn 126) 5,bR Tryz.prog 52 Tryz.f97 (pn 126) 6,bR Tryz.prog 52 Tryz.f97 (pn 126) 7,bR Tryz.prog 52 Tryz.f97 (pn 126) 8,bR Tryz.prog 52 Tryz.f97 (pn 126) 9] (ay [.v 0 1,.v 0 2,.v 0 3,.v 0 4,.v 0 5] (ai (bS 0) (ai (bS 1) (ai (bS 2) (ai (bS 3) (ai (bS 4) bO)))))) (aG 1 ?_)));cases h;exact sN
theorem Oq(hK:am K)(hL1:uR M w0 r v1 m1 L1)(h:nB K n v1 L1 v16 v17 v18 v19 v20 v21=some r):ud M w0 r (jw 244::yE M w0 r m1) (IH v1 v16 v17 v18 v19 v20 v21):=by
 unfold nB at h;refine aw 6 7 3 ?_;obtain⟨h15,h⟩|⟨h15,h⟩:=ak h
 ·refine ag 13 h15 (cE 8 9 1 3 5 (aj 0 ?_));obtain⟨h16,h⟩:=aL h;refine az (bN aB aC h16 (dF) (cH)) (ac (aw 2 3 1 (aj 3 ?_)));obtain⟨v22,h17,h⟩:=bind_some h;refine aD (vO hK h17) (ac (aw 13 7 5 ?_));obtain⟨h18,h⟩|⟨h18,h⟩:=ak h
  ·refine ag 22 h18 (bh 2 1 (aj 2 ?_));obtain⟨v23,h19,h⟩:=bind_some h;exact aD (rF hK h19) (ac (ae 0 (Fn hK hL1 h)))
  ·exact ag 22 h18 (ae 2 (Fn hK hL1 h))
 ·refine ag 13 h15 (lH 5 3 8 ?_);obtain⟨h23,h⟩|⟨h23,h⟩:=ak h
  ·exact ag 45 h23 (ae 2 (LU hK h))
  ·exact ag 45 h23 (ae 2 (LU hK h))
theorem Y1(hK:am K)(m:Nat):uR M w0 r v1 m (iX K n v1 m):=by
 induction m with
 | zero=>intro v16 v17 v18 v19 v20 v21 h;cases h
 | succ m ih=>intro v16 v17 v18 v19 v20 v21 h;have h:nB K n v1 (iX K n v1 m) v16 v17 v18 v19 v20 v21=some r:=h;exact bp (Oq hK ih h)
theorem Nu(hK:am K)(h:oP K n v1=some r):aN Tryz.prog 97 [.sl (lm aB v1)] (fun v s=>v=.tup [.ref 43,iI r.2.1,.agg (bJ r.2.2.1),.agg (bJ r.2.2.2.1),.bool r.2.2.2.2]∧look 43 s.r=some ⟨59,67,lm aB r.1⟩):=by
 refine bc (cat Tryz.f97 (pn 1)) Tryz.func97 Tryz.ntmps97 fun M w0=>(aZ ⟨[(0,.sl (lm aB v1))],[],[],[]⟩ ?_);unfold oP at h;exact bK 60 61 31 8 (aj 1 (az (bv aB v1) (ac (jb 2 0 1 (bF [2,3,4,5,6,7,10,11,12] [4,5,7] [] (eX 43 2 59 67 (ae 0 (cd (p:=pn 122) n (Y1 hK n h)))))))))
end
noncomputable section
variable(M:Nat→Prop)(w0:aE)(r v1:List ab)  
variable{M w0 r v1}{K:Kn}{n:Nat}
theorem XI(hK:am K)(h:l6 K n v1=some r):aN Tryz.prog 98 [.sl (lm aB v1)] (fun v s=>v=.ref 5∧look 5 s.r=some ⟨59,67,lm aB r⟩):=by
 refine bc (cat Tryz.f98 (pn 1)) Tryz.func98 Tryz.ntmps98 fun M w0=>(aZ ⟨[(0,.sl (lm aB v1))],[],[],[]⟩ ?_);unfold l6 at h;refine bK 12 13 7 4 (aj 1 ?_);refine PX (bm Tryz.f98 (pn 12) 1) (.eql) 44 44 (.tmp 3) (.const (.slice none 0 0)) 4 (lm aB v1) (r:=aY Tryz.f98 (pn 12) 2) (e:=59) (by kernel_rfl) (by kernel_rfl) (by kernel_rfl) (by kernel_rfl) (by kernel_rfl) (by kernel_rfl) (by kernel_rfl) (by kernel_rfl) (fun hq=>?_) ?_
 ·have h:=PB (by simpa using hq) h;refine ac (aG 5 (eX 5 2 59 67 ?_));cases h;exact d9
 ·have h:=Yh h;refine ac (dU 2 3 3 (aj 0 (Xg 44 5 (e:=59) (sz:=67) (aJ 2 1 ?_))));obtain⟨h2,h⟩:=aL h;refine az (cp 7 5 59 67 aB (rfl) (dF) h2) (ac (aG 1 ?_));cases h;exact d9
end
noncomputable section
variable(M:Nat→Prop)(w0:aE)(r:aq)(v1:Int)  
variable{M w0 r v1}{K:Kn}{n:Nat}
theorem Hs(hK:am K)(h:qK K n v1=some r):aN Tryz.prog 99 [iI v1] (fun v _=>v=.agg (bJ r)):=by
 refine bc (cat Tryz.f99 (pn 1)) Tryz.func99 Tryz.ntmps99 fun M w0=>(aZ ⟨[(0,iI v1)],[],[],[]⟩ ?_);unfold qK at h;refine aG 5 ?_;cases h;exact aV
end
noncomputable section
variable(M:Nat→Prop)(w0:aE)(r:Int)(v1:aR)  
variable{M w0 r v1}{K:Kn}{n:Nat}
theorem Xh(hK:am K)(h:xh K n v1=some r):aN Tryz.prog 101 [.agg (bi v1)] (fun v _=>v=iI r):=by
 refine bc (cat Tryz.f101 (pn 1)) Tryz.func101 Tryz.ntmps101 fun M w0=>(aZ ⟨[(0,.agg (bi v1))],[],[],[]⟩ ?_);unfold xh at h;refine aG 5 ?_;cases h;exact aV
end
noncomputable section
variable(M:Nat→Prop)(w0:aE)(r:Bool)(v1:ah)(v2:Bool)  
abbrev MF(n:Nat):ao:=.c (cat Tryz.f102 (pn n))
abbrev OU:Cx:=⟨Tryz.prog,16,M,w0⟩
abbrev P8:=bodyPost Tryz.prog Tryz.f102 (bq M w0 (fun v _=>v=.bool r))
abbrev VS(ks:List ao)(s:AS):=VE (OU M w0) (P8 M w0 r) ks .normal s
def Sm:AS:=⟨[(2,.bool v2)],[],[],[]⟩
variable{M w0 r v1 v2}{K:Kn}{n:Nat}
theorem AR(hK:am K)(h:pf K n v2=some r):VS M w0 r [MF 7] (Sm v2):=by
 unfold pf at h;refine aG 1 ?_;cases h;exact aV
theorem F3(hK:am K)(h:mr K n v1=some r):aN Tryz.prog 102 [.agg (aX v1)] (fun v _=>v=.bool r):=by
 refine bc (cat Tryz.f102 (pn 1)) Tryz.func102 Tryz.ntmps102 fun M w0=>(aZ ⟨[(0,.agg (aX v1))],[],[],[]⟩ ?_);unfold mr at h;refine aw 6 7 3 (aj 4 ?_);obtain⟨h1,h⟩|⟨h1,h⟩:=ak h
 ·exact av 6 h1 (ac (ae 0 (AR hK h)))
 ·refine av 6 h1 (aJ 9 5 ?_);obtain⟨h2,h⟩|⟨h2,h⟩:=ak h
  ·exact av 11 h2 (ac (ae 0 (AR hK h)))
  ·exact av 11 h2 (ac (ae 0 (AR hK h)))
end
end Go.Proofs.YtnpmlepplfaijaaGreat

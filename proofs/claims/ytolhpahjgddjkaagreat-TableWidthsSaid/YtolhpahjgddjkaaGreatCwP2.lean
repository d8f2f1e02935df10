/- The runs of the functions that TableWidths reaches do what their plain forms say, part 2. Made by a program. -/
import Derived.Test.YtolhpahjgddjkaaGreatCwGk
import Derived.Test.YtolhpahjgddjkaaGreatCwP1
namespace Go.Proofs.YtolhpahjgddjkaaGreat
open Go.RowKit
set_option maxRecDepth 20000
set_option linter.all false
set_option linter.unusedVariables false
set_option linter.unusedSimpArgs false
noncomputable section
variable(M:Nat→Prop)(w0:aJ)(r v1:ac)  
abbrev yT(n:Nat):ao:=.c (cat Tryz.f32 (pn n))
abbrev Ws:Cx:=⟨Tryz.prog,17,M,w0⟩
abbrev TR:=bodyPost Tryz.prog Tryz.f32 (bX M w0 (fun v _=>v=.agg (aI r)))
abbrev Ay(m:Nat):List ao:=kl (Ws M w0) (TR M w0 r) [.b 0,yT 7] (cat Tryz.f32 (pn 52)) m::[.b 0,yT 7]
variable{M w0 r v1}{K:Kn}{n:Nat}
theorem Wv(hK:am K)(h:Bt K n v1=some r):aQ Tryz.prog 32 [.agg (aI v1)] (fun v _=>v=.agg (aI r)):=by
 refine bF (cat Tryz.f32 (pn 1)) Tryz.func32 Tryz.ntmps32 fun M w0=>(bx ⟨[(0,.agg (aI v1))],[],[],[]⟩ ?_);unfold Bt at h;refine bq (ks':=[yT 26,.b 0,yT 7]) 6 ⟨[(1,.ptr 1 0),(2,.ptr 2 0),(3,iI 0)],[(1,aI v1),(2,List.set (aI dj) 58 (.nils))],[],[1,2]⟩ (kz 40 (c:=cat Tryz.f32 [1,0,1,0,0]) (by kernel_rfl) (aU (bq (ks':=Ay M w0 r 39) 10 ⟨[(1,.ptr 1 0),(2,.ptr 2 0),(3,iI 1)],[(1,aI ({ v1 with Style:=({ v1.Style with Margin:=⟨({ bJ with Kind:=1 }:ch),v1.Style.Margin.a1,v1.Style.Margin.a2,v1.Style.Margin.a3⟩ }:aE) }:ac)),(2,List.set (aI dj) 58 (.nils))],[],[1,2]⟩ (bd (aU (bq (ks':=Ay M w0 r 38) 10 ⟨[(1,.ptr 1 0),(2,.ptr 2 0),(3,iI 2)],[(1,aI ({ v1 with Style:=({ v1.Style with Margin:=⟨({ bJ with Kind:=1 }:ch),({ bJ with Kind:=1 }:ch),v1.Style.Margin.a2,v1.Style.Margin.a3⟩ }:aE) }:ac)),(2,List.set (aI dj) 58 (.nils))],[],[1,2]⟩ (bd (aU (bq (ks':=Ay M w0 r 37) 10 ⟨[(1,.ptr 1 0),(2,.ptr 2 0),(3,iI 3)],[(1,aI ({ v1 with Style:=({ v1.Style with Margin:=⟨({ bJ with Kind:=1 }:ch),({ bJ with Kind:=1 }:ch),({ bJ with Kind:=1 }:ch),v1.Style.Margin.a3⟩ }:aE) }:ac)),(2,List.set (aI dj) 58 (.nils))],[],[1,2]⟩ (bd (aU (bq (ks':=Ay M w0 r 36) 10 ⟨[(1,.ptr 1 0),(2,.ptr 2 0),(3,iI 4)],[(1,aI ({ v1 with Style:=({ v1.Style with Margin:=⟨({ bJ with Kind:=1 }:ch),({ bJ with Kind:=1 }:ch),({ bJ with Kind:=1 }:ch),({ bJ with Kind:=1 }:ch)⟩ }:aE) }:ac)),(2,List.set (aI dj) 58 (.nils))],[],[1,2]⟩ (bd (aU (aW 13 ?_)))))))))))))))
 cases h;exact bW
end
noncomputable section
variable(M:Nat→Prop)(w0:aJ)(r:Bool)(v1 v2 v3:Int)(v4:Bool)  
abbrev acr(n:Nat):ao:=.c (cat Tryz.f61 (pn n))
abbrev TU:Cx:=⟨Tryz.prog,25,M,w0⟩
abbrev WJ:=bodyPost Tryz.prog Tryz.f61 (bX M w0 (fun v _=>v=.bool r))
abbrev acQ(ks:List ao)(s:AS):=VE (TU M w0) (WJ M w0 r) ks .normal s
def YW:AS:=⟨[(6,.bool v4)],[],[],[]⟩
variable{M w0 r v1 v2 v3 v4}{K:Kn}{n:Nat}
theorem yP(hK:am K)(h:nM K n v4=some r):acQ M w0 r [acr 7] (YW v4):=by
 unfold nM at h;refine aW 1 ?_;cases h;exact bW
theorem V9(hK:am K)(h:xc K n v1 v2 v3=some r):aQ Tryz.prog 61 [iI v1,iI v2,iI v3] (fun v _=>v=.bool r):=by
 refine bF (cat Tryz.f61 (pn 1)) Tryz.func61 Tryz.ntmps61 fun M w0=>(bx ⟨[(0,iI v1),(1,iI v2),(2,iI v3)],[],[],[]⟩ ?_);unfold xc at h;refine ax 6 7 3 (ai 3 ?_);obtain⟨h1,h⟩|⟨h1,h⟩:=av h
 ·refine aY 9 h1 (br 7 4 ?_);obtain⟨h2,h⟩|⟨h2,h⟩:=av h
  ·refine aY 13 h2 (br 12 5 ?_);obtain⟨h3,h⟩|⟨h3,h⟩:=av h
   ·exact aY 18 h3 (ae (aj 0 (yP hK h)))
   ·exact aY 18 h3 (ae (aj 0 (yP hK h)))
  ·exact aY 13 h2 (ae (aj 0 (yP hK h)))
 ·exact aY 9 h1 (ae (aj 0 (yP hK h)))
end
noncomputable section
variable(M:Nat→Prop)(w0:aJ)(r v1:Int)  
variable{M w0 r v1}{K:Kn}{n:Nat}
theorem AX(hK:am K)(h:nJ K n v1=some r):aQ Tryz.prog 62 [iI v1] (fun v _=>v=iI r):=by
 refine bF (cat Tryz.f62 (pn 1)) Tryz.func62 Tryz.ntmps62 fun M w0=>(bx ⟨[(0,iI v1)],[],[],[]⟩ ?_);unfold nJ at h;refine aW 5 ?_;cases h;exact bW
end
noncomputable section
variable(M:Nat→Prop)(w0:aJ)(r:Int)(v1 v2:Int)  
variable{M w0 r v1 v2}{K:Kn}{n:Nat}
theorem ES(hK:am K)(h:mg K n v1 v2=some r):aQ Tryz.prog 100 [iI v1,iI v2] (fun v _=>v=iI r):=by
 refine bF (cat Tryz.f100 (pn 1)) Tryz.func100 Tryz.ntmps100 fun M w0=>(bx ⟨[(0,iI v1),(1,iI v2)],[],[],[]⟩ ?_);unfold mg at h;refine aW 5 ?_;cases h;exact bW
end
noncomputable section
variable(M:Nat→Prop)(w0:aJ)(r:List Int)(v1:Int)(v2:List Int)(v3 v5 v6 v13 v14:Int)(v15 v16:(List Int))(v27:Int)(v28 v29:(List Int))(v32 v33 v35:Int)(m1 m2 m3 m4:Nat)(L1:Int→Int→Option (List Int))(L2:Int→Int→(List Int)→(List Int)→Option (List Int))(L3:Int→(List Int)→(List Int)→Option (List Int))(L4:Int→Int→Option (List Int))
abbrev lf:Cx:=⟨Tryz.prog,100,M,w0⟩
abbrev kW:=bodyPost Tryz.prog Tryz.f85 (bX M w0 (fun v s=>v=.ref 31∧look 31 s.r=some ⟨3,1,lm (ab .i64) r⟩))
abbrev w9(ks:List ao)(s:AS):=VE (lf M w0) (kW M w0 r) ks .normal s
abbrev fh(n:Nat):ao:=.c (cat Tryz.f85 (pn n))
abbrev Di:List ao:=[.b 4,fh 2047]
abbrev Da:List ao:=kl (lf M w0) (kW M w0 r) Di (cat Tryz.f85 (pn 8184)) m3::Di
abbrev FB:List ao:=[.b 2,fh 1023]
abbrev Cv:List ao:=kl (lf M w0) (kW M w0 r) FB (cat Tryz.f85 (pn 8180)) m2::FB
abbrev D0:List ao:=[.b 0,fh 31]
abbrev UX:List ao:=kl (lf M w0) (kW M w0 r) D0 (cat Tryz.f85 (pn 244)) m1::D0
abbrev CL:List ao:=.b 6::fh 130955 :: .b 5::Da M w0 r m3
abbrev Cy:List ao:=kl (lf M w0) (kW M w0 r) (CL M w0 r m3) (cat Tryz.f85 (pn 1047636)) m4::(CL M w0 r m3)
def YI:AS:=⟨[(7,.ref 31),(8,.ref 34),(9,iI v27),(12,iI v35),(13,iI v33)],[],[(31,⟨3,1,lm (ab .i64) v28⟩),(34,⟨3,1,lm (ab .i64) v29⟩)],[31,34]⟩
def NO:AS:=⟨[(7,.ref 31),(8,.ref 34),(9,iI v27),(12,iI v32),(13,iI v33)],[],[(31,⟨3,1,lm (ab .i64) v28⟩),(34,⟨3,1,lm (ab .i64) v29⟩)],[31,34]⟩
def NX:AS:=⟨[(7,.ref 31),(8,.ref 34),(9,iI v27)],[],[(31,⟨3,1,lm (ab .i64) v28⟩),(34,⟨3,1,lm (ab .i64) v29⟩)],[31,34]⟩
def JY:AS:=⟨[(0,iI v3),(1,.sl (lm (ab .i64) v2)),(5,iI v5),(7,.ref 31),(8,.ref 34),(9,iI v13),(10,iI v14)],[],[(31,⟨3,1,lm (ab .i64) v15⟩),(34,⟨3,1,lm (ab .i64) v16⟩)],[31,34]⟩
def LN:AS:=⟨[(0,iI v3),(1,.sl (lm (ab .i64) v2)),(5,iI v5),(6,iI v6)],[],[],[]⟩
abbrev Lb:Prop:=∀{v5:Int} {v6:Int},L1 v5 v6=some r→LP (lf M w0) (kW M w0 r) D0 (cat Tryz.f85 (pn 244)) m1 (LN v2 v3 v5 v6)
abbrev LX:Prop:=∀{v13:Int} {v14:Int} {v15:(List Int)} {v16:(List Int)},L2 v13 v14 v15 v16=some r→LP (lf M w0) (kW M w0 r) FB (cat Tryz.f85 (pn 8180)) m2 (JY v2 v3 v5 v13 v14 v15 v16)
abbrev xq:Prop:=∀{v27:Int} {v28:(List Int)} {v29:(List Int)},L3 v27 v28 v29=some r→LP (lf M w0) (kW M w0 r) Di (cat Tryz.f85 (pn 8184)) m3 (NX v27 v28 v29)
abbrev Ee:Prop:=∀{v32:Int} {v33:Int},L4 v32 v33=some r→LP (lf M w0) (kW M w0 r) (CL M w0 r m3) (cat Tryz.f85 (pn 1047636)) m4 (NO v27 v28 v29 v32 v33)
variable{M w0 r v1 v2 v3 v5 v6 v13 v14 v15 v16 v27 v28 v29 v32 v33 v35 m1 m2 m3 m4 L1 L2 L3 L4}{K:Kn}{n:Nat}
theorem MO(hK:am K)(hL3:xq M w0 r m3 L3)(hL4:Ee M w0 r v27 v28 v29 m3 m4 L4)(h:ud K n v27 v28 v29 v33 L3 L4 v35=some r):w9 M w0 r (.b 7::fh 4190547::Cy M w0 r m3 m4) (YI v27 v28 v29 v33 v35):=by
 unfold ud at h;exact aj 2 (bd (hL4 h))
theorem X7(hK:am K)(hL3:xq M w0 r m3 L3)(hL4:Ee M w0 r v27 v28 v29 m3 m4 L4)(h:wb K n v27 v28 v29 L3 L4 v32 v33=some r):w9 M w0 r (fh 1047636::Cy M w0 r m3 m4) (NO v27 v28 v29 v32 v33):=by
 unfold wb at h;refine cm 4 5 3 2 (ai 2 (ap (bK (ab .i64) v29) (ae ?_)));obtain⟨h54,h⟩|⟨h54,h⟩:=av h
 ·refine ak 75 h54 (cF 8 9 7 3 5 (bI [7,8,9,12,13] [] [31,34] ?_));obtain⟨h55,h⟩:=aw h;obtain⟨h56,h⟩:=aw h;refine co 0 (nu 78 [.ref 34,iI v33,.eptr 34 1 (v33.toNat) 0,iI (gD v29 v33),.ref 34,iI v32,.eptr 34 1 (v32.toNat) 0,iI (gD v29 v32),.bool (decide ((gD v29 v33)>(gD v29 v32)))]) [] [] [] (aF (vz 2) (bt (bT 34 1 (ab .i64) (L:=v29) h55) (bt (bE 3 0 (ab .i64) (ab .i64) (aR h55).2 (fun _=>rfl)) (aF (vz 2) (bt (bT 34 1 (ab .i64) (L:=v29) h56) (bt (bE 3 0 (ab .i64) (ab .i64) (aR h56).2 (fun _=>rfl)) (aF [.v 0 1] cp))))))) ?_;obtain⟨v34,h57,h⟩:=cf h;refine bq (ks':=fh 16762185 :: .b 7::fh 4190547::Cy M w0 r m3 m4) 0 ⟨[(7,.ref 31),(8,.ref 34),(9,iI v27),(12,iI v32),(13,iI v33),(86,.bool v34)],[],[(31,⟨3,1,lm (ab .i64) v28⟩),(34,⟨3,1,lm (ab .i64) v29⟩)],[31,34]⟩ ?_ (by subst h57;kernel_rfl);obtain⟨h58,h⟩|⟨h58,h⟩:=av h
  ·exact ak 86 h58 (aj 2 (MO hK hL3 hL4 h))
  ·exact ak 86 h58 (aj 2 (MO hK hL3 hL4 h))
 ·refine ak 75 h54 (eG 2 3 6 (ai 2 ?_));obtain⟨h59,h⟩:=aw h;refine ap (bZ 31 1 (ab .i64) h59) (ap (bE 3 0 (ab .i64) (ab .i64) (aR h59).2 (fun _=>rfl)) (br 5 1 ?_));obtain⟨h60,h⟩:=aw h;refine ap (bZ 31 1 (ab .i64) h60) (ap (du 31 3 1 0 (ab .i64) (ab .i64) (aa ((gD v28 v32)+1)) (aR h60).2 (fun _=>rfl)) (ae ?_));obtain⟨v36,h61,h⟩:=cf h;refine bq (ks':=fh 523822::fh 523823 :: .b 5::Da M w0 r m3) 1 ⟨[(7,.ref 31),(8,.ref 34),(9,iI v27),(12,iI v32)],[],[(31,⟨3,1,lm (ab .i64) v36⟩),(34,⟨3,1,lm (ab .i64) v29⟩)],[31,34]⟩ ?_ (by subst h61;kernel_rfl);refine ai 2 ?_;obtain⟨h62,h⟩:=aw h;exact ap (bZ 34 1 (ab .i64) h62) (ap (du 34 3 1 0 (ab .i64) (ab .i64) (-1) (aR h62).2 (fun _=>rfl)) (ae (aj 2 (bd (hL3 h)))))
theorem VR(hK:am K)(hL3:xq M w0 r m3 L3)(m:Nat):Ee M w0 r v27 v28 v29 m3 m (qw K n v27 v28 v29 L3 m):=by
 induction m with
 | zero=>intro v32 v33 h;cases h
 | succ m ih=>intro v32 v33 h;have h:wb K n v27 v28 v29 L3 (qw K n v27 v28 v29 L3 m) v32 v33=some r:=h;exact aU (X7 hK hL3 ih h)
theorem RY(hK:am K)(hL3:xq M w0 r m3 L3)(h:yl K n L3 v27 v28 v29=some r):w9 M w0 r (fh 8184::Da M w0 r m3) (NX v27 v28 v29):=by
 unfold yl at h;refine ax 5 3 3 ?_;obtain⟨h48,h⟩|⟨h48,h⟩:=av h
 ·exact ak 71 h48 (aj 9 (bP (p:=pn 523818) n (VR hK hL3 n h)))
 ·refine ak 71 h48 (aW 8 ?_);cases h;exact d9
theorem RP(hK:am K)(m:Nat):xq M w0 r m (ni K n m):=by
 induction m with
 | zero=>intro v27 v28 v29 h;cases h
 | succ m ih=>intro v27 v28 v29 h;have h:yl K n (ni K n m) v27 v28 v29=some r:=h;exact aU (RY hK ih h)
theorem Zf(hK:am K)(hL2:LX M w0 r v2 v3 v5 m2 L2)(h:t8 K n v2 v3 v5 L2 v13 v14 v15 v16=some r):w9 M w0 r (fh 8180::Cv M w0 r m2) (JY v2 v3 v5 v13 v14 v15 v16):=by
 unfold t8 at h;refine cm 4 5 3 2 (ai 2 (ap (bK (ab .i64) v2) (ae ?_)));obtain⟨h23,h⟩|⟨h23,h⟩:=av h
 ·refine ak 42 h23 (cF 8 9 3 3 5 (ai 3 ?_));obtain⟨h24,h⟩:=aw h;refine ap (cc (ab .i64) (ab .i64) h24 (fun _=>rfl) (fun _=>rfl)) (br 5 1 ?_);obtain⟨v17,h25,h⟩:=bind_some h;refine aK (ES hK h25) (ae (ax 2 3 1 (ai 4 ?_)));obtain⟨h26,h⟩:=aw h;refine ap (MF .i64 (aa (v3*v17)) h26) ?_;obtain⟨h27,h⟩:=aw h;refine ap (bZ 31 1 (ab .i64) h27) (ap (du 31 3 1 0 (ab .i64) (ab .i64) (aa (Int.tdiv (aa (v3*v17)) v5)) (aR h27).2 (fun _=>rfl)) (ae ?_));obtain⟨v18,h28,h⟩:=cf h;refine bq (ks':=fh 523558::fh 523559 :: .b 3::fh 32723::Cv M w0 r m2) 1 ⟨[(0,iI v3),(1,.sl (lm (ab .i64) v2)),(5,iI v5),(7,.ref 31),(8,.ref 34),(9,iI v13),(10,iI v14),(11,iI (aa (v3*v17)))],[],[(31,⟨3,1,lm (ab .i64) v18⟩),(34,⟨3,1,lm (ab .i64) v16⟩)],[31,34]⟩ ?_ (by subst h28;kernel_rfl);refine ai 4 ?_;obtain⟨h29,h⟩:=aw h;refine ap (Ex .i64 (aa (v3*v17)) h29) ?_;obtain⟨h30,h⟩:=aw h;refine ap (bZ 34 1 (ab .i64) h30) (ap (du 34 3 1 0 (ab .i64) (ab .i64) (Int.tmod (aa (v3*v17)) v5) (aR h30).2 (fun _=>rfl)) (ae ?_))
  obtain⟨v19,h31,h⟩:=cf h;refine bq (ks':=fh 523559 :: .b 3::fh 32723::Cv M w0 r m2) 0 ⟨[(0,iI v3),(1,.sl (lm (ab .i64) v2)),(5,iI v5),(7,.ref 31),(8,.ref 34),(9,iI v13),(10,iI v14)],[],[(31,⟨3,1,lm (ab .i64) v18⟩),(34,⟨3,1,lm (ab .i64) v19⟩)],[31,34]⟩ ?_ (by subst h31;kernel_rfl);refine ai 3 ?_;obtain⟨h32,h⟩:=aw h;exact ap (bZ 31 1 (ab .i64) h32) (ap (bE 3 0 (ab .i64) (ab .i64) (aR h32).2 (fun _=>rfl)) (ae (aj 2 (bd (hL2 h)))))
 ·exact ak 42 h23 (aj 7 (bP (p:=pn 4092) n (RP hK n h)))
theorem VD(hK:am K)(m:Nat):LX M w0 r v2 v3 v5 m (pc K n v2 v3 v5 m):=by
 induction m with
 | zero=>intro v13 v14 v15 v16 h;cases h
 | succ m ih=>intro v13 v14 v15 v16 h;have h:t8 K n v2 v3 v5 (pc K n v2 v3 v5 m) v13 v14 v15 v16=some r:=h;exact aU (Zf hK ih h)
theorem Rn(hK:am K)(hL1:Lb M w0 r v2 v3 m1 L1)(h:vf K n v2 v3 L1 v5 v6=some r):w9 M w0 r (fh 244::UX M w0 r m1) (LN v2 v3 v5 v6):=by
 unfold vf at h;refine cm 4 5 3 2 (ai 2 (ap (bK (ab .i64) v2) (ae ?_)));obtain⟨h5,h⟩|⟨h5,h⟩:=av h
 ·refine ak 19 h5 (iv 4 1 3 4 (ai 3 ?_));obtain⟨h6,h⟩:=aw h;refine ap (cc (ab .i64) (ab .i64) h6 (fun _=>rfl) (fun _=>rfl)) (br 5 1 ?_);obtain⟨v7,h7,h⟩:=bind_some h;exact aK (ES hK h7) (ae (aj 2 (bd (hL1 h))))
 ·refine ak 19 h5 (eG 2 3 6 (ai 1 (ap (bK (ab .i64) v2) ?_)));obtain⟨h8,h⟩:=aw h;refine ii (ab .i64) (0:Int) 64 (.tmp 30) (.tmp 30) 31 (e:=3) (sz:=1) (zc:=[iI 0]) (kd:=.i64) (kd':=.i64) h8 (ae ?_);obtain⟨v8,h9,h⟩:=cf h;refine bq (ks':=[fh 126,fh 127]) 1 ⟨[(0,iI v3),(1,.sl (lm (ab .i64) v2)),(5,iI v5),(7,.ref 31)],[],[(31,⟨3,1,lm (ab .i64) v8⟩)],[31]⟩ ?_ (by subst h9;kernel_rfl);refine ai 1 (ap (bK (ab .i64) v2) ?_);obtain⟨h10,h⟩:=aw h;refine ii (ab .i64) (0:Int) 64 (.tmp 33) (.tmp 33) 34 (e:=3) (sz:=1) (zc:=[iI 0]) (kd:=.i64) (kd':=.i64) h10 (ae ?_);obtain⟨v9,h11,h⟩:=cf h;refine bq (ks':=[fh 509,fh 255]) 3 ⟨[(0,iI v3),(1,.sl (lm (ab .i64) v2)),(5,iI v5),(7,.ref 31),(8,.ref 34),(36,.bool (v5 == 0))],[],[(31,⟨3,1,lm (ab .i64) v8⟩),(34,⟨3,1,lm (ab .i64) v9⟩)],[31,34]⟩ ?_ (by subst h11;kernel_rfl);obtain⟨h12,h⟩|⟨h12,h⟩:=av h
  ·refine ak 36 h12 (aW 5 ?_);cases h;exact d9
  ·exact ak 36 h12 (aj 8 (bP (p:=pn 4090) n (VD hK n h)))
theorem aaa(hK:am K)(m:Nat):Lb M w0 r v2 v3 m (qe K n v2 v3 m):=by
 induction m with
 | zero=>intro v5 v6 h;cases h
 | succ m ih=>intro v5 v6 h;have h:vf K n v2 v3 (qe K n v2 v3 m) v5 v6=some r:=h;exact aU (Rn hK ih h)
theorem adG(hK:am K)(h:xP K n v1 v2=some r):aQ Tryz.prog 85 [iI v1,.sl (lm (ab .i64) v2)] (fun v s=>v=.ref 31∧look 31 s.r=some ⟨3,1,lm (ab .i64) r⟩):=by
 refine bF (cat Tryz.f85 (pn 1)) Tryz.func85 Tryz.ntmps85 fun M w0=>(bx ⟨[(0,iI v1),(1,.sl (lm (ab .i64) v2))],[],[],[]⟩ ?_);unfold xP at h;refine ax 6 7 3 (ai 1 ?_);obtain⟨v3,h1,h⟩:=bind_some h;exact aK (ES hK h1) (ae (aj 6 (bP (p:=pn 122) n (aaa hK n h))))
end
noncomputable section
variable(M:Nat→Prop)(w0:aJ)(r v1:List Int)(v2 v3 v4:Int)(v5:List Int)(v8:Int)(v9:Bool)(v10 v11:Int)(v12:Bool)(v15:Int)(v16:List Int)(v17:Int)(v18:List Int)(v19:Int)(v20:List Int)(m1 m2 m3:Nat)(L1:Int→Bool→Int→Option (List Int))(L2 L3:Int→(List Int)→Option (List Int))
abbrev nH:Cx:=⟨Tryz.prog,76,M,w0⟩
abbrev nt:=bodyPost Tryz.prog Tryz.f63 (bX M w0 (fun v s=>v=.tup []∧look 0 s.r=some ⟨3,1,lm (ab .i64) r⟩))
abbrev vW(ks:List ao)(s:AS):=VE (nH M w0) (nt M w0 r) ks .normal s
abbrev ju(n:Nat):ao:=.c (cat Tryz.f63 (pn n))
abbrev Ca:List ao:=[.b 4]
abbrev XW:List ao:=kl (nH M w0) (nt M w0 r) Ca (cat Tryz.f63 (pn 2044)) m3::Ca
abbrev DM:List ao:=[.b 2,ju 127]
abbrev KB:List ao:=kl (nH M w0) (nt M w0 r) DM (cat Tryz.f63 (pn 1012)) m2::DM
abbrev DQ:List ao:=[.b 0,ju 15]
abbrev Gf:List ao:=kl (nH M w0) (nt M w0 r) DQ (cat Tryz.f63 (pn 116)) m1::DQ
def abz:AS:=⟨[(0,.ref 0),(1,iI v2),(2,iI v3),(4,.sl (lm (ab .i64) v5)),(10,iI v11),(11,.bool v12),(12,iI v10)],[],[(0,⟨3,1,lm (ab .i64) v1⟩)],[0,1000000,0]⟩
def SN:AS:=⟨[(0,.ref 0),(1,iI v2),(2,iI v3),(4,.sl (lm (ab .i64) v5)),(10,iI v8),(11,.bool v9),(13,.ref 55),(14,iI v15),(15,iI v17)],[],[(0,⟨3,1,lm (ab .i64) v1⟩),(55,⟨3,1,lm (ab .i64) v16⟩)],[0,55,1000000,0]⟩
def PH:AS:=⟨[(0,.ref 0),(1,iI v2),(2,iI v3),(13,.ref 1058),(16,iI v19)],[],[(0,⟨3,1,lm (ab .i64) v20⟩),(1058,⟨3,1,lm (ab .i64) v18⟩)],[0,1058,1000000,0]⟩
def HP:AS:=⟨[(0,.ref 0),(1,iI v2),(2,iI v3),(4,.sl (lm (ab .i64) v5)),(10,iI v8),(11,.bool v9),(13,.ref 55),(14,iI v15)],[],[(0,⟨3,1,lm (ab .i64) v1⟩),(55,⟨3,1,lm (ab .i64) v16⟩)],[0,55,1000000,0]⟩
def Ma:AS:=⟨[(0,.ref 0),(1,iI v2),(2,iI v3),(4,.sl (lm (ab .i64) v5)),(10,iI v8),(11,.bool v9),(12,iI v10)],[],[(0,⟨3,1,lm (ab .i64) v1⟩)],[0,1000000,0]⟩
abbrev Dm:Prop:=∀{v8:Int} {v9:Bool} {v10:Int},L1 v8 v9 v10=some r→LP (nH M w0) (nt M w0 r) DQ (cat Tryz.f63 (pn 116)) m1 (Ma v1 v2 v3 v5 v8 v9 v10)
abbrev Gd:Prop:=∀{v15:Int} {v16:(List Int)},L2 v15 v16=some r→LP (nH M w0) (nt M w0 r) DM (cat Tryz.f63 (pn 1012)) m2 (HP v1 v2 v3 v5 v8 v9 v15 v16)
abbrev K8:Prop:=∀{v19:Int} {v20:(List Int)},L3 v19 v20=some r→LP (nH M w0) (nt M w0 r) Ca (cat Tryz.f63 (pn 2044)) m3 (PH v2 v3 v18 v19 v20)
variable{M w0 r v1 v2 v3 v4 v5 v8 v9 v10 v11 v12 v15 v16 v17 v18 v19 v20 m1 m2 m3 L1 L2 L3}{K:Kn}{n:Nat}
theorem KM(hK:am K)(hL1:Dm M w0 r v1 v2 v3 v5 m1 L1)(h:w6 K n v1 v2 v3 v5 v10 v11 L1 v12=some r):vW M w0 r (.b 1::ju 467::Gf M w0 r m1) (abz v1 v2 v3 v5 v10 v11 v12):=by
 unfold w6 at h;exact aj 2 (bd (hL1 h))
theorem PP(hK:am K)(hL2:Gd M w0 r v1 v2 v3 v5 v8 v9 m2 L2)(h:rH K n v1 v2 v3 v5 v8 v9 v15 v16 L2 v17=some r):vW M w0 r (ju 32403 :: .b 3::ju 4051::KB M w0 r m2) (SN v1 v2 v3 v5 v8 v9 v15 v16 v17):=by
 unfold rH at h;refine ai 3 ?_;obtain⟨h23,h⟩:=aw h;exact ap (c6 55 55 3 1 (ab .i64) (rfl) (fun _=>rfl) h23) (ae (aj 2 (bd (hL2 h))))
theorem SZ(hK:am K)(hL3:K8 M w0 r v2 v3 v18 m3 L3)(h:vh K n v2 v3 v18 L3 v19 v20=some r):vW M w0 r (ju 2044::XW M w0 r m3) (PH v2 v3 v18 v19 v20):=by
 unfold vh at h;refine ax 5 3 3 ?_;obtain⟨h29,h⟩|⟨h29,h⟩:=av h
 ·refine ak 61 h29 (iv 4 5 3 4 (bI [0,1,2,13,16] [] [0,1058] ?_));obtain⟨h30,h⟩:=aw h;obtain⟨h31,h⟩:=aw h;obtain⟨h32,h⟩:=aw h;exact co 1 (nu 64 [.ref 0,iI v2,iI v19,iI (aa (v2+v19)),.eptr 0 1 (((aa (v2+v19))).toNat) 0,iI (gD v20 ((aa (v2+v19)))),.ref 1058,iI v19,.eptr 1058 1 (v19.toNat) 0,iI (gD v18 v19),iI (aa ((gD v20 ((aa (v2+v19))))+(gD v18 v19))),.eptr 0 1 (((aa (v2+v19))).toNat) 0]) [] [] [cD 0 ⟨3,1,lm (ab .i64) (List.set v20 ((aa (v2+v19))).toNat (aa ((gD v20 ((aa (v2+v19))))+(gD v18 v19))))⟩] (aF (vz 4) (bt (bT 0 1 (ab .i64) (L:=v20) h30) (bt (bE 3 0 (ab .i64) (ab .i64) (aR h32).2 (fun _=>rfl)) (aF (vz 2) (bt (bT 1058 1 (ab .i64) (L:=v18) h31) (bt (bE 3 0 (ab .i64) (ab .i64) (aR h31).2 (fun _=>rfl)) (aF [.v 0 1] (bt (bT 0 1 (ab .i64) (L:=v20) h32) (aC (c7 (m:=0) (du 0 3 1 0 (ab .i64) (ab .i64) (aa ((gD v20 ((aa (v2+v19))))+(gD v18 v19))) (aR h32).2 (fun _=>rfl))) cp))))))))) (aj 2 (bd (hL3 h)))
 ·refine ak 61 h29 (df (ks':=[]) 5 (nZ ?_));cases h;exact gz
theorem Xv(hK:am K)(m:Nat):K8 M w0 r v2 v3 v18 m (qD K n v2 v3 v18 m):=by
 induction m with
 | zero=>intro v19 v20 h;cases h
 | succ m ih=>intro v19 v20 h;have h:vh K n v2 v3 v18 (qD K n v2 v3 v18 m) v19 v20=some r:=h;exact aU (SZ hK ih h)
theorem Zl(hK:am K)(hL2:Gd M w0 r v1 v2 v3 v5 v8 v9 m2 L2)(h:uD K n v1 v2 v3 v5 v8 v9 L2 v15 v16=some r):vW M w0 r (ju 1012::KB M w0 r m2) (HP v1 v2 v3 v5 v8 v9 v15 v16):=by
 unfold uD at h;refine ax 5 3 3 ?_;obtain⟨h20,h⟩|⟨h20,h⟩:=av h
 ·refine ak 44 h20 (cF 8 9 3 3 5 (ai 2 ?_));obtain⟨h21,h⟩:=aw h;refine ap (cc (ab .i64) (ab .i64) h21 (fun _=>rfl) (fun _=>rfl)) (ae (ax 5 3 3 ?_));obtain⟨h22,h⟩|⟨h22,h⟩:=av h
  ·exact ak 51 h22 (aj 2 (PP hK hL2 h))
  ·exact ak 51 h22 (aj 2 (PP hK hL2 h))
 ·refine ak 44 h20 (eG 2 3 6 (ai 2 (eO 55 ?_)));obtain⟨v18,h24,h⟩:=bind_some h;exact d5 1058 (adG hK h24) (fQ 31) (ae (aj 3 (bP (p:=pn 1022) n (Xv hK n h))))
theorem Ut(hK:am K)(m:Nat):Gd M w0 r v1 v2 v3 v5 v8 v9 m (oM K n v1 v2 v3 v5 v8 v9 m):=by
 induction m with
 | zero=>intro v15 v16 h;cases h
 | succ m ih=>intro v15 v16 h;have h:uD K n v1 v2 v3 v5 v8 v9 (oM K n v1 v2 v3 v5 v8 v9 m) v15 v16=some r:=h;exact aU (Zl hK ih h)
theorem Xz(hK:am K)(hL1:Dm M w0 r v1 v2 v3 v5 m1 L1)(h:vO K n v1 v2 v3 v5 L1 v8 v9 v10=some r):vW M w0 r (ju 116::Gf M w0 r m1) (Ma v1 v2 v3 v5 v8 v9 v10):=by
 unfold vO at h;refine ax 5 3 3 ?_;obtain⟨h6,h⟩|⟨h6,h⟩:=av h
 ·refine ak 23 h6 (cF 8 9 1 3 5 (ai 3 ?_));obtain⟨h7,h⟩:=aw h;refine ap (bZ 0 1 (ab .i64) h7) (ap (bE 3 0 (ab .i64) (ab .i64) (aR h7).2 (fun _=>rfl)) (ae ?_));obtain⟨v11,h8,h⟩:=cf h;refine bq (ks':=ju 3730::ju 3731 :: .b 1::ju 467::Gf M w0 r m1) 1 ⟨[(0,.ref 0),(1,iI v2),(2,iI v3),(4,.sl (lm (ab .i64) v5)),(10,iI v11),(11,.bool v9),(12,iI v10)],[],[(0,⟨3,1,lm (ab .i64) v1⟩)],[0,1000000,0]⟩ ?_ (by subst h8;kernel_rfl);refine ai 2 ?_;obtain⟨h9,h⟩:=aw h;refine ap (cc (ab .i64) (ab .i64) h9 (fun _=>rfl) (fun _=>rfl)) (ae ?_);obtain⟨h10,h⟩|⟨h10,h⟩:=av h
  ·exact ak 36 h10 (aj 2 (KM hK hL1 h))
  ·exact ak 36 h10 (aj 2 (KM hK hL1 h))
 ·refine ak 23 h6 (eG 5 3 8 ?_);obtain⟨h11,h⟩|⟨h11,h⟩:=av h
  ·refine ak 38 h11 (aW 3 ?_);cases h;exact gz
  ·exact ak 38 h11 (iv 26 2 7 8 (bI [0,1,2,4,10,11,13,14] [] [0] (eJ 55 13 3 1 (aj 0 (bP (p:=pn 506) n (Ut hK n h))))))
theorem SO(hK:am K)(m:Nat):Dm M w0 r v1 v2 v3 v5 m (se K n v1 v2 v3 v5 m):=by
 induction m with
 | zero=>intro v8 v9 v10 h;cases h
 | succ m ih=>intro v8 v9 v10 h;have h:vO K n v1 v2 v3 v5 (se K n v1 v2 v3 v5 m) v8 v9 v10=some r:=h;exact aU (Xz hK ih h)
theorem LQ(hK:am K)(h:ul K n v1 v2 v3 v4 v5=some r):jO Tryz.prog 63 [.ref 0,iI v2,iI v3,iI v4,.sl (lm (ab .i64) v5)] 0 ⟨3,1,lm (ab .i64) v1⟩ (fun v s=>v=.tup []∧look 0 s.r=some ⟨3,1,lm (ab .i64) r⟩):=by
 refine pd (c:=cat Tryz.f63 (pn 1)) Tryz.func63 (by kernel_rfl) _ Tryz.ntmps63 (of_decide_eq_true (by kernel_rfl)) fun M w0=>(bx ⟨[(0,.ref 0),(1,iI v2),(2,iI v3),(3,iI v4),(4,.sl (lm (ab .i64) v5))],[],[(0,⟨3,1,lm (ab .i64) v1⟩)],[0,1000000]⟩ ?_);unfold ul at h;exact aj 8 (bP (p:=pn 58) n (SO hK n h))
end
noncomputable section
variable(M:Nat→Prop)(w0:aJ)(r:List aq)(v1:List ah)(v2:List aq)(v3 v25:Int)(v26 v27:(List Int))(v40:Int)(v41 v42:(List Int))(v43 v45:Bool)(v53 v54:(List Int))(v55:Int)(v56:List aq)(m1 m2 m3:Nat)(L1 L2:Int→(List Int)→(List Int)→Option (List aq))(L3:Int→(List aq)→Option (List aq))
abbrev n4:Cx:=⟨Tryz.prog,145,M,w0⟩
abbrev o7:=bodyPost Tryz.prog Tryz.f33 (bX M w0 (fun v s=>v=.ref 2012∧look 2012 s.r=some ⟨50,2,lm aL r⟩))
abbrev sq(ks:List ao)(s:AS):=VE (n4 M w0) (o7 M w0 r) ks .normal s
abbrev fI(n:Nat):ao:=.c (cat Tryz.f33 (pn n))
abbrev B4:List ao:=[.b 4,fI 255]
abbrev aaR:List ao:=kl (n4 M w0) (o7 M w0 r) B4 (cat Tryz.f33 (pn 2036)) m3::B4
abbrev Fq:List ao:=[.b 0,fI 63]
abbrev Lq:List ao:=kl (n4 M w0) (o7 M w0 r) Fq (cat Tryz.f33 (pn 500)) m1::Fq
abbrev DF:List ao:=.b 2 :: .b 1::fI 2003::Lq M w0 r m1
abbrev uM:List ao:=kl (n4 M w0) (o7 M w0 r) (DF M w0 r m1) (cat Tryz.f33 (pn 32036)) m2::(DF M w0 r m1)
def U9:AS:=⟨[(0,.sl (lm aA v1)),(1,.sl (lm aL v2)),(2,iI (max v3 0)),(7,.ref 17),(8,.ref 19),(9,iI v25),(10,iI v40)],[],[(17,⟨3,1,lm (ab .i64) v53⟩),(19,⟨3,1,lm (ab .i64) v54⟩)],[17,19]⟩
def UM:AS:=⟨[(0,.sl (lm aA v1)),(1,.sl (lm aL v2)),(2,iI (max v3 0)),(7,.ref 17),(8,.ref 19),(9,iI v25),(10,iI v40),(11,.ptr 11 0),(63,.bool v45)],[(11,aA (gD v1 v40))],[(17,⟨3,1,lm (ab .i64) v41⟩),(19,⟨3,1,lm (ab .i64) v42⟩)],[11,17,19]⟩
def adt:AS:=⟨[(0,.sl (lm aA v1)),(1,.sl (lm aL v2)),(2,iI (max v3 0)),(7,.ref 17),(8,.ref 19),(9,iI v25),(10,iI v40),(34,.bool v43)],[],[(17,⟨3,1,lm (ab .i64) v41⟩),(19,⟨3,1,lm (ab .i64) v42⟩)],[17,19]⟩
def Ha:AS:=⟨[(0,.sl (lm aA v1)),(1,.sl (lm aL v2)),(2,iI (max v3 0)),(7,.ref 17),(8,.ref 19),(9,iI v25),(10,iI v40)],[],[(17,⟨3,1,lm (ab .i64) v41⟩),(19,⟨3,1,lm (ab .i64) v42⟩)],[17,19]⟩
def NZ:AS:=⟨[(2,iI (max v3 0)),(7,.ref 17),(8,.ref 19),(12,.ref 2012),(13,iI v55)],[],[(17,⟨3,1,lm (ab .i64) v26⟩),(19,⟨3,1,lm (ab .i64) v27⟩),(2012,⟨50,2,lm aL v56⟩)],[17,19,2012]⟩
def L7:AS:=⟨[(0,.sl (lm aA v1)),(1,.sl (lm aL v2)),(2,iI (max v3 0)),(7,.ref 17),(8,.ref 19),(9,iI v25)],[],[(17,⟨3,1,lm (ab .i64) v26⟩),(19,⟨3,1,lm (ab .i64) v27⟩)],[17,19]⟩
abbrev oc:Prop:=∀{v25:Int} {v26:(List Int)} {v27:(List Int)},L1 v25 v26 v27=some r→LP (n4 M w0) (o7 M w0 r) Fq (cat Tryz.f33 (pn 500)) m1 (L7 v1 v2 v3 v25 v26 v27)
abbrev xU:Prop:=∀{v40:Int} {v41:(List Int)} {v42:(List Int)},L2 v40 v41 v42=some r→LP (n4 M w0) (o7 M w0 r) (DF M w0 r m1) (cat Tryz.f33 (pn 32036)) m2 (Ha v1 v2 v3 v25 v40 v41 v42)
abbrev OX:Prop:=∀{v55:Int} {v56:(List aq)},L3 v55 v56=some r→LP (n4 M w0) (o7 M w0 r) B4 (cat Tryz.f33 (pn 2036)) m3 (NZ v3 v26 v27 v55 v56)
variable{M w0 r v1 v2 v3 v25 v26 v27 v40 v41 v42 v43 v45 v53 v54 v55 v56 m1 m2 m3 L1 L2 L3}{K:Kn}{n:Nat}
theorem GK(hK:am K)(hL1:oc M w0 r v1 v2 v3 m1 L1)(hL2:xU M w0 r v1 v2 v3 v25 m1 m2 L2)(h:nV K n v1 v2 v3 v25 v40 L1 L2 v53 v54=some r):sq M w0 r (fI 128147::uM M w0 r m1 m2) (U9 v1 v2 v3 v25 v40 v53 v54):=by
 unfold nV at h;exact aj 1 (bd (hL2 h))
theorem BH(hK:am K)(hL1:oc M w0 r v1 v2 v3 m1 L1)(hL2:xU M w0 r v1 v2 v3 v25 m1 m2 L2)(h:lw K n v1 v2 v3 v25 v40 v41 v42 L1 L2 v45=some r):sq M w0 r (fI 2050341::fI 1025171 :: .b 3::fI 128147::uM M w0 r m1 m2) (UM v1 v2 v3 v25 v40 v41 v42 v45):=by
 unfold lw at h;obtain⟨h72,h⟩|⟨h72,h⟩:=av h
 ·exact ak 63 h72 (aj 4 (GK hK hL1 hL2 h))
 ·refine ak 63 h72 (fu 5 3 5 ?_);obtain⟨h73,h⟩|⟨h73,h⟩:=av h
  ·refine ak 65 h73 (ax 4 5 2 (bI [0,1,2,7,8,9,10,11] [11] [17,19] ?_));obtain⟨h74,h⟩:=aw h;obtain⟨h75,h⟩:=aw h;obtain⟨v46,h76,h⟩:=bind_some h;obtain⟨h77,h⟩:=aw h;refine co 1 (nu 66 [.ref 17,.ptr 11 1,iI ((gD v1 v40).Col),.ref 17,.ptr 11 1,iI ((gD v1 v40).Col),.eptr 17 1 (((gD v1 v40).Col).toNat) 0,iI (gD v41 ((gD v1 v40).Col)),.sl (lm aL v2),iI v40,.cptr (aL (gD v2 v40)),.cptr (List.drop 0 (aL (gD v2 v40))),iI ((gD v2 v40).Least),iI v46,iI (max (gD v41 ((gD v1 v40).Col)) v46),.eptr 17 1 (((gD v1 v40).Col).toNat) 0]) [] [] [cD 17 ⟨3,1,lm (ab .i64) (List.set v41 ((gD v1 v40).Col).toNat (max (gD v41 ((gD v1 v40).Col)) v46))⟩] (aF (vz 6) (bt (bT 17 1 (ab .i64) (L:=v41) h74) (bt (bE 3 0 (ab .i64) (ab .i64) (aR h77).2 (fun _=>rfl)) (aF (vz 2) (bt (cc aL aL h75 (gy) (fun _=>rfl)) (aF (vz 2) (aC (cM 0 1 79 (AX hK h76)) (aF [.v 0 1] (bt (bT 17 1 (ab .i64) (L:=v41) h77) (aC (c7 (m:=0) (du 17 3 1 0 (ab .i64) (ab .i64) (max (gD v41 ((gD v1 v40).Col)) v46) (aR h77).2 (fun _=>rfl))) cp)))))))))) ?_
   obtain⟨v47,h78,h⟩:=cf h;refine bq (ks':=fI 32805482::fI 32805483::fI 2050343 :: .b 3::fI 128147::uM M w0 r m1 m2) 1 ⟨[(0,.sl (lm aA v1)),(1,.sl (lm aL v2)),(2,iI (max v3 0)),(7,.ref 17),(8,.ref 19),(9,iI v25),(10,iI v40),(11,.ptr 11 0)],[(11,aA (gD v1 v40))],[(17,⟨3,1,lm (ab .i64) v47⟩),(19,⟨3,1,lm (ab .i64) v42⟩)],[11,17,19]⟩ ?_ (by subst h78;kernel_rfl);obtain⟨h79,h⟩:=aw h;obtain⟨h80,h⟩:=aw h;obtain⟨v48,h81,h⟩:=bind_some h;obtain⟨h82,h⟩:=aw h;exact co 1 (nu 82 [.ref 19,.ptr 11 1,iI ((gD v1 v40).Col),.ref 19,.ptr 11 1,iI ((gD v1 v40).Col),.eptr 19 1 (((gD v1 v40).Col).toNat) 0,iI (gD v42 ((gD v1 v40).Col)),.sl (lm aL v2),iI v40,.cptr (aL (gD v2 v40)),.cptr (List.drop 1 (aL (gD v2 v40))),iI ((gD v2 v40).Most),iI v48,iI (max (gD v42 ((gD v1 v40).Col)) v48),.eptr 19 1 (((gD v1 v40).Col).toNat) 0]) [] [] [cD 19 ⟨3,1,lm (ab .i64) (List.set v42 ((gD v1 v40).Col).toNat (max (gD v42 ((gD v1 v40).Col)) v48))⟩] (aF (vz 6) (bt (bT 19 1 (ab .i64) (L:=v42) h79) (bt (bE 3 0 (ab .i64) (ab .i64) (aR h82).2 (fun _=>rfl)) (aF (vz 2) (bt (cc aL aL h80 (gy) (fun _=>rfl)) (aF (vz 2) (aC (cM 0 1 95 (AX hK h81)) (aF [.v 0 1] (bt (bT 19 1 (ab .i64) (L:=v42) h82) (aC (c7 (m:=0) (du 19 3 1 0 (ab .i64) (ab .i64) (max (gD v42 ((gD v1 v40).Col)) v48) (aR h82).2 (fun _=>rfl))) cp)))))))))) (aj 3 (GK hK hL1 hL2 h))
  ·refine ak 65 h73 (fu 2 3 3 (bI [0,1,2,7,8,9,10,11] [11] [17,19] ?_));obtain⟨h83,h⟩:=aw h;obtain⟨v49,h84,h⟩:=bind_some h;refine G3 11 0 [(98,.ref 17),(99,.ptr 11 1),(100,iI ((gD v1 v40).Col)),(101,iI v25),(102,.sl (lm aL v2)),(103,iI v40),(104,.cptr (aL (gD v2 v40))),(105,.cptr (List.drop 0 (aL (gD v2 v40)))),(106,iI ((gD v2 v40).Least)),(107,iI v49),(108,.ref 19)] [] [] [] (aF (vz 6) (bt (cc aL aL h83 (gy) (fun _=>rfl)) (aF (vz 2) (aC (cM 0 1 107 (AX hK h84)) (aF [.v 0 1] (sj)))))) ?_;obtain⟨v50,h85,h⟩:=bind_some h;refine Hl 17 0 (LQ hK h85) (nk _ _ (l8 _)) (nk _ _ (l8 _)) (ae (bI [0,1,2,7,8,9,10,11] [11] [17,19] ?_));obtain⟨h86,h⟩:=aw h;obtain⟨v51,h87,h⟩:=bind_some h;refine G3 11 0 [(110,.ref 19),(111,.ptr 11 1),(112,iI ((gD v1 v40).Col)),(113,iI v25),(114,.sl (lm aL v2)),(115,iI v40),(116,.cptr (aL (gD v2 v40))),(117,.cptr (List.drop 1 (aL (gD v2 v40)))),(118,iI ((gD v2 v40).Most)),(119,iI v51),(120,.ref 17)] [] [] [] (aF (vz 6) (bt (cc aL aL h86 (gy) (fun _=>rfl)) (aF (vz 2) (aC (cM 0 1 119 (AX hK h87)) (aF [.v 0 1] (sj)))))) ?_
   obtain⟨v52,h88,h⟩:=bind_some h;exact Hl 19 0 (LQ hK h88) (nk _ _ (l8 _)) (nk _ _ (l8 _)) (ae (aj 1 (GK hK hL1 hL2 h)))
theorem G1(hK:am K)(hL1:oc M w0 r v1 v2 v3 m1 L1)(hL2:xU M w0 r v1 v2 v3 v25 m1 m2 L2)(h:pj K n v1 v2 v3 v25 v40 v41 v42 L1 L2 v43=some r):sq M w0 r (fI 128145::fI 64073::uM M w0 r m1 m2) (adt v1 v2 v3 v25 v40 v41 v42 v43):=by
 unfold pj at h;obtain⟨h66,h⟩|⟨h66,h⟩:=av h
 ·refine ak 34 h66 (cF 8 9 3 3 5 (ai 2 ?_));obtain⟨h67,h⟩:=aw h;refine ap (cc aA aA h67 (gO) (fun _=>rfl)) (ae (cm 4 5 3 2 (ai 5 ?_)));obtain⟨h68,h⟩|⟨h68,h⟩:=av h
  ·exact aY 45 h68 (ae (aj 0 (BH hK hL1 hL2 h)))
  ·refine aY 45 h68 (br 10 5 ?_);obtain⟨h69,h⟩|⟨h69,h⟩:=av h
   ·exact aY 50 h69 (ae (aj 0 (BH hK hL1 hL2 h)))
   ·refine aY 50 h69 (br 15 5 ?_);obtain⟨h70,h⟩|⟨h70,h⟩:=av h
    ·exact aY 55 h70 (ae (aj 0 (BH hK hL1 hL2 h)))
    ·refine aY 55 h70 (br 20 5 ?_);obtain⟨v44,h71,h⟩:=bind_some h;exact aK (V9 hK h71) (ae (aj 0 (BH hK hL1 hL2 h)))
 ·exact ak 34 h66 (aj 7 (bd (hL1 h)))
theorem UN(hK:am K)(hL1:oc M w0 r v1 v2 v3 m1 L1)(hL2:xU M w0 r v1 v2 v3 v25 m1 m2 L2)(h:ya K n v1 v2 v3 v25 L1 L2 v40 v41 v42=some r):sq M w0 r (fI 32036::uM M w0 r m1 m2) (Ha v1 v2 v3 v25 v40 v41 v42):=by
 unfold ya at h;refine cm 4 5 3 2 (ai 2 (ap (bK aA v1) (br 5 2 ?_)));obtain⟨h65,h⟩|⟨h65,h⟩:=av h
 ·exact aY 29 h65 (br 7 2 (ap (bK aL v2) (ae (aj 0 (G1 hK hL1 hL2 h)))))
 ·exact aY 29 h65 (ae (aj 0 (G1 hK hL1 hL2 h)))
theorem Ww(hK:am K)(hL1:oc M w0 r v1 v2 v3 m1 L1)(m:Nat):xU M w0 r v1 v2 v3 v25 m1 m (mS K n v1 v2 v3 v25 L1 m):=by
 induction m with
 | zero=>intro v40 v41 v42 h;cases h
 | succ m ih=>intro v40 v41 v42 h;have h:ya K n v1 v2 v3 v25 L1 (mS K n v1 v2 v3 v25 L1 m) v40 v41 v42=some r:=h;exact aU (UN hK hL1 ih h)
theorem abj(hK:am K)(hL3:OX M w0 r v3 v26 v27 m3 L3)(h:wi K n v3 v26 v27 L3 v55 v56=some r):sq M w0 r (fI 2036::aaR M w0 r m3) (NZ v3 v26 v27 v55 v56):=by
 unfold wi at h;refine ax 5 3 3 ?_;obtain⟨h99,h⟩|⟨h99,h⟩:=av h
 ·refine ak 124 h99 (iv 4 5 3 4 (bI [2,7,8,12,13] [] [17,19,2012] ?_));obtain⟨h100,h⟩:=aw h;obtain⟨h101,h⟩:=aw h;obtain⟨h102,h⟩:=aw h;obtain⟨h103,h⟩:=aw h;exact co 2 (nu 127 [.ref 2012,.ref 17,iI v55,.eptr 17 1 (v55.toNat) 0,iI (gD v26 v55),.ref 19,iI v55,.eptr 19 1 (v55.toNat) 0,iI (gD v27 v55),.ref 17,iI v55,.eptr 17 1 (v55.toNat) 0,iI (gD v26 v55),iI (max (gD v27 v55) (gD v26 v55)),.agg (aL (⟨(gD v26 v55),(max (gD v27 v55) (gD v26 v55))⟩:aq)),.sl (lm aL [(⟨(gD v26 v55),(max (gD v27 v55) (gD v26 v55))⟩:aq)])]) [] [] [fZ 143 2012 ⟨50,2,lm aL (v56++[(⟨(gD v26 v55),(max (gD v27 v55) (gD v26 v55))⟩:aq)])⟩,cw Tryz.prog 145 Tryz.f33 (pn 16292) 17] (aF [.v 0 1,.v 0 2,.v 0 2] (aC (d4 (lo:=0) (k:=2) (cy ⟨(by kernel_rfl),(cE (bT 17 1 (ab .i64) (L:=v26) h100) (by kernel_rfl))⟩ (cy ⟨(by kernel_rfl),(cE (bT 17 1 (ab .i64) (L:=v26) h100) (by kernel_rfl))⟩ d8))) (aC (d4 (lo:=0) (k:=2) (cy ⟨(by kernel_rfl),(cE (bE 3 0 (ab .i64) (ab .i64) (aR h102).2 (fun _=>rfl)) (by kernel_rfl))⟩ (cy ⟨(by kernel_rfl),(cE (bE 3 0 (ab .i64) (ab .i64) (aR h102).2 (fun _=>rfl)) (by kernel_rfl))⟩ d8))) (aF [.v 0 2,.v 0 2] (aC (d4 (lo:=0) (k:=2) (cy ⟨(by kernel_rfl),(cE (bT 19 1 (ab .i64) (L:=v27) h101) (by kernel_rfl))⟩ (cy ⟨(by kernel_rfl),(cE (bT 19 1 (ab .i64) (L:=v27) h101) (by kernel_rfl))⟩ d8))) (aC (d4 (lo:=0) (k:=2) (cy ⟨(by kernel_rfl),(cE (bE 3 0 (ab .i64) (ab .i64) (aR h101).2 (fun _=>rfl)) (by kernel_rfl))⟩ (cy ⟨(by kernel_rfl),(cE (bE 3 0 (ab .i64) (ab .i64) (aR h101).2 (fun _=>rfl)) (by kernel_rfl))⟩ d8))) (aF [.v 0 2,.v 0 2] (aC (d4 (lo:=0) (k:=2) (cy ⟨(by kernel_rfl),(cE (bT 17 1 (ab .i64) (L:=v26) h102) (by kernel_rfl))⟩ (cy ⟨(by kernel_rfl),(cE (bT 17 1 (ab .i64) (L:=v26) h102) (by kernel_rfl))⟩ d8))) (aC (d4 (lo:=0) (k:=2) (cy ⟨(by kernel_rfl),(cE (bE 3 0 (ab .i64) (ab .i64) (aR h102).2 (fun _=>rfl)) (by kernel_rfl))⟩ (cy ⟨(by kernel_rfl),(cE (bE 3 0 (ab .i64) (ab .i64) (aR h102).2 (fun _=>rfl)) (by kernel_rfl))⟩ d8))) (aF [.v 0 2,.v 0 2,.v 0 1] (aC (c7 (m:=0) (c6 143 2012 50 2 aL (rfl) (gy) h103)) (aC (cG 1) cp)))))))))))) (aj 2 (bd (hL3 h)))
 ·refine ak 124 h99 (aW 8 ?_);cases h;exact d9
theorem ZV(hK:am K)(m:Nat):OX M w0 r v3 v26 v27 m (s9 K n v3 v26 v27 m):=by
 induction m with
 | zero=>intro v55 v56 h;cases h
 | succ m ih=>intro v55 v56 h;have h:wi K n v3 v26 v27 (s9 K n v3 v26 v27 m) v55 v56=some r:=h;exact aU (abj hK ih h)
theorem aab(hK:am K)(hL1:oc M w0 r v1 v2 v3 m1 L1)(h:uY K n v1 v2 v3 L1 v25 v26 v27=some r):sq M w0 r (fI 500::Lq M w0 r m1) (L7 v1 v2 v3 v25 v26 v27):=by
 unfold uY at h;refine ax 5 3 3 ?_;obtain⟨h40,h⟩|⟨h40,h⟩:=av h
 ·exact ak 22 h40 (aj 7 (bP (p:=pn 16018) n (Ww hK hL1 n h)))
 ·exact ak 22 h40 (df (ks':=[fI 1018,.b 4,fI 255]) 11 (bI [2,7,8,12,13] [] [17,19] (eJ 2012 12 50 2 (aj 0 (bP (p:=pn 1018) n (ZV hK n h))))))
theorem aa4(hK:am K)(m:Nat):oc M w0 r v1 v2 v3 m (n3 K n v1 v2 v3 m):=by
 induction m with
 | zero=>intro v25 v26 v27 h;cases h
 | succ m ih=>intro v25 v26 v27 h;have h:uY K n v1 v2 v3 (n3 K n v1 v2 v3 m) v25 v26 v27=some r:=h;exact aU (aab hK ih h)
theorem adl(hK:am K)(h:pP K n v1 v2 v3=some r):aQ Tryz.prog 33 [.sl (lm aA v1),.sl (lm aL v2),iI v3] (fun v s=>v=.ref 2012∧look 2012 s.r=some ⟨50,2,lm aL r⟩):=by
 refine bF (cat Tryz.f33 (pn 1)) Tryz.func33 Tryz.ntmps33 fun M w0=>(bx ⟨[(0,.sl (lm aA v1)),(1,.sl (lm aL v2)),(2,iI v3)],[],[],[]⟩ ?_);unfold pP at h;refine ax 14 15 5 (ai 1 ?_);obtain⟨h1,h⟩:=aw h;refine ii (ab .i64) (0:Int) 64 (.tmp 16) (.tmp 16) 17 (e:=3) (sz:=1) (zc:=[iI 0]) (kd:=.i64) (kd':=.i64) h1 (ae ?_);obtain⟨v4,h2,h⟩:=cf h;refine bq (ks':=[fI 30,fI 31]) 1 ⟨[(0,.sl (lm aA v1)),(1,.sl (lm aL v2)),(2,iI (max v3 0)),(7,.ref 17)],[],[(17,⟨3,1,lm (ab .i64) v4⟩)],[17]⟩ ?_ (by subst h2;kernel_rfl);refine ai 1 ?_;obtain⟨h3,h⟩:=aw h;exact ii (ab .i64) (0:Int) 64 (.tmp 18) (.tmp 18) 19 (e:=3) (sz:=1) (zc:=[iI 0]) (kd:=.i64) (kd':=.i64) h3 (ae (aj 4 (bP (p:=pn 250) n (aa4 hK n h))))
end
noncomputable section
variable(M:Nat→Prop)(w0:aJ)(r:dd)(v1:ac)(v51:Int)(v52 v53:(List ac))(v54:List (List (V2 Int)))(v68:Int)(v69 v70:(List ac))(v71:List (V2 Int))(v75:List ac)(v76:List (V2 Int))(v77 v78:(List ac))(v79:List (List (V2 Int)))(v80:(List (List ah))×Int)(v81:Int)(v82:List ah)(v87:Int)(v88:List aq)(m1 m2 m3 m4:Nat)(L1:Int→(List ac)→(List ac)→(List (List (V2 Int)))→Option dd)(L2:Int→(List ac)→(List ac)→(List (V2 Int))→Option dd)(L3:Int→(List ah)→Option dd)(L4:Int→(List aq)→Option dd)
abbrev lD:Cx:=⟨Tryz.prog,131,M,w0⟩
abbrev kY:=bodyPost Tryz.prog Tryz.f10 (bX M w0 (fun v s=>v=.agg (List.set (eQ ({ r with Rows:=[] }:dd)) 0 (.ref 39))∧look 39 s.r=some ⟨33,59,lm az r.Rows⟩))
abbrev sa(ks:List ao)(s:AS):=VE (lD M w0) (kY M w0 r) ks .normal s
abbrev fp(n:Nat):ao:=.c (cat Tryz.f10 (pn n))
abbrev EX:List ao:=[.b 6,fp 511]
abbrev SB:List ao:=kl (lD M w0) (kY M w0 r) EX (cat Tryz.f10 (pn 4084)) m4::EX
abbrev GB:List ao:=[.b 4,fp 127]
abbrev Q0:List ao:=kl (lD M w0) (kY M w0 r) GB (cat Tryz.f10 (pn 1012)) m3::GB
abbrev GQ:List ao:=[.b 0,fp 31]
abbrev wO:List ao:=kl (lD M w0) (kY M w0 r) GQ (cat Tryz.f10 (pn 244)) m1::GQ
abbrev Cz:List ao:=.b 2::fp 31311 :: .b 1::fp 979::wO M w0 r m1
abbrev zx:List ao:=kl (lD M w0) (kY M w0 r) (Cz M w0 r m1) (cat Tryz.f10 (pn 250484)) m2::(Cz M w0 r m1)
def ab4:AS:=⟨[(1,.ptr 1 0),(2,.ptr 2 0),(3,.ptr 3 0),(4,.ref 81),(5,iI v51),(6,.ref 77),(7,iI v68)],[(1,aI v1),(2,List.set (List.set (List.set (List.set (eQ fY) 0 (.nils)) 1 (.nils)) 2 (.nils)) 3 (.nils)),(3,List.set (List.set (List.set (List.set (eQ fY) 0 (.ref 39)) 1 (.ref 68)) 2 (.nils)) 3 (.nils))],[(39,⟨33,59,lm az v69⟩),(68,⟨33,59,lm az v75⟩),(77,⟨61,2,lm (bL (ab .i64)) v76⟩),(81,⟨62,1,lm (bu (bL (ab .i64))) v54⟩)],[1,2,3,39,68,77,81]⟩
def Uy:AS:=⟨[(1,.ptr 1 0),(2,.ptr 2 0),(3,.ptr 3 0),(4,.ref 81),(5,iI v51)],[(1,aI v1),(2,List.set (List.set (List.set (List.set (eQ fY) 0 (.nils)) 1 (.nils)) 2 (.nils)) 3 (.nils)),(3,List.set (List.set (List.set (List.set (eQ fY) 0 (.ref 39)) 1 (.ref 68)) 2 (.nils)) 3 (.nils))],[(39,⟨33,59,lm az v77⟩),(68,⟨33,59,lm az v78⟩),(81,⟨62,1,lm (bu (bL (ab .i64))) v79⟩)],[1,2,3,39,68,81]⟩
def Nb:AS:=⟨[(1,.ptr 1 0),(2,.ptr 2 0),(3,.ptr 3 0),(4,.ref 81),(5,iI v51),(6,.ref 77),(7,iI v68)],[(1,aI v1),(2,List.set (List.set (List.set (List.set (eQ fY) 0 (.nils)) 1 (.nils)) 2 (.nils)) 3 (.nils)),(3,List.set (List.set (List.set (List.set (eQ fY) 0 (.ref 39)) 1 (.ref 68)) 2 (.nils)) 3 (.nils))],[(39,⟨33,59,lm az v69⟩),(68,⟨33,59,lm az v70⟩),(77,⟨61,2,lm (bL (ab .i64)) v71⟩),(81,⟨62,1,lm (bu (bL (ab .i64))) v54⟩)],[1,2,3,39,68,77,81]⟩
def KH:AS:=⟨[(2,.ptr 2 0),(3,.ptr 3 0),(10,iI v80.2),(12,.ref 123),(13,iI v87)],[(2,List.set (List.set (List.set (List.set (eQ fY) 0 (.nils)) 1 (.nils)) 2 (.nils)) 3 (.nils)),(3,List.set (List.set (List.set (List.set (eQ fY) 0 (.ref 39)) 1 (.ref 68)) 2 (.ref 99)) 3 (.nils))],[(39,⟨33,59,lm az v52⟩),(68,⟨33,59,lm az v53⟩),(99,⟨67,4,lm aA v82⟩),(123,⟨50,2,lm aL v88⟩)],[2,3,39,68,99,123]⟩
def MT:AS:=⟨[(2,.ptr 2 0),(3,.ptr 3 0),(9,.ref 1084),(10,iI v80.2),(11,iI v81)],[(2,List.set (List.set (List.set (List.set (eQ fY) 0 (.nils)) 1 (.nils)) 2 (.nils)) 3 (.nils)),(3,List.set (List.set (List.set (List.set (eQ fY) 0 (.ref 39)) 1 (.ref 68)) 2 (.ref 99)) 3 (.nils))],[(39,⟨33,59,lm az v52⟩),(68,⟨33,59,lm az v53⟩),(99,⟨67,4,lm aA v82⟩),(1084,⟨44,1,lm (bu aA) v80.1⟩)],[2,3,39,68,99,1084]⟩
def PO:AS:=⟨[(1,.ptr 1 0),(2,.ptr 2 0),(3,.ptr 3 0),(4,.ref 81),(5,iI v51)],[(1,aI v1),(2,List.set (List.set (List.set (List.set (eQ fY) 0 (.nils)) 1 (.nils)) 2 (.nils)) 3 (.nils)),(3,List.set (List.set (List.set (List.set (eQ fY) 0 (.ref 39)) 1 (.ref 68)) 2 (.nils)) 3 (.nils))],[(39,⟨33,59,lm az v52⟩),(68,⟨33,59,lm az v53⟩),(81,⟨62,1,lm (bu (bL (ab .i64))) v54⟩)],[1,2,3,39,68,81]⟩
abbrev rJ:Prop:=∀{v51:Int} {v52:(List ac)} {v53:(List ac)} {v54:(List (List (V2 Int)))},L1 v51 v52 v53 v54=some r→LP (lD M w0) (kY M w0 r) GQ (cat Tryz.f10 (pn 244)) m1 (PO v1 v51 v52 v53 v54)
abbrev C0:Prop:=∀{v68:Int} {v69:(List ac)} {v70:(List ac)} {v71:(List (V2 Int))},L2 v68 v69 v70 v71=some r→LP (lD M w0) (kY M w0 r) (Cz M w0 r m1) (cat Tryz.f10 (pn 250484)) m2 (Nb v1 v51 v54 v68 v69 v70 v71)
abbrev Pb:Prop:=∀{v81:Int} {v82:(List ah)},L3 v81 v82=some r→LP (lD M w0) (kY M w0 r) GB (cat Tryz.f10 (pn 1012)) m3 (MT v52 v53 v80 v81 v82)
abbrev Ja:Prop:=∀{v87:Int} {v88:(List aq)},L4 v87 v88=some r→LP (lD M w0) (kY M w0 r) EX (cat Tryz.f10 (pn 4084)) m4 (KH v52 v53 v80 v82 v87 v88)
variable{M w0 r v1 v51 v52 v53 v54 v68 v69 v70 v71 v75 v76 v77 v78 v79 v80 v81 v82 v87 v88 m1 m2 m3 m4 L1 L2 L3 L4}{K:Kn}{n:Nat}
theorem Jc(hK:am K)(hL1:rJ M w0 r v1 m1 L1)(hL2:C0 M w0 r v1 v51 v54 m1 m2 L2)(h:ui K n v1 v51 v54 v68 v69 L1 L2 v75 v76=some r):sa M w0 r (.b 3::fp 1001939::zx M w0 r m1 m2) (ab4 v1 v51 v54 v68 v69 v75 v76):=by
 unfold ui at h;exact aj 2 (bd (hL2 h))
theorem OZ(hK:am K)(hL1:rJ M w0 r v1 m1 L1)(h:qy K n v1 v51 L1 v77 v78 v79=some r):sa M w0 r (fp 979::wO M w0 r m1) (Uy v1 v51 v77 v78 v79):=by
 unfold qy at h;exact aj 1 (bd (hL1 h))
theorem X8(hK:am K)(hL1:rJ M w0 r v1 m1 L1)(hL2:C0 M w0 r v1 v51 v54 m1 m2 L2)(h:vA K n v1 v51 v54 L1 L2 v68 v69 v70 v71=some r):sa M w0 r (fp 250484::zx M w0 r m1 m2) (Nb v1 v51 v54 v68 v69 v70 v71):=by
 unfold vA at h;refine cm 4 5 3 2 (ai 4 ?_);obtain⟨h107,h⟩:=aw h;refine ap (cc az aI h107 (dw) (cS)) (br 7 2 (ap (bK az ((gD v1.Kids v51).Kids)) (ae ?_)));obtain⟨v72,h108,h⟩:=cf h;refine bq (ks':=fp 1001937::fp 500969::zx M w0 r m1 m2) 0 ⟨[(1,.ptr 1 0),(2,.ptr 2 0),(3,.ptr 3 0),(4,.ref 81),(5,iI v51),(6,.ref 77),(7,iI v68),(49,.bool v72)],[(1,aI v1),(2,List.set (List.set (List.set (List.set (eQ fY) 0 (.nils)) 1 (.nils)) 2 (.nils)) 3 (.nils)),(3,List.set (List.set (List.set (List.set (eQ fY) 0 (.ref 39)) 1 (.ref 68)) 2 (.nils)) 3 (.nils))],[(39,⟨33,59,lm az v69⟩),(68,⟨33,59,lm az v70⟩),(77,⟨61,2,lm (bL (ab .i64)) v71⟩),(81,⟨62,1,lm (bu (bL (ab .i64))) v54⟩)],[1,2,3,39,68,77,81]⟩ ?_ (by subst h108;kernel_rfl);obtain⟨h109,h⟩|⟨h109,h⟩:=av h
 ·refine ak 49 h109 (cF 8 9 3 3 5 (ai 3 ?_));obtain⟨h110,h⟩:=aw h;refine ap (cc az aI h110 (dw) (cS)) (br 7 3 ?_);obtain⟨h111,h⟩:=aw h;refine ap (cc az aI h111 (dw) (cS)) (ae ?_);obtain⟨v73,h112,h⟩:=cf h;obtain⟨v74,h113,h⟩:=cf h;refine bq (ks':=fp 8015507 :: .b 3::fp 1001939::zx M w0 r m1 m2) 2 ⟨[(1,.ptr 1 0),(2,.ptr 2 0),(3,.ptr 3 0),(4,.ref 81),(5,iI v51),(6,.ref 77),(7,iI v68),(8,.ptr 8 0),(63,.bool v73)],[(1,aI v1),(2,List.set (List.set (List.set (List.set (eQ fY) 0 (.nils)) 1 (.nils)) 2 (.nils)) 3 (.nils)),(3,List.set (List.set (List.set (List.set (eQ fY) 0 (.ref 39)) 1 (.ref 68)) 2 (.nils)) 3 (.nils)),(8,aI v74)],[(39,⟨33,59,lm az v69⟩),(68,⟨33,59,lm az v70⟩),(77,⟨61,2,lm (bL (ab .i64)) v71⟩),(81,⟨62,1,lm (bu (bL (ab .i64))) v54⟩)],[1,2,3,8,39,68,77,81]⟩ ?_ (by subst h113;subst h112;kernel_rfl);obtain⟨h114,h⟩|⟨h114,h⟩:=av h
  ·refine ak 63 h114 (ax 4 5 2 (ai 3 (ap (gV az ([v74]:List ac) (new:=[aI v74]) (by simp only[List.map_cons,List.map_nil,cS])) ?_)));obtain⟨h115,h⟩:=aw h;refine ap (c6 68 68 33 59 az (rfl) (dw) h115) (ae (ai 7 ?_));obtain⟨h116,h⟩:=aw h;exact ap (c6 77 77 61 2 (bL (ab .i64)) (rfl) (fun _=>rfl) h116) (ae (aj 0 (Jc hK hL1 hL2 h)))
  ·exact ak 63 h114 (aj 2 (Jc hK hL1 hL2 h))
 ·refine ak 49 h109 (df (ks':=fp 31311 :: .b 1::fp 979::wO M w0 r m1) 5 (ai 2 (eO 77 (br 3 1 ?_))));obtain⟨h117,h⟩:=aw h;exact ap (c6 81 81 62 1 (bu (bL (ab .i64))) (rfl) (fun _=>rfl) h117) (ae (aj 1 (OZ hK hL1 h)))
theorem Vv(hK:am K)(hL1:rJ M w0 r v1 m1 L1)(m:Nat):C0 M w0 r v1 v51 v54 m1 m (o9 K n v1 v51 v54 L1 m):=by
 induction m with
 | zero=>intro v68 v69 v70 v71 h;cases h
 | succ m ih=>intro v68 v69 v70 v71 h;have h:vA K n v1 v51 v54 L1 (o9 K n v1 v51 v54 L1 m) v68 v69 v70 v71=some r:=h;exact aU (X8 hK hL1 ih h)
theorem XC(hK:am K)(hL4:Ja M w0 r v52 v53 v80 v82 m4 L4)(h:tI K n v52 v53 v80 v82 L4 v87 v88=some r):sa M w0 r (fp 4084::SB M w0 r m4) (KH v52 v53 v80 v82 v87 v88):=by
 unfold tI at h;refine cm 4 5 3 2 (ai 3 (ap (bK az v53) (ae ?_)));obtain⟨h138,h⟩|⟨h138,h⟩:=av h
 ·refine ak 105 h138 (cF 8 9 7 3 5 (ai 3 ?_));obtain⟨h139,h⟩:=aw h;refine ap (bZ 68 59 az h139) (ap (bE 33 0 az aI (aR h139).2 (cS)) ?_);obtain⟨v89,h140,h⟩:=bind_some h;refine aK (Wv hK h140) ?_;obtain⟨v90,h141,h⟩:=bind_some h;refine aK (OP hK h141) (ae (ai 5 ?_));obtain⟨h142,h⟩:=aw h;exact ap (c6 123 123 50 2 aL (rfl) (gy) h142) (ae (aj 2 (bd (hL4 h))))
 ·refine ak 105 h138 (eG 2 3 6 (ai 4 (eO 99 (eO 123 ?_))));obtain⟨v91,h143,h⟩:=bind_some h;refine d5 1128 (adl hK h143) (fQ 2012) (ae (aW 3 (ku 68 (ku 1128 ?_))));cases h;exact d9
theorem WA(hK:am K)(m:Nat):Ja M w0 r v52 v53 v80 v82 m (nL K n v52 v53 v80 v82 m):=by
 induction m with
 | zero=>intro v87 v88 h;cases h
 | succ m ih=>intro v87 v88 h;have h:tI K n v52 v53 v80 v82 (nL K n v52 v53 v80 v82 m) v87 v88=some r:=h;exact aU (XC hK ih h)
theorem TX(hK:am K)(hL3:Pb M w0 r v52 v53 v80 m3 L3)(h:vR K n v52 v53 v80 L3 v81 v82=some r):sa M w0 r (fp 1012::Q0 M w0 r m3) (MT v52 v53 v80 v81 v82):=by
 unfold vR at h;refine cm 4 5 3 2 (ai 2 (ap (bK (bu aA) v80.1) (ae ?_)));obtain⟨h125,h⟩|⟨h125,h⟩:=av h
 ·refine ak 90 h125 (iv 4 5 3 4 (bI [2,3,9,10,11] [2,3] [39,68,99,1084] ?_));obtain⟨h126,h⟩:=aw h;obtain⟨h127,h⟩:=aw h;exact co 2 (nu 93 [.ptr 3 2,.ref 99,.ref 1084,iI v81,.eptr 1084 1 (v81.toNat) 0,.sl (lm aA (gD v80.1 v81))]++nu 100 [.ptr 3 2]) [] [] [fZ 99 99 ⟨67,4,lm aA (v82++(gD v80.1 v81))⟩,cw Tryz.prog 131 Tryz.f10 (pn 8100) 8] (aF [.v 0 2,.v 0 1,.v 0 2,.v 0 2] (aC (d4 (lo:=0) (k:=2) (cy ⟨(by kernel_rfl),(cE (bT 1084 1 (bu aA) (L:=v80.1) h126) (by kernel_rfl))⟩ (cy ⟨(by kernel_rfl),(cE (bT 1084 1 (bu aA) (L:=v80.1) h126) (by kernel_rfl))⟩ d8))) (bt (bE 44 0 (bu aA) (bu aA) (aR h126).2 (fun _=>rfl)) (aC (c7 (m:=0) (c6 99 99 67 4 aA (rfl) (gO) h127)) (aF [.v 1 1] (aC (cG 1) cp)))))) (aj 2 (bd (hL3 h)))
 ·exact ak 90 h125 (df (ks':=[fp 2042,.b 6,fp 511]) 11 (bI [2,3,10,12,13] [2,3] [39,68,99] (eJ 123 12 50 2 (aj 0 (bP (p:=pn 2042) n (WA hK n h))))))
theorem WG(hK:am K)(m:Nat):Pb M w0 r v52 v53 v80 m (ou K n v52 v53 v80 m):=by
 induction m with
 | zero=>intro v81 v82 h;cases h
 | succ m ih=>intro v81 v82 h;have h:vR K n v52 v53 v80 (ou K n v52 v53 v80 m) v81 v82=some r:=h;exact aU (TX hK ih h)
theorem Wt(hK:am K)(hL1:rJ M w0 r v1 m1 L1)(h:xV K n v1 L1 v51 v52 v53 v54=some r):sa M w0 r (fp 244::wO M w0 r m1) (PO v1 v51 v52 v53 v54):=by
 unfold xV at h;refine cm 4 5 3 2 (ai 3 (ap (bK az v1.Kids) (ae ?_)));obtain⟨h79,h⟩|⟨h79,h⟩:=av h
 ·refine ak 21 h79 (Iq 16 17 9 1 3 6 (ai 3 ?_));obtain⟨h80,h⟩:=aw h;refine ap (cc az aI h80 (dw) (cS)) (ae ?_);obtain⟨v55,h81,h⟩:=cf h;refine bq (ks':=fp 7825::fp 3913 :: .b 1::fp 979::wO M w0 r m1) 0 ⟨[(1,.ptr 1 0),(2,.ptr 2 0),(3,.ptr 3 0),(4,.ref 81),(5,iI v51),(30,.bool v55)],[(1,aI v1),(2,List.set (List.set (List.set (List.set (eQ fY) 0 (.nils)) 1 (.nils)) 2 (.nils)) 3 (.nils)),(3,List.set (List.set (List.set (List.set (eQ fY) 0 (.ref 39)) 1 (.ref 68)) 2 (.nils)) 3 (.nils))],[(39,⟨33,59,lm az v52⟩),(68,⟨33,59,lm az v53⟩),(81,⟨62,1,lm (bu (bL (ab .i64))) v54⟩)],[1,2,3,39,68,81]⟩ ?_ (by subst h81;kernel_rfl);obtain⟨h82,h⟩|⟨h82,h⟩:=av h
  ·exact ak 30 h82 (aj 4 (OZ hK hL1 h))
  ·refine ak 30 h82 (fu 2 3 3 (bI [1,2,3,4,5] [1,2,3] [39,68,81] ?_));obtain⟨h83,h⟩:=aw h;obtain⟨h84,h⟩:=aw h;exact co 2 (nu 31 [.ptr 3 0,.ref 39,.ptr 1 58,.sl (lm az v1.Kids),iI v51,.cptr (aI (gD v1.Kids v51)),.agg (aI (gD v1.Kids v51)),.sl (lm az [(gD v1.Kids v51)])]++nu 40 [.ptr 3 0]) [] [] [fZ 39 39 ⟨33,59,lm az (v52++[(gD v1.Kids v51)])⟩,cw Tryz.prog 131 Tryz.f10 (pn 7826) 10] (aF [.v 0 2,.v 0 1,.v 0 2,.v 0 2,.v 0 2] (aC (d4 (lo:=0) (k:=2) (cy ⟨(by kernel_rfl),(cE (cc az aI h83 (dw) (cS)) (by kernel_rfl))⟩ (cy ⟨(by kernel_rfl),(cE (cc az aI h83 (dw) (cS)) (by kernel_rfl))⟩ d8))) (aF [.v 0 2] (bt (gV az ([(gD v1.Kids v51)]:List ac) (new:=[aI (gD v1.Kids v51)]) (by simp only[List.map_cons,List.map_nil,cS])) (aC (c7 (m:=0) (c6 39 39 33 59 az (rfl) (dw) h84)) (aF [.v 1 1] (aC (cG 1) cp))))))) (gx 26 2 7 6 (bI [1,2,3,4,5,6,7] [1,2,3] [39,68,81] (eJ 77 6 61 2 (aj 0 (bP (p:=pn 125242) n (Vv hK hL1 n h))))))
 ·refine ak 21 h79 (eG 2 3 6 (ai 1 (eO 81 ?_)));obtain⟨v80,h118,h⟩:=bind_some h;exact d5 1084 (ab0 hK h118) (A7 (i:=0) rfl) (ae (gx 10 4 3 4 (bI [2,3,9,10,11] [2,3] [39,68,1084] (oX 99 3 2 67 4 (aj 0 (bP (p:=pn 506) n (WG hK n h)))))))
theorem acD(hK:am K)(m:Nat):rJ M w0 r v1 m (kN K n v1 m):=by
 induction m with
 | zero=>intro v51 v52 v53 v54 h;cases h
 | succ m ih=>intro v51 v52 v53 v54 h;have h:xV K n v1 (kN K n v1 m) v51 v52 v53 v54=some r:=h;exact aU (Wt hK ih h)
theorem Jr(hK:am K)(h:rx K n v1=some r):aQ Tryz.prog 10 [.agg (aI v1)] (fun v s=>v=.agg (List.set (eQ ({ r with Rows:=[] }:dd)) 0 (.ref 39))∧look 39 s.r=some ⟨33,59,lm az r.Rows⟩):=by
 refine bF (cat Tryz.f10 (pn 1)) Tryz.func10 Tryz.ntmps10 fun M w0=>(bx ⟨[(0,.agg (aI v1))],[],[],[]⟩ ?_);unfold rx at h;exact gx 122 0 31 10 (bI [1,2,3,4,5] [1,2,3] [] (eJ 81 4 62 1 (oX 39 3 0 33 59 (oX 68 3 1 33 59 (aj 0 (bP (p:=pn 122) n (acD hK n h)))))))
end
noncomputable section
variable(M:Nat→Prop)(w0:aJ)(r:Int×Int)(v1:dd)(v4 v5 v6:Int)(m1:Nat)(L1:Int→Int→Int→Option (Int×Int))
abbrev BP:Cx:=⟨Tryz.prog,32,M,w0⟩
abbrev Fl:=bodyPost Tryz.prog Tryz.f27 (bX M w0 (fun v _=>v=.tup [iI r.1,iI r.2]))
abbrev SS(ks:List ao)(s:AS):=VE (BP M w0) (Fl M w0 r) ks .normal s
abbrev yw(n:Nat):ao:=.c (cat Tryz.f27 (pn n))
abbrev Cu:List ao:=[.b 0,yw 31]
abbrev PM:List ao:=kl (BP M w0) (Fl M w0 r) Cu (cat Tryz.f27 (pn 244)) m1::Cu
def Ig:AS:=⟨[(1,.ptr 1 0),(4,iI v4),(5,iI v5),(6,iI v6)],[(1,eQ v1)],[],[1]⟩
abbrev H2:Prop:=∀{v4:Int} {v5:Int} {v6:Int},L1 v4 v5 v6=some r→LP (BP M w0) (Fl M w0 r) Cu (cat Tryz.f27 (pn 244)) m1 (Ig v1 v4 v5 v6)
variable{M w0 r v1 v4 v5 v6 m1 L1}{K:Kn}{n:Nat}
theorem aaJ(hK:am K)(hL1:H2 M w0 r v1 m1 L1)(h:uB K n v1 L1 v4 v5 v6=some r):SS M w0 r (yw 244::PM M w0 r m1) (Ig v1 v4 v5 v6):=by
 unfold uB at h;refine cm 4 5 3 2 (ai 3 (ap (bK aL v1.Columns) (ae ?_)));obtain⟨h6,h⟩|⟨h6,h⟩:=av h
 ·refine ak 11 h6 (cF 8 9 1 3 5 (ai 4 ?_));obtain⟨h7,h⟩:=aw h;refine ap (cc aL aL h7 (gy) (fun _=>rfl)) (ae ?_);obtain⟨v7,h8,h⟩:=cf h;refine bq (ks':=yw 3913 :: .b 1::yw 979::PM M w0 r m1) 0 ⟨[(1,.ptr 1 0),(4,iI v7),(5,iI v5),(6,iI v6)],[(1,eQ v1)],[],[1]⟩ ?_ (by subst h8;kernel_rfl);refine ai 4 ?_;obtain⟨h9,h⟩:=aw h;exact ap (cc aL aL h9 (gy) (fun _=>rfl)) (ae (aj 2 (bd (hL1 h))))
 ·refine ak 11 h6 (aW 8 ?_);cases h;exact eu
theorem UQ(hK:am K)(m:Nat):H2 M w0 r v1 m (sI K n v1 m):=by
 induction m with
 | zero=>intro v4 v5 v6 h;cases h
 | succ m ih=>intro v4 v5 v6 h;have h:uB K n v1 (sI K n v1 m) v4 v5 v6=some r:=h;exact aU (aaJ hK ih h)
theorem WY(hK:am K)(h:yD K n v1=some r):aQ Tryz.prog 27 [.agg (eQ v1)] (fun v _=>v=.tup [iI r.1,iI r.2]):=by
 refine bF (cat Tryz.f27 (pn 1)) Tryz.func27 Tryz.ntmps27 fun M w0=>(bx ⟨[(0,.agg (eQ v1))],[],[],[]⟩ ?_);unfold yD at h;exact aj 10 (bP (p:=pn 122) n (UQ hK n h))
end
noncomputable section
variable(M:Nat→Prop)(w0:aJ)(r:Int)(v1:aE)  
variable{M w0 r v1}{K:Kn}{n:Nat}
theorem Y3(hK:am K)(h:vn K n v1=some r):aQ Tryz.prog 29 [.agg (aD v1)] (fun v _=>v=iI r):=by
 refine bF (cat Tryz.f29 (pn 1)) Tryz.func29 Tryz.ntmps29 fun M w0=>(bx ⟨[(0,.agg (aD v1))],[],[],[]⟩ ?_);unfold vn at h;refine ax 6 7 3 (ai 1 ?_);obtain⟨v2,h1,h⟩:=bind_some h;refine aK (Hp hK h1) ?_;obtain⟨v3,h2,h⟩:=bind_some h;refine aK (Mr hK h2) ?_;obtain⟨v4,h3,h⟩:=bind_some h;refine aK (Lu hK h3) (ae (aW 1 ?_));cases h;exact bW
end
noncomputable section
variable(M:Nat→Prop)(w0:aJ)(r:Int×Int)(v1:ac)(v3:Int×Int)(v4:aE)  
abbrev Xb(n:Nat):ao:=.c (cat Tryz.f9 (pn n))
abbrev XP:Cx:=⟨Tryz.prog,48,M,w0⟩
abbrev q9:=bodyPost Tryz.prog Tryz.f9 (bX M w0 (fun v _=>v=.tup [iI r.1,iI r.2]))
abbrev Vg9(ks:List ao)(s:AS):=VE (XP M w0) (q9 M w0 r) ks .normal s
def acA:AS:=⟨[(4,iI v3.1),(5,iI v3.2),(6,.ptr 6 0)],[(6,aD v4)],[],[6]⟩
variable{M w0 r v1 v3 v4}{K:Kn}{n:Nat}
theorem Ij(hK:am K)(h:qB K n v3 v4=some r):Vg9 M w0 r [Xb 31] (acA v3 v4):=by
 unfold qB at h;refine ax 2 3 1 (ai 3 ?_);obtain⟨v5,h4,h⟩:=bind_some h;refine aK (KS hK h4) (ae (ax 2 3 1 (ai 1 ?_)));obtain⟨v6,h5,h⟩:=bind_some h;refine aK (Y3 hK h5) (ae (aW 3 ?_));cases h;exact eu
theorem RA(hK:am K)(h:tZ K n v1=some r):aQ Tryz.prog 9 [.agg (aI v1)] (fun v _=>v=.tup [iI r.1,iI r.2]):=by
 refine bF (cat Tryz.f9 (pn 1)) Tryz.func9 Tryz.ntmps9 fun M w0=>(bx ⟨[(0,.agg (aI v1))],[],[],[]⟩ ?_);unfold tZ at h;refine ax 6 7 3 (ai 1 ?_);obtain⟨v2,h1,h⟩:=bind_some h;refine d5 1012 (Jr hK h1) (jB (i:=0) (by kernel_rfl)) (eO 1012 ?_);obtain⟨v3,h2,h⟩:=bind_some h;refine aK (WY hK h2) (ae (ax 13 7 5 ?_));obtain⟨h3,h⟩|⟨h3,h⟩:=av h
 ·exact ak 21 h3 (aj 2 (Ij hK h))
 ·exact ak 21 h3 (aj 2 (Ij hK h))
end
noncomputable section
variable(M:Nat→Prop)(w0:aJ)(r v1:List ah)  
variable{M w0 r v1}{K:Kn}{n:Nat}
theorem Zk(hK:am K)(h:vd K n v1=some r):aQ Tryz.prog 36 [.sl (lm aA v1)] (fun v s=>v=.ref 5∧look 5 s.r=some ⟨67,4,lm aA r⟩):=by
 refine bF (cat Tryz.f36 (pn 1)) Tryz.func36 Tryz.ntmps36 fun M w0=>(bx ⟨[(0,.sl (lm aA v1))],[],[],[]⟩ ?_);unfold vd at h;refine cm 12 13 7 4 (ai 1 ?_);refine B7 (bC Tryz.f36 (pn 12) 1) (.eql) 44 44 (.tmp 3) (.const (.slice none 0 0)) 4 (lm aA v1) (r:=bk Tryz.f36 (pn 12) 2) (e:=67) (by kernel_rfl) (by kernel_rfl) (by kernel_rfl) (by kernel_rfl) (by kernel_rfl) (by kernel_rfl) (by kernel_rfl) (by kernel_rfl) (fun hq=>?_) ?_
 ·have h:=xN (by simpa using hq) h;refine ae (aW 5 (eJ 5 2 67 4 ?_));cases h;exact d9
 ·have h:=xu h;refine ae (fu 2 3 3 (ai 0 (B6 44 5 (e:=67) (sz:=4) (br 2 1 ?_))));obtain⟨h2,h⟩:=aw h;refine ap (c6 7 5 67 4 aA (rfl) (gO) h2) (ae (aW 1 ?_));cases h;exact d9
end
noncomputable section
variable(M:Nat→Prop)(w0:aJ)(r:Int)(v1:bO)  
variable{M w0 r v1}{K:Kn}{n:Nat}
theorem LC(hK:am K)(h:qv K n v1=some r):aQ Tryz.prog 43 [.agg (b9 v1)] (fun v _=>v=iI r):=by
 refine bF (cat Tryz.f43 (pn 1)) Tryz.func43 Tryz.ntmps43 fun M w0=>(bx ⟨[(0,.agg (b9 v1))],[],[],[]⟩ ?_);unfold qv at h;refine aW 5 ?_;cases h;exact bW
end
noncomputable section
variable(M:Nat→Prop)(w0:aJ)(r:bj)(v1:Int)  
variable{M w0 r v1}{K:Kn}{n:Nat}
theorem Ax(hK:am K)(h:nl K n v1=some r):aQ Tryz.prog 42 [iI v1] (fun v _=>v=.agg (db r)):=by
 refine bF (cat Tryz.f42 (pn 1)) Tryz.func42 Tryz.ntmps42 fun M w0=>(bx ⟨[(0,iI v1)],[],[],[]⟩ ?_);unfold nl at h;refine aW 5 ?_;cases h;exact bW
end
noncomputable section
variable(M:Nat→Prop)(w0:aJ)(r:bj)(v1 v2:bj)  
variable{M w0 r v1 v2}{K:Kn}{n:Nat}
theorem tS(hK:am K)(h:oi K n v1 v2=some r):aQ Tryz.prog 94 [.agg (db v1),.agg (db v2)] (fun v _=>v=.agg (db r)):=by
 refine bF (cat Tryz.f94 (pn 1)) Tryz.func94 Tryz.ntmps94 fun M w0=>(bx ⟨[(0,.agg (db v1)),(1,.agg (db v2))],[],[],[]⟩ ?_);unfold oi at h;refine aW 5 ?_;cases h;exact bW
end
noncomputable section
variable(M:Nat→Prop)(w0:aJ)(r:Int)(v1:bj)  
variable{M w0 r v1}{K:Kn}{n:Nat}
theorem Ec(hK:am K)(h:qV K n v1=some r):aQ Tryz.prog 95 [.agg (db v1)] (fun v _=>v=iI r):=by
 refine bF (cat Tryz.f95 (pn 1)) Tryz.func95 Tryz.ntmps95 fun M w0=>(bx ⟨[(0,.agg (db v1))],[],[],[]⟩ ?_);unfold qV at h;refine aW 5 ?_;cases h;exact bW
end
noncomputable section
variable(M:Nat→Prop)(w0:aJ)(r:(List ag)×Int×bj×bj×Bool)(v1:List ag)(v16:Int)(v17:Bool)(v18:Int)(v19 v20:bj)(v21:List ag)(v22:bj)(v24:Int)(v25:bj)(v26:Int)(v27:Bool)(v28 v29 v30:bj)(m1:Nat)(L1:Int→Bool→Int→bj→bj→(List ag)→Option ((List ag)×Int×bj×bj×Bool))
abbrev EO:Cx:=⟨Tryz.prog,52,M,w0⟩
abbrev BI:=bodyPost Tryz.prog Tryz.f92 (bX M w0 (fun v s=>v=.tup [.ref 43,iI r.2.1,.agg (db r.2.2.1),.agg (db r.2.2.2.1),.bool r.2.2.2.2]∧look 43 s.r=some ⟨55,67,lm ay r.1⟩))
abbrev xR(ks:List ao)(s:AS):=VE (EO M w0) (BI M w0 r) ks .normal s
abbrev jX(n:Nat):ao:=.c (cat Tryz.f92 (pn n))
abbrev Dq:List ao:=[.b 0,jX 31]
abbrev zP:List ao:=kl (EO M w0) (BI M w0 r) Dq (cat Tryz.f92 (pn 244)) m1::Dq
def aaC:AS:=⟨[(2,.ref 43),(3,iI v26),(4,.ptr 4 0),(5,.ptr 5 0),(6,.bool v27),(7,.ptr 7 0),(9,.ptr 9 0),(10,.sl (lm ay v1)),(11,iI (v1.length:Int)),(12,iI v18)],[(4,db v28),(5,db jl),(7,db v29),(9,aZ ({ (gD v1 v18)with Y:=v24 }:ag))],[(43,⟨55,67,lm ay v21⟩)],[4,5,7,9,43]⟩
def Zd:AS:=⟨[(2,.ref 43),(4,.ptr 4 0),(5,.ptr 5 0),(7,.ptr 7 0),(9,.ptr 9 0),(10,.sl (lm ay v1)),(11,iI (v1.length:Int)),(12,iI v18)],[(4,db v25),(5,db jl),(7,db v22),(9,aZ ({ (gD v1 v18)with Y:=v24 }:ag))],[(43,⟨55,67,lm ay v21⟩)],[4,5,7,9,43]⟩
def V6:AS:=⟨[(2,.ref 43),(3,iI v16),(4,.ptr 4 0),(5,.ptr 5 0),(6,.bool v17),(7,.ptr 7 0),(9,.ptr 9 0),(10,.sl (lm ay v1)),(11,iI (v1.length:Int)),(12,iI v18)],[(4,db v19),(5,db jl),(7,db v22),(9,aZ ({ (gD v1 v18)with Y:=v24 }:ag))],[(43,⟨55,67,lm ay v21⟩)],[4,5,7,9,43]⟩
def Vi:AS:=⟨[(2,.ref 43),(3,iI v16),(4,.ptr 4 0),(5,.ptr 5 0),(6,.bool v17),(7,.ptr 7 0)],[(4,db v30),(5,db jl),(7,db v20)],[(43,⟨55,67,lm ay v21⟩)],[4,5,7,43]⟩
def JO:AS:=⟨[(2,.ref 43),(3,iI v16),(4,.ptr 4 0),(5,.ptr 5 0),(6,.bool v17),(7,.ptr 7 0),(10,.sl (lm ay v1)),(11,iI (v1.length:Int)),(12,iI v18)],[(4,db v19),(5,db jl),(7,db v20)],[(43,⟨55,67,lm ay v21⟩)],[4,5,7,43]⟩
abbrev wv:Prop:=∀{v16:Int} {v17:Bool} {v18:Int} {v19:bj} {v20:bj} {v21:(List ag)},L1 v16 v17 v18 v19 v20 v21=some r→LP (EO M w0) (BI M w0 r) Dq (cat Tryz.f92 (pn 244)) m1 (JO v1 v16 v17 v18 v19 v20 v21)
variable{M w0 r v1 v16 v17 v18 v19 v20 v21 v22 v24 v25 v26 v27 v28 v29 v30 m1 L1}{K:Kn}{n:Nat}
theorem JF(hK:am K)(hL1:wv M w0 r v1 m1 L1)(h:Bj K n v1 v18 v21 v24 L1 v26 v27 v28 v29=some r):xR M w0 r (jX 125343 :: .b 1::jX 1959::zP M w0 r m1) (aaC v1 v18 v21 v24 v26 v27 v28 v29):=by
 unfold Bj at h;refine ai 2 (ap (gV ay ([({ (gD v1 v18)with Y:=v24 }:ag)]:List ag) (new:=[aZ ({ (gD v1 v18)with Y:=v24 }:ag)]) (by simp only[List.map_cons,List.map_nil,dP])) ?_);obtain⟨h22,h⟩:=aw h;exact ap (c6 43 43 55 67 ay (rfl) (fM) h22) (ae (aj 2 (bd (hL1 h))))
theorem OY(hK:am K)(hL1:wv M w0 r v1 m1 L1)(h:z6 K n v1 v18 v21 v22 v24 L1 v25=some r):xR M w0 r (jX 1002741::jX 125343 :: .b 1::jX 1959::zP M w0 r m1) (Zd v1 v18 v21 v22 v24 v25):=by
 unfold z6 at h;exact aj 5 (JF hK hL1 h)
theorem Ml(hK:am K)(hL1:wv M w0 r v1 m1 L1)(h:zm K n v1 v16 v17 v18 v19 v21 v22 L1 v24=some r):xR M w0 r (jX 62671 :: .b 1::jX 1959::zP M w0 r m1) (V6 v1 v16 v17 v18 v19 v21 v22 v24):=by
 unfold zm at h;refine ax 5 3 3 ?_;obtain⟨h20,h⟩|⟨h20,h⟩:=av h
 ·refine ak 30 h20 (ax 9 5 4 ?_);obtain⟨h21,h⟩|⟨h21,h⟩:=av h
  ·exact ak 31 h21 (aj 2 (OY hK hL1 h))
  ·exact ak 31 h21 (aj 2 (OY hK hL1 h))
 ·exact ak 30 h20 (aj 2 (JF hK hL1 h))
theorem Ii(hK:am K)(h:AI K n v16 v17 v20 v21 v30=some r):xR M w0 r [jX 63] (Vi v16 v17 v20 v21 v30):=by
 unfold AI at h;refine ax 2 3 1 (bI [2,3,4,5,6,7] [4,5,7] [43] (co 5 (nu 47 [.ref 43,iI v16,.agg (db v30),.agg (db v20),.bool v17]) [] [] [cw Tryz.prog 52 Tryz.f92 (pn 126) 5,cw Tryz.prog 52 Tryz.f92 (pn 126) 6,cw Tryz.prog 52 Tryz.f92 (pn 126) 7,cw Tryz.prog 52 Tryz.f92 (pn 126) 8,cw Tryz.prog 52 Tryz.f92 (pn 126) 9] (aF [.v 0 1,.v 0 2,.v 0 3,.v 0 4,.v 0 5] (aC (cG 0) (aC (cG 1) (aC (cG 2) (aC (cG 3) (aC (cG 4) cp)))))) (aW 1 ?_)));cases h;exact gz
theorem Ro(hK:am K)(hL1:wv M w0 r v1 m1 L1)(h:yC K n v1 L1 v16 v17 v18 v19 v20 v21=some r):xR M w0 r (jX 244::zP M w0 r m1) (JO v1 v16 v17 v18 v19 v20 v21):=by
 unfold yC at h;refine ax 6 7 3 ?_;obtain⟨h15,h⟩|⟨h15,h⟩:=av h
 ·refine ak 13 h15 (cF 8 9 1 3 5 (ai 0 ?_));obtain⟨h16,h⟩:=aw h;refine ap (cc ay aZ h16 (fM) (dP)) (ae (ax 2 3 1 (ai 3 ?_)));obtain⟨v22,h17,h⟩:=bind_some h;refine aK (tS hK h17) (ae (ax 13 7 5 ?_));obtain⟨h18,h⟩|⟨h18,h⟩:=av h
  ·refine ak 22 h18 (ce 2 1 (ai 2 ?_));obtain⟨v23,h19,h⟩:=bind_some h;exact aK (Ec hK h19) (ae (aj 0 (Ml hK hL1 h)))
  ·exact ak 22 h18 (aj 2 (Ml hK hL1 h))
 ·refine ak 13 h15 (eG 5 3 8 ?_);obtain⟨h23,h⟩|⟨h23,h⟩:=av h
  ·exact ak 45 h23 (aj 2 (Ii hK h))
  ·exact ak 45 h23 (aj 2 (Ii hK h))
theorem Wl(hK:am K)(m:Nat):wv M w0 r v1 m (Aj K n v1 m):=by
 induction m with
 | zero=>intro v16 v17 v18 v19 v20 v21 h;cases h
 | succ m ih=>intro v16 v17 v18 v19 v20 v21 h;have h:yC K n v1 (Aj K n v1 m) v16 v17 v18 v19 v20 v21=some r:=h;exact aU (Ro hK ih h)
theorem abm(hK:am K)(h:BR K n v1=some r):aQ Tryz.prog 92 [.sl (lm ay v1)] (fun v s=>v=.tup [.ref 43,iI r.2.1,.agg (db r.2.2.1),.agg (db r.2.2.2.1),.bool r.2.2.2.2]∧look 43 s.r=some ⟨55,67,lm ay r.1⟩):=by
 refine bF (cat Tryz.f92 (pn 1)) Tryz.func92 Tryz.ntmps92 fun M w0=>(bx ⟨[(0,.sl (lm ay v1))],[],[],[]⟩ ?_);unfold BR at h;exact cm 60 61 31 8 (ai 1 (ap (bK ay v1) (ae (ip 2 0 1 (bI [2,3,4,5,6,7,10,11,12] [4,5,7] [] (eJ 43 2 55 67 (aj 0 (bP (p:=pn 122) n (Wl hK n h)))))))))
end
noncomputable section
variable(M:Nat→Prop)(w0:aJ)(r v1:List ag)  
variable{M w0 r v1}{K:Kn}{n:Nat}
theorem VT(hK:am K)(h:wu K n v1=some r):aQ Tryz.prog 93 [.sl (lm ay v1)] (fun v s=>v=.ref 5∧look 5 s.r=some ⟨55,67,lm ay r⟩):=by
 refine bF (cat Tryz.f93 (pn 1)) Tryz.func93 Tryz.ntmps93 fun M w0=>(bx ⟨[(0,.sl (lm ay v1))],[],[],[]⟩ ?_);unfold wu at h;refine cm 12 13 7 4 (ai 1 ?_);refine B7 (bC Tryz.f93 (pn 12) 1) (.eql) 53 53 (.tmp 3) (.const (.slice none 0 0)) 4 (lm ay v1) (r:=bk Tryz.f93 (pn 12) 2) (e:=55) (by kernel_rfl) (by kernel_rfl) (by kernel_rfl) (by kernel_rfl) (by kernel_rfl) (by kernel_rfl) (by kernel_rfl) (by kernel_rfl) (fun hq=>?_) ?_
 ·have h:=xN (by simpa using hq) h;refine ae (aW 5 (eJ 5 2 55 67 ?_));cases h;exact d9
 ·have h:=xu h;refine ae (fu 2 3 3 (ai 0 (B6 53 5 (e:=55) (sz:=67) (br 2 1 ?_))));obtain⟨h2,h⟩:=aw h;refine ap (c6 7 5 55 67 ay (rfl) (fM) h2) (ae (aW 1 ?_));cases h;exact d9
end
noncomputable section
variable(M:Nat→Prop)(w0:aJ)(r:Int)(v1:bO)  
variable{M w0 r v1}{K:Kn}{n:Nat}
theorem acz(hK:am K)(h:AK K n v1=some r):aQ Tryz.prog 96 [.agg (b9 v1)] (fun v _=>v=iI r):=by
 refine bF (cat Tryz.f96 (pn 1)) Tryz.func96 Tryz.ntmps96 fun M w0=>(bx ⟨[(0,.agg (b9 v1))],[],[],[]⟩ ?_);unfold AK at h;refine aW 5 ?_;cases h;exact bW
end
noncomputable section
variable(M:Nat→Prop)(w0:aJ)(r:Bool)(v1:ac)(v2:Bool)  
abbrev TD(n:Nat):ao:=.c (cat Tryz.f97 (pn n))
abbrev Zy:Cx:=⟨Tryz.prog,16,M,w0⟩
abbrev q97:=bodyPost Tryz.prog Tryz.f97 (bX M w0 (fun v _=>v=.bool r))
abbrev aaN(ks:List ao)(s:AS):=VE (Zy M w0) (q97 M w0 r) ks .normal s
def SG:AS:=⟨[(2,.bool v2)],[],[],[]⟩
variable{M w0 r v1 v2}{K:Kn}{n:Nat}
theorem Cf(hK:am K)(h:pT K n v2=some r):aaN M w0 r [TD 7] (SG v2):=by
 unfold pT at h;refine aW 1 ?_;cases h;exact bW
theorem H3(hK:am K)(h:sB K n v1=some r):aQ Tryz.prog 97 [.agg (aI v1)] (fun v _=>v=.bool r):=by
 refine bF (cat Tryz.f97 (pn 1)) Tryz.func97 Tryz.ntmps97 fun M w0=>(bx ⟨[(0,.agg (aI v1))],[],[],[]⟩ ?_);unfold sB at h;refine ax 6 7 3 (ai 4 ?_);obtain⟨h1,h⟩|⟨h1,h⟩:=av h
 ·exact aY 6 h1 (ae (aj 0 (Cf hK h)))
 ·refine aY 6 h1 (br 9 5 ?_);obtain⟨h2,h⟩|⟨h2,h⟩:=av h
  ·exact aY 11 h2 (ae (aj 0 (Cf hK h)))
  ·exact aY 11 h2 (ae (aj 0 (Cf hK h)))
end
noncomputable section
variable(M:Nat→Prop)(w0:aJ)(r v1:ag)(v2:Int)(v3:Int×Bool)(v5:Int)  
abbrev UE(n:Nat):ao:=.c (cat Tryz.f98 (pn n))
abbrev Rm:Cx:=⟨Tryz.prog,45,M,w0⟩
abbrev TB:=bodyPost Tryz.prog Tryz.f98 (bX M w0 (fun v _=>v=.agg (aZ r)))
abbrev adu(ks:List ao)(s:AS):=VE (Rm M w0) (TB M w0 r) ks .normal s
def Yz:AS:=⟨[(2,.ptr 2 0),(4,.ptr 4 0)],[(2,aZ ({ v1 with X:=(aa (v1.X+v3.1)),Y:=v5 }:ag)),(4,List.set (aZ bQ) 66 (.nils))],[],[2,4]⟩
variable{M w0 r v1 v2 v3 v5}{K:Kn}{n:Nat}
theorem PI(hK:am K)(h:vk K n v1 v3 v5=some r):adu M w0 r [UE 63] (Yz v1 v3 v5):=by
 unfold vk at h;refine aW 3 ?_;cases h;exact bW
theorem VU(hK:am K)(h:vV K n v1 v2=some r):aQ Tryz.prog 98 [.agg (aZ v1),iI v2] (fun v _=>v=.agg (aZ r)):=by
 refine bF (cat Tryz.f98 (pn 1)) Tryz.func98 Tryz.ntmps98 fun M w0=>(bx ⟨[(0,.agg (aZ v1)),(1,iI v2)],[],[],[]⟩ ?_);unfold vV at h;refine ax 13 7 5 ?_;obtain⟨h1,h⟩|⟨h1,h⟩:=av h
 ·refine ak 12 h1 (aW 5 ?_);cases h;exact bW
 ·refine ak 12 h1 (fu 2 3 3 (ai 4 ?_));obtain⟨v3,h2,h⟩:=bind_some h;refine aK (fS hK h2) (ae (ax 13 7 5 ?_));obtain⟨h3,h⟩|⟨h3,h⟩:=av h
  ·refine ak 31 h3 (ax 4 5 2 (ai 3 ?_));obtain⟨v4,h4,h⟩:=bind_some h;exact aK (fS hK h4) (ae (aj 1 (PI hK h)))
  ·exact ak 31 h3 (aj 2 (PI hK h))
end
noncomputable section
variable(M:Nat→Prop)(w0:aJ)(r:ag)(v1:ac)(v2:bO)(v3 v4:Bool)(v5:c8)(v6:(List ac)×Bool)(v9:Int)(v10:List ag)(v15:Int)(v16:Bool)(v17 v18:bj)(v19:List ag)(v20 v21:bj)(v23:Bool)(v25:Int)(v26:bj)(v27:Bool)(v32:Int)(v33 v34:bj)(v35:Bool)(v36:Int×Bool)(v37:Bool)(v38 v39 v40 v47:Int)(v48 v50:(List ag))(v52:Bool)(v54:List ag)(m1 m2:Nat)(L1 L2:Int→(List ag)→Option ag)
abbrev uj:Cx:=⟨Tryz.prog,259,M,w0⟩
abbrev tH:=bodyPost Tryz.prog Tryz.f79 (bX M w0 (fun v s=>v=.agg (List.set (aZ ({ r with Kids:=[] }:ag)) 66 (.ref 1054))∧look 1054 s.r=some ⟨55,67,lm ay r.Kids⟩))
abbrev jR(ks:List ao)(s:AS):=VE (uj M w0) (tH M w0 r) ks .normal s
abbrev dY(n:Nat):ao:=.c (cat Tryz.f79 (pn n))
abbrev Ck:List ao:=[.b 4,dY 131071]
abbrev wa:List ao:=kl (uj M w0) (tH M w0 r) Ck (cat Tryz.f79 (pn 1048564)) m2::Ck
abbrev CQ:List ao:=[.b 0,dY 4075,dY 255]
abbrev Xw:List ao:=kl (uj M w0) (tH M w0 r) CQ (cat Tryz.f79 (pn 32596)) m1::CQ
def adE:AS:=⟨[(6,.ptr 6 0),(10,.ptr 10 0),(11,.ptr 11 0),(12,.sl (lm az v6.1)),(13,.bool v6.2),(15,iI v25),(199,iI (v19.length:Int)),(200,iI v47)],[(6,b9 v2),(10,List.set (aZ bQ) 66 (.nils)),(11,List.set (aZ (⟨1,v1.Node,v2.Margin.a3,0,(aa (v2.Content+v39)),v40,0,⟨#[]⟩,v1.Style,v33,v34,v35,[]⟩:ag)) 66 (.ref 1054))],[(1054,⟨55,67,lm ay v54⟩)],[6,10,11,1054]⟩
def WP:AS:=⟨[(6,.ptr 6 0),(10,.ptr 10 0),(11,.ptr 11 0),(12,.sl (lm az v6.1)),(13,.bool v6.2),(15,iI v25),(24,iI v47),(199,iI (v19.length:Int)),(200,iI v47),(244,.bool v52)],[(6,b9 v2),(10,List.set (aZ bQ) 66 (.nils)),(11,List.set (aZ (⟨1,v1.Node,v2.Margin.a3,0,(aa (v2.Content+v39)),v40,0,⟨#[]⟩,v1.Style,v33,v34,v35,[]⟩:ag)) 66 (.ref 1054))],[(1054,⟨55,67,lm ay v50⟩)],[6,10,11,1054]⟩
def IY:AS:=⟨[(6,.ptr 6 0),(10,.ptr 10 0),(11,.ptr 11 0),(12,.sl (lm az v6.1)),(13,.bool v6.2),(15,iI v25),(199,iI (v19.length:Int)),(200,iI v47)],[(6,b9 v2),(10,List.set (aZ bQ) 66 (.nils)),(11,List.set (aZ (⟨1,v1.Node,v2.Margin.a3,0,(aa (v2.Content+v39)),v40,0,⟨#[]⟩,v1.Style,v33,v34,v35,[]⟩:ag)) 66 (.ref 1054))],[(1054,⟨55,67,lm ay v48⟩)],[6,10,11,1054]⟩
def Qm:AS:=⟨[(6,.ptr 6 0),(10,.ptr 10 0),(11,.ptr 11 0),(12,.sl (lm az v6.1)),(13,.bool v6.2),(14,iI v38),(15,iI v25)],[(6,b9 v2),(10,List.set (aZ bQ) 66 (.nils)),(11,List.set (aZ ({ bQ with Kind:=1,Node:=v1.Node,Style:=v1.Style,Before:=v33,After:=v34,Empty:=v35 }:ag)) 66 (.ref 1054))],[(1054,⟨55,67,lm ay v19⟩)],[6,10,11,1054]⟩
def XZ:AS:=⟨[(6,.ptr 6 0),(10,.ptr 10 0),(11,.ptr 11 0),(12,.sl (lm az v6.1)),(13,.bool v6.2),(14,iI (max v32 0)),(15,iI v25),(22,iI v36.1),(166,.bool v37)],[(6,b9 v2),(10,List.set (aZ bQ) 66 (.nils)),(11,List.set (aZ ({ bQ with Kind:=1,Node:=v1.Node,Style:=v1.Style,Before:=v33,After:=v34,Empty:=v35 }:ag)) 66 (.ref 1054))],[(1054,⟨55,67,lm ay v19⟩)],[6,10,11,1054]⟩
def aaE:AS:=⟨[(5,.ptr 5 0),(6,.ptr 6 0),(10,.ptr 10 0),(11,.ptr 11 0),(12,.sl (lm az v6.1)),(13,.bool v6.2),(14,iI v32),(15,iI v25)],[(5,aI v1),(6,b9 v2),(10,List.set (aZ bQ) 66 (.nils)),(11,List.set (aZ ({ bQ with Kind:=1,Node:=v1.Node,Style:=v1.Style,Before:=v33,After:=v34,Empty:=v35 }:ag)) 66 (.ref 1054))],[(1054,⟨55,67,lm ay v19⟩)],[5,6,10,11,1054]⟩
def VS:AS:=⟨[(3,.bool v4),(5,.ptr 5 0),(6,.ptr 6 0),(10,.ptr 10 0),(11,.ptr 11 0),(12,.sl (lm az v6.1)),(13,.bool v6.2),(14,iI v15),(15,iI v25),(16,.ptr 16 0),(17,.ptr 17 0),(18,.bool v16),(113,.bool v27)],[(5,aI v1),(6,b9 v2),(10,List.set (aZ bQ) 66 (.nils)),(11,List.set (aZ ({ bQ with Kind:=1,Node:=v1.Node,Style:=v1.Style,Before:=v26,After:=v21 }:ag)) 66 (.ref 1054)),(16,db v17),(17,db v18)],[(1054,⟨55,67,lm ay v19⟩)],[5,6,10,11,16,17,1054]⟩
def SU:AS:=⟨[(2,.bool v3),(3,.bool v4),(5,.ptr 5 0),(6,.ptr 6 0),(10,.ptr 10 0),(11,.ptr 11 0),(12,.sl (lm az v6.1)),(13,.bool v6.2),(14,iI v15),(15,iI v25),(16,.ptr 16 0),(17,.ptr 17 0),(18,.bool v16)],[(5,aI v1),(6,b9 v2),(10,List.set (aZ bQ) 66 (.nils)),(11,List.set (aZ ({ bQ with Kind:=1,Node:=v1.Node,Style:=v1.Style,Before:=v26,After:=v21 }:ag)) 66 (.ref 1054)),(16,db v17),(17,db v18)],[(1054,⟨55,67,lm ay v19⟩)],[5,6,10,11,16,17,1054]⟩
def T3:AS:=⟨[(2,.bool v3),(3,.bool v4),(5,.ptr 5 0),(6,.ptr 6 0),(10,.ptr 10 0),(11,.ptr 11 0),(12,.sl (lm az v6.1)),(13,.bool v6.2),(14,iI v15),(15,iI 0),(16,.ptr 16 0),(17,.ptr 17 0),(18,.bool v16),(98,.bool v23)],[(5,aI v1),(6,b9 v2),(10,List.set (aZ bQ) 66 (.nils)),(11,List.set (aZ ({ bQ with Kind:=1,Node:=v1.Node,Style:=v1.Style,Before:=v20,After:=v21 }:ag)) 66 (.ref 1054)),(16,db v17),(17,db v18)],[(1054,⟨55,67,lm ay v19⟩)],[5,6,10,11,16,17,1054]⟩
def YL:AS:=⟨[(2,.bool v3),(3,.bool v4),(5,.ptr 5 0),(6,.ptr 6 0),(10,.ptr 10 0),(11,.ptr 11 0),(12,.sl (lm az v6.1)),(13,.bool v6.2),(14,iI v15),(15,iI 0),(16,.ptr 16 0),(17,.ptr 17 0),(18,.bool v16)],[(5,aI v1),(6,b9 v2),(10,List.set (aZ bQ) 66 (.nils)),(11,List.set (aZ ({ bQ with Kind:=1,Node:=v1.Node,Style:=v1.Style }:ag)) 66 (.ref 1054)),(16,db v17),(17,db v18)],[(1054,⟨55,67,lm ay v19⟩)],[5,6,10,11,16,17,1054]⟩
def IP:AS:=⟨[(2,.bool v3),(3,.bool v4),(5,.ptr 5 0),(6,.ptr 6 0),(9,.ptr 9 0),(10,.ptr 10 0),(11,.ptr 11 0),(12,.sl (lm az v6.1)),(13,.bool v6.2),(15,iI 0),(16,.ptr 16 0),(17,.ptr 17 0),(19,.ref 50),(36,.sl (lm az v6.1)),(37,iI (v6.1.length:Int)),(38,iI v9)],[(5,aI v1),(6,b9 v2),(9,dC v5),(10,List.set (aZ bQ) 66 (.nils)),(11,List.set (aZ ({ bQ with Kind:=1,Node:=v1.Node,Style:=v1.Style }:ag)) 66 (.nils)),(16,db jl),(17,db jl)],[(50,⟨55,67,lm ay v10⟩)],[5,6,9,10,11,16,17,50]⟩
abbrev IK:Prop:=∀{v9:Int} {v10:(List ag)},L1 v9 v10=some r→LP (uj M w0) (tH M w0 r) CQ (cat Tryz.f79 (pn 32596)) m1 (IP v1 v2 v3 v4 v5 v6 v9 v10)
abbrev A3:Prop:=∀{v47:Int} {v48:(List ag)},L2 v47 v48=some r→LP (uj M w0) (tH M w0 r) Ck (cat Tryz.f79 (pn 1048564)) m2 (IY v1 v2 v6 v19 v25 v33 v34 v35 v39 v40 v47 v48)
variable{M w0 r v1 v2 v3 v4 v5 v6 v9 v10 v15 v16 v17 v18 v19 v20 v21 v23 v25 v26 v27 v32 v33 v34 v35 v36 v37 v38 v39 v40 v47 v48 v50 v52 v54 m1 m2 L1 L2}{K:Kn}{n:Nat}
theorem PK(hK:am K)(hL2:A3 M w0 r v1 v2 v6 v19 v25 v33 v34 v35 v39 v40 m2 L2)(h:tT K n v1 v2 v6 v19 v25 v33 v34 v35 v39 v40 v47 L2 v54=some r):jR M w0 r (.b 5::dY 8388519::wa M w0 r m2) (adE v1 v2 v6 v19 v25 v33 v34 v35 v39 v40 v47 v54):=by
 unfold tT at h;exact aj 2 (bd (hL2 h))
theorem KO(hK:am K)(hL2:A3 M w0 r v1 v2 v6 v19 v25 v33 v34 v35 v39 v40 m2 L2)(h:xX K n v1 v2 v6 v19 v25 v33 v34 v35 v39 v40 v47 v50 L2 v52=some r):jR M w0 r (dY 268432591 :: .b 5::dY 8388519::wa M w0 r m2) (WP v1 v2 v6 v19 v25 v33 v34 v35 v39 v40 v47 v50 v52):=by
 unfold xX at h;obtain⟨h64,h⟩|⟨h64,h⟩:=av h
 ·refine ak 244 h64 (ce 2 1 (bI [6,10,11,12,13,15,24,199,200] [6,10,11] [1054] ?_));obtain⟨h65,h⟩:=aw h;obtain⟨v53,h66,h⟩:=bind_some h;obtain⟨h67,h⟩:=aw h;exact co 1 (nu 245 [.ptr 11 66,.ref 1054,iI v47,.ptr 11 66,.ref 1054,iI v47,.eptr 1054 67 (v47.toNat) 0,.agg (aZ (gD v50 v47)),.ptr 6 12,iI v2.Content,.agg (aZ v53),.eptr 1054 67 (v47.toNat) 0]) [] [] [cD 1054 ⟨55,67,lm ay (List.set v50 v47.toNat v53)⟩] (aF (vz 6) (bt (bT 1054 67 ay (L:=v50) h65) (bt (bE 55 0 ay aZ (aR h67).2 (dP)) (aF (vz 2) (aC (cM 0 1 255 (VU hK h66)) (bt (bT 1054 67 ay (L:=v50) h67) (aC (c7 (m:=0) (du 1054 55 67 0 ay aZ v53 (aR h67).2 (dP))) cp))))))) (aj 0 (PK hK hL2 h))
 ·exact ak 244 h64 (aj 2 (PK hK hL2 h))
theorem abw(hK:am K)(hL2:A3 M w0 r v1 v2 v6 v19 v25 v33 v34 v35 v39 v40 m2 L2)(h:xo K n v1 v2 v6 v19 v25 v33 v34 v35 v39 v40 L2 v47 v48=some r):jR M w0 r (dY 1048564::wa M w0 r m2) (IY v1 v2 v6 v19 v25 v33 v34 v35 v39 v40 v47 v48):=by
 unfold xo at h;refine ax 6 7 3 ?_;obtain⟨h54,h⟩|⟨h54,h⟩:=av h
 ·refine ak 201 h54 (cF 18 19 5 3 7 (bI [6,10,11,12,13,15,24,199,200] [6,10,11] [1054] ?_));obtain⟨h55,h⟩:=aw h;obtain⟨h56,h⟩:=aw h;refine co 1 (nu 203 [.ptr 11 66,.ref 1054,iI v47,.eptr 1054 67 (v47.toNat) 0,.eptr 1054 67 (v47.toNat) 2,iI ((gD v48 v47).X),.ptr 6 4,.ptr 6 7,iI v2.Border.a3,.ptr 6 8,.ptr 6 11,iI v2.Padding.a3,iI (aa (v2.Border.a3+v2.Padding.a3)),iI (aa (((gD v48 v47).X)+(aa (v2.Border.a3+v2.Padding.a3)))),.eptr 1054 67 (v47.toNat) 0,.eptr 1054 67 (v47.toNat) 2]) [] [] [cD 1054 ⟨55,67,lm ay (List.set v48 v47.toNat ({ (gD v48 v47)with X:=(aa (((gD v48 v47).X)+(aa (v2.Border.a3+v2.Padding.a3)))) }:ag))⟩] (aF (vz 3) (bt (bT 1054 67 ay (L:=v48) h55) (aF [.v 0 1] (bt (bE 3 2 ay aZ (aR h56).2 (dP)) (aF (vz 8) (aC (d4 (lo:=0) (k:=2) (cy ⟨(by kernel_rfl),(cE (bT 1054 67 ay (L:=v48) h56) (by kernel_rfl))⟩ (cy ⟨(by kernel_rfl),(cE (bT 1054 67 ay (L:=(List.set v48 v47.toNat ({ (gD v48 v47)with X:=(aa (((gD v48 v47).X)+(aa (v2.Border.a3+v2.Padding.a3)))) }:ag))) h56) (by kernel_rfl))⟩ d8))) (aF [.v 0 1] (aC (c7 (m:=0) (du 1054 55 67 2 ay aZ ({ (gD v48 v47)with X:=(aa (((gD v48 v47).X)+(aa (v2.Border.a3+v2.Padding.a3)))) }:ag) (aR h56).2 (dP))) cp)))))))) ?_
  obtain⟨v49,h57,h⟩:=cf h;refine bq (ks':=dY 134216294::dY 134216295 :: .b 5::dY 8388519::wa M w0 r m2) 1 ⟨[(6,.ptr 6 0),(10,.ptr 10 0),(11,.ptr 11 0),(12,.sl (lm az v6.1)),(13,.bool v6.2),(15,iI v25),(24,iI v47),(199,iI (v19.length:Int)),(200,iI v47)],[(6,b9 v2),(10,List.set (aZ bQ) 66 (.nils)),(11,List.set (aZ (⟨1,v1.Node,v2.Margin.a3,0,(aa (v2.Content+v39)),v40,0,⟨#[]⟩,v1.Style,v33,v34,v35,[]⟩:ag)) 66 (.ref 1054))],[(1054,⟨55,67,lm ay v49⟩)],[6,10,11,1054]⟩ ?_ (by subst h57;kernel_rfl);obtain⟨h58,h⟩:=aw h;obtain⟨h59,h⟩:=aw h;refine co 1 (nu 219 [.ptr 11 66,.ref 1054,iI v47,.eptr 1054 67 (v47.toNat) 0,.eptr 1054 67 (v47.toNat) 3,iI ((gD v49 v47).Y),.ptr 6 4,.ptr 6 4,iI v2.Border.a0,.ptr 6 8,.ptr 6 8,iI v2.Padding.a0,iI (aa (v2.Border.a0+v2.Padding.a0)),iI v25,iI (aa ((aa (v2.Border.a0+v2.Padding.a0))+v25)),iI (aa (((gD v49 v47).Y)+(aa ((aa (v2.Border.a0+v2.Padding.a0))+v25)))),.eptr 1054 67 (v47.toNat) 0,.eptr 1054 67 (v47.toNat) 3]) [] [] [cD 1054 ⟨55,67,lm ay (List.set v49 v47.toNat ({ (gD v49 v47)with Y:=(aa (((gD v49 v47).Y)+(aa ((aa (v2.Border.a0+v2.Padding.a0))+v25)))) }:ag))⟩] (aF (vz 3) (bt (bT 1054 67 ay (L:=v49) h58) (aF [.v 0 1] (bt (bE 3 3 ay aZ (aR h59).2 (dP)) (aF (vz 10) (aC (d4 (lo:=0) (k:=2) (cy ⟨(by kernel_rfl),(cE (bT 1054 67 ay (L:=v49) h59) (by kernel_rfl))⟩ (cy ⟨(by kernel_rfl),(cE (bT 1054 67 ay (L:=(List.set v49 v47.toNat ({ (gD v49 v47)with Y:=(aa (((gD v49 v47).Y)+(aa ((aa (v2.Border.a0+v2.Padding.a0))+v25)))) }:ag))) h59) (by kernel_rfl))⟩ d8))) (aF [.v 0 1] (aC (c7 (m:=0) (du 1054 55 67 3 ay aZ ({ (gD v49 v47)with Y:=(aa (((gD v49 v47).Y)+(aa ((aa (v2.Border.a0+v2.Padding.a0))+v25)))) }:ag) (aR h59).2 (dP))) cp)))))))) ?_
  obtain⟨v50,h60,h⟩:=cf h;refine bq (ks':=dY 268432590::dY 268432591 :: .b 5::dY 8388519::wa M w0 r m2) 1 ⟨[(6,.ptr 6 0),(10,.ptr 10 0),(11,.ptr 11 0),(12,.sl (lm az v6.1)),(13,.bool v6.2),(15,iI v25),(24,iI v47),(199,iI (v19.length:Int)),(200,iI v47)],[(6,b9 v2),(10,List.set (aZ bQ) 66 (.nils)),(11,List.set (aZ (⟨1,v1.Node,v2.Margin.a3,0,(aa (v2.Content+v39)),v40,0,⟨#[]⟩,v1.Style,v33,v34,v35,[]⟩:ag)) 66 (.ref 1054))],[(1054,⟨55,67,lm ay v50⟩)],[6,10,11,1054]⟩ ?_ (by subst h60;kernel_rfl);refine ai 2 ?_;obtain⟨h61,h⟩|⟨h61,h⟩:=av h
  ·refine aY 238 h61 (br 4 2 ?_);obtain⟨h62,h⟩:=aw h;refine ap (cc az aI h62 (dw) (cS)) (br 6 1 ?_);obtain⟨v51,h63,h⟩:=bind_some h;exact aK (H3 hK h63) (ae (aj 0 (KO hK hL2 h)))
  ·exact aY 238 h61 (ae (aj 0 (KO hK hL2 h)))
 ·refine ak 201 h54 (aW 8 ?_);cases h;exact d9
theorem Rw(hK:am K)(m:Nat):A3 M w0 r v1 v2 v6 v19 v25 v33 v34 v35 v39 v40 m (pN K n v1 v2 v6 v19 v25 v33 v34 v35 v39 v40 m):=by
 induction m with
 | zero=>intro v47 v48 h;cases h
 | succ m ih=>intro v47 v48 h;have h:xo K n v1 v2 v6 v19 v25 v33 v34 v35 v39 v40 (pN K n v1 v2 v6 v19 v25 v33 v34 v35 v39 v40 m) v47 v48=some r:=h;exact aU (abw hK ih h)
theorem Hz(hK:am K)(h:qf K n v1 v2 v6 v19 v25 v33 v34 v35 v38=some r):jR M w0 r [dY 8191] (Qm v1 v2 v6 v19 v25 v33 v34 v35 v38):=by
 unfold qf at h;refine ax 6 7 3 (bI [6,10,11,12,13,14,15] [6,10,11] [1054] ?_);obtain⟨v39,h38,h⟩:=bind_some h;refine co 1 (nu 173 [.ptr 6 12,iI v2.Content,.agg (b9 v2),iI v39,iI (aa (v2.Content+v39)),.ptr 11 4]) [] [] [cw Tryz.prog 259 Tryz.f79 (pn 32766) 6] (aF (vz 3) (aC (cM 0 1 176 (acz hK h38)) (aF (vz 2) (aC (cG 0) cp)))) ?_;obtain⟨v40,h39,h⟩:=cf h;refine bq (ks':=[dY 262140,dY 262141,dY 131071]) 4 ⟨[(6,.ptr 6 0),(10,.ptr 10 0),(11,.ptr 11 0),(12,.sl (lm az v6.1)),(13,.bool v6.2),(15,iI v25)],[(6,b9 v2),(10,List.set (aZ bQ) 66 (.nils)),(11,List.set (aZ (⟨1,v1.Node,v2.Margin.a3,0,(aa (v2.Content+v39)),v40,0,⟨#[]⟩,v1.Style,v33,v34,v35,[]⟩:ag)) 66 (.ref 1054))],[(1054,⟨55,67,lm ay v19⟩)],[6,10,11,1054]⟩ ?_ (by subst h39;kernel_rfl);exact ai 2 (ap (bK ay v19) (ae (aj 1 (bP (p:=pn 524282) n (Rw hK n h)))))
theorem Ny(hK:am K)(h:tv K n v1 v2 v6 v19 v25 v32 v33 v34 v35 v36 v37=some r):jR M w0 r [dY 32763,dY 8191] (XZ v1 v2 v6 v19 v25 v32 v33 v34 v35 v36 v37):=by
 unfold tv at h;obtain⟨h37,h⟩|⟨h37,h⟩:=av h
 ·exact ak 166 h37 (aj 2 (Hz hK h))
 ·exact ak 166 h37 (aj 2 (Hz hK h))
theorem wS(hK:am K)(h:jU K n v1 v2 v6 v19 v25 v32 v33 v34 v35=some r):jR M w0 r [.b 3,dY 2047] (aaE v1 v2 v6 v19 v25 v32 v33 v34 v35):=by
 unfold jU at h;refine py 12 13 7 5 (ai 3 ?_);obtain⟨v36,h35,h⟩:=bind_some h;refine aK (fS hK h35) (ae (ax 2 3 1 (ai 2 ?_)));obtain⟨h36,h⟩|⟨h36,h⟩:=av h
 ·exact aY 160 h36 (ae (aj 0 (Ny hK h)))
 ·exact aY 160 h36 (ae (aj 0 (Ny hK h)))
theorem BW(hK:am K)(h:qz K n v1 v2 v4 v6 v15 v16 v17 v18 v19 v21 v25 v26 v27=some r):jR M w0 r [dY 8185,.b 3,dY 2047] (VS v1 v2 v4 v6 v15 v16 v17 v18 v19 v21 v25 v26 v27):=by
 unfold qz at h;obtain⟨h27,h⟩|⟨h27,h⟩:=av h
 ·refine ak 113 h27 (ax 4 5 2 (ai 4 ?_));obtain⟨v28,h28,h⟩:=bind_some h;exact aK (tS hK h28) (ae (aj 5 (wS hK h)))
 ·refine ak 113 h27 (ce 7 3 ?_);obtain⟨h29,h⟩|⟨h29,h⟩:=av h
  ·refine ak 131 h29 (ce 11 5 ?_);obtain⟨h30,h⟩|⟨h30,h⟩:=av h
   ·refine ak 134 h30 (ce 2 1 (ai 3 ?_));obtain⟨v29,h31,h⟩:=bind_some h;exact aK (tS hK h31) (ae (aj 0 (wS hK h)))
   ·exact ak 134 h30 (aj 2 (wS hK h))
  ·refine ak 131 h29 (ce 7 3 ?_);obtain⟨h32,h⟩|⟨h32,h⟩:=av h
   ·refine ak 140 h32 (ax 4 5 2 (ai 3 ?_));obtain⟨v30,h33,h⟩:=bind_some h;exact aK (tS hK h33) (ae (aj 1 (wS hK h)))
   ·refine ak 140 h32 (ce 3 1 (ai 3 ?_));obtain⟨v31,h34,h⟩:=bind_some h;exact aK (Ec hK h34) (ae (aj 0 (wS hK h)))
theorem Gw(hK:am K)(h:rV K n v1 v2 v3 v4 v6 v15 v16 v17 v18 v19 v21 v25 v26=some r):jR M w0 r [.b 2,dY 1023] (SU v1 v2 v3 v4 v6 v15 v16 v17 v18 v19 v21 v25 v26):=by
 unfold rV at h;refine cF 8 9 3 3 4 (ai 2 ?_);obtain⟨h25,h⟩|⟨h25,h⟩:=av h
 ·refine aY 115 h25 (br 5 3 ?_);obtain⟨h26,h⟩|⟨h26,h⟩:=av h
  ·exact aY 118 h26 (ae (aj 0 (BW hK h)))
  ·exact aY 118 h26 (ae (aj 0 (BW hK h)))
 ·exact aY 115 h25 (ae (aj 0 (BW hK h)))
theorem LR(hK:am K)(h:xj K n v1 v2 v3 v4 v6 v15 v16 v17 v18 v19 v20 v21 v23=some r):jR M w0 r [dY 16359,.b 2,dY 1023] (T3 v1 v2 v3 v4 v6 v15 v16 v17 v18 v19 v20 v21 v23):=by
 unfold xj at h;obtain⟨h23,h⟩|⟨h23,h⟩:=av h
 ·refine ak 98 h23 (ce 2 1 (ai 1 ?_));obtain⟨v24,h24,h⟩:=bind_some h;exact aK (Ec hK h24) (ae (aj 0 (Gw hK h)))
 ·exact ak 98 h23 (aj 2 (Gw hK h))
theorem Pt(hK:am K)(h:uK K n v1 v2 v3 v4 v6 v15 v16 v17 v18 v19=some r):jR M w0 r [dY 255] (YL v1 v2 v3 v4 v6 v15 v16 v17 v18 v19):=by
 unfold uK at h;refine ax 2 3 1 (bI [2,3,5,6,10,11,12,13,14,15,16,17,18] [5,6,10,11,16,17] [1054] ?_);obtain⟨v20,h18,h⟩:=bind_some h;obtain⟨v21,h19,h⟩:=bind_some h;refine co 2 (nu 81 [.ptr 6 0,.ptr 6 0,iI v2.Margin.a0,.agg (db v20),.ptr 6 0,.ptr 6 2,iI v2.Margin.a2,.agg (db v21),.ptr 11 61,.ptr 11 63]) [] [] [cw Tryz.prog 259 Tryz.f79 (pn 510) 9,cw Tryz.prog 259 Tryz.f79 (pn 510) 11] (aF (vz 3) (aC (cM 0 1 84 (Ax hK h18)) (aF [.v 0 2,.v 0 2,.v 0 2] (aC (cM 0 1 88 (Ax hK h19)) (aF [.v 0 1] (aC (cG 0) (aF [.v 1 1] (aC (cG 1) cp)))))))) (gx 9 2 3 4 ?_);obtain⟨h20,h⟩|⟨h20,h⟩:=av h
 ·refine ak 91 h20 (ce 2 1 (ai 3 ?_));obtain⟨v22,h21,h⟩:=bind_some h;exact aK (tS hK h21) (ae (aj 0 (Gw hK h)))
 ·refine ak 91 h20 (ax 6 7 2 (ai 3 ?_));obtain⟨h22,h⟩|⟨h22,h⟩:=av h
  ·exact aY 101 h22 (ae (aj 0 (LR hK h)))
  ·exact aY 101 h22 (ae (aj 0 (LR hK h)))
theorem ZD(hK:am K)(hL1:IK M w0 r v1 v2 v3 v4 v5 v6 m1 L1)(h:Bk K n v1 v2 v3 v4 v5 v6 L1 v9 v10=some r):jR M w0 r (dY 32596::Xw M w0 r m1) (IP v1 v2 v3 v4 v5 v6 v9 v10):=by
 unfold Bk at h;refine ax 6 7 3 ?_;obtain⟨h11,h⟩|⟨h11,h⟩:=av h
 ·refine ak 39 h11 (cF 8 9 1 3 5 (ai 0 ?_));obtain⟨h12,h⟩:=aw h;refine ap (cc az aI h12 (dw) (cS)) (ae (ai 6 ?_));obtain⟨v11,h13,h⟩:=bind_some h;refine oy (hK.Aq h13) (ap (gV ay ([v11]:List ag) (new:=[aZ v11]) (by simp only[List.map_cons,List.map_nil,dP])) ?_);obtain⟨h14,h⟩:=aw h;exact ap (c6 50 50 55 67 ay (rfl) (fM) h14) (ae (aj 2 (bd (hL1 h))))
 ·refine ak 39 h11 (df (ks':=[dY 4075,dY 255]) 5 (ai 1 (eO 50 ?_)));obtain⟨v12,h15,h⟩:=bind_some h;exact d5 1054 (abm hK h15) (A7 (i:=0) rfl) (ae (aj 0 (Pt hK h)))
theorem abe(hK:am K)(m:Nat):IK M w0 r v1 v2 v3 v4 v5 v6 m (Ba K n v1 v2 v3 v4 v5 v6 m):=by
 induction m with
 | zero=>intro v9 v10 h;cases h
 | succ m ih=>intro v9 v10 h;have h:Bk K n v1 v2 v3 v4 v5 v6 (Ba K n v1 v2 v3 v4 v5 v6 m) v9 v10=some r:=h;exact aU (ZD hK ih h)
theorem Ps(hK:am K)(h:uq K n v1 v2 v3 v4 v5=some r):aQ Tryz.prog 79 [.agg (aI v1),.agg (b9 v2),.bool v3,.bool v4,.agg (dC v5)] (fun v s=>v=.agg (List.set (aZ ({ r with Kids:=[] }:ag)) 66 (.ref 1054))∧look 1054 s.r=some ⟨55,67,lm ay r.Kids⟩):=by
 refine bF (cat Tryz.f79 (pn 1)) Tryz.func79 Tryz.ntmps79 fun M w0=>(bx ⟨[(0,.agg (aI v1)),(1,.agg (b9 v2)),(2,.bool v3),(3,.bool v4),(4,.agg (dC v5))],[],[],[]⟩ ?_);unfold uq at h;refine ax 14 15 5 (ai 1 ?_);obtain⟨v6,h1,h⟩:=bind_some h;refine aK (LA hK h1) (ae (ax 61 31 9 ?_));obtain⟨h2,h⟩|⟨h2,h⟩:=av h
 ·exact ak 35 h2 (cm 20 21 11 5 (ai 1 (ap (bK az v6.1) (ae (ip 2 0 1 (bI [2,3,5,6,9,10,11,12,13,15,16,17,19,36,37,38] [5,6,9,10,11,16,17] [] (eJ 50 19 55 67 (aj 0 (bP (p:=pn 16298) n (abe hK n h))))))))))
 ·refine ak 35 h2 (ax 6 7 2 (ai 7 ?_));obtain⟨v13,h16,h⟩:=bind_some h;refine oy (hK.wH h16) (ae (ax 2 3 1 (ai 2 ?_)));obtain⟨v14,h17,h⟩:=bind_some h;exact d5 1075 (VT hK h17) (fQ 5) (ae (ai 2 (ap (bK ay v14) (ae (bI [2,3,5,6,10,11,12,13,14,15,16,17,18] [5,6,10,11,16,17] [1075] (Cq 1075 1054 (aj 0 (Pt hK h))))))))
end
noncomputable section
variable(M:Nat→Prop)(w0:aJ)(r:ag)(v1:ac)(v2:bO)(v3:c8)  
variable{M w0 r v1 v2 v3}{K:Kn}{n:Nat}
theorem ab2(hK:am K)(h:xl K n v1 v2 v3=some r):aQ Tryz.prog 64 [.agg (aI v1),.agg (b9 v2),.agg (dC v3)] (fun v s=>v=.agg (List.set (aZ ({ r with Kids:=[] }:ag)) 66 (.ref 1010))∧look 1010 s.r=some ⟨55,67,lm ay r.Kids⟩):=by
 refine bF (cat Tryz.f64 (pn 1)) Tryz.func64 Tryz.ntmps64 fun M w0=>(bx ⟨[(0,.agg (aI v1)),(1,.agg (b9 v2)),(2,.agg (dC v3))],[],[],[]⟩ ?_);unfold xl at h;refine ax 6 7 3 (ai 3 ?_);obtain⟨v4,h1,h⟩:=bind_some h;refine d5 1010 (Ps hK h1) (jB (i:=66) (by kernel_rfl)) (ae (aW 1 ?_));cases h;exact d9
end
noncomputable section
variable(M:Nat→Prop)(w0:aJ)(r:ag×Int)(v1:ac)(v2 v3:Int)(v4:c8)(v8:ag)(v11:Int)  
abbrev Yh(n:Nat):ao:=.c (cat Tryz.f37 (pn n))
abbrev XM:Cx:=⟨Tryz.prog,58,M,w0⟩
abbrev SF:=bodyPost Tryz.prog Tryz.f37 (bX M w0 (fun v s=>v=.tup [.agg (List.set (aZ ({ r.1 with Kids:=[] }:ag)) 66 (.ref 1034)),iI r.2]∧look 1034 s.r=some ⟨55,67,lm ay r.1.Kids⟩))
abbrev Q6(ks:List ao)(s:AS):=VE (XM M w0) (SF M w0 r) ks .normal s
def acB:AS:=⟨[(2,iI v3),(4,.ptr 4 0),(8,.ptr 8 0),(12,.ptr 12 0),(13,iI v11)],[(4,aI v1),(8,List.set (aZ bQ) 66 (.nils)),(12,List.set (aZ ({ v8 with Kids:=[] }:ag)) 66 (.ref 1034))],[(1034,⟨55,67,lm ay v8.Kids⟩)],[4,8,12,1034]⟩
variable{M w0 r v1 v2 v3 v4 v8 v11}{K:Kn}{n:Nat}
theorem PY(hK:am K)(h:vp K n v1 v3 v8 v11=some r):Q6 M w0 r [Yh 511] (acB v1 v3 v8 v11):=by
 unfold vp at h;refine ax 2 3 1 (bI [2,4,8,12,13] [4,8,12] [1034] (co 2 (nu 51 [iI v3,.ptr 4 2,.agg (aD v1.Style),.ptr 12 4,.ptr 12 8]) [] [] [cw Tryz.prog 58 Tryz.f37 (pn 1022) 4,cw Tryz.prog 58 Tryz.f37 (pn 1022) 6] (aF [.v 0 1,.v 0 2,.v 0 2,.v 0 1] (aC (cG 0) (aF [.v 1 1] (aC (cG 1) cp)))) (aW 3 ?_)));cases h;exact gz
theorem ab9(hK:am K)(h:oY K n v1 v2 v3 v4=some r):aQ Tryz.prog 37 [.agg (aI v1),iI v2,iI v3,.agg (dC v4)] (fun v s=>v=.tup [.agg (List.set (aZ ({ r.1 with Kids:=[] }:ag)) 66 (.ref 1034)),iI r.2]∧look 1034 s.r=some ⟨55,67,lm ay r.1.Kids⟩):=by
 refine bF (cat Tryz.f37 (pn 1)) Tryz.func37 Tryz.ntmps37 fun M w0=>(bx ⟨[(0,.agg (aI v1)),(1,iI v2),(2,iI v3),(3,.agg (dC v4))],[],[],[]⟩ ?_);unfold oY at h;refine ax 6 7 3 (ai 1 ?_);obtain⟨v5,h1,h⟩:=bind_some h;refine aK (ID hK h1) (ae (ax 6 7 3 (ai 3 ?_)));obtain⟨v6,h2,h⟩:=bind_some h;refine aK (sL hK h2) (ae (ax 2 3 1 (ai 2 ?_)));obtain⟨v7,h3,h⟩:=bind_some h;refine aK (ns hK h3) (ae (ax 2 3 1 (ai 3 ?_)));obtain⟨v8,h4,h⟩:=bind_some h;refine d5 1034 (ab2 hK h4) (jB (i:=66) (by kernel_rfl)) (ae (cm 12 13 7 4 (ai 3 ?_)));obtain⟨v9,h5,h⟩:=bind_some h;refine aK (yF hK h5) (ae (ce 3 2 ?_));obtain⟨h6,h⟩|⟨h6,h⟩:=av h
 ·refine ak 44 h6 (ce 2 1 (ai 3 ?_));obtain⟨v10,h7,h⟩:=bind_some h;exact aK (LC hK h7) (ae (aj 0 (PY hK h)))
 ·exact ak 44 h6 (aj 2 (PY hK h))
end
noncomputable section
variable(M:Nat→Prop)(w0:aJ)(r:Int)(v1:List Int)(v2 v3:Int)(m1:Nat)(L1:Int→Int→Option Int)
abbrev FS:Cx:=⟨Tryz.prog,17,M,w0⟩
abbrev F2:=bodyPost Tryz.prog Tryz.f38 (bX M w0 (fun v _=>v=iI r))
abbrev Zx(ks:List ao)(s:AS):=VE (FS M w0) (F2 M w0 r) ks .normal s
abbrev Of(n:Nat):ao:=.c (cat Tryz.f38 (pn n))
abbrev GO:List ao:=[.b 0,Of 15]
abbrev aal:List ao:=kl (FS M w0) (F2 M w0 r) GO (cat Tryz.f38 (pn 116)) m1::GO
def Oj:AS:=⟨[(3,iI v2),(6,.sl (lm (ab .i64) v1)),(7,iI (v1.length:Int)),(8,iI v3)],[],[],[]⟩
abbrev Mn:Prop:=∀{v2:Int} {v3:Int},L1 v2 v3=some r→LP (FS M w0) (F2 M w0 r) GO (cat Tryz.f38 (pn 116)) m1 (Oj v1 v2 v3)
variable{M w0 r v1 v2 v3 m1 L1}{K:Kn}{n:Nat}
theorem abX(hK:am K)(hL1:Mn M w0 r v1 m1 L1)(h:w4 K n v1 L1 v2 v3=some r):Zx M w0 r (Of 116::aal M w0 r m1) (Oj v1 v2 v3):=by
 unfold w4 at h;refine ax 6 7 3 ?_;obtain⟨h3,h⟩|⟨h3,h⟩:=av h
 ·refine ak 9 h3 (cF 8 9 1 3 5 (ai 0 ?_));obtain⟨h4,h⟩:=aw h;exact ap (cc (ab .i64) (ab .i64) h4 (fun _=>rfl) (fun _=>rfl)) (ae (aj 3 (bd (hL1 h))))
 ·refine ak 9 h3 (aW 8 ?_);cases h;exact bW
theorem aaW(hK:am K)(m:Nat):Mn M w0 r v1 m (pS K n v1 m):=by
 induction m with
 | zero=>intro v2 v3 h;cases h
 | succ m ih=>intro v2 v3 h;have h:w4 K n v1 (pS K n v1 m) v2 v3=some r:=h;exact aU (abX hK ih h)
theorem Bi(hK:am K)(h:kp K n v1=some r):aQ Tryz.prog 38 [.sl (lm (ab .i64) v1)] (fun v _=>v=iI r):=by
 refine bF (cat Tryz.f38 (pn 1)) Tryz.func38 Tryz.ntmps38 fun M w0=>(bx ⟨[(0,.sl (lm (ab .i64) v1))],[],[],[]⟩ ?_);unfold kp at h;exact cm 28 29 15 6 (ai 1 (ap (bK (ab .i64) v1) (ae (aj 1 (bP (p:=pn 58) n (aaW hK n h))))))
end
noncomputable section
variable(M:Nat→Prop)(w0:aJ)(r v1:List Int)  
variable{M w0 r v1}{K:Kn}{n:Nat}
theorem Tr(hK:am K)(h:yt K n v1=some r):aQ Tryz.prog 39 [.sl (lm (ab .i64) v1)] (fun v s=>v=.ref 5∧look 5 s.r=some ⟨3,1,lm (ab .i64) r⟩):=by
 refine bF (cat Tryz.f39 (pn 1)) Tryz.func39 Tryz.ntmps39 fun M w0=>(bx ⟨[(0,.sl (lm (ab .i64) v1))],[],[],[]⟩ ?_);unfold yt at h;refine cm 12 13 7 4 (ai 1 ?_);refine B7 (bC Tryz.f39 (pn 12) 1) (.eql) 64 64 (.tmp 3) (.const (.slice none 0 0)) 4 (lm (ab .i64) v1) (r:=bk Tryz.f39 (pn 12) 2) (e:=3) (by kernel_rfl) (by kernel_rfl) (by kernel_rfl) (by kernel_rfl) (by kernel_rfl) (by kernel_rfl) (by kernel_rfl) (by kernel_rfl) (fun hq=>?_) ?_
 ·have h:=xN (by simpa using hq) h;refine ae (aW 5 (eJ 5 2 3 1 ?_));cases h;exact d9
 ·have h:=xu h;refine ae (fu 2 3 3 (ai 0 (B6 64 5 (e:=3) (sz:=1) (br 2 1 ?_))));obtain⟨h2,h⟩:=aw h;refine ap (c6 7 5 3 1 (ab .i64) (rfl) (fun _=>rfl) h2) (ae (aW 1 ?_));cases h;exact d9
end
noncomputable section
variable(M:Nat→Prop)(w0:aJ)(r:Bool)(v1:ah)(v2:Int)(v3:Bool)  
abbrev RC(n:Nat):ao:=.c (cat Tryz.f65 (pn n))
abbrev Qz:Cx:=⟨Tryz.prog,17,M,w0⟩
abbrev q65:=bodyPost Tryz.prog Tryz.f65 (bX M w0 (fun v _=>v=.bool r))
abbrev TI(ks:List ao)(s:AS):=VE (Qz M w0) (q65 M w0 r) ks .normal s
def Qk:AS:=⟨[(3,.bool v3)],[],[],[]⟩
variable{M w0 r v1 v2 v3}{K:Kn}{n:Nat}
theorem LB(hK:am K)(h:xF K n v3=some r):TI M w0 r [RC 7] (Qk v3):=by
 unfold xF at h;refine aW 1 ?_;cases h;exact bW
theorem RQ(hK:am K)(h:uO K n v1 v2=some r):aQ Tryz.prog 65 [.agg (aA v1),.cptr ([iI v2])] (fun v _=>v=.bool r):=by
 refine bF (cat Tryz.f65 (pn 1)) Tryz.func65 Tryz.ntmps65 fun M w0=>(bx ⟨[(0,.agg (aA v1)),(1,.cptr ([iI v2]))],[],[],[]⟩ ?_);unfold uO at h;refine ax 6 7 3 (ai 5 ?_);obtain⟨h1,h⟩|⟨h1,h⟩:=av h
 ·exact aY 8 h1 (ae (aj 0 (LB hK h)))
 ·exact aY 8 h1 (ae (aj 0 (LB hK h)))
end
noncomputable section
variable(M:Nat→Prop)(w0:aJ)(r:List Int)(v1:List ah)(v2:List Int)(v3:Int)(v5:List Int)(v10:Int)(v11 v15:(List Int))(m1:Nat)(L1:Int→(List Int)→Option (List Int))
abbrev Fz:Cx:=⟨Tryz.prog,72,M,w0⟩
abbrev EI:=bodyPost Tryz.prog Tryz.f40 (bX M w0 (fun v s=>v=.ref 17∧look 17 s.r=some ⟨3,1,lm (ab .i64) r⟩))
abbrev KU(ks:List ao)(s:AS):=VE (Fz M w0) (EI M w0 r) ks .normal s
abbrev jZ(n:Nat):ao:=.c (cat Tryz.f40 (pn n))
abbrev BN:List ao:=[.b 0,jZ 63]
abbrev Bg:List ao:=kl (Fz M w0) (EI M w0 r) BN (cat Tryz.f40 (pn 500)) m1::BN
def UV:AS:=⟨[(0,.sl (lm aA v1)),(1,.sl (lm (ab .i64) v2)),(7,.ref 17),(23,.ref 1023),(24,iI (v5.length:Int)),(25,iI v10)],[],[(17,⟨3,1,lm (ab .i64) v15⟩),(1023,⟨3,1,lm (ab .i64) v5⟩)],[17,1023]⟩
def IA:AS:=⟨[(0,.sl (lm aA v1)),(1,.sl (lm (ab .i64) v2)),(7,.ref 17),(23,.ref 1023),(24,iI (v5.length:Int)),(25,iI v10)],[],[(17,⟨3,1,lm (ab .i64) v11⟩),(1023,⟨3,1,lm (ab .i64) v5⟩)],[17,1023]⟩
abbrev GN:Prop:=∀{v10:Int} {v11:(List Int)},L1 v10 v11=some r→LP (Fz M w0) (EI M w0 r) BN (cat Tryz.f40 (pn 500)) m1 (IA v1 v2 v5 v10 v11)
variable{M w0 r v1 v2 v3 v5 v10 v11 v15 m1 L1}{K:Kn}{n:Nat}
theorem OB(hK:am K)(hL1:GN M w0 r v1 v2 v5 m1 L1)(h:rC K n v1 v2 v5 v10 L1 v15=some r):KU M w0 r (jZ 4007::Bg M w0 r m1) (UV v1 v2 v5 v10 v15):=by
 unfold rC at h;exact aj 1 (bd (hL1 h))
theorem Tu(hK:am K)(hL1:GN M w0 r v1 v2 v5 m1 L1)(h:tU K n v1 v2 v5 L1 v10 v11=some r):KU M w0 r (jZ 500::Bg M w0 r m1) (IA v1 v2 v5 v10 v11):=by
 unfold tU at h;refine ax 6 7 3 ?_;obtain⟨h20,h⟩|⟨h20,h⟩:=av h
 ·refine ak 26 h20 (cF 8 9 1 3 5 (ai 0 ?_));obtain⟨h21,h⟩:=aw h;refine ap (bZ 1023 1 (ab .i64) h21) (ap (bE 3 0 (ab .i64) (ab .i64) (aR h21).2 (fun _=>rfl)) (ae (ax 2 3 1 (bI [0,1,7,10,23,24,25] [] [17,1023] ?_))));obtain⟨h22,h⟩:=aw h;obtain⟨h23,h⟩:=aw h;obtain⟨v12,h24,h⟩:=bind_some h;refine co 2 (nu 29 [.sl (lm aA v1),iI (gD v5 v10),.cptr (aA (gD v1 ((gD v5 v10)))),.agg (aA (gD v1 ((gD v5 v10)))),.sl (lm (ab .i64) v2),iI (gD v5 v10),.cptr ([iI (gD v2 ((gD v5 v10)))]),iI (gD v2 ((gD v5 v10))),iI v12]++nu 11 [.ptr 11 0]) [(11,aA wR)] [] [cw Tryz.prog 72 Tryz.f40 (pn 32050) 10,cw Tryz.prog 72 Tryz.f40 (pn 32050) 11] (aF (vz 2) (bt (cc aA aA h22 (gO) (fun _=>rfl)) (aF [.v 0 1,.v 0 2,.v 0 2] (aC (d4 (lo:=0) (k:=2) (cy ⟨(by kernel_rfl),(cE (cc (ab .i64) (ab .i64) h23 (fun _=>rfl) (fun _=>rfl)) (by kernel_rfl))⟩ (cy ⟨(by kernel_rfl),(cE (cc (ab .i64) (ab .i64) h23 (fun _=>rfl) (fun _=>rfl)) (by kernel_rfl))⟩ d8))) (aF [.v 0 2] (aC (cM 0 1 37 (mo hK h24)) (aC (Ak 0 1 67 11 (aA wR)) (aC (cG 0) (aC (cG 1) cp))))))))) ?_
  obtain⟨v13,h25,h⟩:=cf h;refine bq (ks':=jZ 64102::jZ 64103 :: .b 1::jZ 4007::Bg M w0 r m1) 1 ⟨[(0,.sl (lm aA v1)),(1,.sl (lm (ab .i64) v2)),(7,.ref 17),(11,.ptr 11 0),(12,iI v12),(23,.ref 1023),(24,iI (v5.length:Int)),(25,iI v10)],[(11,aA v13)],[(17,⟨3,1,lm (ab .i64) v11⟩),(1023,⟨3,1,lm (ab .i64) v5⟩)],[11,17,1023]⟩ ?_ (by subst h25;kernel_rfl);refine ai 8 ?_;obtain⟨h26,h⟩:=aw h;refine ap (za (ab .i64) v11 v13.Row (aa (v13.Row+v13.Rows)) 64 (.tmp 38) (some (.tmp 40)) (some (.tmp 45)) 46 (id:=17) (e:=3) (sz:=1) (et:=3) (by kernel_rfl) (by kernel_rfl) (by kernel_rfl) (by kernel_rfl) (by kernel_rfl) (by kernel_rfl) (by kernel_rfl) (fun k hk=>by subst hk;kernel_rfl) h26) (ae (ax 5 3 3 ?_));obtain⟨h27,h⟩|⟨h27,h⟩:=av h
  ·refine ak 49 h27 (ax 4 5 2 (ai 2 ?_));obtain⟨h28,h⟩:=aw h;refine ap (lW 17 1 (off:=(v13.Row).toNat) h28) ?_;obtain⟨h29,h⟩:=aw h;refine ap (bE 3 0 (ab .i64) (ab .i64) (of_decide_eq_true h29) (fun _=>rfl)) (br 6 2 ?_);obtain⟨h30,h⟩:=aw h;exact ap (lW 17 1 (off:=(v13.Row).toNat) h30) (ap (du 17 3 1 0 (ab .i64) (ab .i64) (max (List.getD v11 ((v13.Row).toNat+(0:Int).toNat) default) v12) (of_decide_eq_true h29) (fun _=>rfl)) (ae (aj 3 (OB hK hL1 h))))
  ·refine ak 49 h27 (df (ks':=jZ 128207 :: .b 1::jZ 4007::Bg M w0 r m1) 2 (bI [0,1,7,11,12,13,23,24,25] [11] [17,1023] ?_));obtain⟨h31,h⟩:=aw h;obtain⟨h32,h⟩:=aw h;obtain⟨v14,h33,h⟩:=bind_some h;obtain⟨h34,h⟩:=aw h;obtain⟨h35,h⟩:=aw h;exact co 1 (nu 57 [.sref 17 1 ((v13.Row).toNat) (((aa (v13.Row+v13.Rows))).toNat-(v13.Row).toNat),.ptr 11 2,iI v13.Rows,iI (aa (v13.Rows-1)),.eptr 17 1 ((v13.Row).toNat+((aa (v13.Rows-1))).toNat) 0,iI (List.getD v11 ((v13.Row).toNat+((aa (v13.Rows-1))).toNat) default),iI v12,.sref 17 1 ((v13.Row).toNat) (((aa (v13.Row+v13.Rows))).toNat-(v13.Row).toNat),iI v14,iI (aa (v12-v14)),iI (max (aa (v12-v14)) 0),iI (aa ((List.getD v11 ((v13.Row).toNat+((aa (v13.Rows-1))).toNat) default)+(max (aa (v12-v14)) 0))),.eptr 17 1 ((v13.Row).toNat+((aa (v13.Rows-1))).toNat) 0]) [] [] [cD 17 ⟨3,1,lm (ab .i64) (List.set v11 ((v13.Row).toNat+((aa (v13.Rows-1))).toNat) (aa ((List.getD v11 ((v13.Row).toNat+((aa (v13.Rows-1))).toNat) default)+(max (aa (v12-v14)) 0))))⟩] (aF (vz 4) (bt (lW 17 1 (off:=(v13.Row).toNat) h31) (bt (bE 3 0 (ab .i64) (ab .i64) (of_decide_eq_true h32) (fun _=>rfl)) (aF (vz 2) (aC (Rx 0 65 (Bi hK h33) ((by kernel_rfl:je _ _=some (38,[.sl (List.take (((aa (v13.Row+v13.Rows))).toNat-(v13.Row).toNat) (List.drop ((v13.Row).toNat) (lm (ab .i64) v11)))],[.sref 17 1 ((v13.Row).toNat) (((aa (v13.Row+v13.Rows))).toNat-(v13.Row).toNat)])).trans (by simp only[aaT]:some (38,([.sl (List.take (((aa (v13.Row+v13.Rows))).toNat-(v13.Row).toNat) (List.drop ((v13.Row).toNat) (lm (ab .i64) v11)))]:List AV),([.sref 17 1 ((v13.Row).toNat) (((aa (v13.Row+v13.Rows))).toNat-(v13.Row).toNat)]:List AV))=some (38,[.sl (lm (ab .i64) (List.take (((aa (v13.Row+v13.Rows))).toNat-(v13.Row).toNat) (List.drop ((v13.Row).toNat) v11)))],[.sref 17 1 ((v13.Row).toNat) (((aa (v13.Row+v13.Rows))).toNat-(v13.Row).toNat)]))) (vF (q:=[(((v13.Row).toNat)+(((aa (v13.Row+v13.Rows))).toNat-(v13.Row).toNat),(lm (ab .i64) v11).length)]) (by kernel_rfl) (And.intro (SP (ab .i64) (L:=v11) (off:=(v13.Row).toNat) (m:=(((aa (v13.Row+v13.Rows))).toNat-(v13.Row).toNat)) h34) trivial))) (aF (vz 3) (bt (lW 17 1 (off:=(v13.Row).toNat) h35) (aC (c7 (m:=0) (du 17 3 1 0 (ab .i64) (ab .i64) (aa ((List.getD v11 ((v13.Row).toNat+((aa (v13.Rows-1))).toNat) default)+(max (aa (v12-v14)) 0))) (of_decide_eq_true h32) (fun _=>rfl))) cp)))))))) (aj 1 (OB hK hL1 h))
 ·refine ak 26 h20 (aW 8 ?_);cases h;exact d9
theorem YT(hK:am K)(m:Nat):GN M w0 r v1 v2 v5 m (qA K n v1 v2 v5 m):=by
 induction m with
 | zero=>intro v10 v11 h;cases h
 | succ m ih=>intro v10 v11 h;have h:tU K n v1 v2 v5 (qA K n v1 v2 v5 m) v10 v11=some r:=h;exact aU (Tu hK ih h)
theorem Vo(hK:am K)(h:vy K n v1 v2 v3=some r):aQ Tryz.prog 40 [.sl (lm aA v1),.sl (lm (ab .i64) v2),iI v3] (fun v s=>v=.ref 17∧look 17 s.r=some ⟨3,1,lm (ab .i64) r⟩):=by
 refine bF (cat Tryz.f40 (pn 1)) Tryz.func40 Tryz.ntmps40 fun M w0=>(bx ⟨[(0,.sl (lm aA v1)),(1,.sl (lm (ab .i64) v2)),(2,iI v3)],[],[],[]⟩ ?_);unfold vy at h;refine ax 14 15 5 (ai 1 ?_);obtain⟨h1,h⟩:=aw h;refine ii (ab .i64) (0:Int) 64 (.tmp 16) (.tmp 16) 17 (e:=3) (sz:=1) (zc:=[iI 0]) (kd:=.i64) (kd':=.i64) h1 (ae ?_);obtain⟨v4,h2,h⟩:=cf h;refine bq (ks':=[jZ 30,jZ 31]) 1 ⟨[(0,.sl (lm aA v1)),(1,.sl (lm (ab .i64) v2)),(5,.ptr 5 0),(7,.ref 17)],[(5,[iI (max v3 0)])],[(17,⟨3,1,lm (ab .i64) v4⟩)],[5,17]⟩ ?_ (by subst h2;kernel_rfl);refine ai 0 (uX 5 5 ([iI (max v3 0)]) (Bn 65 #[(.tmp 5)] [.cptr ([iI (max v3 0)])] (ae (cm 4 5 3 2 (ai 2 (ap (bK (ab .i64) v2) (br 4 1 ?_)))))));obtain⟨v5,h3,h⟩:=bind_some h;exact d5 1023 (My hK h3) (fQ 50) (ap (bK (ab .i64) v5) (ae (aj 1 (bP (p:=pn 250) n (YT hK n h)))))
end
noncomputable section
variable(M:Nat→Prop)(w0:aJ)(r:bO)(v1:aE)(v2 v3:Int)(v4:bO)(v7 v8 v9:Int)(v10 v11:(Int×Bool))(v12:Bool)(v13:V4 Int)  
abbrev y9(n:Nat):ao:=.c (cat Tryz.f41 (pn n))
abbrev V7:Cx:=⟨Tryz.prog,89,M,w0⟩
abbrev Y8:=bodyPost Tryz.prog Tryz.f41 (bX M w0 (fun v _=>v=.agg (b9 r)))
abbrev C9(ks:List ao)(s:AS):=VE (V7 M w0) (Y8 M w0 r) ks .normal s
def Ux:AS:=⟨[(4,.ptr 4 0),(5,.ptr 5 0)],[(4,b9 gv),(5,b9 ({ v4 with Margin:=v13,Content:=v8 }:bO))],[],[4,5]⟩
def Wj:AS:=⟨[(4,.ptr 4 0),(5,.ptr 5 0),(8,iI (aa (v3-v9))),(10,.bool v10.2),(12,.bool v11.2),(59,.bool v12)],[(4,b9 gv),(5,b9 ({ v4 with Content:=v8 }:bO))],[],[4,5]⟩
def Wx:AS:=⟨[(1,iI v3),(2,.ptr 2 0),(4,.ptr 4 0),(5,.ptr 5 0),(6,iI v7)],[(2,aD v1),(4,b9 gv),(5,b9 v4)],[],[2,4,5]⟩
variable{M w0 r v1 v2 v3 v4 v7 v8 v9 v10 v11 v12 v13}{K:Kn}{n:Nat}
theorem z5(hK:am K)(h:oo K n v4 v8 v13=some r):C9 M w0 r [.b 0,y9 4095] (Ux v4 v8 v13):=by
 unfold oo at h;refine aW 4 ?_;cases h;exact bW
theorem Pe(hK:am K)(h:u0 K n v3 v4 v8 v9 v10 v11 v12=some r):C9 M w0 r [y9 16377,.b 0,y9 4095] (Wj v3 v4 v8 v9 v10 v11 v12):=by
 unfold u0 at h;obtain⟨h12,h⟩|⟨h12,h⟩:=av h
 ·exact ak 59 h12 (aj 4 (z5 hK h))
 ·refine ak 59 h12 (ce 7 3 ?_);obtain⟨h13,h⟩|⟨h13,h⟩:=av h
  ·exact ak 76 h13 (aj 2 (z5 hK h))
  ·refine ak 76 h13 (ce 7 3 ?_);obtain⟨h14,h⟩|⟨h14,h⟩:=av h
   ·exact ak 82 h14 (aj 2 (z5 hK h))
   ·exact ak 82 h14 (aj 2 (z5 hK h))
theorem Ln(hK:am K)(h:qq K n v1 v3 v4 v7=some r):C9 M w0 r [y9 63] (Wx v1 v3 v4 v7):=by
 unfold qq at h;refine ax 2 3 1 (ai 3 ?_);obtain⟨v8,h6,h⟩:=bind_some h;refine aK (tx hK h6) (ae (ax 2 3 1 (ai 2 ?_)));obtain⟨v9,h7,h⟩:=bind_some h;refine aK (ns hK h7) (ae (ax 5 3 3 ?_));obtain⟨h8,h⟩|⟨h8,h⟩:=av h
 ·refine ak 41 h8 (aW 5 ?_);cases h;exact bW
 ·refine ak 41 h8 (fu 2 3 3 (ai 4 ?_));obtain⟨v10,h9,h⟩:=bind_some h;refine aK (fS hK h9) (ae (ax 2 3 1 (ai 4 ?_)));obtain⟨v11,h10,h⟩:=bind_some h;refine aK (fS hK h10) (ae (dK 8 9 0 3 3 (ai 3 ?_)));obtain⟨h11,h⟩|⟨h11,h⟩:=av h
  ·exact aY 62 h11 (ae (aj 0 (Pe hK h)))
  ·exact aY 62 h11 (ae (aj 0 (Pe hK h)))
theorem MK(hK:am K)(h:pf K n v1 v2=some r):aQ Tryz.prog 41 [.agg (aD v1),iI v2] (fun v _=>v=.agg (b9 r)):=by
 refine bF (cat Tryz.f41 (pn 1)) Tryz.func41 Tryz.ntmps41 fun M w0=>(bx ⟨[(0,.agg (aD v1)),(1,iI v2)],[],[],[]⟩ ?_);unfold pf at h;refine ax 6 7 3 (ai 1 ?_);obtain⟨v3,h1,h⟩:=bind_some h;refine aK (jw hK h1) (ae (ax 2 3 1 (ai 2 ?_)));obtain⟨v4,h2,h⟩:=bind_some h;refine aK (sL hK h2) (ae (ax 2 3 1 (ai 3 ?_)));obtain⟨v5,h3,h⟩:=bind_some h;refine aK (fS hK h3) (ae (ax 5 3 3 ?_));obtain⟨h4,h⟩|⟨h4,h⟩:=av h
 ·refine ak 26 h4 (ce 2 1 (ai 2 ?_));obtain⟨v6,h5,h⟩:=bind_some h;exact aK (ns hK h5) (ae (aj 0 (Ln hK h)))
 ·exact ak 26 h4 (aj 2 (Ln hK h))
end
end Go.Proofs.YtolhpahjgddjkaaGreat

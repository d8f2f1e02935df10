/- The runs of the functions that RelayoutFresh reaches do what their plain forms say, part 2. Made by a program. -/
import Derived.Test.YtocgkfoifehcbaaGreatRfGk
import Derived.Test.YtocgkfoifehcbaaGreatRfP1
namespace Go.Proofs.YtocgkfoifehcbaaGreat
open Go.RowKit
set_option maxRecDepth 20000
set_option linter.all false
set_option linter.unusedVariables false
set_option linter.unusedSimpArgs false
noncomputable section
variable[GS](M:Nat→Prop)(w0:aE)(r:Int×Int)(v1:List aa)(v2:aJ)(v3:bF)(v4:(List au)×(List Int))(v5:(List au)×Int×(List Int))(v9 v10 v11 v13 v19 v20 v22:Int)(v23:Bool)(v25:Int)(m1 m2 m3:Nat)(L1 L2:Int→Int→Option (Int×Int))(L3:Int→Option (Int×Int))
abbrev lZ:Cx:=⟨Tryz.prog,74,M,w0⟩
abbrev mU:=bodyPost Tryz.prog Tryz.f55 (bA M w0 (fun v _=>v=.tup [iI r.1,iI r.2]))
abbrev n8(ks:List aq)(s:AS):=VE (lZ M w0) (mU M w0 r) ks .normal s
abbrev gj(n:Nat):aq:=.c (cat Tryz.f55 (pn n))
abbrev yo:List aq:=[.b 2,gj 255]
abbrev zJ:List aq:=kl (lZ M w0) (mU M w0 r) yo (cat Tryz.f55 (pn 2036)) m2::yo
abbrev Ai:List aq:=[.b 0,gj 127]
abbrev AA:List aq:=kl (lZ M w0) (mU M w0 r) Ai (cat Tryz.f55 (pn 1012)) m1::Ai
abbrev z6:List aq:=.b 4::gj 32587 :: .b 3::zJ M w0 r m2
abbrev Gc:List aq:=kl (lZ M w0) (mU M w0 r) (z6 M w0 r m2) (cat Tryz.f55 (pn 130344)) m3::(z6 M w0 r m2)
def Q7:AS:=⟨[(6,iI v13),(7,iI 0),(9,.sl (lm aI v4.1)),(11,.sl (lm aI v5.1)),(13,iI v11)],[],[],[]⟩
def Oq:AS:=⟨[(6,iI v9),(7,iI v25),(11,.sl (lm aI v5.1)),(16,iI v22)],[],[],[]⟩
def Q8:AS:=⟨[(6,iI v9),(7,iI v19),(11,.sl (lm aI v5.1)),(15,iI v20),(16,iI v22),(59,.bool v23)],[],[],[]⟩
def JX:AS:=⟨[(6,iI v9),(7,iI v19),(11,.sl (lm aI v5.1)),(15,iI v20),(16,iI v22)],[],[],[]⟩
def Ex:AS:=⟨[(6,iI v9),(7,iI v19),(11,.sl (lm aI v5.1)),(15,iI v20)],[],[],[]⟩
def Fi:AS:=⟨[(6,iI v9),(7,iI 0),(9,.sl (lm aI v4.1)),(11,.sl (lm aI v5.1)),(12,iI v10)],[],[],[]⟩
abbrev zQ:Prop:=∀{v9:Int} {v10:Int},L1 v9 v10=some r→LP (lZ M w0) (mU M w0 r) Ai (cat Tryz.f55 (pn 1012)) m1 (Fi v4 v5 v9 v10)
abbrev pg:Prop:=∀{v19:Int} {v20:Int},L2 v19 v20=some r→LP (lZ M w0) (mU M w0 r) yo (cat Tryz.f55 (pn 2036)) m2 (Ex v5 v9 v19 v20)
abbrev ye:Prop:=∀{v22:Int},L3 v22=some r→LP (lZ M w0) (mU M w0 r) (z6 M w0 r m2) (cat Tryz.f55 (pn 130344)) m3 (JX v5 v9 v19 v20 v22)
variable{M w0 r v1 v2 v3 v4 v5 v9 v10 v11 v13 v19 v20 v22 v23 v25 m1 m2 m3 L1 L2 L3}{K:Kn}{n:Nat}
theorem CX(hK:ao K)(hL1:zQ M w0 r v4 v5 m1 L1)(h:uD K n v4 v5 v11 L1 v13=some r):n8 M w0 r (gj 16203 :: .b 1::AA M w0 r m1) (Q7 v4 v5 v11 v13):=by
 unfold uD at h;exact ae 2 (bw (hL1 h))
theorem Ed(hK:ao K)(hL2:pg M w0 r v5 v9 m2 L2)(h:xk K n v5 v9 v22 L2 v25=some r):n8 M w0 r (gj 65175 :: .b 3::zJ M w0 r m2) (Oq v5 v9 v22 v25):=by
 unfold xk at h;exact ae 2 (bw (hL2 h))
theorem Jc(hK:ao K)(hL2:pg M w0 r v5 v9 m2 L2)(hL3:ye M w0 r v5 v9 v19 v20 m2 m3 L3)(h:vw K n v5 v9 v19 v20 v22 L2 L3 v23=some r):n8 M w0 r (gj 521377::gj 260689::Gc M w0 r m2 m3) (Q8 v5 v9 v19 v20 v22 v23):=by
 unfold vw at h;obtain⟨h29,h⟩|⟨h29,h⟩:=ak h
 ·exact ah 59 h29 (ae 5 (bw (hL3 h)))
 ·refine ah 59 h29 (EQ 4 5 3 7 (aj 3 ?_));obtain⟨h30,h⟩:=aF h;refine az (gU aI v5.1 v20 v22 159 (.tmp 62) (some (.tmp 63)) (some (.tmp 64)) 65 (e:=165) (sz:=62) (by kernel_rfl) (by kernel_rfl) (by kernel_rfl) (by kernel_rfl) (by kernel_rfl) (by kernel_rfl) (fk) (fun k hk=>by subst hk;kernel_rfl) h30) ?_;obtain⟨v24,h31,h⟩:=bind_some h;refine aU (wP hK h31) (ac (bh 3 2 ?_));obtain⟨h32,h⟩|⟨h32,h⟩:=ak h
  ·exact ah 69 h32 (ae 2 (Ed hK hL2 h))
  ·exact ah 69 h32 (ae 2 (Ed hK hL2 h))
theorem MX(hK:ao K)(hL2:pg M w0 r v5 v9 m2 L2)(hL3:ye M w0 r v5 v9 v19 v20 m2 m3 L3)(h:ww K n v5 v9 v19 v20 L2 L3 v22=some r):n8 M w0 r (gj 130344::Gc M w0 r m2 m3) (JX v5 v9 v19 v20 v22):=by
 unfold ww at h;refine bO 4 5 3 2 (aj 2 (az (bv aI v5.1) (aM 5 2 ?_)));obtain⟨h27,h⟩|⟨h27,h⟩:=ak h
 ·refine aB 51 h27 (aM 8 3 ?_);obtain⟨h28,h⟩:=aF h;exact az (bi aI aI h28 (fk) ((fun _=>rfl))) (ac (ae 0 (Jc hK hL2 hL3 h)))
 ·exact aB 51 h27 (ac (ae 0 (Jc hK hL2 hL3 h)))
theorem Lm(hK:ao K)(hL2:pg M w0 r v5 v9 m2 L2)(m:Nat):ye M w0 r v5 v9 v19 v20 m2 m (vF K n v5 v9 v19 v20 L2 m):=by
 induction m with
 | zero=>intro v22 h;cases h
 | succ m ih=>intro v22 h;have h:ww K n v5 v9 v19 v20 L2 (vF K n v5 v9 v19 v20 L2 m) v22=some r:=h;exact bB (MX hK hL2 ih h)
theorem PH(hK:ao K)(hL2:pg M w0 r v5 v9 m2 L2)(h:vB K n v5 v9 L2 v19 v20=some r):n8 M w0 r (gj 2036::zJ M w0 r m2) (Ex v5 v9 v19 v20):=by
 unfold vB at h;refine bO 4 5 3 2 (aj 2 (az (bv aI v5.1) (ac ?_)));obtain⟨h23,h⟩|⟨h23,h⟩:=ak h
 ·exact ah 44 h23 (ae 7 (ci (p:=pn 65172) n (Lm hK hL2 n h)))
 ·refine ah 44 h23 (aL 8 ?_);cases h;exact gF
theorem Qx(hK:ao K)(m:Nat):pg M w0 r v5 v9 m (uz K n v5 v9 m):=by
 induction m with
 | zero=>intro v19 v20 h;cases h
 | succ m ih=>intro v19 v20 h;have h:vB K n v5 v9 (uz K n v5 v9 m) v19 v20=some r:=h;exact bB (PH hK ih h)
theorem Ph(hK:ao K)(hL1:zQ M w0 r v4 v5 m1 L1)(h:uB K n v4 v5 L1 v9 v10=some r):n8 M w0 r (gj 1012::AA M w0 r m1) (Fi v4 v5 v9 v10):=by
 unfold uB at h;refine bO 4 5 3 2 (aj 2 (az (bv aI v4.1) (ac ?_)));obtain⟨h8,h⟩|⟨h8,h⟩:=ak h
 ·refine ah 27 h8 (bK (ks':=gj 8100::gj 8101 :: .b 1::AA M w0 r m1) 4 (aj 2 ?_));obtain⟨v11,h9,h⟩:=bind_some h;refine aU (xy hK h9) (ac (bO 4 5 3 2 (aj 3 ?_)));obtain⟨h10,h⟩:=aF h;refine az (gU aI v4.1 v10 v11 159 (.tmp 31) (some (.tmp 32)) (some (.tmp 33)) 34 (e:=165) (sz:=62) (by kernel_rfl) (by kernel_rfl) (by kernel_rfl) (by kernel_rfl) (by kernel_rfl) (by kernel_rfl) (fk) (fun k hk=>by subst hk;kernel_rfl) h10) ?_;obtain⟨v12,h11,h⟩:=bind_some h;refine aU (wP hK h11) (ac (bh 3 2 ?_));obtain⟨h12,h⟩|⟨h12,h⟩:=ak h
  ·exact ah 38 h12 (ae 2 (CX hK hL1 h))
  ·exact ah 38 h12 (ae 2 (CX hK hL1 h))
 ·exact ah 27 h8 (ae 9 (ci (p:=pn 1018) n (Qx hK n h)))
theorem Oa(hK:ao K)(m:Nat):zQ M w0 r v4 v5 m (wB K n v4 v5 m):=by
 induction m with
 | zero=>intro v9 v10 h;cases h
 | succ m ih=>intro v9 v10 h;have h:uB K n v4 v5 (wB K n v4 v5 m) v9 v10=some r:=h;exact bB (Ph hK ih h)
theorem Vl(hK:ao K)(h:Be K n v1 v2 v3=some r):aS Tryz.prog 55 [.sl (lm aR v1),.agg (aV v2),.agg (bW v3)] (fun v _=>v=.tup [iI r.1,iI r.2]):=by
 refine bu (cat Tryz.f55 (pn 1)) Tryz.func55 Tryz.ntmps55 fun M w0=>(bc ⟨[(0,.sl (lm aR v1)),(1,.agg (aV v2)),(2,.agg (bW v3))],[],[],[]⟩ ?_);unfold Be at h;refine aC 14 15 5 (aj 1 (qA 5 5 (bW v3) (lC 113 #[(.tmp 5),(.tmp 8)] [.cptr (bW v3),.ptr 8 0] (wT 400008 8 0 3 1 ?_))));obtain⟨v4,h1,h⟩:=bind_some h;refine gu 400008 9 [(8,1)] (R2 hK h1) (ac (aC 6 7 3 (aj 1 (lC 114 #[(.tmp 10),(.tmp 8)] [.ptr 10 0,.ptr 8 0] ?_))));obtain⟨v5,h2,h⟩:=bind_some h;exact gu 400008 9 [(10,1),(8,2)] (Si hK h2) (ac (ae 4 (ci (p:=pn 506) n (Oa hK n h))))
end
noncomputable section
variable[GS](M:Nat→Prop)(w0:aE)(r:Int×Int)(v1:List aa)(v2:aJ)(v3:bF)  
variable{M w0 r v1 v2 v3}{K:Kn}{n:Nat}
theorem Pg(hK:ao K)(h:Ci K n v1 v2 v3=some r):aS Tryz.prog 54 [.sl (lm aR v1),.agg (aV v2),.cptr (bW v3)] (fun v _=>v=.tup [iI r.1,iI r.2]):=by
 refine bu (cat Tryz.f54 (pn 1)) Tryz.func54 Tryz.ntmps54 fun M w0=>(bc ⟨[(0,.sl (lm aR v1)),(1,.agg (aV v2)),(2,.cptr (bW v3))],[],[],[]⟩ ?_);unfold Ci at h;refine aC 6 7 3 (aj 3 ?_);obtain⟨v4,h1,h⟩:=bind_some h;refine aU (Vl hK h1) (ac (aL 1 ?_));cases h;exact gF
end
noncomputable section
variable[GS](M:Nat→Prop)(w0:aE)(r:bF)(v1 v2:Bool)  
variable{M w0 r v1 v2}{K:Kn}{n:Nat}
theorem G2(v1 v2:Bool):∀d:Nat,jq [(2,[dw 36 v1]),(3,[dw 37 v2]),(4,[.fno 43 [.ptr 2 0,.ptr 5 0,.ptr 3 0],.fno 48 [.ptr 5 0],.fno 52 [.ptr 5 0],.fno 54 [.ptr 5 0]]),(5,[.fno 43 [.ptr 2 0,.ptr 5 0,.ptr 3 0],.fno 48 [.ptr 5 0],.fno 52 [.ptr 5 0],.fno 54 [.ptr 5 0]])] 5 [.fno 43 [.ptr 2 0,.ptr 5 0,.ptr 3 0],.fno 48 [.ptr 5 0],.fno 52 [.ptr 5 0],.fno 54 [.ptr 5 0]] d=bW (dm d v1 v2)
 | 0=>rfl
 | d+1=>by
   show lm (stepT [(2,[dw 36 v1]),(3,[dw 37 v2]),(4,[.fno 43 [.ptr 2 0,.ptr 5 0,.ptr 3 0],.fno 48 [.ptr 5 0],.fno 52 [.ptr 5 0],.fno 54 [.ptr 5 0]]),(5,[.fno 43 [.ptr 2 0,.ptr 5 0,.ptr 3 0],.fno 48 [.ptr 5 0],.fno 52 [.ptr 5 0],.fno 54 [.ptr 5 0]])] 5 (jq [(2,[dw 36 v1]),(3,[dw 37 v2]),(4,[.fno 43 [.ptr 2 0,.ptr 5 0,.ptr 3 0],.fno 48 [.ptr 5 0],.fno 52 [.ptr 5 0],.fno 54 [.ptr 5 0]]),(5,[.fno 43 [.ptr 2 0,.ptr 5 0,.ptr 3 0],.fno 48 [.ptr 5 0],.fno 52 [.ptr 5 0],.fno 54 [.ptr 5 0]])] 5 [.fno 43 [.ptr 2 0,.ptr 5 0,.ptr 3 0],.fno 48 [.ptr 5 0],.fno 52 [.ptr 5 0],.fno 54 [.ptr 5 0]] d)) [.fno 43 [.ptr 2 0,.ptr 5 0,.ptr 3 0],.fno 48 [.ptr 5 0],.fno 52 [.ptr 5 0],.fno 54 [.ptr 5 0]]=_;rw[G2 v1 v2 d];rfl
theorem Q2(hK:ao K)(h:uc K n v1 v2=some r):aS Tryz.prog 18 [dw 36 v1,dw 37 v2] (fun v _=>v=.agg (bW r)):=by
 refine bu (cat Tryz.f18 (pn 1)) Tryz.func18 Tryz.ntmps18 fun M w0=>(bc ⟨[(0,dw 36 v1),(1,dw 37 v2)],[],[],[]⟩ ?_);unfold uc at h;refine aC 14 15 5 (aj 0 (lC 43 #[(.tmp 2),(.tmp 5),(.tmp 3)] [.ptr 2 0,.ptr 5 0,.ptr 3 0] (ac (aC 2 3 1 (aj 0 (lC 48 #[(.tmp 5)] [.ptr 5 0] (ac (aC 2 3 1 (aj 0 (lC 52 #[(.tmp 5)] [.ptr 5 0] (ac (aC 2 3 1 (aj 0 (lC 54 #[(.tmp 5)] [.ptr 5 0] (ac (aL 3 (bI [4] [2,3,4,5] [] (bc ⟨[(4,.ptr 4 0)],[(2,[dw 36 v1]),(3,[dw 37 v2]),(4,[.fno 43 [.ptr 2 0,.ptr 5 0,.ptr 3 0],.fno 48 [.ptr 5 0],.fno 52 [.ptr 5 0],.fno 54 [.ptr 5 0]]),(5,[.fno 43 [.ptr 2 0,.ptr 5 0,.ptr 3 0],.fno 48 [.ptr 5 0],.fno 52 [.ptr 5 0],.fno 54 [.ptr 5 0]])],[],[2,3,4,5]⟩ (Tp 4 4 5 n (Mj (s':=⟨[(4,.ptr 4 0)],[(4,bW (dm n v1 v2))],[],[4]⟩) (congrArg (fun t=>(⟨[(4,.ptr 4 0)],[(4,t)],[],[4]⟩:AS)) (G2 v1 v2 n)) ?_))))))))))))))))))));cases h;exact bj
end
noncomputable section
variable[GS](M:Nat→Prop)(w0:aE)(r:Bool)(v1 v2:aa)  
variable{M w0 r v1 v2}{K:Kn}{n:Nat}
theorem PO(hK:ao K)(h:qG K n v1 v2=some r):aS Tryz.prog 65 [.agg (aw v1),.cptr (aw v2)] (fun v _=>v=.bool r):=by
 refine bu (cat Tryz.f65 (pn 1)) Tryz.func65 Tryz.ntmps65 fun M w0=>(bc ⟨[(0,.agg (aw v1)),(1,.cptr (aw v2))],[],[],[]⟩ ?_);unfold qG at h;refine aC 6 7 3 (aj 2 ?_);obtain⟨v3,h1,h⟩:=bind_some h;refine aU (hK.w7 h1) (ac (aL 1 ?_));cases h;exact bj
end
noncomputable section
variable[GS](M:Nat→Prop)(w0:aE)(r:Bool)(v1 v2:aa)(v5:Bool)  
abbrev Qb(n:Nat):aq:=.c (cat Tryz.f28 (pn n))
abbrev Pt:Cx:=⟨Tryz.prog,14,M,w0⟩
abbrev Lg:=bodyPost Tryz.prog Tryz.f28 (bA M w0 (fun v _=>v=.bool r))
abbrev Pa(ks:List aq)(s:AS):=VE (Pt M w0) (Lg M w0 r) ks .normal s
def RT:AS:=⟨[(4,.bool v5)],[],[],[]⟩
variable{M w0 r v1 v2 v5}{K:Kn}{n:Nat}
theorem FK(hK:ao K)(h:qJ K n v5=some r):Pa M w0 r [Qb 7] (RT v5):=by
 unfold qJ at h;refine aL 1 ?_;cases h;exact bj
theorem Ih(hK:ao K)(h:lA K n v1 v2=some r):aS Tryz.prog 28 [.agg (aw v1),.agg (aw v2)] (fun v _=>v=.bool r):=by
 refine bu (cat Tryz.f28 (pn 1)) Tryz.func28 Tryz.ntmps28 fun M w0=>(bc ⟨[(0,.agg (aw v1)),(1,.agg (aw v2))],[],[],[]⟩ ?_);unfold lA at h;refine aC 6 7 3 (aj 2 ?_);obtain⟨v3,h1,h⟩:=bind_some h;refine aU (um hK h1) (aM 4 1 ?_);obtain⟨h2,h⟩|⟨h2,h⟩:=ak h
 ·exact aB 8 h2 (ac (ae 0 (FK hK h)))
 ·refine aB 8 h2 (aM 6 2 (qA 3 3 (aw v2) (yQ 65 #[(.tmp 3)] [.cptr (aw v2)] ?_)));obtain⟨v4,h3,h⟩:=bind_some h;exact aU (CJ hK h3) (ac (ae 0 (FK hK h)))
end
noncomputable section
variable[GS](M:Nat→Prop)(w0:aE)(r v1:ai)(v2:List ai)(v4:Int)(v5:List ai)(m1:Nat)(L1:Int→(List ai)→Option ai)
abbrev xm:Cx:=⟨Tryz.prog,26,M,w0⟩
abbrev yc:=bodyPost Tryz.prog Tryz.f73 (bA M w0 (fun v s=>v=.agg (List.set (aO ({ r with Kids:=[] }:ai)) 66 (.ref 1006))∧look 1006 s.r=some ⟨44,67,lm aY r.Kids⟩))
abbrev VM(ks:List aq)(s:AS):=VE (xm M w0) (yc M w0 r) ks .normal s
abbrev I3(n:Nat):aq:=.c (cat Tryz.f73 (pn n))
abbrev Bh:List aq:=[.b 0,I3 15]
abbrev PR:List aq:=kl (xm M w0) (yc M w0 r) Bh (cat Tryz.f73 (pn 116)) m1::Bh
def EU:AS:=⟨[(1,.ptr 1 0),(2,.ptr 2 0),(10,iI (v2.length:Int)),(11,iI v4)],[(1,List.set (aO ({ v1 with Kids:=[] }:ai)) 66 (.ref 1006)),(2,List.set (aO bG) 66 (.nils))],[(1006,⟨44,67,lm aY v5⟩)],[1,2,1006]⟩
abbrev Fs:Prop:=∀{v4:Int} {v5:(List ai)},L1 v4 v5=some r→LP (xm M w0) (yc M w0 r) Bh (cat Tryz.f73 (pn 116)) m1 (EU v1 v2 v4 v5)
variable{M w0 r v1 v2 v4 v5 m1 L1}{K:Kn}{n:Nat}
theorem Vq(hK:ao K)(hL1:Fs M w0 r v1 v2 m1 L1)(h:rh K n v1 v2 L1 v4 v5=some r):VM M w0 r (I3 116::PR M w0 r m1) (EU v1 v2 v4 v5):=by
 unfold rh at h;refine aC 6 7 3 ?_;obtain⟨h6,h⟩|⟨h6,h⟩:=ak h
 ·refine ah 12 h6 (CR 9 1 3 6 (bI [1,2,3,10,11] [1,2] [1006] ?_));obtain⟨h7,h⟩:=aF h;obtain⟨v6,h8,h⟩:=bind_some h;obtain⟨h9,h⟩:=aF h;exact bP 1 (nu 14 [.ptr 1 66,.ref 1006,iI v4,.ptr 1 66,.ref 1006,iI v4,.eptr 1006 67 (v4.toNat) 0,.agg (aO (gD v5 v4)),.agg (aO v6),.eptr 1006 67 (v4.toNat) 0]) [] [] [pO 1006 ⟨44,67,lm aY (List.set v5 v4.toNat v6)⟩] (ay (vz 6) (bC (ef 1006 67 aY (L:=v5) h7) (bC (cO 44 0 aY aO (cE h9).2 (er)) (ag (cD 0 1 22 (hK.sG h8)) (bC (ef 1006 67 aY (L:=v5) h9) (ag (eu (m:=0) (fz 1006 44 67 0 aY aO v6 (cE h9).2 (er))) bQ)))))) (ae 2 (bw (hL1 h)))
 ·refine ah 12 h6 (aL 8 ?_);cases h;exact eV
theorem KT(hK:ao K)(m:Nat):Fs M w0 r v1 v2 m (oU K n v1 v2 m):=by
 induction m with
 | zero=>intro v4 v5 h;cases h
 | succ m ih=>intro v4 v5 h;have h:rh K n v1 v2 (oU K n v1 v2 m) v4 v5=some r:=h;exact bB (Vq hK ih h)
theorem Gr(hK:ao K)(h:ov K n v1=some r):aS Tryz.prog 73 [.agg (aO v1)] (fun v s=>v=.agg (List.set (aO ({ r with Kids:=[] }:ai)) 66 (.ref 1006))∧look 1006 s.r=some ⟨44,67,lm aY r.Kids⟩):=by
 refine bu (cat Tryz.f73 (pn 1)) Tryz.func73 Tryz.ntmps73 fun M w0=>(bc ⟨[(0,.agg (aO v1))],[],[],[]⟩ ?_);unfold ov at h;refine aC 6 7 3 (aj 2 ?_);obtain⟨v2,h1,h⟩:=bind_some h;exact fJ 1006 (Ae hK h1) (fL 5) (ac (bO 4 5 3 2 (aj 2 (az (bv aY v2) (ac (ae 1 (ci (p:=pn 58) n (KT hK n h))))))))
end
noncomputable section
variable[GS](M:Nat→Prop)(w0:aE)(r v1:List Int)  
variable{M w0 r v1}{K:Kn}{n:Nat}
theorem Qg(hK:ao K)(h:rI K n v1=some r):aS Tryz.prog 95 [.sl (lm (ba .i64) v1)] (fun v s=>v=.ref 5∧look 5 s.r=some ⟨3,1,lm (ba .i64) r⟩):=by
 refine bu (cat Tryz.f95 (pn 1)) Tryz.func95 Tryz.ntmps95 fun M w0=>(bc ⟨[(0,.sl (lm (ba .i64) v1))],[],[],[]⟩ ?_);unfold rI at h;refine bO 12 13 7 4 (aj 1 ?_);refine GW (aQ Tryz.f95 (pn 12) 1) (.eql) 72 72 (.tmp 3) (.const (.slice none 0 0)) 4 (lm (ba .i64) v1) (r:=aK Tryz.f95 (pn 12) 2) (e:=3) (by kernel_rfl) (by kernel_rfl) (by kernel_rfl) (by kernel_rfl) (by kernel_rfl) (by kernel_rfl) (by kernel_rfl) (by kernel_rfl) (fun hq=>?_) ?_
 ·have h:=EJ (by simpa using hq) h;refine ac (aL 5 (fZ 5 2 3 1 ?_));cases h;exact eV
 ·have h:=HN h;refine ac (fb 2 3 3 (aj 0 (wI 72 5 (e:=3) (sz:=1) (aM 2 1 ?_))));obtain⟨h2,h⟩:=aF h;refine az (cv 7 5 3 1 (ba .i64) (rfl) ((fun _=>rfl)) h2) (ac (aL 1 ?_));cases h;exact eV
end
noncomputable section
variable[GS](M:Nat→Prop)(w0:aE)(r:Unit)(v1:fd)(v2:aa)(v3:List Int)(v4:Bool)(v6:List Int)(v10:Int)(v11:Bool)(m1:Nat)(L1:Int→Option Unit)
abbrev zm:Cx:=⟨Tryz.prog,53,M,w0⟩
abbrev zz:=bodyPost Tryz.prog Tryz.f76 (bA M w0 (fun v _=>v=zF r))
abbrev vg(ks:List aq)(s:AS):=VE (zm M w0) (zz M w0 r) ks .normal s
abbrev jF(n:Nat):aq:=.c (cat Tryz.f76 (pn n))
abbrev xz:List aq:=[.b 0]
abbrev xq:List aq:=kl (zm M w0) (zz M w0 r) xz (cat Tryz.f76 (pn 60)) m1::xz
def SD:AS:=⟨[(2,.sl (lm (ba .i64) v6)),(3,.ptr 3 0),(7,.ptr 7 0),(24,.sl (lm aR v2.Kids)),(25,iI (v2.Kids.length:Int)),(26,iI v10),(43,.bool v11)],[(3,mQ v1),(7,aw (gD v2.Kids v10))],[],[3,7]⟩
def JU:AS:=⟨[(2,.sl (lm (ba .i64) v6)),(3,.ptr 3 0),(24,.sl (lm aR v2.Kids)),(25,iI (v2.Kids.length:Int)),(26,iI v10)],[(3,mQ v1)],[],[3]⟩
def K1:AS:=⟨[(2,.sl (lm (ba .i64) v6)),(3,.ptr 3 0),(4,.ptr 4 0)],[(3,mQ v1),(4,aw v2)],[],[3,4]⟩
def P8:AS:=⟨[(2,.sl (lm (ba .i64) v3)),(3,.ptr 3 0),(4,.ptr 4 0),(16,.bool v4)],[(3,mQ v1),(4,aw v2)],[],[3,4]⟩
abbrev zT:Prop:=∀{v10:Int},L1 v10=some r→LP (zm M w0) (zz M w0 r) xz (cat Tryz.f76 (pn 60)) m1 (JU v1 v2 v6 v10)
variable{M w0 r v1 v2 v3 v4 v6 v10 v11 m1 L1}{K:Kn}{n:Nat}
theorem BP(hK:ao K)(hL1:zT M w0 r v1 v2 v6 m1 L1)(h:mo K n v1 v2 v6 v10 L1 v11=some r):vg M w0 r (jF 7781::jF 3891 :: .b 1::jF 487::xq M w0 r m1) (SD v1 v2 v6 v10 v11):=by
 unfold mo at h;obtain⟨h16,h⟩|⟨h16,h⟩:=ak h
 ·refine ah 43 h16 ?_;cases h
 ·refine ah 43 h16 (bK (ks':=jF 3891 :: .b 1::jF 487::xq M w0 r m1) 2 (aj 3 ?_));obtain⟨v12,h17,h⟩:=bind_some h;exact aU (hK.ny h17) (ac (ae 2 (bw (hL1 h))))
theorem OM(hK:ao K)(hL1:zT M w0 r v1 v2 v6 m1 L1)(h:tB K n v1 v2 v6 L1 v10=some r):vg M w0 r (jF 60::xq M w0 r m1) (JU v1 v2 v6 v10):=by
 unfold tB at h;refine aC 6 7 3 ?_;obtain⟨h12,h⟩|⟨h12,h⟩:=ak h
 ·refine ah 27 h12 (c8 8 9 1 3 5 (aj 0 ?_));obtain⟨h13,h⟩:=aF h;refine az (bi aR aw h13 (d4) (dq)) (ac (bO 4 5 3 2 (aj 4 ?_)));obtain⟨h14,h⟩|⟨h14,h⟩:=ak h
  ·refine aB 33 h14 (aM 9 5 ?_);obtain⟨h15,h⟩|⟨h15,h⟩:=ak h
   ·exact aB 38 h15 (ac (ae 0 (BP hK hL1 h)))
   ·exact aB 38 h15 (ac (ae 0 (BP hK hL1 h)))
  ·exact aB 33 h14 (ac (ae 0 (BP hK hL1 h)))
 ·refine ah 27 h12 (bK (ks':=[]) 5 (B5 ?_));cases h;exact gF
theorem Mi(hK:ao K)(m:Nat):zT M w0 r v1 v2 v6 m (mT K n v1 v2 v6 m):=by
 induction m with
 | zero=>intro v10 h;cases h
 | succ m ih=>intro v10 h;have h:tB K n v1 v2 v6 (mT K n v1 v2 v6 m) v10=some r:=h;exact bB (OM hK ih h)
theorem Cy(hK:ao K)(h:mY K n v1 v2 v6=some r):vg M w0 r [jF 7] (K1 v1 v2 v6):=by
 unfold mY at h;exact aC 2 3 1 (aj 2 (az (bv aR v2.Kids) (ac (ae 1 (ci (p:=pn 30) n (Mi hK n h))))))
theorem FN(hK:ao K)(h:oa K n v1 v2 v3 v4=some r):vg M w0 r [jF 13,jF 7] (P8 v1 v2 v3 v4):=by
 unfold oa at h;obtain⟨h2,h⟩|⟨h2,h⟩:=ak h
 ·refine ah 16 h2 (bh 2 1 (bI [2,3,4] [3,4] [] ?_));obtain⟨v5,h3,h⟩:=bind_some h;obtain⟨h4,h⟩:=aF h;exact bP 2 (nu 17 [.sl (lm (ba .i64) v3),.ref 18,.ptr 4 1,iI v2.Node,.sl (lm (ba .i64) [v2.Node])]) [] [(18,⟨3,1,lm (ba .i64) v5⟩)] [fi 22 18 ⟨3,1,lm (ba .i64) (v5++[v2.Node])⟩,bZ Tryz.prog 53 Tryz.f76 (pn 26) 6] (ay [.v 0 2] (ag (yR 0 1 18 (Qg hK h3) (fL 5)) (ay [.v 0 2,.v 0 2,.v 0 1] (ag (eu (m:=0) (cv 22 18 3 1 (ba .i64) (rfl) ((fun _=>rfl)) h4)) (ag (bX 1) bQ))))) (gf 18 (ae 0 (Cy hK h)))
 ·exact ah 16 h2 (ae 2 (Cy hK h))
theorem Fj(hK:ao K)(h:kM K n v1 v2 v3=some r):aS Tryz.prog 76 [.agg (mQ v1),.agg (aw v2),.sl (lm (ba .i64) v3)] (fun v _=>v=zF r):=by
 refine bu (cat Tryz.f76 (pn 1)) Tryz.func76 Tryz.ntmps76 fun M w0=>(bc ⟨[(0,.agg (mQ v1)),(1,.agg (aw v2)),(2,.sl (lm (ba .i64) v3))],[],[],[]⟩ ?_);unfold kM at h;refine bO 12 13 7 4 (aj 4 ?_);obtain⟨h1,h⟩|⟨h1,h⟩:=ak h
 ·exact aB 11 h1 (ac (ae 0 (FN hK h)))
 ·exact aB 11 h1 (ac (ae 0 (FN hK h)))
end
noncomputable section
variable[GS](M:Nat→Prop)(w0:aE)(r:ai×Int×Int×(List aG))(v1:aa)(v2 v3:Int)(v4:bF)(v5 v6:Int)(v7:List aG)  
abbrev JG(n:Nat):aq:=.c (cat Tryz.f35 (pn n))
variable{M w0 r v1 v2 v3 v4 v5 v6 v7}{K:Kn}{n:Nat}[SG w0]
theorem SR(hK:ao K)(h:vY K n v1 v2 v3 v4 v5 v6 v7=some r):eG Tryz.prog 35 [.agg (aw v1),iI v2,iI v3,.agg (bW v4)] [(440001,List.set (bL (⟨[],v5,v6⟩:bH)) 0 (.ref 440009))] ⟨64,127,lm bd v7⟩ (fun v s=>v=.agg (aO r.1)∧cn s.o [(440001,List.set (bL (⟨[],r.2.1,r.2.2.1⟩:bH)) 0 (.ref 440009))]∧look 440009 s.r=some ⟨64,127,lm bd r.2.2.2⟩):=by
 refine jC (c:=cat Tryz.f35 []) Tryz.func35 (by kernel_rfl) _ Tryz.ntmps35 (of_decide_eq_true (by kernel_rfl)) fun M w0=>(bc ⟨[(0,.agg (aw v1)),(1,iI v2),(2,iI v3),(3,.agg (bW v4))],[(440001,List.set (bL (⟨[],v5,v6⟩:bH)) 0 (.ref 440009))],[(440009,⟨64,127,lm bd v7⟩)],[440009,440001,1440001]⟩ ?_);unfold vY at h;refine bK (ks':=[JG 14,JG 15]) 5 (bI [1,2,4,7,8,10] [4,7,8,440001] [440009] (F2 10 ?_));obtain⟨v8,h1,h⟩:=bind_some h;obtain⟨v9,h2,h⟩:=bind_some h;obtain⟨v10,h3,h⟩:=bind_some h;refine bP 2 (nu 16 [.agg (aw v1),.ptr 4 2,.agg (aV v1.Style),iI (min (max v2 0) 1048576),.agg (cb v8),.agg (bW v4)]++nu 23 [.agg (List.set (aO ({ v10 with Kids:=[] }:ai)) 66 (.ref 23))]++nu 9 [.ptr 9 0]) [(9,List.set (aO bG) 66 (.nils))] [(23,⟨44,67,lm aY v10.Kids⟩)] [jR (some 22) ⟨64,127,lm bd v9.2.2.2⟩ [(440001,List.set (bL (⟨[],v9.2.1,v9.2.2.1⟩:bH)) 0 (.ref 440009))] (.agg (aO v9.1)),bZ Tryz.prog 34 Tryz.f35 (pn 14) 9] (ay [.v 0 1,.v 0 2,.v 0 2,.v 0 2] (ag (cD 0 1 20 (Jd hK h1)) (ay [.v 0 1] (ag (IP 0 10 (Po hK h2)) (ag (yR 1 1 23 (Gr hK h3) (uF (i:=66) (by kernel_rfl))) (ag (pd 0 2 44 9 (List.set (aO bG) 66 (.nils))) (ag (bX 1) bQ))))))) (aC 6 7 3 (aj 3 (LD 30 0 ?_)))
 obtain⟨v11,h4,h⟩:=bind_some h;refine aU (Fj hK h4) (ac (aL 3 (gf 23 ?_)));cases h;exact dT
end
noncomputable section
variable[GS](M:Nat→Prop)(w0:aE)(r:Int)(v1:List aG)(v2:Fv)(v4:Int)(m1:Nat)(L1:Int→Option Int)
abbrev Bn:Cx:=⟨Tryz.prog,19,M,w0⟩
abbrev Ao:=bodyPost Tryz.prog Tryz.f77 (bA M w0 (fun v _=>v=iI r))
abbrev Pc(ks:List aq)(s:AS):=VE (Bn M w0) (Ao M w0 r) ks .normal s
abbrev Ib(n:Nat):aq:=.c (cat Tryz.f77 (pn n))
abbrev yI:List aq:=[.b 0,Ib 7]
abbrev Va:List aq:=kl (Bn M w0) (Ao M w0 r) yI (cat Tryz.f77 (pn 52)) m1::yI
def Hi:AS:=⟨[(0,.sl (lm bd v1)),(1,.fn v2.id v2.aP),(7,iI (v1.length:Int)),(8,iI v4)],[],[],[]⟩
abbrev ED:Prop:=∀{v4:Int},L1 v4=some r→LP (Bn M w0) (Ao M w0 r) yI (cat Tryz.f77 (pn 52)) m1 (Hi v1 v2 v4)
variable{M w0 r v1 v2 v4 m1 L1}{K:Kn}{n:Nat}
theorem Uj(hK:ao K)(hL1:ED M w0 r v1 v2 m1 L1)(h:sy K n v1 v2 L1 v4=some r):Pc M w0 r (Ib 52::Va M w0 r m1) (Hi v1 v2 v4):=by
 unfold sy at h;refine aC 6 7 3 ?_;obtain⟨h5,h⟩|⟨h5,h⟩:=ak h
 ·refine ah 9 h5 (c8 18 19 1 3 7 (aj 3 ?_));obtain⟨h6,h⟩:=aF h;refine az (bi bd bd h6 (Bc) ((fun _=>rfl))) (aM 5 1 ?_);obtain⟨v5,h7,h⟩:=bind_some h;refine lf (hK.nh h7) (ac ?_);obtain⟨h8,h⟩|⟨h8,h⟩:=ak h
  ·refine ah 16 h8 (aL 9 ?_);cases h;exact bj
  ·exact ah 16 h8 (ae 4 (bw (hL1 h)))
 ·refine ah 9 h5 (aL 8 ?_);cases h;exact bj
theorem Oz(hK:ao K)(m:Nat):ED M w0 r v1 v2 m (lw K n v1 v2 m):=by
 induction m with
 | zero=>intro v4 h;cases h
 | succ m ih=>intro v4 h;have h:sy K n v1 v2 (lw K n v1 v2 m) v4=some r:=h;exact bB (Uj hK ih h)
theorem O6(hK:ao K)(h:w9 K n v1 v2=some r):aS Tryz.prog 77 [.sl (lm bd v1),.fn v2.id v2.aP] (fun v _=>v=iI r):=by
 refine bu (cat Tryz.f77 (pn 1)) Tryz.func77 Tryz.ntmps77 fun M w0=>(bc ⟨[(0,.sl (lm bd v1)),(1,.fn v2.id v2.aP)],[],[],[]⟩ ?_);unfold w9 at h;exact bO 12 13 7 4 (aj 1 (az (bv bd v1) (ac (ae 1 (ci (p:=pn 26) n (Oz hK n h))))))
end
noncomputable section
variable[GS](M:Nat→Prop)(w0:aE)(r:Bool)(v1:List aG)(v2:Fv)  
variable{M w0 r v1 v2}{K:Kn}{n:Nat}
theorem Nd(hK:ao K)(h:rj K n v1 v2=some r):aS Tryz.prog 38 [.sl (lm bd v1),.fn v2.id v2.aP] (fun v _=>v=.bool r):=by
 refine bu (cat Tryz.f38 (pn 1)) Tryz.func38 Tryz.ntmps38 fun M w0=>(bc ⟨[(0,.sl (lm bd v1)),(1,.fn v2.id v2.aP)],[],[],[]⟩ ?_);unfold rj at h;refine aC 6 7 3 (aj 2 ?_);obtain⟨v3,h1,h⟩:=bind_some h;refine aU (O6 hK h1) (ac (aL 1 ?_));cases h;exact bj
end
noncomputable section
variable[GS](M:Nat→Prop)(w0:aE)(r:Bool)(v1 v2:aG)(v4:Bool)  
abbrev QB(n:Nat):aq:=.c (cat Tryz.f39 (pn n))
abbrev QR:Cx:=⟨Tryz.prog,16,M,w0⟩
abbrev MU:=bodyPost Tryz.prog Tryz.f39 (bA M w0 (fun v _=>v=.bool r))
abbrev Ns(ks:List aq)(s:AS):=VE (QR M w0) (MU M w0 r) ks .normal s
def Sw:AS:=⟨[(3,.bool v4)],[],[],[]⟩
variable{M w0 r v1 v2 v4}{K:Kn}{n:Nat}
theorem Ez(hK:ao K)(h:xi K n v4=some r):Ns M w0 r [QB 7] (Sw v4):=by
 unfold xi at h;refine aL 1 ?_;cases h;exact bj
theorem Vg(hK:ao K)(h:tq K n v1 v2=some r):aS Tryz.prog 39 [.agg (bd v1),.cptr (bd v2)] (fun v _=>v=.bool r):=by
 refine bu (cat Tryz.f39 (pn 1)) Tryz.func39 Tryz.ntmps39 fun M w0=>(bc ⟨[(0,.agg (bd v1)),(1,.cptr (bd v2))],[],[],[]⟩ ?_);unfold tq at h;refine aC 6 7 3 (aj 6 ?_);obtain⟨h1,h⟩|⟨h1,h⟩:=ak h
 ·refine aB 9 h1 (aM 10 4 ?_);obtain⟨v3,h2,h⟩:=bind_some h;exact aU (um hK h2) (ac (ae 0 (Ez hK h)))
 ·exact aB 9 h1 (ac (ae 0 (Ez hK h)))
end
noncomputable section
variable[GS](M:Nat→Prop)(w0:aE)(r:ai×Int×Int×(List aG))(v1:aa)(v2 v3 v4 v5:Int)(v6:List aG)(v8:ai×Int×Int×(List aG))(v19:Int)(v20:List aG)(v23:Bool)(v24:List aG)(m2:Nat)(L2:Int→(List aG)→Option (ai×Int×Int×(List aG)))
abbrev zR:Cx:=⟨Tryz.prog,60,M,w0⟩
abbrev zg:=bodyPost Tryz.prog Tryz.f12 (bA M w0 (fun v s=>v=.agg (aO r.1)∧cn s.o [(440001,List.set (bL (⟨[],r.2.1,r.2.2.1⟩:bH)) 0 (.ref 440009))]∧look 440009 s.r=some ⟨64,127,lm bd r.2.2.2⟩))
abbrev yj(ks:List aq)(s:AS):=VE (zR M w0) (zg M w0 r) ks .normal s
abbrev lH(n:Nat):aq:=.c (cat Tryz.f12 (pn n))
abbrev AN:List aq:=[.b 0,lH 63]
abbrev Bz:List aq:=kl (zR M w0) (zg M w0 r) AN (cat Tryz.f12 (pn 500)) m2::AN
def Qr:AS:=⟨[(0,.adr GS.g 0),(5,.ptr 5 0),(8,.ptr 8 0),(9,.ptr 9 0),(10,.ref 2010),(32,.ref 440009),(33,iI (v8.2.2.2.length:Int)),(34,iI v19)],[(5,aw v1),(8,List.set (aO bG) 66 (.nils)),(9,aO v8.1),(440001,List.set (bL (⟨[],v8.2.1,v8.2.2.1⟩:bH)) 0 (.ref 440009))],[(2010,⟨64,127,lm bd v24⟩),(440009,⟨64,127,lm bd v8.2.2.2⟩)],[5,8,9,440001,2010,440009,1440001,440001]⟩
def Mw:AS:=⟨[(0,.adr GS.g 0),(5,.ptr 5 0),(8,.ptr 8 0),(9,.ptr 9 0),(10,.ref 2010),(12,.cptr (bd (gD v8.2.2.2 v19))),(32,.ref 440009),(33,iI (v8.2.2.2.length:Int)),(34,iI v19),(48,.bool v23)],[(5,aw v1),(8,List.set (aO bG) 66 (.nils)),(9,aO v8.1),(440001,List.set (bL (⟨[],v8.2.1,v8.2.2.1⟩:bH)) 0 (.ref 440009))],[(2010,⟨64,127,lm bd v20⟩),(440009,⟨64,127,lm bd v8.2.2.2⟩)],[5,8,9,440001,2010,440009,1440001,440001]⟩
def FW:AS:=⟨[(0,.adr GS.g 0),(5,.ptr 5 0),(8,.ptr 8 0),(9,.ptr 9 0),(10,.ref 2010),(32,.ref 440009),(33,iI (v8.2.2.2.length:Int)),(34,iI v19)],[(5,aw v1),(8,List.set (aO bG) 66 (.nils)),(9,aO v8.1),(440001,List.set (bL (⟨[],v8.2.1,v8.2.2.1⟩:bH)) 0 (.ref 440009))],[(2010,⟨64,127,lm bd v20⟩),(440009,⟨64,127,lm bd v8.2.2.2⟩)],[5,8,9,440001,2010,440009,1440001,440001]⟩
abbrev wx:Prop:=∀{v19:Int} {v20:(List aG)},L2 v19 v20=some r→LP (zR M w0) (zg M w0 r) AN (cat Tryz.f12 (pn 500)) m2 (FW v1 v8 v19 v20)
variable{M w0 r v1 v2 v3 v4 v5 v6 v8 v19 v20 v23 v24 m2 L2}{K:Kn}{n:Nat}[SG w0]
theorem CV(hK:ao K)(hL2:wx M w0 r v1 v8 m2 L2)(h:sM K n v1 v8 v19 L2 v24=some r):yj M w0 r (.b 1::lH 4007::Bz M w0 r m2) (Qr v1 v8 v19 v24):=by
 unfold sM at h;exact ae 2 (bw (hL2 h))
theorem I4(hK:ao K)(hL2:wx M w0 r v1 v8 m2 L2)(h:tF K n v1 v8 v19 v20 L2 v23=some r):yj M w0 r (lH 64103 :: .b 1::lH 4007::Bz M w0 r m2) (Mw v1 v8 v19 v20 v23):=by
 unfold tF at h;obtain⟨h24,h⟩|⟨h24,h⟩:=ak h
 ·refine ah 48 h24 (bh 2 1 (aj 3 ?_));obtain⟨h25,h⟩:=aF h;exact az (cv 52 2010 64 127 bd (rfl) (Bc) h25) (ac (ae 0 (CV hK hL2 h)))
 ·exact ah 48 h24 (ae 2 (CV hK hL2 h))
theorem Rk(hK:ao K)(hL2:wx M w0 r v1 v8 m2 L2)(h:tr K n v1 v8 L2 v19 v20=some r):yj M w0 r (lH 500::Bz M w0 r m2) (FW v1 v8 v19 v20):=by
 unfold tr at h;refine aC 6 7 3 ?_;obtain⟨h19,h⟩|⟨h19,h⟩:=ak h
 ·refine ah 35 h19 (c8 8 9 1 3 5 (aj 0 ?_));obtain⟨h20,h⟩:=aF h;refine az (cT 440009 127 bd h20) (az (cO 64 0 bd bd (cE h20).2 ((fun _=>rfl))) (ac (aC 2 3 1 (aj 1 (qA 12 12 (bd (gD v8.2.2.2 v19)) (yQ 39 #[(.tmp 12)] [.cptr (bd (gD v8.2.2.2 v19))] ?_))))));obtain⟨v21,h21,h⟩:=bind_some h;refine Ol (Nd hK h21) (ac (aC 2 3 1 (aj 3 ?_)));obtain⟨h22,h⟩|⟨h22,h⟩:=ak h
  ·refine aB 43 h22 (aM 6 3 ?_);obtain⟨v22,h23,h⟩:=bind_some h;exact aU (Ih hK h23) (ac (ae 0 (I4 hK hL2 h)))
  ·exact aB 43 h22 (ac (ae 0 (I4 hK hL2 h)))
 ·refine ah 35 h19 (kJ 2 3 6 (aj 4 (JN 57 0 (ac (aC 2 3 1 (aj 1 ?_))))));obtain⟨v25,h26,h⟩:=bind_some h;refine fJ 1059 (vO hK h26) (uF (i:=66) (by kernel_rfl)) (ac (aL 1 (bI [8] [8,440001] [1059,2010] (Ch 2010 440009 (gf 1059 ?_)))));cases h;exact dT
theorem Mp(hK:ao K)(m:Nat):wx M w0 r v1 v8 m (kv K n v1 v8 m):=by
 induction m with
 | zero=>intro v19 v20 h;cases h
 | succ m ih=>intro v19 v20 h;have h:tr K n v1 v8 (kv K n v1 v8 m) v19 v20=some r:=h;exact bB (Rk hK ih h)
theorem tX(hK:ao K)(h:iH K n v1 v2 v3 v4 v5 v6=some r):eG Tryz.prog 12 [.ptr 440001 0,.agg (aw v1),iI v2,iI v3] [(440001,List.set (bL (⟨[],v4,v5⟩:bH)) 0 (.ref 440009))] ⟨64,127,lm bd v6⟩ (fun v s=>v=.agg (aO r.1)∧cn s.o [(440001,List.set (bL (⟨[],r.2.1,r.2.2.1⟩:bH)) 0 (.ref 440009))]∧look 440009 s.r=some ⟨64,127,lm bd r.2.2.2⟩):=by
 refine jC (c:=cat Tryz.f12 []) Tryz.func12 (by kernel_rfl) _ Tryz.ntmps12 (of_decide_eq_true (by kernel_rfl)) fun M w0=>(bc ⟨[(0,.ptr 440001 0),(1,.agg (aw v1)),(2,iI v2),(3,iI v3)],[(440001,List.set (bL (⟨[],v4,v5⟩:bH)) 0 (.ref 440009))],[(440009,⟨64,127,lm bd v6⟩)],[440009,440001,1440001]⟩ ?_);unfold iH at h;refine bK (ks':=[lH 14,lH 15]) 5 (bI [0,2,3,5,8,14] [5,8,440001] [440009] (F2 14 (S7 0 0 ?_)));obtain⟨v7,h1,h⟩:=bind_some h;obtain⟨v8,h2,h⟩:=bind_some h;exact bP 2 (nu 20 [.agg (aw v1),iI v2,iI v3,.adr GS.g 0,dw 36 true,.adr GS.g 0,dw 37 true,.agg (bW v7)]++nu 9 [.ptr 9 0]) [(9,List.set (aO bG) 66 (.nils))] [] [jR (some 28) ⟨64,127,lm bd v8.2.2.2⟩ [(440001,List.set (bL (⟨[],v8.2.1,v8.2.2.1⟩:bH)) 0 (.ref 440009))] (.agg (aO v8.1)),bZ Tryz.prog 60 Tryz.f12 (pn 14) 10] (ay [.v 0 1,.v 0 1,.v 0 1,.v 0 2,.v 0 2,.v 0 2,.v 0 2] (ag (cD 0 1 27 (Q2 hK h1)) (ag (IP 0 14 (SR hK h2)) (ag (pd 0 2 44 9 (List.set (aO bG) 66 (.nils))) (ag (bX 1) bQ))))) (bO 12 13 7 4 (aj 3 (JN 31 0 (aM 4 1 (az (bv bd v8.2.2.2) (ac (il 2 0 1 (bI [0,5,8,9,10,32,33,34] [5,8,9,440001] [440009] (fZ 2010 10 64 127 (ae 0 (ci (p:=pn 250) n (Mp hK n h))))))))))))
end
noncomputable section
variable[GS](M:Nat→Prop)(w0:aE)(r:aa)(v1:Int)  
variable{M w0 r v1}{K:Kn}{n:Nat}
theorem vT(hK:ao K)(h:nq K n v1=some r):aS Tryz.prog 33 [iI v1] (fun v _=>v=.agg (aw r)):=by
 refine bu (cat Tryz.f33 (pn 1)) Tryz.func33 Tryz.ntmps33 fun M w0=>(bc ⟨[(0,iI v1)],[],[],[]⟩ ?_);unfold nq at h;refine aL 5 (jc 2 ?_);cases h;exact bj
end
noncomputable section
variable(M:Nat→Prop)(w0:aE)(r v7:Bool)  
abbrev U8(n:Nat):aq:=.c (cat Tryz.f10 (pn n))
abbrev Uh:Cx:=⟨Tryz.prog,33,M,w0⟩
abbrev Qj:=bodyPost Tryz.prog Tryz.f10 (bA M w0 (fun v _=>v=.bool r))
abbrev Lr(ks:List aq)(s:AS):=VE (Uh M w0) (Qj M w0 r) ks .normal s
def Sx:AS:=⟨[(0,.bool v7)],[],[],[]⟩
variable{M w0 r v7}{K:Kn}{n:Nat}
theorem vy(hA:∀ [GS],ao K)(h:pH K n v7=some r):Lr M w0 r [U8 127] (Sx v7):=by
 letI:GS:=⟨0⟩;have hK:=@hA ⟨0⟩
 unfold pH at h;refine aL 1 ?_;cases h;exact bj
theorem Mk(hA:∀ [GS],ao K)(h:t9 K n=some r):aS Tryz.prog 10 [] (fun v _=>v=.bool r):=by
 letI:GS:=⟨0⟩;have hK:=@hA ⟨0⟩
 refine bu (cat Tryz.f10 (pn 1)) Tryz.func10 Tryz.ntmps10 fun M w0=>(bc ⟨[],[],[],[]⟩ ?_);unfold t9 at h;refine aC 14 15 5 (aj 0 ?_);obtain⟨v1,h1,h⟩:=bind_some h;refine aU (vT hK h1) ?_;obtain⟨v2,h2,h⟩:=bind_some h;refine aU (vT hK h2) (az (fO aR ([v1,v2]:List aa) (new:=[aw v1,aw v2]) (by simp only[List.map_cons,List.map_nil,dq])) (aM 4 1 (wT 400001 1 0 64 127 ?_)));obtain⟨v3,h3,h⟩:=bind_some h;refine uq 1 400001 (fun [GS]=>(tX hA h3)) (ac (aC 6 7 3 (aj 0 ?_)));obtain⟨v4,h4,h⟩:=bind_some h;refine aU (vT hK h4) ?_;obtain⟨v5,h5,h⟩:=bind_some h;refine aU (vT hK h5) (az (fO aR ([v4,v5]:List aa) (new:=[aw v4,aw v5]) (by simp only[List.map_cons,List.map_nil,dq])) (aM 4 1 ?_));obtain⟨v6,h6,h⟩:=bind_some h;refine uq 1 400001 (fun [GS]=>(tX hA h6)) (ac (aC 2 3 1 (aj 4 ?_)));obtain⟨h7,h⟩|⟨h7,h⟩:=ak h
 ·refine aB 19 h7 (aM 8 4 ?_);obtain⟨h8,h⟩|⟨h8,h⟩:=ak h
  ·refine aB 23 h8 (aM 13 5 ?_);obtain⟨h9,h⟩|⟨h9,h⟩:=ak h
   ·exact aB 28 h9 (ac (ae 0 (vy hA h)))
   ·exact aB 28 h9 (ac (ae 0 (vy hA h)))
  ·exact aB 23 h8 (ac (ae 0 (vy hA h)))
 ·exact aB 19 h7 (ac (ae 0 (vy hA h)))
end
noncomputable section
variable[GS](M:Nat→Prop)(w0:aE)(r:Bool)(v1:dg)(v2:Bool)  
abbrev NE(n:Nat):aq:=.c (cat Tryz.f72 (pn n))
abbrev Sz:Cx:=⟨Tryz.prog,11,M,w0⟩
abbrev RU:=bodyPost Tryz.prog Tryz.f72 (bA M w0 (fun v _=>v=.bool r))
abbrev Tt(ks:List aq)(s:AS):=VE (Sz M w0) (RU M w0 r) ks .normal s
def LO:AS:=⟨[(2,.bool v2)],[],[],[]⟩
variable{M w0 r v1 v2}{K:Kn}{n:Nat}
theorem EW(hK:ao K)(h:pZ K n v2=some r):Tt M w0 r [NE 7] (LO v2):=by
 unfold pZ at h;refine aL 1 ?_;cases h;exact bj
theorem fj(hK:ao K)(h:d7 K n v1=some r):aS Tryz.prog 72 [.agg (nZ v1)] (fun v _=>v=.bool r):=by
 refine bu (cat Tryz.f72 (pn 1)) Tryz.func72 Tryz.ntmps72 fun M w0=>(bc ⟨[(0,.agg (nZ v1))],[],[],[]⟩ ?_);unfold d7 at h;refine aC 6 7 3 (aj 4 ?_);obtain⟨h1,h⟩|⟨h1,h⟩:=ak h
 ·exact aB 6 h1 (ac (ae 0 (EW hK h)))
 ·exact aB 6 h1 (ac (ae 0 (EW hK h)))
end
noncomputable section
variable[GS](M:Nat→Prop)(w0:aE)(r:Bool)(v1:List av)(v2 v23:Int)(v31 v34 v37 v40 v43:Bool)(m1:Nat)(L1:Int→Option Bool)
abbrev vu:Cx:=⟨Tryz.prog,130,M,w0⟩
abbrev tR:=bodyPost Tryz.prog Tryz.f34 (bA M w0 (fun v _=>v=.bool r))
abbrev nj(ks:List aq)(s:AS):=VE (vu M w0) (tR M w0 r) ks .normal s
abbrev d5(n:Nat):aq:=.c (cat Tryz.f34 (pn n))
abbrev yt:List aq:=[.b 0,d5 7]
abbrev tL:List aq:=kl (vu M w0) (tR M w0 r) yt (cat Tryz.f34 (pn 52)) m1::yt
def Nl:AS:=⟨[(0,.sl (lm aA v1)),(1,iI v2),(5,iI v23),(6,.ptr 6 0),(7,iI 3),(125,.bool v43)],[(6,aV ((gD v1 v23).Style))],[],[6]⟩
def TQ:AS:=⟨[(0,.sl (lm aA v1)),(1,iI v2),(5,iI v23),(6,.ptr 6 0),(7,iI 2),(125,.bool v40)],[(6,aV ((gD v1 v23).Style))],[],[6]⟩
def PC:AS:=⟨[(0,.sl (lm aA v1)),(1,iI v2),(5,iI v23),(6,.ptr 6 0),(7,iI 1),(125,.bool v37)],[(6,aV ((gD v1 v23).Style))],[],[6]⟩
def Ng:AS:=⟨[(0,.sl (lm aA v1)),(1,iI v2),(5,iI v23),(6,.ptr 6 0),(7,iI 0),(125,.bool v34)],[(6,aV ((gD v1 v23).Style))],[],[6]⟩
def Qo:AS:=⟨[(0,.sl (lm aA v1)),(1,iI v2),(5,iI v23),(6,.ptr 6 0),(107,.bool v31)],[(6,aV ((gD v1 v23).Style))],[],[6]⟩
def Gh:AS:=⟨[(0,.sl (lm aA v1)),(1,iI v2),(5,iI v23)],[],[],[]⟩
abbrev lu:Prop:=∀{v23:Int},L1 v23=some r→LP (vu M w0) (tR M w0 r) yt (cat Tryz.f34 (pn 52)) m1 (Gh v1 v2 v23)
abbrev iX(m:Nat):List aq:=kl (vu M w0) (tR M w0 r) (.b 2 :: .b 1::d5 211::tL M w0 r m1) (cat Tryz.f34 (pn 13468)) m::(.b 2 :: .b 1::d5 211::tL M w0 r m1)
variable{M w0 r v1 v2 v23 v31 v34 v37 v40 v43 m1 L1}{K:Kn}{n:Nat}
theorem DM(hK:ao K)(hL1:lu M w0 r v1 v2 m1 L1)(h:nY K n v1 v2 v23 L1 v43=some r):nj M w0 r (d5 215497 :: .b 3::d5 53875::iX M w0 r m1 36) (Nl v1 v2 v23 v43):=by
 unfold nY at h;obtain⟨h84,h⟩|⟨h84,h⟩:=ak h
 ·refine ah 125 h84 (aL 13 ?_);cases h;exact bj
 ·exact ah 125 h84 (bR (ks':=iX M w0 r m1 36) 4 ⟨[(0,.sl (lm aA v1)),(1,iI v2),(5,iI v23),(6,.ptr 6 0),(7,iI 4)],[(6,aV ((gD v1 v23).Style))],[],[6]⟩ (bw (bB (ae 10 (bw (hL1 h))))))
theorem Em(hK:ao K)(hL1:lu M w0 r v1 v2 m1 L1)(h:sf K n v1 v2 v23 L1 v40=some r):nj M w0 r (d5 215497 :: .b 3::d5 53875::iX M w0 r m1 37) (TQ v1 v2 v23 v40):=by
 unfold sf at h;obtain⟨h80,h⟩|⟨h80,h⟩:=ak h
 ·refine ah 125 h80 (aL 13 ?_);cases h;exact bj
 ·refine ah 125 h80 (bR (ks':=iX M w0 r m1 37) 4 ⟨[(0,.sl (lm aA v1)),(1,iI v2),(5,iI v23),(6,.ptr 6 0),(7,iI 3)],[(6,aV ((gD v1 v23).Style))],[],[6]⟩ (bw (bB (dM 24 25 3 7 8 (aj 4 ?_)))));obtain⟨v41,h81,h⟩:=bind_some h;refine aU (fj hK h81) (aM 7 2 ?_);obtain⟨h82,h⟩|⟨h82,h⟩:=ak h
  ·exact aB 118 h82 (ac (ae 0 (DM hK hL1 h)))
  ·refine aB 118 h82 (aM 11 4 ?_);obtain⟨v42,h83,h⟩:=bind_some h;exact aU (fj hK h83) (ac (ae 0 (DM hK hL1 h)))
theorem G5(hK:ao K)(hL1:lu M w0 r v1 v2 m1 L1)(h:sn K n v1 v2 v23 L1 v37=some r):nj M w0 r (d5 215497 :: .b 3::d5 53875::iX M w0 r m1 38) (PC v1 v2 v23 v37):=by
 unfold sn at h;obtain⟨h76,h⟩|⟨h76,h⟩:=ak h
 ·refine ah 125 h76 (aL 13 ?_);cases h;exact bj
 ·refine ah 125 h76 (bR (ks':=iX M w0 r m1 38) 4 ⟨[(0,.sl (lm aA v1)),(1,iI v2),(5,iI v23),(6,.ptr 6 0),(7,iI 2)],[(6,aV ((gD v1 v23).Style))],[],[6]⟩ (bw (bB (dM 24 25 3 7 8 (aj 4 ?_)))));obtain⟨v38,h77,h⟩:=bind_some h;refine aU (fj hK h77) (aM 7 2 ?_);obtain⟨h78,h⟩|⟨h78,h⟩:=ak h
  ·exact aB 118 h78 (ac (ae 0 (Em hK hL1 h)))
  ·refine aB 118 h78 (aM 11 4 ?_);obtain⟨v39,h79,h⟩:=bind_some h;exact aU (fj hK h79) (ac (ae 0 (Em hK hL1 h)))
theorem FV(hK:ao K)(hL1:lu M w0 r v1 v2 m1 L1)(h:rx K n v1 v2 v23 L1 v34=some r):nj M w0 r (d5 215497 :: .b 3::d5 53875::iX M w0 r m1 39) (Ng v1 v2 v23 v34):=by
 unfold rx at h;obtain⟨h72,h⟩|⟨h72,h⟩:=ak h
 ·refine ah 125 h72 (aL 13 ?_);cases h;exact bj
 ·refine ah 125 h72 (bR (ks':=iX M w0 r m1 39) 4 ⟨[(0,.sl (lm aA v1)),(1,iI v2),(5,iI v23),(6,.ptr 6 0),(7,iI 1)],[(6,aV ((gD v1 v23).Style))],[],[6]⟩ (bw (bB (dM 24 25 3 7 8 (aj 4 ?_)))));obtain⟨v35,h73,h⟩:=bind_some h;refine aU (fj hK h73) (aM 7 2 ?_);obtain⟨h74,h⟩|⟨h74,h⟩:=ak h
  ·exact aB 118 h74 (ac (ae 0 (G5 hK hL1 h)))
  ·refine aB 118 h74 (aM 11 4 ?_);obtain⟨v36,h75,h⟩:=bind_some h;exact aU (fj hK h75) (ac (ae 0 (G5 hK hL1 h)))
theorem fa(hK:ao K)(hL1:lu M w0 r v1 v2 m1 L1)(h:dK K n v1 v2 v23 L1 v31=some r):nj M w0 r (d5 3365::d5 1683 :: .b 1::d5 211::tL M w0 r m1) (Qo v1 v2 v23 v31):=by
 unfold dK at h;obtain⟨h68,h⟩|⟨h68,h⟩:=ak h
 ·refine ah 107 h68 (aL 10 ?_);cases h;exact bj
 ·refine ah 107 h68 (bR (ks':=d5 6734 :: .b 2 :: .b 1::d5 211::tL M w0 r m1) 5 ⟨[(0,.sl (lm aA v1)),(1,iI v2),(5,iI v23),(6,.ptr 6 0),(7,iI 0)],[(6,aV ((gD v1 v23).Style))],[],[6]⟩ (rt 40 (c:=cat Tryz.f34 [1,0,1,0,0,1,0,0,1,1,1,0,0]) (by kernel_rfl) (bB (bK (ks':=d5 215496::d5 215497 :: .b 3::d5 53875::iX M w0 r m1 39) 8 (aj 4 ?_)))));obtain⟨v32,h69,h⟩:=bind_some h;refine aU (fj hK h69) (aM 7 2 ?_);obtain⟨h70,h⟩|⟨h70,h⟩:=ak h
  ·exact aB 118 h70 (ac (ae 0 (FV hK hL1 h)))
  ·refine aB 118 h70 (aM 11 4 ?_);obtain⟨v33,h71,h⟩:=bind_some h;exact aU (fj hK h71) (ac (ae 0 (FV hK hL1 h)))
theorem Ky(hK:ao K)(hL1:lu M w0 r v1 v2 m1 L1)(h:jv K n v1 v2 L1 v23=some r):nj M w0 r (d5 52::tL M w0 r m1) (Gh v1 v2 v23):=by
 unfold jv at h;refine bO 4 5 3 2 (aj 2 (az (bv aA v1) (ac ?_)));obtain⟨h43,h⟩|⟨h43,h⟩:=ak h
 ·refine ah 11 h43 (c8 8 9 1 3 5 (aj 2 ?_));obtain⟨h44,h⟩:=aF h;refine az (bi aA aA h44 (cK) ((fun _=>rfl))) (ac (bO 4 5 3 2 (aj 2 ?_)));obtain⟨h45,h⟩:=aF h;refine az (bi aA aA h45 (cK) ((fun _=>rfl))) (aM 8 5 ?_);obtain⟨h46,h⟩|⟨h46,h⟩:=ak h
  ·exact aB 26 h46 (ac (ae 0 (fa hK hL1 h)))
  ·refine aB 26 h46 (aM 10 2 ?_);obtain⟨v24,h47,h⟩:=bind_some h;refine aU (fj hK h47) (aM 14 3 ?_);obtain⟨h48,h⟩|⟨h48,h⟩:=ak h
   ·exact aB 32 h48 (ac (ae 0 (fa hK hL1 h)))
   ·refine aB 32 h48 (aM 16 2 ?_);obtain⟨v25,h49,h⟩:=bind_some h;refine aU (fj hK h49) (aM 20 3 ?_);obtain⟨h50,h⟩|⟨h50,h⟩:=ak h
    ·exact aB 38 h50 (ac (ae 0 (fa hK hL1 h)))
    ·refine aB 38 h50 (aM 22 2 ?_);obtain⟨v26,h51,h⟩:=bind_some h;refine aU (fj hK h51) (aM 26 3 ?_);obtain⟨h52,h⟩|⟨h52,h⟩:=ak h
     ·exact aB 44 h52 (ac (ae 0 (fa hK hL1 h)))
     ·refine aB 44 h52 (aM 28 2 ?_);obtain⟨v27,h53,h⟩:=bind_some h;refine aU (fj hK h53) (aM 32 3 ?_);obtain⟨h54,h⟩|⟨h54,h⟩:=ak h
      ·exact aB 50 h54 (ac (ae 0 (fa hK hL1 h)))
      ·refine aB 50 h54 (aM 34 2 ?_);obtain⟨v28,h55,h⟩:=bind_some h;refine aU (fj hK h55) (aM 38 3 ?_);obtain⟨h56,h⟩|⟨h56,h⟩:=ak h
       ·exact aB 56 h56 (ac (ae 0 (fa hK hL1 h)))
       ·refine aB 56 h56 (aM 40 2 ?_);obtain⟨v29,h57,h⟩:=bind_some h;refine aU (fj hK h57) (aM 44 3 ?_);obtain⟨h58,h⟩|⟨h58,h⟩:=ak h
        ·exact aB 62 h58 (ac (ae 0 (fa hK hL1 h)))
        ·refine aB 62 h58 (aM 46 2 ?_);obtain⟨v30,h59,h⟩:=bind_some h;refine aU (fj hK h59) (aM 50 3 ?_);obtain⟨h60,h⟩|⟨h60,h⟩:=ak h
         ·exact aB 68 h60 (ac (ae 0 (fa hK hL1 h)))
         ·refine aB 68 h60 (aM 55 5 ?_);obtain⟨h61,h⟩|⟨h61,h⟩:=ak h
          ·exact aB 73 h61 (ac (ae 0 (fa hK hL1 h)))
          ·refine aB 73 h61 (aM 60 5 ?_);obtain⟨h62,h⟩|⟨h62,h⟩:=ak h
           ·exact aB 78 h62 (ac (ae 0 (fa hK hL1 h)))
           ·refine aB 78 h62 (aM 65 5 ?_);obtain⟨h63,h⟩|⟨h63,h⟩:=ak h
            ·exact aB 83 h63 (ac (ae 0 (fa hK hL1 h)))
            ·refine aB 83 h63 (aM 70 5 ?_);obtain⟨h64,h⟩|⟨h64,h⟩:=ak h
             ·exact aB 88 h64 (ac (ae 0 (fa hK hL1 h)))
             ·refine aB 88 h64 (aM 75 5 ?_);obtain⟨h65,h⟩|⟨h65,h⟩:=ak h
              ·exact aB 93 h65 (ac (ae 0 (fa hK hL1 h)))
              ·refine aB 93 h65 (aM 80 5 ?_);obtain⟨h66,h⟩|⟨h66,h⟩:=ak h
               ·exact aB 98 h66 (ac (ae 0 (fa hK hL1 h)))
               ·refine aB 98 h66 (aM 85 5 ?_);obtain⟨h67,h⟩|⟨h67,h⟩:=ak h
                ·exact aB 103 h67 (ac (ae 0 (fa hK hL1 h)))
                ·exact aB 103 h67 (ac (ae 0 (fa hK hL1 h)))
 ·refine ah 11 h43 (kJ 2 3 6 (aj 1 (az (bv aA v1) (ac (aL 1 ?_)))));cases h;exact bj
theorem Ul(hK:ao K)(m:Nat):lu M w0 r v1 v2 m (lF K n v1 v2 m):=by
 induction m with
 | zero=>intro v23 h;cases h
 | succ m ih=>intro v23 h;have h:jv K n v1 v2 (lF K n v1 v2 m) v23=some r:=h;exact bB (Ky hK ih h)
theorem EP(hK:ao K)(h:sH K n v1 v2=some r):aS Tryz.prog 34 [.sl (lm aA v1),iI v2] (fun v _=>v=.bool r):=by
 refine bu (cat Tryz.f34 (pn 1)) Tryz.func34 Tryz.ntmps34 fun M w0=>(bc ⟨[(0,.sl (lm aA v1)),(1,iI v2)],[],[],[]⟩ ?_);unfold sH at h;exact ae 6 (ci (p:=pn 26) n (Ul hK n h))
end
noncomputable section
variable[GS](M:Nat→Prop)(w0:aE)(r:Bool)(v1:List av)(v2:List di)(v4:Int)(v7:Bool)(m1:Nat)(L1:Int→Option Bool)
abbrev zd:Cx:=⟨Tryz.prog,31,M,w0⟩
abbrev xP:=bodyPost Tryz.prog Tryz.f11 (bA M w0 (fun v _=>v=.bool r))
abbrev DT(ks:List aq)(s:AS):=VE (zd M w0) (xP M w0 r) ks .normal s
abbrev Bi(n:Nat):aq:=.c (cat Tryz.f11 (pn n))
abbrev xO:List aq:=[.b 0,Bi 7]
abbrev L7:List aq:=kl (zd M w0) (xP M w0 r) xO (cat Tryz.f11 (pn 52)) m1::xO
def MB:AS:=⟨[(4,.bool v7)],[],[],[]⟩
def Hb:AS:=⟨[(0,.sl (lm aA v1)),(1,.sl (lm dp v2)),(7,.sl (lm dp v2)),(8,iI (v2.length:Int)),(9,iI v4)],[],[],[]⟩
abbrev Ft:Prop:=∀{v4:Int},L1 v4=some r→LP (zd M w0) (xP M w0 r) xO (cat Tryz.f11 (pn 52)) m1 (Hb v1 v2 v4)
variable{M w0 r v1 v2 v4 v7 m1 L1}{K:Kn}{n:Nat}
theorem xX(hK:ao K)(h:nc K n v7=some r):DT M w0 r [Bi 15] (MB v7):=by
 unfold nc at h;refine aL 1 ?_;cases h;exact bj
theorem NR(hK:ao K)(hL1:Ft M w0 r v1 v2 m1 L1)(h:tz K n v1 v2 L1 v4=some r):DT M w0 r (Bi 52::L7 M w0 r m1) (Hb v1 v2 v4):=by
 unfold tz at h;refine aC 6 7 3 ?_;obtain⟨h5,h⟩|⟨h5,h⟩:=ak h
 ·refine ah 10 h5 (c8 8 9 1 3 5 (aj 0 ?_));obtain⟨h6,h⟩:=aF h;refine az (bi dp dp h6 (QZ) ((fun _=>rfl))) (ac (aC 2 3 1 (aj 3 ?_)));obtain⟨v5,h7,h⟩:=bind_some h;refine aU (EP hK h7) (ac ?_);obtain⟨h8,h⟩|⟨h8,h⟩:=ak h
  ·refine ah 17 h8 (aL 9 ?_);cases h;exact bj
  ·exact ah 17 h8 (ae 4 (bw (hL1 h)))
 ·refine ah 10 h5 (kJ 2 3 6 (aj 1 ?_));obtain⟨v6,h9,h⟩:=bind_some h;refine aU (EP hK h9) (aM 3 1 ?_);obtain⟨h10,h⟩|⟨h10,h⟩:=ak h
  ·refine aB 21 h10 (aM 4 1 (az (bv aA v1) (aM 8 3 ?_)));obtain⟨h11,h⟩|⟨h11,h⟩:=ak h
   ·exact aB 26 h11 (aM 9 1 (az (bv dp v2) (ac (ae 0 (xX hK h)))))
   ·exact aB 26 h11 (ac (ae 0 (xX hK h)))
  ·exact aB 21 h10 (ac (ae 0 (xX hK h)))
theorem RL(hK:ao K)(m:Nat):Ft M w0 r v1 v2 m (pE K n v1 v2 m):=by
 induction m with
 | zero=>intro v4 h;cases h
 | succ m ih=>intro v4 h;have h:tz K n v1 v2 (pE K n v1 v2 m) v4=some r:=h;exact bB (NR hK ih h)
theorem MM(hK:ao K)(h:vV K n v1 v2=some r):aS Tryz.prog 11 [.sl (lm aA v1),.sl (lm dp v2)] (fun v _=>v=.bool r):=by
 refine bu (cat Tryz.f11 (pn 1)) Tryz.func11 Tryz.ntmps11 fun M w0=>(bc ⟨[(0,.sl (lm aA v1)),(1,.sl (lm dp v2))],[],[],[]⟩ ?_);unfold vV at h;exact bO 12 13 7 4 (aj 1 (az (bv dp v2) (ac (ae 1 (ci (p:=pn 26) n (RL hK n h))))))
end
noncomputable section
variable[GS](M:Nat→Prop)(w0:aE)(r:aa×Int)(v1:List av)(v2:Int)(v3:Bool)(v8:Int)(v9:List aa)(v10:Bool)(m1:Nat)(L1:Int→(List aa)→Option (aa×Int))
abbrev Bv:Cx:=⟨Tryz.prog,95,M,w0⟩
abbrev za:=bodyPost Tryz.prog Tryz.f41 (bA M w0 (fun v s=>v=.tup [.agg (List.set (aw ({ r.1 with Kids:=[] }:aa)) 58 (.ref 72)),iI r.2]∧look 72 s.r=some ⟨48,59,lm aR r.1.Kids⟩))
abbrev BA(ks:List aq)(s:AS):=VE (Bv M w0) (za M w0 r) ks .normal s
abbrev lO(n:Nat):aq:=.c (cat Tryz.f41 (pn n))
abbrev BB:List aq:=[.b 0,lO 127]
abbrev Au:List aq:=kl (Bv M w0) (za M w0 r) BB (cat Tryz.f41 (pn 504)) m1::BB
def Ob:AS:=⟨[(0,.sl (lm aA v1)),(1,iI v8),(4,.ptr 4 0),(6,.ptr 6 0),(7,.int .u8 ((gD v1 v2).Depth)),(8,.bool v3),(60,.bool v10)],[(4,List.set (aw cF) 58 (.nils)),(6,List.set (aw ({ cF with Kind:=1,Node:=(ab (10+v2)),Style:=(gD v1 v2).Style }:aa)) 58 (.ref 72))],[(72,⟨48,59,lm aR v9⟩)],[4,6,72]⟩
def EO:AS:=⟨[(0,.sl (lm aA v1)),(1,iI v8),(4,.ptr 4 0),(6,.ptr 6 0),(7,.int .u8 ((gD v1 v2).Depth)),(8,.bool v3)],[(4,List.set (aw cF) 58 (.nils)),(6,List.set (aw ({ cF with Kind:=1,Node:=(ab (10+v2)),Style:=(gD v1 v2).Style }:aa)) 58 (.ref 72))],[(72,⟨48,59,lm aR v9⟩)],[4,6,72]⟩
def KV:AS:=⟨[(0,.sl (lm aA v1)),(1,iI (ab (v2+1))),(4,.ptr 4 0),(6,.ptr 6 0),(7,.int .u8 ((gD v1 v2).Depth)),(8,.bool v3)],[(4,List.set (aw cF) 58 (.nils)),(6,List.set (aw ({ cF with Kind:=1,Node:=(ab (10+v2)),Style:=(gD v1 v2).Style }:aa)) 58 (.nils))],[],[4,6]⟩
abbrev zh:Prop:=∀{v8:Int} {v9:(List aa)},L1 v8 v9=some r→LP (Bv M w0) (za M w0 r) BB (cat Tryz.f41 (pn 504)) m1 (EO v1 v2 v3 v8 v9)
variable{M w0 r v1 v2 v3 v8 v9 v10 m1 L1}{K:Kn}{n:Nat}
theorem Kc(hK:ao K)(hL1:zh M w0 r v1 v2 v3 m1 L1)(h:jN K n v1 v2 v3 v8 v9 L1 v10=some r):BA M w0 r (lO 2017::lO 1009::Au M w0 r m1) (Ob v1 v2 v3 v8 v9 v10):=by
 unfold jN at h;obtain⟨h27,h⟩|⟨h27,h⟩:=ak h
 ·refine ah 60 h27 (bK (ks':=lO 8073::lO 4037 :: .b 1::Au M w0 r m1) 6 ?_);obtain⟨h28,h⟩|⟨h28,h⟩:=ak h
  ·refine ah 61 h28 (aC 4 5 2 (aj 2 ?_));obtain⟨v11,h29,h⟩:=bind_some h;refine aU (hK.gY h29) (ac (aC 2 3 1 (aj 3 (az (fO aR ([v11.1]:List aa) (new:=[aw v11.1]) (by simp only[List.map_cons,List.map_nil,dq])) ?_))));obtain⟨h30,h⟩:=aF h;exact az (cv 72 72 48 59 aR (rfl) (d4) h30) (ac (ae 5 (bw (hL1 h))))
  ·refine ah 61 h28 (fb 2 3 3 (bI [0,1,4,6,7,8] [4,6] [72] ?_));obtain⟨h31,h⟩:=aF h;obtain⟨h32,h⟩:=aF h;obtain⟨h33,h⟩:=aF h;exact bP 2 (nu 75 [.ptr 6 58,.ref 72,.sl (lm aA v1),iI v8,.cptr (aA (gD v1 v8)),.cptr (List.drop 5 (aA (gD v1 v8))),.agg (aV ((gD v1 v8).Style)),.sl (lm aA v1),iI v8,.cptr (aA (gD v1 v8)),.cptr (List.drop 2 (aA (gD v1 v8))),.str ((gD v1 v8).Text),.agg (List.set (aw ({ cF with Kind:=3,Style:=(gD v1 v8).Style,Text:=(gD v1 v8).Text }:aa)) 58 (.nils)),.sl (lm aR [({ cF with Kind:=3,Style:=(gD v1 v8).Style,Text:=(gD v1 v8).Text }:aa)])]++nu 90 [.ptr 6 58]) [] [] [fi 89 72 ⟨48,59,lm aR (v9++[({ cF with Kind:=3,Style:=(gD v1 v8).Style,Text:=(gD v1 v8).Text }:aa)])⟩,bZ Tryz.prog 95 Tryz.f41 (pn 8074) 16] (ay [.v 0 2,.v 0 1,.v 0 2,.v 0 2] (ag (fv (lo:=0) (k:=2) (c9 ⟨(by kernel_rfl),(dd (bi aA aA h31 (cK) ((fun _=>rfl))) (by kernel_rfl))⟩ (c9 ⟨(by kernel_rfl),(dd (bi aA aA h31 (cK) ((fun _=>rfl))) (by kernel_rfl))⟩ fR))) (ay [.v 0 2,.v 0 2,.v 0 2,.v 0 2] (ag (fv (lo:=0) (k:=2) (c9 ⟨(by kernel_rfl),(dd (bi aA aA h32 (cK) ((fun _=>rfl))) (by kernel_rfl))⟩ (c9 ⟨(by kernel_rfl),(dd (bi aA aA h32 (cK) ((fun _=>rfl))) (by kernel_rfl))⟩ fR))) (ay [.v 0 2,.v 0 2,.v 0 2] (bC (fO aR ([({ cF with Kind:=3,Style:=(gD v1 v8).Style,Text:=(gD v1 v8).Text }:aa)]:List aa) (new:=[aw ({ cF with Kind:=3,Style:=(gD v1 v8).Style,Text:=(gD v1 v8).Text }:aa)]) (by simp only[List.map_cons,List.map_nil,dq])) (ag (eu (m:=0) (cv 89 72 48 59 aR (rfl) (d4) h33)) (ay [.v 1 1] (ag (bX 1) bQ))))))))) (ae 2 (bw (hL1 h)))
 ·refine ah 60 h27 (aL 8 ?_);cases h;exact t6
theorem LK(hK:ao K)(hL1:zh M w0 r v1 v2 v3 m1 L1)(h:kt K n v1 v2 v3 L1 v8 v9=some r):BA M w0 r (lO 504::Au M w0 r m1) (EO v1 v2 v3 v8 v9):=by
 unfold kt at h;refine bO 4 5 3 2 (aj 2 (az (bv aA v1) (aM 5 2 ?_)));obtain⟨h25,h⟩|⟨h25,h⟩:=ak h
 ·refine aB 52 h25 (aM 7 2 ?_);obtain⟨h26,h⟩:=aF h;exact az (bi aA aA h26 (cK) ((fun _=>rfl))) (ac (ae 0 (Kc hK hL1 h)))
 ·exact aB 52 h25 (ac (ae 0 (Kc hK hL1 h)))
theorem Tu(hK:ao K)(m:Nat):zh M w0 r v1 v2 v3 m (iV K n v1 v2 v3 m):=by
 induction m with
 | zero=>intro v8 v9 h;cases h
 | succ m ih=>intro v8 v9 h;have h:kt K n v1 v2 v3 (iV K n v1 v2 v3 m) v8 v9=some r:=h;exact bB (LK hK ih h)
theorem B6(hK:ao K)(h:kT K n v1 v2 v3=some r):BA M w0 r [lO 63] (KV v1 v2 v3):=by
 unfold kT at h;exact gc 4 0 3 2 (bI [0,1,4,6,7,8] [4,6] [] (uw 72 6 58 48 59 (ae 0 (ci (p:=pn 252) n (Tu hK n h)))))
theorem Pk(hK:ao K)(h:ki K n v1 v2=some r):aS Tryz.prog 41 [.sl (lm aA v1),iI v2] (fun v s=>v=.tup [.agg (List.set (aw ({ r.1 with Kids:=[] }:aa)) 58 (.ref 72)),iI r.2]∧look 72 s.r=some ⟨48,59,lm aR r.1.Kids⟩):=by
 refine bu (cat Tryz.f41 (pn 1)) Tryz.func41 Tryz.ntmps41 fun M w0=>(bc ⟨[(0,.sl (lm aA v1)),(1,iI v2)],[],[],[]⟩ ?_);unfold ki at h;refine aC 6 7 3 (aj 4 ?_);obtain⟨h1,h⟩:=aF h;refine az (bi aA aA h1 (cK) ((fun _=>rfl))) (ac (aC 2 3 1 (aj 2 ?_)));obtain⟨h2,h⟩:=aF h;refine az (bi aA aA h2 (cK) ((fun _=>rfl))) (ac (aC 6 7 3 (aj 2 (az (bv aA v1) (aM 5 2 ?_)))));obtain⟨h3,h⟩|⟨h3,h⟩:=ak h
 ·refine aB 30 h3 (aM 7 2 ?_);obtain⟨h4,h⟩:=aF h;refine az (bi aA aA h4 (cK) ((fun _=>rfl))) (aM 14 6 ?_);obtain⟨h5,h⟩|⟨h5,h⟩:=ak h
  ·refine aB 39 h5 (aM 16 2 ?_);obtain⟨h6,h⟩:=aF h;exact az (bi aA aA h6 (cK) ((fun _=>rfl))) (ac (ae 0 (B6 hK h)))
  ·exact aB 39 h5 (ac (ae 0 (B6 hK h)))
 ·exact aB 30 h3 (ac (ae 0 (B6 hK h)))
end
structure DB where
 nd:Bool
 b:aa
 y:Value
 kids:List DB
instance:Inhabited DB:=⟨⟨false,cF,.nilIface,[]⟩⟩
def DB.cells(D:DB):List AV:=List.set (aw ({ D.b with Kids:=[] }:aa)) 58 (.vv D.y)
theorem DB.OO(D:DB):D.cells.length=59:=rfl
mutual
def DB.plain:DB→aa
 | ⟨_,b,_,kids⟩=>{ b with Kids:=fm kids }
def fm:List DB→List aa
 | []=>[]
 | d::r=>d.plain::fm r
end
theorem jj:∀l:List DB,fm l=l.map DB.plain
 | []=>rfl
 | d::r=>by simp[fm,jj r]
mutual
def DB.bl:DB→List Nat
 | ⟨nd,_,y,kids⟩=>match nd with|true=>(match bn (some y) with|some g=>[g]|none=>[])++bls kids|false=>[]
def bls:List DB→List Nat
 | []=>[]
 | d::r=>d.bl++bls r
end
theorem y4:∀(l m:List DB),bls (l++m)=bls l++bls m
 | [],m=>rfl
 | d::r,m=>by simp[bls,y4 r m]
theorem gV:∀{l:List DB} {g:Nat},g∈bls l↔∃d∈l,g∈d.bl
 | [],g=>by simp[bls]
 | d::r,g=>by simp[bls,gV (l:=r)]
theorem DB.Gm(D:DB):D.plain={ D.b with Kids:=D.kids.map DB.plain }:=by cases D;simp only[DB.plain,jj]
theorem DB.EX(D:DB):aR D.plain=List.set (aw ({ D.b with Kids:=[] }:aa)) 58 (.sl (lm aR (D.kids.map DB.plain))):=by
 rw[dq,DB.Gm];rfl
theorem Lu{y x:Value}(h:eU (.vv y) x):x=y:=by
 have:=h (fun _=>False) default bm;cases this;rfl
inductive c7 (w:World):DB→Prop
 | leaf (b:aa) (y:Value) (hb:b.Kind≠1) (A:Option Addr) (c:Nat) (hy:y=.slice A 0 c):c7 w ⟨false,b,y,[]⟩
 | node (b:aa) (y:Value) (kids:List DB) (xs:List Value) (h1:w.ownsRow 0 48 59 y kids.length xs) (h2:∀ x∈xs,x.oneCell'=true)
     (h3:∀(j:Nat) (D:DB),kids[j]?=some D→∀(i:Nat) (c:AV),D.cells[i]?=some c→∃x,xs[j*59+i]?=some x∧eU c x) (h4:∀D∈kids,c7 w D):c7 w ⟨true,b,y,kids⟩
theorem GZ{b:aa}{y:Value}{kids:List DB}{D:DB}(h:D∈kids){g:Nat}(hg:g∈D.bl):g∈(⟨true,b,y,kids⟩:DB).bl:=by
 simp only[DB.bl,List.mem_append];exact .inr (gV.2 ⟨D,h,hg⟩)
theorem vW{b:aa}{y:Value}{kids:List DB}{g:Nat}(hg:bn (some y)=some g):g∈(⟨true,b,y,kids⟩:DB).bl:=by
 simp[DB.bl,hg]
theorem c7.bJ{w w':World}{D:DB}(h:c7 w D):(∀g∈D.bl,w'.heap[g]?=w.heap[g]?)→c7 w' D:=by
 induction h with
 | leaf b y hb A c hy=>intro _;exact .leaf b y hb A c hy
 | node b y kids xs h1 h2 h3 h4 ih=>intro hk;exact .node b y kids xs (eD h1 (fun g hg=>hk g (vW hg))) h2 h3 (fun D hD=>ih D hD (fun g hg=>hk g (GZ hD hg)))
theorem c7.lt{w:World}{D:DB}(h:c7 w D):∀g∈D.bl,g<w.heap.size:=by
 induction h with
 | leaf b y hb A c hy=>intro g hg;cases hg
 | node b y kids xs h1 h2 h3 h4 ih =>
   intro g hg;simp only[DB.bl,List.mem_append]at hg;rcases hg with hg|hg
   · cases hb:bn (some y) with
     | none=>rw[hb]at hg;cases hg
     | some g'=>rw[hb]at hg;rw[List.mem_singleton.1 hg];exact Hm h1 hb
   · obtain⟨D,hD,hgD⟩:=gV.1 hg;exact ih D hD g hgD
theorem c7.rel{w:World}{N:Nat→Prop}{D:DB}(h:c7 w D):(∀g∈D.bl,¬ N g)→Rel N w bm (.sl (lm aR (D.kids.map DB.plain))) D.y:=by
 induction h with
 | leaf b y hb A c hy=>intro _;subst hy;exact .sl0 _ _ _
 | node b y kids xs h1 h2 h3 h4 ih =>
   intro hN;obtain⟨hl,⟨hz,hn0⟩|⟨g,cap,cur,hg,hb,hgw,hn,hcap,hsz,htk⟩⟩:=h1
   · have:kids=[]:=List.eq_nil_of_length_eq_zero hn0;subst this;show Rel N w bm (.sl []) y;rw[hz];exact .sl0 _ _ _
   · have hbk:bn (some y)=some g:=by rw[hg];rfl
     have hL:(lm aR (kids.map DB.plain)).length=kids.length:=by simp
     have hget:∀(j:Nat) (e:List AV),(lm aR (kids.map DB.plain))[j]?=some e→∃D,kids[j]?=some D∧e=aR D.plain:=fun j e he=>by
       rw[List.getElem?_map,List.getElem?_map]at he;cases hk:kids[j]? with
       | none=>rw[hk]at he;cases he
       | some D=>rw[hk]at he;injection he with he;exact⟨D,rfl,he.symm⟩
     have hcell:∀(j:Nat) (e:List AV),(lm aR (kids.map DB.plain))[j]?=some e→∀(i:Nat) (x:AV),e[i]?=some x→∃v,xs[j*59+i]?=some v∧Rel N w bm x v:=fun j e he i x hx=>by
       obtain⟨D,hD,rfl⟩:=hget j e he;rw[DB.EX]at hx;have hmem:=List.mem_of_getElem? hD;have hlen:(aw ({ D.b with Kids:=[] }:aa)).length=59:=rfl;by_cases h58:i=58
       · subst h58;rw[List.getElem?_set_self (by rw[hlen];omega)]at hx;injection hx with hx;subst hx
         obtain⟨v,hv,hp⟩:=h3 j D hD 58 (.vv D.y) (by unfold DB.cells;rw[List.getElem?_set_self (by rw[hlen];omega)]);refine⟨v,hv,?_⟩;rw[Lu hp];exact ih D hmem (fun g' hg'=>hN g' (GZ hmem hg'))
       · rw[List.getElem?_set_ne (fun e=>h58 e.symm)]at hx;obtain⟨v,hv,hp⟩:=h3 j D hD i x (by unfold DB.cells;rw[List.getElem?_set_ne (fun e=>h58 e.symm)];exact hx);exact⟨v,hv,hp _ _ _⟩
     have hrel:=Rel.sl (N:=N) (w:=w) bm (lm aR (kids.map DB.plain)) g 0 cap 59 (fun j i=>(xs[j*59+i]?).getD (.bool true)) (fun e he=>by
         obtain⟨b,_,rfl⟩:=List.mem_map.1 he;exact d4 b) (Array.getElem?_eq_some_iff.1 hgw).1 (hN g (vW hbk)) (fun j i=>by
         cases e:xs[j*59+i]? with
         | none=>rfl
         | some v=>exact h2 v (List.mem_of_getElem? e)) (fun j e he i x hx=>by
         obtain⟨v,hv,_⟩:=hcell j e he i x hx;rw[cell_of_row _ _ _ _ 48 (0,0) hgw];have:cur.toList[j*59+i]?=some v:=by
           rw[←htk]at hv;rw[List.getElem?_take]at hv;split at hv
           · exact hv
           · cases hv
         simp only[hv,Option.getD_some];rw[←Array.getElem?_toList,Nat.zero_add];exact this) (fun j e he i x hx=>by
         obtain⟨v,hv,hr⟩:=hcell j e he i x hx;simp only[hv,Option.getD_some];exact hr) (by rw[hL];exact hn)
     rw[hL]at hrel;show Rel N w bm _ y;rw[hg];exact hrel
theorem BQ{N:Nat→Prop}{w:World}{ι:Env}{l:List AV}{c:AV}{y x:Value}{q:Nat}(h:Rel N w ι (.agg (l.set q c)) x)(hq:q<l.length)(hl:((l.set q (.bool true)).all ob)=true)(hc:∀v,Rel N w ι c v→v=y)(hy:y.oneCell'=true):eU (.agg (l.set q (.vv y))) x:=by
 cases h with
 | agg _ _ vs hlen h1 hr =>
   intro N' w' ι';refine .agg _ _ vs (by simpa using hlen) h1 fun i a v ha hv=>?_;rw[List.length_set]at hlen;by_cases hi:i=q
   · subst hi;rw[List.getElem?_set_self hq]at ha;injection ha with ha;subst ha
     have:=hc v (hr i c v (List.getElem?_set_self hq) hv);subst this;exact .vv _ _ hy
   · rw[List.getElem?_set_ne (fun e=>hi e.symm)]at ha;have h9:=hr i a v (by rw[List.getElem?_set_ne (fun e=>hi e.symm)];exact ha) hv;have hs:=List.all_eq_true.1 hl a (List.mem_of_getElem? (i:=i) (by rw[List.getElem?_set_ne (fun e=>hi e.symm)];exact ha));exact vR hs h9
theorem zn{N:Nat→Prop}{w:World}{ι:Env}{id:Nat}{y:Value}(hy:ι id=some y):∀v,Rel N w ι (.ref id) v→v=y:=fun v h=>by
 cases h with
 | ref _ _ A n c h=>rw[hy]at h;injection h with h;exact h.symm
theorem zB{N:Nat→Prop}{w:World}{D:DB}{i:Nat}{c:AV}{x:Value}(hi:D.cells[i]?=some c)(h:Rel N w bm c x):eU c x:=by
 have hlen:(aw ({ D.b with Kids:=[] }:aa)).length=59:=rfl;by_cases h58:i=58
 · subst h58;unfold DB.cells at hi;rw[List.getElem?_set_self (by rw[hlen];omega)]at hi;injection hi with hi;subst hi
   cases h with
   | vv _ _ h1=>exact fun _ _ _=>.vv _ _ h1
 · have hs:ob c=true:=List.all_eq_true.1 (show ((List.set (aw ({ D.b with Kids:=[] }:aa)) 58 (.bool true)).all ob)=true from rfl) c (List.mem_of_getElem? (i:=i) (by
     unfold DB.cells at hi;rw[List.getElem?_set_ne (fun e=>h58 e.symm)]at hi⊢;exact hi))
   exact fun _ _ _=>vR hs h
def DB.dY(D:DB):List AV:=List.set (aw ({ D.b with Kids:=[] }:aa)) 58 (match D.nd with|true=>.vv D.y|false=>.sl [])
theorem DB.GF(D:DB):D.dY.length=59:=rfl
theorem BV{α β:Type}{P:Nat→α→β→Prop}:∀(l:List α) (k:Nat),(∀(j:Nat) (a:α),l[j]?=some a→∃b,P (k+j) a b)→∃m:List β,m.length=l.length∧∀(j:Nat) (a:α),l[j]?=some a→∃b,m[j]?=some b∧P (k+j) a b
 | [],k,_=>⟨[],rfl,fun j a h=>by simp at h⟩
 | a::r,k,h=>by
   obtain⟨b,hb⟩:=h 0 a rfl;obtain⟨m,h1,h2⟩:=BV (P:=P) r (k+1) (fun j a' hj=>by have:=h (j+1) a' (by simpa using hj);rw[show k+1+j=k+(j+1) by omega];exact this);refine⟨b::m,by simp[h1],fun j a' hj=>?_⟩;cases j with
   | zero=>simp at hj;subst hj;exact⟨b,rfl,hb⟩
   | succ j =>
     obtain⟨b',g1,g2⟩:=h2 j a' (by simpa using hj);exact⟨b',by simpa using g1,by rw[show k+(j+1)=k+1+j by omega];exact g2⟩
theorem vr{α β γ:Type}{f:α→γ}{g:β→γ}:∀{l:List α} {m:List β},m.length=l.length→(∀(j:Nat) (a:α),l[j]?=some a→∃b,m[j]?=some b∧g b=f a)→m.map g=l.map f
 | [],[],_,_=>rfl
 | [],_::_,h,_=>by cases h
 | _::_,[],h,_=>by cases h
 | a::r,b::q,h,k=>by
   obtain⟨b',h1,h2⟩:=k 0 a rfl;simp at h1;subst h1;rw[List.map_cons,List.map_cons,h2,vr (by simpa using h) (fun j a' hj=>by simpa using k (j+1) a' (by simpa using hj))]
theorem lv:∀l:List DB,bls l=(l.map DB.bl).flatten
 | []=>rfl
 | d::r=>by simp[bls,lv r]
theorem VP{M:Nat→Prop}{b:aE}{w:World}{ι:Env}{s:AS}(h:HS M b w ι s){id:Nat}{Ds:List DB}(hr:look id s.r=some ⟨48,59,Ds.map DB.dY⟩)(hid:id<TG){y:Value}(hy:ι id=some y)(bx:aa)(hk:∀D∈Ds,(D.nd=true→c7 b.w D∧∀g∈D.bl,M g)∧(D.nd=false→D.kids=[]∧D.b.Kind≠1))(hnd:(bls Ds).Nodup):
   ∃Ds',fm Ds'=fm Ds∧bls Ds'=bls Ds∧c7 w ⟨true,bx,y,Ds'⟩∧(∀g∈bls Ds',M g)∧(⟨true,bx,y,Ds'⟩:DB).bl.Nodup∧(∀g,bn (some y)=some g→b.O g∧g<w.heap.size):=by
 obtain⟨v,xs,e1,e2,e3,e4,e5⟩:=h.arrs id _ hr (by rw[hy];rfl);rw[hy]at e1;injection e1 with e1;subst e1
 have hfalse:∀D:DB,D.nd=false→D.bl=[]:=fun D hD=>by cases D;simp only at hD;subst hD;rfl
 have hM0:∀D∈Ds,∀g∈D.bl,M g:=fun D hD g hg=>by
   cases hq:D.nd with
   | true=>exact((hk D hD).1 hq).2 g hg
   | false=>rw[hfalse D hq]at hg;cases hg
 have step:∀(j:Nat) (D:DB),Ds[j]?=some D→∃D':DB,D'.plain=D.plain∧D'.bl=D.bl∧c7 w D'∧∀(i:Nat) (c:AV),D'.cells[i]?=some c→∃x,xs[(0+j)*59+i]?=some x∧eU c x:=fun j D hD=>by
   have hmem:=List.mem_of_getElem? hD;have hlen:(aw ({ D.b with Kids:=[] }:aa)).length=59:=rfl;have get:∀(i:Nat) (c:AV),D.dY[i]?=some c→∃x,xs[j*59+i]?=some x∧Rel (NN M ι) w bm c x:=fun i c hc=>by
     obtain⟨x,hx,hrx⟩:=e5 j D.dY (by rw[List.getElem?_map,hD];rfl) i c hc;exact⟨x,hx,hrx.flat (by omega)⟩
   cases hq:D.nd with
   | true =>
     have hcel:D.dY=D.cells:=by unfold DB.dY DB.cells;rw[hq]
     refine⟨D,rfl,rfl,((hk D hmem).1 hq).1.bJ fun g hg=>?_,fun i c hc=>?_⟩
     · have hold:=h.old g (((hk D hmem).1 hq).2 g hg);exact h.below.block g hold.1 hold.2
     · obtain⟨x,hx,hrx⟩:=get i c (by rw[hcel];exact hc);exact⟨x,by rw[Nat.zero_add];exact hx,zB hc hrx⟩
   | false =>
     obtain⟨hkids,hkind⟩:=(hk D hmem).2 hq;have hcel:D.dY=List.set (aw ({ D.b with Kids:=[] }:aa)) 58 (.sl []):=by unfold DB.dY;rw[hq]
     obtain⟨x,hx,hrx⟩:=get 58 (.sl []) (by rw[hcel,List.getElem?_set_self (by rw[hlen];omega)]);have hxs:∃A c,x=.slice A 0 c:=by
       cases hrx with
       | sl0 _ A c=>exact⟨A,c,rfl⟩
       | sl _ _ b o c sz val=>exact⟨_,_,rfl⟩
     obtain⟨A,c0,rfl⟩:=hxs;obtain⟨nd,bb,yy,kk⟩:=D;simp only at hq hkids hkind;subst hq;subst hkids;refine⟨⟨false,bb,.slice A 0 c0,[]⟩,rfl,rfl,.leaf bb _ hkind A c0 rfl,fun i c hc=>?_⟩;rw[Nat.zero_add];by_cases h58:i=58
     · subst h58;unfold DB.cells at hc;rw[List.getElem?_set_self (by rw[hlen];omega)]at hc;injection hc with hc;subst hc
       exact⟨_,hx,fun _ _ _=>.vv _ _ rfl⟩
     · have hc':(DB.dY ⟨false,bb,yy,[]⟩)[i]?=some c:=by
         unfold DB.cells at hc;unfold DB.dY;rw[List.getElem?_set_ne (fun e=>h58 e.symm)]at hc⊢;exact hc
       obtain⟨x,hx',hrx'⟩:=get i c hc';exact⟨x,hx',zB hc hrx'⟩
 obtain⟨Ds',hl,hDs⟩:=BV (P:=fun j (D D':DB)=>D'.plain=D.plain∧D'.bl=D.bl∧c7 w D'∧∀(i:Nat) (c:AV),D'.cells[i]?=some c→∃x,xs[j*59+i]?=some x∧eU c x) Ds 0 step;have hpl:fm Ds'=fm Ds:=by
   rw[jj,jj];exact vr hl fun j a ha=>by obtain⟨b,g1,g2,_⟩:=hDs j a ha;exact⟨b,g1,g2⟩
 have hbl:bls Ds'=bls Ds:=by
   rw[lv,lv,vr (f:=DB.bl) (g:=DB.bl) hl fun j a ha=>by obtain⟨b,g1,_,g2,_⟩:=hDs j a ha;exact⟨b,g1,g2⟩]
 have hback:∀(j:Nat) (D':DB),Ds'[j]?=some D'→c7 w D'∧∀(i:Nat) (c:AV),D'.cells[i]?=some c→∃x,xs[j*59+i]?=some x∧eU c x:=fun j D' hD'=>by
   have hjl:j<Ds.length:=by rw[←hl];exact(List.getElem?_eq_some_iff.1 hD').1
   obtain⟨b,g1,g2,g3,g4,g5⟩:=hDs j _ (List.getElem?_eq_getElem hjl);rw[hD']at g1;injection g1 with g1;subst g1
   exact⟨g4,fun i c hc=>by have:=g5 i c hc;rw[Nat.zero_add]at this;exact this⟩
 have hM:∀g∈bls Ds',M g:=fun g hg=>by
   rw[hbl]at hg;obtain⟨D,hD,hgD⟩:=gV.1 hg;exact hM0 D hD g hgD
 refine⟨Ds',hpl,hbl,.node bx y Ds' xs (by rw[hl];simpa using e2) e4 (fun j D hD i c hc=>(hback j D hD).2 i c hc) (fun D hD=>?_),hM,?_,fun g hg=>h.own id g (by rw[hy];exact hg)⟩
 · obtain⟨j,hj⟩:=List.getElem?_of_mem hD;exact(hback j D hj).1
 · simp only[DB.bl];rw[←hbl]at hnd;cases hb:bn (some y) with
   | none=>exact hnd
   | some g =>
     refine List.nodup_cons.2 ⟨fun hg=>?_,hnd⟩;exact h.sep (hM g hg) (by rw[hy];exact hb)
noncomputable section
variable(M:Nat→Prop)(w0:World)(b':aE)(r:aa×Int)(v1:List av)(v2:Int)(v3:Bool)(v8:Int)(v9:List DB)(v10:Bool)(m1:Nat)(L1:Int→(List aa)→Option (aa×Int))
abbrev Bu:Cx:=⟨Tryz.prog,95,M,b'⟩
def QT(r:aa×Int)(w w':World)(v:AV):Prop:=∃D:DB,D.nd=true∧D.plain=r.1∧v=.tup [.agg D.cells,iI r.2]∧c7 w' D∧(∀g∈D.bl,w.heap.size≤g∧g<w'.heap.size)∧D.bl.Nodup
abbrev qT:=bodyPost Tryz.prog Tryz.f41 (fun e w'=>∃x v,e=.returned x∧Below w0.heap.size w0 w'∧QT r w0 w' v∧eU v x)
abbrev yh(ks:List aq)(s:AS):=VE (Bu M b') (qT w0 r) ks .normal s
structure FI(M:Nat→Prop)(w0:World)(b':aE)(Ds:List DB):Prop where
 gr:d6 (fun _=>False) (jb w0) b'
 ok:∀D∈Ds,(D.nd=true→c7 b'.w D∧∀g∈D.bl,M g∧w0.heap.size≤g)∧(D.nd=false→D.kids=[]∧D.b.Kind≠1)
 nodup:(bls Ds).Nodup
theorem FI.bl{M:Nat→Prop}{w0:World}{b':aE}{Ds:List DB}(h:FI M w0 b' Ds):∀g∈bls Ds,M g∧w0.heap.size≤g:=fun g hg=>by
 obtain⟨D,hD,hgD⟩:=gV.1 hg;cases hq:D.nd with
 | true=>exact((h.ok D hD).1 hq).2 g hgD
 | false=>obtain⟨nd,b,y,k⟩:=D;simp only at hq;subst hq;cases hgD
theorem FI.add{M:Nat→Prop}{w0 w:World}{b' b2:aE}{Ds:List DB}(h:FI M w0 b' Ds)(hM:∀k,M k→k<b'.w.heap.size∧¬ b'.G k)(hsz:b'.w.heap.size≤w.heap.size)(hg:d6 (fun _=>False) b' b2){D:DB}(hnd:D.nd=true)(hok:c7 b2.w D)(hbl:∀g∈D.bl,w.heap.size≤g∧g<b2.w.heap.size)(hno:D.bl.Nodup):FI (fun c=>M c∨c∈D.bl) w0 b2 (Ds++[D]):=by
 refine⟨h.gr.trans hg,fun D' hD'=>?_,?_⟩
 · rcases List.mem_append.1 hD' with hD'|hD'
   · refine⟨fun hq=>⟨((h.ok D' hD').1 hq).1.bJ fun g hgD=>?_,fun g hgD=>⟨.inl (((h.ok D' hD').1 hq).2 g hgD).1,(((h.ok D' hD').1 hq).2 g hgD).2⟩⟩,(h.ok D' hD').2⟩;have:=hM g (((h.ok D' hD').1 hq).2 g hgD).1;exact hg.block g this.1 this.2 (fun h=>h)
   · rw[List.mem_singleton.1 hD'];exact⟨fun _=>⟨hok,fun g hgD=>⟨.inr hgD,Nat.le_trans h.gr.size (Nat.le_trans hsz (hbl g hgD).1)⟩⟩,fun hq=>by rw[hnd]at hq;cases hq⟩
 · rw[y4];refine List.nodup_append.2 ⟨h.nodup,by simpa[bls]using hno,fun a ha b hb=>?_⟩;have h1:=hM a (h.bl a ha).1;have h2:=hbl b (by simpa[bls]using hb);omega
theorem FI.TT{M:Nat→Prop}{w0:World}{b':aE}{Ds:List DB}(h:FI M w0 b' Ds){b:aa}{y:Value}(hb:b.Kind≠1):FI M w0 b' (Ds++[⟨false,b,y,[]⟩]):=by
 refine⟨h.gr,fun D' hD'=>?_,?_⟩
 · rcases List.mem_append.1 hD' with hD'|hD'
   · exact h.ok D' hD'
   · rw[List.mem_singleton.1 hD'];exact⟨fun hq=>(by cases hq),fun _=>⟨rfl,hb⟩⟩
 · rw[y4];have:bls [(⟨false,b,y,[]⟩:DB)]=[]:=rfl;rw[this,List.append_nil];exact h.nodup
theorem Q3{M:Nat→Prop}{w0 w:World}{b':aE}{ι:Env}{s:AS}{Ds:List DB}{b:aa}{n:Int}{x:Value}(hf:FI M w0 b' Ds)(hs:HS M b' w ι s)(hr:look 72 s.r=some ⟨48,59,Ds.map DB.dY⟩)(hx:Rel (NN M ι) w ι (.tup [.agg (List.set (aw ({ b with Kids:=[] }:aa)) 58 (.ref 72)),iI n]) x):
   ∃v,Below w0.heap.size w0 w∧QT ({ b with Kids:=Ds.map DB.plain },n) w0 w v∧eU v x:=by
 cases hx with
 | tup _ _ vs hlen hr9 =>
   match vs,hlen with
   | [p,q],_ =>
     have hp:=hr9 0 _ p rfl rfl;have hq:=hr9 1 _ q rfl rfl;have hy:∃y,ι 72=some y∧y.oneCell'=true:=by
       cases hp with
       | agg _ _ us hl h1 hrr =>
         have hlt:58<us.length:=by rw[←hl];show 58<59;omega
         have h9:=hrr 58 (.ref 72) _ (List.getElem?_set_self (show 58<59 by omega)) (List.getElem?_eq_getElem hlt);have h8:=h1 _ (List.getElem_mem hlt);obtain⟨y,hy⟩:=fL 72 _ _ _ _ h9;exact⟨y,hy,by rw[←zn hy _ h9];exact h8⟩
     obtain⟨y,hy,hy1⟩:=hy;obtain⟨Ds',h1,h2,h3,h4,h5,h6⟩:=VP hs hr (by decide) hy ({ b with Kids:=[] }:aa) (fun D hD=>⟨fun hq=>⟨((hf.ok D hD).1 hq).1,fun g hg=>(((hf.ok D hD).1 hq).2 g hg).1⟩,(hf.ok D hD).2⟩) hf.nodup;refine⟨.tup [.agg (DB.cells ⟨true,{ b with Kids:=[] },y,Ds'⟩),iI n],⟨hs.below.os.trans hf.gr.os,hs.below.tape.trans hf.gr.tape,hs.below.output.trans hf.gr.output,Nat.le_trans hf.gr.size hs.below.size,fun k hk=>?_⟩,⟨⟨true,{ b with Kids:=[] },y,Ds'⟩,rfl,?_,rfl,h3,fun g hg=>?_,h5⟩,fun N w2 ι2=>.tup _ _ [p,q] rfl fun i a v ha hv=>?_⟩
     · have hn:¬ b'.G k:=fun hG=>by
         rcases hf.gr.O k (.inr hG)with h9|h9
         · exact absurd hk (Nat.not_lt.2 h9)
         · exact h9
       exact(hs.below.block k (Nat.lt_of_lt_of_le hk hf.gr.size) hn).trans (hf.gr.block k hk (fun h=>h) (fun h=>h))
     · show({ b with Kids:=fm Ds' }:aa)=_;rw[h1,jj]
     · simp only[DB.bl,List.mem_append]at hg;rcases hg with hg|hg
       · cases hb:bn (some y) with
         | none=>rw[hb]at hg;cases hg
         | some g' =>
           rw[hb]at hg;rw[List.mem_singleton.1 hg];obtain⟨g1,g2⟩:=h6 g' hb;rcases hf.gr.O g' g1 with g3|g3
           · exact⟨g3,g2⟩
           · exact g3.elim
       · rw[h2]at hg;have h9:=hf.bl g hg;exact⟨h9.2,Nat.lt_of_lt_of_le (hs.old g h9.1).1 hs.below.size⟩
     · match i,ha,hv with
       | 0,ha,hv =>
         injection ha with ha;injection hv with hv;subst ha;subst hv
         exact BQ hp (by show 58<59;omega) rfl (zn hy) hy1 N w2 ι2
       | 1,ha,hv =>
         injection ha with ha;injection hv with hv;subst ha;subst hv
         exact vR rfl hq
abbrev me(n:Nat):aq:=.c (cat Tryz.f41 (pn n))
abbrev Cu:List aq:=[.b 0,me 127]
abbrev xv:List aq:=kl (Bu M b') (qT w0 r) Cu (cat Tryz.f41 (pn 504)) m1::Cu
def Sl:AS:=⟨[(0,.sl (lm aA v1)),(1,iI v8),(4,.ptr 4 0),(6,.ptr 6 0),(7,.int .u8 ((gD v1 v2).Depth)),(8,.bool v3),(60,.bool v10)],[(4,List.set (aw cF) 58 (.nils)),(6,List.set (aw ({ cF with Kind:=1,Node:=(ab (10+v2)),Style:=(gD v1 v2).Style }:aa)) 58 (.ref 72))],[(72,⟨48,59,lm DB.dY v9⟩)],[4,6,72]⟩
def FY:AS:=⟨[(0,.sl (lm aA v1)),(1,iI v8),(4,.ptr 4 0),(6,.ptr 6 0),(7,.int .u8 ((gD v1 v2).Depth)),(8,.bool v3)],[(4,List.set (aw cF) 58 (.nils)),(6,List.set (aw ({ cF with Kind:=1,Node:=(ab (10+v2)),Style:=(gD v1 v2).Style }:aa)) 58 (.ref 72))],[(72,⟨48,59,lm DB.dY v9⟩)],[4,6,72]⟩
def Nm:AS:=⟨[(0,.sl (lm aA v1)),(1,iI (ab (v2+1))),(4,.ptr 4 0),(6,.ptr 6 0),(7,.int .u8 ((gD v1 v2).Depth)),(8,.bool v3)],[(4,List.set (aw cF) 58 (.nils)),(6,List.set (aw ({ cF with Kind:=1,Node:=(ab (10+v2)),Style:=(gD v1 v2).Style }:aa)) 58 (.nils))],[],[4,6]⟩
abbrev As:Prop:=∀{M:Nat→Prop} {b':aE} {v8:Int} {v9:(List DB)},FI M w0 b' v9→L1 v8 (v9.map DB.plain)=some r→LP (Bu M b') (qT w0 r) Cu (cat Tryz.f41 (pn 504)) m1 (FY v1 v2 v3 v8 v9)
def KD(K:Kn):Prop:=∀{l:List av} {a:Int} {r:aa×Int},K.gY l a=some r→s8 Tryz.prog 41 [.sl (lm aA l),iI a] (QT r)
variable{M w0 b' r v1 v2 v3 v8 v9 v10 m1 L1}{K:Kn}{n:Nat}
theorem Ks(hK:KD K)(hL1:As w0 r v1 v2 v3 m1 L1)(hf:FI M w0 b' v9)(h:jN K n v1 v2 v3 v8 (v9.map DB.plain) L1 v10=some r):yh M w0 b' r (me 2017::me 1009::xv M w0 b' r m1) (Sl v1 v2 v3 v8 v9 v10):=by
 unfold jN at h;obtain⟨h27,h⟩|⟨h27,h⟩:=ak h
 ·refine ah 60 h27 (bK (ks':=me 8073::me 4037 :: .b 1::xv M w0 b' r m1) 6 ?_);obtain⟨h28,h⟩|⟨h28,h⟩:=ak h
  ·refine ah 61 h28 (aC 4 5 2 (aj 2 ?_));obtain⟨v11,h29,h⟩:=bind_some h;refine Ge (hK h29) (fun v w b2 hQ hM hsz hG hgr=>?_);obtain⟨⟨nd,Db,Dy,Dk⟩,hnd,hpl,hv,hok,hbl,hno⟩:=hQ;simp only at hnd;subst hnd;subst hv;refine⟨fun g=>g∈(⟨true,Db,Dy,Dk⟩:DB).bl,hbl,?_⟩;have hf2:=hf.add hM hsz hgr rfl hok hbl hno;refine ac (aC 2 3 1 (aj 3 (az (fO DB.dY ([⟨true,Db,Dy,Dk⟩]:List DB) (new:=[DB.cells ⟨true,Db,Dy,Dk⟩]) rfl) ?_)));obtain⟨h30,h⟩:=aF h;rw[List.length_map]at h30;refine az (cv 72 72 48 59 DB.dY (rfl) (DB.GF) (M:=[⟨true,Db,Dy,Dk⟩]) h30) (ac ?_);have h':L1 v11.2 ((v9++[(⟨true,Db,Dy,Dk⟩:DB)]).map DB.plain)=some r:=by rw[List.map_append,List.map_cons,List.map_nil,hpl];exact h
   exact ae 5 (bw (hL1 hf2 h'))
  ·refine ah 61 h28 (fb 2 3 3 (bI [0,1,4,6,7,8] [4,6] [72] ?_));obtain⟨h31,h⟩:=aF h;obtain⟨h32,h⟩:=aF h;obtain⟨h33,h⟩:=aF h;rw[List.length_map]at h33;have h':L1 (ab (v8+1)) ((v9++[(⟨false,({ cF with Kind:=3,Style:=(gD v1 v8).Style,Text:=(gD v1 v8).Text }:aa),.nilIface,[]⟩:DB)]).map DB.plain)=some r:=by rw[List.map_append];exact h
   exact bP 2 (nu 75 [.ptr 6 58,.ref 72,.sl (lm aA v1),iI v8,.cptr (aA (gD v1 v8)),.cptr (List.drop 5 (aA (gD v1 v8))),.agg (aV ((gD v1 v8).Style)),.sl (lm aA v1),iI v8,.cptr (aA (gD v1 v8)),.cptr (List.drop 2 (aA (gD v1 v8))),.str ((gD v1 v8).Text),.agg (List.set (aw ({ cF with Kind:=3,Style:=(gD v1 v8).Style,Text:=(gD v1 v8).Text }:aa)) 58 (.nils)),.sl (lm DB.dY [(⟨false,({ cF with Kind:=3,Style:=(gD v1 v8).Style,Text:=(gD v1 v8).Text }:aa),.nilIface,[]⟩:DB)])]++nu 90 [.ptr 6 58]) [] [] [fi 89 72 ⟨48,59,lm DB.dY (v9++[(⟨false,({ cF with Kind:=3,Style:=(gD v1 v8).Style,Text:=(gD v1 v8).Text }:aa),.nilIface,[]⟩:DB)])⟩,bZ Tryz.prog 95 Tryz.f41 (pn 8074) 16] (ay [.v 0 2,.v 0 1,.v 0 2,.v 0 2] (ag (fv (lo:=0) (k:=2) (c9 ⟨(by kernel_rfl),(dd (bi aA aA h31 (cK) ((fun _=>rfl))) (by kernel_rfl))⟩ (c9 ⟨(by kernel_rfl),(dd (bi aA aA h31 (cK) ((fun _=>rfl))) (by kernel_rfl))⟩ fR))) (ay [.v 0 2,.v 0 2,.v 0 2,.v 0 2] (ag (fv (lo:=0) (k:=2) (c9 ⟨(by kernel_rfl),(dd (bi aA aA h32 (cK) ((fun _=>rfl))) (by kernel_rfl))⟩ (c9 ⟨(by kernel_rfl),(dd (bi aA aA h32 (cK) ((fun _=>rfl))) (by kernel_rfl))⟩ fR))) (ay [.v 0 2,.v 0 2,.v 0 2] (bC (fO DB.dY ([⟨false,({ cF with Kind:=3,Style:=(gD v1 v8).Style,Text:=(gD v1 v8).Text }:aa),.nilIface,[]⟩]:List DB) (new:=[DB.dY ⟨false,({ cF with Kind:=3,Style:=(gD v1 v8).Style,Text:=(gD v1 v8).Text }:aa),.nilIface,[]⟩]) rfl) (ag (eu (m:=0) (cv 89 72 48 59 DB.dY (rfl) (DB.GF) (M:=[(⟨false,({ cF with Kind:=3,Style:=(gD v1 v8).Style,Text:=(gD v1 v8).Text }:aa),.nilIface,[]⟩:DB)]) h33)) (ay [.v 1 1] (ag (bX 1) bQ))))))))) (ae 2 (bw (hL1 (hf.TT (by show(3:Int)≠1;omega)) h')))
 ·refine ah 60 h27 (aL 8 ?_);cases h;refine om (l:=[.agg (List.set (aw ({ (⟨1,(ab (10+v2)),(gD v1 v2).Style,⟨#[]⟩,0,0,[]⟩:aa)with Kids:=[] }:aa)) 58 (.ref 72)),iI v8]) (by kernel_rfl) (fun w ι x hs hx=>?_);obtain⟨v,g1,g2,g3⟩:=Q3 hf hs (by kernel_rfl) hx;exact⟨x,v,rfl,g1,g2,g3⟩
theorem VJ(hK:KD K)(hL1:As w0 r v1 v2 v3 m1 L1)(hf:FI M w0 b' v9)(h:kt K n v1 v2 v3 L1 v8 (v9.map DB.plain)=some r):yh M w0 b' r (me 504::xv M w0 b' r m1) (FY v1 v2 v3 v8 v9):=by
 unfold kt at h;refine bO 4 5 3 2 (aj 2 (az (bv aA v1) (aM 5 2 ?_)));obtain⟨h25,h⟩|⟨h25,h⟩:=ak h
 ·refine aB 52 h25 (aM 7 2 ?_);obtain⟨h26,h⟩:=aF h;exact az (bi aA aA h26 (cK) ((fun _=>rfl))) (ac (ae 0 (Ks hK hL1 hf h)))
 ·exact aB 52 h25 (ac (ae 0 (Ks hK hL1 hf h)))
theorem LJ(hK:KD K)(m:Nat):As w0 r v1 v2 v3 m (iV K n v1 v2 v3 m):=by
 induction m with
 | zero=>intro M b' v8 v9 hf h;cases h
 | succ m ih=>intro M b' v8 v9 hf h;have h:kt K n v1 v2 v3 (iV K n v1 v2 v3 m) v8 (v9.map DB.plain)=some r:=h;exact bB (VJ hK ih hf h)
theorem AO(hK:KD K)(hf:FI M w0 b' [])(h:kT K n v1 v2 v3=some r):yh M w0 b' r [me 63] (Nm v1 v2 v3):=by
 unfold kT at h;exact gc 4 0 3 2 (bI [0,1,4,6,7,8] [4,6] [] (uw 72 6 58 48 59 (ae 0 (ci (p:=pn 252) n (LJ hK n hf h)))))
theorem OS(hK:KD K)(h:ki K n v1 v2=some r):s8 Tryz.prog 41 [.sl (lm aA v1),iI v2] (QT r):=by
 refine Qe (c:=cat Tryz.f41 (pn 1)) Tryz.func41 (by kernel_rfl) _ Tryz.ntmps41 (of_decide_eq_true (by kernel_rfl)) fun M w0=>?_;have hf:FI M w0 (jb w0) []:=⟨.refl _ _,fun D hD=>(by cases hD),List.nodup_nil⟩;refine bc ⟨[(0,.sl (lm aA v1)),(1,iI v2)],[],[],[]⟩ ?_;unfold ki at h;refine aC 6 7 3 (aj 4 ?_);obtain⟨h1,h⟩:=aF h;refine az (bi aA aA h1 (cK) ((fun _=>rfl))) (ac (aC 2 3 1 (aj 2 ?_)));obtain⟨h2,h⟩:=aF h;refine az (bi aA aA h2 (cK) ((fun _=>rfl))) (ac (aC 6 7 3 (aj 2 (az (bv aA v1) (aM 5 2 ?_)))));obtain⟨h3,h⟩|⟨h3,h⟩:=ak h
 ·refine aB 30 h3 (aM 7 2 ?_);obtain⟨h4,h⟩:=aF h;refine az (bi aA aA h4 (cK) ((fun _=>rfl))) (aM 14 6 ?_);obtain⟨h5,h⟩|⟨h5,h⟩:=ak h
  ·refine aB 39 h5 (aM 16 2 ?_);obtain⟨h6,h⟩:=aF h;exact az (bi aA aA h6 (cK) ((fun _=>rfl))) (ac (ae 0 (AO hK hf h)))
  ·exact aB 39 h5 (ac (ae 0 (AO hK hf h)))
 ·exact aB 30 h3 (ac (ae 0 (AO hK hf h)))
theorem Jx:∀(m:Nat) {l:List av} {a:Int} {r:aa×Int},gJ K n m l a=some r→s8 Tryz.prog 41 [.sl (lm aA l),iI a] (QT r)
 | 0,_,_,_,h=>by cases h
 | m+1,l,a,r,h=>OS (K:={ K with gY:=gJ K n m }) (fun h=>Jx m h) h
end
theorem HX{f:aa→Option aa}:∀{l m:List aa},jd f l=some m→m.length=l.length∧∀(j:Nat) (k:aa),l[j]?=some k→∃k',m[j]?=some k'∧(if (k.Kind == 1)=true then f k else some k)=some k'
 | [],m,h=>by injection h with h;subst h;exact⟨rfl,fun j k hk=>by simp at hk⟩
 | k::r,m,h=>by
   obtain⟨k',h1,h⟩:=bind_some h;obtain⟨r',h2,h⟩:=bind_some h;injection h with h;subst h
   obtain⟨g1,g2⟩:=HX h2;refine⟨by simp[g1],fun j q hq=>?_⟩;cases j with
   | zero=>simp at hq;subst hq;exact⟨k',rfl,h1⟩
   | succ j=>simpa using g2 j q (by simpa using hq)
theorem Kr:∀{l:List DB} {i j:Nat} {a b:DB} {g:Nat},(bls l).Nodup→i≠j→l[i]?=some a→l[j]?=some b→g∈a.bl→g∈b.bl→False
 | [],i,j,a,b,g,_,_,h,_,_,_=>by simp at h
 | d::r,i,j,a,b,g,hn,hij,hi,hj,ha,hb=>by
   have hn':(d.bl++bls r).Nodup:=hn;obtain⟨n1,n2,n3⟩:=List.nodup_append.1 hn';cases i with
   | zero =>
     cases j with
     | zero=>exact hij rfl
     | succ j =>
       simp at hi hj;subst hi;exact n3 g ha g (gV.2 ⟨b,List.mem_of_getElem? hj,hb⟩) rfl
   | succ i =>
     cases j with
     | zero =>
       simp at hi hj;subst hj;exact n3 g hb g (gV.2 ⟨a,List.mem_of_getElem? hi,ha⟩) rfl
     | succ j=>exact Kr (i:=i) (j:=j) n2 (fun e=>hij (by omega)) (by simpa using hi) (by simpa using hj) ha hb
structure DI(M:Nat→Prop)(w0:World)(y:Value)(b':aE)(Ds X:List DB):Prop where
 gr:d6 (fun g=>g∈bls Ds) (sr w0 700 y) b'
 ok:∀D∈X,c7 b'.w D
 sub:∀g∈bls Ds,M g
 bl:X.map DB.bl=Ds.map DB.bl
theorem DI.bls{M:Nat→Prop}{w0:World}{y:Value}{b':aE}{Ds X:List DB}(h:DI M w0 y b' Ds X):bls X=bls Ds:=by rw[lv,lv,h.bl]
theorem DI.put{M:Nat→Prop}{w0:World}{y:Value}{b' b2:aE}{Ds X:List DB}(h:DI M w0 y b' Ds X)(hn:(Go.Proofs.YtocgkfoifehcbaaGreat.bls Ds).Nodup){i:Nat}{D D':DB}(hi:X[i]?=some D)(hM:∀k,M k→k<b'.w.heap.size∧¬ b'.G k)(hg:d6 (fun g=>g∈D.bl) b' b2)(hok:c7 b2.w D')(hbl:D'.bl=D.bl):DI M w0 y b2 Ds (X.set i D'):=by
 have hmem:∀g∈D.bl,g∈Go.Proofs.YtocgkfoifehcbaaGreat.bls Ds:=fun g hgD=>by rw[←h.bls];exact gV.2 ⟨D,List.mem_of_getElem? hi,hgD⟩
 refine⟨h.gr.trans (hg.mono hmem),fun Dj hDj=>?_,h.sub,?_⟩
 · obtain⟨j,hj⟩:=List.getElem?_of_mem hDj;by_cases e:i=j
   · subst e;rw[List.getElem?_set_self (List.getElem?_eq_some_iff.1 hi).1]at hj;injection hj with hj;subst hj;exact hok
   · rw[List.getElem?_set_ne e]at hj;refine (h.ok Dj (List.mem_of_getElem? hj)).bJ fun g hgj=>?_;have hgM:g∈Go.Proofs.YtocgkfoifehcbaaGreat.bls X:=gV.2 ⟨Dj,List.mem_of_getElem? hj,hgj⟩;have:=hM g (h.sub g (by rw[←h.bls];exact hgM));exact hg.block g this.1 this.2 (fun hgi=>Kr (by rw[h.bls];exact hn) e hi hj hgi hgj)
 · rw [←h.bl,List.map_set,hbl];exact List.ext_getElem? fun k=>by
     rw[List.getElem?_set];split
     · rename_i e;subst e;have:=(List.getElem?_eq_some_iff.1 hi).1;rw[List.length_map,if_pos this,List.getElem?_map,hi];rfl
     · rfl
theorem wk{M:Nat→Prop}{w0 w:World}{b':aE}{ι:Env}{s:AS}{Ds X:List DB}{b:aa}{y x:Value}(hf:DI M w0 y b' Ds X)(hs:HS M b' w ι s)(hr:look 700 s.r=some ⟨48,59,X.map DB.cells⟩)(hy1:y.oneCell'=true)(hx:Rel (NN M ι) w ι (.agg (List.set (aw ({ b with Kids:=[] }:aa)) 58 (.ref 700))) x):
   w.os=w0.os∧w.tape=w0.tape∧w.output=w0.output∧w0.heap.size≤w.heap.size∧(∀k,k<w0.heap.size→¬ k∈(⟨true,{ b with Kids:=[] },y,Ds⟩:DB).bl→w.heap[k]?=w0.heap[k]?)∧c7 w ⟨true,{ b with Kids:=[] },y,X⟩∧eU (.agg (DB.cells ⟨true,{ b with Kids:=[] },y,X⟩)) x:=by
 have hy:ι 700=some y:=(hs.pin 700 y (by rw[hf.gr.pv];simp[sr])).1;refine⟨hs.below.os.trans hf.gr.os,hs.below.tape.trans hf.gr.tape,hs.below.output.trans hf.gr.output,Nat.le_trans hf.gr.size hs.below.size,fun k hk hn=>?_,?_,?_⟩
 · have hnG:¬ (sr w0 700 y).G k:=fun hG=>hn (vW hG);have hnE:¬ k∈bls Ds:=fun hE=>hn (by simp only [DB.bl,List.mem_append]; exact .inr hE);have hnb:¬ b'.G k:=fun hG=>by
     rcases hf.gr.O k (.inr hG)with h9|h9
     · exact absurd hk (Nat.not_lt.2 h9)
     · exact hnG h9
   exact(hs.below.block k (Nat.lt_of_lt_of_le hk hf.gr.size) hnb).trans (hf.gr.block k hk hnG hnE)
 · obtain⟨v,xs,e1,e2,e3,e4,e5⟩:=hs.arrs 700 _ hr (by rw[hy];rfl);rw[hy]at e1;injection e1 with e1;subst e1
   refine .node _ y X xs (by simpa using e2) e4 (fun j D hD i c hc=>?_) (fun D hD=>(hf.ok D hD).bJ fun g hg=>?_)
   · obtain⟨x,hx,hrx⟩:=e5 j D.cells (by rw[List.getElem?_map,hD];rfl) i c hc;exact⟨x,hx,zB hc (hrx.flat (by decide))⟩
   · have hold:=hs.old g (hf.sub g (by rw[←hf.bls];exact gV.2 ⟨D,hD,hg⟩));exact hs.below.block g hold.1 hold.2
 · exact BQ hx (by show 58<59;omega) rfl (zn hy) hy1
noncomputable section
variable(M:Nat→Prop)(w0:World)(b':aE)(l:List av)(b:aa)(y:Value)(Ds Ds' X:List DB)(v5:Bool)(v6:Int)(Dz:DB)(m1:Nat)
abbrev yE:Cx:=⟨Tryz.prog,52,M,b'⟩
abbrev qR:=bodyPost Tryz.prog Tryz.f42 (fun e w'=>∃x,e=.returned x∧w'.os=w0.os∧w'.tape=w0.tape∧w'.output=w0.output∧w0.heap.size≤w'.heap.size∧(∀k,k<w0.heap.size→¬ k∈(⟨true,{ b with Kids:=[] },y,Ds⟩:DB).bl→w'.heap[k]?=w0.heap[k]?)∧c7 w' Dz∧eU (.agg (DB.cells Dz)) x)
abbrev Vi(ks:List aq)(s:AS):=VE (yE M b') (qR w0 b y Ds Dz) ks .normal s
abbrev fA(n:Nat):aq:=.c (cat Tryz.f42 (pn n))
abbrev RR:List aq:=[.b 0,fA 15]
abbrev TR:List aq:=kl (yE M b') (qR w0 b y Ds Dz) RR (cat Tryz.f42 (pn 116)) m1::RR
def sR:AS:=⟨[(1,.sl (lm aA l)),(2,.ptr 2 0),(4,.ptr 4 0),(5,.bool v5),(6,iI v6)],[(2,List.set (aw ({ b with Kids:=[] }:aa)) 58 (.ref 700)),(4,List.set (aw cF) 58 (.nils))],[(700,⟨48,59,lm DB.cells X⟩)],[2,4,700,1000700,700]⟩
variable{M w0 b' l b y Ds Ds' X v5 v6 Dz m1}
theorem Ur(hf:DI M w0 y b' Ds X)(hy1:y.oneCell'=true){b2:aa}(hz:Dz=⟨true,{ b2 with Kids:=[] },y,X⟩)(h:gP l b [] v5=some b2):Vi M w0 b' b y Ds Dz [fA 15] (sR l b X v5 v6):=by
 refine bK (ks':=[fA 30,fA 31]) 1 (aj 4 (ac ?_));cases v5 with
 | false =>
   unfold gP at h;have hb:=Option.some.inj h;subst hb;subst hz;refine aL 8 ?_;refine om (l:=[.agg (List.set (aw ({ b with Kids:=[] }:aa)) 58 (.ref 700))]) (by kernel_rfl) (fun w ι x hs hx=>?_);obtain⟨g1,g2,g3,g4,g5,g6,g7⟩:=wk hf hs (by kernel_rfl) hy1 hx;exact⟨x,rfl,g1,g2,g3,g4,g5,g6,g7⟩
 | true =>
   unfold gP at h;refine bK (ks':=[fA 124,fA 125,fA 63]) 2 (aj 4 ?_);obtain⟨h1,h⟩|⟨h1,h⟩:=ak h
   · refine aB 39 h1 ?_;refine aM 8 4 ?_;obtain⟨h2,h⟩:=aF h;refine az (bi aA aA h2 (cK) ((fun _=>rfl))) (aM 13 4 ?_);obtain⟨h3,h⟩|⟨h3,h⟩:=ak h
     · refine aB 48 h3 ?_;refine ac ?_;have hb:=Option.some.inj h;subst hb;subst hz;refine aL 5 ?_;refine om (l:=[.agg (List.set (aw ({ ({ b with Kind:=6 }:aa)with Kids:=[] }:aa)) 58 (.ref 700))]) (by kernel_rfl) (fun w ι x hs hx=>?_);obtain⟨g1,g2,g3,g4,g5,g6,g7⟩:=wk (b:={ b with Kind:=6 }) hf hs (by kernel_rfl) hy1 hx;exact⟨x,rfl,g1,g2,g3,g4,g5,g6,g7⟩
     · refine aB 48 h3 ?_;refine ac ?_;have hb:=Option.some.inj h;subst hb;subst hz;refine aL 5 ?_;refine om (l:=[.agg (List.set (aw ({ b with Kids:=[] }:aa)) 58 (.ref 700))]) (by kernel_rfl) (fun w ι x hs hx=>?_);obtain⟨g1,g2,g3,g4,g5,g6,g7⟩:=wk hf hs (by kernel_rfl) hy1 hx;exact⟨x,rfl,g1,g2,g3,g4,g5,g6,g7⟩
   · refine aB 39 h1 ?_;refine ac ?_;have hb:=Option.some.inj h;subst hb;subst hz;refine aL 5 ?_;refine om (l:=[.agg (List.set (aw ({ b with Kids:=[] }:aa)) 58 (.ref 700))]) (by kernel_rfl) (fun w ι x hs hx=>?_);obtain⟨g1,g2,g3,g4,g5,g6,g7⟩:=wk hf hs (by kernel_rfl) hy1 hx;exact⟨x,rfl,g1,g2,g3,g4,g5,g6,g7⟩
def ue(l:List av)(D D':DB):Prop:=D'.bl=D.bl∧((D.b.Kind == 1)=true→lN Tryz.prog 42 [.agg D.cells,.sl (lm aA l)] (fun g=>g∈D.bl) (fun w=>c7 w D) (.agg D'.cells) (fun w=>c7 w D'))∧((D.b.Kind == 1)=false→D'=D)
structure Mx(Ds Ds' X:List DB)(i:Nat)(v5:Bool):Prop where
 len:X.length=Ds.length
 le:i≤Ds.length
 lo:∀j,j<i→X[j]?=Ds'[j]?
 hi:∀j,i≤j→X[j]?=Ds[j]?
 blocks:v5=(Ds.take i).any fun D=>D.b.Kind == 1
theorem Ta(hn:(bls Ds).Nodup)(hlen:Ds'.length=Ds.length)(hto:∀(j:Nat) (D D':DB),Ds[j]?=some D→Ds'[j]?=some D'→ue l D D')(hmax:Ds.length≤maxLen)(hy1:y.oneCell'=true){b2:aa}(hz:Dz=⟨true,{ b2 with Kids:=[] },y,Ds'⟩)(h:gP l b [] (Ds.any fun D=>D.b.Kind == 1)=some b2):
   ∀(m:Nat) {M:Nat→Prop} {b':aE} {X:List DB} {i:Nat} {v5:Bool} {v6:Int},v6=(i:Int)→Mx Ds Ds' X i v5→DI M w0 y b' Ds X→Ds.length<m+i→LP (yE M b') (qR w0 b y Ds Dz) RR (cat Tryz.f42 (pn 116)) m (sR l b X v5 v6):=by
 intro m
 induction m with
 | zero=>intro M b' X i v5 v6 _ hX _ hm;have:=hX.le;omega
 | succ m ih =>
   intro M b' X i v5 v6 hi hX hf hm;refine bB (bK (ks':=fA 464::fA 465::fA 233::TR M w0 b' b y Ds Dz m) 2 (aj 3 (az (bv DB.cells X) (aM 5 1 ?_))));by_cases hlt:i<Ds.length
   · have h12:decide (v6<(X.length:Int))=true:=decide_eq_true (by rw [hX.len]; omega);refine aB 12 h12 (ac ?_);have hXi:=hX.hi i (Nat.le_refl _);have hDs:Ds[i]?=some (Ds[i]'hlt):=List.getElem?_eq_getElem hlt;have hDs':Ds'[i]?=some (Ds'[i]'(by omega)):=List.getElem?_eq_getElem _;generalize Ds[i]'hlt=D at hDs;generalize Ds'[i]'(by omega:i<Ds'.length)=D' at hDs';rw [hDs] at hXi;have hget:X.getD v6.toNat default=D:=by
       rw[hi,List.getD_eq_getElem?_getD,Int.toNat_natCast,hXi];rfl
     have hinb:aX v6 X.length=true:=by
       unfold aX;rw[Bool.and_eq_true];exact⟨decide_eq_true (by omega),decide_eq_true (by rw[hX.len];omega)⟩
     have hw:ab (v6+1)=((i+1:Nat):Int):=by
       rw[hi];unfold maxLen at hmax;have:(0:Int)≤(i:Int)+1∧(i:Int)+1<9223372036854775808:=by omega
       unfold ab;rw[IntKind.wrap_i64];omega
     obtain⟨t1,t2,t3⟩:=hto i D D' hDs hDs';refine bK (ks':=fA 1864::fA 1865 :: .b 1::fA 467::TR M w0 b' b y Ds Dz m) 5 (aj 3 (az (cT 700 59 DB.cells hinb) (aM 5 1 (az (cO 3 0 DB.cells DB.cells (cE hinb).2 (fun _=>rfl)) (ac ?_)))));cases hk:(D.b.Kind == 1) with
     | true =>
       have h21:((X.getD v6.toNat default).b.Kind == 1)=true:=by rw[hget];exact hk
       refine ah 21 h21 (bK (ks':=fA 7461 :: .b 1::fA 467::TR M w0 b' b y Ds Dz m) 3 (bI [1,2,4,5,6] [2,4] [700] ?_));have hput:lN Tryz.prog 42 [.agg (X.getD v6.toNat default).cells,.sl (lm aA l)] (fun g=>g∈D.bl) (fun w=>c7 w D) (.agg D'.cells) (fun w=>c7 w D'):=by rw[hget];exact t2 hk
       have hmem:∀g∈D.bl,g∈bls Ds:=fun g hg=>gV.2 ⟨D,List.mem_of_getElem? hDs,hg⟩;refine KO 9 31 [(22,.ptr 2 58),(23,.ref 700),(24,iI v6),(25,.ptr 2 58),(26,.ref 700),(27,iI v6),(28,.eptr 700 59 v6.toNat 0),(29,.agg (X.getD v6.toNat default).cells),(30,.sl (lm aA l))] hput (fun g hg=>hf.sub g (hmem g hg))
         (fun w _ hw=>(hf.ok D (List.mem_of_getElem? hXi)).bJ hw)
         (ay (vz 6) (bC (cT 700 59 DB.cells (L:=X) (i:=v6) hinb) (bC (cO 48 0 DB.cells DB.cells (cE hinb).2 (fun _=>rfl)) (ay [.v 0 1] uJ))))
         (ay (vz 6) (bC (cT 700 59 DB.cells (L:=X) (i:=v6) hinb) (bC (cO 48 0 DB.cells DB.cells (cE hinb).2 (fun _=>rfl)) (ay [.v 0 1] uJ))))
         (fun b3 hg hR hM=>?_)
       have hf2:=hf.put hn hXi hM hg hR t1;refine az (cT 700 59 DB.cells hinb) (az (fz 700 48 59 0 DB.cells DB.cells D' (cE hinb).2 (fun _=>rfl)) (ac ?_));have hX2:Mx Ds Ds' (List.set X v6.toNat D') (i+1) true:=by
         have hvi:v6.toNat=i:=by omega
         rw[hvi];refine⟨by rw[List.length_set];exact hX.len,hlt,fun j hj=>?_,fun j hj=>?_,?_⟩
         · rw[List.getElem?_set];split
           · rename_i e;subst e;rw[if_pos (by rw[hX.len];exact hlt),hDs']
           · exact hX.lo j (by omega)
         · rw[List.getElem?_set_ne (by omega)];exact hX.hi j (by omega)
         · symm;rw[List.any_eq_true];exact⟨D,List.mem_of_getElem? (i:=i) (by rw[List.getElem?_take,if_pos (by omega)];exact hDs),hk⟩
       have hf3:DI M w0 y b3 Ds (List.set X v6.toNat D'):=by
         have hvi:v6.toNat=i:=by omega
         rw[hvi];exact hf2
       exact ae 2 (bw (ih (v6:=ab (v6+1)) hw hX2 hf3 (by omega)))
     | false =>
       have h21:((X.getD v6.toNat default).b.Kind == 1)=false:=by rw[hget];exact hk
       refine ah 21 h21 ?_;have hX2:Mx Ds Ds' X (i+1) v5:=by
         refine⟨hX.len,hlt,fun j hj=>?_,fun j hj=>hX.hi j (by omega),?_⟩
         · by_cases e:j=i
           · subst e;rw[hXi,hDs',t3 hk]
           · exact hX.lo j (by omega)
         · rw[hX.blocks,List.take_succ,hDs,List.any_append];simp[hk]
       exact ae 4 (bw (ih (v6:=ab (v6+1)) hw hX2 hf (by omega)))
   · have h12:decide (v6<(X.length:Int))=false:=decide_eq_false (by rw[hX.len];omega);refine aB 12 h12 (ac ?_);have hie:i=Ds.length:=by have:=hX.le;omega
     have hXD:X=Ds':=List.ext_getElem? fun j=>by
       by_cases hj:j<i
       · exact hX.lo j hj
       · rw[hX.hi j (by omega),List.getElem?_eq_none (by omega),List.getElem?_eq_none (by omega)]
     have hv5:v5=Ds.any fun D=>D.b.Kind == 1:=by rw[hX.blocks,hie,List.take_length]
     subst hXD;rw[←hv5]at h;exact ae 5 (Ur (v6:=v6) hf hy1 hz h)
end
theorem PX{l:List av}{b b2:aa}{q ks:List aa}{c:Bool}(h:gP l { b with Kids:=q } ks c=some b2):gP l b [] c=some { b2 with Kids:=[] }∧b2.Kids=ks:=by
 unfold gP at h⊢;cases c with
 | false=>injection h with h;subst h;exact⟨rfl,rfl⟩
 | true =>
   simp only at h⊢;split at h
   · rename_i h1;rw[if_pos h1];obtain⟨h2,h⟩:=aF h;rw[h2];simp only[aH];split at h
     · rename_i h3;rw[if_pos h3];injection h with h;subst h;exact⟨rfl,rfl⟩
     · rename_i h3;rw[if_neg h3];injection h with h;subst h;exact⟨rfl,rfl⟩
   · rename_i h1;rw[if_neg h1];injection h with h;subst h;exact⟨rfl,rfl⟩
theorem I1(D:DB):D.plain.Kind=D.b.Kind:=by rw[DB.Gm]
theorem GQ{N:Nat→Prop}{w:World}{ι:Env}{l:List AV}{c d:AV}{x:Value}{q:Nat}(h:Rel N w ι (.agg (l.set q c)) x)(hq:q<l.length)(hc:∀v,Rel N w ι c v→Rel N w ι d v):Rel N w ι (.agg (l.set q d)) x:=by
 cases h with
 | agg _ _ vs hlen h1 hr =>
   refine .agg _ _ vs (by simpa using hlen) h1 fun i a v ha hv=>?_;by_cases hi:i=q
   · subst hi;rw[List.getElem?_set_self hq]at ha;injection ha with ha;subst ha
     exact hc v (hr i c v (List.getElem?_set_self hq) hv)
   · rw[List.getElem?_set_ne (fun e=>hi e.symm)]at ha;exact hr i a v (by rw[List.getElem?_set_ne (fun e=>hi e.symm)];exact ha) hv
theorem D7:∀{l:List DB},(bls l).Nodup→∀{D:DB},D∈l→D.bl.Nodup
 | [],_,D,hD=>by cases hD
 | d::r,h,D,hD=>by
   have h':(d.bl++bls r).Nodup:=h;obtain⟨h1,h2,_⟩:=List.nodup_append.1 h';rcases List.mem_cons.1 hD with rfl|hD
   · exact h1
   · exact D7 h2 hD
noncomputable section
theorem I9:∀(m:Nat) {l:List av} {D:DB} {b2:aa},ip l m D.plain=some b2→D.nd=true→(∃w,c7 w D)→D.bl.Nodup →
   ∃D':DB,D'.plain=b2∧D'.bl=D.bl∧lN Tryz.prog 42 [.agg D.cells,.sl (lm aA l)] (fun g=>g∈D.bl) (fun w=>c7 w D) (.agg D'.cells) (fun w=>c7 w D')
 | 0,_,_,_,h,_,_,_=>by cases h
 | m+1,l,⟨nd,b,y,Ds⟩,b2,h,hnd,⟨w1,hw1⟩,hn=>by
   simp only at hnd;subst hnd;have h:(jd (ip l m) (fm Ds)).bind (fun ks=>gP l { b with Kids:=fm Ds } ks ((fm Ds).any fun k=>k.Kind == 1))=some b2:=h;obtain⟨ks,hks,h⟩:=bind_some h;obtain⟨h1,h2⟩:=PX h;obtain⟨g1,g2⟩:=HX hks;have hany:((fm Ds).any fun k=>k.Kind == 1)=Ds.any fun D=>D.b.Kind == 1:=by
     rw[jj,List.any_map];congr 1;funext D;show(D.plain.Kind == 1)=_;rw[I1]
   rw[hany]at h1;cases hw1 with
   | node _ _ _ xs hrow hone hcell hkids =>
   have hblk:(bls Ds).Nodup:=by
     have:(⟨true,b,y,Ds⟩:DB).bl.Nodup:=hn;simp only[DB.bl]at this;exact(List.nodup_append.1 this).2.1
   have hown:∀g∈bls Ds,bn (some y)≠some g:=fun g hg e=>by
     have h9:(⟨true,b,y,Ds⟩:DB).bl.Nodup:=hn;simp only[DB.bl,e]at h9;exact(List.nodup_cons.1 h9).1 hg
   have step:∀(j:Nat) (D:DB),Ds[j]?=some D→∃D':DB,ue l D D'∧ks[j]?=some D'.plain:=fun j D hD=>by
     obtain⟨k',e1,e2⟩:=g2 j D.plain (by rw[jj,List.getElem?_map,hD];rfl);rw[I1]at e2;have hmem:=List.mem_of_getElem? hD;cases hq:(D.b.Kind == 1) with
     | true =>
       rw[hq]at e2;have hDn:D.nd=true:=by
         have hk:=hkids D hmem;cases hk with
         | leaf b0 y0 hb0 A0 c0 hy0=>exact absurd (by simpa using hq) hb0
         | node b0 y0 k0 x0=>rfl
       have hDd:D.bl.Nodup:=D7 hblk hmem;obtain⟨D',q1,q2,q3⟩:=I9 m (by simpa using e2) hDn ⟨w1,hkids D hmem⟩ hDd;exact⟨D',⟨q2,fun _=>q3,fun hf=>by rw[hq]at hf;cases hf⟩,by rw[e1,q1]⟩
     | false =>
       rw[hq]at e2;have e3:D.plain=k':=by simpa using e2
       exact⟨D,⟨rfl,fun ht=>(by rw[hq]at ht;cases ht),fun _=>rfl⟩,by rw[e1,e3]⟩
   obtain⟨Ds',hl',hDs'⟩:=BV (P:=fun j (D D':DB)=>ue l D D'∧ks[j]?=some D'.plain) Ds 0 (fun j D hD=>by rw[Nat.zero_add];exact step j D hD);have hto:∀(j:Nat) (D D':DB),Ds[j]?=some D→Ds'[j]?=some D'→ue l D D':=fun j D D' hD hD'=>by
     obtain⟨D2,e1,e2,_⟩:=hDs' j D hD;rw[hD']at e1;injection e1 with e1;subst e1;exact e2
   have hpl:fm Ds'=ks:=by
     rw[jj];refine List.ext_getElem? fun j=>?_;rw[List.getElem?_map];by_cases hj:j<Ds.length
     · obtain⟨D2,e1,_,e3⟩:=hDs' j _ (List.getElem?_eq_getElem hj);rw[Nat.zero_add]at e3;rw[e1,e3];rfl
     · rw[List.getElem?_eq_none (by omega),List.getElem?_eq_none (by rw[g1,jj,List.length_map];omega)];rfl
   have hbl':bls Ds'=bls Ds:=by
     rw[lv,lv,vr (f:=DB.bl) (g:=DB.bl) hl' fun j a ha=>by obtain⟨D2,e1,e2,_⟩:=hDs' j a ha;exact⟨D2,e1,e2.1⟩]
   have hyA:∃A n c,y=.slice A n c:=by
     rcases hrow.2 with⟨e,_⟩|⟨g,cap,cur,e,_⟩
     · exact⟨_,_,_,e⟩
     · exact⟨_,_,_,e⟩
   have hmax:Ds.length≤maxLen:=by
     rcases hrow.2 with⟨_,e⟩|⟨g,cap,cur,_,_,_,e1,e2,_⟩
     · rw[e];exact Nat.zero_le _
     · exact Nat.le_trans e1 e2
   have hy1:y.oneCell'=true:=by obtain⟨A,n,c,rfl⟩:=hyA;rfl
   have hlen:(aw ({ b with Kids:=[] }:aa)).length=59:=rfl;refine⟨⟨true,{ b2 with Kids:=[] },y,Ds'⟩,?_,?_,?_⟩
   · show({ b2 with Kids:=fm Ds' }:aa)=b2;rw[hpl];subst h2;cases b2;rfl
   · simp only[DB.bl,hbl']
   refine Q5 (id0:=700) (v0:=y) (ar:=⟨48,59,Ds.map DB.cells⟩) (args':=[.agg (List.set (aw ({ b with Kids:=[] }:aa)) 58 (.ref 700)),.sl (lm aA l)]) (c:=cat Tryz.f42 (pn 1)) Tryz.func42 (by kernel_rfl) _ Tryz.ntmps42 (of_decide_eq_true (by kernel_rfl)) rfl (fun g hg=>vW hg) (fun w hw=>?_) (fun N w i a b9 x ha hb hr=>?_) (fun M w hM hw=>?_)
   · cases hw with
     | node _ _ _ xs h1 h2 h3 h4 =>
       refine⟨xs,by simpa using h1,fun e he=>?_,h2,fun j e he i c hc=>?_⟩
       · obtain⟨D,_,rfl⟩:=List.mem_map.1 he;exact DB.OO D
       · have he':(Ds.map DB.cells)[j]?=some e:=he;rw[List.getElem?_map]at he';cases hD:Ds[j]? with
         | none=>rw[hD]at he';cases he'
         | some D=>rw[hD]at he';injection he' with he';subst he';exact h3 j D hD i c hc
   · match i,ha,hb with
     | 0,ha,hb =>
       injection ha with ha;injection hb with hb;subst ha;subst hb
       have hp:=BQ (y:=y) (show Rel N w bm (.agg (List.set (aw ({ b with Kids:=[] }:aa)) 58 (.vv y))) x from hr) (by rw[hlen];omega) rfl (fun v hv=>by cases hv;rfl) hy1;refine GQ (hp N w (ext bm 700 y)) (by rw[hlen];omega) (fun v hv=>?_);cases hv;obtain⟨A,n,c,rfl⟩:=hyA;exact .ref _ _ _ _ _ (cq _ _ _)
     | 1,ha,hb =>
       injection ha with ha;injection hb with hb;subst ha;subst hb
       exact hr.pure rfl _
   · have hf:DI M w y (sr w 700 y) Ds Ds:=⟨.refl _ _,fun D hD=>(by cases hw with|node _ _ _ xs h1 h2 h3 h4=>exact h4 D hD),fun g hg=>hM g (by simp only[DB.bl,List.mem_append];exact .inr hg) (hown g hg),rfl⟩;exact bc ⟨[(0,.agg (List.set (aw ({ b with Kids:=[] }:aa)) 58 (.ref 700))),(1,.sl (lm aA l))],[],[(700,⟨48,59,Ds.map DB.cells⟩)],[700,1000700]⟩ (ae 8 (ci (p:=pn 58) (Ds.length+1) (Ta (Ds':=Ds') (b:=b) (v6:=0) (v5:=false) (i:=0) hblk hl' hto hmax hy1 rfl h1 (Ds.length+1) rfl ⟨rfl,Nat.zero_le _,fun j hj=>absurd hj (Nat.not_lt_zero _),fun j _=>rfl,rfl⟩ hf (by omega))))
section
variable(M:Nat→Prop)(w0:aE)(r:aa)(v1 X:List av)(v4:Int)(m1:Nat)
abbrev xx:Cx:=⟨Tryz.prog,36,M,w0⟩
abbrev qS:=bodyPost Tryz.prog Tryz.f13 (bA M w0 (fun v _=>v=.agg (aw r)))
abbrev Rr(ks:List aq)(s:AS):=VE (xx M w0) (qS M w0 r) ks .normal s
abbrev dN(n:Nat):aq:=.c (cat Tryz.f13 (pn n))
abbrev RS:List aq:=[.b 0,dN 15]
abbrev TS:List aq:=kl (xx M w0) (qS M w0 r) RS (cat Tryz.f13 (pn 116)) m1::RS
def sS:AS:=⟨[(0,.sl (lm aA v1)),(2,.ptr 2 0),(3,.ref 300),(4,iI v4)],[(2,List.set (aw cF) 58 (.nils))],[(300,⟨37,58,lm aA X⟩)],[2,300]⟩
variable{M w0 r v1 X v4 m1}{K:Kn}{n:Nat}
theorem Qw{t:aa×Int}(hX:X=v1.map dj)(h1:gJ K n n X 0=some t)(h2:ip X n t.1=some r):Rr M w0 r [dN 15] (sS v1 X v4):=by
 refine bK (ks':=[dN 30,dN 31]) 1 (gf 300 (aj 1 ?_));refine Ge (Jx n h1) (fun v w b2 hQ hM hsz hG hgr=>?_);obtain⟨⟨nd,Db,Dy,Dk⟩,hnd,hpl,hv,hok,hbl,hno⟩:=hQ;simp only at hnd;subst hnd;subst hv;rw[←hpl]at h2;obtain⟨⟨nd2,Db2,Dy2,Dk2⟩,q1,q2,q3⟩:=I9 n h2 rfl ⟨_,hok⟩ hno;refine⟨fun g=>g∈(⟨true,Db,Dy,Dk⟩:DB).bl,hbl,?_⟩;refine ac (bK (ks':=[dN 62,dN 63]) 1 (aj 2 ?_));refine Lp q3 (fun k hk=>.inr hk) (fun w _ hw=>hok.bJ hw) (fun b3 hg hR hM3=>?_);refine ac (aL 1 ?_);refine om (l:=[.agg (DB.cells ⟨nd2,Db2,Dy2,Dk2⟩)]) (by kernel_rfl) (fun w' ι x hs hx=>?_);have hgr2:d6 (fun g=>g∈(⟨true,Db,Dy,Dk⟩:DB).bl) w0 b3:=(hgr.mono (fun _ h=>h.elim)).trans hg;have hE:∀g,g∈(⟨true,Db,Dy,Dk⟩:DB).bl→w0.w.heap.size≤g:=fun g hg9=>Nat.le_trans hsz (hbl g hg9).1;refine⟨x,.agg (aw r),_,ι,rfl,rfl,hs.Rb hgr2 hE (fun k hk=>⟨.inl hk,hM k hk⟩),?_⟩;have hok2:c7 w' ⟨nd2,Db2,Dy2,Dk2⟩:=hR.bJ fun g hg9=>by
   rw[q2]at hg9;have:=hs.old g (.inr hg9);exact hs.below.block g this.1 this.2
 have hfr:=hok2.rel (N:=NN M ι) (fun g hg9 hN=>by
   rw[q2]at hg9;rcases hN with hN|⟨id,hN⟩
   · have h8:=(hM g hN).1;have h9:=hE g hg9;exact absurd h8 (Nat.not_lt.2 h9)
   · exact hs.sep (.inr hg9) hN)
 have hx2:Rel (NN M ι) w' ι (.agg (DB.cells ⟨nd2,Db2,Dy2,Dk2⟩)) x:=hx.mono (Nat.le_refl _) (fun b _ hb=>hb.elim (fun h=>.inl (.inl h)) .inr) (fun _ _ _=>rfl) (fun _ _ h=>h);rw[←dq,← q1,DB.EX];exact GQ hx2 (by show 58<59;omega) (fun v hv=>by cases hv;exact hfr.pure rfl _)
theorem St{t:aa×Int}(hfit:fits v1.length 480=true)(h1:gJ K n n (v1.map dj) 0=some t)(h2:ip (v1.map dj) n t.1=some r):
   ∀(m:Nat) {X:List av} {i:Nat} {v4:Int},v4=(i:Int)→X=(v1.take i).map dj→i≤v1.length→v1.length<m+i→LP (xx M w0) (qS M w0 r) RS (cat Tryz.f13 (pn 116)) m (sS v1 X v4):=by
 have hmax:v1.length≤maxLen:=by
   unfold fits at hfit;simp only[Bool.and_eq_true,decide_eq_true_eq]at hfit;exact hfit.1
 intro m
 induction m with
 | zero=>intro X i v4 _ _ h1 h2;omega
 | succ m ih =>
   intro X i v4 hi hX hle hm;refine bB (bK (ks':=dN 464::dN 465::dN 233::TS M w0 r m) 2 (aj 2 (az (bv aA v1) (aM 4 1 ?_))));by_cases hlt:i<v1.length
   · have h11:decide (v4<(v1.length:Int))=true:=decide_eq_true (by omega);refine aB 11 h11 (ac ?_);have hinb:aX v4 v1.length=true:=by
       unfold aX;rw[Bool.and_eq_true];exact⟨decide_eq_true (by omega),decide_eq_true (by omega)⟩
     have hw:ab (v4+1)=((i+1:Nat):Int):=by
       rw[hi];unfold maxLen at hmax;unfold ab;rw[IntKind.wrap_i64];omega
     have hget:v1.getD v4.toNat default=v1[i]:=by
       rw[hi,List.getD_eq_getElem?_getD,Int.toNat_natCast,List.getElem?_eq_getElem hlt];rfl
     refine bK (ks':=dN 1864::dN 1865 :: .b 1::dN 467::TS M w0 r m) 5 (aj 2 (az (bi aA aA hinb (cK) ((fun _=>rfl))) (ac (bK (ks':=dN 7461::dN 3731 :: .b 1::dN 467::TS M w0 r m) 3 ?_))));have hX2:X++[dj (v1.getD v4.toNat default)]=(v1.take (i+1)).map dj:=by
       rw[hX,hget,List.take_succ,List.getElem?_eq_getElem hlt,List.map_append];rfl
     have hfit2:fits (X.length+[dj (v1.getD v4.toNat default)].length) 480=true:=by
       have hl:X.length=i:=by rw[hX,List.length_map,List.length_take];omega
       unfold fits at hfit⊢;simp only[Bool.and_eq_true,decide_eq_true_eq,List.length_singleton]at hfit⊢;omega
     cases hp:((v1.getD v4.toNat default).Style.Position == 2) with
     | true =>
       refine ah 21 hp (bK (ks':=dN 3731 :: .b 1::dN 467::TS M w0 r m) 2 (aj 2 ?_));have hfl:dj (v1.getD v4.toNat default)={ v1.getD v4.toNat default with Style:={ (v1.getD v4.toNat default).Style with Position:=0 } }:=by unfold dj;rw[if_pos hp]
       rw[hfl]at hX2 hfit2;exact az (fO aA [{ v1.getD v4.toNat default with Style:={ (v1.getD v4.toNat default).Style with Position:=0 } }] (new:=[aA { v1.getD v4.toNat default with Style:={ (v1.getD v4.toNat default).Style with Position:=0 } }]) rfl) (az (cv 27 300 37 58 aA (rfl) (cK) hfit2) (ac (ae 2 (bw (ih (v4:=ab (v4+1)) hw hX2 hlt (by omega))))))
     | false =>
       refine ah 21 hp (bK (ks':=dN 3731 :: .b 1::dN 467::TS M w0 r m) 2 (aj 2 ?_));have hfl:dj (v1.getD v4.toNat default)=v1.getD v4.toNat default:=by unfold dj;rw[if_neg (by rw[hp];simp)]
       rw[hfl]at hX2 hfit2;exact az (fO aA [v1.getD v4.toNat default] (new:=[aA (v1.getD v4.toNat default)]) rfl) (az (cv 27 300 37 58 aA (rfl) (cK) hfit2) (ac (ae 2 (bw (ih (v4:=ab (v4+1)) hw hX2 hlt (by omega))))))
   · have h11:decide (v4<(v1.length:Int))=false:=decide_eq_false (by omega);refine aB 11 h11 (ac ?_);have hie:i=v1.length:=by omega
     rw[hie,List.take_length]at hX;rw[←hX]at h1 h2;exact ae 5 (Qw (v4:=v4) hX h1 h2)
theorem NB(h:lz K n v1=some r):aS Tryz.prog 13 [.sl (lm aA v1)] (fun v _=>v=.agg (aw r)):=by
 unfold lz at h;obtain⟨hfit,h⟩:=aF h;obtain⟨t,h1,h2⟩:=bind_some h;exact bu (cat Tryz.f13 (pn 1)) Tryz.func13 Tryz.ntmps13 fun M w0=>(bc ⟨[(0,.sl (lm aA v1))],[],[],[]⟩ (bK (ks':=[dN 58,.b 0,dN 15]) 8 (bI [0,2,3,4] [2] [] (fZ 300 3 37 58 (ae 0 (ci (p:=pn 58) (v1.length+1) (St hfit h1 h2 (v1.length+1) (X:=[]) (i:=0) rfl rfl (Nat.zero_le _) (by omega))))))))
end
end
theorem J1[GS]{K:Kn}{n:Nat}{v1:List av}{r:aa}(hK:ao K)(h:lz K n v1=some r):aS Tryz.prog 13 [.sl (lm aA v1)] (fun v _=>v=.agg (aw r)):=NB h
noncomputable section
variable[GS](M:Nat→Prop)(w0:aE)(r v1:List av)(v2:di)(v8:List av)  
abbrev kH(n:Nat):aq:=.c (cat Tryz.f14 (pn n))
abbrev LC:Cx:=⟨Tryz.prog,105,M,w0⟩
abbrev Ms:=bodyPost Tryz.prog Tryz.f14 (bA M w0 (fun v s=>v=.ref 7∧look 7 s.r=some ⟨37,58,lm aA r⟩))
abbrev Nt(ks:List aq)(s:AS):=VE (LC M w0) (Ms M w0 r) ks .normal s
def LG:AS:=⟨[(5,.ref 7)],[],[(7,⟨37,58,lm aA v8⟩)],[7]⟩
variable{M w0 r v1 v2 v8}{K:Kn}{n:Nat}
theorem Je(hK:ao K)(h:sU K n v8=some r):Nt M w0 r [.b 0,kH 63] (LG v8):=by
 unfold sU at h;refine aL 4 ?_;cases h;exact eV
theorem T8(hK:ao K)(h:rb K n v1 v2=some r):aS Tryz.prog 14 [.sl (lm aA v1),.agg (dp v2)] (fun v s=>v=.ref 7∧look 7 s.r=some ⟨37,58,lm aA r⟩):=by
 refine bu (cat Tryz.f14 (pn 1)) Tryz.func14 Tryz.ntmps14 fun M w0=>(bc ⟨[(0,.sl (lm aA v1)),(1,.agg (dp v2))],[],[],[]⟩ ?_);unfold rb at h;refine aC 6 7 3 (aj 0 (wI 22 7 (e:=37) (sz:=58) (aM 2 1 ?_)));obtain⟨h1,h⟩:=aF h;refine az (cv 9 7 37 58 aA (rfl) (cK) h1) (ac (bO 4 5 3 2 (aj 1 (az (bv aA v1) (ac ?_)))));obtain⟨h2,h⟩|⟨h2,h⟩:=ak h
 ·refine ah 12 h2 (aC 4 5 2 (bI [0,3,5] [3] [7] ?_));obtain⟨h3,h⟩:=aF h;obtain⟨h4,h⟩:=aF h;refine bP 2 (nu 13 [.ref 7,.sl (lm aA v1),.cptr (aA (gD v1 (0:Int))),.cptr (List.drop 0 (aA (gD v1 (0:Int)))),.int .u8 ((gD v1 (0:Int)).Depth),.int .u8 (IntKind.wrap .u8 (((gD v1 (0:Int)).Depth)+1)),.ptr 3 2,.ptr 3 7,.agg (aV v2.Spec.Style),.agg (aA ({ nf with Depth:=(IntKind.wrap .u8 (((gD v1 (0:Int)).Depth)+1)),Style:=v2.Spec.Style }:av)),.sl (lm aA [({ nf with Depth:=(IntKind.wrap .u8 (((gD v1 (0:Int)).Depth)+1)),Style:=v2.Spec.Style }:av)])]) [] [] [fi 24 7 ⟨37,58,lm aA ((([]:List av)++v1)++[({ nf with Depth:=(IntKind.wrap .u8 (((gD v1 (0:Int)).Depth)+1)),Style:=v2.Spec.Style }:av)])⟩,bZ Tryz.prog 105 Tryz.f14 (pn 116) 12] (ay [.v 0 1,.v 0 2] (ag (fv (lo:=0) (k:=2) (c9 ⟨(by kernel_rfl),(dd (bi aA aA h3 (cK) ((fun _=>rfl))) (by kernel_rfl))⟩ (c9 ⟨(by kernel_rfl),(dd (bi aA aA h3 (cK) ((fun _=>rfl))) (by kernel_rfl))⟩ fR))) (ay [.v 0 2,.v 0 2,.v 0 2,.v 0 2,.v 0 2,.v 0 2,.v 0 2,.v 0 1] (ag (eu (m:=0) (cv 24 7 37 58 aA (rfl) (cK) h4)) (ag (bX 1) bQ))))) (aL 2 ?_)
  cases h;exact eV
 ·refine ah 12 h2 (fb 2 3 3 (aj 4 (az (bv aA v1) (aM 6 1 ?_))));obtain⟨h5,h⟩:=aF h;refine az (QO .i64 (ab v2.At) h5) (ac ?_);obtain⟨v3,h6,h⟩:=cg h;refine bR (ks':=[kH 501,.b 0,kH 63]) 6 ⟨[(3,.ptr 3 0),(5,.ref 7),(6,iI v3),(35,.int .u8 (Int.tmod v2.Kind 4)),(56,.bool ((Int.tmod v2.Kind 4) == 0))],[(3,dp v2)],[(7,⟨37,58,lm aA (([]:List av)++v1)⟩)],[3,7]⟩ ?_ (by subst h6;kernel_rfl);obtain⟨h7,h⟩|⟨h7,h⟩:=ak h
  ·refine ah 56 h7 (aC 4 5 2 (bI [3,5,6] [3] [7] ?_));obtain⟨h8,h⟩:=aF h;obtain⟨h9,h⟩:=aF h;obtain⟨h10,h⟩:=aF h;refine bP 3 (nu 58 [.ref 7,iI v3,.eptr 7 58 (v3.toNat) 0,.eptr 7 58 (v3.toNat) 0,.int .u8 ((gD (([]:List av)++v1) v3).Depth),.ref 7,iI v3,.eptr 7 58 (v3.toNat) 0,.eptr 7 58 (v3.toNat) 1,.int .u8 ((gD (([]:List av)++v1) v3).Kind),.ref 7,iI v3,.eptr 7 58 (v3.toNat) 0,.eptr 7 58 (v3.toNat) 3,.int .u8 ((gD (([]:List av)++v1) v3).Rows),.ptr 3 2,.ptr 3 2,.ptr 3 2,.ptr 3 3,.ptr 3 2,.ptr 3 5]) [] [] [bZ Tryz.prog 105 Tryz.f14 (pn 2004) 17,bZ Tryz.prog 105 Tryz.f14 (pn 2004) 20,bZ Tryz.prog 105 Tryz.f14 (pn 2004) 23] (ay (vz 2) (bC (ef 7 58 aA (L:=(([]:List av)++v1)) h8) (ay [.v 0 1] (bC (cO 5 0 aA aA (cE h10).2 ((fun _=>rfl))) (ay [.v 0 2,.v 0 2] (ag (fv (lo:=0) (k:=2) (c9 ⟨(by kernel_rfl),(dd (ef 7 58 aA (L:=(([]:List av)++v1)) h9) (by kernel_rfl))⟩ (c9 ⟨(by kernel_rfl),(dd (ef 7 58 aA (L:=(([]:List av)++v1)) h9) (by kernel_rfl))⟩ fR))) (ay [.v 0 2] (ag (fv (lo:=0) (k:=2) (c9 ⟨(by kernel_rfl),(dd (cO 5 1 aA aA (cE h10).2 ((fun _=>rfl))) (by kernel_rfl))⟩ (c9 ⟨(by kernel_rfl),(dd (cO 5 1 aA aA (cE h10).2 ((fun _=>rfl))) (by kernel_rfl))⟩ fR))) (ay [.v 0 3,.v 0 3] (ag (fv (lo:=0) (k:=3) (c9 ⟨(by kernel_rfl),(dd (ef 7 58 aA (L:=(([]:List av)++v1)) h10) (by kernel_rfl))⟩ (c9 ⟨(by kernel_rfl),(dd (ef 7 58 aA (L:=(([]:List av)++v1)) h10) (by kernel_rfl))⟩ (c9 ⟨(by kernel_rfl),(dd (ef 7 58 aA (L:=(([]:List av)++v1)) h10) (by kernel_rfl))⟩ fR)))) (ay [.v 0 3] (ag (fv (lo:=0) (k:=3) (c9 ⟨(by kernel_rfl),(dd (cO 5 3 aA aA (cE h10).2 ((fun _=>rfl))) (by kernel_rfl))⟩ (c9 ⟨(by kernel_rfl),(dd (cO 5 3 aA aA (cE h10).2 ((fun _=>rfl))) (by kernel_rfl))⟩ (c9 ⟨(by kernel_rfl),(dd (cO 5 3 aA aA (cE h10).2 ((fun _=>rfl))) (by kernel_rfl))⟩ fR)))) (ay [.v 0 2,.v 0 1] (ag (bX 0) (ay [.v 1 2,.v 1 1] (ag (bX 1) (ay [.v 2 2,.v 2 1] (ag (bX 2) bQ)))))))))))))))))) ?_
   obtain⟨v4,h11,h⟩:=cg h;obtain⟨v5,h12,h⟩:=cg h;obtain⟨v6,h13,h⟩:=cg h;refine bR (ks':=[kH 2005,.b 0,kH 63]) 0 ⟨[(3,.ptr 3 0),(5,.ref 7),(6,iI v3)],[(3,dp ({ v2 with Spec:=({ v2.Spec with Depth:=v4,Kind:=v5,Rows:=v6 }:av) }:di))],[(7,⟨37,58,lm aA (([]:List av)++v1)⟩)],[3,7]⟩ ?_ (by subst h13;subst h12;subst h11;kernel_rfl);refine aj 4 ?_;obtain⟨h14,h⟩:=aF h;exact az (cT 7 58 aA h14) (az (fz 7 37 58 0 aA aA ({ v2.Spec with Depth:=v4,Kind:=v5,Rows:=v6 }:av) (cE h14).2 ((fun _=>rfl))) (ac (ae 0 (Je hK h))))
  ·refine ah 56 h7 (bh 7 3 ?_);obtain⟨h15,h⟩|⟨h15,h⟩:=ak h
   ·refine ah 84 h15 (bh 2 1 (aj 2 ?_));obtain⟨h16,h⟩:=aF h;refine az (cT 7 58 aA h16) (aM 4 1 (az (cO 9 2 aA aA (cE h16).2 ((fun _=>rfl))) ?_));obtain⟨h17,h⟩:=aF h;refine az (M5 h17) ?_;obtain⟨h18,h⟩:=aF h;exact az (cT 7 58 aA h18) (aM 8 1 (az (fz 7 37 58 2 aA aA ({ (gD (([]:List av)++v1) v3)with Text:=(((gD (([]:List av)++v1) v3).Text)++(⟨#[120]⟩:ByteArray)) }:av) (cE h18).2 ((fun _=>rfl))) (ac (ae 0 (Je hK h)))))
   ·refine ah 84 h15 (bh 7 3 ?_);obtain⟨h19,h⟩|⟨h19,h⟩:=ak h
    ·refine ah 94 h19 (aC 4 5 2 (bI [5,6] [] [7] ?_));obtain⟨h20,h⟩:=aF h;obtain⟨h21,h⟩:=aF h;refine OI 7 0 [(96,.ref 7),(97,iI v3),(98,.sref 7 58 ((0:Int).toNat) (v3.toNat-(0:Int).toNat)),(99,.ref 7),(100,iI v3),(101,iI (ab (v3+1))),(102,.sref 7 58 (((ab (v3+1))).toNat) ((((([]:List av)++v1).length:Int)).toNat-((ab (v3+1))).toNat))] [] [] [] (ay (vz 2) (bC (IG aA (([]:List av)++v1) (0:Int) v3 22 (.tmp 96) none (some (.tmp 97)) 98 (id:=7) (e:=37) (sz:=58) (et:=37) (by kernel_rfl) (by kernel_rfl) (by kernel_rfl) (by kernel_rfl) (by kernel_rfl) (by kernel_rfl) (by kernel_rfl) (fun k hk=>by subst hk;kernel_rfl) h20) (ay (vz 3) (bC (IG aA (([]:List av)++v1) (ab (v3+1)) ((([]:List av)++v1).length:Int) 22 (.tmp 99) (some (.tmp 101)) none 102 (id:=7) (e:=37) (sz:=58) (et:=37) (by kernel_rfl) (by kernel_rfl) (by kernel_rfl) (by kernel_rfl) (by kernel_rfl) (by kernel_rfl) (by kernel_rfl) (fun k hk=>by subst hk;kernel_rfl) h21) (uJ))))) ?_
     obtain⟨h22,h⟩:=aF h;refine O5 103 7 37 58 (v3.toNat-(0:Int).toNat) (((ab (v3+1))).toNat) ((((([]:List av)++v1).length:Int)).toNat-((ab (v3+1))).toNat) aA (L:=(([]:List av)++v1)) (x:=(.tmp 98)) (y:=(.tmp 102)) (T:=22) (bytes:=480) h22 (ac (aL 3 ?_));cases h;exact eV
    ·refine ah 94 h19 (aC 6 7 2 (aj 2 ?_));obtain⟨h23,h⟩:=aF h;refine az (cT 7 58 aA h23) (aM 4 1 (az (cO 5 0 aA aA (cE h23).2 ((fun _=>rfl))) (ac ?_)));obtain⟨v7,h24,h⟩:=cg h;refine bR (ks':=[kH 64254,kH 64255,.b 0,kH 63]) 1 ⟨[(3,.ptr 3 0),(5,.ref 7),(6,iI v3)],[(3,dp ({ v2 with Spec:=({ v2.Spec with Depth:=v7 }:av) }:di))],[(7,⟨37,58,lm aA (([]:List av)++v1)⟩)],[3,7]⟩ ?_ (by subst h24;kernel_rfl);refine gf 7 ?_;obtain⟨h25,h⟩:=aF h;obtain⟨h26,h⟩:=aF h;obtain⟨h27,h⟩:=aF h;obtain⟨h28,h⟩:=aF h;obtain⟨h29,h⟩:=aF h;refine bP 4 (nu 43 [.ref 43,.sl (lm aA (([]:List av)++v1)),iI v3,.sl (lm aA (List.drop ((0:Int)).toNat (List.take v3.toNat (([]:List av)++v1))))]++nu 48 [.ptr 3 2,.agg (aA ({ v2.Spec with Depth:=v7 }:av)),.sl (lm aA [({ v2.Spec with Depth:=v7 }:av)])]++nu 52 [.sl (lm aA (([]:List av)++v1)),iI v3,.sl (lm aA (List.drop v3.toNat (List.take (((([]:List av)++v1).length:Int)).toNat (([]:List av)++v1))))]) [] [(43,⟨37,58,[]⟩)] [fi 47 43 ⟨37,58,lm aA (([]:List av)++(List.drop ((0:Int)).toNat (List.take v3.toNat (([]:List av)++v1))))⟩,fi 51 43 ⟨37,58,lm aA ((([]:List av)++(List.drop ((0:Int)).toNat (List.take v3.toNat (([]:List av)++v1))))++[({ v2.Spec with Depth:=v7 }:av)])⟩,fi 55 43 ⟨37,58,lm aA (((([]:List av)++(List.drop ((0:Int)).toNat (List.take v3.toNat (([]:List av)++v1))))++[({ v2.Spec with Depth:=v7 }:av)])++(List.drop v3.toNat (List.take (((([]:List av)++v1).length:Int)).toNat (([]:List av)++v1))))⟩,bZ Tryz.prog 105 Tryz.f14 (pn 64254) 13] (ag (OU 0 1 22 43 37 58) (ay [.v 0 4,.v 0 4] (bC (gU aA (([]:List av)++v1) (0:Int) v3 22 (.tmp 44) none (some (.tmp 45)) 46 (e:=37) (sz:=58) (by kernel_rfl) (by kernel_rfl) (by kernel_rfl) (by kernel_rfl) (by kernel_rfl) (by kernel_rfl) (cK) (fun k hk=>by subst hk;kernel_rfl) h25) (ag (eu (m:=0) (cv 47 43 37 58 aA (rfl) (cK) h26)) (ay [.v 0 4,.v 0 4,.v 0 2] (ag (eu (m:=1) (cv 51 43 37 58 aA (rfl) (cK) h27)) (ay [.v 0 4,.v 0 4] (ag (fv (lo:=0) (k:=3) (c9 ⟨(by kernel_rfl),(dd (gU aA (([]:List av)++v1) v3 ((([]:List av)++v1).length:Int) 22 (.tmp 52) (some (.tmp 53)) none 54 (e:=37) (sz:=58) (by kernel_rfl) (by kernel_rfl) (by kernel_rfl) (by kernel_rfl) (by kernel_rfl) (by kernel_rfl) (cK) (fun k hk=>by subst hk;kernel_rfl) h28) (by kernel_rfl))⟩ (c9 ⟨(by kernel_rfl),(dd (gU aA (([]:List av)++v1) v3 ((([]:List av)++v1).length:Int) 22 (.tmp 52) (some (.tmp 53)) none 54 (e:=37) (sz:=58) (by kernel_rfl) (by kernel_rfl) (by kernel_rfl) (by kernel_rfl) (by kernel_rfl) (by kernel_rfl) (cK) (fun k hk=>by subst hk;kernel_rfl) h28) (by kernel_rfl))⟩ (c9 ⟨(by kernel_rfl),(dd (gU aA (([]:List av)++v1) v3 ((([]:List av)++v1).length:Int) 22 (.tmp 52) (some (.tmp 53)) none 54 (e:=37) (sz:=58) (by kernel_rfl) (by kernel_rfl) (by kernel_rfl) (by kernel_rfl) (by kernel_rfl) (by kernel_rfl) (cK) (fun k hk=>by subst hk;kernel_rfl) h28) (by kernel_rfl))⟩ fR)))) (ag (eu (m:=2) (cv 55 43 37 58 aA (rfl) (cK) h29)) (ag (bX 3) bQ)))))))))) (aL 3 (bI [4] [] [43] (Ch 43 7 ?_)))
     cases h;exact eV
end
noncomputable section
variable[GS](M:Nat→Prop)(w0:aE)(r:Int)(v1:aa)(v6 v7:Int)(v8:Bool)(v10:Int)(m1:Nat)(L1:Int→Int→Option Int)
abbrev zx:Cx:=⟨Tryz.prog,38,M,w0⟩
abbrev zK:=bodyPost Tryz.prog Tryz.f15 (bA M w0 (fun v _=>v=iI r))
abbrev yv(ks:List aq)(s:AS):=VE (zx M w0) (zK M w0 r) ks .normal s
abbrev ri(n:Nat):aq:=.c (cat Tryz.f15 (pn n))
abbrev B4:List aq:=[.b 0,ri 15]
abbrev Aq:List aq:=kl (zx M w0) (zK M w0 r) B4 (cat Tryz.f15 (pn 116)) m1::B4
def M8:AS:=⟨[(1,.ptr 1 0),(3,iI v10),(4,iI v7)],[(1,aw v1)],[],[1]⟩
def Kz:AS:=⟨[(1,.ptr 1 0),(3,iI v6),(4,iI v7),(27,.bool v8)],[(1,aw v1)],[],[1]⟩
def Gi:AS:=⟨[(1,.ptr 1 0),(3,iI v6),(4,iI v7)],[(1,aw v1)],[],[1]⟩
abbrev wc:Prop:=∀{v6:Int} {v7:Int},L1 v6 v7=some r→LP (zx M w0) (zK M w0 r) B4 (cat Tryz.f15 (pn 116)) m1 (Gi v1 v6 v7)
variable{M w0 r v1 v6 v7 v8 v10 m1 L1}{K:Kn}{n:Nat}
theorem JE(hK:ao K)(hL1:wc M w0 r v1 m1 L1)(h:mV K n v1 v7 L1 v10=some r):yv M w0 r (.b 1::ri 467::Aq M w0 r m1) (M8 v1 v7 v10):=by
 unfold mV at h;exact ae 2 (bw (hL1 h))
theorem Er(hK:ao K)(hL1:wc M w0 r v1 m1 L1)(h:oO K n v1 v6 v7 L1 v8=some r):yv M w0 r (ri 1865 :: .b 1::ri 467::Aq M w0 r m1) (Kz v1 v6 v7 v8):=by
 unfold oO at h;obtain⟨h13,h⟩|⟨h13,h⟩:=ak h
 ·refine ah 27 h13 (bh 2 1 (aj 4 ?_));obtain⟨h14,h⟩:=aF h;refine az (bi aR aw h14 (d4) (dq)) (aM 6 1 ?_);obtain⟨v9,h15,h⟩:=bind_some h;exact aU (hK.sB h15) (ac (ae 0 (JE hK hL1 h)))
 ·exact ah 27 h13 (ae 2 (JE hK hL1 h))
theorem Mb(hK:ao K)(hL1:wc M w0 r v1 m1 L1)(h:rP K n v1 L1 v6 v7=some r):yv M w0 r (ri 116::Aq M w0 r m1) (Gi v1 v6 v7):=by
 unfold rP at h;refine bO 4 5 3 2 (aj 3 (az (bv aR v1.Kids) (ac ?_)));obtain⟨h9,h⟩|⟨h9,h⟩:=ak h
 ·refine ah 9 h9 (c8 8 9 1 3 5 (aj 3 ?_));obtain⟨h10,h⟩:=aF h;refine az (bi aR aw h10 (d4) (dq)) (aM 8 4 ?_);obtain⟨h11,h⟩|⟨h11,h⟩:=ak h
  ·exact aB 19 h11 (ac (ae 0 (Er hK hL1 h)))
  ·refine aB 19 h11 (aM 11 3 ?_);obtain⟨h12,h⟩:=aF h;exact az (bi aR aw h12 (d4) (dq)) (ac (ae 0 (Er hK hL1 h)))
 ·refine ah 9 h9 (aL 8 ?_);cases h;exact bj
theorem Li(hK:ao K)(m:Nat):wc M w0 r v1 m (oo K n v1 m):=by
 induction m with
 | zero=>intro v6 v7 h;cases h
 | succ m ih=>intro v6 v7 h;have h:rP K n v1 (oo K n v1 m) v6 v7=some r:=h;exact bB (Mb hK ih h)
theorem Ah(hK:ao K)(h:nk K n v1=some r):aS Tryz.prog 15 [.agg (aw v1)] (fun v _=>v=iI r):=by
 refine bu (cat Tryz.f15 (pn 1)) Tryz.func15 Tryz.ntmps15 fun M w0=>(bc ⟨[(0,.agg (aw v1))],[],[],[]⟩ ?_);unfold nk at h;exact ae 8 (ci (p:=pn 58) n (Li hK n h))
end
noncomputable section
variable[GS](M:Nat→Prop)(w0:aE)(r:Bool)(v1 v2:aa)(v3:Bool)(v6:Int)(m1:Nat)(L1:Int→Option Bool)
abbrev Ar:Cx:=⟨Tryz.prog,74,M,w0⟩
abbrev yx:=bodyPost Tryz.prog Tryz.f24 (bA M w0 (fun v _=>v=.bool r))
abbrev Hy(ks:List aq)(s:AS):=VE (Ar M w0) (yx M w0 r) ks .normal s
abbrev uX(n:Nat):aq:=.c (cat Tryz.f24 (pn n))
abbrev AU:List aq:=[.b 0,uX 15]
abbrev PV:List aq:=kl (Ar M w0) (yx M w0 r) AU (cat Tryz.f24 (pn 116)) m1::AU
def Gy:AS:=⟨[(2,.ptr 2 0),(3,.ptr 3 0),(5,iI v6)],[(2,aw v1),(3,aw v2)],[],[2,3]⟩
def L8:AS:=⟨[(2,.ptr 2 0),(3,.ptr 3 0),(54,.bool v3)],[(2,aw v1),(3,aw v2)],[],[2,3]⟩
abbrev Gn:Prop:=∀{v6:Int},L1 v6=some r→LP (Ar M w0) (yx M w0 r) AU (cat Tryz.f24 (pn 116)) m1 (Gy v1 v2 v6)
variable{M w0 r v1 v2 v3 v6 m1 L1}{K:Kn}{n:Nat}
theorem Vw(hK:ao K)(hL1:Gn M w0 r v1 v2 m1 L1)(h:rT K n v1 v2 L1 v6=some r):Hy M w0 r (uX 116::PV M w0 r m1) (Gy v1 v2 v6):=by
 unfold rT at h;refine bO 4 5 3 2 (aj 3 (az (bv aR v1.Kids) (ac ?_)));obtain⟨h14,h⟩|⟨h14,h⟩:=ak h
 ·refine ah 59 h14 (c8 8 9 1 3 5 (bI [2,3,5] [2,3] [] ?_));obtain⟨h15,h⟩:=aF h;obtain⟨h16,h⟩:=aF h;obtain⟨v7,h17,h⟩:=bind_some h;refine bP 0 (nu 62 [.ptr 2 58,.sl (lm aR v1.Kids),iI v6,.cptr (aw (gD v1.Kids v6)),.agg (aw (gD v1.Kids v6)),.ptr 3 58,.sl (lm aR v2.Kids),iI v6,.cptr (aw (gD v2.Kids v6)),.agg (aw (gD v2.Kids v6)),.bool v7,.bool (!v7)]) [] [] [] (ay (vz 3) (bC (bi aR aw h15 (d4) (dq)) (ay (vz 4) (bC (bi aR aw h16 (d4) (dq)) (ay [.v 0 1] (ag (cD 0 1 72 (hK.nO h17)) (ay [.v 0 1] bQ))))))) ?_;obtain⟨h18,h⟩|⟨h18,h⟩:=ak h
  ·refine ah 73 h18 (aL 9 ?_);cases h;exact bj
  ·exact ah 73 h18 (ae 4 (bw (hL1 h)))
 ·refine ah 59 h14 (aL 8 ?_);cases h;exact bj
theorem Pw(hK:ao K)(m:Nat):Gn M w0 r v1 v2 m (mW K n v1 v2 m):=by
 induction m with
 | zero=>intro v6 h;cases h
 | succ m ih=>intro v6 h;have h:rT K n v1 v2 (mW K n v1 v2 m) v6=some r:=h;exact bB (Vw hK ih h)
theorem mO(hK:ao K)(h:gk K n v1 v2 v3=some r):Hy M w0 r [uX 13,uX 7] (L8 v1 v2 v3):=by
 unfold gk at h;obtain⟨h7,h⟩|⟨h7,h⟩:=ak h
 ·refine ah 54 h7 (aL 5 ?_);cases h;exact bj
 ·exact ah 54 h7 (ae 6 (ci (p:=pn 58) n (Pw hK n h)))
theorem Kd(hK:ao K)(h:nt K n v1 v2=some r):aS Tryz.prog 24 [.agg (aw v1),.agg (aw v2)] (fun v _=>v=.bool r):=by
 refine bu (cat Tryz.f24 (pn 1)) Tryz.func24 Tryz.ntmps24 fun M w0=>(bc ⟨[(0,.agg (aw v1)),(1,.agg (aw v2))],[],[],[]⟩ ?_);unfold nt at h;refine bO 12 13 7 4 (aj 6 ?_);obtain⟨h1,h⟩|⟨h1,h⟩:=ak h
 ·exact aB 11 h1 (ac (ae 0 (mO hK h)))
 ·refine aB 11 h1 (aM 13 7 ?_);obtain⟨h2,h⟩|⟨h2,h⟩:=ak h
  ·exact aB 18 h2 (ac (ae 0 (mO hK h)))
  ·refine aB 18 h2 (aM 20 7 ?_);obtain⟨h3,h⟩|⟨h3,h⟩:=ak h
   ·exact aB 25 h3 (ac (ae 0 (mO hK h)))
   ·refine aB 25 h3 (aM 27 7 ?_);obtain⟨h4,h⟩|⟨h4,h⟩:=ak h
    ·exact aB 32 h4 (ac (ae 0 (mO hK h)))
    ·refine aB 32 h4 (aM 34 7 ?_);obtain⟨h5,h⟩|⟨h5,h⟩:=ak h
     ·exact aB 39 h5 (ac (ae 0 (mO hK h)))
     ·refine aB 39 h5 (aM 41 7 ?_);obtain⟨h6,h⟩|⟨h6,h⟩:=ak h
      ·exact aB 46 h6 (ac (ae 0 (mO hK h)))
      ·exact aB 46 h6 (aM 43 2 (az (bv aR v1.Kids) (aM 46 2 (az (bv aR v2.Kids) (ac (ae 0 (mO hK h)))))))
end
noncomputable section
variable[GS](M:Nat→Prop)(w0:aE)(r:Bool)(v1 v2:aa)(v6:Int)(m1:Nat)(L1:Int→Option Bool)
abbrev BD:Cx:=⟨Tryz.prog,23,M,w0⟩
abbrev zy:=bodyPost Tryz.prog Tryz.f23 (bA M w0 (fun v _=>v=.bool r))
abbrev PD(ks:List aq)(s:AS):=VE (BD M w0) (zy M w0 r) ks .normal s
abbrev C3(n:Nat):aq:=.c (cat Tryz.f23 (pn n))
abbrev BF:List aq:=[.b 0,C3 15]
abbrev LL:List aq:=kl (BD M w0) (zy M w0 r) BF (cat Tryz.f23 (pn 116)) m1::BF
def IX:AS:=⟨[(2,.ptr 2 0),(3,.ptr 3 0),(5,iI v6)],[(2,aw v1),(3,aw v2)],[],[2,3]⟩
abbrev Km:Prop:=∀{v6:Int},L1 v6=some r→LP (BD M w0) (zy M w0 r) BF (cat Tryz.f23 (pn 116)) m1 (IX v1 v2 v6)
variable{M w0 r v1 v2 v6 m1 L1}{K:Kn}{n:Nat}
theorem V3(hK:ao K)(hL1:Km M w0 r v1 v2 m1 L1)(h:ss K n v1 v2 L1 v6=some r):PD M w0 r (C3 116::LL M w0 r m1) (IX v1 v2 v6):=by
 unfold ss at h;refine bO 4 5 3 2 (aj 3 (az (bv aR v1.Kids) (ac ?_)));obtain⟨h8,h⟩|⟨h8,h⟩:=ak h
 ·refine ah 13 h8 (c8 8 9 1 3 5 (bI [2,3,5] [2,3] [] ?_));obtain⟨h9,h⟩:=aF h;obtain⟨v7,h10,h⟩:=bind_some h;refine bP 0 (nu 16 [.ptr 2 58,.sl (lm aR v1.Kids),iI v6,.cptr (aw (gD v1.Kids v6)),.agg (aw (gD v1.Kids v6)),.agg (aw v2),.bool v7]) [] [] [] (ay (vz 3) (bC (bi aR aw h9 (d4) (dq)) (ay (vz 2) (ag (cD 0 1 22 (hK.oe h10)) bQ)))) ?_;obtain⟨h11,h⟩|⟨h11,h⟩:=ak h
  ·refine ah 22 h11 (aL 9 ?_);cases h;exact bj
  ·exact ah 22 h11 (ae 4 (bw (hL1 h)))
 ·refine ah 13 h8 (aL 8 ?_);cases h;exact bj
theorem SH(hK:ao K)(m:Nat):Km M w0 r v1 v2 m (o7 K n v1 v2 m):=by
 induction m with
 | zero=>intro v6 h;cases h
 | succ m ih=>intro v6 h;have h:ss K n v1 v2 (o7 K n v1 v2 m) v6=some r:=h;exact bB (V3 hK ih h)
theorem Dh(hK:ao K)(h:mc K n v1 v2=some r):aS Tryz.prog 23 [.agg (aw v1),.agg (aw v2)] (fun v _=>v=.bool r):=by
 refine bu (cat Tryz.f23 (pn 1)) Tryz.func23 Tryz.ntmps23 fun M w0=>(bc ⟨[(0,.agg (aw v1)),(1,.agg (aw v2))],[],[],[]⟩ ?_);unfold mc at h;refine bO 12 13 7 4 (aj 2 ?_);obtain⟨v3,h1,h⟩:=bind_some h;refine aU (Kd hK h1) (ac ?_);obtain⟨h2,h⟩|⟨h2,h⟩:=ak h
 ·refine ah 8 h2 (aL 5 ?_);cases h;exact bj
 ·exact ah 8 h2 (ae 6 (ci (p:=pn 58) n (SH hK n h)))
end
noncomputable section
variable[GS](M:Nat→Prop)(w0:aE)(r:Int)(v1 v2:aa)(v9 v10 v13 v15:Int)(m1:Nat)(L1:Int→Int→Option Int)
abbrev yD:Cx:=⟨Tryz.prog,31,M,w0⟩
abbrev zL:=bodyPost Tryz.prog Tryz.f17 (bA M w0 (fun v _=>v=iI r))
abbrev zl(ks:List aq)(s:AS):=VE (yD M w0) (zL M w0 r) ks .normal s
abbrev mu(n:Nat):aq:=.c (cat Tryz.f17 (pn n))
abbrev yJ:List aq:=[.b 0,mu 15]
abbrev vQ:List aq:=kl (yD M w0) (zL M w0 r) yJ (cat Tryz.f17 (pn 116)) m1::yJ
def Tm:AS:=⟨[(2,.ptr 2 0),(5,iI v15),(9,.sl (lm aR v2.Kids)),(10,iI (v2.Kids.length:Int)),(11,iI v10)],[(2,aw v1)],[],[2]⟩
def MD:AS:=⟨[(2,.ptr 2 0),(5,iI v13),(7,.ptr 7 0),(9,.sl (lm aR v2.Kids)),(10,iI (v2.Kids.length:Int)),(11,iI v10)],[(2,aw v1),(7,aw (gD v2.Kids v10))],[],[2,7]⟩
def Hf:AS:=⟨[(2,.ptr 2 0),(5,iI v9),(9,.sl (lm aR v2.Kids)),(10,iI (v2.Kids.length:Int)),(11,iI v10)],[(2,aw v1)],[],[2]⟩
abbrev wM:Prop:=∀{v9:Int} {v10:Int},L1 v9 v10=some r→LP (yD M w0) (zL M w0 r) yJ (cat Tryz.f17 (pn 116)) m1 (Hf v1 v2 v9 v10)
variable{M w0 r v1 v2 v9 v10 v13 v15 m1 L1}{K:Kn}{n:Nat}
theorem Ej(hK:ao K)(hL1:wM M w0 r v1 v2 m1 L1)(h:sv K n v1 v2 v10 L1 v15=some r):zl M w0 r (.b 1::mu 935::vQ M w0 r m1) (Tm v1 v2 v10 v15):=by
 unfold sv at h;exact ae 2 (bw (hL1 h))
theorem Ju(hK:ao K)(hL1:wM M w0 r v1 v2 m1 L1)(h:pX K n v1 v2 v10 L1 v13=some r):zl M w0 r (mu 29901 :: .b 1::mu 935::vQ M w0 r m1) (MD v1 v2 v10 v13):=by
 unfold pX at h;refine aj 3 ?_;obtain⟨v14,h15,h⟩:=bind_some h;exact aU (hK.pT h15) (ac (ae 0 (Ej hK hL1 h)))
theorem Tf(hK:ao K)(hL1:wM M w0 r v1 v2 m1 L1)(h:sN K n v1 v2 L1 v9 v10=some r):zl M w0 r (mu 116::vQ M w0 r m1) (Hf v1 v2 v9 v10):=by
 unfold sN at h;refine aC 6 7 3 ?_;obtain⟨h9,h⟩|⟨h9,h⟩:=ak h
 ·refine ah 12 h9 (c8 8 9 1 3 5 (aj 0 ?_));obtain⟨h10,h⟩:=aF h;refine az (bi aR aw h10 (d4) (dq)) (ac ?_);obtain⟨v11,h11,h⟩:=cg h;refine bR (ks':=mu 7475 :: .b 1::mu 935::vQ M w0 r m1) 2 ⟨[(2,.ptr 2 0),(5,iI v9),(7,.ptr 7 0),(9,.sl (lm aR v2.Kids)),(10,iI (v2.Kids.length:Int)),(11,iI v10),(17,.bool v11)],[(2,aw v1),(7,aw (gD v2.Kids v10))],[],[2,7]⟩ ?_ (by subst h11;kernel_rfl);obtain⟨h12,h⟩|⟨h12,h⟩:=ak h
  ·refine ah 17 h12 (bO 8 9 5 3 (aj 2 ?_));obtain⟨v12,h13,h⟩:=bind_some h;refine aU (Dh hK h13) (ac ?_);obtain⟨h14,h⟩|⟨h14,h⟩:=ak h
   ·exact ah 21 h14 (ae 2 (Ju hK hL1 h))
   ·exact ah 21 h14 (ae 2 (Ju hK hL1 h))
  ·exact ah 17 h12 (ae 2 (Ej hK hL1 h))
 ·refine ah 12 h9 (aL 8 ?_);cases h;exact bj
theorem KB(hK:ao K)(m:Nat):wM M w0 r v1 v2 m (oZ K n v1 v2 m):=by
 induction m with
 | zero=>intro v9 v10 h;cases h
 | succ m ih=>intro v9 v10 h;have h:sN K n v1 v2 (oZ K n v1 v2 m) v9 v10=some r:=h;exact bB (Tf hK ih h)
theorem Hu(hK:ao K)(h:oX K n v1 v2=some r):aS Tryz.prog 17 [.agg (aw v1),.agg (aw v2)] (fun v _=>v=iI r):=by
 refine bu (cat Tryz.f17 (pn 1)) Tryz.func17 Tryz.ntmps17 fun M w0=>(bc ⟨[(0,.agg (aw v1)),(1,.agg (aw v2))],[],[],[]⟩ ?_);unfold oX at h;exact bO 28 29 15 6 (aj 2 (az (bv aR v2.Kids) (ac (ae 1 (ci (p:=pn 58) n (KB hK n h))))))
end
noncomputable section
variable(M:Nat→Prop)(w0:aE)(r:Bool)(v1:List av)(v2:di)(v3 v10 v11:Int)(v12:List av)(v17 v19:aa)(v20:ai×Int×Int×(List aG))(v22:Bool)(m1:Nat)(L1:Int→Int→(List av)→Option Bool)
abbrev Al:Cx:=⟨Tryz.prog,108,M,w0⟩
abbrev q4:=bodyPost Tryz.prog Tryz.f4 (bA M w0 (fun v _=>v=.bool r))
abbrev Gg(ks:List aq)(s:AS):=VE (Al M w0) (q4 M w0 r) ks .normal s
abbrev jy(n:Nat):aq:=.c (cat Tryz.f4 (pn n))
abbrev Cd:List aq:=[.b 0,jy 63]
abbrev A9:List aq:=kl (Al M w0) (q4 M w0 r) Cd (cat Tryz.f4 (pn 500)) m1::Cd
def T4:AS:=⟨[(2,iI v3),(8,.ptr 8 0),(9,.ptr 9 0),(10,.ptr 10 0),(98,.bool v22)],[(8,aw v17),(9,aw v19),(10,List.set (bL (⟨[],v20.2.1,v20.2.2.1⟩:bH)) 0 (.ref 400010))],[(400010,⟨64,127,lm bd v20.2.2.2⟩)],[8,9,10,400010]⟩
def Eb:AS:=⟨[(0,.ref 18),(2,iI v3),(4,.ptr 4 0),(22,iI v10),(23,iI v11)],[(4,dp v2)],[(18,⟨37,58,lm aA v12⟩)],[4,18]⟩
abbrev Hv:Prop:=∀{v10:Int} {v11:Int} {v12:(List av)},L1 v10 v11 v12=some r→LP (Al M w0) (q4 M w0 r) Cd (cat Tryz.f4 (pn 500)) m1 (Eb v2 v3 v10 v11 v12)
variable{M w0 r v1 v2 v3 v10 v11 v12 v17 v19 v20 v22 m1 L1}{K:Kn}{n:Nat}
theorem FJ(hA:∀ [GS],ao K)(h:qi K n v3 v17 v19 v20 v22=some r):Gg M w0 r [jy 4093,jy 2047] (T4 v3 v17 v19 v20 v22):=by
 letI:GS:=⟨0⟩;have hK:=@hA ⟨0⟩
 unfold qi at h;obtain⟨h36,h⟩|⟨h36,h⟩:=ak h
 ·refine ah 98 h36 (aL 5 ?_);cases h;exact bj
 ·refine ah 98 h36 (fb 2 3 3 (aj 2 ?_));obtain⟨v23,h37,h⟩:=bind_some h;refine uq 10 400010 (fun [GS]=>(tX hA h37)) (ac (aC 2 3 1 (bI [8,9,10] [8,9,10] [400010] ?_)));obtain⟨v24,h38,h⟩:=bind_some h;refine bP 1 (nu 102 [.ptr 10 1,iI v23.2.1,.agg (aw v17),.agg (aw v19),iI v24,.bool (decide (v23.2.1≤v24))]) [] [] [bZ Tryz.prog 108 Tryz.f4 (pn 8190) 6] (ay (vz 4) (ag (cD 0 1 106 (Hu hK h38)) (ay [.v 0 1] (ag (bX 0) bQ)))) (aL 1 ?_);cases h;exact bj
theorem UW(hA:∀ [GS],ao K)(hL1:Hv M w0 r v2 v3 m1 L1)(h:n9 K n v2 v3 L1 v10 v11 v12=some r):Gg M w0 r (jy 500::A9 M w0 r m1) (Eb v2 v3 v10 v11 v12):=by
 letI:GS:=⟨0⟩;have hK:=@hA ⟨0⟩
 unfold n9 at h;refine aC 6 7 3 ?_;obtain⟨h18,h⟩|⟨h18,h⟩:=ak h
 ·refine ah 24 h18 (c8 18 19 1 3 7 (aj 5 ?_));obtain⟨h19,h⟩:=aF h;refine az (cT 18 58 aA h19) (aM 7 1 (az (fz 18 37 58 3 aA aA ({ (gD v12 v11)with Rows:=0 }:av) (cE h19).2 ((fun _=>rfl))) ?_));obtain⟨h20,h⟩:=aF h;refine az (cT 18 58 aA h20) (aM 11 2 (az (fz 18 37 58 11 aA aA ({ (gD (List.set v12 v11.toNat ({ (gD v12 v11)with Rows:=0 }:av)) v11)with Style:=({ ((gD (List.set v12 v11.toNat ({ (gD v12 v11)with Rows:=0 }:av)) v11).Style)with Width:=bp }:aJ) }:av) (cE h20).2 ((fun _=>rfl))) (ac ?_)));obtain⟨v13,h21,h⟩:=cg h;refine bR (ks':=jy 64102::jy 64103 :: .b 1::jy 4007::A9 M w0 r m1) 1 ⟨[(0,.ref 18),(2,iI v3),(4,.ptr 4 0),(7,iI v11),(22,iI v10),(23,iI v11)],[(4,dp v2)],[(18,⟨37,58,lm aA v13⟩)],[4,18]⟩ ?_ (by subst h21;kernel_rfl);refine aj 6 ?_;obtain⟨h22,h⟩:=aF h;refine az (cT 18 58 aA h22) (aM 9 2 (az (fz 18 37 58 15 aA aA ({ (gD v13 v11)with Style:=({ ((gD v13 v11).Style)with MinWidth:=bp }:aJ) }:av) (cE h22).2 ((fun _=>rfl))) ?_))
  obtain⟨h23,h⟩:=aF h;refine az (cT 18 58 aA h23) (aM 13 2 (az (fz 18 37 58 17 aA aA ({ (gD (List.set v13 v11.toNat ({ (gD v13 v11)with Style:=({ ((gD v13 v11).Style)with MinWidth:=bp }:aJ) }:av)) v11)with Style:=({ ((gD (List.set v13 v11.toNat ({ (gD v13 v11)with Style:=({ ((gD v13 v11).Style)with MinWidth:=bp }:aJ) }:av)) v11).Style)with MaxWidth:=bp }:aJ) }:av) (cE h23).2 ((fun _=>rfl))) (ac ?_)));obtain⟨v14,h24,h⟩:=cg h;refine bR (ks':=jy 64103 :: .b 1::jy 4007::A9 M w0 r m1) 0 ⟨[(0,.ref 18),(2,iI v3),(4,.ptr 4 0),(7,iI v11),(22,iI v10),(23,iI v11)],[(4,dp v2)],[(18,⟨37,58,lm aA v14⟩)],[4,18]⟩ ?_ (by subst h24;kernel_rfl);refine aj 9 ?_;obtain⟨h25,h⟩:=aF h;refine az (cT 18 58 aA h25) (aM 12 2 (az (fz 18 37 58 35 aA aA ({ (gD v14 v11)with Style:=({ ((gD v14 v11).Style)with Border:=⟨0,0,0,0⟩ }:aJ) }:av) (cE h25).2 ((fun _=>rfl))) ?_));obtain⟨h26,h⟩:=aF h;refine az (cT 18 58 aA h26) (aM 16 2 (az (fz 18 37 58 27 aA aA ({ (gD (List.set v14 v11.toNat ({ (gD v14 v11)with Style:=({ ((gD v14 v11).Style)with Border:=⟨0,0,0,0⟩ }:aJ) }:av)) v11)with Style:=({ ((gD (List.set v14 v11.toNat ({ (gD v14 v11)with Style:=({ ((gD v14 v11).Style)with Border:=⟨0,0,0,0⟩ }:aJ) }:av)) v11).Style)with Padding:=⟨bp,bp,bp,bp⟩ }:aJ) }:av) (cE h26).2 ((fun _=>rfl))) ?_))
  obtain⟨h27,h⟩:=aF h;exact az (cT 18 58 aA h27) (aM 20 2 (az (fz 18 37 58 19 aA aA ({ (gD (List.set (List.set v14 v11.toNat ({ (gD v14 v11)with Style:=({ ((gD v14 v11).Style)with Border:=⟨0,0,0,0⟩ }:aJ) }:av)) v11.toNat ({ (gD (List.set v14 v11.toNat ({ (gD v14 v11)with Style:=({ ((gD v14 v11).Style)with Border:=⟨0,0,0,0⟩ }:aJ) }:av)) v11)with Style:=({ ((gD (List.set v14 v11.toNat ({ (gD v14 v11)with Style:=({ ((gD v14 v11).Style)with Border:=⟨0,0,0,0⟩ }:aJ) }:av)) v11).Style)with Padding:=⟨bp,bp,bp,bp⟩ }:aJ) }:av)) v11)with Style:=({ ((gD (List.set (List.set v14 v11.toNat ({ (gD v14 v11)with Style:=({ ((gD v14 v11).Style)with Border:=⟨0,0,0,0⟩ }:aJ) }:av)) v11.toNat ({ (gD (List.set v14 v11.toNat ({ (gD v14 v11)with Style:=({ ((gD v14 v11).Style)with Border:=⟨0,0,0,0⟩ }:aJ) }:av)) v11)with Style:=({ ((gD (List.set v14 v11.toNat ({ (gD v14 v11)with Style:=({ ((gD v14 v11).Style)with Border:=⟨0,0,0,0⟩ }:aJ) }:av)) v11).Style)with Padding:=⟨bp,bp,bp,bp⟩ }:aJ) }:av)) v11).Style)with Margin:=⟨bp,bp,bp,bp⟩ }:aJ) }:av) (cE h27).2 ((fun _=>rfl))) (ac (ae 2 (bw (hL1 h))))))
 ·refine ah 24 h18 (kJ 6 7 8 (bI [0,2,4] [4] [18] (gf 18 ?_)));obtain⟨v17,h30,h⟩:=bind_some h;obtain⟨v18,h31,h⟩:=bind_some h;obtain⟨v19,h32,h⟩:=bind_some h;refine bP 2 (nu 80 [.sl (lm aA v12),.agg (aw v17),.sl (lm aA v12),.agg (dp ({ v2 with Spec:=({ v2.Spec with Rows:=0,Style:=({ cS with Height:=v2.Spec.Style.Height,LineHeight:=v2.Spec.Style.LineHeight }:aJ) }:av) }:di)),.sl (lm aA v18),.agg (aw v19)]++nu 8 [.ptr 8 0,.ptr 9 0]) [(8,List.set (aw cF) 58 (.nils)),(9,List.set (aw cF) 58 (.nils))] [] [bZ Tryz.prog 108 Tryz.f4 (pn 254) 8,bZ Tryz.prog 108 Tryz.f4 (pn 254) 9] (ay [.v 0 1] (ag (cD 0 1 81 (J1 hK h30)) (ay [.v 0 2,.v 0 2] (ag (cD 0 2 84 (aS.bT (T8 hK h31) (V':=.sl (lm aA v18)) (by kernel_rfl))) (ag (cD 0 1 85 (J1 hK h32)) (ag (pd 0 1 48 8 (List.set (aw cF) 58 (.nils))) (ag (pd 0 1 48 9 (List.set (aw cF) 58 (.nils))) (ag (bX 0) (ag (bX 1) bQ))))))))) (aC 6 7 3 (aj 2 (wT 400010 10 0 64 127 ?_)))
  obtain⟨v20,h33,h⟩:=bind_some h;refine uq 10 400010 (fun [GS]=>(tX hA h33)) (ac (bO 4 5 3 2 (bI [2,8,9,10] [8,9,10] [400010] ?_)));obtain⟨v21,h34,h⟩:=bind_some h;obtain⟨h35,h⟩|⟨h35,h⟩:=ak h
  ·exact bP 0 (nu 89 [.ptr 10 1,iI v20.2.1,.agg (aw v17),iI v21,.bool (v20.2.1 != v21),.bool true,.tup [],.tup [],.tup [],.bool true]) [] [] [] (ay (vz 3) (ag (cD 0 1 92 (Ah hK h34)) (ay [.v 0 1] (ag (ct 0 94 (e:=(v20.2.1 != v21)) (b:=true) h35) (ag (ax 0 1) (ag (ax 0 1) (ag (ax 0 1) (ay [.v 0 1] bQ)))))))) (ae 0 (FJ hA h))
  ·exact bP 0 (nu 89 [.ptr 10 1,iI v20.2.1,.agg (aw v17),iI v21,.bool (v20.2.1 != v21),.bool false,.ptr 10 2,iI v20.2.2.1,.bool (v20.2.2.1 != 0),.bool (v20.2.2.1 != 0)]) [] [] [] (ay (vz 3) (ag (cD 0 1 92 (Ah hK h34)) (ay [.v 0 1] (ag (ct 0 94 (e:=(v20.2.1 != v21)) (b:=false) h35) (ay (vz 4) bQ))))) (ae 0 (FJ hA h))
theorem O9(hA:∀ [GS],ao K)(m:Nat):Hv M w0 r v2 v3 m (kj K n v2 v3 m):=by
 letI:GS:=⟨0⟩;have hK:=@hA ⟨0⟩
 induction m with
 | zero=>intro v10 v11 v12 h;cases h
 | succ m ih=>intro v10 v11 v12 h;have h:n9 K n v2 v3 (kj K n v2 v3 m) v10 v11 v12=some r:=h;exact bB (UW hA ih h)
theorem Vb(hA:∀ [GS],ao K)(h:tP K n v1 v2 v3=some r):aS Tryz.prog 4 [.sl (lm aA v1),.agg (dp v2),iI v3] (fun v _=>v=.bool r):=by
 letI:GS:=⟨0⟩;have hK:=@hA ⟨0⟩
 refine bu (cat Tryz.f4 (pn 1)) Tryz.func4 Tryz.ntmps4 fun M w0=>(bc ⟨[(0,.sl (lm aA v1)),(1,.agg (dp v2)),(2,iI v3)],[],[],[]⟩ ?_);unfold tP at h;refine bO 12 13 7 4 (aj 0 ?_);obtain⟨v4,h1,h⟩:=bind_some h;refine aU (Mk hA h1) (ac ?_);obtain⟨h2,h⟩|⟨h2,h⟩:=ak h
 ·refine ah 12 h2 (aL 5 ?_);cases h;exact bj
 ·refine ah 12 h2 (pr 4 5 3 4 (aj 3 ?_));obtain⟨v5,h3,h⟩:=bind_some h;refine aU (MM hK h3) (ac ?_);obtain⟨h4,h⟩|⟨h4,h⟩:=ak h
  ·refine ah 17 h4 (aL 5 ?_);cases h;exact bj
  ·refine ah 17 h4 (fb 2 3 3 (aj 0 (wI 22 18 (e:=37) (sz:=58) (aM 2 1 ?_))));obtain⟨h5,h⟩:=aF h;exact az (cv 20 18 37 58 aA (rfl) (cK) h5) (ac (bO 4 5 3 2 (aj 1 (az (bv aA (([]:List av)++v1)) (ac (ae 1 (ci (p:=pn 250) n (O9 hA n h))))))))
end
end Go.Proofs.YtocgkfoifehcbaaGreat

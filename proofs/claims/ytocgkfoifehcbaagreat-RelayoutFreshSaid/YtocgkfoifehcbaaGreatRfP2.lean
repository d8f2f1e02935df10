/- The runs of the functions that RelayoutFresh reaches do what their plain forms say, part 2. Made by a program. -/
import Derived.Test.YtocgkfoifehcbaaGreatRfGk
import Derived.Test.YtocgkfoifehcbaaGreatRfP1
namespace Go.Proofs.YtocgkfoifehcbaaGreat
open Go.RowKit
set_option maxRecDepth 20000
set_option linter.all false
set_option linter.unusedVariables false
set_option linter.unusedSimpArgs false
noncomputable section
variable[GS](M:Nat→Prop)(w0:aE)(r:Int×Int)(v1:List aa)(v2:aJ)(v3:bF)(v4:(List au)×(List Int))(v5:(List au)×Int×(List Int))(v9 v10 v11 v13 v19 v20 v22:Int)(v23:Bool)(v25:Int)(m1 m2 m3:Nat)(L1 L2:Int→Int→Option (Int×Int))(L3:Int→Option (Int×Int))
abbrev mi:Cx:=⟨Tryz.prog,74,M,w0⟩
abbrev lI:=bodyPost Tryz.prog Tryz.f55 (bA M w0 (fun v _=>v=.tup [iI r.1,iI r.2]))
abbrev nc(ks:List aq)(s:AS):=VE (mi M w0) (lI M w0 r) ks .normal s
abbrev gk(n:Nat):aq:=.c (cat Tryz.f55 (pn n))
abbrev xU:List aq:=[.b 2,gk 255]
abbrev zU:List aq:=kl (mi M w0) (lI M w0 r) xU (cat Tryz.f55 (pn 2036)) m2::xU
abbrev A1:List aq:=[.b 0,gk 127]
abbrev Bg:List aq:=kl (mi M w0) (lI M w0 r) A1 (cat Tryz.f55 (pn 1012)) m1::A1
abbrev BO:List aq:=.b 4::gk 32587 :: .b 3::zU M w0 r m2
abbrev Iv:List aq:=kl (mi M w0) (lI M w0 r) (BO M w0 r m2) (cat Tryz.f55 (pn 130344)) m3::(BO M w0 r m2)
def R0:AS:=⟨[(6,iI v13),(7,iI 0),(9,.sl (lm aI v4.1)),(11,.sl (lm aI v5.1)),(13,iI v11)],[],[],[]⟩
def Rk:AS:=⟨[(6,iI v9),(7,iI v25),(11,.sl (lm aI v5.1)),(16,iI v22)],[],[],[]⟩
def Vp:AS:=⟨[(6,iI v9),(7,iI v19),(11,.sl (lm aI v5.1)),(15,iI v20),(16,iI v22),(59,.bool v23)],[],[],[]⟩
def C7:AS:=⟨[(6,iI v9),(7,iI v19),(11,.sl (lm aI v5.1)),(15,iI v20),(16,iI v22)],[],[],[]⟩
def FF:AS:=⟨[(6,iI v9),(7,iI v19),(11,.sl (lm aI v5.1)),(15,iI v20)],[],[],[]⟩
def Hr:AS:=⟨[(6,iI v9),(7,iI 0),(9,.sl (lm aI v4.1)),(11,.sl (lm aI v5.1)),(12,iI v10)],[],[],[]⟩
abbrev Cu:Prop:=∀{v9:Int} {v10:Int},L1 v9 v10=some r→LP (mi M w0) (lI M w0 r) A1 (cat Tryz.f55 (pn 1012)) m1 (Hr v4 v5 v9 v10)
abbrev pD:Prop:=∀{v19:Int} {v20:Int},L2 v19 v20=some r→LP (mi M w0) (lI M w0 r) xU (cat Tryz.f55 (pn 2036)) m2 (FF v5 v9 v19 v20)
abbrev BK:Prop:=∀{v22:Int},L3 v22=some r→LP (mi M w0) (lI M w0 r) (BO M w0 r m2) (cat Tryz.f55 (pn 130344)) m3 (C7 v5 v9 v19 v20 v22)
variable{M w0 r v1 v2 v3 v4 v5 v9 v10 v11 v13 v19 v20 v22 v23 v25 m1 m2 m3 L1 L2 L3}{K:Kn}{n:Nat}
theorem Cy(hK:ao K)(hL1:Cu M w0 r v4 v5 m1 L1)(h:vJ K n v4 v5 v11 L1 v13=some r):nc M w0 r (gk 16203 :: .b 1::Bg M w0 r m1) (R0 v4 v5 v11 v13):=by
 unfold vJ at h;exact ae 2 (bz (hL1 h))
theorem Fj(hK:ao K)(hL2:pD M w0 r v5 v9 m2 L2)(h:ut K n v5 v9 v22 L2 v25=some r):nc M w0 r (gk 65175 :: .b 3::zU M w0 r m2) (Rk v5 v9 v22 v25):=by
 unfold ut at h;exact ae 2 (bz (hL2 h))
theorem G1(hK:ao K)(hL2:pD M w0 r v5 v9 m2 L2)(hL3:BK M w0 r v5 v9 v19 v20 m2 m3 L3)(h:vd K n v5 v9 v19 v20 v22 L2 L3 v23=some r):nc M w0 r (gk 521377::gk 260689::Iv M w0 r m2 m3) (Vp v5 v9 v19 v20 v22 v23):=by
 unfold vd at h;obtain⟨h29,h⟩|⟨h29,h⟩:=ak h
 ·exact ah 59 h29 (ae 5 (bz (hL3 h)))
 ·refine ah 59 h29 (Hl 4 5 3 7 (aj 3 ?_));obtain⟨h30,h⟩:=aF h;refine az (gW aI v5.1 v20 v22 159 (.tmp 62) (some (.tmp 63)) (some (.tmp 64)) 65 (e:=165) (sz:=62) (by kernel_rfl) (by kernel_rfl) (by kernel_rfl) (by kernel_rfl) (by kernel_rfl) (by kernel_rfl) (fu) (fun k hk=>by subst hk;kernel_rfl) h30) ?_;obtain⟨v24,h31,h⟩:=bind_some h;refine aS (ui hK h31) (ac (bh 3 2 ?_));obtain⟨h32,h⟩|⟨h32,h⟩:=ak h
  ·exact ah 69 h32 (ae 2 (Fj hK hL2 h))
  ·exact ah 69 h32 (ae 2 (Fj hK hL2 h))
theorem TW(hK:ao K)(hL2:pD M w0 r v5 v9 m2 L2)(hL3:BK M w0 r v5 v9 v19 v20 m2 m3 L3)(h:vF K n v5 v9 v19 v20 L2 L3 v22=some r):nc M w0 r (gk 130344::Iv M w0 r m2 m3) (C7 v5 v9 v19 v20 v22):=by
 unfold vF at h;refine bN 4 5 3 2 (aj 2 (az (bu aI v5.1) (aM 5 2 ?_)));obtain⟨h27,h⟩|⟨h27,h⟩:=ak h
 ·refine aB 51 h27 (aM 8 3 ?_);obtain⟨h28,h⟩:=aF h;exact az (bi aI aI h28 (fu) ((fun _=>rfl))) (ac (ae 0 (G1 hK hL2 hL3 h)))
 ·exact aB 51 h27 (ac (ae 0 (G1 hK hL2 hL3 h)))
theorem QG(hK:ao K)(hL2:pD M w0 r v5 v9 m2 L2)(m:Nat):BK M w0 r v5 v9 v19 v20 m2 m (ww K n v5 v9 v19 v20 L2 m):=by
 induction m with
 | zero=>intro v22 h;cases h
 | succ m ih=>intro v22 h;have h:vF K n v5 v9 v19 v20 L2 (ww K n v5 v9 v19 v20 L2 m) v22=some r:=h;exact bB (TW hK hL2 ih h)
theorem Uw(hK:ao K)(hL2:pD M w0 r v5 v9 m2 L2)(h:xa K n v5 v9 L2 v19 v20=some r):nc M w0 r (gk 2036::zU M w0 r m2) (FF v5 v9 v19 v20):=by
 unfold xa at h;refine bN 4 5 3 2 (aj 2 (az (bu aI v5.1) (ac ?_)));obtain⟨h23,h⟩|⟨h23,h⟩:=ak h
 ·exact ah 44 h23 (ae 7 (cg (p:=pn 65172) n (QG hK hL2 n h)))
 ·refine ah 44 h23 (aL 8 ?_);cases h;exact gn
theorem ON(hK:ao K)(m:Nat):pD M w0 r v5 v9 m (vD K n v5 v9 m):=by
 induction m with
 | zero=>intro v19 v20 h;cases h
 | succ m ih=>intro v19 v20 h;have h:xa K n v5 v9 (vD K n v5 v9 m) v19 v20=some r:=h;exact bB (Uw hK ih h)
theorem Rx(hK:ao K)(hL1:Cu M w0 r v4 v5 m1 L1)(h:tV K n v4 v5 L1 v9 v10=some r):nc M w0 r (gk 1012::Bg M w0 r m1) (Hr v4 v5 v9 v10):=by
 unfold tV at h;refine bN 4 5 3 2 (aj 2 (az (bu aI v4.1) (ac ?_)));obtain⟨h8,h⟩|⟨h8,h⟩:=ak h
 ·refine ah 27 h8 (bK (ks':=gk 8100::gk 8101 :: .b 1::Bg M w0 r m1) 4 (aj 2 ?_));obtain⟨v11,h9,h⟩:=bind_some h;refine aS (BD hK h9) (ac (bN 4 5 3 2 (aj 3 ?_)));obtain⟨h10,h⟩:=aF h;refine az (gW aI v4.1 v10 v11 159 (.tmp 31) (some (.tmp 32)) (some (.tmp 33)) 34 (e:=165) (sz:=62) (by kernel_rfl) (by kernel_rfl) (by kernel_rfl) (by kernel_rfl) (by kernel_rfl) (by kernel_rfl) (fu) (fun k hk=>by subst hk;kernel_rfl) h10) ?_;obtain⟨v12,h11,h⟩:=bind_some h;refine aS (ui hK h11) (ac (bh 3 2 ?_));obtain⟨h12,h⟩|⟨h12,h⟩:=ak h
  ·exact ah 38 h12 (ae 2 (Cy hK hL1 h))
  ·exact ah 38 h12 (ae 2 (Cy hK hL1 h))
 ·exact ah 27 h8 (ae 9 (cg (p:=pn 1018) n (ON hK n h)))
theorem Nt(hK:ao K)(m:Nat):Cu M w0 r v4 v5 m (xg K n v4 v5 m):=by
 induction m with
 | zero=>intro v9 v10 h;cases h
 | succ m ih=>intro v9 v10 h;have h:tV K n v4 v5 (xg K n v4 v5 m) v9 v10=some r:=h;exact bB (Rx hK ih h)
theorem NE(hK:ao K)(h:zn K n v1 v2 v3=some r):aU Tryz.prog 55 [.sl (lm aR v1),.agg (aV v2),.agg (bW v3)] (fun v _=>v=.tup [iI r.1,iI r.2]):=by
 refine bv (cat Tryz.f55 (pn 1)) Tryz.func55 Tryz.ntmps55 fun M w0=>(bd ⟨[(0,.sl (lm aR v1)),(1,.agg (aV v2)),(2,.agg (bW v3))],[],[],[]⟩ ?_);unfold zn at h;refine aC 14 15 5 (aj 1 (sN 5 5 (bW v3) (mE 113 #[(.tmp 5),(.tmp 8)] [.cptr (bW v3),.ptr 8 0] (vr 400008 8 0 3 1 ?_))));obtain⟨v4,h1,h⟩:=bind_some h;refine gE 400008 9 [(8,1)] (Q7 hK h1) (ac (aC 6 7 3 (aj 1 (mE 114 #[(.tmp 10),(.tmp 8)] [.ptr 10 0,.ptr 8 0] ?_))));obtain⟨v5,h2,h⟩:=bind_some h;exact gE 400008 9 [(10,1),(8,2)] (VM hK h2) (ac (ae 4 (cg (p:=pn 506) n (Nt hK n h))))
end
noncomputable section
variable[GS](M:Nat→Prop)(w0:aE)(r:Int×Int)(v1:List aa)(v2:aJ)(v3:bF)  
variable{M w0 r v1 v2 v3}{K:Kn}{n:Nat}
theorem Q2(hK:ao K)(h:BQ K n v1 v2 v3=some r):aU Tryz.prog 54 [.sl (lm aR v1),.agg (aV v2),.cptr (bW v3)] (fun v _=>v=.tup [iI r.1,iI r.2]):=by
 refine bv (cat Tryz.f54 (pn 1)) Tryz.func54 Tryz.ntmps54 fun M w0=>(bd ⟨[(0,.sl (lm aR v1)),(1,.agg (aV v2)),(2,.cptr (bW v3))],[],[],[]⟩ ?_);unfold BQ at h;refine aC 6 7 3 (aj 3 ?_);obtain⟨v4,h1,h⟩:=bind_some h;refine aS (NE hK h1) (ac (aL 1 ?_));cases h;exact gn
end
noncomputable section
variable[GS](M:Nat→Prop)(w0:aE)(r:bF)(v1 v2:Bool)  
variable{M w0 r v1 v2}{K:Kn}{n:Nat}
theorem J6(v1 v2:Bool):∀d:Nat,jw [(2,[dq 36 v1]),(3,[dq 37 v2]),(4,[.fno 43 [.ptr 2 0,.ptr 5 0,.ptr 3 0],.fno 48 [.ptr 5 0],.fno 52 [.ptr 5 0],.fno 54 [.ptr 5 0]]),(5,[.fno 43 [.ptr 2 0,.ptr 5 0,.ptr 3 0],.fno 48 [.ptr 5 0],.fno 52 [.ptr 5 0],.fno 54 [.ptr 5 0]])] 5 [.fno 43 [.ptr 2 0,.ptr 5 0,.ptr 3 0],.fno 48 [.ptr 5 0],.fno 52 [.ptr 5 0],.fno 54 [.ptr 5 0]] d=bW (dm d v1 v2)
 | 0=>rfl
 | d+1=>by
   show lm (stepT [(2,[dq 36 v1]),(3,[dq 37 v2]),(4,[.fno 43 [.ptr 2 0,.ptr 5 0,.ptr 3 0],.fno 48 [.ptr 5 0],.fno 52 [.ptr 5 0],.fno 54 [.ptr 5 0]]),(5,[.fno 43 [.ptr 2 0,.ptr 5 0,.ptr 3 0],.fno 48 [.ptr 5 0],.fno 52 [.ptr 5 0],.fno 54 [.ptr 5 0]])] 5 (jw [(2,[dq 36 v1]),(3,[dq 37 v2]),(4,[.fno 43 [.ptr 2 0,.ptr 5 0,.ptr 3 0],.fno 48 [.ptr 5 0],.fno 52 [.ptr 5 0],.fno 54 [.ptr 5 0]]),(5,[.fno 43 [.ptr 2 0,.ptr 5 0,.ptr 3 0],.fno 48 [.ptr 5 0],.fno 52 [.ptr 5 0],.fno 54 [.ptr 5 0]])] 5 [.fno 43 [.ptr 2 0,.ptr 5 0,.ptr 3 0],.fno 48 [.ptr 5 0],.fno 52 [.ptr 5 0],.fno 54 [.ptr 5 0]] d)) [.fno 43 [.ptr 2 0,.ptr 5 0,.ptr 3 0],.fno 48 [.ptr 5 0],.fno 52 [.ptr 5 0],.fno 54 [.ptr 5 0]]=_;rw[J6 v1 v2 d];rfl
theorem L0(hK:ao K)(h:uh K n v1 v2=some r):aU Tryz.prog 18 [dq 36 v1,dq 37 v2] (fun v _=>v=.agg (bW r)):=by
 refine bv (cat Tryz.f18 (pn 1)) Tryz.func18 Tryz.ntmps18 fun M w0=>(bd ⟨[(0,dq 36 v1),(1,dq 37 v2)],[],[],[]⟩ ?_);unfold uh at h;refine aC 14 15 5 (aj 0 (mE 43 #[(.tmp 2),(.tmp 5),(.tmp 3)] [.ptr 2 0,.ptr 5 0,.ptr 3 0] (ac (aC 2 3 1 (aj 0 (mE 48 #[(.tmp 5)] [.ptr 5 0] (ac (aC 2 3 1 (aj 0 (mE 52 #[(.tmp 5)] [.ptr 5 0] (ac (aC 2 3 1 (aj 0 (mE 54 #[(.tmp 5)] [.ptr 5 0] (ac (aL 3 (bJ [4] [2,3,4,5] [] (bd ⟨[(4,.ptr 4 0)],[(2,[dq 36 v1]),(3,[dq 37 v2]),(4,[.fno 43 [.ptr 2 0,.ptr 5 0,.ptr 3 0],.fno 48 [.ptr 5 0],.fno 52 [.ptr 5 0],.fno 54 [.ptr 5 0]]),(5,[.fno 43 [.ptr 2 0,.ptr 5 0,.ptr 3 0],.fno 48 [.ptr 5 0],.fno 52 [.ptr 5 0],.fno 54 [.ptr 5 0]])],[],[2,3,4,5]⟩ (Uk 4 4 5 n (NV (s':=⟨[(4,.ptr 4 0)],[(4,bW (dm n v1 v2))],[],[4]⟩) (congrArg (fun t=>(⟨[(4,.ptr 4 0)],[(4,t)],[],[4]⟩:AS)) (J6 v1 v2 n)) ?_))))))))))))))))))));cases h;exact bj
end
noncomputable section
variable[GS](M:Nat→Prop)(w0:aE)(r:Bool)(v1 v2:aa)  
variable{M w0 r v1 v2}{K:Kn}{n:Nat}
theorem Rr(hK:ao K)(h:rd K n v1 v2=some r):aU Tryz.prog 65 [.agg (av v1),.cptr (av v2)] (fun v _=>v=.bool r):=by
 refine bv (cat Tryz.f65 (pn 1)) Tryz.func65 Tryz.ntmps65 fun M w0=>(bd ⟨[(0,.agg (av v1)),(1,.cptr (av v2))],[],[],[]⟩ ?_);unfold rd at h;refine aC 6 7 3 (aj 2 ?_);obtain⟨v3,h1,h⟩:=bind_some h;refine aS (hK.vT h1) (ac (aL 1 ?_));cases h;exact bj
end
noncomputable section
variable[GS](M:Nat→Prop)(w0:aE)(r:Bool)(v1 v2:aa)(v5:Bool)  
abbrev TO(n:Nat):aq:=.c (cat Tryz.f28 (pn n))
abbrev NP:Cx:=⟨Tryz.prog,14,M,w0⟩
abbrev PS:=bodyPost Tryz.prog Tryz.f28 (bA M w0 (fun v _=>v=.bool r))
abbrev OE(ks:List aq)(s:AS):=VE (NP M w0) (PS M w0 r) ks .normal s
def T1:AS:=⟨[(4,.bool v5)],[],[],[]⟩
variable{M w0 r v1 v2 v5}{K:Kn}{n:Nat}
theorem Ea(hK:ao K)(h:tC K n v5=some r):OE M w0 r [TO 7] (T1 v5):=by
 unfold tC at h;refine aL 1 ?_;cases h;exact bj
theorem Fq(hK:ao K)(h:mK K n v1 v2=some r):aU Tryz.prog 28 [.agg (av v1),.agg (av v2)] (fun v _=>v=.bool r):=by
 refine bv (cat Tryz.f28 (pn 1)) Tryz.func28 Tryz.ntmps28 fun M w0=>(bd ⟨[(0,.agg (av v1)),(1,.agg (av v2))],[],[],[]⟩ ?_);unfold mK at h;refine aC 6 7 3 (aj 2 ?_);obtain⟨v3,h1,h⟩:=bind_some h;refine aS (ve hK h1) (aM 4 1 ?_);obtain⟨h2,h⟩|⟨h2,h⟩:=ak h
 ·exact aB 8 h2 (ac (ae 0 (Ea hK h)))
 ·refine aB 8 h2 (aM 6 2 (sN 3 3 (av v2) (xI 65 #[(.tmp 3)] [.cptr (av v2)] ?_)));obtain⟨v4,h3,h⟩:=bind_some h;exact aS (Hz hK h3) (ac (ae 0 (Ea hK h)))
end
noncomputable section
variable[GS](M:Nat→Prop)(w0:aE)(r v1:ai)(v2:List ai)(v4:Int)(v5:List ai)(m1:Nat)(L1:Int→(List ai)→Option ai)
abbrev Br:Cx:=⟨Tryz.prog,26,M,w0⟩
abbrev AE:=bodyPost Tryz.prog Tryz.f73 (bA M w0 (fun v s=>v=.agg (List.set (aO ({ r with Kids:=[] }:ai)) 66 (.ref 1006))∧look 1006 s.r=some ⟨44,67,lm aY r.Kids⟩))
abbrev Tp(ks:List aq)(s:AS):=VE (Br M w0) (AE M w0 r) ks .normal s
abbrev Fn(n:Nat):aq:=.c (cat Tryz.f73 (pn n))
abbrev Ce:List aq:=[.b 0,Fn 15]
abbrev Vt:List aq:=kl (Br M w0) (AE M w0 r) Ce (cat Tryz.f73 (pn 116)) m1::Ce
def Hg:AS:=⟨[(1,.ptr 1 0),(2,.ptr 2 0),(10,iI (v2.length:Int)),(11,iI v4)],[(1,List.set (aO ({ v1 with Kids:=[] }:ai)) 66 (.ref 1006)),(2,List.set (aO bG) 66 (.nils))],[(1006,⟨44,67,lm aY v5⟩)],[1,2,1006]⟩
abbrev Ig:Prop:=∀{v4:Int} {v5:(List ai)},L1 v4 v5=some r→LP (Br M w0) (AE M w0 r) Ce (cat Tryz.f73 (pn 116)) m1 (Hg v1 v2 v4 v5)
variable{M w0 r v1 v2 v4 v5 m1 L1}{K:Kn}{n:Nat}
theorem S4(hK:ao K)(hL1:Ig M w0 r v1 v2 m1 L1)(h:pU K n v1 v2 L1 v4 v5=some r):Tp M w0 r (Fn 116::Vt M w0 r m1) (Hg v1 v2 v4 v5):=by
 unfold pU at h;refine aC 6 7 3 ?_;obtain⟨h6,h⟩|⟨h6,h⟩:=ak h
 ·refine ah 12 h6 (Fu 9 1 3 6 (bJ [1,2,3,10,11] [1,2] [1006] ?_));obtain⟨h7,h⟩:=aF h;obtain⟨v6,h8,h⟩:=bind_some h;obtain⟨h9,h⟩:=aF h;exact bQ 1 (nu 14 [.ptr 1 66,.ref 1006,iI v4,.ptr 1 66,.ref 1006,iI v4,.eptr 1006 67 (v4.toNat) 0,.agg (aO (gD v5 v4)),.agg (aO v6),.eptr 1006 67 (v4.toNat) 0]) [] [] [oS 1006 ⟨44,67,lm aY (List.set v5 v4.toNat v6)⟩] (ay (vz 6) (bC (d8 1006 67 aY (L:=v5) h7) (bC (cR 44 0 aY aO (cE h9).2 (ey)) (ag (cD 0 1 22 (hK.qZ h8)) (bC (d8 1006 67 aY (L:=v5) h9) (ag (ex (m:=0) (fw 1006 44 67 0 aY aO v6 (cE h9).2 (ey))) bP)))))) (ae 2 (bz (hL1 h)))
 ·refine ah 12 h6 (aL 8 ?_);cases h;exact fd
theorem To(hK:ao K)(m:Nat):Ig M w0 r v1 v2 m (nE K n v1 v2 m):=by
 induction m with
 | zero=>intro v4 v5 h;cases h
 | succ m ih=>intro v4 v5 h;have h:pU K n v1 v2 (nE K n v1 v2 m) v4 v5=some r:=h;exact bB (S4 hK ih h)
theorem Ed(hK:ao K)(h:m5 K n v1=some r):aU Tryz.prog 73 [.agg (aO v1)] (fun v s=>v=.agg (List.set (aO ({ r with Kids:=[] }:ai)) 66 (.ref 1006))∧look 1006 s.r=some ⟨44,67,lm aY r.Kids⟩):=by
 refine bv (cat Tryz.f73 (pn 1)) Tryz.func73 Tryz.ntmps73 fun M w0=>(bd ⟨[(0,.agg (aO v1))],[],[],[]⟩ ?_);unfold m5 at h;refine aC 6 7 3 (aj 2 ?_);obtain⟨v2,h1,h⟩:=bind_some h;exact fU 1006 (xp hK h1) (fS 5) (ac (bN 4 5 3 2 (aj 2 (az (bu aY v2) (ac (ae 1 (cg (p:=pn 58) n (To hK n h))))))))
end
noncomputable section
variable[GS](M:Nat→Prop)(w0:aE)(r v1:List Int)  
variable{M w0 r v1}{K:Kn}{n:Nat}
theorem LO(hK:ao K)(h:tn K n v1=some r):aU Tryz.prog 95 [.sl (lm (ba .i64) v1)] (fun v s=>v=.ref 5∧look 5 s.r=some ⟨3,1,lm (ba .i64) r⟩):=by
 refine bv (cat Tryz.f95 (pn 1)) Tryz.func95 Tryz.ntmps95 fun M w0=>(bd ⟨[(0,.sl (lm (ba .i64) v1))],[],[],[]⟩ ?_);unfold tn at h;refine bN 12 13 7 4 (aj 1 ?_);refine Ew (aQ Tryz.f95 (pn 12) 1) (.eql) 72 72 (.tmp 3) (.const (.slice none 0 0)) 4 (lm (ba .i64) v1) (r:=aK Tryz.f95 (pn 12) 2) (e:=3) (by kernel_rfl) (by kernel_rfl) (by kernel_rfl) (by kernel_rfl) (by kernel_rfl) (by kernel_rfl) (by kernel_rfl) (by kernel_rfl) (fun hq=>?_) ?_
 ·have h:=Eb (by simpa using hq) h;refine ac (aL 5 (gh 5 2 3 1 ?_));cases h;exact fd
 ·have h:=DD h;refine ac (eV 2 3 3 (aj 0 (t9 72 5 (e:=3) (sz:=1) (aM 2 1 ?_))));obtain⟨h2,h⟩:=aF h;refine az (cy 7 5 3 1 (ba .i64) (rfl) ((fun _=>rfl)) h2) (ac (aL 1 ?_));cases h;exact fd
end
noncomputable section
variable[GS](M:Nat→Prop)(w0:aE)(r:Unit)(v1:eU)(v2:aa)(v3:List Int)(v4:Bool)(v6:List Int)(v10:Int)(v11:Bool)(m1:Nat)(L1:Int→Option Unit)
abbrev Bm:Cx:=⟨Tryz.prog,53,M,w0⟩
abbrev AB:=bodyPost Tryz.prog Tryz.f76 (bA M w0 (fun v _=>v=Bk r))
abbrev vS(ks:List aq)(s:AS):=VE (Bm M w0) (AB M w0 r) ks .normal s
abbrev jC(n:Nat):aq:=.c (cat Tryz.f76 (pn n))
abbrev Bn:List aq:=[.b 0]
abbrev ym:List aq:=kl (Bm M w0) (AB M w0 r) Bn (cat Tryz.f76 (pn 60)) m1::Bn
def Qk:AS:=⟨[(2,.sl (lm (ba .i64) v6)),(3,.ptr 3 0),(7,.ptr 7 0),(24,.sl (lm aR v2.Kids)),(25,iI (v2.Kids.length:Int)),(26,iI v10),(43,.bool v11)],[(3,mh v1),(7,av (gD v2.Kids v10))],[],[3,7]⟩
def Gl:AS:=⟨[(2,.sl (lm (ba .i64) v6)),(3,.ptr 3 0),(24,.sl (lm aR v2.Kids)),(25,iI (v2.Kids.length:Int)),(26,iI v10)],[(3,mh v1)],[],[3]⟩
def ME:AS:=⟨[(2,.sl (lm (ba .i64) v6)),(3,.ptr 3 0),(4,.ptr 4 0)],[(3,mh v1),(4,av v2)],[],[3,4]⟩
def N2:AS:=⟨[(2,.sl (lm (ba .i64) v3)),(3,.ptr 3 0),(4,.ptr 4 0),(16,.bool v4)],[(3,mh v1),(4,av v2)],[],[3,4]⟩
abbrev zf:Prop:=∀{v10:Int},L1 v10=some r→LP (Bm M w0) (AB M w0 r) Bn (cat Tryz.f76 (pn 60)) m1 (Gl v1 v2 v6 v10)
variable{M w0 r v1 v2 v3 v4 v6 v10 v11 m1 L1}{K:Kn}{n:Nat}
theorem A4(hK:ao K)(hL1:zf M w0 r v1 v2 v6 m1 L1)(h:lw K n v1 v2 v6 v10 L1 v11=some r):vS M w0 r (jC 7781::jC 3891 :: .b 1::jC 487::ym M w0 r m1) (Qk v1 v2 v6 v10 v11):=by
 unfold lw at h;obtain⟨h16,h⟩|⟨h16,h⟩:=ak h
 ·refine ah 43 h16 ?_;cases h
 ·refine ah 43 h16 (bK (ks':=jC 3891 :: .b 1::jC 487::ym M w0 r m1) 2 (aj 3 ?_));obtain⟨v12,h17,h⟩:=bind_some h;exact aS (hK.px h17) (ac (ae 2 (bz (hL1 h))))
theorem Mb(hK:ao K)(hL1:zf M w0 r v1 v2 v6 m1 L1)(h:qV K n v1 v2 v6 L1 v10=some r):vS M w0 r (jC 60::ym M w0 r m1) (Gl v1 v2 v6 v10):=by
 unfold qV at h;refine aC 6 7 3 ?_;obtain⟨h12,h⟩|⟨h12,h⟩:=ak h
 ·refine ah 27 h12 (c8 8 9 1 3 5 (aj 0 ?_));obtain⟨h13,h⟩:=aF h;refine az (bi aR av h13 (dY) (dp)) (ac (bN 4 5 3 2 (aj 4 ?_)));obtain⟨h14,h⟩|⟨h14,h⟩:=ak h
  ·refine aB 33 h14 (aM 9 5 ?_);obtain⟨h15,h⟩|⟨h15,h⟩:=ak h
   ·exact aB 38 h15 (ac (ae 0 (A4 hK hL1 h)))
   ·exact aB 38 h15 (ac (ae 0 (A4 hK hL1 h)))
  ·exact aB 33 h14 (ac (ae 0 (A4 hK hL1 h)))
 ·refine ah 27 h12 (bK (ks':=[]) 5 (A3 ?_));cases h;exact gn
theorem Q1(hK:ao K)(m:Nat):zf M w0 r v1 v2 v6 m (lD K n v1 v2 v6 m):=by
 induction m with
 | zero=>intro v10 h;cases h
 | succ m ih=>intro v10 h;have h:qV K n v1 v2 v6 (lD K n v1 v2 v6 m) v10=some r:=h;exact bB (Mb hK ih h)
theorem E3(hK:ao K)(h:ph K n v1 v2 v6=some r):vS M w0 r [jC 7] (ME v1 v2 v6):=by
 unfold ph at h;exact aC 2 3 1 (aj 2 (az (bu aR v2.Kids) (ac (ae 1 (cg (p:=pn 30) n (Q1 hK n h))))))
theorem E7(hK:ao K)(h:m4 K n v1 v2 v3 v4=some r):vS M w0 r [jC 13,jC 7] (N2 v1 v2 v3 v4):=by
 unfold m4 at h;obtain⟨h2,h⟩|⟨h2,h⟩:=ak h
 ·refine ah 16 h2 (bh 2 1 (bJ [2,3,4] [3,4] [] ?_));obtain⟨v5,h3,h⟩:=bind_some h;obtain⟨h4,h⟩:=aF h;exact bQ 2 (nu 17 [.sl (lm (ba .i64) v3),.ref 18,.ptr 4 1,iI v2.Node,.sl (lm (ba .i64) [v2.Node])]) [] [(18,⟨3,1,lm (ba .i64) v5⟩)] [fB 22 18 ⟨3,1,lm (ba .i64) (v5++[v2.Node])⟩,bZ Tryz.prog 53 Tryz.f76 (pn 26) 6] (ay [.v 0 2] (ag (y9 0 1 18 (LO hK h3) (fS 5)) (ay [.v 0 2,.v 0 2,.v 0 1] (ag (ex (m:=0) (cy 22 18 3 1 (ba .i64) (rfl) ((fun _=>rfl)) h4)) (ag (bX 1) bP))))) (gb 18 (ae 0 (E3 hK h)))
 ·exact ah 16 h2 (ae 2 (E3 hK h))
theorem DH(hK:ao K)(h:kj K n v1 v2 v3=some r):aU Tryz.prog 76 [.agg (mh v1),.agg (av v2),.sl (lm (ba .i64) v3)] (fun v _=>v=Bk r):=by
 refine bv (cat Tryz.f76 (pn 1)) Tryz.func76 Tryz.ntmps76 fun M w0=>(bd ⟨[(0,.agg (mh v1)),(1,.agg (av v2)),(2,.sl (lm (ba .i64) v3))],[],[],[]⟩ ?_);unfold kj at h;refine bN 12 13 7 4 (aj 4 ?_);obtain⟨h1,h⟩|⟨h1,h⟩:=ak h
 ·exact aB 11 h1 (ac (ae 0 (E7 hK h)))
 ·exact aB 11 h1 (ac (ae 0 (E7 hK h)))
end
noncomputable section
variable[GS](M:Nat→Prop)(w0:aE)(r:ai×Int×Int×(List aG))(v1:aa)(v2 v3:Int)(v4:bF)(v5 v6:Int)(v7:List aG)  
abbrev Fw(n:Nat):aq:=.c (cat Tryz.f35 (pn n))
variable{M w0 r v1 v2 v3 v4 v5 v6 v7}{K:Kn}{n:Nat}[SG w0]
theorem TB(hK:ao K)(h:uY K n v1 v2 v3 v4 v5 v6 v7=some r):eG Tryz.prog 35 [.agg (av v1),iI v2,iI v3,.agg (bW v4)] [(440001,List.set (bL (⟨[],v5,v6⟩:bH)) 0 (.ref 440009))] ⟨64,127,lm bc v7⟩ (fun v s=>v=.agg (aO r.1)∧cj s.o [(440001,List.set (bL (⟨[],r.2.1,r.2.2.1⟩:bH)) 0 (.ref 440009))]∧look 440009 s.r=some ⟨64,127,lm bc r.2.2.2⟩):=by
 refine jz (c:=cat Tryz.f35 []) Tryz.func35 (by kernel_rfl) _ Tryz.ntmps35 (of_decide_eq_true (by kernel_rfl)) fun M w0=>(bd ⟨[(0,.agg (av v1)),(1,iI v2),(2,iI v3),(3,.agg (bW v4))],[(440001,List.set (bL (⟨[],v5,v6⟩:bH)) 0 (.ref 440009))],[(440009,⟨64,127,lm bc v7⟩)],[440009,440001,1440001]⟩ ?_);unfold uY at h;refine bK (ks':=[Fw 14,Fw 15]) 5 (bJ [1,2,4,7,8,10] [4,7,8,440001] [440009] (F5 10 ?_));obtain⟨v8,h1,h⟩:=bind_some h;obtain⟨v9,h2,h⟩:=bind_some h;obtain⟨v10,h3,h⟩:=bind_some h;refine bQ 2 (nu 16 [.agg (av v1),.ptr 4 2,.agg (aV v1.Style),iI (min (max v2 0) 1048576),.agg (cb v8),.agg (bW v4)]++nu 23 [.agg (List.set (aO ({ v10 with Kids:=[] }:ai)) 66 (.ref 23))]++nu 9 [.ptr 9 0]) [(9,List.set (aO bG) 66 (.nils))] [(23,⟨44,67,lm aY v10.Kids⟩)] [k8 (some 22) ⟨64,127,lm bc v9.2.2.2⟩ [(440001,List.set (bL (⟨[],v9.2.1,v9.2.2.1⟩:bH)) 0 (.ref 440009))] (.agg (aO v9.1)),bZ Tryz.prog 34 Tryz.f35 (pn 14) 9] (ay [.v 0 1,.v 0 2,.v 0 2,.v 0 2] (ag (cD 0 1 20 (H7 hK h1)) (ay [.v 0 1] (ag (ER 0 10 (Ut hK h2)) (ag (y9 1 1 23 (Ed hK h3) (tU (i:=66) (by kernel_rfl))) (ag (pw 0 2 44 9 (List.set (aO bG) 66 (.nils))) (ag (bX 1) bP))))))) (aC 6 7 3 (aj 3 (QH 30 0 ?_)))
 obtain⟨v11,h4,h⟩:=bind_some h;refine aS (DH hK h4) (ac (aL 3 (gb 23 ?_)));cases h;exact dL
end
noncomputable section
variable[GS](M:Nat→Prop)(w0:aE)(r:Int)(v1:List aG)(v2:Fv)(v4:Int)(m1:Nat)(L1:Int→Option Int)
abbrev zw:Cx:=⟨Tryz.prog,19,M,w0⟩
abbrev Cd:=bodyPost Tryz.prog Tryz.f77 (bA M w0 (fun v _=>v=iI r))
abbrev MX(ks:List aq)(s:AS):=VE (zw M w0) (Cd M w0 r) ks .normal s
abbrev Ih(n:Nat):aq:=.c (cat Tryz.f77 (pn n))
abbrev Bt:List aq:=[.b 0,Ih 7]
abbrev UV:List aq:=kl (zw M w0) (Cd M w0 r) Bt (cat Tryz.f77 (pn 52)) m1::Bt
def H0:AS:=⟨[(0,.sl (lm bc v1)),(1,.fn v2.id v2.aP),(7,iI (v1.length:Int)),(8,iI v4)],[],[],[]⟩
abbrev CH:Prop:=∀{v4:Int},L1 v4=some r→LP (zw M w0) (Cd M w0 r) Bt (cat Tryz.f77 (pn 52)) m1 (H0 v1 v2 v4)
variable{M w0 r v1 v2 v4 m1 L1}{K:Kn}{n:Nat}
theorem NQ(hK:ao K)(hL1:CH M w0 r v1 v2 m1 L1)(h:sq K n v1 v2 L1 v4=some r):MX M w0 r (Ih 52::UV M w0 r m1) (H0 v1 v2 v4):=by
 unfold sq at h;refine aC 6 7 3 ?_;obtain⟨h5,h⟩|⟨h5,h⟩:=ak h
 ·refine ah 9 h5 (c8 18 19 1 3 7 (aj 3 ?_));obtain⟨h6,h⟩:=aF h;refine az (bi bc bc h6 (yo) ((fun _=>rfl))) (aM 5 1 ?_);obtain⟨v5,h7,h⟩:=bind_some h;refine k9 (hK.oK h7) (ac ?_);obtain⟨h8,h⟩|⟨h8,h⟩:=ak h
  ·refine ah 16 h8 (aL 9 ?_);cases h;exact bj
  ·exact ah 16 h8 (ae 4 (bz (hL1 h)))
 ·refine ah 9 h5 (aL 8 ?_);cases h;exact bj
theorem Mw(hK:ao K)(m:Nat):CH M w0 r v1 v2 m (l9 K n v1 v2 m):=by
 induction m with
 | zero=>intro v4 h;cases h
 | succ m ih=>intro v4 h;have h:sq K n v1 v2 (l9 K n v1 v2 m) v4=some r:=h;exact bB (NQ hK ih h)
theorem SS(hK:ao K)(h:uK K n v1 v2=some r):aU Tryz.prog 77 [.sl (lm bc v1),.fn v2.id v2.aP] (fun v _=>v=iI r):=by
 refine bv (cat Tryz.f77 (pn 1)) Tryz.func77 Tryz.ntmps77 fun M w0=>(bd ⟨[(0,.sl (lm bc v1)),(1,.fn v2.id v2.aP)],[],[],[]⟩ ?_);unfold uK at h;exact bN 12 13 7 4 (aj 1 (az (bu bc v1) (ac (ae 1 (cg (p:=pn 26) n (Mw hK n h))))))
end
noncomputable section
variable[GS](M:Nat→Prop)(w0:aE)(r:Bool)(v1:List aG)(v2:Fv)  
variable{M w0 r v1 v2}{K:Kn}{n:Nat}
theorem MN(hK:ao K)(h:sY K n v1 v2=some r):aU Tryz.prog 38 [.sl (lm bc v1),.fn v2.id v2.aP] (fun v _=>v=.bool r):=by
 refine bv (cat Tryz.f38 (pn 1)) Tryz.func38 Tryz.ntmps38 fun M w0=>(bd ⟨[(0,.sl (lm bc v1)),(1,.fn v2.id v2.aP)],[],[],[]⟩ ?_);unfold sY at h;refine aC 6 7 3 (aj 2 ?_);obtain⟨v3,h1,h⟩:=bind_some h;refine aS (SS hK h1) (ac (aL 1 ?_));cases h;exact bj
end
noncomputable section
variable[GS](M:Nat→Prop)(w0:aE)(r:Bool)(v1 v2:aG)(v4:Bool)  
abbrev Ug(n:Nat):aq:=.c (cat Tryz.f39 (pn n))
abbrev OO:Cx:=⟨Tryz.prog,16,M,w0⟩
abbrev KM:=bodyPost Tryz.prog Tryz.f39 (bA M w0 (fun v _=>v=.bool r))
abbrev PW(ks:List aq)(s:AS):=VE (OO M w0) (KM M w0 r) ks .normal s
def Vd:AS:=⟨[(3,.bool v4)],[],[],[]⟩
variable{M w0 r v1 v2 v4}{K:Kn}{n:Nat}
theorem D8(hK:ao K)(h:vW K n v4=some r):PW M w0 r [Ug 7] (Vd v4):=by
 unfold vW at h;refine aL 1 ?_;cases h;exact bj
theorem O2(hK:ao K)(h:q6 K n v1 v2=some r):aU Tryz.prog 39 [.agg (bc v1),.cptr (bc v2)] (fun v _=>v=.bool r):=by
 refine bv (cat Tryz.f39 (pn 1)) Tryz.func39 Tryz.ntmps39 fun M w0=>(bd ⟨[(0,.agg (bc v1)),(1,.cptr (bc v2))],[],[],[]⟩ ?_);unfold q6 at h;refine aC 6 7 3 (aj 6 ?_);obtain⟨h1,h⟩|⟨h1,h⟩:=ak h
 ·refine aB 9 h1 (aM 10 4 ?_);obtain⟨v3,h2,h⟩:=bind_some h;exact aS (ve hK h2) (ac (ae 0 (D8 hK h)))
 ·exact aB 9 h1 (ac (ae 0 (D8 hK h)))
end
noncomputable section
variable[GS](M:Nat→Prop)(w0:aE)(r:ai×Int×Int×(List aG))(v1:aa)(v2 v3 v4 v5:Int)(v6:List aG)(v8:ai×Int×Int×(List aG))(v19:Int)(v20:List aG)(v23:Bool)(v24:List aG)(m2:Nat)(L2:Int→(List aG)→Option (ai×Int×Int×(List aG)))
abbrev yb:Cx:=⟨Tryz.prog,60,M,w0⟩
abbrev Ag:=bodyPost Tryz.prog Tryz.f12 (bA M w0 (fun v s=>v=.agg (aO r.1)∧cj s.o [(440001,List.set (bL (⟨[],r.2.1,r.2.2.1⟩:bH)) 0 (.ref 440009))]∧look 440009 s.r=some ⟨64,127,lm bc r.2.2.2⟩))
abbrev BN(ks:List aq)(s:AS):=VE (yb M w0) (Ag M w0 r) ks .normal s
abbrev me(n:Nat):aq:=.c (cat Tryz.f12 (pn n))
abbrev B0:List aq:=[.b 0,me 63]
abbrev Cn:List aq:=kl (yb M w0) (Ag M w0 r) B0 (cat Tryz.f12 (pn 500)) m2::B0
def On:AS:=⟨[(0,.adr GS.g 0),(5,.ptr 5 0),(8,.ptr 8 0),(9,.ptr 9 0),(10,.ref 2010),(32,.ref 440009),(33,iI (v8.2.2.2.length:Int)),(34,iI v19)],[(5,av v1),(8,List.set (aO bG) 66 (.nils)),(9,aO v8.1),(440001,List.set (bL (⟨[],v8.2.1,v8.2.2.1⟩:bH)) 0 (.ref 440009))],[(2010,⟨64,127,lm bc v24⟩),(440009,⟨64,127,lm bc v8.2.2.2⟩)],[5,8,9,440001,2010,440009,1440001,440001]⟩
def Tj:AS:=⟨[(0,.adr GS.g 0),(5,.ptr 5 0),(8,.ptr 8 0),(9,.ptr 9 0),(10,.ref 2010),(12,.cptr (bc (gD v8.2.2.2 v19))),(32,.ref 440009),(33,iI (v8.2.2.2.length:Int)),(34,iI v19),(48,.bool v23)],[(5,av v1),(8,List.set (aO bG) 66 (.nils)),(9,aO v8.1),(440001,List.set (bL (⟨[],v8.2.1,v8.2.2.1⟩:bH)) 0 (.ref 440009))],[(2010,⟨64,127,lm bc v20⟩),(440009,⟨64,127,lm bc v8.2.2.2⟩)],[5,8,9,440001,2010,440009,1440001,440001]⟩
def IK:AS:=⟨[(0,.adr GS.g 0),(5,.ptr 5 0),(8,.ptr 8 0),(9,.ptr 9 0),(10,.ref 2010),(32,.ref 440009),(33,iI (v8.2.2.2.length:Int)),(34,iI v19)],[(5,av v1),(8,List.set (aO bG) 66 (.nils)),(9,aO v8.1),(440001,List.set (bL (⟨[],v8.2.1,v8.2.2.1⟩:bH)) 0 (.ref 440009))],[(2010,⟨64,127,lm bc v20⟩),(440009,⟨64,127,lm bc v8.2.2.2⟩)],[5,8,9,440001,2010,440009,1440001,440001]⟩
abbrev wH:Prop:=∀{v19:Int} {v20:(List aG)},L2 v19 v20=some r→LP (yb M w0) (Ag M w0 r) B0 (cat Tryz.f12 (pn 500)) m2 (IK v1 v8 v19 v20)
variable{M w0 r v1 v2 v3 v4 v5 v6 v8 v19 v20 v23 v24 m2 L2}{K:Kn}{n:Nat}[SG w0]
theorem JD(hK:ao K)(hL2:wH M w0 r v1 v8 m2 L2)(h:sC K n v1 v8 v19 L2 v24=some r):BN M w0 r (.b 1::me 4007::Cn M w0 r m2) (On v1 v8 v19 v24):=by
 unfold sC at h;exact ae 2 (bz (hL2 h))
theorem IS(hK:ao K)(hL2:wH M w0 r v1 v8 m2 L2)(h:qz K n v1 v8 v19 v20 L2 v23=some r):BN M w0 r (me 64103 :: .b 1::me 4007::Cn M w0 r m2) (Tj v1 v8 v19 v20 v23):=by
 unfold qz at h;obtain⟨h24,h⟩|⟨h24,h⟩:=ak h
 ·refine ah 48 h24 (bh 2 1 (aj 3 ?_));obtain⟨h25,h⟩:=aF h;exact az (cy 52 2010 64 127 bc (rfl) (yo) h25) (ac (ae 0 (JD hK hL2 h)))
 ·exact ah 48 h24 (ae 2 (JD hK hL2 h))
theorem LG(hK:ao K)(hL2:wH M w0 r v1 v8 m2 L2)(h:tx K n v1 v8 L2 v19 v20=some r):BN M w0 r (me 500::Cn M w0 r m2) (IK v1 v8 v19 v20):=by
 unfold tx at h;refine aC 6 7 3 ?_;obtain⟨h19,h⟩|⟨h19,h⟩:=ak h
 ·refine ah 35 h19 (c8 8 9 1 3 5 (aj 0 ?_));obtain⟨h20,h⟩:=aF h;refine az (cS 440009 127 bc h20) (az (cR 64 0 bc bc (cE h20).2 ((fun _=>rfl))) (ac (aC 2 3 1 (aj 1 (sN 12 12 (bc (gD v8.2.2.2 v19)) (xI 39 #[(.tmp 12)] [.cptr (bc (gD v8.2.2.2 v19))] ?_))))));obtain⟨v21,h21,h⟩:=bind_some h;refine Qh (MN hK h21) (ac (aC 2 3 1 (aj 3 ?_)));obtain⟨h22,h⟩|⟨h22,h⟩:=ak h
  ·refine aB 43 h22 (aM 6 3 ?_);obtain⟨v22,h23,h⟩:=bind_some h;exact aS (Fq hK h23) (ac (ae 0 (IS hK hL2 h)))
  ·exact aB 43 h22 (ac (ae 0 (IS hK hL2 h)))
 ·refine ah 35 h19 (kV 2 3 6 (aj 4 (Eu 57 0 (ac (aC 2 3 1 (aj 1 ?_))))));obtain⟨v25,h26,h⟩:=bind_some h;refine fU 1059 (uF hK h26) (tU (i:=66) (by kernel_rfl)) (ac (aL 1 (bJ [8] [8,440001] [1059,2010] (z6 2010 440009 (gb 1059 ?_)))));cases h;exact dL
theorem NR(hK:ao K)(m:Nat):wH M w0 r v1 v8 m (kH K n v1 v8 m):=by
 induction m with
 | zero=>intro v19 v20 h;cases h
 | succ m ih=>intro v19 v20 h;have h:tx K n v1 v8 (kH K n v1 v8 m) v19 v20=some r:=h;exact bB (LG hK ih h)
theorem uR(hK:ao K)(h:il K n v1 v2 v3 v4 v5 v6=some r):eG Tryz.prog 12 [.ptr 440001 0,.agg (av v1),iI v2,iI v3] [(440001,List.set (bL (⟨[],v4,v5⟩:bH)) 0 (.ref 440009))] ⟨64,127,lm bc v6⟩ (fun v s=>v=.agg (aO r.1)∧cj s.o [(440001,List.set (bL (⟨[],r.2.1,r.2.2.1⟩:bH)) 0 (.ref 440009))]∧look 440009 s.r=some ⟨64,127,lm bc r.2.2.2⟩):=by
 refine jz (c:=cat Tryz.f12 []) Tryz.func12 (by kernel_rfl) _ Tryz.ntmps12 (of_decide_eq_true (by kernel_rfl)) fun M w0=>(bd ⟨[(0,.ptr 440001 0),(1,.agg (av v1)),(2,iI v2),(3,iI v3)],[(440001,List.set (bL (⟨[],v4,v5⟩:bH)) 0 (.ref 440009))],[(440009,⟨64,127,lm bc v6⟩)],[440009,440001,1440001]⟩ ?_);unfold il at h;refine bK (ks':=[me 14,me 15]) 5 (bJ [0,2,3,5,8,14] [5,8,440001] [440009] (F5 14 (Tn 0 0 ?_)));obtain⟨v7,h1,h⟩:=bind_some h;obtain⟨v8,h2,h⟩:=bind_some h;exact bQ 2 (nu 20 [.agg (av v1),iI v2,iI v3,.adr GS.g 0,dq 36 true,.adr GS.g 0,dq 37 true,.agg (bW v7)]++nu 9 [.ptr 9 0]) [(9,List.set (aO bG) 66 (.nils))] [] [k8 (some 28) ⟨64,127,lm bc v8.2.2.2⟩ [(440001,List.set (bL (⟨[],v8.2.1,v8.2.2.1⟩:bH)) 0 (.ref 440009))] (.agg (aO v8.1)),bZ Tryz.prog 60 Tryz.f12 (pn 14) 10] (ay [.v 0 1,.v 0 1,.v 0 1,.v 0 2,.v 0 2,.v 0 2,.v 0 2] (ag (cD 0 1 27 (L0 hK h1)) (ag (ER 0 14 (TB hK h2)) (ag (pw 0 2 44 9 (List.set (aO bG) 66 (.nils))) (ag (bX 1) bP))))) (bN 12 13 7 4 (aj 3 (Eu 31 0 (aM 4 1 (az (bu bc v8.2.2.2) (ac (iK 2 0 1 (bJ [0,5,8,9,10,32,33,34] [5,8,9,440001] [440009] (gh 2010 10 64 127 (ae 0 (cg (p:=pn 250) n (NR hK n h))))))))))))
end
noncomputable section
variable[GS](M:Nat→Prop)(w0:aE)(r:aa)(v1:Int)  
variable{M w0 r v1}{K:Kn}{n:Nat}
theorem vu(hK:ao K)(h:oD K n v1=some r):aU Tryz.prog 33 [iI v1] (fun v _=>v=.agg (av r)):=by
 refine bv (cat Tryz.f33 (pn 1)) Tryz.func33 Tryz.ntmps33 fun M w0=>(bd ⟨[(0,iI v1)],[],[],[]⟩ ?_);unfold oD at h;refine aL 5 (jF 2 ?_);cases h;exact bj
end
noncomputable section
variable(M:Nat→Prop)(w0:aE)(r v7:Bool)  
abbrev PV(n:Nat):aq:=.c (cat Tryz.f10 (pn n))
abbrev Ux:Cx:=⟨Tryz.prog,33,M,w0⟩
abbrev Qb:=bodyPost Tryz.prog Tryz.f10 (bA M w0 (fun v _=>v=.bool r))
abbrev Sz(ks:List aq)(s:AS):=VE (Ux M w0) (Qb M w0 r) ks .normal s
def L8:AS:=⟨[(0,.bool v7)],[],[],[]⟩
variable{M w0 r v7}{K:Kn}{n:Nat}
theorem vX(hA:∀ [GS],ao K)(h:ni K n v7=some r):Sz M w0 r [PV 127] (L8 v7):=by
 letI:GS:=⟨0⟩;have hK:=@hA ⟨0⟩
 unfold ni at h;refine aL 1 ?_;cases h;exact bj
theorem La(hA:∀ [GS],ao K)(h:un K n=some r):aU Tryz.prog 10 [] (fun v _=>v=.bool r):=by
 letI:GS:=⟨0⟩;have hK:=@hA ⟨0⟩
 refine bv (cat Tryz.f10 (pn 1)) Tryz.func10 Tryz.ntmps10 fun M w0=>(bd ⟨[],[],[],[]⟩ ?_);unfold un at h;refine aC 14 15 5 (aj 0 ?_);obtain⟨v1,h1,h⟩:=bind_some h;refine aS (vu hK h1) ?_;obtain⟨v2,h2,h⟩:=bind_some h;refine aS (vu hK h2) (az (fX aR ([v1,v2]:List aa) (new:=[av v1,av v2]) (by simp only[List.map_cons,List.map_nil,dp])) (aM 4 1 (vr 400001 1 0 64 127 ?_)));obtain⟨v3,h3,h⟩:=bind_some h;refine vw 1 400001 (fun [GS]=>(uR hA h3)) (ac (aC 6 7 3 (aj 0 ?_)));obtain⟨v4,h4,h⟩:=bind_some h;refine aS (vu hK h4) ?_;obtain⟨v5,h5,h⟩:=bind_some h;refine aS (vu hK h5) (az (fX aR ([v4,v5]:List aa) (new:=[av v4,av v5]) (by simp only[List.map_cons,List.map_nil,dp])) (aM 4 1 ?_));obtain⟨v6,h6,h⟩:=bind_some h;refine vw 1 400001 (fun [GS]=>(uR hA h6)) (ac (aC 2 3 1 (aj 4 ?_)));obtain⟨h7,h⟩|⟨h7,h⟩:=ak h
 ·refine aB 19 h7 (aM 8 4 ?_);obtain⟨h8,h⟩|⟨h8,h⟩:=ak h
  ·refine aB 23 h8 (aM 13 5 ?_);obtain⟨h9,h⟩|⟨h9,h⟩:=ak h
   ·exact aB 28 h9 (ac (ae 0 (vX hA h)))
   ·exact aB 28 h9 (ac (ae 0 (vX hA h)))
  ·exact aB 23 h8 (ac (ae 0 (vX hA h)))
 ·exact aB 19 h7 (ac (ae 0 (vX hA h)))
end
noncomputable section
variable[GS](M:Nat→Prop)(w0:aE)(r:Bool)(v1:dg)(v2:Bool)  
abbrev VR(n:Nat):aq:=.c (cat Tryz.f72 (pn n))
abbrev Mj:Cx:=⟨Tryz.prog,11,M,w0⟩
abbrev SY:=bodyPost Tryz.prog Tryz.f72 (bA M w0 (fun v _=>v=.bool r))
abbrev RQ(ks:List aq)(s:AS):=VE (Mj M w0) (SY M w0 r) ks .normal s
def VY:AS:=⟨[(2,.bool v2)],[],[],[]⟩
variable{M w0 r v1 v2}{K:Kn}{n:Nat}
theorem Dt(hK:ao K)(h:pX K n v2=some r):RQ M w0 r [VR 7] (VY v2):=by
 unfold pX at h;refine aL 1 ?_;cases h;exact bj
theorem fx(hK:ao K)(h:d9 K n v1=some r):aU Tryz.prog 72 [.agg (pH v1)] (fun v _=>v=.bool r):=by
 refine bv (cat Tryz.f72 (pn 1)) Tryz.func72 Tryz.ntmps72 fun M w0=>(bd ⟨[(0,.agg (pH v1))],[],[],[]⟩ ?_);unfold d9 at h;refine aC 6 7 3 (aj 4 ?_);obtain⟨h1,h⟩|⟨h1,h⟩:=ak h
 ·exact aB 6 h1 (ac (ae 0 (Dt hK h)))
 ·exact aB 6 h1 (ac (ae 0 (Dt hK h)))
end
noncomputable section
variable[GS](M:Nat→Prop)(w0:aE)(r:Bool)(v1:List aw)(v2 v23:Int)(v31 v34 v37 v40 v43:Bool)(m1:Nat)(L1:Int→Option Bool)
abbrev xi:Cx:=⟨Tryz.prog,130,M,w0⟩
abbrev vO:=bodyPost Tryz.prog Tryz.f34 (bA M w0 (fun v _=>v=.bool r))
abbrev nJ(ks:List aq)(s:AS):=VE (xi M w0) (vO M w0 r) ks .normal s
abbrev dZ(n:Nat):aq:=.c (cat Tryz.f34 (pn n))
abbrev B4:List aq:=[.b 0,dZ 7]
abbrev rZ:List aq:=kl (xi M w0) (vO M w0 r) B4 (cat Tryz.f34 (pn 52)) m1::B4
def Rp:AS:=⟨[(0,.sl (lm aA v1)),(1,iI v2),(5,iI v23),(6,.ptr 6 0),(7,iI 3),(125,.bool v43)],[(6,aV ((gD v1 v23).Style))],[],[6]⟩
def Px:AS:=⟨[(0,.sl (lm aA v1)),(1,iI v2),(5,iI v23),(6,.ptr 6 0),(7,iI 2),(125,.bool v40)],[(6,aV ((gD v1 v23).Style))],[],[6]⟩
def Vq:AS:=⟨[(0,.sl (lm aA v1)),(1,iI v2),(5,iI v23),(6,.ptr 6 0),(7,iI 1),(125,.bool v37)],[(6,aV ((gD v1 v23).Style))],[],[6]⟩
def LR:AS:=⟨[(0,.sl (lm aA v1)),(1,iI v2),(5,iI v23),(6,.ptr 6 0),(7,iI 0),(125,.bool v34)],[(6,aV ((gD v1 v23).Style))],[],[6]⟩
def Qa:AS:=⟨[(0,.sl (lm aA v1)),(1,iI v2),(5,iI v23),(6,.ptr 6 0),(107,.bool v31)],[(6,aV ((gD v1 v23).Style))],[],[6]⟩
def DG:AS:=⟨[(0,.sl (lm aA v1)),(1,iI v2),(5,iI v23)],[],[],[]⟩
abbrev lL:Prop:=∀{v23:Int},L1 v23=some r→LP (xi M w0) (vO M w0 r) B4 (cat Tryz.f34 (pn 52)) m1 (DG v1 v2 v23)
abbrev jL(m:Nat):List aq:=kl (xi M w0) (vO M w0 r) (.b 2 :: .b 1::dZ 211::rZ M w0 r m1) (cat Tryz.f34 (pn 13468)) m::(.b 2 :: .b 1::dZ 211::rZ M w0 r m1)
variable{M w0 r v1 v2 v23 v31 v34 v37 v40 v43 m1 L1}{K:Kn}{n:Nat}
theorem JP(hK:ao K)(hL1:lL M w0 r v1 v2 m1 L1)(h:pk K n v1 v2 v23 L1 v43=some r):nJ M w0 r (dZ 215497 :: .b 3::dZ 53875::jL M w0 r m1 36) (Rp v1 v2 v23 v43):=by
 unfold pk at h;obtain⟨h84,h⟩|⟨h84,h⟩:=ak h
 ·refine ah 125 h84 (aL 13 ?_);cases h;exact bj
 ·exact ah 125 h84 (bR (ks':=jL M w0 r m1 36) 4 ⟨[(0,.sl (lm aA v1)),(1,iI v2),(5,iI v23),(6,.ptr 6 0),(7,iI 4)],[(6,aV ((gD v1 v23).Style))],[],[6]⟩ (bz (bB (ae 10 (bz (hL1 h))))))
theorem Hc(hK:ao K)(hL1:lL M w0 r v1 v2 m1 L1)(h:rf K n v1 v2 v23 L1 v40=some r):nJ M w0 r (dZ 215497 :: .b 3::dZ 53875::jL M w0 r m1 37) (Px v1 v2 v23 v40):=by
 unfold rf at h;obtain⟨h80,h⟩|⟨h80,h⟩:=ak h
 ·refine ah 125 h80 (aL 13 ?_);cases h;exact bj
 ·refine ah 125 h80 (bR (ks':=jL M w0 r m1 37) 4 ⟨[(0,.sl (lm aA v1)),(1,iI v2),(5,iI v23),(6,.ptr 6 0),(7,iI 3)],[(6,aV ((gD v1 v23).Style))],[],[6]⟩ (bz (bB (dP 24 25 3 7 8 (aj 4 ?_)))));obtain⟨v41,h81,h⟩:=bind_some h;refine aS (fx hK h81) (aM 7 2 ?_);obtain⟨h82,h⟩|⟨h82,h⟩:=ak h
  ·exact aB 118 h82 (ac (ae 0 (JP hK hL1 h)))
  ·refine aB 118 h82 (aM 11 4 ?_);obtain⟨v42,h83,h⟩:=bind_some h;exact aS (fx hK h83) (ac (ae 0 (JP hK hL1 h)))
theorem JB(hK:ao K)(hL1:lL M w0 r v1 v2 m1 L1)(h:qX K n v1 v2 v23 L1 v37=some r):nJ M w0 r (dZ 215497 :: .b 3::dZ 53875::jL M w0 r m1 38) (Vq v1 v2 v23 v37):=by
 unfold qX at h;obtain⟨h76,h⟩|⟨h76,h⟩:=ak h
 ·refine ah 125 h76 (aL 13 ?_);cases h;exact bj
 ·refine ah 125 h76 (bR (ks':=jL M w0 r m1 38) 4 ⟨[(0,.sl (lm aA v1)),(1,iI v2),(5,iI v23),(6,.ptr 6 0),(7,iI 2)],[(6,aV ((gD v1 v23).Style))],[],[6]⟩ (bz (bB (dP 24 25 3 7 8 (aj 4 ?_)))));obtain⟨v38,h77,h⟩:=bind_some h;refine aS (fx hK h77) (aM 7 2 ?_);obtain⟨h78,h⟩|⟨h78,h⟩:=ak h
  ·exact aB 118 h78 (ac (ae 0 (Hc hK hL1 h)))
  ·refine aB 118 h78 (aM 11 4 ?_);obtain⟨v39,h79,h⟩:=bind_some h;exact aS (fx hK h79) (ac (ae 0 (Hc hK hL1 h)))
theorem Da(hK:ao K)(hL1:lL M w0 r v1 v2 m1 L1)(h:sX K n v1 v2 v23 L1 v34=some r):nJ M w0 r (dZ 215497 :: .b 3::dZ 53875::jL M w0 r m1 39) (LR v1 v2 v23 v34):=by
 unfold sX at h;obtain⟨h72,h⟩|⟨h72,h⟩:=ak h
 ·refine ah 125 h72 (aL 13 ?_);cases h;exact bj
 ·refine ah 125 h72 (bR (ks':=jL M w0 r m1 39) 4 ⟨[(0,.sl (lm aA v1)),(1,iI v2),(5,iI v23),(6,.ptr 6 0),(7,iI 1)],[(6,aV ((gD v1 v23).Style))],[],[6]⟩ (bz (bB (dP 24 25 3 7 8 (aj 4 ?_)))));obtain⟨v35,h73,h⟩:=bind_some h;refine aS (fx hK h73) (aM 7 2 ?_);obtain⟨h74,h⟩|⟨h74,h⟩:=ak h
  ·exact aB 118 h74 (ac (ae 0 (JB hK hL1 h)))
  ·refine aB 118 h74 (aM 11 4 ?_);obtain⟨v36,h75,h⟩:=bind_some h;exact aS (fx hK h75) (ac (ae 0 (JB hK hL1 h)))
theorem fa(hK:ao K)(hL1:lL M w0 r v1 v2 m1 L1)(h:dG K n v1 v2 v23 L1 v31=some r):nJ M w0 r (dZ 3365::dZ 1683 :: .b 1::dZ 211::rZ M w0 r m1) (Qa v1 v2 v23 v31):=by
 unfold dG at h;obtain⟨h68,h⟩|⟨h68,h⟩:=ak h
 ·refine ah 107 h68 (aL 10 ?_);cases h;exact bj
 ·refine ah 107 h68 (bR (ks':=dZ 6734 :: .b 2 :: .b 1::dZ 211::rZ M w0 r m1) 5 ⟨[(0,.sl (lm aA v1)),(1,iI v2),(5,iI v23),(6,.ptr 6 0),(7,iI 0)],[(6,aV ((gD v1 v23).Style))],[],[6]⟩ (s5 40 (c:=cat Tryz.f34 [1,0,1,0,0,1,0,0,1,1,1,0,0]) (by kernel_rfl) (bB (bK (ks':=dZ 215496::dZ 215497 :: .b 3::dZ 53875::jL M w0 r m1 39) 8 (aj 4 ?_)))));obtain⟨v32,h69,h⟩:=bind_some h;refine aS (fx hK h69) (aM 7 2 ?_);obtain⟨h70,h⟩|⟨h70,h⟩:=ak h
  ·exact aB 118 h70 (ac (ae 0 (Da hK hL1 h)))
  ·refine aB 118 h70 (aM 11 4 ?_);obtain⟨v33,h71,h⟩:=bind_some h;exact aS (fx hK h71) (ac (ae 0 (Da hK hL1 h)))
theorem PI(hK:ao K)(hL1:lL M w0 r v1 v2 m1 L1)(h:jI K n v1 v2 L1 v23=some r):nJ M w0 r (dZ 52::rZ M w0 r m1) (DG v1 v2 v23):=by
 unfold jI at h;refine bN 4 5 3 2 (aj 2 (az (bu aA v1) (ac ?_)));obtain⟨h43,h⟩|⟨h43,h⟩:=ak h
 ·refine ah 11 h43 (c8 8 9 1 3 5 (aj 2 ?_));obtain⟨h44,h⟩:=aF h;refine az (bi aA aA h44 (cJ) ((fun _=>rfl))) (ac (bN 4 5 3 2 (aj 2 ?_)));obtain⟨h45,h⟩:=aF h;refine az (bi aA aA h45 (cJ) ((fun _=>rfl))) (aM 8 5 ?_);obtain⟨h46,h⟩|⟨h46,h⟩:=ak h
  ·exact aB 26 h46 (ac (ae 0 (fa hK hL1 h)))
  ·refine aB 26 h46 (aM 10 2 ?_);obtain⟨v24,h47,h⟩:=bind_some h;refine aS (fx hK h47) (aM 14 3 ?_);obtain⟨h48,h⟩|⟨h48,h⟩:=ak h
   ·exact aB 32 h48 (ac (ae 0 (fa hK hL1 h)))
   ·refine aB 32 h48 (aM 16 2 ?_);obtain⟨v25,h49,h⟩:=bind_some h;refine aS (fx hK h49) (aM 20 3 ?_);obtain⟨h50,h⟩|⟨h50,h⟩:=ak h
    ·exact aB 38 h50 (ac (ae 0 (fa hK hL1 h)))
    ·refine aB 38 h50 (aM 22 2 ?_);obtain⟨v26,h51,h⟩:=bind_some h;refine aS (fx hK h51) (aM 26 3 ?_);obtain⟨h52,h⟩|⟨h52,h⟩:=ak h
     ·exact aB 44 h52 (ac (ae 0 (fa hK hL1 h)))
     ·refine aB 44 h52 (aM 28 2 ?_);obtain⟨v27,h53,h⟩:=bind_some h;refine aS (fx hK h53) (aM 32 3 ?_);obtain⟨h54,h⟩|⟨h54,h⟩:=ak h
      ·exact aB 50 h54 (ac (ae 0 (fa hK hL1 h)))
      ·refine aB 50 h54 (aM 34 2 ?_);obtain⟨v28,h55,h⟩:=bind_some h;refine aS (fx hK h55) (aM 38 3 ?_);obtain⟨h56,h⟩|⟨h56,h⟩:=ak h
       ·exact aB 56 h56 (ac (ae 0 (fa hK hL1 h)))
       ·refine aB 56 h56 (aM 40 2 ?_);obtain⟨v29,h57,h⟩:=bind_some h;refine aS (fx hK h57) (aM 44 3 ?_);obtain⟨h58,h⟩|⟨h58,h⟩:=ak h
        ·exact aB 62 h58 (ac (ae 0 (fa hK hL1 h)))
        ·refine aB 62 h58 (aM 46 2 ?_);obtain⟨v30,h59,h⟩:=bind_some h;refine aS (fx hK h59) (aM 50 3 ?_);obtain⟨h60,h⟩|⟨h60,h⟩:=ak h
         ·exact aB 68 h60 (ac (ae 0 (fa hK hL1 h)))
         ·refine aB 68 h60 (aM 55 5 ?_);obtain⟨h61,h⟩|⟨h61,h⟩:=ak h
          ·exact aB 73 h61 (ac (ae 0 (fa hK hL1 h)))
          ·refine aB 73 h61 (aM 60 5 ?_);obtain⟨h62,h⟩|⟨h62,h⟩:=ak h
           ·exact aB 78 h62 (ac (ae 0 (fa hK hL1 h)))
           ·refine aB 78 h62 (aM 65 5 ?_);obtain⟨h63,h⟩|⟨h63,h⟩:=ak h
            ·exact aB 83 h63 (ac (ae 0 (fa hK hL1 h)))
            ·refine aB 83 h63 (aM 70 5 ?_);obtain⟨h64,h⟩|⟨h64,h⟩:=ak h
             ·exact aB 88 h64 (ac (ae 0 (fa hK hL1 h)))
             ·refine aB 88 h64 (aM 75 5 ?_);obtain⟨h65,h⟩|⟨h65,h⟩:=ak h
              ·exact aB 93 h65 (ac (ae 0 (fa hK hL1 h)))
              ·refine aB 93 h65 (aM 80 5 ?_);obtain⟨h66,h⟩|⟨h66,h⟩:=ak h
               ·exact aB 98 h66 (ac (ae 0 (fa hK hL1 h)))
               ·refine aB 98 h66 (aM 85 5 ?_);obtain⟨h67,h⟩|⟨h67,h⟩:=ak h
                ·exact aB 103 h67 (ac (ae 0 (fa hK hL1 h)))
                ·exact aB 103 h67 (ac (ae 0 (fa hK hL1 h)))
 ·refine ah 11 h43 (kV 2 3 6 (aj 1 (az (bu aA v1) (ac (aL 1 ?_)))));cases h;exact bj
theorem Lq(hK:ao K)(m:Nat):lL M w0 r v1 v2 m (lA K n v1 v2 m):=by
 induction m with
 | zero=>intro v23 h;cases h
 | succ m ih=>intro v23 h;have h:jI K n v1 v2 (lA K n v1 v2 m) v23=some r:=h;exact bB (PI hK ih h)
theorem Fd(hK:ao K)(h:qK K n v1 v2=some r):aU Tryz.prog 34 [.sl (lm aA v1),iI v2] (fun v _=>v=.bool r):=by
 refine bv (cat Tryz.f34 (pn 1)) Tryz.func34 Tryz.ntmps34 fun M w0=>(bd ⟨[(0,.sl (lm aA v1)),(1,iI v2)],[],[],[]⟩ ?_);unfold qK at h;exact ae 6 (cg (p:=pn 26) n (Lq hK n h))
end
noncomputable section
variable[GS](M:Nat→Prop)(w0:aE)(r:Bool)(v1:List aw)(v2:List di)(v4:Int)(v7:Bool)(m1:Nat)(L1:Int→Option Bool)
abbrev xy:Cx:=⟨Tryz.prog,31,M,w0⟩
abbrev Bb:=bodyPost Tryz.prog Tryz.f11 (bA M w0 (fun v _=>v=.bool r))
abbrev EE(ks:List aq)(s:AS):=VE (xy M w0) (Bb M w0 r) ks .normal s
abbrev Ai(n:Nat):aq:=.c (cat Tryz.f11 (pn n))
abbrev zV:List aq:=[.b 0,Ai 7]
abbrev KO:List aq:=kl (xy M w0) (Bb M w0 r) zV (cat Tryz.f11 (pn 52)) m1::zV
def VH:AS:=⟨[(4,.bool v7)],[],[],[]⟩
def EK:AS:=⟨[(0,.sl (lm aA v1)),(1,.sl (lm dw v2)),(7,.sl (lm dw v2)),(8,iI (v2.length:Int)),(9,iI v4)],[],[],[]⟩
abbrev He:Prop:=∀{v4:Int},L1 v4=some r→LP (xy M w0) (Bb M w0 r) zV (cat Tryz.f11 (pn 52)) m1 (EK v1 v2 v4)
variable{M w0 r v1 v2 v4 v7 m1 L1}{K:Kn}{n:Nat}
theorem zh(hK:ao K)(h:n6 K n v7=some r):EE M w0 r [Ai 15] (VH v7):=by
 unfold n6 at h;refine aL 1 ?_;cases h;exact bj
theorem VD(hK:ao K)(hL1:He M w0 r v1 v2 m1 L1)(h:s9 K n v1 v2 L1 v4=some r):EE M w0 r (Ai 52::KO M w0 r m1) (EK v1 v2 v4):=by
 unfold s9 at h;refine aC 6 7 3 ?_;obtain⟨h5,h⟩|⟨h5,h⟩:=ak h
 ·refine ah 10 h5 (c8 8 9 1 3 5 (aj 0 ?_));obtain⟨h6,h⟩:=aF h;refine az (bi dw dw h6 (Nd) ((fun _=>rfl))) (ac (aC 2 3 1 (aj 3 ?_)));obtain⟨v5,h7,h⟩:=bind_some h;refine aS (Fd hK h7) (ac ?_);obtain⟨h8,h⟩|⟨h8,h⟩:=ak h
  ·refine ah 17 h8 (aL 9 ?_);cases h;exact bj
  ·exact ah 17 h8 (ae 4 (bz (hL1 h)))
 ·refine ah 10 h5 (kV 2 3 6 (aj 1 ?_));obtain⟨v6,h9,h⟩:=bind_some h;refine aS (Fd hK h9) (aM 3 1 ?_);obtain⟨h10,h⟩|⟨h10,h⟩:=ak h
  ·refine aB 21 h10 (aM 4 1 (az (bu aA v1) (aM 8 3 ?_)));obtain⟨h11,h⟩|⟨h11,h⟩:=ak h
   ·exact aB 26 h11 (aM 9 1 (az (bu dw v2) (ac (ae 0 (zh hK h)))))
   ·exact aB 26 h11 (ac (ae 0 (zh hK h)))
  ·exact aB 21 h10 (ac (ae 0 (zh hK h)))
theorem U8(hK:ao K)(m:Nat):He M w0 r v1 v2 m (pF K n v1 v2 m):=by
 induction m with
 | zero=>intro v4 h;cases h
 | succ m ih=>intro v4 h;have h:s9 K n v1 v2 (pF K n v1 v2 m) v4=some r:=h;exact bB (VD hK ih h)
theorem R2(hK:ao K)(h:wj K n v1 v2=some r):aU Tryz.prog 11 [.sl (lm aA v1),.sl (lm dw v2)] (fun v _=>v=.bool r):=by
 refine bv (cat Tryz.f11 (pn 1)) Tryz.func11 Tryz.ntmps11 fun M w0=>(bd ⟨[(0,.sl (lm aA v1)),(1,.sl (lm dw v2))],[],[],[]⟩ ?_);unfold wj at h;exact bN 12 13 7 4 (aj 1 (az (bu dw v2) (ac (ae 1 (cg (p:=pn 26) n (U8 hK n h))))))
end
noncomputable section
variable[GS](M:Nat→Prop)(w0:aE)(r:aa×Int)(v1:List aw)(v2:Int)(v3:Bool)(v8:Int)(v9:List aa)(v10:Bool)(m1:Nat)(L1:Int→(List aa)→Option (aa×Int))
abbrev xo:Cx:=⟨Tryz.prog,95,M,w0⟩
abbrev yV:=bodyPost Tryz.prog Tryz.f41 (bA M w0 (fun v s=>v=.tup [.agg (List.set (av ({ r.1 with Kids:=[] }:aa)) 58 (.ref 72)),iI r.2]∧look 72 s.r=some ⟨48,59,lm aR r.1.Kids⟩))
abbrev Ci(ks:List aq)(s:AS):=VE (xo M w0) (yV M w0 r) ks .normal s
abbrev mj(n:Nat):aq:=.c (cat Tryz.f41 (pn n))
abbrev Bz:List aq:=[.b 0,mj 127]
abbrev yx:List aq:=kl (xo M w0) (yV M w0 r) Bz (cat Tryz.f41 (pn 504)) m1::Bz
def Oi:AS:=⟨[(0,.sl (lm aA v1)),(1,iI v8),(4,.ptr 4 0),(6,.ptr 6 0),(7,.int .u8 ((gD v1 v2).Depth)),(8,.bool v3),(60,.bool v10)],[(4,List.set (av cF) 58 (.nils)),(6,List.set (av ({ cF with Kind:=1,Node:=(ab (10+v2)),Style:=(gD v1 v2).Style }:aa)) 58 (.ref 72))],[(72,⟨48,59,lm aR v9⟩)],[4,6,72]⟩
def HT:AS:=⟨[(0,.sl (lm aA v1)),(1,iI v8),(4,.ptr 4 0),(6,.ptr 6 0),(7,.int .u8 ((gD v1 v2).Depth)),(8,.bool v3)],[(4,List.set (av cF) 58 (.nils)),(6,List.set (av ({ cF with Kind:=1,Node:=(ab (10+v2)),Style:=(gD v1 v2).Style }:aa)) 58 (.ref 72))],[(72,⟨48,59,lm aR v9⟩)],[4,6,72]⟩
def U7:AS:=⟨[(0,.sl (lm aA v1)),(1,iI (ab (v2+1))),(4,.ptr 4 0),(6,.ptr 6 0),(7,.int .u8 ((gD v1 v2).Depth)),(8,.bool v3)],[(4,List.set (av cF) 58 (.nils)),(6,List.set (av ({ cF with Kind:=1,Node:=(ab (10+v2)),Style:=(gD v1 v2).Style }:aa)) 58 (.nils))],[],[4,6]⟩
abbrev yG:Prop:=∀{v8:Int} {v9:(List aa)},L1 v8 v9=some r→LP (xo M w0) (yV M w0 r) Bz (cat Tryz.f41 (pn 504)) m1 (HT v1 v2 v3 v8 v9)
variable{M w0 r v1 v2 v3 v8 v9 v10 m1 L1}{K:Kn}{n:Nat}
theorem G9(hK:ao K)(hL1:yG M w0 r v1 v2 v3 m1 L1)(h:jv K n v1 v2 v3 v8 v9 L1 v10=some r):Ci M w0 r (mj 2017::mj 1009::yx M w0 r m1) (Oi v1 v2 v3 v8 v9 v10):=by
 unfold jv at h;obtain⟨h27,h⟩|⟨h27,h⟩:=ak h
 ·refine ah 60 h27 (bK (ks':=mj 8073::mj 4037 :: .b 1::yx M w0 r m1) 6 ?_);obtain⟨h28,h⟩|⟨h28,h⟩:=ak h
  ·refine ah 61 h28 (aC 4 5 2 (aj 2 ?_));obtain⟨v11,h29,h⟩:=bind_some h;refine aS (hK.gY h29) (ac (aC 2 3 1 (aj 3 (az (fX aR ([v11.1]:List aa) (new:=[av v11.1]) (by simp only[List.map_cons,List.map_nil,dp])) ?_))));obtain⟨h30,h⟩:=aF h;exact az (cy 72 72 48 59 aR (rfl) (dY) h30) (ac (ae 5 (bz (hL1 h))))
  ·refine ah 61 h28 (eV 2 3 3 (bJ [0,1,4,6,7,8] [4,6] [72] ?_));obtain⟨h31,h⟩:=aF h;obtain⟨h32,h⟩:=aF h;obtain⟨h33,h⟩:=aF h;exact bQ 2 (nu 75 [.ptr 6 58,.ref 72,.sl (lm aA v1),iI v8,.cptr (aA (gD v1 v8)),.cptr (List.drop 5 (aA (gD v1 v8))),.agg (aV ((gD v1 v8).Style)),.sl (lm aA v1),iI v8,.cptr (aA (gD v1 v8)),.cptr (List.drop 2 (aA (gD v1 v8))),.str ((gD v1 v8).Text),.agg (List.set (av ({ cF with Kind:=3,Style:=(gD v1 v8).Style,Text:=(gD v1 v8).Text }:aa)) 58 (.nils)),.sl (lm aR [({ cF with Kind:=3,Style:=(gD v1 v8).Style,Text:=(gD v1 v8).Text }:aa)])]++nu 90 [.ptr 6 58]) [] [] [fB 89 72 ⟨48,59,lm aR (v9++[({ cF with Kind:=3,Style:=(gD v1 v8).Style,Text:=(gD v1 v8).Text }:aa)])⟩,bZ Tryz.prog 95 Tryz.f41 (pn 8074) 16] (ay [.v 0 2,.v 0 1,.v 0 2,.v 0 2] (ag (fk (lo:=0) (k:=2) (c9 ⟨(by kernel_rfl),(dc (bi aA aA h31 (cJ) ((fun _=>rfl))) (by kernel_rfl))⟩ (c9 ⟨(by kernel_rfl),(dc (bi aA aA h31 (cJ) ((fun _=>rfl))) (by kernel_rfl))⟩ fJ))) (ay [.v 0 2,.v 0 2,.v 0 2,.v 0 2] (ag (fk (lo:=0) (k:=2) (c9 ⟨(by kernel_rfl),(dc (bi aA aA h32 (cJ) ((fun _=>rfl))) (by kernel_rfl))⟩ (c9 ⟨(by kernel_rfl),(dc (bi aA aA h32 (cJ) ((fun _=>rfl))) (by kernel_rfl))⟩ fJ))) (ay [.v 0 2,.v 0 2,.v 0 2] (bC (fX aR ([({ cF with Kind:=3,Style:=(gD v1 v8).Style,Text:=(gD v1 v8).Text }:aa)]:List aa) (new:=[av ({ cF with Kind:=3,Style:=(gD v1 v8).Style,Text:=(gD v1 v8).Text }:aa)]) (by simp only[List.map_cons,List.map_nil,dp])) (ag (ex (m:=0) (cy 89 72 48 59 aR (rfl) (dY) h33)) (ay [.v 1 1] (ag (bX 1) bP))))))))) (ae 2 (bz (hL1 h)))
 ·refine ah 60 h27 (aL 8 ?_);cases h;exact vn
theorem M2(hK:ao K)(hL1:yG M w0 r v1 v2 v3 m1 L1)(h:jX K n v1 v2 v3 L1 v8 v9=some r):Ci M w0 r (mj 504::yx M w0 r m1) (HT v1 v2 v3 v8 v9):=by
 unfold jX at h;refine bN 4 5 3 2 (aj 2 (az (bu aA v1) (aM 5 2 ?_)));obtain⟨h25,h⟩|⟨h25,h⟩:=ak h
 ·refine aB 52 h25 (aM 7 2 ?_);obtain⟨h26,h⟩:=aF h;exact az (bi aA aA h26 (cJ) ((fun _=>rfl))) (ac (ae 0 (G9 hK hL1 h)))
 ·exact aB 52 h25 (ac (ae 0 (G9 hK hL1 h)))
theorem Lw(hK:ao K)(m:Nat):yG M w0 r v1 v2 v3 m (iD K n v1 v2 v3 m):=by
 induction m with
 | zero=>intro v8 v9 h;cases h
 | succ m ih=>intro v8 v9 h;have h:jX K n v1 v2 v3 (iD K n v1 v2 v3 m) v8 v9=some r:=h;exact bB (M2 hK ih h)
theorem yv(hK:ao K)(h:jT K n v1 v2 v3=some r):Ci M w0 r [mj 63] (U7 v1 v2 v3):=by
 unfold jT at h;exact gd 4 0 3 2 (bJ [0,1,4,6,7,8] [4,6] [] (ud 72 6 58 48 59 (ae 0 (cg (p:=pn 252) n (Lw hK n h)))))
theorem Oy(hK:ao K)(h:kv K n v1 v2=some r):aU Tryz.prog 41 [.sl (lm aA v1),iI v2] (fun v s=>v=.tup [.agg (List.set (av ({ r.1 with Kids:=[] }:aa)) 58 (.ref 72)),iI r.2]∧look 72 s.r=some ⟨48,59,lm aR r.1.Kids⟩):=by
 refine bv (cat Tryz.f41 (pn 1)) Tryz.func41 Tryz.ntmps41 fun M w0=>(bd ⟨[(0,.sl (lm aA v1)),(1,iI v2)],[],[],[]⟩ ?_);unfold kv at h;refine aC 6 7 3 (aj 4 ?_);obtain⟨h1,h⟩:=aF h;refine az (bi aA aA h1 (cJ) ((fun _=>rfl))) (ac (aC 2 3 1 (aj 2 ?_)));obtain⟨h2,h⟩:=aF h;refine az (bi aA aA h2 (cJ) ((fun _=>rfl))) (ac (aC 6 7 3 (aj 2 (az (bu aA v1) (aM 5 2 ?_)))));obtain⟨h3,h⟩|⟨h3,h⟩:=ak h
 ·refine aB 30 h3 (aM 7 2 ?_);obtain⟨h4,h⟩:=aF h;refine az (bi aA aA h4 (cJ) ((fun _=>rfl))) (aM 14 6 ?_);obtain⟨h5,h⟩|⟨h5,h⟩:=ak h
  ·refine aB 39 h5 (aM 16 2 ?_);obtain⟨h6,h⟩:=aF h;exact az (bi aA aA h6 (cJ) ((fun _=>rfl))) (ac (ae 0 (yv hK h)))
  ·exact aB 39 h5 (ac (ae 0 (yv hK h)))
 ·exact aB 30 h3 (ac (ae 0 (yv hK h)))
end
structure DB where
 nd:Bool
 b:aa
 y:Value
 kids:List DB
instance:Inhabited DB:=⟨⟨false,cF,.nilIface,[]⟩⟩
def DB.cells(D:DB):List AV:=List.set (av ({ D.b with Kids:=[] }:aa)) 58 (.vv D.y)
theorem DB.Lu(D:DB):D.cells.length=59:=rfl
mutual
def DB.plain:DB→aa
 | ⟨_,b,_,kids⟩=>{ b with Kids:=fv kids }
def fv:List DB→List aa
 | []=>[]
 | d::r=>d.plain::fv r
end
theorem jJ:∀l:List DB,fv l=l.map DB.plain
 | []=>rfl
 | d::r=>by simp[fv,jJ r]
mutual
def DB.bl:DB→List Nat
 | ⟨nd,_,y,kids⟩=>match nd with|true=>(match bm (some y) with|some g=>[g]|none=>[])++bls kids|false=>[]
def bls:List DB→List Nat
 | []=>[]
 | d::r=>d.bl++bls r
end
theorem zQ:∀(l m:List DB),bls (l++m)=bls l++bls m
 | [],m=>rfl
 | d::r,m=>by simp[bls,zQ r m]
theorem hZ:∀{l:List DB} {g:Nat},g∈bls l↔∃d∈l,g∈d.bl
 | [],g=>by simp[bls]
 | d::r,g=>by simp[bls,hZ (l:=r)]
theorem DB.F1(D:DB):D.plain={ D.b with Kids:=D.kids.map DB.plain }:=by cases D;simp only[DB.plain,jJ]
theorem DB.Gp(D:DB):aR D.plain=List.set (av ({ D.b with Kids:=[] }:aa)) 58 (.sl (lm aR (D.kids.map DB.plain))):=by
 rw[dp,DB.F1];rfl
theorem Qe{y x:Value}(h:ff (.vv y) x):x=y:=by
 have:=h (fun _=>False) default bn;cases this;rfl
inductive c7 (w:World):DB→Prop
 | leaf (b:aa) (y:Value) (hb:b.Kind≠1) (A:Option Addr) (c:Nat) (hy:y=.slice A 0 c):c7 w ⟨false,b,y,[]⟩
 | node (b:aa) (y:Value) (kids:List DB) (xs:List Value) (h1:w.ownsRow 0 48 59 y kids.length xs) (h2:∀ x∈xs,x.oneCell'=true)
     (h3:∀(j:Nat) (D:DB),kids[j]?=some D→∀(i:Nat) (c:AV),D.cells[i]?=some c→∃x,xs[j*59+i]?=some x∧ff c x) (h4:∀D∈kids,c7 w D):c7 w ⟨true,b,y,kids⟩
theorem JA{b:aa}{y:Value}{kids:List DB}{D:DB}(h:D∈kids){g:Nat}(hg:g∈D.bl):g∈(⟨true,b,y,kids⟩:DB).bl:=by
 simp only[DB.bl,List.mem_append];exact .inr (hZ.2 ⟨D,h,hg⟩)
theorem um{b:aa}{y:Value}{kids:List DB}{g:Nat}(hg:bm (some y)=some g):g∈(⟨true,b,y,kids⟩:DB).bl:=by
 simp[DB.bl,hg]
theorem c7.bI{w w':World}{D:DB}(h:c7 w D):(∀g∈D.bl,w'.heap[g]?=w.heap[g]?)→c7 w' D:=by
 induction h with
 | leaf b y hb A c hy=>intro _;exact .leaf b y hb A c hy
 | node b y kids xs h1 h2 h3 h4 ih=>intro hk;exact .node b y kids xs (eo h1 (fun g hg=>hk g (um hg))) h2 h3 (fun D hD=>ih D hD (fun g hg=>hk g (JA hD hg)))
theorem c7.lt{w:World}{D:DB}(h:c7 w D):∀g∈D.bl,g<w.heap.size:=by
 induction h with
 | leaf b y hb A c hy=>intro g hg;cases hg
 | node b y kids xs h1 h2 h3 h4 ih =>
   intro g hg;simp only[DB.bl,List.mem_append]at hg;rcases hg with hg|hg
   · cases hb:bm (some y) with
     | none=>rw[hb]at hg;cases hg
     | some g'=>rw[hb]at hg;rw[List.mem_singleton.1 hg];exact Jf h1 hb
   · obtain⟨D,hD,hgD⟩:=hZ.1 hg;exact ih D hD g hgD
theorem c7.rel{w:World}{N:Nat→Prop}{D:DB}(h:c7 w D):(∀g∈D.bl,¬ N g)→Rel N w bn (.sl (lm aR (D.kids.map DB.plain))) D.y:=by
 induction h with
 | leaf b y hb A c hy=>intro _;subst hy;exact .sl0 _ _ _
 | node b y kids xs h1 h2 h3 h4 ih =>
   intro hN;obtain⟨hl,⟨hz,hn0⟩|⟨g,cap,cur,hg,hb,hgw,hn,hcap,hsz,htk⟩⟩:=h1
   · have:kids=[]:=List.eq_nil_of_length_eq_zero hn0;subst this;show Rel N w bn (.sl []) y;rw[hz];exact .sl0 _ _ _
   · have hbk:bm (some y)=some g:=by rw[hg];rfl
     have hL:(lm aR (kids.map DB.plain)).length=kids.length:=by simp
     have hget:∀(j:Nat) (e:List AV),(lm aR (kids.map DB.plain))[j]?=some e→∃D,kids[j]?=some D∧e=aR D.plain:=fun j e he=>by
       rw[List.getElem?_map,List.getElem?_map]at he;cases hk:kids[j]? with
       | none=>rw[hk]at he;cases he
       | some D=>rw[hk]at he;injection he with he;exact⟨D,rfl,he.symm⟩
     have hcell:∀(j:Nat) (e:List AV),(lm aR (kids.map DB.plain))[j]?=some e→∀(i:Nat) (x:AV),e[i]?=some x→∃v,xs[j*59+i]?=some v∧Rel N w bn x v:=fun j e he i x hx=>by
       obtain⟨D,hD,rfl⟩:=hget j e he;rw[DB.Gp]at hx;have hmem:=List.mem_of_getElem? hD;have hlen:(av ({ D.b with Kids:=[] }:aa)).length=59:=rfl;by_cases h58:i=58
       · subst h58;rw[List.getElem?_set_self (by rw[hlen];omega)]at hx;injection hx with hx;subst hx
         obtain⟨v,hv,hp⟩:=h3 j D hD 58 (.vv D.y) (by unfold DB.cells;rw[List.getElem?_set_self (by rw[hlen];omega)]);refine⟨v,hv,?_⟩;rw[Qe hp];exact ih D hmem (fun g' hg'=>hN g' (JA hmem hg'))
       · rw[List.getElem?_set_ne (fun e=>h58 e.symm)]at hx;obtain⟨v,hv,hp⟩:=h3 j D hD i x (by unfold DB.cells;rw[List.getElem?_set_ne (fun e=>h58 e.symm)];exact hx);exact⟨v,hv,hp _ _ _⟩
     have hrel:=Rel.sl (N:=N) (w:=w) bn (lm aR (kids.map DB.plain)) g 0 cap 59 (fun j i=>(xs[j*59+i]?).getD (.bool true)) (fun e he=>by
         obtain⟨b,_,rfl⟩:=List.mem_map.1 he;exact dY b) (Array.getElem?_eq_some_iff.1 hgw).1 (hN g (um hbk)) (fun j i=>by
         cases e:xs[j*59+i]? with
         | none=>rfl
         | some v=>exact h2 v (List.mem_of_getElem? e)) (fun j e he i x hx=>by
         obtain⟨v,hv,_⟩:=hcell j e he i x hx;rw[cell_of_row _ _ _ _ 48 (0,0) hgw];have:cur.toList[j*59+i]?=some v:=by
           rw[←htk]at hv;rw[List.getElem?_take]at hv;split at hv
           · exact hv
           · cases hv
         simp only[hv,Option.getD_some];rw[←Array.getElem?_toList,Nat.zero_add];exact this) (fun j e he i x hx=>by
         obtain⟨v,hv,hr⟩:=hcell j e he i x hx;simp only[hv,Option.getD_some];exact hr) (by rw[hL];exact hn)
     rw[hL]at hrel;show Rel N w bn _ y;rw[hg];exact hrel
theorem Ch{N:Nat→Prop}{w:World}{ι:Env}{l:List AV}{c:AV}{y x:Value}{q:Nat}(h:Rel N w ι (.agg (l.set q c)) x)(hq:q<l.length)(hl:((l.set q (.bool true)).all pb)=true)(hc:∀v,Rel N w ι c v→v=y)(hy:y.oneCell'=true):ff (.agg (l.set q (.vv y))) x:=by
 cases h with
 | agg _ _ vs hlen h1 hr =>
   intro N' w' ι';refine .agg _ _ vs (by simpa using hlen) h1 fun i a v ha hv=>?_;rw[List.length_set]at hlen;by_cases hi:i=q
   · subst hi;rw[List.getElem?_set_self hq]at ha;injection ha with ha;subst ha
     have:=hc v (hr i c v (List.getElem?_set_self hq) hv);subst this;exact .vv _ _ hy
   · rw[List.getElem?_set_ne (fun e=>hi e.symm)]at ha;have h9:=hr i a v (by rw[List.getElem?_set_ne (fun e=>hi e.symm)];exact ha) hv;have hs:=List.all_eq_true.1 hl a (List.mem_of_getElem? (i:=i) (by rw[List.getElem?_set_ne (fun e=>hi e.symm)];exact ha));exact vt hs h9
theorem BB{N:Nat→Prop}{w:World}{ι:Env}{id:Nat}{y:Value}(hy:ι id=some y):∀v,Rel N w ι (.ref id) v→v=y:=fun v h=>by
 cases h with
 | ref _ _ A n c h=>rw[hy]at h;injection h with h;exact h.symm
theorem zE{N:Nat→Prop}{w:World}{D:DB}{i:Nat}{c:AV}{x:Value}(hi:D.cells[i]?=some c)(h:Rel N w bn c x):ff c x:=by
 have hlen:(av ({ D.b with Kids:=[] }:aa)).length=59:=rfl;by_cases h58:i=58
 · subst h58;unfold DB.cells at hi;rw[List.getElem?_set_self (by rw[hlen];omega)]at hi;injection hi with hi;subst hi
   cases h with
   | vv _ _ h1=>exact fun _ _ _=>.vv _ _ h1
 · have hs:pb c=true:=List.all_eq_true.1 (show ((List.set (av ({ D.b with Kids:=[] }:aa)) 58 (.bool true)).all pb)=true from rfl) c (List.mem_of_getElem? (i:=i) (by
     unfold DB.cells at hi;rw[List.getElem?_set_ne (fun e=>h58 e.symm)]at hi⊢;exact hi))
   exact fun _ _ _=>vt hs h
def DB.d4(D:DB):List AV:=List.set (av ({ D.b with Kids:=[] }:aa)) 58 (match D.nd with|true=>.vv D.y|false=>.sl [])
theorem DB.Ic(D:DB):D.d4.length=59:=rfl
theorem y3{α β:Type}{P:Nat→α→β→Prop}:∀(l:List α) (k:Nat),(∀(j:Nat) (a:α),l[j]?=some a→∃b,P (k+j) a b)→∃m:List β,m.length=l.length∧∀(j:Nat) (a:α),l[j]?=some a→∃b,m[j]?=some b∧P (k+j) a b
 | [],k,_=>⟨[],rfl,fun j a h=>by simp at h⟩
 | a::r,k,h=>by
   obtain⟨b,hb⟩:=h 0 a rfl;obtain⟨m,h1,h2⟩:=y3 (P:=P) r (k+1) (fun j a' hj=>by have:=h (j+1) a' (by simpa using hj);rw[show k+1+j=k+(j+1) by omega];exact this);refine⟨b::m,by simp[h1],fun j a' hj=>?_⟩;cases j with
   | zero=>simp at hj;subst hj;exact⟨b,rfl,hb⟩
   | succ j =>
     obtain⟨b',g1,g2⟩:=h2 j a' (by simpa using hj);exact⟨b',by simpa using g1,by rw[show k+(j+1)=k+1+j by omega];exact g2⟩
theorem wz{α β γ:Type}{f:α→γ}{g:β→γ}:∀{l:List α} {m:List β},m.length=l.length→(∀(j:Nat) (a:α),l[j]?=some a→∃b,m[j]?=some b∧g b=f a)→m.map g=l.map f
 | [],[],_,_=>rfl
 | [],_::_,h,_=>by cases h
 | _::_,[],h,_=>by cases h
 | a::r,b::q,h,k=>by
   obtain⟨b',h1,h2⟩:=k 0 a rfl;simp at h1;subst h1;rw[List.map_cons,List.map_cons,h2,wz (by simpa using h) (fun j a' hj=>by simpa using k (j+1) a' (by simpa using hj))]
theorem lS:∀l:List DB,bls l=(l.map DB.bl).flatten
 | []=>rfl
 | d::r=>by simp[bls,lS r]
theorem KE{M:Nat→Prop}{b:aE}{w:World}{ι:Env}{s:AS}(h:HS M b w ι s){id:Nat}{Ds:List DB}(hr:look id s.r=some ⟨48,59,Ds.map DB.d4⟩)(hid:id<TG){y:Value}(hy:ι id=some y)(bx:aa)(hk:∀D∈Ds,(D.nd=true→c7 b.w D∧∀g∈D.bl,M g)∧(D.nd=false→D.kids=[]∧D.b.Kind≠1))(hnd:(bls Ds).Nodup):
   ∃Ds',fv Ds'=fv Ds∧bls Ds'=bls Ds∧c7 w ⟨true,bx,y,Ds'⟩∧(∀g∈bls Ds',M g)∧(⟨true,bx,y,Ds'⟩:DB).bl.Nodup∧(∀g,bm (some y)=some g→b.O g∧g<w.heap.size):=by
 obtain⟨v,xs,e1,e2,e3,e4,e5⟩:=h.arrs id _ hr (by rw[hy];rfl);rw[hy]at e1;injection e1 with e1;subst e1
 have hfalse:∀D:DB,D.nd=false→D.bl=[]:=fun D hD=>by cases D;simp only at hD;subst hD;rfl
 have hM0:∀D∈Ds,∀g∈D.bl,M g:=fun D hD g hg=>by
   cases hq:D.nd with
   | true=>exact((hk D hD).1 hq).2 g hg
   | false=>rw[hfalse D hq]at hg;cases hg
 have step:∀(j:Nat) (D:DB),Ds[j]?=some D→∃D':DB,D'.plain=D.plain∧D'.bl=D.bl∧c7 w D'∧∀(i:Nat) (c:AV),D'.cells[i]?=some c→∃x,xs[(0+j)*59+i]?=some x∧ff c x:=fun j D hD=>by
   have hmem:=List.mem_of_getElem? hD;have hlen:(av ({ D.b with Kids:=[] }:aa)).length=59:=rfl;have get:∀(i:Nat) (c:AV),D.d4[i]?=some c→∃x,xs[j*59+i]?=some x∧Rel (NN M ι) w bn c x:=fun i c hc=>by
     obtain⟨x,hx,hrx⟩:=e5 j D.d4 (by rw[List.getElem?_map,hD];rfl) i c hc;exact⟨x,hx,hrx.flat (by omega)⟩
   cases hq:D.nd with
   | true =>
     have hcel:D.d4=D.cells:=by unfold DB.d4 DB.cells;rw[hq]
     refine⟨D,rfl,rfl,((hk D hmem).1 hq).1.bI fun g hg=>?_,fun i c hc=>?_⟩
     · have hold:=h.old g (((hk D hmem).1 hq).2 g hg);exact h.below.block g hold.1 hold.2
     · obtain⟨x,hx,hrx⟩:=get i c (by rw[hcel];exact hc);exact⟨x,by rw[Nat.zero_add];exact hx,zE hc hrx⟩
   | false =>
     obtain⟨hkids,hkind⟩:=(hk D hmem).2 hq;have hcel:D.d4=List.set (av ({ D.b with Kids:=[] }:aa)) 58 (.sl []):=by unfold DB.d4;rw[hq]
     obtain⟨x,hx,hrx⟩:=get 58 (.sl []) (by rw[hcel,List.getElem?_set_self (by rw[hlen];omega)]);have hxs:∃A c,x=.slice A 0 c:=by
       cases hrx with
       | sl0 _ A c=>exact⟨A,c,rfl⟩
       | sl _ _ b o c sz val=>exact⟨_,_,rfl⟩
     obtain⟨A,c0,rfl⟩:=hxs;obtain⟨nd,bb,yy,kk⟩:=D;simp only at hq hkids hkind;subst hq;subst hkids;refine⟨⟨false,bb,.slice A 0 c0,[]⟩,rfl,rfl,.leaf bb _ hkind A c0 rfl,fun i c hc=>?_⟩;rw[Nat.zero_add];by_cases h58:i=58
     · subst h58;unfold DB.cells at hc;rw[List.getElem?_set_self (by rw[hlen];omega)]at hc;injection hc with hc;subst hc
       exact⟨_,hx,fun _ _ _=>.vv _ _ rfl⟩
     · have hc':(DB.d4 ⟨false,bb,yy,[]⟩)[i]?=some c:=by
         unfold DB.cells at hc;unfold DB.d4;rw[List.getElem?_set_ne (fun e=>h58 e.symm)]at hc⊢;exact hc
       obtain⟨x,hx',hrx'⟩:=get i c hc';exact⟨x,hx',zE hc hrx'⟩
 obtain⟨Ds',hl,hDs⟩:=y3 (P:=fun j (D D':DB)=>D'.plain=D.plain∧D'.bl=D.bl∧c7 w D'∧∀(i:Nat) (c:AV),D'.cells[i]?=some c→∃x,xs[j*59+i]?=some x∧ff c x) Ds 0 step;have hpl:fv Ds'=fv Ds:=by
   rw[jJ,jJ];exact wz hl fun j a ha=>by obtain⟨b,g1,g2,_⟩:=hDs j a ha;exact⟨b,g1,g2⟩
 have hbl:bls Ds'=bls Ds:=by
   rw[lS,lS,wz (f:=DB.bl) (g:=DB.bl) hl fun j a ha=>by obtain⟨b,g1,_,g2,_⟩:=hDs j a ha;exact⟨b,g1,g2⟩]
 have hback:∀(j:Nat) (D':DB),Ds'[j]?=some D'→c7 w D'∧∀(i:Nat) (c:AV),D'.cells[i]?=some c→∃x,xs[j*59+i]?=some x∧ff c x:=fun j D' hD'=>by
   have hjl:j<Ds.length:=by rw[←hl];exact(List.getElem?_eq_some_iff.1 hD').1
   obtain⟨b,g1,g2,g3,g4,g5⟩:=hDs j _ (List.getElem?_eq_getElem hjl);rw[hD']at g1;injection g1 with g1;subst g1
   exact⟨g4,fun i c hc=>by have:=g5 i c hc;rw[Nat.zero_add]at this;exact this⟩
 have hM:∀g∈bls Ds',M g:=fun g hg=>by
   rw[hbl]at hg;obtain⟨D,hD,hgD⟩:=hZ.1 hg;exact hM0 D hD g hgD
 refine⟨Ds',hpl,hbl,.node bx y Ds' xs (by rw[hl];simpa using e2) e4 (fun j D hD i c hc=>(hback j D hD).2 i c hc) (fun D hD=>?_),hM,?_,fun g hg=>h.own id g (by rw[hy];exact hg)⟩
 · obtain⟨j,hj⟩:=List.getElem?_of_mem hD;exact(hback j D hj).1
 · simp only[DB.bl];rw[←hbl]at hnd;cases hb:bm (some y) with
   | none=>exact hnd
   | some g =>
     refine List.nodup_cons.2 ⟨fun hg=>?_,hnd⟩;exact h.sep (hM g hg) (by rw[hy];exact hb)
noncomputable section
variable(M:Nat→Prop)(w0:World)(b':aE)(r:aa×Int)(v1:List aw)(v2:Int)(v3:Bool)(v8:Int)(v9:List DB)(v10:Bool)(m1:Nat)(L1:Int→(List aa)→Option (aa×Int))
abbrev BT:Cx:=⟨Tryz.prog,95,M,b'⟩
def QT(r:aa×Int)(w w':World)(v:AV):Prop:=∃D:DB,D.nd=true∧D.plain=r.1∧v=.tup [.agg D.cells,iI r.2]∧c7 w' D∧(∀g∈D.bl,w.heap.size≤g∧g<w'.heap.size)∧D.bl.Nodup
abbrev qT:=bodyPost Tryz.prog Tryz.f41 (fun e w'=>∃x v,e=.returned x∧Below w0.heap.size w0 w'∧QT r w0 w' v∧ff v x)
abbrev zM(ks:List aq)(s:AS):=VE (BT M b') (qT w0 r) ks .normal s
structure FI(M:Nat→Prop)(w0:World)(b':aE)(Ds:List DB):Prop where
 gr:d5 (fun _=>False) (jy w0) b'
 ok:∀D∈Ds,(D.nd=true→c7 b'.w D∧∀g∈D.bl,M g∧w0.heap.size≤g)∧(D.nd=false→D.kids=[]∧D.b.Kind≠1)
 nodup:(bls Ds).Nodup
theorem FI.bl{M:Nat→Prop}{w0:World}{b':aE}{Ds:List DB}(h:FI M w0 b' Ds):∀g∈bls Ds,M g∧w0.heap.size≤g:=fun g hg=>by
 obtain⟨D,hD,hgD⟩:=hZ.1 hg;cases hq:D.nd with
 | true=>exact((h.ok D hD).1 hq).2 g hgD
 | false=>obtain⟨nd,b,y,k⟩:=D;simp only at hq;subst hq;cases hgD
theorem FI.add{M:Nat→Prop}{w0 w:World}{b' b2:aE}{Ds:List DB}(h:FI M w0 b' Ds)(hM:∀k,M k→k<b'.w.heap.size∧¬ b'.G k)(hsz:b'.w.heap.size≤w.heap.size)(hg:d5 (fun _=>False) b' b2){D:DB}(hnd:D.nd=true)(hok:c7 b2.w D)(hbl:∀g∈D.bl,w.heap.size≤g∧g<b2.w.heap.size)(hno:D.bl.Nodup):FI (fun c=>M c∨c∈D.bl) w0 b2 (Ds++[D]):=by
 refine⟨h.gr.trans hg,fun D' hD'=>?_,?_⟩
 · rcases List.mem_append.1 hD' with hD'|hD'
   · refine⟨fun hq=>⟨((h.ok D' hD').1 hq).1.bI fun g hgD=>?_,fun g hgD=>⟨.inl (((h.ok D' hD').1 hq).2 g hgD).1,(((h.ok D' hD').1 hq).2 g hgD).2⟩⟩,(h.ok D' hD').2⟩;have:=hM g (((h.ok D' hD').1 hq).2 g hgD).1;exact hg.block g this.1 this.2 (fun h=>h)
   · rw[List.mem_singleton.1 hD'];exact⟨fun _=>⟨hok,fun g hgD=>⟨.inr hgD,Nat.le_trans h.gr.size (Nat.le_trans hsz (hbl g hgD).1)⟩⟩,fun hq=>by rw[hnd]at hq;cases hq⟩
 · rw[zQ];refine List.nodup_append.2 ⟨h.nodup,by simpa[bls]using hno,fun a ha b hb=>?_⟩;have h1:=hM a (h.bl a ha).1;have h2:=hbl b (by simpa[bls]using hb);omega
theorem FI.OG{M:Nat→Prop}{w0:World}{b':aE}{Ds:List DB}(h:FI M w0 b' Ds){b:aa}{y:Value}(hb:b.Kind≠1):FI M w0 b' (Ds++[⟨false,b,y,[]⟩]):=by
 refine⟨h.gr,fun D' hD'=>?_,?_⟩
 · rcases List.mem_append.1 hD' with hD'|hD'
   · exact h.ok D' hD'
   · rw[List.mem_singleton.1 hD'];exact⟨fun hq=>(by cases hq),fun _=>⟨rfl,hb⟩⟩
 · rw[zQ];have:bls [(⟨false,b,y,[]⟩:DB)]=[]:=rfl;rw[this,List.append_nil];exact h.nodup
theorem NX{M:Nat→Prop}{w0 w:World}{b':aE}{ι:Env}{s:AS}{Ds:List DB}{b:aa}{n:Int}{x:Value}(hf:FI M w0 b' Ds)(hs:HS M b' w ι s)(hr:look 72 s.r=some ⟨48,59,Ds.map DB.d4⟩)(hx:Rel (NN M ι) w ι (.tup [.agg (List.set (av ({ b with Kids:=[] }:aa)) 58 (.ref 72)),iI n]) x):
   ∃v,Below w0.heap.size w0 w∧QT ({ b with Kids:=Ds.map DB.plain },n) w0 w v∧ff v x:=by
 cases hx with
 | tup _ _ vs hlen hr9 =>
   match vs,hlen with
   | [p,q],_ =>
     have hp:=hr9 0 _ p rfl rfl;have hq:=hr9 1 _ q rfl rfl;have hy:∃y,ι 72=some y∧y.oneCell'=true:=by
       cases hp with
       | agg _ _ us hl h1 hrr =>
         have hlt:58<us.length:=by rw[←hl];show 58<59;omega
         have h9:=hrr 58 (.ref 72) _ (List.getElem?_set_self (show 58<59 by omega)) (List.getElem?_eq_getElem hlt);have h8:=h1 _ (List.getElem_mem hlt);obtain⟨y,hy⟩:=fS 72 _ _ _ _ h9;exact⟨y,hy,by rw[←BB hy _ h9];exact h8⟩
     obtain⟨y,hy,hy1⟩:=hy;obtain⟨Ds',h1,h2,h3,h4,h5,h6⟩:=KE hs hr (by decide) hy ({ b with Kids:=[] }:aa) (fun D hD=>⟨fun hq=>⟨((hf.ok D hD).1 hq).1,fun g hg=>(((hf.ok D hD).1 hq).2 g hg).1⟩,(hf.ok D hD).2⟩) hf.nodup;refine⟨.tup [.agg (DB.cells ⟨true,{ b with Kids:=[] },y,Ds'⟩),iI n],⟨hs.below.os.trans hf.gr.os,hs.below.tape.trans hf.gr.tape,hs.below.output.trans hf.gr.output,Nat.le_trans hf.gr.size hs.below.size,fun k hk=>?_⟩,⟨⟨true,{ b with Kids:=[] },y,Ds'⟩,rfl,?_,rfl,h3,fun g hg=>?_,h5⟩,fun N w2 ι2=>.tup _ _ [p,q] rfl fun i a v ha hv=>?_⟩
     · have hn:¬ b'.G k:=fun hG=>by
         rcases hf.gr.O k (.inr hG)with h9|h9
         · exact absurd hk (Nat.not_lt.2 h9)
         · exact h9
       exact(hs.below.block k (Nat.lt_of_lt_of_le hk hf.gr.size) hn).trans (hf.gr.block k hk (fun h=>h) (fun h=>h))
     · show({ b with Kids:=fv Ds' }:aa)=_;rw[h1,jJ]
     · simp only[DB.bl,List.mem_append]at hg;rcases hg with hg|hg
       · cases hb:bm (some y) with
         | none=>rw[hb]at hg;cases hg
         | some g' =>
           rw[hb]at hg;rw[List.mem_singleton.1 hg];obtain⟨g1,g2⟩:=h6 g' hb;rcases hf.gr.O g' g1 with g3|g3
           · exact⟨g3,g2⟩
           · exact g3.elim
       · rw[h2]at hg;have h9:=hf.bl g hg;exact⟨h9.2,Nat.lt_of_lt_of_le (hs.old g h9.1).1 hs.below.size⟩
     · match i,ha,hv with
       | 0,ha,hv =>
         injection ha with ha;injection hv with hv;subst ha;subst hv
         exact Ch hp (by show 58<59;omega) rfl (BB hy) hy1 N w2 ι2
       | 1,ha,hv =>
         injection ha with ha;injection hv with hv;subst ha;subst hv
         exact vt rfl hq
abbrev lZ(n:Nat):aq:=.c (cat Tryz.f41 (pn n))
abbrev Cg:List aq:=[.b 0,lZ 127]
abbrev yg:List aq:=kl (BT M b') (qT w0 r) Cg (cat Tryz.f41 (pn 504)) m1::Cg
def T6:AS:=⟨[(0,.sl (lm aA v1)),(1,iI v8),(4,.ptr 4 0),(6,.ptr 6 0),(7,.int .u8 ((gD v1 v2).Depth)),(8,.bool v3),(60,.bool v10)],[(4,List.set (av cF) 58 (.nils)),(6,List.set (av ({ cF with Kind:=1,Node:=(ab (10+v2)),Style:=(gD v1 v2).Style }:aa)) 58 (.ref 72))],[(72,⟨48,59,lm DB.d4 v9⟩)],[4,6,72]⟩
def Hw:AS:=⟨[(0,.sl (lm aA v1)),(1,iI v8),(4,.ptr 4 0),(6,.ptr 6 0),(7,.int .u8 ((gD v1 v2).Depth)),(8,.bool v3)],[(4,List.set (av cF) 58 (.nils)),(6,List.set (av ({ cF with Kind:=1,Node:=(ab (10+v2)),Style:=(gD v1 v2).Style }:aa)) 58 (.ref 72))],[(72,⟨48,59,lm DB.d4 v9⟩)],[4,6,72]⟩
def SQ:AS:=⟨[(0,.sl (lm aA v1)),(1,iI (ab (v2+1))),(4,.ptr 4 0),(6,.ptr 6 0),(7,.int .u8 ((gD v1 v2).Depth)),(8,.bool v3)],[(4,List.set (av cF) 58 (.nils)),(6,List.set (av ({ cF with Kind:=1,Node:=(ab (10+v2)),Style:=(gD v1 v2).Style }:aa)) 58 (.nils))],[],[4,6]⟩
abbrev z8:Prop:=∀{M:Nat→Prop} {b':aE} {v8:Int} {v9:(List DB)},FI M w0 b' v9→L1 v8 (v9.map DB.plain)=some r→LP (BT M b') (qT w0 r) Cg (cat Tryz.f41 (pn 504)) m1 (Hw v1 v2 v3 v8 v9)
def KD(K:Kn):Prop:=∀{l:List aw} {a:Int} {r:aa×Int},K.gY l a=some r→sU Tryz.prog 41 [.sl (lm aA l),iI a] (QT r)
variable{M w0 b' r v1 v2 v3 v8 v9 v10 m1 L1}{K:Kn}{n:Nat}
theorem De(hK:KD K)(hL1:z8 w0 r v1 v2 v3 m1 L1)(hf:FI M w0 b' v9)(h:jv K n v1 v2 v3 v8 (v9.map DB.plain) L1 v10=some r):zM M w0 b' r (lZ 2017::lZ 1009::yg M w0 b' r m1) (T6 v1 v2 v3 v8 v9 v10):=by
 unfold jv at h;obtain⟨h27,h⟩|⟨h27,h⟩:=ak h
 ·refine ah 60 h27 (bK (ks':=lZ 8073::lZ 4037 :: .b 1::yg M w0 b' r m1) 6 ?_);obtain⟨h28,h⟩|⟨h28,h⟩:=ak h
  ·refine ah 61 h28 (aC 4 5 2 (aj 2 ?_));obtain⟨v11,h29,h⟩:=bind_some h;refine D3 (hK h29) (fun v w b2 hQ hM hsz hG hgr=>?_);obtain⟨⟨nd,Db,Dy,Dk⟩,hnd,hpl,hv,hok,hbl,hno⟩:=hQ;simp only at hnd;subst hnd;subst hv;refine⟨fun g=>g∈(⟨true,Db,Dy,Dk⟩:DB).bl,hbl,?_⟩;have hf2:=hf.add hM hsz hgr rfl hok hbl hno;refine ac (aC 2 3 1 (aj 3 (az (fX DB.d4 ([⟨true,Db,Dy,Dk⟩]:List DB) (new:=[DB.cells ⟨true,Db,Dy,Dk⟩]) rfl) ?_)));obtain⟨h30,h⟩:=aF h;rw[List.length_map]at h30;refine az (cy 72 72 48 59 DB.d4 (rfl) (DB.Ic) (M:=[⟨true,Db,Dy,Dk⟩]) h30) (ac ?_);have h':L1 v11.2 ((v9++[(⟨true,Db,Dy,Dk⟩:DB)]).map DB.plain)=some r:=by rw[List.map_append,List.map_cons,List.map_nil,hpl];exact h
   exact ae 5 (bz (hL1 hf2 h'))
  ·refine ah 61 h28 (eV 2 3 3 (bJ [0,1,4,6,7,8] [4,6] [72] ?_));obtain⟨h31,h⟩:=aF h;obtain⟨h32,h⟩:=aF h;obtain⟨h33,h⟩:=aF h;rw[List.length_map]at h33;have h':L1 (ab (v8+1)) ((v9++[(⟨false,({ cF with Kind:=3,Style:=(gD v1 v8).Style,Text:=(gD v1 v8).Text }:aa),.nilIface,[]⟩:DB)]).map DB.plain)=some r:=by rw[List.map_append];exact h
   exact bQ 2 (nu 75 [.ptr 6 58,.ref 72,.sl (lm aA v1),iI v8,.cptr (aA (gD v1 v8)),.cptr (List.drop 5 (aA (gD v1 v8))),.agg (aV ((gD v1 v8).Style)),.sl (lm aA v1),iI v8,.cptr (aA (gD v1 v8)),.cptr (List.drop 2 (aA (gD v1 v8))),.str ((gD v1 v8).Text),.agg (List.set (av ({ cF with Kind:=3,Style:=(gD v1 v8).Style,Text:=(gD v1 v8).Text }:aa)) 58 (.nils)),.sl (lm DB.d4 [(⟨false,({ cF with Kind:=3,Style:=(gD v1 v8).Style,Text:=(gD v1 v8).Text }:aa),.nilIface,[]⟩:DB)])]++nu 90 [.ptr 6 58]) [] [] [fB 89 72 ⟨48,59,lm DB.d4 (v9++[(⟨false,({ cF with Kind:=3,Style:=(gD v1 v8).Style,Text:=(gD v1 v8).Text }:aa),.nilIface,[]⟩:DB)])⟩,bZ Tryz.prog 95 Tryz.f41 (pn 8074) 16] (ay [.v 0 2,.v 0 1,.v 0 2,.v 0 2] (ag (fk (lo:=0) (k:=2) (c9 ⟨(by kernel_rfl),(dc (bi aA aA h31 (cJ) ((fun _=>rfl))) (by kernel_rfl))⟩ (c9 ⟨(by kernel_rfl),(dc (bi aA aA h31 (cJ) ((fun _=>rfl))) (by kernel_rfl))⟩ fJ))) (ay [.v 0 2,.v 0 2,.v 0 2,.v 0 2] (ag (fk (lo:=0) (k:=2) (c9 ⟨(by kernel_rfl),(dc (bi aA aA h32 (cJ) ((fun _=>rfl))) (by kernel_rfl))⟩ (c9 ⟨(by kernel_rfl),(dc (bi aA aA h32 (cJ) ((fun _=>rfl))) (by kernel_rfl))⟩ fJ))) (ay [.v 0 2,.v 0 2,.v 0 2] (bC (fX DB.d4 ([⟨false,({ cF with Kind:=3,Style:=(gD v1 v8).Style,Text:=(gD v1 v8).Text }:aa),.nilIface,[]⟩]:List DB) (new:=[DB.d4 ⟨false,({ cF with Kind:=3,Style:=(gD v1 v8).Style,Text:=(gD v1 v8).Text }:aa),.nilIface,[]⟩]) rfl) (ag (ex (m:=0) (cy 89 72 48 59 DB.d4 (rfl) (DB.Ic) (M:=[(⟨false,({ cF with Kind:=3,Style:=(gD v1 v8).Style,Text:=(gD v1 v8).Text }:aa),.nilIface,[]⟩:DB)]) h33)) (ay [.v 1 1] (ag (bX 1) bP))))))))) (ae 2 (bz (hL1 (hf.OG (by show(3:Int)≠1;omega)) h')))
 ·refine ah 60 h27 (aL 8 ?_);cases h;refine m6 (l:=[.agg (List.set (av ({ (⟨1,(ab (10+v2)),(gD v1 v2).Style,⟨#[]⟩,0,0,[]⟩:aa)with Kids:=[] }:aa)) 58 (.ref 72)),iI v8]) (by kernel_rfl) (fun w ι x hs hx=>?_);obtain⟨v,g1,g2,g3⟩:=NX hf hs (by kernel_rfl) hx;exact⟨x,v,rfl,g1,g2,g3⟩
theorem Ol(hK:KD K)(hL1:z8 w0 r v1 v2 v3 m1 L1)(hf:FI M w0 b' v9)(h:jX K n v1 v2 v3 L1 v8 (v9.map DB.plain)=some r):zM M w0 b' r (lZ 504::yg M w0 b' r m1) (Hw v1 v2 v3 v8 v9):=by
 unfold jX at h;refine bN 4 5 3 2 (aj 2 (az (bu aA v1) (aM 5 2 ?_)));obtain⟨h25,h⟩|⟨h25,h⟩:=ak h
 ·refine aB 52 h25 (aM 7 2 ?_);obtain⟨h26,h⟩:=aF h;exact az (bi aA aA h26 (cJ) ((fun _=>rfl))) (ac (ae 0 (De hK hL1 hf h)))
 ·exact aB 52 h25 (ac (ae 0 (De hK hL1 hf h)))
theorem Lx(hK:KD K)(m:Nat):z8 w0 r v1 v2 v3 m (iD K n v1 v2 v3 m):=by
 induction m with
 | zero=>intro M b' v8 v9 hf h;cases h
 | succ m ih=>intro M b' v8 v9 hf h;have h:jX K n v1 v2 v3 (iD K n v1 v2 v3 m) v8 (v9.map DB.plain)=some r:=h;exact bB (Ol hK ih hf h)
theorem BH(hK:KD K)(hf:FI M w0 b' [])(h:jT K n v1 v2 v3=some r):zM M w0 b' r [lZ 63] (SQ v1 v2 v3):=by
 unfold jT at h;exact gd 4 0 3 2 (bJ [0,1,4,6,7,8] [4,6] [] (ud 72 6 58 48 59 (ae 0 (cg (p:=pn 252) n (Lx hK n hf h)))))
theorem T9(hK:KD K)(h:kv K n v1 v2=some r):sU Tryz.prog 41 [.sl (lm aA v1),iI v2] (QT r):=by
 refine NK (c:=cat Tryz.f41 (pn 1)) Tryz.func41 (by kernel_rfl) _ Tryz.ntmps41 (of_decide_eq_true (by kernel_rfl)) fun M w0=>?_;have hf:FI M w0 (jy w0) []:=⟨.refl _ _,fun D hD=>(by cases hD),List.nodup_nil⟩;refine bd ⟨[(0,.sl (lm aA v1)),(1,iI v2)],[],[],[]⟩ ?_;unfold kv at h;refine aC 6 7 3 (aj 4 ?_);obtain⟨h1,h⟩:=aF h;refine az (bi aA aA h1 (cJ) ((fun _=>rfl))) (ac (aC 2 3 1 (aj 2 ?_)));obtain⟨h2,h⟩:=aF h;refine az (bi aA aA h2 (cJ) ((fun _=>rfl))) (ac (aC 6 7 3 (aj 2 (az (bu aA v1) (aM 5 2 ?_)))));obtain⟨h3,h⟩|⟨h3,h⟩:=ak h
 ·refine aB 30 h3 (aM 7 2 ?_);obtain⟨h4,h⟩:=aF h;refine az (bi aA aA h4 (cJ) ((fun _=>rfl))) (aM 14 6 ?_);obtain⟨h5,h⟩|⟨h5,h⟩:=ak h
  ·refine aB 39 h5 (aM 16 2 ?_);obtain⟨h6,h⟩:=aF h;exact az (bi aA aA h6 (cJ) ((fun _=>rfl))) (ac (ae 0 (BH hK hf h)))
  ·exact aB 39 h5 (ac (ae 0 (BH hK hf h)))
 ·exact aB 30 h3 (ac (ae 0 (BH hK hf h)))
theorem FV:∀(m:Nat) {l:List aw} {a:Int} {r:aa×Int},gT K n m l a=some r→sU Tryz.prog 41 [.sl (lm aA l),iI a] (QT r)
 | 0,_,_,_,h=>by cases h
 | m+1,l,a,r,h=>T9 (K:={ K with gY:=gT K n m }) (fun h=>FV m h) h
end
theorem Jd{f:aa→Option aa}:∀{l m:List aa},ja f l=some m→m.length=l.length∧∀(j:Nat) (k:aa),l[j]?=some k→∃k',m[j]?=some k'∧(if (k.Kind == 1)=true then f k else some k)=some k'
 | [],m,h=>by injection h with h;subst h;exact⟨rfl,fun j k hk=>by simp at hk⟩
 | k::r,m,h=>by
   obtain⟨k',h1,h⟩:=bind_some h;obtain⟨r',h2,h⟩:=bind_some h;injection h with h;subst h
   obtain⟨g1,g2⟩:=Jd h2;refine⟨by simp[g1],fun j q hq=>?_⟩;cases j with
   | zero=>simp at hq;subst hq;exact⟨k',rfl,h1⟩
   | succ j=>simpa using g2 j q (by simpa using hq)
theorem HI:∀{l:List DB} {i j:Nat} {a b:DB} {g:Nat},(bls l).Nodup→i≠j→l[i]?=some a→l[j]?=some b→g∈a.bl→g∈b.bl→False
 | [],i,j,a,b,g,_,_,h,_,_,_=>by simp at h
 | d::r,i,j,a,b,g,hn,hij,hi,hj,ha,hb=>by
   have hn':(d.bl++bls r).Nodup:=hn;obtain⟨n1,n2,n3⟩:=List.nodup_append.1 hn';cases i with
   | zero =>
     cases j with
     | zero=>exact hij rfl
     | succ j =>
       simp at hi hj;subst hi;exact n3 g ha g (hZ.2 ⟨b,List.mem_of_getElem? hj,hb⟩) rfl
   | succ i =>
     cases j with
     | zero =>
       simp at hi hj;subst hj;exact n3 g hb g (hZ.2 ⟨a,List.mem_of_getElem? hi,ha⟩) rfl
     | succ j=>exact HI (i:=i) (j:=j) n2 (fun e=>hij (by omega)) (by simpa using hi) (by simpa using hj) ha hb
structure DI(M:Nat→Prop)(w0:World)(y:Value)(b':aE)(Ds X:List DB):Prop where
 gr:d5 (fun g=>g∈bls Ds) (pY w0 700 y) b'
 ok:∀D∈X,c7 b'.w D
 sub:∀g∈bls Ds,M g
 bl:X.map DB.bl=Ds.map DB.bl
theorem DI.bls{M:Nat→Prop}{w0:World}{y:Value}{b':aE}{Ds X:List DB}(h:DI M w0 y b' Ds X):bls X=bls Ds:=by rw[lS,lS,h.bl]
theorem DI.put{M:Nat→Prop}{w0:World}{y:Value}{b' b2:aE}{Ds X:List DB}(h:DI M w0 y b' Ds X)(hn:(Go.Proofs.YtocgkfoifehcbaaGreat.bls Ds).Nodup){i:Nat}{D D':DB}(hi:X[i]?=some D)(hM:∀k,M k→k<b'.w.heap.size∧¬ b'.G k)(hg:d5 (fun g=>g∈D.bl) b' b2)(hok:c7 b2.w D')(hbl:D'.bl=D.bl):DI M w0 y b2 Ds (X.set i D'):=by
 have hmem:∀g∈D.bl,g∈Go.Proofs.YtocgkfoifehcbaaGreat.bls Ds:=fun g hgD=>by rw[←h.bls];exact hZ.2 ⟨D,List.mem_of_getElem? hi,hgD⟩
 refine⟨h.gr.trans (hg.mono hmem),fun Dj hDj=>?_,h.sub,?_⟩
 · obtain⟨j,hj⟩:=List.getElem?_of_mem hDj;by_cases e:i=j
   · subst e;rw[List.getElem?_set_self (List.getElem?_eq_some_iff.1 hi).1]at hj;injection hj with hj;subst hj;exact hok
   · rw[List.getElem?_set_ne e]at hj;refine (h.ok Dj (List.mem_of_getElem? hj)).bI fun g hgj=>?_;have hgM:g∈Go.Proofs.YtocgkfoifehcbaaGreat.bls X:=hZ.2 ⟨Dj,List.mem_of_getElem? hj,hgj⟩;have:=hM g (h.sub g (by rw[←h.bls];exact hgM));exact hg.block g this.1 this.2 (fun hgi=>HI (by rw[h.bls];exact hn) e hi hj hgi hgj)
 · rw [←h.bl,List.map_set,hbl];exact List.ext_getElem? fun k=>by
     rw[List.getElem?_set];split
     · rename_i e;subst e;have:=(List.getElem?_eq_some_iff.1 hi).1;rw[List.length_map,if_pos this,List.getElem?_map,hi];rfl
     · rfl
theorem tR{M:Nat→Prop}{w0 w:World}{b':aE}{ι:Env}{s:AS}{Ds X:List DB}{b:aa}{y x:Value}(hf:DI M w0 y b' Ds X)(hs:HS M b' w ι s)(hr:look 700 s.r=some ⟨48,59,X.map DB.cells⟩)(hy1:y.oneCell'=true)(hx:Rel (NN M ι) w ι (.agg (List.set (av ({ b with Kids:=[] }:aa)) 58 (.ref 700))) x):
   w.os=w0.os∧w.tape=w0.tape∧w.output=w0.output∧w0.heap.size≤w.heap.size∧(∀k,k<w0.heap.size→¬ k∈(⟨true,{ b with Kids:=[] },y,Ds⟩:DB).bl→w.heap[k]?=w0.heap[k]?)∧c7 w ⟨true,{ b with Kids:=[] },y,X⟩∧ff (.agg (DB.cells ⟨true,{ b with Kids:=[] },y,X⟩)) x:=by
 have hy:ι 700=some y:=(hs.pin 700 y (by rw[hf.gr.pv];simp[pY])).1;refine⟨hs.below.os.trans hf.gr.os,hs.below.tape.trans hf.gr.tape,hs.below.output.trans hf.gr.output,Nat.le_trans hf.gr.size hs.below.size,fun k hk hn=>?_,?_,?_⟩
 · have hnG:¬ (pY w0 700 y).G k:=fun hG=>hn (um hG);have hnE:¬ k∈bls Ds:=fun hE=>hn (by simp only [DB.bl,List.mem_append]; exact .inr hE);have hnb:¬ b'.G k:=fun hG=>by
     rcases hf.gr.O k (.inr hG)with h9|h9
     · exact absurd hk (Nat.not_lt.2 h9)
     · exact hnG h9
   exact(hs.below.block k (Nat.lt_of_lt_of_le hk hf.gr.size) hnb).trans (hf.gr.block k hk hnG hnE)
 · obtain⟨v,xs,e1,e2,e3,e4,e5⟩:=hs.arrs 700 _ hr (by rw[hy];rfl);rw[hy]at e1;injection e1 with e1;subst e1
   refine .node _ y X xs (by simpa using e2) e4 (fun j D hD i c hc=>?_) (fun D hD=>(hf.ok D hD).bI fun g hg=>?_)
   · obtain⟨x,hx,hrx⟩:=e5 j D.cells (by rw[List.getElem?_map,hD];rfl) i c hc;exact⟨x,hx,zE hc (hrx.flat (by decide))⟩
   · have hold:=hs.old g (hf.sub g (by rw[←hf.bls];exact hZ.2 ⟨D,hD,hg⟩));exact hs.below.block g hold.1 hold.2
 · exact Ch hx (by show 58<59;omega) rfl (BB hy) hy1
noncomputable section
variable(M:Nat→Prop)(w0:World)(b':aE)(l:List aw)(b:aa)(y:Value)(Ds Ds' X:List DB)(v5:Bool)(v6:Int)(Dz:DB)(m1:Nat)
abbrev BM:Cx:=⟨Tryz.prog,52,M,b'⟩
abbrev qR:=bodyPost Tryz.prog Tryz.f42 (fun e w'=>∃x,e=.returned x∧w'.os=w0.os∧w'.tape=w0.tape∧w'.output=w0.output∧w0.heap.size≤w'.heap.size∧(∀k,k<w0.heap.size→¬ k∈(⟨true,{ b with Kids:=[] },y,Ds⟩:DB).bl→w'.heap[k]?=w0.heap[k]?)∧c7 w' Dz∧ff (.agg (DB.cells Dz)) x)
abbrev Kx(ks:List aq)(s:AS):=VE (BM M b') (qR w0 b y Ds Dz) ks .normal s
abbrev fD(n:Nat):aq:=.c (cat Tryz.f42 (pn n))
abbrev RR:List aq:=[.b 0,fD 15]
abbrev TR:List aq:=kl (BM M b') (qR w0 b y Ds Dz) RR (cat Tryz.f42 (pn 116)) m1::RR
def sR:AS:=⟨[(1,.sl (lm aA l)),(2,.ptr 2 0),(4,.ptr 4 0),(5,.bool v5),(6,iI v6)],[(2,List.set (av ({ b with Kids:=[] }:aa)) 58 (.ref 700)),(4,List.set (av cF) 58 (.nils))],[(700,⟨48,59,lm DB.cells X⟩)],[2,4,700,1000700,700]⟩
variable{M w0 b' l b y Ds Ds' X v5 v6 Dz m1}
theorem OP(hf:DI M w0 y b' Ds X)(hy1:y.oneCell'=true){b2:aa}(hz:Dz=⟨true,{ b2 with Kids:=[] },y,X⟩)(h:hJ l b [] v5=some b2):Kx M w0 b' b y Ds Dz [fD 15] (sR l b X v5 v6):=by
 refine bK (ks':=[fD 30,fD 31]) 1 (aj 4 (ac ?_));cases v5 with
 | false =>
   unfold hJ at h;have hb:=Option.some.inj h;subst hb;subst hz;refine aL 8 ?_;refine m6 (l:=[.agg (List.set (av ({ b with Kids:=[] }:aa)) 58 (.ref 700))]) (by kernel_rfl) (fun w ι x hs hx=>?_);obtain⟨g1,g2,g3,g4,g5,g6,g7⟩:=tR hf hs (by kernel_rfl) hy1 hx;exact⟨x,rfl,g1,g2,g3,g4,g5,g6,g7⟩
 | true =>
   unfold hJ at h;refine bK (ks':=[fD 124,fD 125,fD 63]) 2 (aj 4 ?_);obtain⟨h1,h⟩|⟨h1,h⟩:=ak h
   · refine aB 39 h1 ?_;refine aM 8 4 ?_;obtain⟨h2,h⟩:=aF h;refine az (bi aA aA h2 (cJ) ((fun _=>rfl))) (aM 13 4 ?_);obtain⟨h3,h⟩|⟨h3,h⟩:=ak h
     · refine aB 48 h3 ?_;refine ac ?_;have hb:=Option.some.inj h;subst hb;subst hz;refine aL 5 ?_;refine m6 (l:=[.agg (List.set (av ({ ({ b with Kind:=6 }:aa)with Kids:=[] }:aa)) 58 (.ref 700))]) (by kernel_rfl) (fun w ι x hs hx=>?_);obtain⟨g1,g2,g3,g4,g5,g6,g7⟩:=tR (b:={ b with Kind:=6 }) hf hs (by kernel_rfl) hy1 hx;exact⟨x,rfl,g1,g2,g3,g4,g5,g6,g7⟩
     · refine aB 48 h3 ?_;refine ac ?_;have hb:=Option.some.inj h;subst hb;subst hz;refine aL 5 ?_;refine m6 (l:=[.agg (List.set (av ({ b with Kids:=[] }:aa)) 58 (.ref 700))]) (by kernel_rfl) (fun w ι x hs hx=>?_);obtain⟨g1,g2,g3,g4,g5,g6,g7⟩:=tR hf hs (by kernel_rfl) hy1 hx;exact⟨x,rfl,g1,g2,g3,g4,g5,g6,g7⟩
   · refine aB 39 h1 ?_;refine ac ?_;have hb:=Option.some.inj h;subst hb;subst hz;refine aL 5 ?_;refine m6 (l:=[.agg (List.set (av ({ b with Kids:=[] }:aa)) 58 (.ref 700))]) (by kernel_rfl) (fun w ι x hs hx=>?_);obtain⟨g1,g2,g3,g4,g5,g6,g7⟩:=tR hf hs (by kernel_rfl) hy1 hx;exact⟨x,rfl,g1,g2,g3,g4,g5,g6,g7⟩
def tO(l:List aw)(D D':DB):Prop:=D'.bl=D.bl∧((D.b.Kind == 1)=true→l8 Tryz.prog 42 [.agg D.cells,.sl (lm aA l)] (fun g=>g∈D.bl) (fun w=>c7 w D) (.agg D'.cells) (fun w=>c7 w D'))∧((D.b.Kind == 1)=false→D'=D)
structure Mx(Ds Ds' X:List DB)(i:Nat)(v5:Bool):Prop where
 len:X.length=Ds.length
 le:i≤Ds.length
 lo:∀j,j<i→X[j]?=Ds'[j]?
 hi:∀j,i≤j→X[j]?=Ds[j]?
 blocks:v5=(Ds.take i).any fun D=>D.b.Kind == 1
theorem VW(hn:(bls Ds).Nodup)(hlen:Ds'.length=Ds.length)(hto:∀(j:Nat) (D D':DB),Ds[j]?=some D→Ds'[j]?=some D'→tO l D D')(hmax:Ds.length≤maxLen)(hy1:y.oneCell'=true){b2:aa}(hz:Dz=⟨true,{ b2 with Kids:=[] },y,Ds'⟩)(h:hJ l b [] (Ds.any fun D=>D.b.Kind == 1)=some b2):
   ∀(m:Nat) {M:Nat→Prop} {b':aE} {X:List DB} {i:Nat} {v5:Bool} {v6:Int},v6=(i:Int)→Mx Ds Ds' X i v5→DI M w0 y b' Ds X→Ds.length<m+i→LP (BM M b') (qR w0 b y Ds Dz) RR (cat Tryz.f42 (pn 116)) m (sR l b X v5 v6):=by
 intro m
 induction m with
 | zero=>intro M b' X i v5 v6 _ hX _ hm;have:=hX.le;omega
 | succ m ih =>
   intro M b' X i v5 v6 hi hX hf hm;refine bB (bK (ks':=fD 464::fD 465::fD 233::TR M w0 b' b y Ds Dz m) 2 (aj 3 (az (bu DB.cells X) (aM 5 1 ?_))));by_cases hlt:i<Ds.length
   · have h12:decide (v6<(X.length:Int))=true:=decide_eq_true (by rw [hX.len]; omega);refine aB 12 h12 (ac ?_);have hXi:=hX.hi i (Nat.le_refl _);have hDs:Ds[i]?=some (Ds[i]'hlt):=List.getElem?_eq_getElem hlt;have hDs':Ds'[i]?=some (Ds'[i]'(by omega)):=List.getElem?_eq_getElem _;generalize Ds[i]'hlt=D at hDs;generalize Ds'[i]'(by omega:i<Ds'.length)=D' at hDs';rw [hDs] at hXi;have hget:X.getD v6.toNat default=D:=by
       rw[hi,List.getD_eq_getElem?_getD,Int.toNat_natCast,hXi];rfl
     have hinb:aX v6 X.length=true:=by
       unfold aX;rw[Bool.and_eq_true];exact⟨decide_eq_true (by omega),decide_eq_true (by rw[hX.len];omega)⟩
     have hw:ab (v6+1)=((i+1:Nat):Int):=by
       rw[hi];unfold maxLen at hmax;have:(0:Int)≤(i:Int)+1∧(i:Int)+1<9223372036854775808:=by omega
       unfold ab;rw[IntKind.wrap_i64];omega
     obtain⟨t1,t2,t3⟩:=hto i D D' hDs hDs';refine bK (ks':=fD 1864::fD 1865 :: .b 1::fD 467::TR M w0 b' b y Ds Dz m) 5 (aj 3 (az (cS 700 59 DB.cells hinb) (aM 5 1 (az (cR 3 0 DB.cells DB.cells (cE hinb).2 (fun _=>rfl)) (ac ?_)))));cases hk:(D.b.Kind == 1) with
     | true =>
       have h21:((X.getD v6.toNat default).b.Kind == 1)=true:=by rw[hget];exact hk
       refine ah 21 h21 (bK (ks':=fD 7461 :: .b 1::fD 467::TR M w0 b' b y Ds Dz m) 3 (bJ [1,2,4,5,6] [2,4] [700] ?_));have hput:l8 Tryz.prog 42 [.agg (X.getD v6.toNat default).cells,.sl (lm aA l)] (fun g=>g∈D.bl) (fun w=>c7 w D) (.agg D'.cells) (fun w=>c7 w D'):=by rw[hget];exact t2 hk
       have hmem:∀g∈D.bl,g∈bls Ds:=fun g hg=>hZ.2 ⟨D,List.mem_of_getElem? hDs,hg⟩;refine Li 9 31 [(22,.ptr 2 58),(23,.ref 700),(24,iI v6),(25,.ptr 2 58),(26,.ref 700),(27,iI v6),(28,.eptr 700 59 v6.toNat 0),(29,.agg (X.getD v6.toNat default).cells),(30,.sl (lm aA l))] hput (fun g hg=>hf.sub g (hmem g hg))
         (fun w _ hw=>(hf.ok D (List.mem_of_getElem? hXi)).bI hw)
         (ay (vz 6) (bC (cS 700 59 DB.cells (L:=X) (i:=v6) hinb) (bC (cR 48 0 DB.cells DB.cells (cE hinb).2 (fun _=>rfl)) (ay [.v 0 1] uQ))))
         (ay (vz 6) (bC (cS 700 59 DB.cells (L:=X) (i:=v6) hinb) (bC (cR 48 0 DB.cells DB.cells (cE hinb).2 (fun _=>rfl)) (ay [.v 0 1] uQ))))
         (fun b3 hg hR hM=>?_)
       have hf2:=hf.put hn hXi hM hg hR t1;refine az (cS 700 59 DB.cells hinb) (az (fw 700 48 59 0 DB.cells DB.cells D' (cE hinb).2 (fun _=>rfl)) (ac ?_));have hX2:Mx Ds Ds' (List.set X v6.toNat D') (i+1) true:=by
         have hvi:v6.toNat=i:=by omega
         rw[hvi];refine⟨by rw[List.length_set];exact hX.len,hlt,fun j hj=>?_,fun j hj=>?_,?_⟩
         · rw[List.getElem?_set];split
           · rename_i e;subst e;rw[if_pos (by rw[hX.len];exact hlt),hDs']
           · exact hX.lo j (by omega)
         · rw[List.getElem?_set_ne (by omega)];exact hX.hi j (by omega)
         · symm;rw[List.any_eq_true];exact⟨D,List.mem_of_getElem? (i:=i) (by rw[List.getElem?_take,if_pos (by omega)];exact hDs),hk⟩
       have hf3:DI M w0 y b3 Ds (List.set X v6.toNat D'):=by
         have hvi:v6.toNat=i:=by omega
         rw[hvi];exact hf2
       exact ae 2 (bz (ih (v6:=ab (v6+1)) hw hX2 hf3 (by omega)))
     | false =>
       have h21:((X.getD v6.toNat default).b.Kind == 1)=false:=by rw[hget];exact hk
       refine ah 21 h21 ?_;have hX2:Mx Ds Ds' X (i+1) v5:=by
         refine⟨hX.len,hlt,fun j hj=>?_,fun j hj=>hX.hi j (by omega),?_⟩
         · by_cases e:j=i
           · subst e;rw[hXi,hDs',t3 hk]
           · exact hX.lo j (by omega)
         · rw[hX.blocks,List.take_succ,hDs,List.any_append];simp[hk]
       exact ae 4 (bz (ih (v6:=ab (v6+1)) hw hX2 hf (by omega)))
   · have h12:decide (v6<(X.length:Int))=false:=decide_eq_false (by rw[hX.len];omega);refine aB 12 h12 (ac ?_);have hie:i=Ds.length:=by have:=hX.le;omega
     have hXD:X=Ds':=List.ext_getElem? fun j=>by
       by_cases hj:j<i
       · exact hX.lo j hj
       · rw[hX.hi j (by omega),List.getElem?_eq_none (by omega),List.getElem?_eq_none (by omega)]
     have hv5:v5=Ds.any fun D=>D.b.Kind == 1:=by rw[hX.blocks,hie,List.take_length]
     subst hXD;rw[←hv5]at h;exact ae 5 (OP (v6:=v6) hf hy1 hz h)
end
theorem Mz{l:List aw}{b b2:aa}{q ks:List aa}{c:Bool}(h:hJ l { b with Kids:=q } ks c=some b2):hJ l b [] c=some { b2 with Kids:=[] }∧b2.Kids=ks:=by
 unfold hJ at h⊢;cases c with
 | false=>injection h with h;subst h;exact⟨rfl,rfl⟩
 | true =>
   simp only at h⊢;split at h
   · rename_i h1;rw[if_pos h1];obtain⟨h2,h⟩:=aF h;rw[h2];simp only[aH];split at h
     · rename_i h3;rw[if_pos h3];injection h with h;subst h;exact⟨rfl,rfl⟩
     · rename_i h3;rw[if_neg h3];injection h with h;subst h;exact⟨rfl,rfl⟩
   · rename_i h1;rw[if_neg h1];injection h with h;subst h;exact⟨rfl,rfl⟩
theorem Jn(D:DB):D.plain.Kind=D.b.Kind:=by rw[DB.F1]
theorem Js{N:Nat→Prop}{w:World}{ι:Env}{l:List AV}{c d:AV}{x:Value}{q:Nat}(h:Rel N w ι (.agg (l.set q c)) x)(hq:q<l.length)(hc:∀v,Rel N w ι c v→Rel N w ι d v):Rel N w ι (.agg (l.set q d)) x:=by
 cases h with
 | agg _ _ vs hlen h1 hr =>
   refine .agg _ _ vs (by simpa using hlen) h1 fun i a v ha hv=>?_;by_cases hi:i=q
   · subst hi;rw[List.getElem?_set_self hq]at ha;injection ha with ha;subst ha
     exact hc v (hr i c v (List.getElem?_set_self hq) hv)
   · rw[List.getElem?_set_ne (fun e=>hi e.symm)]at ha;exact hr i a v (by rw[List.getElem?_set_ne (fun e=>hi e.symm)];exact ha) hv
theorem H2:∀{l:List DB},(bls l).Nodup→∀{D:DB},D∈l→D.bl.Nodup
 | [],_,D,hD=>by cases hD
 | d::r,h,D,hD=>by
   have h':(d.bl++bls r).Nodup:=h;obtain⟨h1,h2,_⟩:=List.nodup_append.1 h';rcases List.mem_cons.1 hD with rfl|hD
   · exact h1
   · exact H2 h2 hD
noncomputable section
theorem CV:∀(m:Nat) {l:List aw} {D:DB} {b2:aa},iA l m D.plain=some b2→D.nd=true→(∃w,c7 w D)→D.bl.Nodup →
   ∃D':DB,D'.plain=b2∧D'.bl=D.bl∧l8 Tryz.prog 42 [.agg D.cells,.sl (lm aA l)] (fun g=>g∈D.bl) (fun w=>c7 w D) (.agg D'.cells) (fun w=>c7 w D')
 | 0,_,_,_,h,_,_,_=>by cases h
 | m+1,l,⟨nd,b,y,Ds⟩,b2,h,hnd,⟨w1,hw1⟩,hn=>by
   simp only at hnd;subst hnd;have h:(ja (iA l m) (fv Ds)).bind (fun ks=>hJ l { b with Kids:=fv Ds } ks ((fv Ds).any fun k=>k.Kind == 1))=some b2:=h;obtain⟨ks,hks,h⟩:=bind_some h;obtain⟨h1,h2⟩:=Mz h;obtain⟨g1,g2⟩:=Jd hks;have hany:((fv Ds).any fun k=>k.Kind == 1)=Ds.any fun D=>D.b.Kind == 1:=by
     rw[jJ,List.any_map];congr 1;funext D;show(D.plain.Kind == 1)=_;rw[Jn]
   rw[hany]at h1;cases hw1 with
   | node _ _ _ xs hrow hone hcell hkids =>
   have hblk:(bls Ds).Nodup:=by
     have:(⟨true,b,y,Ds⟩:DB).bl.Nodup:=hn;simp only[DB.bl]at this;exact(List.nodup_append.1 this).2.1
   have hown:∀g∈bls Ds,bm (some y)≠some g:=fun g hg e=>by
     have h9:(⟨true,b,y,Ds⟩:DB).bl.Nodup:=hn;simp only[DB.bl,e]at h9;exact(List.nodup_cons.1 h9).1 hg
   have step:∀(j:Nat) (D:DB),Ds[j]?=some D→∃D':DB,tO l D D'∧ks[j]?=some D'.plain:=fun j D hD=>by
     obtain⟨k',e1,e2⟩:=g2 j D.plain (by rw[jJ,List.getElem?_map,hD];rfl);rw[Jn]at e2;have hmem:=List.mem_of_getElem? hD;cases hq:(D.b.Kind == 1) with
     | true =>
       rw[hq]at e2;have hDn:D.nd=true:=by
         have hk:=hkids D hmem;cases hk with
         | leaf b0 y0 hb0 A0 c0 hy0=>exact absurd (by simpa using hq) hb0
         | node b0 y0 k0 x0=>rfl
       have hDd:D.bl.Nodup:=H2 hblk hmem;obtain⟨D',q1,q2,q3⟩:=CV m (by simpa using e2) hDn ⟨w1,hkids D hmem⟩ hDd;exact⟨D',⟨q2,fun _=>q3,fun hf=>by rw[hq]at hf;cases hf⟩,by rw[e1,q1]⟩
     | false =>
       rw[hq]at e2;have e3:D.plain=k':=by simpa using e2
       exact⟨D,⟨rfl,fun ht=>(by rw[hq]at ht;cases ht),fun _=>rfl⟩,by rw[e1,e3]⟩
   obtain⟨Ds',hl',hDs'⟩:=y3 (P:=fun j (D D':DB)=>tO l D D'∧ks[j]?=some D'.plain) Ds 0 (fun j D hD=>by rw[Nat.zero_add];exact step j D hD);have hto:∀(j:Nat) (D D':DB),Ds[j]?=some D→Ds'[j]?=some D'→tO l D D':=fun j D D' hD hD'=>by
     obtain⟨D2,e1,e2,_⟩:=hDs' j D hD;rw[hD']at e1;injection e1 with e1;subst e1;exact e2
   have hpl:fv Ds'=ks:=by
     rw[jJ];refine List.ext_getElem? fun j=>?_;rw[List.getElem?_map];by_cases hj:j<Ds.length
     · obtain⟨D2,e1,_,e3⟩:=hDs' j _ (List.getElem?_eq_getElem hj);rw[Nat.zero_add]at e3;rw[e1,e3];rfl
     · rw[List.getElem?_eq_none (by omega),List.getElem?_eq_none (by rw[g1,jJ,List.length_map];omega)];rfl
   have hbl':bls Ds'=bls Ds:=by
     rw[lS,lS,wz (f:=DB.bl) (g:=DB.bl) hl' fun j a ha=>by obtain⟨D2,e1,e2,_⟩:=hDs' j a ha;exact⟨D2,e1,e2.1⟩]
   have hyA:∃A n c,y=.slice A n c:=by
     rcases hrow.2 with⟨e,_⟩|⟨g,cap,cur,e,_⟩
     · exact⟨_,_,_,e⟩
     · exact⟨_,_,_,e⟩
   have hmax:Ds.length≤maxLen:=by
     rcases hrow.2 with⟨_,e⟩|⟨g,cap,cur,_,_,_,e1,e2,_⟩
     · rw[e];exact Nat.zero_le _
     · exact Nat.le_trans e1 e2
   have hy1:y.oneCell'=true:=by obtain⟨A,n,c,rfl⟩:=hyA;rfl
   have hlen:(av ({ b with Kids:=[] }:aa)).length=59:=rfl;refine⟨⟨true,{ b2 with Kids:=[] },y,Ds'⟩,?_,?_,?_⟩
   · show({ b2 with Kids:=fv Ds' }:aa)=b2;rw[hpl];subst h2;cases b2;rfl
   · simp only[DB.bl,hbl']
   refine ML (id0:=700) (v0:=y) (ar:=⟨48,59,Ds.map DB.cells⟩) (args':=[.agg (List.set (av ({ b with Kids:=[] }:aa)) 58 (.ref 700)),.sl (lm aA l)]) (c:=cat Tryz.f42 (pn 1)) Tryz.func42 (by kernel_rfl) _ Tryz.ntmps42 (of_decide_eq_true (by kernel_rfl)) rfl (fun g hg=>um hg) (fun w hw=>?_) (fun N w i a b9 x ha hb hr=>?_) (fun M w hM hw=>?_)
   · cases hw with
     | node _ _ _ xs h1 h2 h3 h4 =>
       refine⟨xs,by simpa using h1,fun e he=>?_,h2,fun j e he i c hc=>?_⟩
       · obtain⟨D,_,rfl⟩:=List.mem_map.1 he;exact DB.Lu D
       · have he':(Ds.map DB.cells)[j]?=some e:=he;rw[List.getElem?_map]at he';cases hD:Ds[j]? with
         | none=>rw[hD]at he';cases he'
         | some D=>rw[hD]at he';injection he' with he';subst he';exact h3 j D hD i c hc
   · match i,ha,hb with
     | 0,ha,hb =>
       injection ha with ha;injection hb with hb;subst ha;subst hb
       have hp:=Ch (y:=y) (show Rel N w bn (.agg (List.set (av ({ b with Kids:=[] }:aa)) 58 (.vv y))) x from hr) (by rw[hlen];omega) rfl (fun v hv=>by cases hv;rfl) hy1;refine Js (hp N w (ext bn 700 y)) (by rw[hlen];omega) (fun v hv=>?_);cases hv;obtain⟨A,n,c,rfl⟩:=hyA;exact .ref _ _ _ _ _ (cr _ _ _)
     | 1,ha,hb =>
       injection ha with ha;injection hb with hb;subst ha;subst hb
       exact hr.pure rfl _
   · have hf:DI M w y (pY w 700 y) Ds Ds:=⟨.refl _ _,fun D hD=>(by cases hw with|node _ _ _ xs h1 h2 h3 h4=>exact h4 D hD),fun g hg=>hM g (by simp only[DB.bl,List.mem_append];exact .inr hg) (hown g hg),rfl⟩;exact bd ⟨[(0,.agg (List.set (av ({ b with Kids:=[] }:aa)) 58 (.ref 700))),(1,.sl (lm aA l))],[],[(700,⟨48,59,Ds.map DB.cells⟩)],[700,1000700]⟩ (ae 8 (cg (p:=pn 58) (Ds.length+1) (VW (Ds':=Ds') (b:=b) (v6:=0) (v5:=false) (i:=0) hblk hl' hto hmax hy1 rfl h1 (Ds.length+1) rfl ⟨rfl,Nat.zero_le _,fun j hj=>absurd hj (Nat.not_lt_zero _),fun j _=>rfl,rfl⟩ hf (by omega))))
section
variable(M:Nat→Prop)(w0:aE)(r:aa)(v1 X:List aw)(v4:Int)(m1:Nat)
abbrev As:Cx:=⟨Tryz.prog,36,M,w0⟩
abbrev qS:=bodyPost Tryz.prog Tryz.f13 (bA M w0 (fun v _=>v=.agg (av r)))
abbrev TN(ks:List aq)(s:AS):=VE (As M w0) (qS M w0 r) ks .normal s
abbrev dM(n:Nat):aq:=.c (cat Tryz.f13 (pn n))
abbrev RS:List aq:=[.b 0,dM 15]
abbrev TS:List aq:=kl (As M w0) (qS M w0 r) RS (cat Tryz.f13 (pn 116)) m1::RS
def sS:AS:=⟨[(0,.sl (lm aA v1)),(2,.ptr 2 0),(3,.ref 300),(4,iI v4)],[(2,List.set (av cF) 58 (.nils))],[(300,⟨37,58,lm aA X⟩)],[2,300]⟩
variable{M w0 r v1 X v4 m1}{K:Kn}{n:Nat}
theorem VP{t:aa×Int}(hX:X=v1.map dk)(h1:gT K n n X 0=some t)(h2:iA X n t.1=some r):TN M w0 r [dM 15] (sS v1 X v4):=by
 refine bK (ks':=[dM 30,dM 31]) 1 (gb 300 (aj 1 ?_));refine D3 (FV n h1) (fun v w b2 hQ hM hsz hG hgr=>?_);obtain⟨⟨nd,Db,Dy,Dk⟩,hnd,hpl,hv,hok,hbl,hno⟩:=hQ;simp only at hnd;subst hnd;subst hv;rw[←hpl]at h2;obtain⟨⟨nd2,Db2,Dy2,Dk2⟩,q1,q2,q3⟩:=CV n h2 rfl ⟨_,hok⟩ hno;refine⟨fun g=>g∈(⟨true,Db,Dy,Dk⟩:DB).bl,hbl,?_⟩;refine ac (bK (ks':=[dM 62,dM 63]) 1 (aj 2 ?_));refine Sk q3 (fun k hk=>.inr hk) (fun w _ hw=>hok.bI hw) (fun b3 hg hR hM3=>?_);refine ac (aL 1 ?_);refine m6 (l:=[.agg (DB.cells ⟨nd2,Db2,Dy2,Dk2⟩)]) (by kernel_rfl) (fun w' ι x hs hx=>?_);have hgr2:d5 (fun g=>g∈(⟨true,Db,Dy,Dk⟩:DB).bl) w0 b3:=(hgr.mono (fun _ h=>h.elim)).trans hg;have hE:∀g,g∈(⟨true,Db,Dy,Dk⟩:DB).bl→w0.w.heap.size≤g:=fun g hg9=>Nat.le_trans hsz (hbl g hg9).1;refine⟨x,.agg (av r),_,ι,rfl,rfl,hs.UE hgr2 hE (fun k hk=>⟨.inl hk,hM k hk⟩),?_⟩;have hok2:c7 w' ⟨nd2,Db2,Dy2,Dk2⟩:=hR.bI fun g hg9=>by
   rw[q2]at hg9;have:=hs.old g (.inr hg9);exact hs.below.block g this.1 this.2
 have hfr:=hok2.rel (N:=NN M ι) (fun g hg9 hN=>by
   rw[q2]at hg9;rcases hN with hN|⟨id,hN⟩
   · have h8:=(hM g hN).1;have h9:=hE g hg9;exact absurd h8 (Nat.not_lt.2 h9)
   · exact hs.sep (.inr hg9) hN)
 have hx2:Rel (NN M ι) w' ι (.agg (DB.cells ⟨nd2,Db2,Dy2,Dk2⟩)) x:=hx.mono (Nat.le_refl _) (fun b _ hb=>hb.elim (fun h=>.inl (.inl h)) .inr) (fun _ _ _=>rfl) (fun _ _ h=>h);rw[←dp,← q1,DB.Gp];exact Js hx2 (by show 58<59;omega) (fun v hv=>by cases hv;exact hfr.pure rfl _)
theorem RD{t:aa×Int}(hfit:fits v1.length 480=true)(h1:gT K n n (v1.map dk) 0=some t)(h2:iA (v1.map dk) n t.1=some r):
   ∀(m:Nat) {X:List aw} {i:Nat} {v4:Int},v4=(i:Int)→X=(v1.take i).map dk→i≤v1.length→v1.length<m+i→LP (As M w0) (qS M w0 r) RS (cat Tryz.f13 (pn 116)) m (sS v1 X v4):=by
 have hmax:v1.length≤maxLen:=by
   unfold fits at hfit;simp only[Bool.and_eq_true,decide_eq_true_eq]at hfit;exact hfit.1
 intro m
 induction m with
 | zero=>intro X i v4 _ _ h1 h2;omega
 | succ m ih =>
   intro X i v4 hi hX hle hm;refine bB (bK (ks':=dM 464::dM 465::dM 233::TS M w0 r m) 2 (aj 2 (az (bu aA v1) (aM 4 1 ?_))));by_cases hlt:i<v1.length
   · have h11:decide (v4<(v1.length:Int))=true:=decide_eq_true (by omega);refine aB 11 h11 (ac ?_);have hinb:aX v4 v1.length=true:=by
       unfold aX;rw[Bool.and_eq_true];exact⟨decide_eq_true (by omega),decide_eq_true (by omega)⟩
     have hw:ab (v4+1)=((i+1:Nat):Int):=by
       rw[hi];unfold maxLen at hmax;unfold ab;rw[IntKind.wrap_i64];omega
     have hget:v1.getD v4.toNat default=v1[i]:=by
       rw[hi,List.getD_eq_getElem?_getD,Int.toNat_natCast,List.getElem?_eq_getElem hlt];rfl
     refine bK (ks':=dM 1864::dM 1865 :: .b 1::dM 467::TS M w0 r m) 5 (aj 2 (az (bi aA aA hinb (cJ) ((fun _=>rfl))) (ac (bK (ks':=dM 7461::dM 3731 :: .b 1::dM 467::TS M w0 r m) 3 ?_))));have hX2:X++[dk (v1.getD v4.toNat default)]=(v1.take (i+1)).map dk:=by
       rw[hX,hget,List.take_succ,List.getElem?_eq_getElem hlt,List.map_append];rfl
     have hfit2:fits (X.length+[dk (v1.getD v4.toNat default)].length) 480=true:=by
       have hl:X.length=i:=by rw[hX,List.length_map,List.length_take];omega
       unfold fits at hfit⊢;simp only[Bool.and_eq_true,decide_eq_true_eq,List.length_singleton]at hfit⊢;omega
     cases hp:((v1.getD v4.toNat default).Style.Position == 2) with
     | true =>
       refine ah 21 hp (bK (ks':=dM 3731 :: .b 1::dM 467::TS M w0 r m) 2 (aj 2 ?_));have hfl:dk (v1.getD v4.toNat default)={ v1.getD v4.toNat default with Style:={ (v1.getD v4.toNat default).Style with Position:=0 } }:=by unfold dk;rw[if_pos hp]
       rw[hfl]at hX2 hfit2;exact az (fX aA [{ v1.getD v4.toNat default with Style:={ (v1.getD v4.toNat default).Style with Position:=0 } }] (new:=[aA { v1.getD v4.toNat default with Style:={ (v1.getD v4.toNat default).Style with Position:=0 } }]) rfl) (az (cy 27 300 37 58 aA (rfl) (cJ) hfit2) (ac (ae 2 (bz (ih (v4:=ab (v4+1)) hw hX2 hlt (by omega))))))
     | false =>
       refine ah 21 hp (bK (ks':=dM 3731 :: .b 1::dM 467::TS M w0 r m) 2 (aj 2 ?_));have hfl:dk (v1.getD v4.toNat default)=v1.getD v4.toNat default:=by unfold dk;rw[if_neg (by rw[hp];simp)]
       rw[hfl]at hX2 hfit2;exact az (fX aA [v1.getD v4.toNat default] (new:=[aA (v1.getD v4.toNat default)]) rfl) (az (cy 27 300 37 58 aA (rfl) (cJ) hfit2) (ac (ae 2 (bz (ih (v4:=ab (v4+1)) hw hX2 hlt (by omega))))))
   · have h11:decide (v4<(v1.length:Int))=false:=decide_eq_false (by omega);refine aB 11 h11 (ac ?_);have hie:i=v1.length:=by omega
     rw[hie,List.take_length]at hX;rw[←hX]at h1 h2;exact ae 5 (VP (v4:=v4) hX h1 h2)
theorem KR(h:lV K n v1=some r):aU Tryz.prog 13 [.sl (lm aA v1)] (fun v _=>v=.agg (av r)):=by
 unfold lV at h;obtain⟨hfit,h⟩:=aF h;obtain⟨t,h1,h2⟩:=bind_some h;exact bv (cat Tryz.f13 (pn 1)) Tryz.func13 Tryz.ntmps13 fun M w0=>(bd ⟨[(0,.sl (lm aA v1))],[],[],[]⟩ (bK (ks':=[dM 58,.b 0,dM 15]) 8 (bJ [0,2,3,4] [2] [] (gh 300 3 37 58 (ae 0 (cg (p:=pn 58) (v1.length+1) (RD hfit h1 h2 (v1.length+1) (X:=[]) (i:=0) rfl rfl (Nat.zero_le _) (by omega))))))))
end
end
theorem Kc[GS]{K:Kn}{n:Nat}{v1:List aw}{r:aa}(hK:ao K)(h:lV K n v1=some r):aU Tryz.prog 13 [.sl (lm aA v1)] (fun v _=>v=.agg (av r)):=KR h
noncomputable section
variable[GS](M:Nat→Prop)(w0:aE)(r v1:List aw)(v2:di)(v8:List aw)  
abbrev kF(n:Nat):aq:=.c (cat Tryz.f14 (pn n))
abbrev Ow:Cx:=⟨Tryz.prog,105,M,w0⟩
abbrev O3:=bodyPost Tryz.prog Tryz.f14 (bA M w0 (fun v s=>v=.ref 7∧look 7 s.r=some ⟨37,58,lm aA r⟩))
abbrev Un(ks:List aq)(s:AS):=VE (Ow M w0) (O3 M w0 r) ks .normal s
def Vs:AS:=⟨[(5,.ref 7)],[],[(7,⟨37,58,lm aA v8⟩)],[7]⟩
variable{M w0 r v1 v2 v8}{K:Kn}{n:Nat}
theorem Dd(hK:ao K)(h:rW K n v8=some r):Un M w0 r [.b 0,kF 63] (Vs v8):=by
 unfold rW at h;refine aL 4 ?_;cases h;exact fd
theorem V5(hK:ao K)(h:sf K n v1 v2=some r):aU Tryz.prog 14 [.sl (lm aA v1),.agg (dw v2)] (fun v s=>v=.ref 7∧look 7 s.r=some ⟨37,58,lm aA r⟩):=by
 refine bv (cat Tryz.f14 (pn 1)) Tryz.func14 Tryz.ntmps14 fun M w0=>(bd ⟨[(0,.sl (lm aA v1)),(1,.agg (dw v2))],[],[],[]⟩ ?_);unfold sf at h;refine aC 6 7 3 (aj 0 (t9 22 7 (e:=37) (sz:=58) (aM 2 1 ?_)));obtain⟨h1,h⟩:=aF h;refine az (cy 9 7 37 58 aA (rfl) (cJ) h1) (ac (bN 4 5 3 2 (aj 1 (az (bu aA v1) (ac ?_)))));obtain⟨h2,h⟩|⟨h2,h⟩:=ak h
 ·refine ah 12 h2 (aC 4 5 2 (bJ [0,3,5] [3] [7] ?_));obtain⟨h3,h⟩:=aF h;obtain⟨h4,h⟩:=aF h;refine bQ 2 (nu 13 [.ref 7,.sl (lm aA v1),.cptr (aA (gD v1 (0:Int))),.cptr (List.drop 0 (aA (gD v1 (0:Int)))),.int .u8 ((gD v1 (0:Int)).Depth),.int .u8 (IntKind.wrap .u8 (((gD v1 (0:Int)).Depth)+1)),.ptr 3 2,.ptr 3 7,.agg (aV v2.Spec.Style),.agg (aA ({ nD with Depth:=(IntKind.wrap .u8 (((gD v1 (0:Int)).Depth)+1)),Style:=v2.Spec.Style }:aw)),.sl (lm aA [({ nD with Depth:=(IntKind.wrap .u8 (((gD v1 (0:Int)).Depth)+1)),Style:=v2.Spec.Style }:aw)])]) [] [] [fB 24 7 ⟨37,58,lm aA ((([]:List aw)++v1)++[({ nD with Depth:=(IntKind.wrap .u8 (((gD v1 (0:Int)).Depth)+1)),Style:=v2.Spec.Style }:aw)])⟩,bZ Tryz.prog 105 Tryz.f14 (pn 116) 12] (ay [.v 0 1,.v 0 2] (ag (fk (lo:=0) (k:=2) (c9 ⟨(by kernel_rfl),(dc (bi aA aA h3 (cJ) ((fun _=>rfl))) (by kernel_rfl))⟩ (c9 ⟨(by kernel_rfl),(dc (bi aA aA h3 (cJ) ((fun _=>rfl))) (by kernel_rfl))⟩ fJ))) (ay [.v 0 2,.v 0 2,.v 0 2,.v 0 2,.v 0 2,.v 0 2,.v 0 2,.v 0 1] (ag (ex (m:=0) (cy 24 7 37 58 aA (rfl) (cJ) h4)) (ag (bX 1) bP))))) (aL 2 ?_)
  cases h;exact fd
 ·refine ah 12 h2 (eV 2 3 3 (aj 4 (az (bu aA v1) (aM 6 1 ?_))));obtain⟨h5,h⟩:=aF h;refine az (Ue .i64 (ab v2.At) h5) (ac ?_);obtain⟨v3,h6,h⟩:=ci h;refine bR (ks':=[kF 501,.b 0,kF 63]) 6 ⟨[(3,.ptr 3 0),(5,.ref 7),(6,iI v3),(35,.int .u8 (Int.tmod v2.Kind 4)),(56,.bool ((Int.tmod v2.Kind 4) == 0))],[(3,dw v2)],[(7,⟨37,58,lm aA (([]:List aw)++v1)⟩)],[3,7]⟩ ?_ (by subst h6;kernel_rfl);obtain⟨h7,h⟩|⟨h7,h⟩:=ak h
  ·refine ah 56 h7 (aC 4 5 2 (bJ [3,5,6] [3] [7] ?_));obtain⟨h8,h⟩:=aF h;obtain⟨h9,h⟩:=aF h;obtain⟨h10,h⟩:=aF h;refine bQ 3 (nu 58 [.ref 7,iI v3,.eptr 7 58 (v3.toNat) 0,.eptr 7 58 (v3.toNat) 0,.int .u8 ((gD (([]:List aw)++v1) v3).Depth),.ref 7,iI v3,.eptr 7 58 (v3.toNat) 0,.eptr 7 58 (v3.toNat) 1,.int .u8 ((gD (([]:List aw)++v1) v3).Kind),.ref 7,iI v3,.eptr 7 58 (v3.toNat) 0,.eptr 7 58 (v3.toNat) 3,.int .u8 ((gD (([]:List aw)++v1) v3).Rows),.ptr 3 2,.ptr 3 2,.ptr 3 2,.ptr 3 3,.ptr 3 2,.ptr 3 5]) [] [] [bZ Tryz.prog 105 Tryz.f14 (pn 2004) 17,bZ Tryz.prog 105 Tryz.f14 (pn 2004) 20,bZ Tryz.prog 105 Tryz.f14 (pn 2004) 23] (ay (vz 2) (bC (d8 7 58 aA (L:=(([]:List aw)++v1)) h8) (ay [.v 0 1] (bC (cR 5 0 aA aA (cE h10).2 ((fun _=>rfl))) (ay [.v 0 2,.v 0 2] (ag (fk (lo:=0) (k:=2) (c9 ⟨(by kernel_rfl),(dc (d8 7 58 aA (L:=(([]:List aw)++v1)) h9) (by kernel_rfl))⟩ (c9 ⟨(by kernel_rfl),(dc (d8 7 58 aA (L:=(([]:List aw)++v1)) h9) (by kernel_rfl))⟩ fJ))) (ay [.v 0 2] (ag (fk (lo:=0) (k:=2) (c9 ⟨(by kernel_rfl),(dc (cR 5 1 aA aA (cE h10).2 ((fun _=>rfl))) (by kernel_rfl))⟩ (c9 ⟨(by kernel_rfl),(dc (cR 5 1 aA aA (cE h10).2 ((fun _=>rfl))) (by kernel_rfl))⟩ fJ))) (ay [.v 0 3,.v 0 3] (ag (fk (lo:=0) (k:=3) (c9 ⟨(by kernel_rfl),(dc (d8 7 58 aA (L:=(([]:List aw)++v1)) h10) (by kernel_rfl))⟩ (c9 ⟨(by kernel_rfl),(dc (d8 7 58 aA (L:=(([]:List aw)++v1)) h10) (by kernel_rfl))⟩ (c9 ⟨(by kernel_rfl),(dc (d8 7 58 aA (L:=(([]:List aw)++v1)) h10) (by kernel_rfl))⟩ fJ)))) (ay [.v 0 3] (ag (fk (lo:=0) (k:=3) (c9 ⟨(by kernel_rfl),(dc (cR 5 3 aA aA (cE h10).2 ((fun _=>rfl))) (by kernel_rfl))⟩ (c9 ⟨(by kernel_rfl),(dc (cR 5 3 aA aA (cE h10).2 ((fun _=>rfl))) (by kernel_rfl))⟩ (c9 ⟨(by kernel_rfl),(dc (cR 5 3 aA aA (cE h10).2 ((fun _=>rfl))) (by kernel_rfl))⟩ fJ)))) (ay [.v 0 2,.v 0 1] (ag (bX 0) (ay [.v 1 2,.v 1 1] (ag (bX 1) (ay [.v 2 2,.v 2 1] (ag (bX 2) bP)))))))))))))))))) ?_
   obtain⟨v4,h11,h⟩:=ci h;obtain⟨v5,h12,h⟩:=ci h;obtain⟨v6,h13,h⟩:=ci h;refine bR (ks':=[kF 2005,.b 0,kF 63]) 0 ⟨[(3,.ptr 3 0),(5,.ref 7),(6,iI v3)],[(3,dw ({ v2 with Spec:=({ v2.Spec with Depth:=v4,Kind:=v5,Rows:=v6 }:aw) }:di))],[(7,⟨37,58,lm aA (([]:List aw)++v1)⟩)],[3,7]⟩ ?_ (by subst h13;subst h12;subst h11;kernel_rfl);refine aj 4 ?_;obtain⟨h14,h⟩:=aF h;exact az (cS 7 58 aA h14) (az (fw 7 37 58 0 aA aA ({ v2.Spec with Depth:=v4,Kind:=v5,Rows:=v6 }:aw) (cE h14).2 ((fun _=>rfl))) (ac (ae 0 (Dd hK h))))
  ·refine ah 56 h7 (bh 7 3 ?_);obtain⟨h15,h⟩|⟨h15,h⟩:=ak h
   ·refine ah 84 h15 (bh 2 1 (aj 2 ?_));obtain⟨h16,h⟩:=aF h;refine az (cS 7 58 aA h16) (aM 4 1 (az (cR 9 2 aA aA (cE h16).2 ((fun _=>rfl))) ?_));obtain⟨h17,h⟩:=aF h;refine az (Ld h17) ?_;obtain⟨h18,h⟩:=aF h;exact az (cS 7 58 aA h18) (aM 8 1 (az (fw 7 37 58 2 aA aA ({ (gD (([]:List aw)++v1) v3)with Text:=(((gD (([]:List aw)++v1) v3).Text)++(⟨#[120]⟩:ByteArray)) }:aw) (cE h18).2 ((fun _=>rfl))) (ac (ae 0 (Dd hK h)))))
   ·refine ah 84 h15 (bh 7 3 ?_);obtain⟨h19,h⟩|⟨h19,h⟩:=ak h
    ·refine ah 94 h19 (aC 4 5 2 (bJ [5,6] [] [7] ?_));obtain⟨h20,h⟩:=aF h;obtain⟨h21,h⟩:=aF h;refine Vo 7 0 [(96,.ref 7),(97,iI v3),(98,.sref 7 58 ((0:Int).toNat) (v3.toNat-(0:Int).toNat)),(99,.ref 7),(100,iI v3),(101,iI (ab (v3+1))),(102,.sref 7 58 (((ab (v3+1))).toNat) ((((([]:List aw)++v1).length:Int)).toNat-((ab (v3+1))).toNat))] [] [] [] (ay (vz 2) (bC (Hn aA (([]:List aw)++v1) (0:Int) v3 22 (.tmp 96) none (some (.tmp 97)) 98 (id:=7) (e:=37) (sz:=58) (et:=37) (by kernel_rfl) (by kernel_rfl) (by kernel_rfl) (by kernel_rfl) (by kernel_rfl) (by kernel_rfl) (by kernel_rfl) (fun k hk=>by subst hk;kernel_rfl) h20) (ay (vz 3) (bC (Hn aA (([]:List aw)++v1) (ab (v3+1)) ((([]:List aw)++v1).length:Int) 22 (.tmp 99) (some (.tmp 101)) none 102 (id:=7) (e:=37) (sz:=58) (et:=37) (by kernel_rfl) (by kernel_rfl) (by kernel_rfl) (by kernel_rfl) (by kernel_rfl) (by kernel_rfl) (by kernel_rfl) (fun k hk=>by subst hk;kernel_rfl) h21) (uQ))))) ?_
     obtain⟨h22,h⟩:=aF h;refine Ot 103 7 37 58 (v3.toNat-(0:Int).toNat) (((ab (v3+1))).toNat) ((((([]:List aw)++v1).length:Int)).toNat-((ab (v3+1))).toNat) aA (L:=(([]:List aw)++v1)) (x:=(.tmp 98)) (y:=(.tmp 102)) (T:=22) (bytes:=480) h22 (ac (aL 3 ?_));cases h;exact fd
    ·refine ah 94 h19 (aC 6 7 2 (aj 2 ?_));obtain⟨h23,h⟩:=aF h;refine az (cS 7 58 aA h23) (aM 4 1 (az (cR 5 0 aA aA (cE h23).2 ((fun _=>rfl))) (ac ?_)));obtain⟨v7,h24,h⟩:=ci h;refine bR (ks':=[kF 64254,kF 64255,.b 0,kF 63]) 1 ⟨[(3,.ptr 3 0),(5,.ref 7),(6,iI v3)],[(3,dw ({ v2 with Spec:=({ v2.Spec with Depth:=v7 }:aw) }:di))],[(7,⟨37,58,lm aA (([]:List aw)++v1)⟩)],[3,7]⟩ ?_ (by subst h24;kernel_rfl);refine gb 7 ?_;obtain⟨h25,h⟩:=aF h;obtain⟨h26,h⟩:=aF h;obtain⟨h27,h⟩:=aF h;obtain⟨h28,h⟩:=aF h;obtain⟨h29,h⟩:=aF h;refine bQ 4 (nu 43 [.ref 43,.sl (lm aA (([]:List aw)++v1)),iI v3,.sl (lm aA (List.drop ((0:Int)).toNat (List.take v3.toNat (([]:List aw)++v1))))]++nu 48 [.ptr 3 2,.agg (aA ({ v2.Spec with Depth:=v7 }:aw)),.sl (lm aA [({ v2.Spec with Depth:=v7 }:aw)])]++nu 52 [.sl (lm aA (([]:List aw)++v1)),iI v3,.sl (lm aA (List.drop v3.toNat (List.take (((([]:List aw)++v1).length:Int)).toNat (([]:List aw)++v1))))]) [] [(43,⟨37,58,[]⟩)] [fB 47 43 ⟨37,58,lm aA (([]:List aw)++(List.drop ((0:Int)).toNat (List.take v3.toNat (([]:List aw)++v1))))⟩,fB 51 43 ⟨37,58,lm aA ((([]:List aw)++(List.drop ((0:Int)).toNat (List.take v3.toNat (([]:List aw)++v1))))++[({ v2.Spec with Depth:=v7 }:aw)])⟩,fB 55 43 ⟨37,58,lm aA (((([]:List aw)++(List.drop ((0:Int)).toNat (List.take v3.toNat (([]:List aw)++v1))))++[({ v2.Spec with Depth:=v7 }:aw)])++(List.drop v3.toNat (List.take (((([]:List aw)++v1).length:Int)).toNat (([]:List aw)++v1))))⟩,bZ Tryz.prog 105 Tryz.f14 (pn 64254) 13] (ag (K4 0 1 22 43 37 58) (ay [.v 0 4,.v 0 4] (bC (gW aA (([]:List aw)++v1) (0:Int) v3 22 (.tmp 44) none (some (.tmp 45)) 46 (e:=37) (sz:=58) (by kernel_rfl) (by kernel_rfl) (by kernel_rfl) (by kernel_rfl) (by kernel_rfl) (by kernel_rfl) (cJ) (fun k hk=>by subst hk;kernel_rfl) h25) (ag (ex (m:=0) (cy 47 43 37 58 aA (rfl) (cJ) h26)) (ay [.v 0 4,.v 0 4,.v 0 2] (ag (ex (m:=1) (cy 51 43 37 58 aA (rfl) (cJ) h27)) (ay [.v 0 4,.v 0 4] (ag (fk (lo:=0) (k:=3) (c9 ⟨(by kernel_rfl),(dc (gW aA (([]:List aw)++v1) v3 ((([]:List aw)++v1).length:Int) 22 (.tmp 52) (some (.tmp 53)) none 54 (e:=37) (sz:=58) (by kernel_rfl) (by kernel_rfl) (by kernel_rfl) (by kernel_rfl) (by kernel_rfl) (by kernel_rfl) (cJ) (fun k hk=>by subst hk;kernel_rfl) h28) (by kernel_rfl))⟩ (c9 ⟨(by kernel_rfl),(dc (gW aA (([]:List aw)++v1) v3 ((([]:List aw)++v1).length:Int) 22 (.tmp 52) (some (.tmp 53)) none 54 (e:=37) (sz:=58) (by kernel_rfl) (by kernel_rfl) (by kernel_rfl) (by kernel_rfl) (by kernel_rfl) (by kernel_rfl) (cJ) (fun k hk=>by subst hk;kernel_rfl) h28) (by kernel_rfl))⟩ (c9 ⟨(by kernel_rfl),(dc (gW aA (([]:List aw)++v1) v3 ((([]:List aw)++v1).length:Int) 22 (.tmp 52) (some (.tmp 53)) none 54 (e:=37) (sz:=58) (by kernel_rfl) (by kernel_rfl) (by kernel_rfl) (by kernel_rfl) (by kernel_rfl) (by kernel_rfl) (cJ) (fun k hk=>by subst hk;kernel_rfl) h28) (by kernel_rfl))⟩ fJ)))) (ag (ex (m:=2) (cy 55 43 37 58 aA (rfl) (cJ) h29)) (ag (bX 3) bP)))))))))) (aL 3 (bJ [4] [] [43] (z6 43 7 ?_)))
     cases h;exact fd
end
noncomputable section
variable[GS](M:Nat→Prop)(w0:aE)(r:Int)(v1:aa)(v6 v7:Int)(v8:Bool)(v10:Int)(m1:Nat)(L1:Int→Int→Option Int)
abbrev zu:Cx:=⟨Tryz.prog,38,M,w0⟩
abbrev Bs:=bodyPost Tryz.prog Tryz.f15 (bA M w0 (fun v _=>v=iI r))
abbrev BP(ks:List aq)(s:AS):=VE (zu M w0) (Bs M w0 r) ks .normal s
abbrev sk(n:Nat):aq:=.c (cat Tryz.f15 (pn n))
abbrev Bh:List aq:=[.b 0,sk 15]
abbrev xO:List aq:=kl (zu M w0) (Bs M w0 r) Bh (cat Tryz.f15 (pn 116)) m1::Bh
def Ua:AS:=⟨[(1,.ptr 1 0),(3,iI v10),(4,iI v7)],[(1,av v1)],[],[1]⟩
def Pr:AS:=⟨[(1,.ptr 1 0),(3,iI v6),(4,iI v7),(27,.bool v8)],[(1,av v1)],[],[1]⟩
def JG:AS:=⟨[(1,.ptr 1 0),(3,iI v6),(4,iI v7)],[(1,av v1)],[],[1]⟩
abbrev vb:Prop:=∀{v6:Int} {v7:Int},L1 v6 v7=some r→LP (zu M w0) (Bs M w0 r) Bh (cat Tryz.f15 (pn 116)) m1 (JG v1 v6 v7)
variable{M w0 r v1 v6 v7 v8 v10 m1 L1}{K:Kn}{n:Nat}
theorem F3(hK:ao K)(hL1:vb M w0 r v1 m1 L1)(h:pI K n v1 v7 L1 v10=some r):BP M w0 r (.b 1::sk 467::xO M w0 r m1) (Ua v1 v7 v10):=by
 unfold pI at h;exact ae 2 (bz (hL1 h))
theorem H1(hK:ao K)(hL1:vb M w0 r v1 m1 L1)(h:oP K n v1 v6 v7 L1 v8=some r):BP M w0 r (sk 1865 :: .b 1::sk 467::xO M w0 r m1) (Pr v1 v6 v7 v8):=by
 unfold oP at h;obtain⟨h13,h⟩|⟨h13,h⟩:=ak h
 ·refine ah 27 h13 (bh 2 1 (aj 4 ?_));obtain⟨h14,h⟩:=aF h;refine az (bi aR av h14 (dY) (dp)) (aM 6 1 ?_);obtain⟨v9,h15,h⟩:=bind_some h;exact aS (hK.sG h15) (ac (ae 0 (F3 hK hL1 h)))
 ·exact ah 27 h13 (ae 2 (F3 hK hL1 h))
theorem Lz(hK:ao K)(hL1:vb M w0 r v1 m1 L1)(h:qq K n v1 L1 v6 v7=some r):BP M w0 r (sk 116::xO M w0 r m1) (JG v1 v6 v7):=by
 unfold qq at h;refine bN 4 5 3 2 (aj 3 (az (bu aR v1.Kids) (ac ?_)));obtain⟨h9,h⟩|⟨h9,h⟩:=ak h
 ·refine ah 9 h9 (c8 8 9 1 3 5 (aj 3 ?_));obtain⟨h10,h⟩:=aF h;refine az (bi aR av h10 (dY) (dp)) (aM 8 4 ?_);obtain⟨h11,h⟩|⟨h11,h⟩:=ak h
  ·exact aB 19 h11 (ac (ae 0 (H1 hK hL1 h)))
  ·refine aB 19 h11 (aM 11 3 ?_);obtain⟨h12,h⟩:=aF h;exact az (bi aR av h12 (dY) (dp)) (ac (ae 0 (H1 hK hL1 h)))
 ·refine ah 9 h9 (aL 8 ?_);cases h;exact bj
theorem KZ(hK:ao K)(m:Nat):vb M w0 r v1 m (nl K n v1 m):=by
 induction m with
 | zero=>intro v6 v7 h;cases h
 | succ m ih=>intro v6 v7 h;have h:qq K n v1 (nl K n v1 m) v6 v7=some r:=h;exact bB (Lz hK ih h)
theorem zY(hK:ao K)(h:pL K n v1=some r):aU Tryz.prog 15 [.agg (av v1)] (fun v _=>v=iI r):=by
 refine bv (cat Tryz.f15 (pn 1)) Tryz.func15 Tryz.ntmps15 fun M w0=>(bd ⟨[(0,.agg (av v1))],[],[],[]⟩ ?_);unfold pL at h;exact ae 8 (cg (p:=pn 58) n (KZ hK n h))
end
noncomputable section
variable[GS](M:Nat→Prop)(w0:aE)(r:Bool)(v1 v2:aa)(v3:Bool)(v6:Int)(m1:Nat)(L1:Int→Option Bool)
abbrev zS:Cx:=⟨Tryz.prog,74,M,w0⟩
abbrev xr:=bodyPost Tryz.prog Tryz.f24 (bA M w0 (fun v _=>v=.bool r))
abbrev H3(ks:List aq)(s:AS):=VE (zS M w0) (xr M w0 r) ks .normal s
abbrev vE(n:Nat):aq:=.c (cat Tryz.f24 (pn n))
abbrev xX:List aq:=[.b 0,vE 15]
abbrev Lr:List aq:=kl (zS M w0) (xr M w0 r) xX (cat Tryz.f24 (pn 116)) m1::xX
def FH:AS:=⟨[(2,.ptr 2 0),(3,.ptr 3 0),(5,iI v6)],[(2,av v1),(3,av v2)],[],[2,3]⟩
def QB:AS:=⟨[(2,.ptr 2 0),(3,.ptr 3 0),(54,.bool v3)],[(2,av v1),(3,av v2)],[],[2,3]⟩
abbrev Dv:Prop:=∀{v6:Int},L1 v6=some r→LP (zS M w0) (xr M w0 r) xX (cat Tryz.f24 (pn 116)) m1 (FH v1 v2 v6)
variable{M w0 r v1 v2 v3 v6 m1 L1}{K:Kn}{n:Nat}
theorem KS(hK:ao K)(hL1:Dv M w0 r v1 v2 m1 L1)(h:pW K n v1 v2 L1 v6=some r):H3 M w0 r (vE 116::Lr M w0 r m1) (FH v1 v2 v6):=by
 unfold pW at h;refine bN 4 5 3 2 (aj 3 (az (bu aR v1.Kids) (ac ?_)));obtain⟨h14,h⟩|⟨h14,h⟩:=ak h
 ·refine ah 59 h14 (c8 8 9 1 3 5 (bJ [2,3,5] [2,3] [] ?_));obtain⟨h15,h⟩:=aF h;obtain⟨h16,h⟩:=aF h;obtain⟨v7,h17,h⟩:=bind_some h;refine bQ 0 (nu 62 [.ptr 2 58,.sl (lm aR v1.Kids),iI v6,.cptr (av (gD v1.Kids v6)),.agg (av (gD v1.Kids v6)),.ptr 3 58,.sl (lm aR v2.Kids),iI v6,.cptr (av (gD v2.Kids v6)),.agg (av (gD v2.Kids v6)),.bool v7,.bool (!v7)]) [] [] [] (ay (vz 3) (bC (bi aR av h15 (dY) (dp)) (ay (vz 4) (bC (bi aR av h16 (dY) (dp)) (ay [.v 0 1] (ag (cD 0 1 72 (hK.oJ h17)) (ay [.v 0 1] bP))))))) ?_;obtain⟨h18,h⟩|⟨h18,h⟩:=ak h
  ·refine ah 73 h18 (aL 9 ?_);cases h;exact bj
  ·exact ah 73 h18 (ae 4 (bz (hL1 h)))
 ·refine ah 59 h14 (aL 8 ?_);cases h;exact bj
theorem Va(hK:ao K)(m:Nat):Dv M w0 r v1 v2 m (mY K n v1 v2 m):=by
 induction m with
 | zero=>intro v6 h;cases h
 | succ m ih=>intro v6 h;have h:pW K n v1 v2 (mY K n v1 v2 m) v6=some r:=h;exact bB (KS hK ih h)
theorem mJ(hK:ao K)(h:gH K n v1 v2 v3=some r):H3 M w0 r [vE 13,vE 7] (QB v1 v2 v3):=by
 unfold gH at h;obtain⟨h7,h⟩|⟨h7,h⟩:=ak h
 ·refine ah 54 h7 (aL 5 ?_);cases h;exact bj
 ·exact ah 54 h7 (ae 6 (cg (p:=pn 58) n (Va hK n h)))
theorem Ks(hK:ao K)(h:nq K n v1 v2=some r):aU Tryz.prog 24 [.agg (av v1),.agg (av v2)] (fun v _=>v=.bool r):=by
 refine bv (cat Tryz.f24 (pn 1)) Tryz.func24 Tryz.ntmps24 fun M w0=>(bd ⟨[(0,.agg (av v1)),(1,.agg (av v2))],[],[],[]⟩ ?_);unfold nq at h;refine bN 12 13 7 4 (aj 6 ?_);obtain⟨h1,h⟩|⟨h1,h⟩:=ak h
 ·exact aB 11 h1 (ac (ae 0 (mJ hK h)))
 ·refine aB 11 h1 (aM 13 7 ?_);obtain⟨h2,h⟩|⟨h2,h⟩:=ak h
  ·exact aB 18 h2 (ac (ae 0 (mJ hK h)))
  ·refine aB 18 h2 (aM 20 7 ?_);obtain⟨h3,h⟩|⟨h3,h⟩:=ak h
   ·exact aB 25 h3 (ac (ae 0 (mJ hK h)))
   ·refine aB 25 h3 (aM 27 7 ?_);obtain⟨h4,h⟩|⟨h4,h⟩:=ak h
    ·exact aB 32 h4 (ac (ae 0 (mJ hK h)))
    ·refine aB 32 h4 (aM 34 7 ?_);obtain⟨h5,h⟩|⟨h5,h⟩:=ak h
     ·exact aB 39 h5 (ac (ae 0 (mJ hK h)))
     ·refine aB 39 h5 (aM 41 7 ?_);obtain⟨h6,h⟩|⟨h6,h⟩:=ak h
      ·exact aB 46 h6 (ac (ae 0 (mJ hK h)))
      ·exact aB 46 h6 (aM 43 2 (az (bu aR v1.Kids) (aM 46 2 (az (bu aR v2.Kids) (ac (ae 0 (mJ hK h)))))))
end
noncomputable section
variable[GS](M:Nat→Prop)(w0:aE)(r:Bool)(v1 v2:aa)(v6:Int)(m1:Nat)(L1:Int→Option Bool)
abbrev zo:Cx:=⟨Tryz.prog,23,M,w0⟩
abbrev Ak:=bodyPost Tryz.prog Tryz.f23 (bA M w0 (fun v _=>v=.bool r))
abbrev Pe(ks:List aq)(s:AS):=VE (zo M w0) (Ak M w0 r) ks .normal s
abbrev Kf(n:Nat):aq:=.c (cat Tryz.f23 (pn n))
abbrev Av:List aq:=[.b 0,Kf 15]
abbrev Qs:List aq:=kl (zo M w0) (Ak M w0 r) Av (cat Tryz.f23 (pn 116)) m1::Av
def C2:AS:=⟨[(2,.ptr 2 0),(3,.ptr 3 0),(5,iI v6)],[(2,av v1),(3,av v2)],[],[2,3]⟩
abbrev Jl:Prop:=∀{v6:Int},L1 v6=some r→LP (zo M w0) (Ak M w0 r) Av (cat Tryz.f23 (pn 116)) m1 (C2 v1 v2 v6)
variable{M w0 r v1 v2 v6 m1 L1}{K:Kn}{n:Nat}
theorem Nh(hK:ao K)(hL1:Jl M w0 r v1 v2 m1 L1)(h:qL K n v1 v2 L1 v6=some r):Pe M w0 r (Kf 116::Qs M w0 r m1) (C2 v1 v2 v6):=by
 unfold qL at h;refine bN 4 5 3 2 (aj 3 (az (bu aR v1.Kids) (ac ?_)));obtain⟨h8,h⟩|⟨h8,h⟩:=ak h
 ·refine ah 13 h8 (c8 8 9 1 3 5 (bJ [2,3,5] [2,3] [] ?_));obtain⟨h9,h⟩:=aF h;obtain⟨v7,h10,h⟩:=bind_some h;refine bQ 0 (nu 16 [.ptr 2 58,.sl (lm aR v1.Kids),iI v6,.cptr (av (gD v1.Kids v6)),.agg (av (gD v1.Kids v6)),.agg (av v2),.bool v7]) [] [] [] (ay (vz 3) (bC (bi aR av h9 (dY) (dp)) (ay (vz 2) (ag (cD 0 1 22 (hK.pE h10)) bP)))) ?_;obtain⟨h11,h⟩|⟨h11,h⟩:=ak h
  ·refine ah 22 h11 (aL 9 ?_);cases h;exact bj
  ·exact ah 22 h11 (ae 4 (bz (hL1 h)))
 ·refine ah 13 h8 (aL 8 ?_);cases h;exact bj
theorem TV(hK:ao K)(m:Nat):Jl M w0 r v1 v2 m (oA K n v1 v2 m):=by
 induction m with
 | zero=>intro v6 h;cases h
 | succ m ih=>intro v6 h;have h:qL K n v1 v2 (oA K n v1 v2 m) v6=some r:=h;exact bB (Nh hK ih h)
theorem EO(hK:ao K)(h:lP K n v1 v2=some r):aU Tryz.prog 23 [.agg (av v1),.agg (av v2)] (fun v _=>v=.bool r):=by
 refine bv (cat Tryz.f23 (pn 1)) Tryz.func23 Tryz.ntmps23 fun M w0=>(bd ⟨[(0,.agg (av v1)),(1,.agg (av v2))],[],[],[]⟩ ?_);unfold lP at h;refine bN 12 13 7 4 (aj 2 ?_);obtain⟨v3,h1,h⟩:=bind_some h;refine aS (Ks hK h1) (ac ?_);obtain⟨h2,h⟩|⟨h2,h⟩:=ak h
 ·refine ah 8 h2 (aL 5 ?_);cases h;exact bj
 ·exact ah 8 h2 (ae 6 (cg (p:=pn 58) n (TV hK n h)))
end
noncomputable section
variable[GS](M:Nat→Prop)(w0:aE)(r:Int)(v1 v2:aa)(v9 v10 v13 v15:Int)(m1:Nat)(L1:Int→Int→Option Int)
abbrev xM:Cx:=⟨Tryz.prog,31,M,w0⟩
abbrev AW:=bodyPost Tryz.prog Tryz.f17 (bA M w0 (fun v _=>v=iI r))
abbrev BS(ks:List aq)(s:AS):=VE (xM M w0) (AW M w0 r) ks .normal s
abbrev mS(n:Nat):aq:=.c (cat Tryz.f17 (pn n))
abbrev Bf:List aq:=[.b 0,mS 15]
abbrev uT:List aq:=kl (xM M w0) (AW M w0 r) Bf (cat Tryz.f17 (pn 116)) m1::Bf
def TM:AS:=⟨[(2,.ptr 2 0),(5,iI v15),(9,.sl (lm aR v2.Kids)),(10,iI (v2.Kids.length:Int)),(11,iI v10)],[(2,av v1)],[],[2]⟩
def Qg:AS:=⟨[(2,.ptr 2 0),(5,iI v13),(7,.ptr 7 0),(9,.sl (lm aR v2.Kids)),(10,iI (v2.Kids.length:Int)),(11,iI v10)],[(2,av v1),(7,av (gD v2.Kids v10))],[],[2,7]⟩
def JX:AS:=⟨[(2,.ptr 2 0),(5,iI v9),(9,.sl (lm aR v2.Kids)),(10,iI (v2.Kids.length:Int)),(11,iI v10)],[(2,av v1)],[],[2]⟩
abbrev wN:Prop:=∀{v9:Int} {v10:Int},L1 v9 v10=some r→LP (xM M w0) (AW M w0 r) Bf (cat Tryz.f17 (pn 116)) m1 (JX v1 v2 v9 v10)
variable{M w0 r v1 v2 v9 v10 v13 v15 m1 L1}{K:Kn}{n:Nat}
theorem FO(hK:ao K)(hL1:wN M w0 r v1 v2 m1 L1)(h:qo K n v1 v2 v10 L1 v15=some r):BS M w0 r (.b 1::mS 935::uT M w0 r m1) (TM v1 v2 v10 v15):=by
 unfold qo at h;exact ae 2 (bz (hL1 h))
theorem G2(hK:ao K)(hL1:wN M w0 r v1 v2 m1 L1)(h:qW K n v1 v2 v10 L1 v13=some r):BS M w0 r (mS 29901 :: .b 1::mS 935::uT M w0 r m1) (Qg v1 v2 v10 v13):=by
 unfold qW at h;refine aj 3 ?_;obtain⟨v14,h15,h⟩:=bind_some h;exact aS (hK.qt h15) (ac (ae 0 (FO hK hL1 h)))
theorem VJ(hK:ao K)(hL1:wN M w0 r v1 v2 m1 L1)(h:rO K n v1 v2 L1 v9 v10=some r):BS M w0 r (mS 116::uT M w0 r m1) (JX v1 v2 v9 v10):=by
 unfold rO at h;refine aC 6 7 3 ?_;obtain⟨h9,h⟩|⟨h9,h⟩:=ak h
 ·refine ah 12 h9 (c8 8 9 1 3 5 (aj 0 ?_));obtain⟨h10,h⟩:=aF h;refine az (bi aR av h10 (dY) (dp)) (ac ?_);obtain⟨v11,h11,h⟩:=ci h;refine bR (ks':=mS 7475 :: .b 1::mS 935::uT M w0 r m1) 2 ⟨[(2,.ptr 2 0),(5,iI v9),(7,.ptr 7 0),(9,.sl (lm aR v2.Kids)),(10,iI (v2.Kids.length:Int)),(11,iI v10),(17,.bool v11)],[(2,av v1),(7,av (gD v2.Kids v10))],[],[2,7]⟩ ?_ (by subst h11;kernel_rfl);obtain⟨h12,h⟩|⟨h12,h⟩:=ak h
  ·refine ah 17 h12 (bN 8 9 5 3 (aj 2 ?_));obtain⟨v12,h13,h⟩:=bind_some h;refine aS (EO hK h13) (ac ?_);obtain⟨h14,h⟩|⟨h14,h⟩:=ak h
   ·exact ah 21 h14 (ae 2 (G2 hK hL1 h))
   ·exact ah 21 h14 (ae 2 (G2 hK hL1 h))
  ·exact ah 17 h12 (ae 2 (FO hK hL1 h))
 ·refine ah 12 h9 (aL 8 ?_);cases h;exact bj
theorem PF(hK:ao K)(m:Nat):wN M w0 r v1 v2 m (m8 K n v1 v2 m):=by
 induction m with
 | zero=>intro v9 v10 h;cases h
 | succ m ih=>intro v9 v10 h;have h:rO K n v1 v2 (m8 K n v1 v2 m) v9 v10=some r:=h;exact bB (VJ hK ih h)
theorem Hy(hK:ao K)(h:py K n v1 v2=some r):aU Tryz.prog 17 [.agg (av v1),.agg (av v2)] (fun v _=>v=iI r):=by
 refine bv (cat Tryz.f17 (pn 1)) Tryz.func17 Tryz.ntmps17 fun M w0=>(bd ⟨[(0,.agg (av v1)),(1,.agg (av v2))],[],[],[]⟩ ?_);unfold py at h;exact bN 28 29 15 6 (aj 2 (az (bu aR v2.Kids) (ac (ae 1 (cg (p:=pn 58) n (PF hK n h))))))
end
noncomputable section
variable(M:Nat→Prop)(w0:aE)(r:Bool)(v1:List aw)(v2:di)(v3 v10 v11:Int)(v12:List aw)(v17 v19:aa)(v20:ai×Int×Int×(List aG))(v22:Bool)(m1:Nat)(L1:Int→Int→(List aw)→Option Bool)
abbrev y4:Cx:=⟨Tryz.prog,108,M,w0⟩
abbrev q4:=bodyPost Tryz.prog Tryz.f4 (bA M w0 (fun v _=>v=.bool r))
abbrev Hs(ks:List aq)(s:AS):=VE (y4 M w0) (q4 M w0 r) ks .normal s
abbrev jd(n:Nat):aq:=.c (cat Tryz.f4 (pn n))
abbrev yR:List aq:=[.b 0,jd 63]
abbrev xY:List aq:=kl (y4 M w0) (q4 M w0 r) yR (cat Tryz.f4 (pn 500)) m1::yR
def Ur:AS:=⟨[(2,iI v3),(8,.ptr 8 0),(9,.ptr 9 0),(10,.ptr 10 0),(98,.bool v22)],[(8,av v17),(9,av v19),(10,List.set (bL (⟨[],v20.2.1,v20.2.2.1⟩:bH)) 0 (.ref 400010))],[(400010,⟨64,127,lm bc v20.2.2.2⟩)],[8,9,10,400010]⟩
def JN:AS:=⟨[(0,.ref 18),(2,iI v3),(4,.ptr 4 0),(22,iI v10),(23,iI v11)],[(4,dw v2)],[(18,⟨37,58,lm aA v12⟩)],[4,18]⟩
abbrev H6:Prop:=∀{v10:Int} {v11:Int} {v12:(List aw)},L1 v10 v11 v12=some r→LP (y4 M w0) (q4 M w0 r) yR (cat Tryz.f4 (pn 500)) m1 (JN v2 v3 v10 v11 v12)
variable{M w0 r v1 v2 v3 v10 v11 v12 v17 v19 v20 v22 m1 L1}{K:Kn}{n:Nat}
theorem JZ(hA:∀ [GS],ao K)(h:rA K n v3 v17 v19 v20 v22=some r):Hs M w0 r [jd 4093,jd 2047] (Ur v3 v17 v19 v20 v22):=by
 letI:GS:=⟨0⟩;have hK:=@hA ⟨0⟩
 unfold rA at h;obtain⟨h36,h⟩|⟨h36,h⟩:=ak h
 ·refine ah 98 h36 (aL 5 ?_);cases h;exact bj
 ·refine ah 98 h36 (eV 2 3 3 (aj 2 ?_));obtain⟨v23,h37,h⟩:=bind_some h;refine vw 10 400010 (fun [GS]=>(uR hA h37)) (ac (aC 2 3 1 (bJ [8,9,10] [8,9,10] [400010] ?_)));obtain⟨v24,h38,h⟩:=bind_some h;refine bQ 1 (nu 102 [.ptr 10 1,iI v23.2.1,.agg (av v17),.agg (av v19),iI v24,.bool (decide (v23.2.1≤v24))]) [] [] [bZ Tryz.prog 108 Tryz.f4 (pn 8190) 6] (ay (vz 4) (ag (cD 0 1 106 (Hy hK h38)) (ay [.v 0 1] (ag (bX 0) bP)))) (aL 1 ?_);cases h;exact bj
theorem NL(hA:∀ [GS],ao K)(hL1:H6 M w0 r v2 v3 m1 L1)(h:oo K n v2 v3 L1 v10 v11 v12=some r):Hs M w0 r (jd 500::xY M w0 r m1) (JN v2 v3 v10 v11 v12):=by
 letI:GS:=⟨0⟩;have hK:=@hA ⟨0⟩
 unfold oo at h;refine aC 6 7 3 ?_;obtain⟨h18,h⟩|⟨h18,h⟩:=ak h
 ·refine ah 24 h18 (c8 18 19 1 3 7 (aj 5 ?_));obtain⟨h19,h⟩:=aF h;refine az (cS 18 58 aA h19) (aM 7 1 (az (fw 18 37 58 3 aA aA ({ (gD v12 v11)with Rows:=0 }:aw) (cE h19).2 ((fun _=>rfl))) ?_));obtain⟨h20,h⟩:=aF h;refine az (cS 18 58 aA h20) (aM 11 2 (az (fw 18 37 58 11 aA aA ({ (gD (List.set v12 v11.toNat ({ (gD v12 v11)with Rows:=0 }:aw)) v11)with Style:=({ ((gD (List.set v12 v11.toNat ({ (gD v12 v11)with Rows:=0 }:aw)) v11).Style)with Width:=bp }:aJ) }:aw) (cE h20).2 ((fun _=>rfl))) (ac ?_)));obtain⟨v13,h21,h⟩:=ci h;refine bR (ks':=jd 64102::jd 64103 :: .b 1::jd 4007::xY M w0 r m1) 1 ⟨[(0,.ref 18),(2,iI v3),(4,.ptr 4 0),(7,iI v11),(22,iI v10),(23,iI v11)],[(4,dw v2)],[(18,⟨37,58,lm aA v13⟩)],[4,18]⟩ ?_ (by subst h21;kernel_rfl);refine aj 6 ?_;obtain⟨h22,h⟩:=aF h;refine az (cS 18 58 aA h22) (aM 9 2 (az (fw 18 37 58 15 aA aA ({ (gD v13 v11)with Style:=({ ((gD v13 v11).Style)with MinWidth:=bp }:aJ) }:aw) (cE h22).2 ((fun _=>rfl))) ?_))
  obtain⟨h23,h⟩:=aF h;refine az (cS 18 58 aA h23) (aM 13 2 (az (fw 18 37 58 17 aA aA ({ (gD (List.set v13 v11.toNat ({ (gD v13 v11)with Style:=({ ((gD v13 v11).Style)with MinWidth:=bp }:aJ) }:aw)) v11)with Style:=({ ((gD (List.set v13 v11.toNat ({ (gD v13 v11)with Style:=({ ((gD v13 v11).Style)with MinWidth:=bp }:aJ) }:aw)) v11).Style)with MaxWidth:=bp }:aJ) }:aw) (cE h23).2 ((fun _=>rfl))) (ac ?_)));obtain⟨v14,h24,h⟩:=ci h;refine bR (ks':=jd 64103 :: .b 1::jd 4007::xY M w0 r m1) 0 ⟨[(0,.ref 18),(2,iI v3),(4,.ptr 4 0),(7,iI v11),(22,iI v10),(23,iI v11)],[(4,dw v2)],[(18,⟨37,58,lm aA v14⟩)],[4,18]⟩ ?_ (by subst h24;kernel_rfl);refine aj 9 ?_;obtain⟨h25,h⟩:=aF h;refine az (cS 18 58 aA h25) (aM 12 2 (az (fw 18 37 58 35 aA aA ({ (gD v14 v11)with Style:=({ ((gD v14 v11).Style)with Border:=⟨0,0,0,0⟩ }:aJ) }:aw) (cE h25).2 ((fun _=>rfl))) ?_));obtain⟨h26,h⟩:=aF h;refine az (cS 18 58 aA h26) (aM 16 2 (az (fw 18 37 58 27 aA aA ({ (gD (List.set v14 v11.toNat ({ (gD v14 v11)with Style:=({ ((gD v14 v11).Style)with Border:=⟨0,0,0,0⟩ }:aJ) }:aw)) v11)with Style:=({ ((gD (List.set v14 v11.toNat ({ (gD v14 v11)with Style:=({ ((gD v14 v11).Style)with Border:=⟨0,0,0,0⟩ }:aJ) }:aw)) v11).Style)with Padding:=⟨bp,bp,bp,bp⟩ }:aJ) }:aw) (cE h26).2 ((fun _=>rfl))) ?_))
  obtain⟨h27,h⟩:=aF h;exact az (cS 18 58 aA h27) (aM 20 2 (az (fw 18 37 58 19 aA aA ({ (gD (List.set (List.set v14 v11.toNat ({ (gD v14 v11)with Style:=({ ((gD v14 v11).Style)with Border:=⟨0,0,0,0⟩ }:aJ) }:aw)) v11.toNat ({ (gD (List.set v14 v11.toNat ({ (gD v14 v11)with Style:=({ ((gD v14 v11).Style)with Border:=⟨0,0,0,0⟩ }:aJ) }:aw)) v11)with Style:=({ ((gD (List.set v14 v11.toNat ({ (gD v14 v11)with Style:=({ ((gD v14 v11).Style)with Border:=⟨0,0,0,0⟩ }:aJ) }:aw)) v11).Style)with Padding:=⟨bp,bp,bp,bp⟩ }:aJ) }:aw)) v11)with Style:=({ ((gD (List.set (List.set v14 v11.toNat ({ (gD v14 v11)with Style:=({ ((gD v14 v11).Style)with Border:=⟨0,0,0,0⟩ }:aJ) }:aw)) v11.toNat ({ (gD (List.set v14 v11.toNat ({ (gD v14 v11)with Style:=({ ((gD v14 v11).Style)with Border:=⟨0,0,0,0⟩ }:aJ) }:aw)) v11)with Style:=({ ((gD (List.set v14 v11.toNat ({ (gD v14 v11)with Style:=({ ((gD v14 v11).Style)with Border:=⟨0,0,0,0⟩ }:aJ) }:aw)) v11).Style)with Padding:=⟨bp,bp,bp,bp⟩ }:aJ) }:aw)) v11).Style)with Margin:=⟨bp,bp,bp,bp⟩ }:aJ) }:aw) (cE h27).2 ((fun _=>rfl))) (ac (ae 2 (bz (hL1 h))))))
 ·refine ah 24 h18 (kV 6 7 8 (bJ [0,2,4] [4] [18] (gb 18 ?_)));obtain⟨v17,h30,h⟩:=bind_some h;obtain⟨v18,h31,h⟩:=bind_some h;obtain⟨v19,h32,h⟩:=bind_some h;refine bQ 2 (nu 80 [.sl (lm aA v12),.agg (av v17),.sl (lm aA v12),.agg (dw ({ v2 with Spec:=({ v2.Spec with Rows:=0,Style:=({ cT with Height:=v2.Spec.Style.Height,LineHeight:=v2.Spec.Style.LineHeight }:aJ) }:aw) }:di)),.sl (lm aA v18),.agg (av v19)]++nu 8 [.ptr 8 0,.ptr 9 0]) [(8,List.set (av cF) 58 (.nils)),(9,List.set (av cF) 58 (.nils))] [] [bZ Tryz.prog 108 Tryz.f4 (pn 254) 8,bZ Tryz.prog 108 Tryz.f4 (pn 254) 9] (ay [.v 0 1] (ag (cD 0 1 81 (Kc hK h30)) (ay [.v 0 2,.v 0 2] (ag (cD 0 2 84 (aU.bT (V5 hK h31) (V':=.sl (lm aA v18)) (by kernel_rfl))) (ag (cD 0 1 85 (Kc hK h32)) (ag (pw 0 1 48 8 (List.set (av cF) 58 (.nils))) (ag (pw 0 1 48 9 (List.set (av cF) 58 (.nils))) (ag (bX 0) (ag (bX 1) bP))))))))) (aC 6 7 3 (aj 2 (vr 400010 10 0 64 127 ?_)))
  obtain⟨v20,h33,h⟩:=bind_some h;refine vw 10 400010 (fun [GS]=>(uR hA h33)) (ac (bN 4 5 3 2 (bJ [2,8,9,10] [8,9,10] [400010] ?_)));obtain⟨v21,h34,h⟩:=bind_some h;obtain⟨h35,h⟩|⟨h35,h⟩:=ak h
  ·exact bQ 0 (nu 89 [.ptr 10 1,iI v20.2.1,.agg (av v17),iI v21,.bool (v20.2.1 != v21),.bool true,.tup [],.tup [],.tup [],.bool true]) [] [] [] (ay (vz 3) (ag (cD 0 1 92 (zY hK h34)) (ay [.v 0 1] (ag (cu 0 94 (e:=(v20.2.1 != v21)) (b:=true) h35) (ag (ax 0 1) (ag (ax 0 1) (ag (ax 0 1) (ay [.v 0 1] bP)))))))) (ae 0 (JZ hA h))
  ·exact bQ 0 (nu 89 [.ptr 10 1,iI v20.2.1,.agg (av v17),iI v21,.bool (v20.2.1 != v21),.bool false,.ptr 10 2,iI v20.2.2.1,.bool (v20.2.2.1 != 0),.bool (v20.2.2.1 != 0)]) [] [] [] (ay (vz 3) (ag (cD 0 1 92 (zY hK h34)) (ay [.v 0 1] (ag (cu 0 94 (e:=(v20.2.1 != v21)) (b:=false) h35) (ay (vz 4) bP))))) (ae 0 (JZ hA h))
theorem KJ(hA:∀ [GS],ao K)(m:Nat):H6 M w0 r v2 v3 m (ld K n v2 v3 m):=by
 letI:GS:=⟨0⟩;have hK:=@hA ⟨0⟩
 induction m with
 | zero=>intro v10 v11 v12 h;cases h
 | succ m ih=>intro v10 v11 v12 h;have h:oo K n v2 v3 (ld K n v2 v3 m) v10 v11 v12=some r:=h;exact bB (NL hA ih h)
theorem P0(hA:∀ [GS],ao K)(h:uG K n v1 v2 v3=some r):aU Tryz.prog 4 [.sl (lm aA v1),.agg (dw v2),iI v3] (fun v _=>v=.bool r):=by
 letI:GS:=⟨0⟩;have hK:=@hA ⟨0⟩
 refine bv (cat Tryz.f4 (pn 1)) Tryz.func4 Tryz.ntmps4 fun M w0=>(bd ⟨[(0,.sl (lm aA v1)),(1,.agg (dw v2)),(2,iI v3)],[],[],[]⟩ ?_);unfold uG at h;refine bN 12 13 7 4 (aj 0 ?_);obtain⟨v4,h1,h⟩:=bind_some h;refine aS (La hA h1) (ac ?_);obtain⟨h2,h⟩|⟨h2,h⟩:=ak h
 ·refine ah 12 h2 (aL 5 ?_);cases h;exact bj
 ·refine ah 12 h2 (oB 4 5 3 4 (aj 3 ?_));obtain⟨v5,h3,h⟩:=bind_some h;refine aS (R2 hK h3) (ac ?_);obtain⟨h4,h⟩|⟨h4,h⟩:=ak h
  ·refine ah 17 h4 (aL 5 ?_);cases h;exact bj
  ·refine ah 17 h4 (eV 2 3 3 (aj 0 (t9 22 18 (e:=37) (sz:=58) (aM 2 1 ?_))));obtain⟨h5,h⟩:=aF h;exact az (cy 20 18 37 58 aA (rfl) (cJ) h5) (ac (bN 4 5 3 2 (aj 1 (az (bu aA (([]:List aw)++v1)) (ac (ae 1 (cg (p:=pn 250) n (KJ hA n h))))))))
end
end Go.Proofs.YtocgkfoifehcbaaGreat

/- The runs of the functions that InlineFits reaches do what their plain forms say, part 0. Made by a program. -/
import Derived.Test.YtnpmlepplfaijaaIvGk
namespace Go.Proofs.Ytnpmlepplfaijaa
open Go.RowKit
set_option maxRecDepth 20000
set_option linter.all false
set_option linter.unusedVariables false
set_option linter.unusedSimpArgs false
noncomputable section
variable(M:Nat→Prop)(w0:az)(r v1:Int)  
variable{M w0 r v1}{K:Kn}{n:Nat}
theorem oN(hK:aj K)(h:lf K n v1=some r):aN Try.prog 50 [iI v1] (fun v _=>v=iI r):=by
 refine bd (cat Try.f50 (pn 1)) Try.func50 Try.ntmps50 fun M w0=>(ba ⟨[(0,iI v1)],[],[],[]⟩ ?_);unfold lf at h;refine aD 5 ?_;cases h;exact aZ
end
noncomputable section
variable(M:Nat→Prop)(w0:az)(r v1:Int)  
variable{M w0 r v1}{K:Kn}{n:Nat}
theorem A7(hK:aj K)(h:oV K n v1=some r):aN Try.prog 25 [iI v1] (fun v _=>v=iI r):=by
 refine bd (cat Try.f25 (pn 1)) Try.func25 Try.ntmps25 fun M w0=>(ba ⟨[(0,iI v1)],[],[],[]⟩ ?_);unfold oV at h;refine aw 6 7 3 (ag 1 ?_);obtain⟨v2,h1,h⟩:=bind_some h;refine aG (oN hK h1) (ab (aD 1 ?_));cases h;exact aZ
end
noncomputable section
variable(M:Nat→Prop)(w0:az)(r v1:Int)  
variable{M w0 r v1}{K:Kn}{n:Nat}
theorem vY(hK:aj K)(h:pc K n v1=some r):aN Try.prog 26 [iI v1] (fun v _=>v=iI r):=by
 refine bd (cat Try.f26 (pn 1)) Try.func26 Try.ntmps26 fun M w0=>(ba ⟨[(0,iI v1)],[],[],[]⟩ ?_);unfold pc at h;refine aw 6 7 3 (ag 1 ?_);obtain⟨v2,h1,h⟩:=bind_some h;refine aG (oN hK h1) (aE 3 1 ?_);obtain⟨v3,h2,h⟩:=bind_some h;refine aG (oN hK h2) (ab (aD 1 ?_));cases h;exact aZ
end
noncomputable section
variable(M:Nat→Prop)(w0:az)(r:Int×Int)(v1:aF)  
variable{M w0 r v1}{K:Kn}{n:Nat}
theorem qH(hK:aj K)(h:fK K n v1=some r):aN Try.prog 9 [.agg (aA v1)] (fun v _=>v=.tup [iI r.1,iI r.2]):=by
 refine bd (cat Try.f9 (pn 1)) Try.func9 Try.ntmps9 fun M w0=>(ba ⟨[(0,.agg (aA v1))],[],[],[]⟩ ?_);unfold fK at h;refine aw 14 15 5 (bJ [1,4] [1] [] ?_);obtain⟨v2,h1,h⟩:=bind_some h;obtain⟨v3,h2,h⟩:=bind_some h;refine bT 1 (nu 8 [.ptr 1 37,iI v1.FontSize,iI v2,iI (max v1.LineHeight 0),.ptr 1 37,iI v1.FontSize,iI v3,iI (aa ((max v1.LineHeight 0)-v3)),iI ((aa ((max v1.LineHeight 0)-v3)) / 2),iI (aa (v2+((aa ((max v1.LineHeight 0)-v3)) / 2)))]) [] [] [bN Try.prog 22 Try.f9 (pn 14) 10] (aL (vz 2) (am (bX 0 1 10 (A7 hK h1)) (aL (vz 3) (am (bX 0 1 14 (vY hK h2)) (aL (vz 3) (am (bO 0) bV)))))) (aD 3 ?_);cases h;exact fj
end
noncomputable section
variable(M:Nat→Prop)(w0:az)(r:Int)(v1:List aq)(v2 v4:Int)(v5:Bool)(m1:Nat)(L1:Int→Option Int)
abbrev vg:Cx:=⟨Try.prog,22,M,w0⟩
abbrev rB:=bodyPost Try.prog Try.f30 (br M w0 (fun v _=>v=iI r))
abbrev vp(ks:List ak)(s:AS):=VE (vg M w0) (rB M w0 r) ks .normal s
abbrev qK(n:Nat):ak:=.c (cat Try.f30 (pn n))
abbrev uG:List ak:=[.b 0,qK 15]
abbrev yl:List ak:=kl (vg M w0) (rB M w0 r) uG (cat Try.f30 (pn 56)) m1::uG
def G0:AS:=⟨[(0,.sl (lm ay v1)),(5,iI v4),(18,.bool v5)],[],[],[]⟩
def AU:AS:=⟨[(0,.sl (lm ay v1)),(5,iI v4)],[],[],[]⟩
abbrev uK:Prop:=∀{v4:Int},L1 v4=some r→LP (vg M w0) (rB M w0 r) uG (cat Try.f30 (pn 56)) m1 (AU v1 v4)
variable{M w0 r v1 v2 v4 v5 m1 L1}{K:Kn}{n:Nat}
theorem wc(hK:aj K)(hL1:uK M w0 r v1 m1 L1)(h:kV K n v1 v4 L1 v5=some r):vp M w0 r (qK 225::qK 113::yl M w0 r m1) (G0 v1 v4 v5):=by
 unfold kV at h;obtain⟨h6,h⟩|⟨h6,h⟩:=ah h
 ·exact ae 18 h6 (ac 5 (bo (hL1 h)))
 ·refine ae 18 h6 (aD 8 ?_);cases h;exact aZ
theorem I3(hK:aj K)(hL1:uK M w0 r v1 m1 L1)(h:kk K n v1 L1 v4=some r):vp M w0 r (qK 56::yl M w0 r m1) (AU v1 v4):=by
 unfold kk at h;refine bL 4 5 3 2 (ag 2 (ax (bu ay v1) (aE 5 2 ?_)));obtain⟨h4,h⟩|⟨h4,h⟩:=ah h
 ·refine au 12 h4 (aE 7 2 ?_);obtain⟨h5,h⟩:=aQ h;exact ax (bv ay ay h5 (dj) ((fun _=>rfl))) (ab (ac 0 (wc hK hL1 h)))
 ·exact au 12 h4 (ab (ac 0 (wc hK hL1 h)))
theorem BC(hK:aj K)(m:Nat):uK M w0 r v1 m (kf K n v1 m):=by
 induction m with
 | zero=>intro v4 h;cases h
 | succ m ih=>intro v4 h;have h:kk K n v1 (kf K n v1 m) v4=some r:=h;exact bi (I3 hK ih h)
theorem xi(hK:aj K)(h:kM K n v1 v2=some r):aN Try.prog 30 [.sl (lm ay v1),iI v2] (fun v _=>v=iI r):=by
 refine bd (cat Try.f30 (pn 1)) Try.func30 Try.ntmps30 fun M w0=>(ba ⟨[(0,.sl (lm ay v1)),(1,iI v2)],[],[],[]⟩ ?_);unfold kM at h;exact ac 6 (cf (p:=pn 28) n (BC hK n h))
end
noncomputable section
variable(M:Nat→Prop)(w0:az)(r:Int)(v1:List aq)(v3:Int)(m1:Nat)(L1:Int→Option Int)
abbrev uN:Cx:=⟨Try.prog,18,M,w0⟩
abbrev ul:=bodyPost Try.prog Try.f51 (br M w0 (fun v _=>v=iI r))
abbrev Fh(ks:List ak)(s:AS):=VE (uN M w0) (ul M w0 r) ks .normal s
abbrev yL(n:Nat):ak:=.c (cat Try.f51 (pn n))
abbrev uw:List ak:=[.b 0,yL 7]
abbrev H5:List ak:=kl (uN M w0) (ul M w0 r) uw (cat Try.f51 (pn 52)) m1::uw
def xz:AS:=⟨[(0,.sl (lm ay v1)),(3,iI v3)],[],[],[]⟩
abbrev y0:Prop:=∀{v3:Int},L1 v3=some r→LP (uN M w0) (ul M w0 r) uw (cat Try.f51 (pn 52)) m1 (xz v1 v3)
variable{M w0 r v1 v3 m1 L1}{K:Kn}{n:Nat}
theorem Fq(hK:aj K)(hL1:y0 M w0 r v1 m1 L1)(h:jS K n v1 L1 v3=some r):Fh M w0 r (yL 52::H5 M w0 r m1) (xz v1 v3):=by
 unfold jS at h;refine aw 5 3 3 ?_;obtain⟨h5,h⟩|⟨h5,h⟩:=ah h
 ·refine ae 8 h5 (cG 8 9 1 3 5 (ag 2 ?_));obtain⟨h6,h⟩:=aQ h;refine ax (bv ay ay h6 (dj) ((fun _=>rfl))) (ab ?_);obtain⟨h7,h⟩|⟨h7,h⟩:=ah h
  ·refine ae 16 h7 (aD 9 ?_);cases h;exact aZ
  ·exact ae 16 h7 (ac 4 (bo (hL1 h)))
 ·refine ae 8 h5 (aD 8 ?_);cases h;exact aZ
theorem FC(hK:aj K)(m:Nat):y0 M w0 r v1 m (lu K n v1 m):=by
 induction m with
 | zero=>intro v3 h;cases h
 | succ m ih=>intro v3 h;have h:jS K n v1 (lu K n v1 m) v3=some r:=h;exact bi (Fq hK ih h)
theorem yo(hK:aj K)(h:lL K n v1=some r):aN Try.prog 51 [.sl (lm ay v1)] (fun v _=>v=iI r):=by
 refine bd (cat Try.f51 (pn 1)) Try.func51 Try.ntmps51 fun M w0=>(ba ⟨[(0,.sl (lm ay v1))],[],[],[]⟩ ?_);unfold lL at h;exact bL 12 13 7 4 (ag 1 (ax (bu ay v1) (ab (ac 1 (cf (p:=pn 26) n (FC hK n h))))))
end
noncomputable section
variable(M:Nat→Prop)(w0:az)(r:Int)(v1:List aq)(v2 v3 v5:Int)(m1:Nat)(L1:Int→Int→Option Int)
abbrev uF:Cx:=⟨Try.prog,33,M,w0⟩
abbrev tA:=bodyPost Try.prog Try.f31 (br M w0 (fun v _=>v=iI r))
abbrev AY(ks:List ak)(s:AS):=VE (uF M w0) (tA M w0 r) ks .normal s
abbrev rH(n:Nat):ak:=.c (cat Try.f31 (pn n))
abbrev u0:List ak:=[.b 0,rH 15]
abbrev Ia:List ak:=kl (uF M w0) (tA M w0 r) u0 (cat Try.f31 (pn 116)) m1::u0
def DF:AS:=⟨[(3,iI v5)],[],[],[]⟩
def xm:AS:=⟨[(0,.sl (lm ay v1)),(3,iI v2),(7,.sl (lm ay v1)),(8,iI (v1.length:Int)),(9,iI v3)],[],[],[]⟩
abbrev Az:Prop:=∀{v2:Int} {v3:Int},L1 v2 v3=some r→LP (uF M w0) (tA M w0 r) u0 (cat Try.f31 (pn 116)) m1 (xm v1 v2 v3)
variable{M w0 r v1 v2 v3 v5 m1 L1}{K:Kn}{n:Nat}
theorem wX(hK:aj K)(h:ox K n v5=some r):AY M w0 r [rH 31] (DF v5):=by
 unfold ox at h;refine aD 3 ?_;cases h;exact aZ
theorem E7(hK:aj K)(hL1:Az M w0 r v1 m1 L1)(h:kw K n v1 L1 v2 v3=some r):AY M w0 r (rH 116::Ia M w0 r m1) (xm v1 v2 v3):=by
 unfold kw at h;refine aw 6 7 3 ?_;obtain⟨h3,h⟩|⟨h3,h⟩:=ah h
 ·refine ae 10 h3 (cG 8 9 1 3 5 (ag 0 ?_));obtain⟨h4,h⟩:=aQ h;exact ax (bv ay ay h4 (dj) ((fun _=>rfl))) (ab (ac 3 (bo (hL1 h))))
 ·refine ae 10 h3 (vV 4 5 3 7 (ag 1 ?_));obtain⟨v4,h5,h⟩:=bind_some h;refine aG (yo hK h5) (ab (aU 3 2 ?_));obtain⟨h6,h⟩|⟨h6,h⟩:=ah h
  ·refine ae 24 h6 (aU 2 1 (ag 3 ?_));obtain⟨h7,h⟩:=aQ h;exact ax (bv ay ay h7 (dj) ((fun _=>rfl))) (ab (ac 0 (wX hK h)))
  ·exact ae 24 h6 (ac 2 (wX hK h))
theorem Ey(hK:aj K)(m:Nat):Az M w0 r v1 m (kg K n v1 m):=by
 induction m with
 | zero=>intro v2 v3 h;cases h
 | succ m ih=>intro v2 v3 h;have h:kw K n v1 (kg K n v1 m) v2 v3=some r:=h;exact bi (E7 hK ih h)
theorem wj(hK:aj K)(h:lQ K n v1=some r):aN Try.prog 31 [.sl (lm ay v1)] (fun v _=>v=iI r):=by
 refine bd (cat Try.f31 (pn 1)) Try.func31 Try.ntmps31 fun M w0=>(ba ⟨[(0,.sl (lm ay v1))],[],[],[]⟩ ?_);unfold lQ at h;exact bL 28 29 15 6 (ag 1 (ax (bu ay v1) (ab (ac 1 (cf (p:=pn 58) n (Ey hK n h))))))
end
noncomputable section
variable(M:Nat→Prop)(w0:az)(r:List Int)(v1:List aq)(v2 v19:Int)(v20:List Int)(v25:Int)(v26:Bool)(m1 m2:Nat)(L1:Int→(List Int)→Option (List Int))(L2:Int→Option (List Int))
abbrev mL:Cx:=⟨Try.prog,46,M,w0⟩
abbrev oA:=bodyPost Try.prog Try.f13 (br M w0 (fun v s=>v=.ref 16∧look 16 s.r=some ⟨3,1,lm (aW .i64) r⟩))
abbrev pI(ks:List ak)(s:AS):=VE (mL M w0) (oA M w0 r) ks .normal s
abbrev eX(n:Nat):ak:=.c (cat Try.f13 (pn n))
abbrev ub:List ak:=[.b 0,eX 15]
abbrev pS:List ak:=kl (mL M w0) (oA M w0 r) ub (cat Try.f13 (pn 116)) m1::ub
abbrev sC:List ak:=.b 2::eX 3735 :: .b 1::pS M w0 r m1
abbrev tU:List ak:=kl (mL M w0) (oA M w0 r) (sC M w0 r m1) (cat Try.f13 (pn 14936)) m2::(sC M w0 r m1)
def GS:AS:=⟨[(0,.sl (lm ay v1)),(1,iI v2),(5,.ref 16),(7,iI v25)],[],[(16,⟨3,1,lm (aW .i64) (v20++[v19])⟩)],[16]⟩
def HU:AS:=⟨[(0,.sl (lm ay v1)),(1,iI v2),(5,.ref 16),(6,iI v19),(7,iI v25),(32,.bool v26)],[],[(16,⟨3,1,lm (aW .i64) (v20++[v19])⟩)],[16]⟩
def vK:AS:=⟨[(0,.sl (lm ay v1)),(1,iI v2),(5,.ref 16),(6,iI v19),(7,iI v25)],[],[(16,⟨3,1,lm (aW .i64) (v20++[v19])⟩)],[16]⟩
def wz:AS:=⟨[(0,.sl (lm ay v1)),(1,iI v2),(5,.ref 16),(6,iI v19)],[],[(16,⟨3,1,lm (aW .i64) v20⟩)],[16]⟩
abbrev ln:Prop:=∀{v19:Int} {v20:(List Int)},L1 v19 v20=some r→LP (mL M w0) (oA M w0 r) ub (cat Try.f13 (pn 116)) m1 (wz v1 v2 v19 v20)
abbrev rt:Prop:=∀{v25:Int},L2 v25=some r→LP (mL M w0) (oA M w0 r) (sC M w0 r m1) (cat Try.f13 (pn 14936)) m2 (vK v1 v2 v19 v20 v25)
variable{M w0 r v1 v2 v19 v20 v25 v26 m1 m2 L1 L2}{K:Kn}{n:Nat}
theorem Ad(hK:aj K)(hL1:ln M w0 r v1 v2 m1 L1)(h:qt K n v1 v2 v19 v20 v25 L1=some r):pI M w0 r (eX 3735 :: .b 1::pS M w0 r m1) (GS v1 v2 v19 v20 v25):=by
 unfold qt at h;exact ac 2 (bo (hL1 h))
theorem vo(hK:aj K)(hL1:ln M w0 r v1 v2 m1 L1)(hL2:rt M w0 r v1 v2 v19 v20 m1 m2 L2)(h:kW K n v1 v2 v19 v20 v25 L1 L2 v26=some r):pI M w0 r (eX 59745::eX 29873::tU M w0 r m1 m2) (HU v1 v2 v19 v20 v25 v26):=by
 unfold kW at h;obtain⟨h47,h⟩|⟨h47,h⟩:=ah h
 ·refine ae 32 h47 (b8 (ks':=eX 119492::eX 119493 :: .b 3::tU M w0 r m1 m2) 4 (ag 2 ?_));obtain⟨v27,h48,h⟩:=bind_some h;refine aG (xi hK h48) (ab (bL 4 5 3 2 (ag 3 ?_)));obtain⟨h49,h⟩:=aQ h;refine ax (kv ay v1 v19 v27 37 (.tmp 36) (some (.tmp 37)) (some (.tmp 38)) 39 (e:=41) (sz:=62) (by kernel_rfl) (by kernel_rfl) (by kernel_rfl) (by kernel_rfl) (by kernel_rfl) (by kernel_rfl) (dj) (fun k hk=>by subst hk;kernel_rfl) h49) ?_;obtain⟨v28,h50,h⟩:=bind_some h;refine aG (wj hK h50) (ab ?_);obtain⟨h51,h⟩|⟨h51,h⟩:=ah h
  ·exact ae 42 h51 (ac 6 (Ad hK hL1 h))
  ·exact ae 42 h51 (ac 4 (bo (hL2 h)))
 ·exact ae 32 h47 (ac 5 (Ad hK hL1 h))
theorem H0(hK:aj K)(hL1:ln M w0 r v1 v2 m1 L1)(hL2:rt M w0 r v1 v2 v19 v20 m1 m2 L2)(h:lT K n v1 v2 v19 v20 L1 L2 v25=some r):pI M w0 r (eX 14936::tU M w0 r m1 m2) (vK v1 v2 v19 v20 v25):=by
 unfold lT at h;refine bL 4 5 3 2 (ag 2 (ax (bu ay v1) (aE 5 2 ?_)));obtain⟨h45,h⟩|⟨h45,h⟩:=ah h
 ·refine au 24 h45 (aE 8 3 ?_);obtain⟨h46,h⟩:=aQ h;exact ax (bv ay ay h46 (dj) ((fun _=>rfl))) (ab (ac 0 (vo hK hL1 hL2 h)))
 ·exact au 24 h45 (ab (ac 0 (vo hK hL1 hL2 h)))
theorem Ix(hK:aj K)(hL1:ln M w0 r v1 v2 m1 L1)(m:Nat):rt M w0 r v1 v2 v19 v20 m1 m (k7 K n v1 v2 v19 v20 L1 m):=by
 induction m with
 | zero=>intro v25 h;cases h
 | succ m ih=>intro v25 h;have h:lT K n v1 v2 v19 v20 L1 (k7 K n v1 v2 v19 v20 L1 m) v25=some r:=h;exact bi (H0 hK hL1 ih h)
theorem B2(hK:aj K)(hL1:ln M w0 r v1 v2 m1 L1)(h:lU K n v1 v2 L1 v19 v20=some r):pI M w0 r (eX 116::pS M w0 r m1) (wz v1 v2 v19 v20):=by
 unfold lU at h;refine bL 4 5 3 2 (ag 2 (ax (bu ay v1) (ab ?_)));obtain⟨h35,h⟩|⟨h35,h⟩:=ah h
 ·refine ae 12 h35 (b8 (ks':=eX 932::eX 933 :: .b 1::pS M w0 r m1) 4 (ag 3 ?_));obtain⟨h36,h⟩:=aQ h;refine ax (ct 16 16 3 1 (aW .i64) (rfl) ((fun _=>rfl)) h36) (ab (aw 2 3 1 (ag 2 ?_)));obtain⟨v21,h37,h⟩:=bind_some h;exact aG (xi hK h37) (ab (ac 2 (cf (p:=pn 7468) n (Ix hK hL1 n h))))
 ·refine ae 12 h35 (aD 8 ?_);cases h;exact eu
theorem Dh(hK:aj K)(m:Nat):ln M w0 r v1 v2 m (ke K n v1 v2 m):=by
 induction m with
 | zero=>intro v19 v20 h;cases h
 | succ m ih=>intro v19 v20 h;have h:lU K n v1 v2 (ke K n v1 v2 m) v19 v20=some r:=h;exact bi (B2 hK ih h)
theorem yF(hK:aj K)(h:jU K n v1 v2=some r):aN Try.prog 13 [.sl (lm ay v1),iI v2] (fun v s=>v=.ref 16∧look 16 s.r=some ⟨3,1,lm (aW .i64) r⟩):=by
 refine bd (cat Try.f13 (pn 1)) Try.func13 Try.ntmps13 fun M w0=>(ba ⟨[(0,.sl (lm ay v1)),(1,iI v2)],[],[],[]⟩ ?_);unfold jU at h;exact gi 58 0 15 8 (bJ [0,1,5,6] [] [] (fr 16 5 3 1 (ac 0 (cf (p:=pn 58) n (Dh hK n h)))))
end
noncomputable section
variable(M:Nat→Prop)(w0:az)(r:Bool)(v1:ai)(v2:Bool)  
abbrev Cs(n:Nat):ak:=.c (cat Try.f67 (pn n))
abbrev Im:Cx:=⟨Try.prog,12,M,w0⟩
abbrev BX:=bodyPost Try.prog Try.f67 (br M w0 (fun v _=>v=.bool r))
abbrev GZ(ks:List ak)(s:AS):=VE (Im M w0) (BX M w0 r) ks .normal s
def D3:AS:=⟨[(2,.bool v2)],[],[],[]⟩
variable{M w0 r v1 v2}{K:Kn}{n:Nat}
theorem wB(hK:aj K)(h:pd K n v2=some r):GZ M w0 r [Cs 7] (D3 v2):=by
 unfold pd at h;refine aD 1 ?_;cases h;exact aZ
theorem yN(hK:aj K)(h:fd K n v1=some r):aN Try.prog 67 [.agg (aV v1)] (fun v _=>v=.bool r):=by
 refine bd (cat Try.f67 (pn 1)) Try.func67 Try.ntmps67 fun M w0=>(ba ⟨[(0,.agg (aV v1))],[],[],[]⟩ ?_);unfold fd at h;refine aw 6 7 3 (ag 4 ?_);obtain⟨h1,h⟩|⟨h1,h⟩:=ah h
 ·exact au 6 h1 (ab (ac 0 (wB hK h)))
 ·exact au 6 h1 (ab (ac 0 (wB hK h)))
end
noncomputable section
variable(M:Nat→Prop)(w0:az)(r:List ao)(v1:ao)(v2:List ao)(v3 v4 v5 v6:Bool)(v7:ao)  
abbrev eo(n:Nat):ak:=.c (cat Try.f68 (pn n))
abbrev GH:Cx:=⟨Try.prog,72,M,w0⟩
abbrev BG:=bodyPost Try.prog Try.f68 (br M w0 (fun v s=>v=.ref 9∧dn s.o []∧look 9 s.r=some ⟨99,5,lm av r⟩))
abbrev nQ(ks:List ak)(s:AS):=VE (GH M w0) (BG M w0 r) ks .normal s
def FS:AS:=⟨[(0,.ref 9),(3,.ptr 3 0)],[(3,av v7)],[(9,⟨99,5,lm av v2⟩)],[3,9]⟩
def EB:AS:=⟨[(0,.ref 9),(3,.ptr 3 0),(64,.bool v6)],[(3,av v1)],[(9,⟨99,5,lm av v2⟩)],[3,9]⟩
def Dn:AS:=⟨[(0,.ref 9),(3,.ptr 3 0),(5,.bool (v1.Box.Style.WhiteSpace == 2)),(32,.bool v5)],[(3,av v1)],[(9,⟨99,5,lm av v2⟩)],[3,9]⟩
def Gq:AS:=⟨[(0,.ref 9),(3,.ptr 3 0),(5,.bool (v1.Box.Style.WhiteSpace == 2)),(24,.bool v4)],[(3,av v1)],[(9,⟨99,5,lm av v2⟩)],[3,9]⟩
def H6:AS:=⟨[(0,.ref 9),(3,.ptr 3 0),(5,.bool (v1.Box.Style.WhiteSpace == 2)),(19,.bool v3)],[(3,av v1)],[(9,⟨99,5,lm av v2⟩)],[3,9]⟩
variable{M w0 r v1 v2 v3 v4 v5 v6 v7}{K:Kn}{n:Nat}
theorem sD(hK:aj K)(h:iM K n v2 v7=some r):nQ M w0 r [.b 1,eo 31] (FS v2 v7):=by
 unfold iM at h;refine fM 6 7 4 (ag 3 ?_);obtain⟨h16,h⟩:=aQ h;refine ax (ct 71 9 99 5 av (rfl) (cN) h16) (ab (aD 1 ?_));cases h;exact fz
theorem si(hK:aj K)(h:ga K n v1 v2 v6=some r):nQ M w0 r [eo 15609,eo 7805,.b 1,eo 31] (EB v1 v2 v6):=by
 unfold ga at h;obtain⟨h15,h⟩|⟨h15,h⟩:=ah h
 ·refine ae 64 h15 (aD 7 ?_);cases h;exact fz
 ·exact ae 64 h15 (ac 3 (sD hK h))
theorem AP(hK:aj K)(h:lW K n v1 v2 v5=some r):nQ M w0 r [eo 487,.b 1,eo 31] (Dn v1 v2 v5):=by
 unfold lW at h;obtain⟨h9,h⟩|⟨h9,h⟩:=ah h
 ·refine ae 32 h9 (aD 6 ?_);cases h;exact fz
 ·refine ae 32 h9 (aU 7 3 ?_);obtain⟨h10,h⟩|⟨h10,h⟩:=ah h
  ·refine ae 40 h10 (bL 8 9 5 3 (ag 1 (ax (bu av v2) (aE 4 2 ?_))));obtain⟨h11,h⟩|⟨h11,h⟩:=ah h
   ·exact au 46 h11 (ab (ac 0 (si hK h)))
   ·refine au 46 h11 (aE 6 2 (ax (bu av v2) (aE 8 1 ?_)));obtain⟨h12,h⟩:=aQ h;refine ax (dh 9 5 av h12) (aE 10 1 (ax (cA 4 3 av av (db h12).2 ((fun _=>rfl))) (aE 13 2 ?_)));obtain⟨h13,h⟩|⟨h13,h⟩:=ah h
    ·exact au 55 h13 (ab (ac 0 (si hK h)))
    ·refine au 55 h13 (aE 15 2 (ax (bu av v2) (aE 17 1 ?_)));obtain⟨h14,h⟩:=aQ h;exact ax (dh 9 5 av h14) (aE 19 1 (ax (cA 3 0 av av (db h14).2 ((fun _=>rfl))) (ab (ac 0 (si hK h)))))
  ·exact ae 40 h10 (ac 2 (sD hK h))
theorem xf(hK:aj K)(h:kA K n v1 v2 v4=some r):nQ M w0 r [eo 121,.b 1,eo 31] (Gq v1 v2 v4):=by
 unfold kA at h;obtain⟨h7,h⟩|⟨h7,h⟩:=ah h
 ·exact ae 24 h7 (ac 2 (sD hK h))
 ·refine ae 24 h7 (aw 6 7 2 (ag 2 ?_));obtain⟨h8,h⟩|⟨h8,h⟩:=ah h
  ·exact au 34 h8 (ab (ac 0 (AP hK h)))
  ·exact au 34 h8 (ab (ac 0 (AP hK h)))
theorem qo(hK:aj K)(h:fl K n v1 v2 v3=some r):nQ M w0 r [eo 117,.b 0,eo 15] (H6 v1 v2 v3):=by
 unfold fl at h;obtain⟨h4,h⟩|⟨h4,h⟩:=ah h
 ·refine ae 19 h4 (b8 (ks':=[eo 120,eo 121,.b 1,eo 31]) 6 (ag 2 ?_));obtain⟨h6,h⟩|⟨h6,h⟩:=ah h
  ·exact au 26 h6 (ab (ac 0 (xf hK h)))
  ·exact au 26 h6 (ab (ac 0 (xf hK h)))
 ·refine ae 19 h4 (aw 6 7 2 (ag 3 ?_));obtain⟨h5,h⟩:=aQ h;refine ax (ct 18 9 99 5 av (rfl) (cN) h5) (ab (aD 3 ?_));cases h;exact fz
theorem Ib(hK:aj K)(h:nM K n v1 v2=some r):fY Try.prog 68 [.ref 9,.agg (av v1)] [] 9 ⟨99,5,lm av v2⟩ [9] (fun v s=>v=.ref 9∧dn s.o []∧look 9 s.r=some ⟨99,5,lm av r⟩):=by
 refine mE (c:=cat Try.f68 (pn 1)) Try.func68 (by kernel_rfl) _ Try.ntmps68 (of_decide_eq_true (by kernel_rfl)) fun M w0=>(ba ⟨[(0,.ref 9),(1,.agg (av v1))],[],[(9,⟨99,5,lm av v2⟩)],[9]⟩ ?_);unfold nM at h;refine cU 233 117 0 15 11 ?_;obtain⟨h1,h⟩|⟨h1,h⟩:=ah h
 ·exact ae 19 h1 (ac 2 (qo hK h))
 ·refine ae 19 h1 (aU 7 3 ?_);obtain⟨h2,h⟩|⟨h2,h⟩:=ah h
  ·exact ae 19 h2 (ac 2 (qo hK h))
  ·refine ae 19 h2 (aU 7 3 ?_);obtain⟨h3,h⟩|⟨h3,h⟩:=ah h
   ·exact ae 19 h3 (ac 2 (qo hK h))
   ·exact ae 19 h3 (ac 2 (qo hK h))
end
noncomputable section
variable(M:Nat→Prop)(w0:az)(r:Int×(List ao))(v1:List ai)(v2:Int)(v3:List ao)(v10:Nat)(v23 v24:Int)(v25:List ao)(v32 v36:Nat)(v37:List ao)(v41:Int)(v42:List ao)(v43:Int)(v44:List ao)(m1 m2:Nat)(L1:Int→Int→(List ao)→Option (Int×(List ao)))(L2:Nat→(List ao)→Option (Int×(List ao)))
abbrev mI:Cx:=⟨Try.prog,69,M,w0⟩
abbrev m8:=bodyPost Try.prog Try.f66 (br M w0 (fun v s=>v=.tup []∧dn s.o [(1,[iI r.1]),(2,[.fno 66 [.ptr 1 0,.ptr 2 0,.ptr 3 0]]),(3,[.ref 9])]∧look 9 s.r=some ⟨99,5,lm av r.2⟩))
abbrev qk(ks:List ak)(s:AS):=VE (mI M w0) (m8 M w0 r) ks .normal s
abbrev d9(n:Nat):ak:=.c (cat Try.f66 (pn n))
abbrev uC:List ak:=[.b 0]
abbrev gV:List ak:=kl (mI M w0) (m8 M w0 r) uC (cat Try.f66 (pn 12)) m1::uC
abbrev rg:List ak:=.b 3 :: .b 2 :: .b 1::d9 103::gV M w0 r m1
abbrev w6:List ak:=kl (mI M w0) (m8 M w0 r) (rg M w0 r m1) (cat Try.f66 (pn 26867700)) m2::(rg M w0 r m1)
def Gg:AS:=⟨[(0,.sl (lm aP v1)),(1,.ptr 1 0),(2,.ptr 2 0),(3,.ptr 3 0),(10,iI (v1.length:Int)),(11,iI v23)],[(1,[iI v43]),(2,[.fno 66 [.ptr 1 0,.ptr 2 0,.ptr 3 0]]),(3,[.ref 9])],[(9,⟨99,5,lm av v44⟩)],[1,2,3,9,1000001,1,1000002,2,1000003,3]⟩
def Gr:AS:=⟨[(0,.sl (lm aP v1)),(1,.ptr 1 0),(2,.ptr 2 0),(3,.ptr 3 0),(10,iI (v1.length:Int)),(11,iI v23)],[(1,[iI v41]),(2,[.fno 66 [.ptr 1 0,.ptr 2 0,.ptr 3 0]]),(3,[.ref 9])],[(9,⟨99,5,lm av v42⟩)],[1,2,3,9,1000001,1,1000002,2,1000003,3]⟩
def xC:AS:=⟨[(0,.sl (lm aP v1)),(1,.ptr 1 0),(2,.ptr 2 0),(3,.ptr 3 0),(6,.cptr (aV (gD v1 v23))),(10,iI (v1.length:Int)),(11,iI v23),(58,.sit 320058 v32 ((gD v1 v23).Text) v36)],[(1,[iI (aa (v24+1))]),(2,[.fno 66 [.ptr 1 0,.ptr 2 0,.ptr 3 0]]),(3,[.ref 9])],[(9,⟨99,5,lm av v37⟩)],[1,2,3,9,320058,1000001,1,1000002,2,1000003,3]⟩
def yx:AS:=⟨[(0,.sl (lm aP v1)),(1,.ptr 1 0),(2,.ptr 2 0),(3,.ptr 3 0),(10,iI (v1.length:Int)),(11,iI v23)],[(1,[iI v24]),(2,[.fno 66 [.ptr 1 0,.ptr 2 0,.ptr 3 0]]),(3,[.ref 9])],[(9,⟨99,5,lm av v25⟩)],[1,2,3,9,1000001,1,1000002,2,1000003,3]⟩
abbrev jO:Prop:=∀{v23:Int} {v24:Int} {v25:(List ao)},L1 v23 v24 v25=some r→LP (mI M w0) (m8 M w0 r) uC (cat Try.f66 (pn 12)) m1 (yx v1 v23 v24 v25)
abbrev yS:Prop:=∀{v36:Nat} {v37:(List ao)},L2 v36 v37=some r→LP (mI M w0) (m8 M w0 r) (rg M w0 r m1) (cat Try.f66 (pn 26867700)) m2 (xC v1 v23 v24 v32 v36 v37)
variable{M w0 r v1 v2 v3 v10 v23 v24 v25 v32 v36 v37 v41 v42 v43 v44 m1 m2 L1 L2}{K:Kn}{n:Nat}
theorem yp(hK:aj K)(hL1:jO M w0 r v1 m1 L1)(h:fJ K n v1 v23 L1 v43 v44=some r):qk M w0 r (d9 103::gV M w0 r m1) (Gg v1 v23 v43 v44):=by
 unfold fJ at h;exact ac 1 (bo (hL1 h))
theorem l6(hK:aj K)(hL1:jO M w0 r v1 m1 L1)(h:eZ K n v1 v23 L1 v41 v42=some r):qk M w0 r (.b 2 :: .b 1::d9 103::gV M w0 r m1) (Gr v1 v23 v41 v42):=by
 unfold eZ at h;exact ac 2 (yp hK hL1 h)
theorem GR(hK:aj K)(hv32:w0.w.heap.size≤v32)(hL1:jO M w0 r v1 m1 L1)(hL2:yS M w0 r v1 v23 v24 v32 m1 m2 L2)(h:lM K n v1 v23 v24 L1 L2 v36 v37=some r):qk M w0 r (d9 26867700::w6 M w0 r m1 m2) (xC v1 v23 v24 v32 v36 v37):=by
 unfold lM at h;refine aw 2 3 1 (ag 0 ?_);obtain⟨h43,h⟩|⟨h43,h⟩:=ah h
 ·refine rQ 58 (id:=320058) (g:=v32) h43 hv32 (ab ?_);obtain⟨v38,h44,h⟩:=bP h;obtain⟨v39,h45,h⟩:=bP h;refine bt (ks':=d9 429883213 :: .b 4::w6 M w0 r m1 m2) 6 ⟨[(0,.sl (lm aP v1)),(1,.ptr 1 0),(2,.ptr 2 0),(3,.ptr 3 0),(6,.cptr (aV (gD v1 v23))),(8,.int .i32 v38),(10,iI (v1.length:Int)),(11,iI v23),(58,.sit 320058 v32 ((gD v1 v23).Text) v39)],[(1,[iI (aa (v24+1))]),(2,[.fno 66 [.ptr 1 0,.ptr 2 0,.ptr 3 0]]),(3,[.ref 9])],[(9,⟨99,5,lm av v37⟩)],[1,2,3,9,320058,1000001,1,1000002,2,1000003,3]⟩ ?_ (by subst h45;subst h44;kernel_rfl);refine ag 5 ?_;obtain⟨v40,h46,h⟩:=bind_some h;exact gT 9 9 [] (Ib hK h46) (ab (ac 1 (bo (hL2 h))))
 ·exact tp 58 (id:=320058) (g:=v32) h43 (ab (ac 6 (l6 hK hL1 h)))
theorem Hs(hK:aj K)(hv32:w0.w.heap.size≤v32)(hL1:jO M w0 r v1 m1 L1)(m:Nat):yS M w0 r v1 v23 v24 v32 m1 m (jQ K n v1 v23 v24 L1 m):=by
 induction m with
 | zero=>intro v36 v37 h;cases h
 | succ m ih=>intro v36 v37 h;have h:lM K n v1 v23 v24 L1 (jQ K n v1 v23 v24 L1 m) v36 v37=some r:=h;exact bi (GR hK hv32 hL1 ih h)
theorem I0(hK:aj K)(hL1:jO M w0 r v1 m1 L1)(h:j2 K n v1 L1 v23 v24 v25=some r):qk M w0 r (d9 12::gV M w0 r m1) (yx v1 v23 v24 v25):=by
 unfold j2 at h;refine aw 6 7 3 ?_;obtain⟨h24,h⟩|⟨h24,h⟩:=ah h
 ·refine ae 12 h24 (cG 18 19 1 3 7 (ag 2 ?_));obtain⟨h25,h⟩:=aQ h;refine ax (bv aP aV h25 (ey) (dM)) (ab (bL 4 5 3 2 (ag 3 ?_)));obtain⟨v26,h26,h⟩:=bind_some h;refine aG (yN hK h26) (ab ?_);obtain⟨h27,h⟩|⟨h27,h⟩:=ah h
  ·exact ae 21 h27 (ac 4 (yp hK hL1 h))
  ·refine ae 21 h27 ?_;obtain⟨v27,h28,h⟩:=bP h;refine bt (ks':=d9 26237 :: .b 2 :: .b 1::d9 103::gV M w0 r m1) 9 ⟨[(0,.sl (lm aP v1)),(1,.ptr 1 0),(2,.ptr 2 0),(3,.ptr 3 0),(6,.cptr (aV (gD v1 v23))),(10,iI (v1.length:Int)),(11,iI v23),(27,iI ((gD v1 v23).Kind)),(28,.bool v27)],[(1,[iI (aa (v24+1))]),(2,[.fno 66 [.ptr 1 0,.ptr 2 0,.ptr 3 0]]),(3,[.ref 9])],[(9,⟨99,5,lm av v25⟩)],[1,2,3,9,1000001,1,1000002,2,1000003,3]⟩ ?_ (by subst h28;kernel_rfl);obtain⟨h29,h⟩|⟨h29,h⟩:=ah h
   ·refine ae 28 h29 (aU 2 1 (bJ [0,1,2,3,6,10,11] [1,2,3] [9] (Eo 5 0 [(30,.fno 66 [.ptr 1 0,.ptr 2 0,.ptr 3 0]),(31,.cptr (aV (gD v1 v23))),(32,.cptr (aV (gD v1 v23))),(33,.cptr (List.drop 58 (aV (gD v1 v23)))),(34,.sl (lm aP ((gD v1 v23).Kids)))] [] [] [] (aL (vz 5) (FI)) ?_)));obtain⟨v28,h30,h⟩:=bind_some h;exact gT 9 9 [(1,1),(2,2),(3,3)] (hK.o9 h30) (ab (ac 0 (l6 hK hL1 h)))
   ·refine ae 28 h29 ?_;obtain⟨v29,h31,h⟩:=bP h;refine bt (ks':=d9 104951 :: .b 2 :: .b 1::d9 103::gV M w0 r m1) 3 ⟨[(0,.sl (lm aP v1)),(1,.ptr 1 0),(2,.ptr 2 0),(3,.ptr 3 0),(6,.cptr (aV (gD v1 v23))),(10,iI (v1.length:Int)),(11,iI v23),(27,iI ((gD v1 v23).Kind)),(36,.bool v29)],[(1,[iI (aa (v24+1))]),(2,[.fno 66 [.ptr 1 0,.ptr 2 0,.ptr 3 0]]),(3,[.ref 9])],[(9,⟨99,5,lm av v25⟩)],[1,2,3,9,1000001,1,1000002,2,1000003,3]⟩ ?_ (by subst h31;kernel_rfl);obtain⟨h32,h⟩|⟨h32,h⟩:=ah h
    ·refine ae 36 h32 (aU 2 1 (ag 5 ?_));obtain⟨h33,h⟩:=aQ h;exact ax (ct 43 9 99 5 av (rfl) (cN) h33) (ab (ac 0 (l6 hK hL1 h)))
    ·refine ae 36 h32 ?_;obtain⟨v30,h34,h⟩:=bP h;refine bt (ks':=d9 419807 :: .b 2 :: .b 1::d9 103::gV M w0 r m1) 3 ⟨[(0,.sl (lm aP v1)),(1,.ptr 1 0),(2,.ptr 2 0),(3,.ptr 3 0),(6,.cptr (aV (gD v1 v23))),(10,iI (v1.length:Int)),(11,iI v23),(27,iI ((gD v1 v23).Kind)),(44,.bool v30)],[(1,[iI (aa (v24+1))]),(2,[.fno 66 [.ptr 1 0,.ptr 2 0,.ptr 3 0]]),(3,[.ref 9])],[(9,⟨99,5,lm av v25⟩)],[1,2,3,9,1000001,1,1000002,2,1000003,3]⟩ ?_ (by subst h34;kernel_rfl);obtain⟨h35,h⟩|⟨h35,h⟩:=ah h
     ·refine ae 44 h35 (aU 2 1 (ag 5 ?_));obtain⟨h36,h⟩:=aQ h;exact ax (ct 51 9 99 5 av (rfl) (cN) h36) (ab (ac 0 (l6 hK hL1 h)))
     ·refine ae 44 h35 ?_;obtain⟨v31,h37,h⟩:=bP h;refine bt (ks':=d9 1679231 :: .b 2 :: .b 1::d9 103::gV M w0 r m1) 3 ⟨[(0,.sl (lm aP v1)),(1,.ptr 1 0),(2,.ptr 2 0),(3,.ptr 3 0),(6,.cptr (aV (gD v1 v23))),(10,iI (v1.length:Int)),(11,iI v23),(52,.bool v31)],[(1,[iI (aa (v24+1))]),(2,[.fno 66 [.ptr 1 0,.ptr 2 0,.ptr 3 0]]),(3,[.ref 9])],[(9,⟨99,5,lm av v25⟩)],[1,2,3,9,1000001,1,1000002,2,1000003,3]⟩ ?_ (by subst h37;kernel_rfl);obtain⟨h38,h⟩|⟨h38,h⟩:=ah h
      ·exact ae 52 h38 (aw 4 5 2 (ag 4 (s8 320058 (b:=((gD v1 v23).Text)) fun v32 hv32=>(ab (ac 1 (cf (p:=pn 13433850) n (Hs hK (v32:=v32) hv32 hL1 n h)))))))
      ·exact ae 52 h38 (ac 2 (l6 hK hL1 h))
 ·refine ae 12 h24 (b8 (ks':=[]) 5 (IA ?_));cases h;exact uL
theorem Cl(hK:aj K)(m:Nat):jO M w0 r v1 m (ji K n v1 m):=by
 induction m with
 | zero=>intro v23 v24 v25 h;cases h
 | succ m ih=>intro v23 v24 v25 h;have h:j2 K n v1 (ji K n v1 m) v23 v24 v25=some r:=h;exact bi (I0 hK ih h)
theorem vB(hK:aj K)(h:fL K n v1 v2 v3=some r):fY Try.prog 66 [.sl (lm aP v1),.ptr 1 0,.ptr 2 0,.ptr 3 0] [(1,[iI v2]),(2,[.fno 66 [.ptr 1 0,.ptr 2 0,.ptr 3 0]]),(3,[.ref 9])] 9 ⟨99,5,lm av v3⟩ [9,1,2,3,1000001,1000002,1000003] (fun v s=>v=.tup []∧dn s.o [(1,[iI r.1]),(2,[.fno 66 [.ptr 1 0,.ptr 2 0,.ptr 3 0]]),(3,[.ref 9])]∧look 9 s.r=some ⟨99,5,lm av r.2⟩):=by
 refine mE (c:=cat Try.f66 (pn 1)) Try.func66 (by kernel_rfl) _ Try.ntmps66 (of_decide_eq_true (by kernel_rfl)) fun M w0=>(ba ⟨[(0,.sl (lm aP v1)),(1,.ptr 1 0),(2,.ptr 2 0),(3,.ptr 3 0)],[(1,[iI v2]),(2,[.fno 66 [.ptr 1 0,.ptr 2 0,.ptr 3 0]]),(3,[.ref 9])],[(9,⟨99,5,lm av v3⟩)],[9,1,2,3,1000001,1000002,1000003]⟩ ?_);unfold fL at h;exact aw 2 3 1 (ag 1 (ax (bu aP v1) (ab (ac 1 (cf (p:=pn 6) n (Cl hK n h))))))
end
noncomputable section
variable(M:Nat→Prop)(w0:az)(r:List ao)(v1:List ai)  
variable{M w0 r v1}{K:Kn}{n:Nat}
theorem Ez(hK:aj K)(h:mh K n v1=some r):aN Try.prog 55 [.sl (lm aP v1)] (fun v s=>v=.ref 400003∧look 400003 s.r=some ⟨99,5,lm av r⟩):=by
 refine bd (cat Try.f55 (pn 1)) Try.func55 Try.ntmps55 fun M w0=>(ba ⟨[(0,.sl (lm aP v1))],[],[],[]⟩ ?_);unfold mh at h;refine aw 62 63 9 (ag 0 (Ei 66 #[(.tmp 4),(.tmp 5),(.tmp 3)] [.ptr 4 0,.ptr 5 0,.ptr 3 0] (ab (aw 2 3 1 (ag 2 (HM 400003 3 0 99 5 ?_))))));obtain⟨v2,h1,h⟩:=bind_some h;refine gT 400003 9 [(4,1),(5,2),(3,3)] (vB hK h1) (ab (aD 3 ?_));cases h;exact eu
end
noncomputable section
variable(M:Nat→Prop)(w0:az)(r:Bool)(v1:ao)(v2:Bool)  
abbrev Cy(n:Nat):ak:=.c (cat Try.f69 (pn n))
abbrev Gb:Cx:=⟨Try.prog,24,M,w0⟩
abbrev CY:=bodyPost Try.prog Try.f69 (br M w0 (fun v _=>v=.bool r))
abbrev Dl(ks:List ak)(s:AS):=VE (Gb M w0) (CY M w0 r) ks .normal s
def Fc:AS:=⟨[(2,.bool v2)],[],[],[]⟩
variable{M w0 r v1 v2}{K:Kn}{n:Nat}
theorem sH(hK:aj K)(h:lv K n v2=some r):Dl M w0 r [Cy 7] (Fc v2):=by
 unfold lv at h;refine aD 1 ?_;cases h;exact aZ
theorem mb(hK:aj K)(h:fN K n v1=some r):aN Try.prog 69 [.agg (av v1)] (fun v _=>v=.bool r):=by
 refine bd (cat Try.f69 (pn 1)) Try.func69 Try.ntmps69 fun M w0=>(ba ⟨[(0,.agg (av v1))],[],[],[]⟩ ?_);unfold fN at h;refine aw 6 7 3 (ag 4 ?_);obtain⟨h1,h⟩|⟨h1,h⟩:=ah h
 ·refine au 6 h1 (aE 13 9 ?_);obtain⟨h2,h⟩|⟨h2,h⟩:=ah h
  ·exact au 15 h2 (ab (ac 0 (sH hK h)))
  ·exact au 15 h2 (ab (ac 0 (sH hK h)))
 ·exact au 6 h1 (ab (ac 0 (sH hK h)))
end
noncomputable section
variable(M:Nat→Prop)(w0:az)(r v1:Int)(v2 v3 v4 v5 v6:Bool)  
abbrev dL(n:Nat):ak:=.c (cat Try.f85 (pn n))
abbrev DN:Cx:=⟨Try.prog,73,M,w0⟩
abbrev ES:=bodyPost Try.prog Try.f85 (br M w0 (fun v _=>v=iI r))
abbrev nU(ks:List ak)(s:AS):=VE (DN M w0) (ES M w0 r) ks .normal s
def DG:AS:=⟨[(72,.bool v6)],[],[],[]⟩
def BI:AS:=⟨[(0,.int .i32 v1),(60,.bool v5)],[],[],[]⟩
def F7:AS:=⟨[(0,.int .i32 v1),(29,.int .i32 v1),(44,.bool v4)],[],[],[]⟩
def Fy:AS:=⟨[(0,.int .i32 v1),(29,.int .i32 v1),(30,.bool v3)],[],[],[]⟩
def Js:AS:=⟨[(0,.int .i32 v1),(3,.bool v2)],[],[],[]⟩
variable{M w0 r v1 v2 v3 v4 v5 v6}{K:Kn}{n:Nat}
theorem zY(hK:aj K)(h:mq K n v6=some r):nU M w0 r [dL 61,dL 31] (DG v6):=by
 unfold mq at h;obtain⟨h44,h⟩|⟨h44,h⟩:=ah h
 ·refine ae 72 h44 (aD 5 ?_);cases h;exact aZ
 ·refine ae 72 h44 (aD 5 ?_);cases h;exact aZ
theorem lj(hK:aj K)(h:fS K n v1 v5=some r):nU M w0 r [dL 1887,.b 1,dL 15] (BI v1 v5):=by
 unfold fS at h;obtain⟨h42,h⟩|⟨h42,h⟩:=ah h
 ·refine ae 60 h42 (aD 6 ?_);cases h;exact aZ
 ·refine ae 60 h42 (b8 (ks':=[dL 60,dL 61,dL 31]) 5 (ag 3 ?_));obtain⟨h43,h⟩|⟨h43,h⟩:=ah h
  ·exact au 69 h43 (ab (ac 0 (zY hK h)))
  ·exact au 69 h43 (ab (ac 0 (zY hK h)))
theorem dN(hK:aj K)(h:di K n v1 v4=some r):nU M w0 r [dL 471,.b 1,dL 15] (F7 v1 v4):=by
 unfold di at h;obtain⟨h36,h⟩|⟨h36,h⟩:=ah h
 ·refine ae 44 h36 (aD 6 ?_);cases h;exact aZ
 ·refine ae 44 h36 (aw 13 7 4 ?_);obtain⟨h37,h⟩|⟨h37,h⟩:=ah h
  ·exact ae 60 h37 (ac 2 (lj hK h))
  ·refine ae 60 h37 (aU 7 3 ?_);obtain⟨h38,h⟩|⟨h38,h⟩:=ah h
   ·exact ae 60 h38 (ac 2 (lj hK h))
   ·refine ae 60 h38 (aU 7 3 ?_);obtain⟨h39,h⟩|⟨h39,h⟩:=ah h
    ·exact ae 60 h39 (ac 2 (lj hK h))
    ·refine ae 60 h39 (aU 7 3 ?_);obtain⟨h40,h⟩|⟨h40,h⟩:=ah h
     ·exact ae 60 h40 (ac 2 (lj hK h))
     ·refine ae 60 h40 (aU 7 3 ?_);obtain⟨h41,h⟩|⟨h41,h⟩:=ah h
      ·exact ae 60 h41 (ac 2 (lj hK h))
      ·exact ae 60 h41 (ac 2 (lj hK h))
theorem em(hK:aj K)(h:dI K n v1 v3=some r):nU M w0 r [dL 117,.b 1,dL 15] (Fy v1 v3):=by
 unfold dI at h;obtain⟨h21,h⟩|⟨h21,h⟩:=ah h
 ·refine ae 30 h21 (aD 6 ?_);cases h;exact aZ
 ·refine ae 30 h21 (aw 13 7 4 ?_);obtain⟨h22,h⟩|⟨h22,h⟩:=ah h
  ·exact ae 44 h22 (ac 2 (dN hK h))
  ·refine ae 44 h22 (aU 7 3 ?_);obtain⟨h23,h⟩|⟨h23,h⟩:=ah h
   ·exact ae 44 h23 (ac 2 (dN hK h))
   ·refine ae 44 h23 (aU 7 3 ?_);obtain⟨h24,h⟩|⟨h24,h⟩:=ah h
    ·exact ae 44 h24 (ac 2 (dN hK h))
    ·refine ae 44 h24 (aU 7 3 ?_);obtain⟨h25,h⟩|⟨h25,h⟩:=ah h
     ·exact ae 44 h25 (ac 2 (dN hK h))
     ·refine ae 44 h25 (aU 7 3 ?_);obtain⟨h26,h⟩|⟨h26,h⟩:=ah h
      ·exact ae 44 h26 (ac 2 (dN hK h))
      ·refine ae 44 h26 (aU 7 3 ?_);obtain⟨h27,h⟩|⟨h27,h⟩:=ah h
       ·exact ae 44 h27 (ac 2 (dN hK h))
       ·refine ae 44 h27 (aU 7 3 ?_);obtain⟨h28,h⟩|⟨h28,h⟩:=ah h
        ·exact ae 44 h28 (ac 2 (dN hK h))
        ·refine ae 44 h28 (aU 7 3 ?_);obtain⟨h29,h⟩|⟨h29,h⟩:=ah h
         ·exact ae 44 h29 (ac 2 (dN hK h))
         ·refine ae 44 h29 (aU 7 3 ?_);obtain⟨h30,h⟩|⟨h30,h⟩:=ah h
          ·exact ae 44 h30 (ac 2 (dN hK h))
          ·refine ae 44 h30 (aU 7 3 ?_);obtain⟨h31,h⟩|⟨h31,h⟩:=ah h
           ·exact ae 44 h31 (ac 2 (dN hK h))
           ·refine ae 44 h31 (aU 7 3 ?_);obtain⟨h32,h⟩|⟨h32,h⟩:=ah h
            ·exact ae 44 h32 (ac 2 (dN hK h))
            ·refine ae 44 h32 (aU 7 3 ?_);obtain⟨h33,h⟩|⟨h33,h⟩:=ah h
             ·exact ae 44 h33 (ac 2 (dN hK h))
             ·refine ae 44 h33 (aU 7 3 ?_);obtain⟨h34,h⟩|⟨h34,h⟩:=ah h
              ·exact ae 44 h34 (ac 2 (dN hK h))
              ·refine ae 44 h34 (aU 7 3 ?_);obtain⟨h35,h⟩|⟨h35,h⟩:=ah h
               ·exact ae 44 h35 (ac 2 (dN hK h))
               ·exact ae 44 h35 (ac 2 (dN hK h))
theorem iL(hK:aj K)(h:fi K n v1 v2=some r):nU M w0 r [dL 25,.b 0,dL 7] (Js v1 v2):=by
 unfold fi at h;obtain⟨h7,h⟩|⟨h7,h⟩:=ah h
 ·refine ae 3 h7 (aD 6 ?_);cases h;exact aZ
 ·refine ae 3 h7 (aU 7 3 ?_);obtain⟨h8,h⟩|⟨h8,h⟩:=ah h
  ·refine ae 26 h8 (aD 6 ?_);cases h;exact aZ
  ·refine ae 26 h8 (b8 (ks':=[dL 233,dL 117,.b 1,dL 15]) 10 ?_);obtain⟨h9,h⟩|⟨h9,h⟩:=ah h
   ·exact ae 30 h9 (ac 2 (em hK h))
   ·refine ae 30 h9 (aU 7 3 ?_);obtain⟨h10,h⟩|⟨h10,h⟩:=ah h
    ·exact ae 30 h10 (ac 2 (em hK h))
    ·refine ae 30 h10 (aU 7 3 ?_);obtain⟨h11,h⟩|⟨h11,h⟩:=ah h
     ·exact ae 30 h11 (ac 2 (em hK h))
     ·refine ae 30 h11 (aU 7 3 ?_);obtain⟨h12,h⟩|⟨h12,h⟩:=ah h
      ·exact ae 30 h12 (ac 2 (em hK h))
      ·refine ae 30 h12 (aU 7 3 ?_);obtain⟨h13,h⟩|⟨h13,h⟩:=ah h
       ·exact ae 30 h13 (ac 2 (em hK h))
       ·refine ae 30 h13 (aU 7 3 ?_);obtain⟨h14,h⟩|⟨h14,h⟩:=ah h
        ·exact ae 30 h14 (ac 2 (em hK h))
        ·refine ae 30 h14 (aU 7 3 ?_);obtain⟨h15,h⟩|⟨h15,h⟩:=ah h
         ·exact ae 30 h15 (ac 2 (em hK h))
         ·refine ae 30 h15 (aU 7 3 ?_);obtain⟨h16,h⟩|⟨h16,h⟩:=ah h
          ·exact ae 30 h16 (ac 2 (em hK h))
          ·refine ae 30 h16 (aU 7 3 ?_);obtain⟨h17,h⟩|⟨h17,h⟩:=ah h
           ·exact ae 30 h17 (ac 2 (em hK h))
           ·refine ae 30 h17 (aU 7 3 ?_);obtain⟨h18,h⟩|⟨h18,h⟩:=ah h
            ·exact ae 30 h18 (ac 2 (em hK h))
            ·refine ae 30 h18 (aU 7 3 ?_);obtain⟨h19,h⟩|⟨h19,h⟩:=ah h
             ·exact ae 30 h19 (ac 2 (em hK h))
             ·refine ae 30 h19 (aU 7 3 ?_);obtain⟨h20,h⟩|⟨h20,h⟩:=ah h
              ·exact ae 30 h20 (ac 2 (em hK h))
              ·exact ae 30 h20 (ac 2 (em hK h))
theorem Av(hK:aj K)(h:fB K n v1=some r):aN Try.prog 85 [.int .i32 v1] (fun v _=>v=iI r):=by
 refine bd (cat Try.f85 (pn 1)) Try.func85 Try.ntmps85 fun M w0=>(ba ⟨[(0,.int .i32 v1)],[],[],[]⟩ ?_);unfold fB at h;refine cU 24 25 0 7 5 (ag 3 ?_);obtain⟨h1,h⟩|⟨h1,h⟩:=ah h
 ·exact au 6 h1 (ab (ac 0 (iL hK h)))
 ·refine au 6 h1 (aE 7 4 ?_);obtain⟨h2,h⟩|⟨h2,h⟩:=ah h
  ·exact au 10 h2 (ab (ac 0 (iL hK h)))
  ·refine au 10 h2 (aE 10 3 ?_);obtain⟨h3,h⟩|⟨h3,h⟩:=ah h
   ·refine au 13 h3 (aE 15 5 ?_);obtain⟨h4,h⟩|⟨h4,h⟩:=ah h
    ·exact au 18 h4 (ab (ac 0 (iL hK h)))
    ·refine au 18 h4 (aE 18 3 ?_);obtain⟨h5,h⟩|⟨h5,h⟩:=ah h
     ·exact au 21 h5 (ab (ac 0 (iL hK h)))
     ·exact au 21 h5 (ab (ac 0 (iL hK h)))
   ·refine au 13 h3 (aE 18 8 ?_);obtain⟨h6,h⟩|⟨h6,h⟩:=ah h
    ·exact au 21 h6 (ab (ac 0 (iL hK h)))
    ·exact au 21 h6 (ab (ac 0 (iL hK h)))
end
noncomputable section
variable(M:Nat→Prop)(w0:az)(r:Bool)(v1:Int)(v2:Bool)  
abbrev vN(n:Nat):ak:=.c (cat Try.f87 (pn n))
abbrev Ec:Cx:=⟨Try.prog,9,M,w0⟩
abbrev HZ:=bodyPost Try.prog Try.f87 (br M w0 (fun v _=>v=.bool r))
abbrev Hd(ks:List ak)(s:AS):=VE (Ec M w0) (HZ M w0 r) ks .normal s
def Gp:AS:=⟨[(4,.bool v2)],[],[],[]⟩
variable{M w0 r v1 v2}{K:Kn}{n:Nat}
theorem oP(hK:aj K)(h:iJ K n v2=some r):Hd M w0 r [vN 53,.b 0,vN 7] (Gp v2):=by
 unfold iJ at h;obtain⟨h4,h⟩|⟨h4,h⟩:=ah h
 ·refine ae 4 h4 (aD 6 ?_);cases h;exact aZ
 ·refine ae 4 h4 (aD 6 ?_);cases h;exact aZ
theorem xu(hK:aj K)(h:lx K n v1=some r):aN Try.prog 87 [.int .i32 v1] (fun v _=>v=.bool r):=by
 refine bd (cat Try.f87 (pn 1)) Try.func87 Try.ntmps87 fun M w0=>(ba ⟨[(0,.int .i32 v1)],[],[],[]⟩ ?_);unfold lx at h;refine cU 105 53 0 7 9 ?_;obtain⟨h1,h⟩|⟨h1,h⟩:=ah h
 ·exact ae 4 h1 (ac 2 (oP hK h))
 ·refine ae 4 h1 (aU 7 3 ?_);obtain⟨h2,h⟩|⟨h2,h⟩:=ah h
  ·exact ae 4 h2 (ac 2 (oP hK h))
  ·refine ae 4 h2 (aU 7 3 ?_);obtain⟨h3,h⟩|⟨h3,h⟩:=ah h
   ·exact ae 4 h3 (ac 2 (oP hK h))
   ·exact ae 4 h3 (ac 2 (oP hK h))
end
noncomputable section
variable(M:Nat→Prop)(w0:az)(r:Bool)(v1 v2:Int)(v5 v7 v8:Bool)  
abbrev jc(n:Nat):ak:=.c (cat Try.f82 (pn n))
abbrev B7:Cx:=⟨Try.prog,29,M,w0⟩
abbrev Jm:=bodyPost Try.prog Try.f82 (br M w0 (fun v _=>v=.bool r))
abbrev tv(ks:List ak)(s:AS):=VE (B7 M w0) (Jm M w0 r) ks .normal s
def EO:AS:=⟨[(4,.bool v8)],[],[],[]⟩
def Hw:AS:=⟨[(0,.int .i32 v1),(1,.int .i32 v2),(16,.bool v7)],[],[],[]⟩
def B4:AS:=⟨[(0,.int .i32 v1),(1,.int .i32 v2),(5,.bool v5)],[],[],[]⟩
variable{M w0 r v1 v2 v5 v7 v8}{K:Kn}{n:Nat}
theorem yu(hK:aj K)(h:nL K n v8=some r):tv M w0 r [jc 15] (EO v8):=by
 unfold nL at h;refine aD 1 ?_;cases h;exact aZ
theorem xq(hK:aj K)(h:mi K n v1 v2 v7=some r):tv M w0 r [jc 415,.b 0,jc 7] (Hw v1 v2 v7):=by
 unfold mi at h;obtain⟨h8,h⟩|⟨h8,h⟩:=ah h
 ·refine ae 16 h8 (aD 6 ?_);cases h;exact aZ
 ·refine ae 16 h8 (b8 (ks':=[jc 14,jc 15]) 4 (ag 3 ?_));obtain⟨h9,h⟩|⟨h9,h⟩:=ah h
  ·exact au 25 h9 (ab (ac 0 (yu hK h)))
  ·exact au 25 h9 (ab (ac 0 (yu hK h)))
theorem vT(hK:aj K)(h:iY K n v1 v2 v5=some r):tv M w0 r [jc 25,.b 0,jc 7] (B4 v1 v2 v5):=by
 unfold iY at h;obtain⟨h4,h⟩|⟨h4,h⟩:=ah h
 ·refine ae 5 h4 (aD 6 ?_);cases h;exact aZ
 ·refine ae 5 h4 (aw 6 7 2 (ag 1 ?_));obtain⟨v6,h5,h⟩:=bind_some h;refine aG (xu hK h5) (ab ?_);obtain⟨h6,h⟩|⟨h6,h⟩:=ah h
  ·refine ae 13 h6 (aD 6 ?_);cases h;exact aZ
  ·refine ae 13 h6 (aw 6 7 2 (ag 3 ?_));obtain⟨h7,h⟩|⟨h7,h⟩:=ah h
   ·exact au 19 h7 (ab (ac 0 (xq hK h)))
   ·exact au 19 h7 (ab (ac 0 (xq hK h)))
theorem DY(hK:aj K)(h:na K n v1 v2=some r):aN Try.prog 82 [.int .i32 v1,.int .i32 v2] (fun v _=>v=.bool r):=by
 refine bd (cat Try.f82 (pn 1)) Try.func82 Try.ntmps82 fun M w0=>(ba ⟨[(0,.int .i32 v1),(1,.int .i32 v2)],[],[],[]⟩ ?_);unfold na at h;refine cU 24 25 0 7 5 (ag 1 ?_);obtain⟨v3,h1,h⟩:=bind_some h;refine aG (xu hK h1) (aE 3 1 ?_);obtain⟨h2,h⟩|⟨h2,h⟩:=ah h
 ·exact au 8 h2 (ab (ac 0 (vT hK h)))
 ·refine au 8 h2 (aE 4 1 ?_);obtain⟨v4,h3,h⟩:=bind_some h;exact aG (Av hK h3) (ab (ac 0 (vT hK h)))
end
noncomputable section
variable(M:Nat→Prop)(w0:az)(r:List Int)(v1:ByteArray)(v2:Nat)(v9:Int)(v10:Nat)(v11:List Int)(v13:Bool)(v14:List Int)(m1:Nat)(L1:Int→Nat→(List Int)→Option (List Int))
abbrev uU:Cx:=⟨Try.prog,26,M,w0⟩
abbrev s7:=bodyPost Try.prog Try.f70 (br M w0 (fun v s=>v=.ref 23∧look 23 s.r=some ⟨3,1,lm (aW .i64) r⟩))
abbrev ri(ks:List ak)(s:AS):=VE (uU M w0) (s7 M w0 r) ks .normal s
abbrev gH(n:Nat):ak:=.c (cat Try.f70 (pn n))
abbrev vi:List ak:=[.b 0,gH 31]
abbrev oB:List ak:=kl (uU M w0) (s7 M w0 r) vi (cat Try.f70 (pn 244)) m1::vi
def I7:AS:=⟨[(3,.ref 23),(6,.int .i32 ((Utf8.decode v1 v10).1:Int)),(8,.sit 320008 v2 v1 (v10+(Utf8.decode v1 v10).2))],[],[(23,⟨3,1,lm (aW .i64) v14⟩)],[23,320008]⟩
def Cr:AS:=⟨[(3,.ref 23),(5,iI ((v10:Nat):Int)),(6,.int .i32 ((Utf8.decode v1 v10).1:Int)),(8,.sit 320008 v2 v1 (v10+(Utf8.decode v1 v10).2)),(19,.bool v13)],[],[(23,⟨3,1,lm (aW .i64) v11⟩)],[23,320008]⟩
def Ay:AS:=⟨[(3,.ref 23),(4,.int .i32 v9),(8,.sit 320008 v2 v1 v10)],[],[(23,⟨3,1,lm (aW .i64) v11⟩)],[23,320008]⟩
abbrev oW:Prop:=∀{v9:Int} {v10:Nat} {v11:(List Int)},L1 v9 v10 v11=some r→LP (uU M w0) (s7 M w0 r) vi (cat Try.f70 (pn 244)) m1 (Ay v1 v2 v9 v10 v11)
variable{M w0 r v1 v2 v9 v10 v11 v13 v14 m1 L1}{K:Kn}{n:Nat}
theorem wu(hK:aj K)(hv2:w0.w.heap.size≤v2)(hL1:oW M w0 r v1 v2 m1 L1)(h:iA K n v1 v10 L1 v14=some r):ri M w0 r (gH 7835 :: .b 1::oB M w0 r m1) (I7 v1 v2 v10 v14):=by
 unfold iA at h;exact ac 2 (bo (hL1 h))
theorem Ab(hK:aj K)(hv2:w0.w.heap.size≤v2)(hL1:oW M w0 r v1 v2 m1 L1)(h:jd K n v1 v10 v11 L1 v13=some r):ri M w0 r (gH 15669::gH 7835 :: .b 1::oB M w0 r m1) (Cr v1 v2 v10 v11 v13):=by
 unfold jd at h;obtain⟨h14,h⟩|⟨h14,h⟩:=ah h
 ·refine ae 19 h14 (aU 2 1 (ag 3 ?_));obtain⟨h15,h⟩:=aQ h;exact ax (ct 23 23 3 1 (aW .i64) (rfl) ((fun _=>rfl)) h15) (ab (ac 0 (wu hK (v2:=v2) hv2 hL1 h)))
 ·exact ae 19 h14 (ac 2 (wu hK (v2:=v2) hv2 hL1 h))
theorem Jy(hK:aj K)(hv2:w0.w.heap.size≤v2)(hL1:oW M w0 r v1 v2 m1 L1)(h:fu K n v1 L1 v9 v10 v11=some r):ri M w0 r (gH 244::oB M w0 r m1) (Ay v1 v2 v9 v10 v11):=by
 unfold fu at h;refine aw 2 3 1 (ag 0 ?_);obtain⟨h11,h⟩|⟨h11,h⟩:=ah h
 ·refine rQ 8 (id:=320008) (g:=v2) h11 hv2 (ab (b8 (ks':=gH 15668::gH 15669::gH 7835 :: .b 1::oB M w0 r m1) 8 (ag 3 ?_)));obtain⟨h12,h⟩|⟨h12,h⟩:=ah h
  ·refine au 15 h12 (aE 5 2 ?_);obtain⟨v12,h13,h⟩:=bind_some h;exact aG (DY hK h13) (ab (ac 0 (Ab hK (v2:=v2) hv2 hL1 h)))
  ·exact au 15 h12 (ab (ac 0 (Ab hK (v2:=v2) hv2 hL1 h)))
 ·refine tp 8 (id:=320008) (g:=v2) h11 (ab (aD 9 ?_));cases h;exact eu
theorem Hk(hK:aj K)(hv2:w0.w.heap.size≤v2)(m:Nat):oW M w0 r v1 v2 m (il K n v1 m):=by
 induction m with
 | zero=>intro v9 v10 v11 h;cases h
 | succ m ih=>intro v9 v10 v11 h;have h:fu K n v1 (il K n v1 m) v9 v10 v11=some r:=h;exact bi (Jy hK hv2 ih h)
theorem G6(hK:aj K)(h:nd K n v1=some r):aN Try.prog 70 [.str v1] (fun v s=>v=.ref 23∧look 23 s.r=some ⟨3,1,lm (aW .i64) r⟩):=by
 refine bd (cat Try.f70 (pn 1)) Try.func70 Try.ntmps70 fun M w0=>(ba ⟨[(0,.str v1)],[],[],[]⟩ ?_);unfold nd at h;exact bL 60 61 31 8 (ag 1 (s8 320008 (b:=v1) fun v2 hv2=>(ab (fQ 2 0 1 (bJ [3,4,8] [] [] (fr 23 3 3 1 (ac 0 (cf (p:=pn 122) n (Hk hK (v2:=v2) hv2 n h)))))))))
end
noncomputable section
variable(M:Nat→Prop)(w0:az)(r:Bool)(v1 v2:ao)(v3 v7 v10:Bool)  
abbrev jT(n:Nat):ak:=.c (cat Try.f56 (pn n))
abbrev G8:Cx:=⟨Try.prog,61,M,w0⟩
abbrev JS:=bodyPost Try.prog Try.f56 (br M w0 (fun v _=>v=.bool r))
abbrev rW(ks:List ak)(s:AS):=VE (G8 M w0) (JS M w0 r) ks .normal s
def Ce:AS:=⟨[(4,.bool v7)],[],[],[]⟩
def EF:AS:=⟨[(2,.ptr 2 0),(3,.ptr 3 0),(51,.bool v10)],[(2,av v1),(3,av v2)],[],[2,3]⟩
def E1:AS:=⟨[(2,.ptr 2 0),(3,.ptr 3 0),(12,.bool v3)],[(2,av v1),(3,av v2)],[],[2,3]⟩
variable{M w0 r v1 v2 v3 v7 v10}{K:Kn}{n:Nat}
theorem mr(hK:aj K)(h:ik K n v7=some r):rW M w0 r [jT 53,jT 7] (Ce v7):=by
 unfold ik at h;refine aD 2 ?_;cases h;exact aZ
theorem nS(hK:aj K)(h:fv K n v1 v2 v10=some r):rW M w0 r [jT 29,jT 15] (EF v1 v2 v10):=by
 unfold fv at h;obtain⟨h16,h⟩|⟨h16,h⟩:=ah h
 ·refine ae 51 h16 (aD 5 ?_);cases h;exact aZ
 ·refine ae 51 h16 (fM 2 3 3 (ag 6 ?_));obtain⟨v11,h17,h⟩:=bind_some h;refine eh 1058 (G6 hK h17) (eO 23) (ax (bu (aW .i64) v11) (ab (aD 1 ?_)));cases h;exact aZ
theorem xO(hK:aj K)(h:g8 K n v1 v2 v3=some r):rW M w0 r [jT 13,jT 7] (E1 v1 v2 v3):=by
 unfold g8 at h;obtain⟨h2,h⟩|⟨h2,h⟩:=ah h
 ·refine ae 12 h2 (aw 4 5 2 (ag 4 ?_));obtain⟨h3,h⟩|⟨h3,h⟩:=ah h
  ·refine au 16 h3 (aE 12 8 ?_);obtain⟨h4,h⟩|⟨h4,h⟩:=ah h
   ·exact au 24 h4 (ab (ac 0 (mr hK h)))
   ·refine au 24 h4 (aE 13 1 ?_);obtain⟨v4,h5,h⟩:=bind_some h;exact aG (mb hK h5) (ab (ac 0 (mr hK h)))
  ·refine au 16 h3 (aE 5 1 ?_);obtain⟨v5,h6,h⟩:=bind_some h;refine aG (mb hK h6) (aE 8 2 ?_);obtain⟨h7,h⟩|⟨h7,h⟩:=ah h
   ·refine au 20 h7 (aE 12 4 ?_);obtain⟨h8,h⟩|⟨h8,h⟩:=ah h
    ·exact au 24 h8 (ab (ac 0 (mr hK h)))
    ·refine au 24 h8 (aE 13 1 ?_);obtain⟨v6,h9,h⟩:=bind_some h;exact aG (mb hK h9) (ab (ac 0 (mr hK h)))
   ·exact au 20 h7 (ab (ac 0 (mr hK h)))
 ·refine ae 12 h2 (l8 4 5 3 4 (ag 4 ?_));obtain⟨h10,h⟩|⟨h10,h⟩:=ah h
  ·exact au 32 h10 (ab (ac 0 (nS hK h)))
  ·refine au 32 h10 (aE 9 5 ?_);obtain⟨h11,h⟩|⟨h11,h⟩:=ah h
   ·exact au 37 h11 (ab (ac 0 (nS hK h)))
   ·refine au 37 h11 (aE 10 1 ?_);obtain⟨v8,h12,h⟩:=bind_some h;refine aG (mb hK h12) (aE 14 3 ?_);obtain⟨h13,h⟩|⟨h13,h⟩:=ah h
    ·exact au 42 h13 (ab (ac 0 (nS hK h)))
    ·refine au 42 h13 (aE 18 4 ?_);obtain⟨h14,h⟩|⟨h14,h⟩:=ah h
     ·refine au 46 h14 (aE 19 1 ?_);obtain⟨v9,h15,h⟩:=bind_some h;exact aG (mb hK h15) (ab (ac 0 (nS hK h)))
     ·exact au 46 h14 (ab (ac 0 (nS hK h)))
theorem wy(hK:aj K)(h:kP K n v1 v2=some r):aN Try.prog 56 [.agg (av v1),.agg (av v2)] (fun v _=>v=.bool r):=by
 refine bd (cat Try.f56 (pn 1)) Try.func56 Try.ntmps56 fun M w0=>(ba ⟨[(0,.agg (av v1)),(1,.agg (av v2))],[],[],[]⟩ ?_);unfold kP at h;refine bL 12 13 7 4 (ag 4 ?_);obtain⟨h1,h⟩|⟨h1,h⟩:=ah h
 ·exact au 8 h1 (ab (ac 0 (xO hK h)))
 ·exact au 8 h1 (ab (ac 0 (xO hK h)))
end
noncomputable section
variable(M:Nat→Prop)(w0:az)(r:List Int)(v1:Int)(v2:List Int)(v3 v4:Bool)  
abbrev AL(n:Nat):ak:=.c (cat Try.f89 (pn n))
abbrev FK:Cx:=⟨Try.prog,78,M,w0⟩
abbrev I5:=bodyPost Try.prog Try.f89 (br M w0 (fun v s=>v=.ref 9∧dn s.o []∧look 9 s.r=some ⟨5,1,lm (aW .u8) r⟩))
abbrev yC(ks:List ak)(s:AS):=VE (FK M w0) (I5 M w0 r) ks .normal s
def Bp:AS:=⟨[(0,.ref 9),(1,.int .i32 v1),(50,.bool v4)],[],[(9,⟨5,1,lm (aW .u8) v2⟩)],[9]⟩
def C1:AS:=⟨[(0,.ref 9),(1,.int .i32 v1),(5,.int .u32 (IntKind.wrap .u32 v1)),(25,.bool v3)],[],[(9,⟨5,1,lm (aW .u8) v2⟩)],[9]⟩
variable{M w0 r v1 v2 v3 v4}{K:Kn}{n:Nat}
theorem zU(hK:aj K)(h:n4 K n v1 v2 v4=some r):yC M w0 r [AL 479,.b 0] (Bp v1 v2 v4):=by
 unfold n4 at h;obtain⟨h8,h⟩|⟨h8,h⟩:=ah h
 ·refine ae 50 h8 (aw 4 5 2 (ag 20 ?_));obtain⟨h9,h⟩:=aQ h;refine ax (ct 77 9 5 1 (aW .u8) (rfl) ((fun _=>rfl)) h9) (ab (aD 2 ?_));cases h;exact fz
 ·refine ae 50 h8 (aw 6 7 2 (ag 2 ?_));obtain⟨h10,h⟩:=aQ h;refine ax (ct 10 9 5 1 (aW .u8) (rfl) ((fun _=>rfl)) h10) (ab (aD 2 ?_));cases h;exact fz
theorem sw(hK:aj K)(h:gO K n v1 v2 v3=some r):yC M w0 r [AL 119,.b 0] (C1 v1 v2 v3):=by
 unfold gO at h;obtain⟨h5,h⟩|⟨h5,h⟩:=ah h
 ·refine ae 25 h5 (aw 4 5 2 (ag 15 ?_));obtain⟨h6,h⟩:=aQ h;refine ax (ct 49 9 5 1 (aW .u8) (rfl) ((fun _=>rfl)) h6) (ab (aD 2 ?_));cases h;exact fz
 ·refine ae 25 h5 (aw 6 7 2 (ag 3 ?_));obtain⟨h7,h⟩|⟨h7,h⟩:=ah h
  ·exact au 53 h7 (ab (ac 0 (zU hK h)))
  ·exact au 53 h7 (ab (ac 0 (zU hK h)))
theorem HO(hK:aj K)(h:ld K n v1 v2=some r):fY Try.prog 89 [.ref 9,.int .i32 v1] [] 9 ⟨5,1,lm (aW .u8) v2⟩ [9] (fun v s=>v=.ref 9∧dn s.o []∧look 9 s.r=some ⟨5,1,lm (aW .u8) r⟩):=by
 refine mE (c:=cat Try.f89 (pn 1)) Try.func89 (by kernel_rfl) _ Try.ntmps89 (of_decide_eq_true (by kernel_rfl)) fun M w0=>(ba ⟨[(0,.ref 9),(1,.int .i32 v1)],[],[(9,⟨5,1,lm (aW .u8) v2⟩)],[9]⟩ ?_);unfold ld at h;refine fQ 29 0 7 ?_;obtain⟨h1,h⟩|⟨h1,h⟩:=ah h
 ·refine ae 11 h1 (aw 4 5 2 (ag 10 ?_));obtain⟨h2,h⟩:=aQ h;refine ax (ct 24 9 5 1 (aW .u8) (rfl) ((fun _=>rfl)) h2) (ab (aD 2 ?_));cases h;exact fz
 ·refine ae 11 h1 (aw 13 7 4 ?_);obtain⟨h3,h⟩|⟨h3,h⟩:=ah h
  ·exact ae 25 h3 (ac 2 (sw hK h))
  ·refine ae 25 h3 (aU 3 1 (ag 3 ?_));obtain⟨h4,h⟩|⟨h4,h⟩:=ah h
   ·exact au 30 h4 (ab (ac 0 (sw hK h)))
   ·exact au 30 h4 (ab (ac 0 (sw hK h)))
end
noncomputable section
variable(M:Nat→Prop)(w0:az)(r:List Int)(v1:Int)(v2:List Int)  
variable{M w0 r v1 v2}{K:Kn}{n:Nat}
theorem zf(hK:aj K)(h:lR K n v1 v2=some r):fY Try.prog 84 [.ref 9,.int .i32 v1] [] 9 ⟨5,1,lm (aW .u8) v2⟩ [9] (fun v s=>v=.ref 9∧dn s.o []∧look 9 s.r=some ⟨5,1,lm (aW .u8) r⟩):=by
 refine mE (c:=cat Try.f84 (pn 1)) Try.func84 (by kernel_rfl) _ Try.ntmps84 (of_decide_eq_true (by kernel_rfl)) fun M w0=>(ba ⟨[(0,.ref 9),(1,.int .i32 v1)],[],[(9,⟨5,1,lm (aW .u8) v2⟩)],[9]⟩ ?_);unfold lR at h;refine aw 13 7 5 ?_;obtain⟨h1,h⟩|⟨h1,h⟩:=ah h
 ·refine ae 7 h1 (aw 4 5 2 (ag 4 ?_));obtain⟨h2,h⟩:=aQ h;refine ax (ct 12 9 5 1 (aW .u8) (rfl) ((fun _=>rfl)) h2) (ab (aD 2 ?_));cases h;exact fz
 ·refine ae 7 h1 (fM 2 3 3 (ag 2 ?_));obtain⟨v3,h3,h⟩:=bind_some h;refine gT 9 9 [] (HO hK h3) (ab (aD 1 ?_));cases h;exact fz
end
noncomputable section
variable(M:Nat→Prop)(w0:az)(r:Int×Unit×(List Int))(v1:Int)(v2:Bool)(v3:List Int)  
variable{M w0 r v1 v2 v3}{K:Kn}{n:Nat}
theorem AC(hK:aj K)(h:jq K n v1 v2 v3=some r):fY Try.prog 71 [.ptr 450114 0,.int .i32 v1] [(450114,[(mf v2 450114),.ref 9])] 9 ⟨5,1,lm (aW .u8) v3⟩ [9,450114,1450114] (fun v s=>v=.tup [iI r.1,.vv .nilIface]∧dn s.o [(450114,[.ptr 450114 0,.ref 9])]∧look 9 s.r=some ⟨5,1,lm (aW .u8) r.2.2⟩):=by
 refine mE (c:=cat Try.f71 (pn 1)) Try.func71 (by kernel_rfl) _ Try.ntmps71 (of_decide_eq_true (by kernel_rfl)) fun M w0=>(ba ⟨[(0,.ptr 450114 0),(1,.int .i32 v1)],[(450114,[(mf v2 450114),.ref 9])],[(9,⟨5,1,lm (aW .u8) v3⟩)],[9,450114,1450114]⟩ ?_);unfold jq at h;refine aw 6 7 3 (ag 1 ?_);rcases ah h with⟨h1,gh1⟩|⟨h1,gh1⟩
 ·subst h1;have h:=gh1;refine Bm 450114 (b:=true) (c1:=.ref 9) (ab (aw 2 3 1 (ag 4 (ax (bu (aW .u8) v3) (ab (aw 2 3 1 (ag 6 ?_)))))));obtain⟨v4,h2,h⟩:=bind_some h;refine gT 9 9 [] (zf hK h2) (ab (aw 2 3 1 (ag 4 (ax (bu (aW .u8) v4) (ab (aD 1 ?_))))));cases h;exact uL
 ·subst h1;have h:=gh1;refine Bm 450114 (b:=false) (c1:=.ref 9) (ab (aw 2 3 1 (ag 4 (ax (bu (aW .u8) v3) (ab (aw 2 3 1 (ag 6 ?_)))))));obtain⟨v5,h3,h⟩:=bind_some h;refine gT 9 9 [] (zf hK h3) (ab (aw 2 3 1 (ag 4 (ax (bu (aW .u8) v5) (ab (aD 1 ?_))))));cases h;exact uL
end
noncomputable section
variable(M:Nat→Prop)(w0:az)(r:Int)(v1 v2:Int)  
variable{M w0 r v1 v2}{K:Kn}{n:Nat}
theorem th(hK:aj K)(h:gI K n v1 v2=some r):aN Try.prog 73 [.int .i32 v1,iI v2] (fun v _=>v=iI r):=by
 refine bd (cat Try.f73 (pn 1)) Try.func73 Try.ntmps73 fun M w0=>(ba ⟨[(0,.int .i32 v1),(1,iI v2)],[],[],[]⟩ ?_);unfold gI at h;refine aw 6 7 3 (ag 1 ?_);obtain⟨v3,h1,h⟩:=bind_some h;refine aG (Av hK h1) (aE 3 1 ?_);obtain⟨v4,h2,h⟩:=bind_some h;refine aG (oN hK h2) (ab (aD 1 ?_));cases h;exact aZ
end
noncomputable section
variable(M:Nat→Prop)(w0:az)(r:Int)(v1:ByteArray)(v2:Int)(v3:Nat)(v5:Int)(v6 m1:Nat)(L1:Int→Nat→Option Int)
abbrev uV:Cx:=⟨Try.prog,19,M,w0⟩
abbrev sV:=bodyPost Try.prog Try.f74 (br M w0 (fun v _=>v=iI r))
abbrev Er(ks:List ak)(s:AS):=VE (uV M w0) (sV M w0 r) ks .normal s
abbrev xL(n:Nat):ak:=.c (cat Try.f74 (pn n))
abbrev rF:List ak:=[.b 0,xL 15]
abbrev DQ:List ak:=kl (uV M w0) (sV M w0 r) rF (cat Try.f74 (pn 116)) m1::rF
def yR:AS:=⟨[(1,iI v2),(5,iI v5),(9,.sit 320009 v3 v1 v6)],[],[],[320009]⟩
abbrev z0:Prop:=∀{v5:Int} {v6:Nat},L1 v5 v6=some r→LP (uV M w0) (sV M w0 r) rF (cat Try.f74 (pn 116)) m1 (yR v1 v2 v3 v5 v6)
variable{M w0 r v1 v2 v3 v5 v6 m1 L1}{K:Kn}{n:Nat}
theorem B1(hK:aj K)(hv3:w0.w.heap.size≤v3)(hL1:z0 M w0 r v1 v2 v3 m1 L1)(h:j0 K n v1 v2 L1 v5 v6=some r):Er M w0 r (xL 116::DQ M w0 r m1) (yR v1 v2 v3 v5 v6):=by
 unfold j0 at h;refine aw 2 3 1 (ag 0 ?_);obtain⟨h3,h⟩|⟨h3,h⟩:=ah h
 ·refine rQ 9 (id:=320009) (g:=v3) h3 hv3 (ab (fQ 13 1 6 (ag 3 ?_)));obtain⟨v7,h4,h⟩:=bind_some h;exact aG (th hK h4) (ab (ac 1 (bo (hL1 h))))
 ·refine tp 9 (id:=320009) (g:=v3) h3 (ab (aD 9 ?_));cases h;exact aZ
theorem EA(hK:aj K)(hv3:w0.w.heap.size≤v3)(m:Nat):z0 M w0 r v1 v2 v3 m (lA K n v1 v2 m):=by
 induction m with
 | zero=>intro v5 v6 h;cases h
 | succ m ih=>intro v5 v6 h;have h:j0 K n v1 v2 (lA K n v1 v2 m) v5 v6=some r:=h;exact bi (B1 hK hv3 ih h)
theorem yf(hK:aj K)(h:jp K n v1 v2=some r):aN Try.prog 74 [.str v1,iI v2] (fun v _=>v=iI r):=by
 refine bd (cat Try.f74 (pn 1)) Try.func74 Try.ntmps74 fun M w0=>(ba ⟨[(0,.str v1),(1,iI v2)],[],[],[]⟩ ?_);unfold jp at h;exact bL 28 29 15 6 (ag 1 (s8 320009 (b:=v1) fun v3 hv3=>(ab (ac 1 (cf (p:=pn 58) n (EA hK (v3:=v3) hv3 n h))))))
end
noncomputable section
variable(M:Nat→Prop)(w0:az)(r:aq)(v1:List ao)(v4:Int)(v5:Bool)(v6:List Int)(v9:Bool)(v10:aF)(v14:ByteArray)(v15:Int)(v18:aF)(v22:ByteArray)(v23:Int)(m1:Nat)(L1:Int→Bool→(List Int)→Option aq)
abbrev ro:Cx:=⟨Try.prog,59,M,w0⟩
abbrev sc:=bodyPost Try.prog Try.f57 (br M w0 (fun v _=>v=.agg (ay r)))
abbrev qz(ks:List ak)(s:AS):=VE (ro M w0) (sc M w0 r) ks .normal s
abbrev dv(n:Nat):ak:=.c (cat Try.f57 (pn n))
abbrev uR:List ak:=[.b 0,dv 15]
abbrev Iu:List ak:=kl (ro M w0) (sc M w0 r) uR (cat Try.f57 (pn 116)) m1::uR
def GP:AS:=⟨[(2,.ptr 2 0),(6,.ptr 6 0),(7,.ptr 7 0),(8,.str v14)],[(2,List.set (ay cm) 61 (.nils)),(6,aA v10),(7,List.set (ay ({ cm with Text:=(bytesOf v6),Space:=v15 }:aq)) 61 (.nils))],[],[2,6,7]⟩
def EY:AS:=⟨[(2,.ptr 2 0),(6,.ptr 6 0),(7,.ptr 7 0),(8,.str v22)],[(2,List.set (ay cm) 61 (.nils)),(6,aA v18),(7,List.set (ay ({ cm with Text:=(bytesOf v6),Space:=v23 }:aq)) 61 (.nils))],[],[2,6,7]⟩
def Co:AS:=⟨[(0,.sl (lm av v1)),(2,.ptr 2 0),(3,.ptr 451114 0)],[(2,List.set (ay cm) 61 (.nils)),(451114,[(mf v9 451114),.ref 401114])],[(401114,⟨5,1,lm (aW .u8) v6⟩)],[2,451114,401114]⟩
def zO:AS:=⟨[(0,.sl (lm av v1)),(2,.ptr 2 0),(3,.ptr 451114 0),(9,.sl (lm av v1)),(10,iI (v1.length:Int)),(11,iI v4)],[(2,List.set (ay cm) 61 (.nils)),(451114,[(mf v5 451114),.ref 401114])],[(401114,⟨5,1,lm (aW .u8) v6⟩)],[2,451114,401114]⟩
abbrev z3:Prop:=∀{v4:Int} {v5:Bool} {v6:(List Int)},L1 v4 v5 v6=some r→LP (ro M w0) (sc M w0 r) uR (cat Try.f57 (pn 116)) m1 (zO v1 v4 v5 v6)
variable{M w0 r v1 v4 v5 v6 v9 v10 v14 v15 v18 v22 v23 m1 L1}{K:Kn}{n:Nat}
theorem wn(hK:aj K)(h:mU K n v6 v10 v14 v15=some r):qz M w0 r [dv 255] (GP v6 v10 v14 v15):=by
 unfold mU at h;refine aw 2 3 1 (ag 3 ?_);obtain⟨v16,h24,h⟩:=bind_some h;refine aG (yf hK h24) (ab (aw 2 3 1 (ag 1 ?_)));obtain⟨v17,h25,h⟩:=bind_some h;refine aG (qH hK h25) (ab (aD 3 (mo 2 ?_)));cases h;exact aZ
theorem vG(hK:aj K)(h:mn K n v6 v18 v22 v23=some r):qz M w0 r [dv 255] (EY v6 v18 v22 v23):=by
 unfold mn at h;refine aw 2 3 1 (ag 3 ?_);obtain⟨v24,h35,h⟩:=bind_some h;refine aG (yf hK h35) (ab (aw 2 3 1 (ag 1 ?_)));obtain⟨v25,h36,h⟩:=bind_some h;refine aG (qH hK h36) (ab (aD 3 (mo 2 ?_)));cases h;exact aZ
theorem y1(hK:aj K)(h:jY K n v1 v6 v9=some r):qz M w0 r [dv 15] (Co v1 v6 v9):=by
 unfold jY at h;rcases ah h with⟨h14,gh14⟩|⟨h14,gh14⟩
 ·subst h14;have h:=gh14;refine aw 2 3 1 (ag 1 ?_);obtain⟨h15,h⟩:=aQ h;refine ax (bv av av h15 (cN) ((fun _=>rfl))) (ab ?_);obtain⟨v10,h16,h⟩:=bP h;refine bt (ks':=[dv 62,dv 63]) 1 ⟨[(0,.sl (lm av v1)),(2,.ptr 2 0),(3,.ptr 451114 0),(6,.ptr 6 0)],[(2,List.set (ay cm) 61 (.nils)),(6,aA v10),(451114,[.ptr 451114 0,.ref 401114])],[(401114,⟨5,1,lm (aW .u8) v6⟩)],[2,6,451114,401114]⟩ ?_ (by subst h16;kernel_rfl);refine ag 0 ?_;obtain⟨h17,h⟩:=aQ h;refine wd 451114 401114 (L:=v6) h17 (ab (bL 12 13 7 4 (ag 2 (ax (bu av v1) (aE 4 1 ?_)))));obtain⟨h18,h⟩:=aQ h;refine ax (bv av av h18 (cN) ((fun _=>rfl))) (ab ?_);obtain⟨v11,h19,h⟩:=bP h;refine bt (ks':=[dv 509,dv 255]) 0 ⟨[(2,.ptr 2 0),(6,.ptr 6 0),(7,.ptr 7 0),(8,.str (bytesOf v6)),(36,.bool v11)],[(2,List.set (ay cm) 61 (.nils)),(6,aA v10),(7,List.set (ay ({ cm with Text:=(bytesOf v6) }:aq)) 61 (.nils))],[],[2,6,7]⟩ ?_ (by subst h19;kernel_rfl)
  obtain⟨h20,h⟩|⟨h20,h⟩:=ah h
  ·refine ae 36 h20 (aw 4 5 2 (ag 4 ?_));obtain⟨h21,h⟩:=aQ h;refine ax (oI h21) (ab ?_);obtain⟨v12,h22,h⟩:=bP h;refine bt (ks':=[dv 2037,dv 255]) 0 ⟨[(2,.ptr 2 0),(6,.ptr 6 0),(7,.ptr 7 0),(8,.str v12)],[(2,List.set (ay cm) 61 (.nils)),(6,aA v10),(7,List.set (ay ({ cm with Text:=(bytesOf v6) }:aq)) 61 (.nils))],[],[2,6,7]⟩ ?_ (by subst h22;kernel_rfl);refine ag 2 ?_;obtain⟨v13,h23,h⟩:=bind_some h;exact aG (th hK h23) (ab (ac 0 (wn hK h)))
  ·exact ae 36 h20 (ac 2 (wn hK h))
 ·subst h14;have h:=gh14;refine aw 2 3 1 (ag 1 ?_);obtain⟨h26,h⟩:=aQ h;refine ax (bv av av h26 (cN) ((fun _=>rfl))) (ab ?_);obtain⟨v18,h27,h⟩:=bP h;refine bt (ks':=[dv 62,dv 63]) 1 ⟨[(0,.sl (lm av v1)),(2,.ptr 2 0),(3,.ptr 451114 0),(6,.ptr 6 0)],[(2,List.set (ay cm) 61 (.nils)),(6,aA v18),(451114,[.nilp,.ref 401114])],[(401114,⟨5,1,lm (aW .u8) v6⟩)],[2,6,451114,401114]⟩ ?_ (by subst h27;kernel_rfl);refine ag 0 ?_;obtain⟨h28,h⟩:=aQ h;refine wd 451114 401114 (L:=v6) h28 (ab (bL 12 13 7 4 (ag 2 (ax (bu av v1) (aE 4 1 ?_)))));obtain⟨h29,h⟩:=aQ h;refine ax (bv av av h29 (cN) ((fun _=>rfl))) (ab ?_);obtain⟨v19,h30,h⟩:=bP h;refine bt (ks':=[dv 509,dv 255]) 0 ⟨[(2,.ptr 2 0),(6,.ptr 6 0),(7,.ptr 7 0),(8,.str (bytesOf v6)),(36,.bool v19)],[(2,List.set (ay cm) 61 (.nils)),(6,aA v18),(7,List.set (ay ({ cm with Text:=(bytesOf v6) }:aq)) 61 (.nils))],[],[2,6,7]⟩ ?_ (by subst h30;kernel_rfl);obtain⟨h31,h⟩|⟨h31,h⟩:=ah h
  ·refine ae 36 h31 (aw 4 5 2 (ag 4 ?_));obtain⟨h32,h⟩:=aQ h;refine ax (oI h32) (ab ?_);obtain⟨v20,h33,h⟩:=bP h;refine bt (ks':=[dv 2037,dv 255]) 0 ⟨[(2,.ptr 2 0),(6,.ptr 6 0),(7,.ptr 7 0),(8,.str v20)],[(2,List.set (ay cm) 61 (.nils)),(6,aA v18),(7,List.set (ay ({ cm with Text:=(bytesOf v6) }:aq)) 61 (.nils))],[],[2,6,7]⟩ ?_ (by subst h33;kernel_rfl);refine ag 2 ?_;obtain⟨v21,h34,h⟩:=bind_some h;exact aG (th hK h34) (ab (ac 0 (vG hK h)))
  ·exact ae 36 h31 (ac 2 (vG hK h))
theorem DC(hK:aj K)(hL1:z3 M w0 r v1 m1 L1)(h:kO K n v1 L1 v4 v5 v6=some r):qz M w0 r (dv 116::Iu M w0 r m1) (zO v1 v4 v5 v6):=by
 unfold kO at h;rcases ah h with⟨h7,gh7⟩|⟨h7,gh7⟩
 ·subst h7;have h:=gh7;refine aw 6 7 3 ?_;obtain⟨h8,h⟩|⟨h8,h⟩:=ah h
  ·refine ae 12 h8 (cG 8 9 1 3 5 (ag 0 ?_));obtain⟨h9,h⟩:=aQ h;refine ax (bv av av h9 (cN) ((fun _=>rfl))) (ab (ag 2 ?_));obtain⟨v7,h10,h⟩:=bind_some h;exact gT 401114 9 [(451114,450114)] (AC hK h10) (ab (ac 2 (bo (hL1 h))))
  ·exact ae 12 h8 (ac 5 (y1 hK h))
 ·subst h7;have h:=gh7;refine aw 6 7 3 ?_;obtain⟨h11,h⟩|⟨h11,h⟩:=ah h
  ·refine ae 12 h11 (cG 8 9 1 3 5 (ag 0 ?_));obtain⟨h12,h⟩:=aQ h;refine ax (bv av av h12 (cN) ((fun _=>rfl))) (ab (ag 2 ?_));obtain⟨v8,h13,h⟩:=bind_some h;exact gT 401114 9 [(451114,450114)] (AC hK h13) (ab (ac 2 (bo (hL1 h))))
  ·exact ae 12 h11 (ac 5 (y1 hK h))
theorem E6(hK:aj K)(m:Nat):z3 M w0 r v1 m (je K n v1 m):=by
 induction m with
 | zero=>intro v4 v5 v6 h;cases h
 | succ m ih=>intro v4 v5 v6 h;have h:kO K n v1 (je K n v1 m) v4 v5 v6=some r:=h;exact bi (DC hK ih h)
theorem Fb(hK:aj K)(h:nP K n v1=some r):aN Try.prog 57 [.sl (lm av v1)] (fun v _=>v=.agg (ay r)):=by
 refine bd (cat Try.f57 (pn 1)) Try.func57 Try.ntmps57 fun M w0=>(ba ⟨[(0,.sl (lm av v1))],[],[],[]⟩ ?_);unfold nP at h;exact aw 6 7 3 (ag 0 (IE 451114 (T:=114) (d:=3) (cs:=[.nilp,.nils]) (ab (bL 4 5 3 2 (ag 1 (ax (bu av v1) (ab (fQ 2 0 1 (bJ [0,2,3,9,10,11] [2,451114] [] (yr 401114 451114 1 5 1 (ac 0 (cf (p:=pn 58) n (E6 hK n h)))))))))))))
end
noncomputable section
variable(M:Nat→Prop)(w0:az)(r:List aq)(v1:List ai)(v2:Fv)(v3:List ao)(v30:Int)(v31:List aq)(v33:Bool)(v39:Int)(v41:Bool)(v43:Int)(v44:aq)(m1 m2:Nat)(L1:Int→(List aq)→Option (List aq))(L2:Int→Option (List aq))
abbrev oe:Cx:=⟨Try.prog,120,M,w0⟩
abbrev lZ:=bodyPost Try.prog Try.f41 (br M w0 (fun v s=>v=.ref 117∧look 117 s.r=some ⟨41,62,lm ay r⟩))
abbrev mG(ks:List ak)(s:AS):=VE (oe M w0) (lZ M w0 r) ks .normal s
abbrev c6(n:Nat):ak:=.c (cat Try.f41 (pn n))
abbrev tH:List ak:=[.b 0,c6 31]
abbrev fH:List ak:=kl (oe M w0) (lZ M w0 r) tH (cat Try.f41 (pn 244)) m1::tH
abbrev sx:List ak:=.b 3::c6 4009823 :: .b 2::c6 31327 :: .b 1::fH M w0 r m1
abbrev Bo:List ak:=kl (oe M w0) (lZ M w0 r) (sx M w0 r m1) (cat Try.f41 (pn 16039288)) m2::(sx M w0 r m1)
def F9:AS:=⟨[(1,.fn v2.id v2.aM),(5,.sl (lm av v3)),(6,.ref 117),(8,.ptr 8 0),(9,.bool v33),(10,.ptr 10 0),(11,iI v43)],[(8,av (gD v3 v30)),(10,ay v44)],[(117,⟨41,62,lm ay v31⟩)],[8,10,117]⟩
def II:AS:=⟨[(1,.fn v2.id v2.aM),(5,.sl (lm av v3)),(6,.ref 117),(7,iI v30),(8,.ptr 8 0),(9,.bool v33),(10,.ptr 10 0),(11,iI v39),(81,.bool v41)],[(8,av (gD v3 v30)),(10,List.set (ay cm) 61 (.nils))],[(117,⟨41,62,lm ay v31⟩)],[8,10,117]⟩
def As:AS:=⟨[(1,.fn v2.id v2.aM),(5,.sl (lm av v3)),(6,.ref 117),(7,iI v30),(8,.ptr 8 0),(9,.bool v33),(10,.ptr 10 0),(11,iI v39)],[(8,av (gD v3 v30)),(10,List.set (ay cm) 61 (.nils))],[(117,⟨41,62,lm ay v31⟩)],[8,10,117]⟩
def E2:AS:=⟨[(1,.fn v2.id v2.aM),(5,.sl (lm av v3)),(6,.ref 117),(7,iI v30),(8,.ptr 8 0),(9,.bool v33)],[(8,av (gD v3 v30))],[(117,⟨41,62,lm ay v31⟩)],[8,117]⟩
def Aj:AS:=⟨[(1,.fn v2.id v2.aM),(5,.sl (lm av v3)),(6,.ref 117),(7,iI v30)],[],[(117,⟨41,62,lm ay v31⟩)],[117]⟩
abbrev jh:Prop:=∀{v30:Int} {v31:(List aq)},L1 v30 v31=some r→LP (oe M w0) (lZ M w0 r) tH (cat Try.f41 (pn 244)) m1 (Aj v2 v3 v30 v31)
abbrev tz:Prop:=∀{v39:Int},L2 v39=some r→LP (oe M w0) (lZ M w0 r) (sx M w0 r m1) (cat Try.f41 (pn 16039288)) m2 (As v2 v3 v30 v31 v33 v39)
variable{M w0 r v1 v2 v3 v30 v31 v33 v39 v41 v43 v44 m1 m2 L1 L2}{K:Kn}{n:Nat}
theorem tn(hK:aj K)(hL1:jh M w0 r v2 v3 m1 L1)(h:fF K n v2 v3 v30 v31 v33 L1 v43 v44=some r):mG M w0 r (.b 2::c6 31327 :: .b 1::fH M w0 r m1) (F9 v2 v3 v30 v31 v33 v43 v44):=by
 unfold fF at h;refine fM 2 3 2 (bJ [1,5,6,8,9,10,11] [8,10] [117] (bT 3 (nu 100 [.ptr 8 4,.cptr (aV ((gD v3 v30).Box)),.cptr (aV ((gD v3 v30).Box)),.cptr (List.drop 1 (aV ((gD v3 v30).Box))),iI (((gD v3 v30).Box).Node),.ptr 8 4,.cptr (aV ((gD v3 v30).Box)),.cptr (aV ((gD v3 v30).Box)),.cptr (List.drop 2 (aV ((gD v3 v30).Box))),.agg (aA (((gD v3 v30).Box).Style)),.bool v33,.ptr 10 0,.ptr 10 2,.ptr 10 59]) [] [] [bN Try.prog 120 Try.f41 (pn 62654) 12,bN Try.prog 120 Try.f41 (pn 62654) 14,bN Try.prog 120 Try.f41 (pn 62654) 16] (aL [.v 0 1,.v 0 1,.v 0 1,.v 0 1,.v 0 1,.v 0 2,.v 0 2,.v 0 2,.v 0 2,.v 0 2,.v 0 3,.v 0 1] (am (bO 0) (aL [.v 1 1] (am (bO 1) (aL [.v 2 1] (am (bO 2) bV)))))) ?_));obtain⟨v45,h94,h⟩:=bP h;obtain⟨v46,h95,h⟩:=bP h;refine bt (ks':=c6 125310::c6 125311 :: .b 1::fH M w0 r m1) 1 ⟨[(1,.fn v2.id v2.aM),(5,.sl (lm av v3)),(6,.ref 117),(10,.ptr 10 0),(11,iI v43)],[(10,ay ({ v44 with Node:=v45,Style:=v46,Glued:=v33 }:aq))],[(117,⟨41,62,lm ay v31⟩)],[10,117]⟩ ?_ (by subst h95;subst h94;kernel_rfl)
 refine ag 3 ?_;obtain⟨h96,h⟩:=aQ h;exact ax (ct 117 117 41 62 ay (rfl) (dj) h96) (ab (ac 2 (bo (hL1 h))))
theorem qr(hK:aj K)(hL1:jh M w0 r v2 v3 m1 L1)(hL2:tz M w0 r v2 v3 v30 v31 v33 m1 m2 L2)(h:fD K n v2 v3 v30 v31 v33 v39 L1 L2 v41=some r):mG M w0 r (c6 64157153::c6 32078577::Bo M w0 r m1 m2) (II v2 v3 v30 v31 v33 v39 v41):=by
 unfold fD at h;obtain⟨h91,h⟩|⟨h91,h⟩:=ah h
 ·exact ae 81 h91 (ac 5 (bo (hL2 h)))
 ·refine ae 81 h91 (b8 (ks':=c6 4009823 :: .b 2::c6 31327 :: .b 1::fH M w0 r m1) 5 (ag 3 ?_));obtain⟨h92,h⟩:=aQ h;refine ax (kv av v3 v30 v39 95 (.tmp 84) (some (.tmp 85)) (some (.tmp 86)) 87 (e:=99) (sz:=5) (by kernel_rfl) (by kernel_rfl) (by kernel_rfl) (by kernel_rfl) (by kernel_rfl) (by kernel_rfl) (cN) (fun k hk=>by subst hk;kernel_rfl) h92) ?_;obtain⟨v42,h93,h⟩:=bind_some h;exact aG (Fb hK h93) (ab (ac 0 (tn hK hL1 h)))
theorem CJ(hK:aj K)(hL1:jh M w0 r v2 v3 m1 L1)(hL2:tz M w0 r v2 v3 v30 v31 v33 m1 m2 L2)(h:kF K n v2 v3 v30 v31 v33 L1 L2 v39=some r):mG M w0 r (c6 16039288::Bo M w0 r m1 m2) (As v2 v3 v30 v31 v33 v39):=by
 unfold kF at h;refine bL 4 5 3 2 (bJ [1,5,6,7,8,9,10,11] [8,10] [117] ?_);obtain⟨h83,h⟩|⟨h83,h⟩:=ah h
 ·obtain⟨h84,h⟩:=aQ h;obtain⟨h85,h⟩|⟨h85,h⟩:=ah h
  ·obtain⟨h86,h⟩:=aQ h;obtain⟨h87,h⟩|⟨h87,h⟩:=ah h
   ·obtain⟨h88,h⟩:=aQ h;obtain⟨h89,h⟩:=aQ h;obtain⟨v40,h90,h⟩:=bind_some h;exact bT 0 (nu 47 [iI v39,.sl (lm av v3),iI (v3.length:Int),.bool (decide (v39<(v3.length:Int))),.bool true,.sl (lm av v3),iI v39,.cptr (av (gD v3 v39)),.cptr (List.drop 0 (av (gD v3 v39))),iI ((gD v3 v39).Kind),.bool (((gD v3 v39).Kind) == 1),.bool (((gD v3 v39).Kind) == 1),.bool true,.sl (lm av v3),iI v39,.cptr (av (gD v3 v39)),.cptr (List.drop 1 (av (gD v3 v39))),iI ((gD v3 v39).Of),.ptr 8 1,iI ((gD v3 v30).Of),.bool (((gD v3 v39).Of) == ((gD v3 v30).Of)),.bool (((gD v3 v39).Of) == ((gD v3 v30).Of)),.bool true,.sl (lm av v3),iI v39,iI (aa (v39-1)),.cptr (av (gD v3 ((aa (v39-1))))),.agg (av (gD v3 ((aa (v39-1))))),.sl (lm av v3),iI v39,.cptr (av (gD v3 v39)),.agg (av (gD v3 v39)),.bool v40,.bool (!v40),.bool (!v40)]) [] [] [] (aL (vz 2) (ca (bu av v3) (aL [.v 0 1] (am (d6 0 51 (e:=(decide (v39<(v3.length:Int)))) (b:=true) h83) (aL (vz 2) (ca (bv av av h84 (cN) ((fun _=>rfl))) (aL (vz 4) (am (d6 0 59 (e:=(((gD v3 v39).Kind) == 1)) (b:=true) h85) (aL (vz 2) (ca (bv av av h86 (cN) ((fun _=>rfl))) (aL (vz 6) (am (d6 0 69 (e:=(((gD v3 v39).Of) == ((gD v3 v30).Of))) (b:=true) h87) (aL (vz 3) (ca (bv av av h88 (cN) ((fun _=>rfl))) (aL (vz 3) (ca (bv av av h89 (cN) ((fun _=>rfl))) (aL [.v 0 1] (am (bX 0 1 79 (wy hK h90)) (aL (vz 2) bV))))))))))))))))))) (ac 0 (qr hK hL1 hL2 h))
   ·exact bT 0 (nu 47 [iI v39,.sl (lm av v3),iI (v3.length:Int),.bool (decide (v39<(v3.length:Int))),.bool true,.sl (lm av v3),iI v39,.cptr (av (gD v3 v39)),.cptr (List.drop 0 (av (gD v3 v39))),iI ((gD v3 v39).Kind),.bool (((gD v3 v39).Kind) == 1),.bool (((gD v3 v39).Kind) == 1),.bool true,.sl (lm av v3),iI v39,.cptr (av (gD v3 v39)),.cptr (List.drop 1 (av (gD v3 v39))),iI ((gD v3 v39).Of),.ptr 8 1,iI ((gD v3 v30).Of),.bool (((gD v3 v39).Of) == ((gD v3 v30).Of)),.bool (((gD v3 v39).Of) == ((gD v3 v30).Of)),.bool false,.tup [],.tup [],.tup [],.tup [],.tup [],.tup [],.tup [],.tup [],.tup [],.tup [],.tup [],.bool false]) [] [] [] (aL (vz 2) (ca (bu av v3) (aL [.v 0 1] (am (d6 0 51 (e:=(decide (v39<(v3.length:Int)))) (b:=true) h83) (aL (vz 2) (ca (bv av av h84 (cN) ((fun _=>rfl))) (aL (vz 4) (am (d6 0 59 (e:=(((gD v3 v39).Kind) == 1)) (b:=true) h85) (aL (vz 2) (ca (bv av av h86 (cN) ((fun _=>rfl))) (aL (vz 6) (am (d6 0 69 (e:=(((gD v3 v39).Of) == ((gD v3 v30).Of))) (b:=false) h87) (am (aX 0 1) (am (aX 0 1) (am (aX 0 1) (am (aX 0 1) (am (aX 0 1) (am (aX 0 1) (am (aX 0 1) (am (aX 0 1) (am (aX 0 1) (am (aX 0 1) (am (aX 0 1) (aL [.v 0 1] bV)))))))))))))))))))))))) (ac 0 (qr hK hL1 hL2 h))
  ·exact bT 0 (nu 47 [iI v39,.sl (lm av v3),iI (v3.length:Int),.bool (decide (v39<(v3.length:Int))),.bool true,.sl (lm av v3),iI v39,.cptr (av (gD v3 v39)),.cptr (List.drop 0 (av (gD v3 v39))),iI ((gD v3 v39).Kind),.bool (((gD v3 v39).Kind) == 1),.bool (((gD v3 v39).Kind) == 1),.bool false,.tup [],.tup [],.tup [],.tup [],.tup [],.tup [],.tup [],.tup [],.bool false,.bool false,.tup [],.tup [],.tup [],.tup [],.tup [],.tup [],.tup [],.tup [],.tup [],.tup [],.tup [],.bool false]) [] [] [] (aL (vz 2) (ca (bu av v3) (aL [.v 0 1] (am (d6 0 51 (e:=(decide (v39<(v3.length:Int)))) (b:=true) h83) (aL (vz 2) (ca (bv av av h84 (cN) ((fun _=>rfl))) (aL (vz 4) (am (d6 0 59 (e:=(((gD v3 v39).Kind) == 1)) (b:=false) h85) (am (aX 0 1) (am (aX 0 1) (am (aX 0 1) (am (aX 0 1) (am (aX 0 1) (am (aX 0 1) (am (aX 0 1) (am (aX 0 1) (aL (vz 2) (am (aX 0 1) (am (aX 0 1) (am (aX 0 1) (am (aX 0 1) (am (aX 0 1) (am (aX 0 1) (am (aX 0 1) (am (aX 0 1) (am (aX 0 1) (am (aX 0 1) (am (aX 0 1) (aL [.v 0 1] bV))))))))))))))))))))))))))))) (ac 0 (qr hK hL1 hL2 h))
 ·exact bT 0 (nu 47 [iI v39,.sl (lm av v3),iI (v3.length:Int),.bool (decide (v39<(v3.length:Int))),.bool false,.tup [],.tup [],.tup [],.tup [],.tup [],.tup [],.bool false,.bool false,.tup [],.tup [],.tup [],.tup [],.tup [],.tup [],.tup [],.tup [],.bool false,.bool false,.tup [],.tup [],.tup [],.tup [],.tup [],.tup [],.tup [],.tup [],.tup [],.tup [],.tup [],.bool false]) [] [] [] (aL (vz 2) (ca (bu av v3) (aL [.v 0 1] (am (d6 0 51 (e:=(decide (v39<(v3.length:Int)))) (b:=false) h83) (am (aX 0 1) (am (aX 0 1) (am (aX 0 1) (am (aX 0 1) (am (aX 0 1) (am (aX 0 1) (aL (vz 2) (am (aX 0 1) (am (aX 0 1) (am (aX 0 1) (am (aX 0 1) (am (aX 0 1) (am (aX 0 1) (am (aX 0 1) (am (aX 0 1) (aL (vz 2) (am (aX 0 1) (am (aX 0 1) (am (aX 0 1) (am (aX 0 1) (am (aX 0 1) (am (aX 0 1) (am (aX 0 1) (am (aX 0 1) (am (aX 0 1) (am (aX 0 1) (am (aX 0 1) (aL [.v 0 1] bV)))))))))))))))))))))))))))))))) (ac 0 (qr hK hL1 hL2 h))
theorem E0(hK:aj K)(hL1:jh M w0 r v2 v3 m1 L1)(m:Nat):tz M w0 r v2 v3 v30 v31 v33 m1 m (iG K n v2 v3 v30 v31 v33 L1 m):=by
 induction m with
 | zero=>intro v39 h;cases h
 | succ m ih=>intro v39 h;have h:kF K n v2 v3 v30 v31 v33 L1 (iG K n v2 v3 v30 v31 v33 L1 m) v39=some r:=h;exact bi (CJ hK hL1 ih h)
theorem uz(hK:aj K)(hL1:jh M w0 r v2 v3 m1 L1)(h:iE K n v2 v3 v30 v31 L1 v33=some r):mG M w0 r (c6 3915 :: .b 1::fH M w0 r m1) (E2 v2 v3 v30 v31 v33):=by
 unfold iE at h;obtain⟨v34,h69,h⟩:=bP h;refine bt (ks':=c6 250613 :: .b 2::c6 31327 :: .b 1::fH M w0 r m1) 10 ⟨[(1,.fn v2.id v2.aM),(5,.sl (lm av v3)),(6,.ref 117),(7,iI v30),(8,.ptr 8 0),(9,.bool v33),(10,.ptr 10 0),(11,iI (aa (v30+1))),(46,iI ((gD v3 v30).Kind)),(89,.bool v34)],[(8,av (gD v3 v30)),(10,List.set (ay cm) 61 (.nils))],[(117,⟨41,62,lm ay v31⟩)],[8,10,117]⟩ ?_ (by subst h69;kernel_rfl);obtain⟨h70,h⟩|⟨h70,h⟩:=ah h
 ·exact ae 89 h70 (b8 (ks':=.b 2::c6 31327 :: .b 1::fH M w0 r m1) 2 (mo 10 (ac 0 (tn hK hL1 h))))
 ·refine ae 89 h70 ?_;obtain⟨v35,h71,h⟩:=bP h;refine bt (ks':=c6 1002455 :: .b 2::c6 31327 :: .b 1::fH M w0 r m1) 3 ⟨[(1,.fn v2.id v2.aM),(5,.sl (lm av v3)),(6,.ref 117),(7,iI v30),(8,.ptr 8 0),(9,.bool v33),(10,.ptr 10 0),(11,iI (aa (v30+1))),(92,.bool v35)],[(8,av (gD v3 v30)),(10,List.set (ay cm) 61 (.nils))],[(117,⟨41,62,lm ay v31⟩)],[8,10,117]⟩ ?_ (by subst h71;kernel_rfl);obtain⟨h72,h⟩|⟨h72,h⟩:=ah h
  ·refine ae 92 h72 (aU 2 1 (ag 5 ?_));obtain⟨v36,h73,h⟩:=bind_some h;exact jR (hK.jL h73) (ab (ac 0 (tn hK hL1 h)))
  ·exact ae 92 h72 (ac 3 (cf (p:=pn 8019644) n (E0 hK hL1 n h)))
theorem G7(hK:aj K)(hL1:jh M w0 r v2 v3 m1 L1)(h:kJ K n v2 v3 L1 v30 v31=some r):mG M w0 r (c6 244::fH M w0 r m1) (Aj v2 v3 v30 v31):=by
 unfold kJ at h;refine bL 4 5 3 2 (ag 2 (ax (bu av v3) (ab ?_)));obtain⟨h62,h⟩|⟨h62,h⟩:=ah h
 ·refine ae 17 h62 (b8 (ks':=c6 1956::c6 1957 :: .b 1::fH M w0 r m1) 4 (ag 2 ?_));obtain⟨h63,h⟩:=aQ h;refine ax (bv av av h63 (cN) ((fun _=>rfl))) (ab (aw 2 3 1 (bJ [1,5,6,7,8] [8] [117] ?_)));obtain⟨h64,h⟩|⟨h64,h⟩:=ah h
  ·obtain⟨h65,h⟩:=aQ h;obtain⟨h66,h⟩|⟨h66,h⟩:=ah h
   ·obtain⟨h67,h⟩:=aQ h;obtain⟨v32,h68,h⟩:=bind_some h;exact bT 1 (nu 22 [iI v30,.bool (decide (v30>0)),.bool true,.sl (lm av v3),iI v30,iI (aa (v30-1)),.cptr (av (gD v3 ((aa (v30-1))))),.cptr (List.drop 0 (av (gD v3 ((aa (v30-1)))))),iI ((gD v3 ((aa (v30-1)))).Kind),.bool (((gD v3 ((aa (v30-1)))).Kind) != 2),.bool (((gD v3 ((aa (v30-1)))).Kind) != 2),.bool true,.sl (lm av v3),iI v30,iI (aa (v30-1)),.cptr (av (gD v3 ((aa (v30-1))))),.agg (av (gD v3 ((aa (v30-1))))),.agg (av (gD v3 v30)),.bool v32,.bool (!v32),.bool (!v32)]) [] [] [bN Try.prog 120 Try.f41 (pn 3914) 21] (aL (vz 2) (am (d6 0 24 (e:=(decide (v30>0))) (b:=true) h64) (aL (vz 3) (ca (bv av av h65 (cN) ((fun _=>rfl))) (aL (vz 4) (am (d6 0 33 (e:=(((gD v3 ((aa (v30-1)))).Kind) != 2)) (b:=true) h66) (aL (vz 3) (ca (bv av av h67 (cN) ((fun _=>rfl))) (aL (vz 2) (am (bX 0 1 40 (wy hK h68)) (aL (vz 2) (am (bO 0) bV)))))))))))) (ac 0 (uz hK hL1 h))
   ·exact bT 1 (nu 22 [iI v30,.bool (decide (v30>0)),.bool true,.sl (lm av v3),iI v30,iI (aa (v30-1)),.cptr (av (gD v3 ((aa (v30-1))))),.cptr (List.drop 0 (av (gD v3 ((aa (v30-1)))))),iI ((gD v3 ((aa (v30-1)))).Kind),.bool (((gD v3 ((aa (v30-1)))).Kind) != 2),.bool (((gD v3 ((aa (v30-1)))).Kind) != 2),.bool false,.tup [],.tup [],.tup [],.tup [],.tup [],.tup [],.tup [],.tup [],.bool false]) [] [] [bN Try.prog 120 Try.f41 (pn 3914) 21] (aL (vz 2) (am (d6 0 24 (e:=(decide (v30>0))) (b:=true) h64) (aL (vz 3) (ca (bv av av h65 (cN) ((fun _=>rfl))) (aL (vz 4) (am (d6 0 33 (e:=(((gD v3 ((aa (v30-1)))).Kind) != 2)) (b:=false) h66) (am (aX 0 1) (am (aX 0 1) (am (aX 0 1) (am (aX 0 1) (am (aX 0 1) (am (aX 0 1) (am (aX 0 1) (am (aX 0 1) (aL [.v 0 1] (am (bO 0) bV)))))))))))))))) (ac 0 (uz hK hL1 h))
  ·exact bT 1 (nu 22 [iI v30,.bool (decide (v30>0)),.bool false,.tup [],.tup [],.tup [],.tup [],.tup [],.tup [],.tup [],.bool false,.bool false,.tup [],.tup [],.tup [],.tup [],.tup [],.tup [],.tup [],.tup [],.bool false]) [] [] [bN Try.prog 120 Try.f41 (pn 3914) 21] (aL (vz 2) (am (d6 0 24 (e:=(decide (v30>0))) (b:=false) h64) (am (aX 0 1) (am (aX 0 1) (am (aX 0 1) (am (aX 0 1) (am (aX 0 1) (am (aX 0 1) (am (aX 0 1) (aL (vz 2) (am (aX 0 1) (am (aX 0 1) (am (aX 0 1) (am (aX 0 1) (am (aX 0 1) (am (aX 0 1) (am (aX 0 1) (am (aX 0 1) (aL [.v 0 1] (am (bO 0) bV)))))))))))))))))))) (ac 0 (uz hK hL1 h))
 ·refine ae 17 h62 (aD 8 ?_);cases h;exact eu
theorem CZ(hK:aj K)(m:Nat):jh M w0 r v2 v3 m (jk K n v2 v3 m):=by
 induction m with
 | zero=>intro v30 v31 h;cases h
 | succ m ih=>intro v30 v31 h;have h:kJ K n v2 v3 (jk K n v2 v3 m) v30 v31=some r:=h;exact bi (G7 hK ih h)
theorem EG(hK:aj K)(h:lF K n v1 v2=some r):aN Try.prog 41 [.sl (lm aP v1),.fn v2.id v2.aM] (fun v s=>v=.ref 117∧look 117 s.r=some ⟨41,62,lm ay r⟩):=by
 refine bd (cat Try.f41 (pn 1)) Try.func41 Try.ntmps41 fun M w0=>(ba ⟨[(0,.sl (lm aP v1)),(1,.fn v2.id v2.aM)],[],[],[]⟩ ?_);unfold lF at h;refine aw 6 7 3 (ag 1 ?_);obtain⟨v3,h1,h⟩:=bind_some h;exact eh 1013 (Ez hK h1) (eO 400003) (ab (gi 26 0 7 6 (bJ [1,5,6,7] [] [1013] (wO 1013 (fr 117 6 41 62 (ac 0 (cf (p:=pn 122) n (CZ hK n h))))))))
end
noncomputable section
variable(M:Nat→Prop)(w0:az)(r v1:Int)  
variable{M w0 r v1}{K:Kn}{n:Nat}
theorem eC(hK:aj K)(h:dJ K n v1=some r):aN Try.prog 59 [iI v1] (fun v _=>v=iI r):=by
 refine bd (cat Try.f59 (pn 1)) Try.func59 Try.ntmps59 fun M w0=>(ba ⟨[(0,iI v1)],[],[],[]⟩ ?_);unfold dJ at h;refine aD 5 ?_;cases h;exact aZ
end
noncomputable section
variable(M:Nat→Prop)(w0:az)(r:Int×Bool)(v1:cL)(v2 v4:Int)  
abbrev Jh(n:Nat):ak:=.c (cat Try.f58 (pn n))
abbrev GG:Cx:=⟨Try.prog,25,M,w0⟩
abbrev G5:=bodyPost Try.prog Try.f58 (br M w0 (fun v _=>v=.tup [iI r.1,.bool r.2]))
abbrev D9(ks:List ak)(s:AS):=VE (GG M w0) (G5 M w0 r) ks .normal s
def Dq:AS:=⟨[(6,iI v4)],[],[],[]⟩
variable{M w0 r v1 v2 v4}{K:Kn}{n:Nat}
theorem zL(hK:aj K)(h:lg K n v4=some r):D9 M w0 r [.b 0,Jh 15] (Dq v4):=by
 unfold lg at h;refine aD 4 ?_;cases h;exact fj
theorem dd(hK:aj K)(h:cI K n v1 v2=some r):aN Try.prog 58 [.agg (jF v1),iI v2] (fun v _=>v=.tup [iI r.1,.bool r.2]):=by
 refine bd (cat Try.f58 (pn 1)) Try.func58 Try.ntmps58 fun M w0=>(ba ⟨[(0,.agg (jF v1)),(1,iI v2)],[],[],[]⟩ ?_);unfold cI at h;refine gi 117 0 15 10 ?_;obtain⟨h1,h⟩|⟨h1,h⟩:=ah h
 ·exact ae 11 h1 (ac 2 (zL hK h))
 ·refine ae 11 h1 (aU 7 3 ?_);obtain⟨h2,h⟩|⟨h2,h⟩:=ah h
  ·refine ae 13 h2 (aU 2 1 (ag 1 ?_));obtain⟨v3,h3,h⟩:=bind_some h;exact aG (eC hK h3) (ab (ac 0 (zL hK h)))
  ·refine ae 13 h2 (aD 6 ?_);cases h;exact fj
end
noncomputable section
variable(M:Nat→Prop)(w0:az)(r:bn)(v1:aF)(v2 v3:Int)  
abbrev jE(n:Nat):ak:=.c (cat Try.f43 (pn n))
abbrev FN:Cx:=⟨Try.prog,52,M,w0⟩
abbrev JF:=bodyPost Try.prog Try.f43 (br M w0 (fun v _=>v=.agg (bq r)))
abbrev nJ(m:Nat):List ak:=kl (FN M w0) (JF M w0 r) [.b 0,jE 15] (cat Try.f43 (pn 116)) m::[.b 0,jE 15]
variable{M w0 r v1 v2 v3}{K:Kn}{n:Nat}
theorem nn(hK:aj K)(h:gn K n v1 v2 v3=some r):aN Try.prog 43 [.agg (aA v1),iI v2,iI v3] (fun v _=>v=.agg (bq r)):=by
 refine bd (cat Try.f43 (pn 1)) Try.func43 Try.ntmps43 fun M w0=>(ba ⟨[(0,.agg (aA v1)),(1,iI v2),(2,iI v3)],[],[],[]⟩ ?_);unfold gn at h;refine bt (ks':=[jE 58,.b 0,jE 15]) 8 ⟨[(1,iI v2),(3,.ptr 3 0),(6,.ptr 6 0),(7,.ptr 7 0),(13,iI 0)],[(3,aA v1),(6,bq eD),(7,bq ({ eD with Content:=v3 }:bn))],[],[3,6,7]⟩ (mD 40 (c:=cat Try.f43 [1,1,0,1,0,0]) (by kernel_rfl) (bi (b8 (ks':=jE 7474::jE 7475 :: .b 1::jE 935::nJ M w0 r 39) 10 (ag 6 ?_))));obtain⟨v4,h1,h⟩:=bind_some h;refine aG (dd hK h1) (ab (aw 2 3 1 (ag 5 ?_)));obtain⟨v5,h2,h⟩:=bind_some h;refine aG (eC hK h2) (ab (aw 2 3 1 (ag 5 ?_)));obtain⟨v6,h3,h⟩:=bind_some h;refine aG (dd hK h3) (ab (bt (ks':=nJ M w0 r 39) 3 ⟨[(1,iI v2),(3,.ptr 3 0),(6,.ptr 6 0),(7,.ptr 7 0),(13,iI 1)],[(3,aA v1),(6,bq eD),(7,bq (⟨⟨v4.1,0,0,0⟩,⟨v5,0,0,0⟩,⟨(max v6.1 0),0,0,0⟩,v3⟩:bn))],[],[3,6,7]⟩ (bo (bi (cU 114 115 1 15 10 (ag 6 ?_))))));obtain⟨v7,h4,h⟩:=bind_some h
 refine aG (dd hK h4) (ab (aw 2 3 1 (ag 5 ?_)));obtain⟨v8,h5,h⟩:=bind_some h;refine aG (eC hK h5) (ab (aw 2 3 1 (ag 5 ?_)));obtain⟨v9,h6,h⟩:=bind_some h;refine aG (dd hK h6) (ab (bt (ks':=nJ M w0 r 38) 3 ⟨[(1,iI v2),(3,.ptr 3 0),(6,.ptr 6 0),(7,.ptr 7 0),(13,iI 2)],[(3,aA v1),(6,bq eD),(7,bq (⟨⟨v4.1,v7.1,0,0⟩,⟨v5,v8,0,0⟩,⟨(max v6.1 0),(max v9.1 0),0,0⟩,v3⟩:bn))],[],[3,6,7]⟩ (bo (bi (cU 114 115 1 15 10 (ag 6 ?_))))));obtain⟨v10,h7,h⟩:=bind_some h;refine aG (dd hK h7) (ab (aw 2 3 1 (ag 5 ?_)));obtain⟨v11,h8,h⟩:=bind_some h;refine aG (eC hK h8) (ab (aw 2 3 1 (ag 5 ?_)));obtain⟨v12,h9,h⟩:=bind_some h;refine aG (dd hK h9) (ab (bt (ks':=nJ M w0 r 37) 3 ⟨[(1,iI v2),(3,.ptr 3 0),(6,.ptr 6 0),(7,.ptr 7 0),(13,iI 3)],[(3,aA v1),(6,bq eD),(7,bq (⟨⟨v4.1,v7.1,v10.1,0⟩,⟨v5,v8,v11,0⟩,⟨(max v6.1 0),(max v9.1 0),(max v12.1 0),0⟩,v3⟩:bn))],[],[3,6,7]⟩ (bo (bi (cU 114 115 1 15 10 (ag 6 ?_))))));obtain⟨v13,h10,h⟩:=bind_some h
 refine aG (dd hK h10) (ab (aw 2 3 1 (ag 5 ?_)));obtain⟨v14,h11,h⟩:=bind_some h;refine aG (eC hK h11) (ab (aw 2 3 1 (ag 5 ?_)));obtain⟨v15,h12,h⟩:=bind_some h;refine aG (dd hK h12) (ab (bt (ks':=nJ M w0 r 36) 3 ⟨[(1,iI v2),(3,.ptr 3 0),(6,.ptr 6 0),(7,.ptr 7 0),(13,iI 4)],[(3,aA v1),(6,bq eD),(7,bq (⟨⟨v4.1,v7.1,v10.1,v13.1⟩,⟨v5,v8,v11,v14⟩,⟨(max v6.1 0),(max v9.1 0),(max v12.1 0),(max v15.1 0)⟩,v3⟩:bn))],[],[3,6,7]⟩ (bo (bi (aD 11 ?_)))));cases h;exact aZ
end
noncomputable section
variable(M:Nat→Prop)(w0:az)(r:Int)(v1:bn)  
variable{M w0 r v1}{K:Kn}{n:Nat}
theorem kD(hK:aj K)(h:gp K n v1=some r):aN Try.prog 47 [.agg (bq v1)] (fun v _=>v=iI r):=by
 refine bd (cat Try.f47 (pn 1)) Try.func47 Try.ntmps47 fun M w0=>(ba ⟨[(0,.agg (bq v1))],[],[],[]⟩ ?_);unfold gp at h;refine aD 5 ?_;cases h;exact aZ
end
noncomputable section
variable(M:Nat→Prop)(w0:az)(r v1:aF)(v2:Nat)(v3 v4 v5 v6 v7 v8 v9 v10 v11 v12 v13:aF)  
abbrev cB(n:Nat):ak:=.c (cat Try.f65 (pn n))
abbrev tD:Cx:=⟨Try.prog,40,M,w0⟩
abbrev t9:=bodyPost Try.prog Try.f65 (br M w0 (fun v _=>v=.agg (aA r)))
abbrev fg(ks:List ak)(s:AS):=VE (tD M w0) (t9 M w0 r) ks .normal s
def Jp:AS:=⟨[(1,.pp 1 v2 0),(2,.ptr 2 0),(24,.ref 10),(25,iI 11),(26,iI 10)],[(1,aA v13),(2,aA bQ)],[(10,⟨130,1,lm aY [(v2,6),(v2,10),(v2,12),(v2,14),(v2,22),(v2,16),(v2,24),(v2,18),(v2,26),(v2,20),(v2,28)]⟩)],[1,2,10]⟩
def Jl:AS:=⟨[(1,.pp 1 v2 0),(2,.ptr 2 0),(24,.ref 10),(25,iI 11),(26,iI 9)],[(1,aA v12),(2,aA bQ)],[(10,⟨130,1,lm aY [(v2,6),(v2,10),(v2,12),(v2,14),(v2,22),(v2,16),(v2,24),(v2,18),(v2,26),(v2,20),(v2,28)]⟩)],[1,2,10]⟩
def Hj:AS:=⟨[(1,.pp 1 v2 0),(2,.ptr 2 0),(24,.ref 10),(25,iI 11),(26,iI 8)],[(1,aA v11),(2,aA bQ)],[(10,⟨130,1,lm aY [(v2,6),(v2,10),(v2,12),(v2,14),(v2,22),(v2,16),(v2,24),(v2,18),(v2,26),(v2,20),(v2,28)]⟩)],[1,2,10]⟩
def C6:AS:=⟨[(1,.pp 1 v2 0),(2,.ptr 2 0),(24,.ref 10),(25,iI 11),(26,iI 7)],[(1,aA v10),(2,aA bQ)],[(10,⟨130,1,lm aY [(v2,6),(v2,10),(v2,12),(v2,14),(v2,22),(v2,16),(v2,24),(v2,18),(v2,26),(v2,20),(v2,28)]⟩)],[1,2,10]⟩
def BJ:AS:=⟨[(1,.pp 1 v2 0),(2,.ptr 2 0),(24,.ref 10),(25,iI 11),(26,iI 6)],[(1,aA v9),(2,aA bQ)],[(10,⟨130,1,lm aY [(v2,6),(v2,10),(v2,12),(v2,14),(v2,22),(v2,16),(v2,24),(v2,18),(v2,26),(v2,20),(v2,28)]⟩)],[1,2,10]⟩
def HW:AS:=⟨[(1,.pp 1 v2 0),(2,.ptr 2 0),(24,.ref 10),(25,iI 11),(26,iI 5)],[(1,aA v8),(2,aA bQ)],[(10,⟨130,1,lm aY [(v2,6),(v2,10),(v2,12),(v2,14),(v2,22),(v2,16),(v2,24),(v2,18),(v2,26),(v2,20),(v2,28)]⟩)],[1,2,10]⟩
def IL:AS:=⟨[(1,.pp 1 v2 0),(2,.ptr 2 0),(24,.ref 10),(25,iI 11),(26,iI 4)],[(1,aA v7),(2,aA bQ)],[(10,⟨130,1,lm aY [(v2,6),(v2,10),(v2,12),(v2,14),(v2,22),(v2,16),(v2,24),(v2,18),(v2,26),(v2,20),(v2,28)]⟩)],[1,2,10]⟩
def GW:AS:=⟨[(1,.pp 1 v2 0),(2,.ptr 2 0),(24,.ref 10),(25,iI 11),(26,iI 3)],[(1,aA v6),(2,aA bQ)],[(10,⟨130,1,lm aY [(v2,6),(v2,10),(v2,12),(v2,14),(v2,22),(v2,16),(v2,24),(v2,18),(v2,26),(v2,20),(v2,28)]⟩)],[1,2,10]⟩
def Ik:AS:=⟨[(1,.pp 1 v2 0),(2,.ptr 2 0),(24,.ref 10),(25,iI 11),(26,iI 2)],[(1,aA v5),(2,aA bQ)],[(10,⟨130,1,lm aY [(v2,6),(v2,10),(v2,12),(v2,14),(v2,22),(v2,16),(v2,24),(v2,18),(v2,26),(v2,20),(v2,28)]⟩)],[1,2,10]⟩
def HG:AS:=⟨[(1,.pp 1 v2 0),(2,.ptr 2 0),(24,.ref 10),(25,iI 11),(26,iI 1)],[(1,aA v4),(2,aA bQ)],[(10,⟨130,1,lm aY [(v2,6),(v2,10),(v2,12),(v2,14),(v2,22),(v2,16),(v2,24),(v2,18),(v2,26),(v2,20),(v2,28)]⟩)],[1,2,10]⟩
def JK:AS:=⟨[(1,.pp 1 v2 0),(2,.ptr 2 0),(24,.ref 10),(25,iI 11),(26,iI 0)],[(1,aA v3),(2,aA bQ)],[(10,⟨130,1,lm aY [(v2,6),(v2,10),(v2,12),(v2,14),(v2,22),(v2,16),(v2,24),(v2,18),(v2,26),(v2,20),(v2,28)]⟩)],[1,2,10]⟩
abbrev cE(m:Nat):List ak:=kl (tD M w0) (t9 M w0 r) [.b 2,cB 31] (cat Try.f65 (pn 244)) m::[.b 2,cB 31]
abbrev mZ(m:Nat):List ak:=kl (tD M w0) (t9 M w0 r) [.b 0,cB 15] (cat Try.f65 (pn 116)) m::[.b 0,cB 15]
variable{M w0 r v1 v2 v3 v4 v5 v6 v7 v8 v9 v10 v11 v12 v13}{K:Kn}{n:Nat}
theorem wG(hK:aj K)(h:oa K n v13=some r):fg M w0 r (.b 3::cB 1959::cE M w0 r 29) (Jp v2 v13):=by
 unfold oa at h;refine bt (ks':=cE M w0 r 29) 2 ⟨[(1,.pp 1 v2 0),(2,.ptr 2 0),(24,.ref 10),(25,iI 11),(26,iI 11)],[(1,aA v13),(2,aA bQ)],[(10,⟨130,1,lm aY [(v2,6),(v2,10),(v2,12),(v2,14),(v2,22),(v2,16),(v2,24),(v2,18),(v2,26),(v2,20),(v2,28)]⟩)],[1,2,10]⟩ (bo (bi (aD 11 ?_)));cases h;exact aZ
theorem vH(hK:aj K)(h:m7 K n v12=some r):fg M w0 r (.b 3::cB 1959::cE M w0 r 30) (Jl v2 v12):=by
 unfold m7 at h;refine bt (ks':=cE M w0 r 30) 2 ⟨[(1,.pp 1 v2 0),(2,.ptr 2 0),(24,.ref 10),(25,iI 11),(26,iI 10)],[(1,aA v12),(2,aA bQ)],[(10,⟨130,1,lm aY [(v2,6),(v2,10),(v2,12),(v2,14),(v2,22),(v2,16),(v2,24),(v2,18),(v2,26),(v2,20),(v2,28)]⟩)],[1,2,10]⟩ (bo (bi (cU 56 57 3 15 8 (ag 0 (ax (dh 10 1 aY (L:=([(v2,6),(v2,10),(v2,12),(v2,14),(v2,22),(v2,16),(v2,24),(v2,18),(v2,26),(v2,20),(v2,28)]:List (Nat×Nat))) (i:=(10:Int)) (by kernel_rfl)) (ax (cA 130 0 aY aY (L:=([(v2,6),(v2,10),(v2,12),(v2,14),(v2,22),(v2,16),(v2,24),(v2,18),(v2,26),(v2,20),(v2,28)]:List (Nat×Nat))) (j:=(10:Int).toNat) (of_decide_eq_true (by kernel_rfl)) ((fun _=>rfl))) (ab (aw 2 3 1 (ag 3 (cJ 32 1 1 v2 28 0 (ab ?_)))))))))));obtain⟨h11,h⟩|⟨h11,h⟩:=ah h
 ·exact ae 34 h11 (aU 2 1 (ag 3 (cJ 37 1 1 v2 28 0 (ab (ac 0 (wG hK (v2:=v2) h))))))
 ·exact ae 34 h11 (ac 2 (wG hK (v2:=v2) h))
theorem zy(hK:aj K)(h:mw K n v11=some r):fg M w0 r (.b 3::cB 1959::cE M w0 r 31) (Hj v2 v11):=by
 unfold mw at h;refine bt (ks':=cE M w0 r 31) 2 ⟨[(1,.pp 1 v2 0),(2,.ptr 2 0),(24,.ref 10),(25,iI 11),(26,iI 9)],[(1,aA v11),(2,aA bQ)],[(10,⟨130,1,lm aY [(v2,6),(v2,10),(v2,12),(v2,14),(v2,22),(v2,16),(v2,24),(v2,18),(v2,26),(v2,20),(v2,28)]⟩)],[1,2,10]⟩ (bo (bi (cU 56 57 3 15 8 (ag 0 (ax (dh 10 1 aY (L:=([(v2,6),(v2,10),(v2,12),(v2,14),(v2,22),(v2,16),(v2,24),(v2,18),(v2,26),(v2,20),(v2,28)]:List (Nat×Nat))) (i:=(9:Int)) (by kernel_rfl)) (ax (cA 130 0 aY aY (L:=([(v2,6),(v2,10),(v2,12),(v2,14),(v2,22),(v2,16),(v2,24),(v2,18),(v2,26),(v2,20),(v2,28)]:List (Nat×Nat))) (j:=(9:Int).toNat) (of_decide_eq_true (by kernel_rfl)) ((fun _=>rfl))) (ab (aw 2 3 1 (ag 3 (cJ 32 1 1 v2 20 0 (ab ?_)))))))))));obtain⟨h10,h⟩|⟨h10,h⟩:=ah h
 ·exact ae 34 h10 (aU 2 1 (ag 3 (cJ 37 1 1 v2 20 0 (ab (ac 0 (vH hK (v2:=v2) h))))))
 ·exact ae 34 h10 (ac 2 (vH hK (v2:=v2) h))
theorem zX(hK:aj K)(h:my K n v10=some r):fg M w0 r (.b 3::cB 1959::cE M w0 r 32) (C6 v2 v10):=by
 unfold my at h;refine bt (ks':=cE M w0 r 32) 2 ⟨[(1,.pp 1 v2 0),(2,.ptr 2 0),(24,.ref 10),(25,iI 11),(26,iI 8)],[(1,aA v10),(2,aA bQ)],[(10,⟨130,1,lm aY [(v2,6),(v2,10),(v2,12),(v2,14),(v2,22),(v2,16),(v2,24),(v2,18),(v2,26),(v2,20),(v2,28)]⟩)],[1,2,10]⟩ (bo (bi (cU 56 57 3 15 8 (ag 0 (ax (dh 10 1 aY (L:=([(v2,6),(v2,10),(v2,12),(v2,14),(v2,22),(v2,16),(v2,24),(v2,18),(v2,26),(v2,20),(v2,28)]:List (Nat×Nat))) (i:=(8:Int)) (by kernel_rfl)) (ax (cA 130 0 aY aY (L:=([(v2,6),(v2,10),(v2,12),(v2,14),(v2,22),(v2,16),(v2,24),(v2,18),(v2,26),(v2,20),(v2,28)]:List (Nat×Nat))) (j:=(8:Int).toNat) (of_decide_eq_true (by kernel_rfl)) ((fun _=>rfl))) (ab (aw 2 3 1 (ag 3 (cJ 32 1 1 v2 26 0 (ab ?_)))))))))));obtain⟨h9,h⟩|⟨h9,h⟩:=ah h
 ·exact ae 34 h9 (aU 2 1 (ag 3 (cJ 37 1 1 v2 26 0 (ab (ac 0 (zy hK (v2:=v2) h))))))
 ·exact ae 34 h9 (ac 2 (zy hK (v2:=v2) h))
theorem w9(hK:aj K)(h:oo K n v9=some r):fg M w0 r (.b 3::cB 1959::cE M w0 r 33) (BJ v2 v9):=by
 unfold oo at h;refine bt (ks':=cE M w0 r 33) 2 ⟨[(1,.pp 1 v2 0),(2,.ptr 2 0),(24,.ref 10),(25,iI 11),(26,iI 7)],[(1,aA v9),(2,aA bQ)],[(10,⟨130,1,lm aY [(v2,6),(v2,10),(v2,12),(v2,14),(v2,22),(v2,16),(v2,24),(v2,18),(v2,26),(v2,20),(v2,28)]⟩)],[1,2,10]⟩ (bo (bi (cU 56 57 3 15 8 (ag 0 (ax (dh 10 1 aY (L:=([(v2,6),(v2,10),(v2,12),(v2,14),(v2,22),(v2,16),(v2,24),(v2,18),(v2,26),(v2,20),(v2,28)]:List (Nat×Nat))) (i:=(7:Int)) (by kernel_rfl)) (ax (cA 130 0 aY aY (L:=([(v2,6),(v2,10),(v2,12),(v2,14),(v2,22),(v2,16),(v2,24),(v2,18),(v2,26),(v2,20),(v2,28)]:List (Nat×Nat))) (j:=(7:Int).toNat) (of_decide_eq_true (by kernel_rfl)) ((fun _=>rfl))) (ab (aw 2 3 1 (ag 3 (cJ 32 1 1 v2 18 0 (ab ?_)))))))))));obtain⟨h8,h⟩|⟨h8,h⟩:=ah h
 ·exact ae 34 h8 (aU 2 1 (ag 3 (cJ 37 1 1 v2 18 0 (ab (ac 0 (zX hK (v2:=v2) h))))))
 ·exact ae 34 h8 (ac 2 (zX hK (v2:=v2) h))
theorem y9(hK:aj K)(h:mN K n v8=some r):fg M w0 r (.b 3::cB 1959::cE M w0 r 34) (HW v2 v8):=by
 unfold mN at h;refine bt (ks':=cE M w0 r 34) 2 ⟨[(1,.pp 1 v2 0),(2,.ptr 2 0),(24,.ref 10),(25,iI 11),(26,iI 6)],[(1,aA v8),(2,aA bQ)],[(10,⟨130,1,lm aY [(v2,6),(v2,10),(v2,12),(v2,14),(v2,22),(v2,16),(v2,24),(v2,18),(v2,26),(v2,20),(v2,28)]⟩)],[1,2,10]⟩ (bo (bi (cU 56 57 3 15 8 (ag 0 (ax (dh 10 1 aY (L:=([(v2,6),(v2,10),(v2,12),(v2,14),(v2,22),(v2,16),(v2,24),(v2,18),(v2,26),(v2,20),(v2,28)]:List (Nat×Nat))) (i:=(6:Int)) (by kernel_rfl)) (ax (cA 130 0 aY aY (L:=([(v2,6),(v2,10),(v2,12),(v2,14),(v2,22),(v2,16),(v2,24),(v2,18),(v2,26),(v2,20),(v2,28)]:List (Nat×Nat))) (j:=(6:Int).toNat) (of_decide_eq_true (by kernel_rfl)) ((fun _=>rfl))) (ab (aw 2 3 1 (ag 3 (cJ 32 1 1 v2 24 0 (ab ?_)))))))))));obtain⟨h7,h⟩|⟨h7,h⟩:=ah h
 ·exact ae 34 h7 (aU 2 1 (ag 3 (cJ 37 1 1 v2 24 0 (ab (ac 0 (w9 hK (v2:=v2) h))))))
 ·exact ae 34 h7 (ac 2 (w9 hK (v2:=v2) h))
theorem w7(hK:aj K)(h:ow K n v7=some r):fg M w0 r (.b 3::cB 1959::cE M w0 r 35) (IL v2 v7):=by
 unfold ow at h;refine bt (ks':=cE M w0 r 35) 2 ⟨[(1,.pp 1 v2 0),(2,.ptr 2 0),(24,.ref 10),(25,iI 11),(26,iI 5)],[(1,aA v7),(2,aA bQ)],[(10,⟨130,1,lm aY [(v2,6),(v2,10),(v2,12),(v2,14),(v2,22),(v2,16),(v2,24),(v2,18),(v2,26),(v2,20),(v2,28)]⟩)],[1,2,10]⟩ (bo (bi (cU 56 57 3 15 8 (ag 0 (ax (dh 10 1 aY (L:=([(v2,6),(v2,10),(v2,12),(v2,14),(v2,22),(v2,16),(v2,24),(v2,18),(v2,26),(v2,20),(v2,28)]:List (Nat×Nat))) (i:=(5:Int)) (by kernel_rfl)) (ax (cA 130 0 aY aY (L:=([(v2,6),(v2,10),(v2,12),(v2,14),(v2,22),(v2,16),(v2,24),(v2,18),(v2,26),(v2,20),(v2,28)]:List (Nat×Nat))) (j:=(5:Int).toNat) (of_decide_eq_true (by kernel_rfl)) ((fun _=>rfl))) (ab (aw 2 3 1 (ag 3 (cJ 32 1 1 v2 16 0 (ab ?_)))))))))));obtain⟨h6,h⟩|⟨h6,h⟩:=ah h
 ·exact ae 34 h6 (aU 2 1 (ag 3 (cJ 37 1 1 v2 16 0 (ab (ac 0 (y9 hK (v2:=v2) h))))))
 ·exact ae 34 h6 (ac 2 (y9 hK (v2:=v2) h))
theorem zk(hK:aj K)(h:mH K n v6=some r):fg M w0 r (.b 3::cB 1959::cE M w0 r 36) (GW v2 v6):=by
 unfold mH at h;refine bt (ks':=cE M w0 r 36) 2 ⟨[(1,.pp 1 v2 0),(2,.ptr 2 0),(24,.ref 10),(25,iI 11),(26,iI 4)],[(1,aA v6),(2,aA bQ)],[(10,⟨130,1,lm aY [(v2,6),(v2,10),(v2,12),(v2,14),(v2,22),(v2,16),(v2,24),(v2,18),(v2,26),(v2,20),(v2,28)]⟩)],[1,2,10]⟩ (bo (bi (cU 56 57 3 15 8 (ag 0 (ax (dh 10 1 aY (L:=([(v2,6),(v2,10),(v2,12),(v2,14),(v2,22),(v2,16),(v2,24),(v2,18),(v2,26),(v2,20),(v2,28)]:List (Nat×Nat))) (i:=(4:Int)) (by kernel_rfl)) (ax (cA 130 0 aY aY (L:=([(v2,6),(v2,10),(v2,12),(v2,14),(v2,22),(v2,16),(v2,24),(v2,18),(v2,26),(v2,20),(v2,28)]:List (Nat×Nat))) (j:=(4:Int).toNat) (of_decide_eq_true (by kernel_rfl)) ((fun _=>rfl))) (ab (aw 2 3 1 (ag 3 (cJ 32 1 1 v2 22 0 (ab ?_)))))))))));obtain⟨h5,h⟩|⟨h5,h⟩:=ah h
 ·exact ae 34 h5 (aU 2 1 (ag 3 (cJ 37 1 1 v2 22 0 (ab (ac 0 (w7 hK (v2:=v2) h))))))
 ·exact ae 34 h5 (ac 2 (w7 hK (v2:=v2) h))
theorem Ax(hK:aj K)(h:mz K n v5=some r):fg M w0 r (.b 3::cB 1959::cE M w0 r 37) (Ik v2 v5):=by
 unfold mz at h;refine bt (ks':=cE M w0 r 37) 2 ⟨[(1,.pp 1 v2 0),(2,.ptr 2 0),(24,.ref 10),(25,iI 11),(26,iI 3)],[(1,aA v5),(2,aA bQ)],[(10,⟨130,1,lm aY [(v2,6),(v2,10),(v2,12),(v2,14),(v2,22),(v2,16),(v2,24),(v2,18),(v2,26),(v2,20),(v2,28)]⟩)],[1,2,10]⟩ (bo (bi (cU 56 57 3 15 8 (ag 0 (ax (dh 10 1 aY (L:=([(v2,6),(v2,10),(v2,12),(v2,14),(v2,22),(v2,16),(v2,24),(v2,18),(v2,26),(v2,20),(v2,28)]:List (Nat×Nat))) (i:=(3:Int)) (by kernel_rfl)) (ax (cA 130 0 aY aY (L:=([(v2,6),(v2,10),(v2,12),(v2,14),(v2,22),(v2,16),(v2,24),(v2,18),(v2,26),(v2,20),(v2,28)]:List (Nat×Nat))) (j:=(3:Int).toNat) (of_decide_eq_true (by kernel_rfl)) ((fun _=>rfl))) (ab (aw 2 3 1 (ag 3 (cJ 32 1 1 v2 14 0 (ab ?_)))))))))));obtain⟨h4,h⟩|⟨h4,h⟩:=ah h
 ·exact ae 34 h4 (aU 2 1 (ag 3 (cJ 37 1 1 v2 14 0 (ab (ac 0 (zk hK (v2:=v2) h))))))
 ·exact ae 34 h4 (ac 2 (zk hK (v2:=v2) h))
theorem wm(hK:aj K)(h:nA K n v4=some r):fg M w0 r (.b 3::cB 1959::cE M w0 r 38) (HG v2 v4):=by
 unfold nA at h;refine bt (ks':=cE M w0 r 38) 2 ⟨[(1,.pp 1 v2 0),(2,.ptr 2 0),(24,.ref 10),(25,iI 11),(26,iI 2)],[(1,aA v4),(2,aA bQ)],[(10,⟨130,1,lm aY [(v2,6),(v2,10),(v2,12),(v2,14),(v2,22),(v2,16),(v2,24),(v2,18),(v2,26),(v2,20),(v2,28)]⟩)],[1,2,10]⟩ (bo (bi (cU 56 57 3 15 8 (ag 0 (ax (dh 10 1 aY (L:=([(v2,6),(v2,10),(v2,12),(v2,14),(v2,22),(v2,16),(v2,24),(v2,18),(v2,26),(v2,20),(v2,28)]:List (Nat×Nat))) (i:=(2:Int)) (by kernel_rfl)) (ax (cA 130 0 aY aY (L:=([(v2,6),(v2,10),(v2,12),(v2,14),(v2,22),(v2,16),(v2,24),(v2,18),(v2,26),(v2,20),(v2,28)]:List (Nat×Nat))) (j:=(2:Int).toNat) (of_decide_eq_true (by kernel_rfl)) ((fun _=>rfl))) (ab (aw 2 3 1 (ag 3 (cJ 32 1 1 v2 12 0 (ab ?_)))))))))));obtain⟨h3,h⟩|⟨h3,h⟩:=ah h
 ·exact ae 34 h3 (aU 2 1 (ag 3 (cJ 37 1 1 v2 12 0 (ab (ac 0 (Ax hK (v2:=v2) h))))))
 ·exact ae 34 h3 (ac 2 (Ax hK (v2:=v2) h))
theorem xM(hK:aj K)(h:nZ K n v3=some r):fg M w0 r (.b 3::cB 1959::cE M w0 r 39) (JK v2 v3):=by
 unfold nZ at h;refine bt (ks':=cE M w0 r 39) 2 ⟨[(1,.pp 1 v2 0),(2,.ptr 2 0),(24,.ref 10),(25,iI 11),(26,iI 1)],[(1,aA v3),(2,aA bQ)],[(10,⟨130,1,lm aY [(v2,6),(v2,10),(v2,12),(v2,14),(v2,22),(v2,16),(v2,24),(v2,18),(v2,26),(v2,20),(v2,28)]⟩)],[1,2,10]⟩ (bo (bi (cU 56 57 3 15 8 (ag 0 (ax (dh 10 1 aY (L:=([(v2,6),(v2,10),(v2,12),(v2,14),(v2,22),(v2,16),(v2,24),(v2,18),(v2,26),(v2,20),(v2,28)]:List (Nat×Nat))) (i:=(1:Int)) (by kernel_rfl)) (ax (cA 130 0 aY aY (L:=([(v2,6),(v2,10),(v2,12),(v2,14),(v2,22),(v2,16),(v2,24),(v2,18),(v2,26),(v2,20),(v2,28)]:List (Nat×Nat))) (j:=(1:Int).toNat) (of_decide_eq_true (by kernel_rfl)) ((fun _=>rfl))) (ab (aw 2 3 1 (ag 3 (cJ 32 1 1 v2 10 0 (ab ?_)))))))))));obtain⟨h2,h⟩|⟨h2,h⟩:=ah h
 ·exact ae 34 h2 (aU 2 1 (ag 3 (cJ 37 1 1 v2 10 0 (ab (ac 0 (wm hK (v2:=v2) h))))))
 ·exact ae 34 h2 (ac 2 (wm hK (v2:=v2) h))
theorem xv(hK:aj K)(h:jH K n v1=some r):aN Try.prog 65 [.agg (aA v1)] (fun v _=>v=.agg (aA r)):=by
 refine bd (cat Try.f65 (pn 1)) Try.func65 Try.ntmps65 fun M w0=>(ba ⟨[(0,.agg (aA v1))],[],[],[]⟩ ?_);unfold jH at h;refine aw 6 7 3 (Fo 1 1 0 fun v2=>(ag 3 (DD 131 3 #[(0,(.tmp 7)),(1,(.tmp 8)),(2,(.tmp 9))] 10 (e:=130) (sz:=1) (l:=lm aY [(v2,6),(v2,10),(v2,12)]) (ab (bt (ks':=[cB 58,.b 0,cB 15]) 4 ⟨[(1,.pp 1 v2 0),(2,.ptr 2 0),(3,.ref 10),(11,iI 0)],[(1,aA v1),(2,aA bQ)],[(10,⟨130,1,lm aY [(v2,6),(v2,10),(v2,12)]⟩)],[1,2,10]⟩ (mD 40 (c:=cat Try.f65 [1,1,0,1,0,0]) (by kernel_rfl) (bi (b8 (ks':=cB 3737 :: .b 1::cB 935::mZ M w0 r 39) 9 (bJ [1,2,3,4,11] [1,2] [10] (bT 2 (nu 14 [.ref 10,iI 0,.adr v2 14,.adr v2 14,iI 0,.adr v2 22,.adr v2 22,.sl (lm aY [(v2,14),(v2,22)])]) [] [] [jy 22 10 ⟨130,1,lm aY [(v2,6),(v2,10),(v2,12),(v2,14),(v2,22)]⟩,bN Try.prog 40 Try.f65 (pn 3737) 9] (aL [.v 0 1,.v 0 2,.v 0 2,.v 0 2,.v 0 2,.v 0 2,.v 0 2,.v 0 1] (am (gt (m:=0) (ct 22 10 130 1 aY (L:=([(v2,6),(v2,10),(v2,12)]:List (Nat×Nat))) (M:=([(v2,14),(v2,22)]:(List (Nat×Nat)))) (bytes:=8) (rfl) (fun _=>rfl) (by kernel_rfl))) (am (bO 1) bV))) (bt (ks':=mZ M w0 r 39) 2 ⟨[(1,.pp 1 v2 0),(2,.ptr 2 0),(3,.ref 10),(11,iI 1)],[(1,aA v1),(2,aA bQ)],[(10,⟨130,1,lm aY [(v2,6),(v2,10),(v2,12),(v2,14),(v2,22)]⟩)],[1,2,10]⟩ (bo (bi (gi 57 1 15 9 (bJ [1,2,3,4,11] [1,2] [10] (bT 2 (nu 14 [.ref 10,iI 1,.adr v2 14,.adr v2 16,iI 1,.adr v2 22,.adr v2 24,.sl (lm aY [(v2,16),(v2,24)])]) [] [] [jy 22 10 ⟨130,1,lm aY [(v2,6),(v2,10),(v2,12),(v2,14),(v2,22),(v2,16),(v2,24)]⟩,bN Try.prog 40 Try.f65 (pn 3737) 9] (aL [.v 0 1,.v 0 2,.v 0 2,.v 0 2,.v 0 2,.v 0 2,.v 0 2,.v 0 1] (am (gt (m:=0) (ct 22 10 130 1 aY (L:=([(v2,6),(v2,10),(v2,12),(v2,14),(v2,22)]:List (Nat×Nat))) (M:=([(v2,16),(v2,24)]:(List (Nat×Nat)))) (bytes:=8) (rfl) (fun _=>rfl) (by kernel_rfl))) (am (bO 1) bV))) (bt (ks':=mZ M w0 r 38) 2 ⟨[(1,.pp 1 v2 0),(2,.ptr 2 0),(3,.ref 10),(11,iI 2)],[(1,aA v1),(2,aA bQ)],[(10,⟨130,1,lm aY [(v2,6),(v2,10),(v2,12),(v2,14),(v2,22),(v2,16),(v2,24)]⟩)],[1,2,10]⟩ (bo (bi (gi 57 1 15 9 (bJ [1,2,3,4,11] [1,2] [10] (bT 2 (nu 14 [.ref 10,iI 2,.adr v2 14,.adr v2 18,iI 2,.adr v2 22,.adr v2 26,.sl (lm aY [(v2,18),(v2,26)])]) [] [] [jy 22 10 ⟨130,1,lm aY [(v2,6),(v2,10),(v2,12),(v2,14),(v2,22),(v2,16),(v2,24),(v2,18),(v2,26)]⟩,bN Try.prog 40 Try.f65 (pn 3737) 9] (aL [.v 0 1,.v 0 2,.v 0 2,.v 0 2,.v 0 2,.v 0 2,.v 0 2,.v 0 1] (am (gt (m:=0) (ct 22 10 130 1 aY (L:=([(v2,6),(v2,10),(v2,12),(v2,14),(v2,22),(v2,16),(v2,24)]:List (Nat×Nat))) (M:=([(v2,18),(v2,26)]:(List (Nat×Nat)))) (bytes:=8) (rfl) (fun _=>rfl) (by kernel_rfl))) (am (bO 1) bV))) (bt (ks':=mZ M w0 r 37) 2 ⟨[(1,.pp 1 v2 0),(2,.ptr 2 0),(3,.ref 10),(11,iI 3)],[(1,aA v1),(2,aA bQ)],[(10,⟨130,1,lm aY [(v2,6),(v2,10),(v2,12),(v2,14),(v2,22),(v2,16),(v2,24),(v2,18),(v2,26)]⟩)],[1,2,10]⟩ ?_)))))))))))))))))))))))
 refine bo (bi (gi 57 1 15 9 (bJ [1,2,3,4,11] [1,2] [10] (bT 2 (nu 14 [.ref 10,iI 3,.adr v2 14,.adr v2 20,iI 3,.adr v2 22,.adr v2 28,.sl (lm aY [(v2,20),(v2,28)])]) [] [] [jy 22 10 ⟨130,1,lm aY [(v2,6),(v2,10),(v2,12),(v2,14),(v2,22),(v2,16),(v2,24),(v2,18),(v2,26),(v2,20),(v2,28)]⟩,bN Try.prog 40 Try.f65 (pn 3737) 9] (aL [.v 0 1,.v 0 2,.v 0 2,.v 0 2,.v 0 2,.v 0 2,.v 0 2,.v 0 1] (am (gt (m:=0) (ct 22 10 130 1 aY (L:=([(v2,6),(v2,10),(v2,12),(v2,14),(v2,22),(v2,16),(v2,24),(v2,18),(v2,26)]:List (Nat×Nat))) (M:=([(v2,20),(v2,28)]:(List (Nat×Nat)))) (bytes:=8) (rfl) (fun _=>rfl) (by kernel_rfl))) (am (bO 1) bV))) (bt (ks':=mZ M w0 r 36) 2 ⟨[(1,.pp 1 v2 0),(2,.ptr 2 0),(3,.ref 10),(11,iI 4)],[(1,aA v1),(2,aA bQ)],[(10,⟨130,1,lm aY [(v2,6),(v2,10),(v2,12),(v2,14),(v2,22),(v2,16),(v2,24),(v2,18),(v2,26),(v2,20),(v2,28)]⟩)],[1,2,10]⟩ (bo (bi (BP 4 5 3 10 (ag 1 (ax (bu aY ([(v2,6),(v2,10),(v2,12),(v2,14),(v2,22),(v2,16),(v2,24),(v2,18),(v2,26),(v2,20),(v2,28)]:List (Nat×Nat))) (ab (bt (ks':=[cB 122,.b 2,cB 31]) 1 ⟨[(1,.pp 1 v2 0),(2,.ptr 2 0),(24,.ref 10),(25,iI 11),(26,iI 0)],[(1,aA v1),(2,aA bQ)],[(10,⟨130,1,lm aY [(v2,6),(v2,10),(v2,12),(v2,14),(v2,22),(v2,16),(v2,24),(v2,18),(v2,26),(v2,20),(v2,28)]⟩)],[1,2,10]⟩ (mD 40 (c:=cat Try.f65 [1,1,1,0,1,0,0]) (by kernel_rfl) (bi (b8 (ks':=cB 7832::cB 7833 :: .b 3::cB 1959::cE M w0 r 39) 8 (ag 0 (ax (dh 10 1 aY (L:=([(v2,6),(v2,10),(v2,12),(v2,14),(v2,22),(v2,16),(v2,24),(v2,18),(v2,26),(v2,20),(v2,28)]:List (Nat×Nat))) (i:=(0:Int)) (by kernel_rfl)) (ax (cA 130 0 aY aY (L:=([(v2,6),(v2,10),(v2,12),(v2,14),(v2,22),(v2,16),(v2,24),(v2,18),(v2,26),(v2,20),(v2,28)]:List (Nat×Nat))) (j:=(0:Int).toNat) (of_decide_eq_true (by kernel_rfl)) ((fun _=>rfl))) (ab (aw 2 3 1 (ag 3 (cJ 32 1 1 v2 6 0 (ab ?_)))))))))))))))))))))))
 obtain⟨h1,h⟩|⟨h1,h⟩:=ah h
 ·exact ae 34 h1 (aU 2 1 (ag 3 (cJ 37 1 1 v2 6 0 (ab (ac 0 (xM hK (v2:=v2) h))))))
 ·exact ae 34 h1 (ac 2 (xM hK (v2:=v2) h))
end
noncomputable section
variable(M:Nat→Prop)(w0:az)(r:Int)(v1:List ai)(v2:Fv)(v4:Int)(m1:Nat)(L1:Int→Option Int)
abbrev sJ:Cx:=⟨Try.prog,19,M,w0⟩
abbrev sY:=bodyPost Try.prog Try.f90 (br M w0 (fun v _=>v=iI r))
abbrev Eg(ks:List ak)(s:AS):=VE (sJ M w0) (sY M w0 r) ks .normal s
abbrev y8(n:Nat):ak:=.c (cat Try.f90 (pn n))
abbrev rT:List ak:=[.b 0,y8 7]
abbrev Ep:List ak:=kl (sJ M w0) (sY M w0 r) rT (cat Try.f90 (pn 52)) m1::rT
def zi:AS:=⟨[(0,.sl (lm aP v1)),(1,.fn v2.id v2.aM),(7,iI (v1.length:Int)),(8,iI v4)],[],[],[]⟩
abbrev AM:Prop:=∀{v4:Int},L1 v4=some r→LP (sJ M w0) (sY M w0 r) rT (cat Try.f90 (pn 52)) m1 (zi v1 v2 v4)
variable{M w0 r v1 v2 v4 m1 L1}{K:Kn}{n:Nat}
theorem GO(hK:aj K)(hL1:AM M w0 r v1 v2 m1 L1)(h:gK K n v1 v2 L1 v4=some r):Eg M w0 r (y8 52::Ep M w0 r m1) (zi v1 v2 v4):=by
 unfold gK at h;refine aw 6 7 3 ?_;obtain⟨h5,h⟩|⟨h5,h⟩:=ah h
 ·refine ae 9 h5 (cG 18 19 1 3 7 (ag 3 ?_));obtain⟨h6,h⟩:=aQ h;refine ax (bv aP aV h6 (ey) (dM)) (aE 5 1 ?_);obtain⟨v5,h7,h⟩:=bind_some h;refine jR (hK.nD h7) (ab ?_);obtain⟨h8,h⟩|⟨h8,h⟩:=ah h
  ·refine ae 16 h8 (aD 9 ?_);cases h;exact aZ
  ·exact ae 16 h8 (ac 4 (bo (hL1 h)))
 ·refine ae 9 h5 (aD 8 ?_);cases h;exact aZ
theorem Fe(hK:aj K)(m:Nat):AM M w0 r v1 v2 m (ly K n v1 v2 m):=by
 induction m with
 | zero=>intro v4 h;cases h
 | succ m ih=>intro v4 h;have h:gK K n v1 v2 (ly K n v1 v2 m) v4=some r:=h;exact bi (GO hK ih h)
theorem BN(hK:aj K)(h:py K n v1 v2=some r):aN Try.prog 90 [.sl (lm aP v1),.fn v2.id v2.aM] (fun v _=>v=iI r):=by
 refine bd (cat Try.f90 (pn 1)) Try.func90 Try.ntmps90 fun M w0=>(ba ⟨[(0,.sl (lm aP v1)),(1,.fn v2.id v2.aM)],[],[],[]⟩ ?_);unfold py at h;exact bL 12 13 7 4 (ag 1 (ax (bu aP v1) (ab (ac 1 (cf (p:=pn 26) n (Fe hK n h))))))
end
noncomputable section
variable(M:Nat→Prop)(w0:az)(r:Bool)(v1:List ai)(v2:Fv)  
variable{M w0 r v1 v2}{K:Kn}{n:Nat}
theorem Gi(hK:aj K)(h:mT K n v1 v2=some r):aN Try.prog 86 [.sl (lm aP v1),.fn v2.id v2.aM] (fun v _=>v=.bool r):=by
 refine bd (cat Try.f86 (pn 1)) Try.func86 Try.ntmps86 fun M w0=>(ba ⟨[(0,.sl (lm aP v1)),(1,.fn v2.id v2.aM)],[],[],[]⟩ ?_);unfold mT at h;refine aw 6 7 3 (ag 2 ?_);obtain⟨v3,h1,h⟩:=bind_some h;refine aG (BN hK h1) (ab (aD 1 ?_));cases h;exact aZ
end
noncomputable section
variable(M:Nat→Prop)(w0:az)(r:(List ai)×Bool)(v1:ai)(v8:Int)(v9 v11:(List ai))(m1:Nat)(L1:Int→(List ai)→Option ((List ai)×Bool))
abbrev tq:Cx:=⟨Try.prog,24,M,w0⟩
abbrev uf:=bodyPost Try.prog Try.f75 (br M w0 (fun v _=>v=.tup [.sl (lm aP r.1),.bool r.2]))
abbrev wN(ks:List ak)(s:AS):=VE (tq M w0) (uf M w0 r) ks .normal s
abbrev sO(n:Nat):ak:=.c (cat Try.f75 (pn n))
abbrev sn:List ak:=[.b 0,sO 15]
abbrev ye:List ak:=kl (tq M w0) (uf M w0 r) sn (cat Try.f75 (pn 116)) m1::sn
def GX:AS:=⟨[(4,.ref 19),(8,.sl (lm aP v1.Kids)),(9,iI (v1.Kids.length:Int)),(10,iI v8)],[],[(19,⟨72,59,lm aP v11⟩)],[19]⟩
def z8:AS:=⟨[(4,.ref 19),(8,.sl (lm aP v1.Kids)),(9,iI (v1.Kids.length:Int)),(10,iI v8)],[],[(19,⟨72,59,lm aP v9⟩)],[19]⟩
abbrev rC:Prop:=∀{v8:Int} {v9:(List ai)},L1 v8 v9=some r→LP (tq M w0) (uf M w0 r) sn (cat Try.f75 (pn 116)) m1 (z8 v1 v8 v9)
variable{M w0 r v1 v8 v9 v11 m1 L1}{K:Kn}{n:Nat}
theorem xw(hK:aj K)(hL1:rC M w0 r v1 m1 L1)(h:nR K n v1 v8 L1 v11=some r):wN M w0 r (.b 1::sO 935::ye M w0 r m1) (GX v1 v8 v11):=by
 unfold nR at h;exact ac 2 (bo (hL1 h))
theorem E9(hK:aj K)(hL1:rC M w0 r v1 m1 L1)(h:gx K n v1 L1 v8 v9=some r):wN M w0 r (sO 116::ye M w0 r m1) (z8 v1 v8 v9):=by
 unfold gx at h;refine aw 6 7 3 ?_;obtain⟨h13,h⟩|⟨h13,h⟩:=ah h
 ·refine ae 11 h13 (cG 8 9 1 3 5 (ag 0 ?_));obtain⟨h14,h⟩:=aQ h;refine ax (bv aP aV h14 (ey) (dM)) (ab (aw 2 3 1 (ag 1 ?_)));obtain⟨v10,h15,h⟩:=bind_some h;refine aG (yN hK h15) (ab ?_);obtain⟨h16,h⟩|⟨h16,h⟩:=ah h
  ·refine ae 15 h16 (aU 2 1 (ag 2 (ax (eV aP ([(gD v1.Kids v8)]:List ai) (new:=[aV (gD v1.Kids v8)]) (by simp only[List.map_cons,List.map_nil,dM])) ?_)));obtain⟨h17,h⟩:=aQ h;exact ax (ct 19 19 72 59 aP (rfl) (ey) h17) (ab (ac 0 (xw hK hL1 h)))
  ·exact ae 15 h16 (ac 2 (xw hK hL1 h))
 ·refine ae 11 h13 (km 2 3 6 (ag 2 (kY 19 ?_)));obtain⟨v12,h18,h⟩:=bind_some h;refine aG (Gi hK h18) (ab (aD 1 ?_));cases h;exact fj
theorem Hr(hK:aj K)(m:Nat):rC M w0 r v1 m (lS K n v1 m):=by
 induction m with
 | zero=>intro v8 v9 h;cases h
 | succ m ih=>intro v8 v9 h;have h:gx K n v1 (lS K n v1 m) v8 v9=some r:=h;exact bi (E9 hK ih h)
theorem yt(hK:aj K)(h:gR K n v1=some r):aN Try.prog 75 [.agg (aV v1)] (fun v _=>v=.tup [.sl (lm aP r.1),.bool r.2]):=by
 refine bd (cat Try.f75 (pn 1)) Try.func75 Try.ntmps75 fun M w0=>(ba ⟨[(0,.agg (aV v1))],[],[],[]⟩ ?_);unfold gR at h;exact bL 28 29 15 6 (ag 2 (ax (bu aP v1.Kids) (ab (fQ 2 0 1 (bJ [4,8,9,10] [] [] (fr 19 4 72 59 (ac 0 (cf (p:=pn 58) n (Hr hK n h)))))))))
end
noncomputable section
variable(M:Nat→Prop)(w0:az)(r:Int×Int)(v1:ai)(v2:bW)(v6:(List ai)×Bool)(v11 v12 v13:Int)(m1:Nat)(L1:Int→Int→Int→Option (Int×Int))
abbrev sk:Cx:=⟨Try.prog,71,M,w0⟩
abbrev sP:=bodyPost Try.prog Try.f60 (br M w0 (fun v _=>v=.tup [iI r.1,iI r.2]))
abbrev IC(ks:List ak)(s:AS):=VE (sk M w0) (sP M w0 r) ks .normal s
abbrev A4(n:Nat):ak:=.c (cat Try.f60 (pn n))
abbrev sB:List ak:=[.b 0,A4 63]
abbrev Fz:List ak:=kl (sk M w0) (sP M w0 r) sB (cat Try.f60 (pn 500)) m1::sB
def xZ:AS:=⟨[(3,.ptr 3 0),(4,iI v11),(5,iI v12),(47,.sl (lm aP v6.1)),(48,iI (v6.1.length:Int)),(49,iI v13)],[(3,cg v2)],[],[3]⟩
abbrev yj:Prop:=∀{v11:Int} {v12:Int} {v13:Int},L1 v11 v12 v13=some r→LP (sk M w0) (sP M w0 r) sB (cat Try.f60 (pn 500)) m1 (xZ v2 v6 v11 v12 v13)
variable{M w0 r v1 v2 v6 v11 v12 v13 m1 L1}{K:Kn}{n:Nat}
theorem DS(hK:aj K)(hL1:yj M w0 r v2 v6 m1 L1)(h:o5 K n v2 v6 L1 v11 v12 v13=some r):IC M w0 r (A4 500::Fz M w0 r m1) (xZ v2 v6 v11 v12 v13):=by
 unfold o5 at h;refine aw 6 7 3 ?_;obtain⟨h13,h⟩|⟨h13,h⟩:=ah h
 ·refine ae 50 h13 (cG 8 9 1 3 5 (ag 0 ?_));obtain⟨h14,h⟩:=aQ h;refine ax (bv aP aV h14 (ey) (dM)) (ab (aw 2 3 1 (ag 3 ?_)));obtain⟨v14,h15,h⟩:=bind_some h;exact jR (hK.o8 h15) (ab (ac 3 (bo (hL1 h))))
 ·refine ae 50 h13 (km 2 3 6 (ag 1 ?_));obtain⟨v15,h16,h⟩:=bind_some h;refine aG (eC hK h16) (aE 3 1 ?_);obtain⟨v16,h17,h⟩:=bind_some h;refine aG (eC hK h17) (ab (aD 1 ?_));cases h;exact fj
theorem FR(hK:aj K)(m:Nat):yj M w0 r v2 v6 m (pE K n v2 v6 m):=by
 induction m with
 | zero=>intro v11 v12 v13 h;cases h
 | succ m ih=>intro v11 v12 v13 h;have h:o5 K n v2 v6 (pE K n v2 v6 m) v11 v12 v13=some r:=h;exact bi (DS hK ih h)
theorem wF(hK:aj K)(h:lq K n v1 v2=some r):aN Try.prog 60 [.agg (aV v1),.agg (cg v2)] (fun v _=>v=.tup [iI r.1,iI r.2]):=by
 refine bd (cat Try.f60 (pn 1)) Try.func60 Try.ntmps60 fun M w0=>(ba ⟨[(0,.agg (aV v1)),(1,.agg (cg v2))],[],[],[]⟩ ?_);unfold lq at h;refine bL 12 13 7 4 (ag 2 ?_);obtain⟨v3,h1,h⟩:=bind_some h;refine aG (xv hK h1) (aE 4 1 ?_);obtain⟨v4,h2,h⟩:=bind_some h;refine aG (dd hK h2) (ab (aU 3 2 ?_));obtain⟨h3,h⟩|⟨h3,h⟩:=ah h
 ·refine ae 22 h3 (aw 4 5 2 (ag 1 ?_));obtain⟨v5,h4,h⟩:=bind_some h;refine aG (eC hK h4) (ab (aD 4 ?_));cases h;exact fj
 ·refine ae 22 h3 (fM 2 3 3 (ag 1 ?_));obtain⟨v6,h5,h⟩:=bind_some h;refine aG (yt hK h5) (ab (aw 5 3 3 ?_));obtain⟨h6,h⟩|⟨h6,h⟩:=ah h
  ·refine ae 33 h6 (aw 4 5 2 (ag 5 ?_));obtain⟨v7,h7,h⟩:=bind_some h;refine jR (hK.qL h7) (ab (aw 2 3 1 (ag 1 ?_)));obtain⟨v8,h8,h⟩:=bind_some h;refine aG (eC hK h8) (aE 3 1 ?_);obtain⟨v9,h9,h⟩:=bind_some h;refine aG (eC hK h9) (ab (aD 2 ?_));cases h;exact fj
  ·exact ae 33 h6 (l8 4 5 3 4 (ag 1 (ax (bu aP v6.1) (ab (ac 1 (cf (p:=pn 250) n (FR hK n h)))))))
end
noncomputable section
variable(M:Nat→Prop)(w0:az)(r:Int)(v1:aF)(v2 v3 v5 v7:Int)  
abbrev xH(n:Nat):ak:=.c (cat Try.f61 (pn n))
abbrev Iz:Cx:=⟨Try.prog,37,M,w0⟩
abbrev FL:=bodyPost Try.prog Try.f61 (br M w0 (fun v _=>v=iI r))
abbrev zS(ks:List ak)(s:AS):=VE (Iz M w0) (FL M w0 r) ks .normal s
def I6:AS:=⟨[(2,iI v7)],[],[],[]⟩
def E5:AS:=⟨[(1,iI v2),(2,iI v5),(3,.ptr 3 0)],[(3,aA v1)],[],[3]⟩
variable{M w0 r v1 v2 v3 v5 v7}{K:Kn}{n:Nat}
theorem yV(hK:aj K)(h:oi K n v7=some r):zS M w0 r [xH 31] (I6 v7):=by
 unfold oi at h;refine aD 3 ?_;cases h;exact aZ
theorem zq(hK:aj K)(h:ov K n v1 v2 v5=some r):zS M w0 r [xH 15] (E5 v1 v2 v5):=by
 unfold ov at h;refine bL 4 5 3 2 (ag 3 ?_);obtain⟨v6,h3,h⟩:=bind_some h;refine aG (dd hK h3) (ab (aU 3 2 ?_));obtain⟨h4,h⟩|⟨h4,h⟩:=ah h
 ·exact ae 32 h4 (ac 2 (yV hK h))
 ·exact ae 32 h4 (ac 2 (yV hK h))
theorem oO(hK:aj K)(h:ic K n v1 v2 v3=some r):aN Try.prog 61 [.agg (aA v1),iI v2,iI v3] (fun v _=>v=iI r):=by
 refine bd (cat Try.f61 (pn 1)) Try.func61 Try.ntmps61 fun M w0=>(ba ⟨[(0,.agg (aA v1)),(1,iI v2),(2,iI v3)],[],[],[]⟩ ?_);unfold ic at h;refine bL 28 29 15 6 (ag 3 ?_);obtain⟨v4,h1,h⟩:=bind_some h;refine aG (dd hK h1) (ab (aU 3 2 ?_));obtain⟨h2,h⟩|⟨h2,h⟩:=ah h
 ·exact ae 20 h2 (ac 2 (zq hK h))
 ·exact ae 20 h2 (ac 2 (zq hK h))
end
noncomputable section
variable(M:Nat→Prop)(w0:az)(r:Int)(v1:ai)(v2:Int)(v3:bW)(v9:Int)  
abbrev FQ(n:Nat):ak:=.c (cat Try.f44 (pn n))
abbrev C5:Cx:=⟨Try.prog,46,M,w0⟩
abbrev GK:=bodyPost Try.prog Try.f44 (br M w0 (fun v _=>v=iI r))
abbrev Ga(ks:List ak)(s:AS):=VE (C5 M w0) (GK M w0 r) ks .normal s
def CR:AS:=⟨[(1,iI v2),(3,.ptr 3 0),(7,iI v9)],[(3,aV v1)],[],[3]⟩
variable{M w0 r v1 v2 v3 v9}{K:Kn}{n:Nat}
theorem zp(hK:aj K)(h:mQ K n v1 v2 v9=some r):Ga M w0 r [FQ 15] (CR v1 v2 v9):=by
 unfold mQ at h;refine aw 2 3 1 (ag 4 ?_);obtain⟨v10,h7,h⟩:=bind_some h;refine aG (oO hK h7) (ab (aD 1 ?_));cases h;exact aZ
theorem Gn(hK:aj K)(h:nO K n v1 v2 v3=some r):aN Try.prog 44 [.agg (aV v1),iI v2,.agg (cg v3)] (fun v _=>v=iI r):=by
 refine bd (cat Try.f44 (pn 1)) Try.func44 Try.ntmps44 fun M w0=>(ba ⟨[(0,.agg (aV v1)),(1,iI v2),(2,.agg (cg v3))],[],[],[]⟩ ?_);unfold nO at h;refine aw 6 7 3 (ag 4 ?_);obtain⟨v4,h1,h⟩:=bind_some h;refine aG (dd hK h1) (ab (aw 5 3 3 ?_));obtain⟨h2,h⟩|⟨h2,h⟩:=ah h
 ·refine ae 21 h2 (aw 4 5 2 (ag 2 ?_));obtain⟨v5,h3,h⟩:=bind_some h;refine aG (wF hK h3) (ab (aw 2 3 1 (bJ [1,3,9,10] [3] [] ?_)));obtain⟨v6,h4,h⟩:=bind_some h;obtain⟨v7,h5,h⟩:=bind_some h;obtain⟨v8,h6,h⟩:=bind_some h;exact bT 1 (nu 28 [iI v2,iI v6,.ptr 3 2,.agg (aA v1.Style),iI v2,.agg (bq v7),iI v8,iI (aa (v6-v8))]) [] [] [bN Try.prog 46 Try.f44 (pn 234) 8] (aL [.v 0 1] (am (bX 0 1 29 (eC hK h4)) (aL (vz 3) (am (bX 0 1 33 (nn hK h5)) (am (bX 0 1 34 (kD hK h6)) (aL [.v 0 1] (am (bO 0) bV))))))) (ac 1 (zp hK h))
 ·exact ae 21 h2 (ac 2 (zp hK h))
end
noncomputable section
variable(M:Nat→Prop)(w0:az)(r v1:af)(v2:Int)(v3:Int×Bool)(v5:Int)  
abbrev HI(n:Nat):ak:=.c (cat Try.f45 (pn n))
abbrev Fx:Cx:=⟨Try.prog,45,M,w0⟩
abbrev D4:=bodyPost Try.prog Try.f45 (br M w0 (fun v _=>v=.agg (aK r)))
abbrev EC(ks:List ak)(s:AS):=VE (Fx M w0) (D4 M w0 r) ks .normal s
def B5:AS:=⟨[(2,.ptr 2 0),(4,.ptr 4 0)],[(2,aK ({ v1 with X:=(aa (v1.X+v3.1)),Y:=v5 }:af)),(4,List.set (aK bl) 66 (.nils))],[],[2,4]⟩
variable{M w0 r v1 v2 v3 v5}{K:Kn}{n:Nat}
theorem yc(hK:aj K)(h:mX K n v1 v3 v5=some r):EC M w0 r [HI 63] (B5 v1 v3 v5):=by
 unfold mX at h;refine aD 3 ?_;cases h;exact aZ
theorem xF(hK:aj K)(h:ls K n v1 v2=some r):aN Try.prog 45 [.agg (aK v1),iI v2] (fun v _=>v=.agg (aK r)):=by
 refine bd (cat Try.f45 (pn 1)) Try.func45 Try.ntmps45 fun M w0=>(ba ⟨[(0,.agg (aK v1)),(1,iI v2)],[],[],[]⟩ ?_);unfold ls at h;refine aw 13 7 5 ?_;obtain⟨h1,h⟩|⟨h1,h⟩:=ah h
 ·refine ae 12 h1 (aD 5 ?_);cases h;exact aZ
 ·refine ae 12 h1 (fM 2 3 3 (ag 4 ?_));obtain⟨v3,h2,h⟩:=bind_some h;refine aG (dd hK h2) (ab (aw 13 7 5 ?_));obtain⟨h3,h⟩|⟨h3,h⟩:=ah h
  ·refine ae 31 h3 (aw 4 5 2 (ag 3 ?_));obtain⟨v4,h4,h⟩:=bind_some h;exact aG (dd hK h4) (ab (ac 1 (yc hK h)))
  ·exact ae 31 h3 (ac 2 (yc hK h))
end
noncomputable section
variable(M:Nat→Prop)(w0:az)(r:Int)(v1:aJ)  
variable{M w0 r v1}{K:Kn}{n:Nat}
theorem kC(hK:aj K)(h:fX K n v1=some r):aN Try.prog 48 [.agg (bA v1)] (fun v _=>v=iI r):=by
 refine bd (cat Try.f48 (pn 1)) Try.func48 Try.ntmps48 fun M w0=>(ba ⟨[(0,.agg (bA v1))],[],[],[]⟩ ?_);unfold fX at h;refine aD 5 ?_;cases h;exact aZ
end
noncomputable section
variable(M:Nat→Prop)(w0:az)(r:aJ)(v1 v2:aJ)  
variable{M w0 r v1 v2}{K:Kn}{n:Nat}
theorem mJ(hK:aj K)(h:gG K n v1 v2=some r):aN Try.prog 79 [.agg (bA v1),.agg (bA v2)] (fun v _=>v=.agg (bA r)):=by
 refine bd (cat Try.f79 (pn 1)) Try.func79 Try.ntmps79 fun M w0=>(ba ⟨[(0,.agg (bA v1)),(1,.agg (bA v2))],[],[],[]⟩ ?_);unfold gG at h;refine aD 5 ?_;cases h;exact aZ
end
noncomputable section
variable(M:Nat→Prop)(w0:az)(r:(List af)×Int×aJ×aJ×Bool)(v1:List af)(v16:Int)(v17:Bool)(v18:Int)(v19 v20:aJ)(v21:List af)(v22:aJ)(v24:Int)(v25:aJ)(v26:Int)(v27:Bool)(v28 v29 v30:aJ)(m1:Nat)(L1:Int→Bool→Int→aJ→aJ→(List af)→Option ((List af)×Int×aJ×aJ×Bool))
abbrev tT:Cx:=⟨Try.prog,52,M,w0⟩
abbrev tE:=bodyPost Try.prog Try.f76 (br M w0 (fun v s=>v=.tup [.ref 43,iI r.2.1,.agg (bA r.2.2.1),.agg (bA r.2.2.2.1),.bool r.2.2.2.2]∧look 43 s.r=some ⟨64,67,lm aB r.1⟩))
abbrev nf(ks:List ak)(s:AS):=VE (tT M w0) (tE M w0 r) ks .normal s
abbrev fx(n:Nat):ak:=.c (cat Try.f76 (pn n))
abbrev sT:List ak:=[.b 0,fx 31]
abbrev pa:List ak:=kl (tT M w0) (tE M w0 r) sT (cat Try.f76 (pn 244)) m1::sT
def C2:AS:=⟨[(2,.ref 43),(3,iI v26),(4,.ptr 4 0),(5,.ptr 5 0),(6,.bool v27),(7,.ptr 7 0),(9,.ptr 9 0),(10,.sl (lm aB v1)),(11,iI (v1.length:Int)),(12,iI v18)],[(4,bA v28),(5,bA cr),(7,bA v29),(9,aK ({ (gD v1 v18)with Y:=v24 }:af))],[(43,⟨64,67,lm aB v21⟩)],[4,5,7,9,43]⟩
def Ej:AS:=⟨[(2,.ref 43),(4,.ptr 4 0),(5,.ptr 5 0),(7,.ptr 7 0),(9,.ptr 9 0),(10,.sl (lm aB v1)),(11,iI (v1.length:Int)),(12,iI v18)],[(4,bA v25),(5,bA cr),(7,bA v22),(9,aK ({ (gD v1 v18)with Y:=v24 }:af))],[(43,⟨64,67,lm aB v21⟩)],[4,5,7,9,43]⟩
def JC:AS:=⟨[(2,.ref 43),(3,iI v16),(4,.ptr 4 0),(5,.ptr 5 0),(6,.bool v17),(7,.ptr 7 0),(9,.ptr 9 0),(10,.sl (lm aB v1)),(11,iI (v1.length:Int)),(12,iI v18)],[(4,bA v19),(5,bA cr),(7,bA v22),(9,aK ({ (gD v1 v18)with Y:=v24 }:af))],[(43,⟨64,67,lm aB v21⟩)],[4,5,7,9,43]⟩
def FF:AS:=⟨[(2,.ref 43),(3,iI v16),(4,.ptr 4 0),(5,.ptr 5 0),(6,.bool v17),(7,.ptr 7 0)],[(4,bA v30),(5,bA cr),(7,bA v20)],[(43,⟨64,67,lm aB v21⟩)],[4,5,7,43]⟩
def Bj:AS:=⟨[(2,.ref 43),(3,iI v16),(4,.ptr 4 0),(5,.ptr 5 0),(6,.bool v17),(7,.ptr 7 0),(10,.sl (lm aB v1)),(11,iI (v1.length:Int)),(12,iI v18)],[(4,bA v19),(5,bA cr),(7,bA v20)],[(43,⟨64,67,lm aB v21⟩)],[4,5,7,43]⟩
abbrev mm:Prop:=∀{v16:Int} {v17:Bool} {v18:Int} {v19:aJ} {v20:aJ} {v21:(List af)},L1 v16 v17 v18 v19 v20 v21=some r→LP (tT M w0) (tE M w0 r) sT (cat Try.f76 (pn 244)) m1 (Bj v1 v16 v17 v18 v19 v20 v21)
variable{M w0 r v1 v16 v17 v18 v19 v20 v21 v22 v24 v25 v26 v27 v28 v29 v30 m1 L1}{K:Kn}{n:Nat}
theorem Bg(hK:aj K)(hL1:mm M w0 r v1 m1 L1)(h:qS K n v1 v18 v21 v24 L1 v26 v27 v28 v29=some r):nf M w0 r (fx 125343 :: .b 1::fx 1959::pa M w0 r m1) (C2 v1 v18 v21 v24 v26 v27 v28 v29):=by
 unfold qS at h;refine ag 2 (ax (eV aB ([({ (gD v1 v18)with Y:=v24 }:af)]:List af) (new:=[aK ({ (gD v1 v18)with Y:=v24 }:af)]) (by simp only[List.map_cons,List.map_nil,cT])) ?_);obtain⟨h22,h⟩:=aQ h;exact ax (ct 43 43 64 67 aB (rfl) (eY) h22) (ab (ac 2 (bo (hL1 h))))
theorem A8(hK:aj K)(hL1:mm M w0 r v1 m1 L1)(h:pK K n v1 v18 v21 v22 v24 L1 v25=some r):nf M w0 r (fx 1002741::fx 125343 :: .b 1::fx 1959::pa M w0 r m1) (Ej v1 v18 v21 v22 v24 v25):=by
 unfold pK at h;exact ac 5 (Bg hK hL1 h)
theorem AN(hK:aj K)(hL1:mm M w0 r v1 m1 L1)(h:o3 K n v1 v16 v17 v18 v19 v21 v22 L1 v24=some r):nf M w0 r (fx 62671 :: .b 1::fx 1959::pa M w0 r m1) (JC v1 v16 v17 v18 v19 v21 v22 v24):=by
 unfold o3 at h;refine aw 5 3 3 ?_;obtain⟨h20,h⟩|⟨h20,h⟩:=ah h
 ·refine ae 30 h20 (aw 9 5 4 ?_);obtain⟨h21,h⟩|⟨h21,h⟩:=ah h
  ·exact ae 31 h21 (ac 2 (A8 hK hL1 h))
  ·exact ae 31 h21 (ac 2 (A8 hK hL1 h))
 ·exact ae 30 h20 (ac 2 (Bg hK hL1 h))
theorem Al(hK:aj K)(h:px K n v16 v17 v20 v21 v30=some r):nf M w0 r [fx 63] (FF v16 v17 v20 v21 v30):=by
 unfold px at h;refine aw 2 3 1 (bJ [2,3,4,5,6,7] [4,5,7] [43] (bT 5 (nu 47 [.ref 43,iI v16,.agg (bA v30),.agg (bA v20),.bool v17]) [] [] [bN Try.prog 52 Try.f76 (pn 126) 5,bN Try.prog 52 Try.f76 (pn 126) 6,bN Try.prog 52 Try.f76 (pn 126) 7,bN Try.prog 52 Try.f76 (pn 126) 8,bN Try.prog 52 Try.f76 (pn 126) 9] (aL [.v 0 1,.v 0 2,.v 0 3,.v 0 4,.v 0 5] (am (bO 0) (am (bO 1) (am (bO 2) (am (bO 3) (am (bO 4) bV)))))) (aD 1 ?_)));cases h;exact pM
theorem DB(hK:aj K)(hL1:mm M w0 r v1 m1 L1)(h:pG K n v1 L1 v16 v17 v18 v19 v20 v21=some r):nf M w0 r (fx 244::pa M w0 r m1) (Bj v1 v16 v17 v18 v19 v20 v21):=by
 unfold pG at h;refine aw 6 7 3 ?_;obtain⟨h15,h⟩|⟨h15,h⟩:=ah h
 ·refine ae 13 h15 (cG 8 9 1 3 5 (ag 0 ?_));obtain⟨h16,h⟩:=aQ h;refine ax (bv aB aK h16 (eY) (cT)) (ab (aw 2 3 1 (ag 3 ?_)));obtain⟨v22,h17,h⟩:=bind_some h;refine aG (mJ hK h17) (ab (aw 13 7 5 ?_));obtain⟨h18,h⟩|⟨h18,h⟩:=ah h
  ·refine ae 22 h18 (aU 2 1 (ag 2 ?_));obtain⟨v23,h19,h⟩:=bind_some h;exact aG (kC hK h19) (ab (ac 0 (AN hK hL1 h)))
  ·exact ae 22 h18 (ac 2 (AN hK hL1 h))
 ·refine ae 13 h15 (km 5 3 8 ?_);obtain⟨h23,h⟩|⟨h23,h⟩:=ah h
  ·exact ae 45 h23 (ac 2 (Al hK h))
  ·exact ae 45 h23 (ac 2 (Al hK h))
theorem DA(hK:aj K)(m:Nat):mm M w0 r v1 m (qe K n v1 m):=by
 induction m with
 | zero=>intro v16 v17 v18 v19 v20 v21 h;cases h
 | succ m ih=>intro v16 v17 v18 v19 v20 v21 h;have h:pG K n v1 (qe K n v1 m) v16 v17 v18 v19 v20 v21=some r:=h;exact bi (DB hK ih h)
theorem IG(hK:aj K)(h:tZ K n v1=some r):aN Try.prog 76 [.sl (lm aB v1)] (fun v s=>v=.tup [.ref 43,iI r.2.1,.agg (bA r.2.2.1),.agg (bA r.2.2.2.1),.bool r.2.2.2.2]∧look 43 s.r=some ⟨64,67,lm aB r.1⟩):=by
 refine bd (cat Try.f76 (pn 1)) Try.func76 Try.ntmps76 fun M w0=>(ba ⟨[(0,.sl (lm aB v1))],[],[],[]⟩ ?_);unfold tZ at h;exact bL 60 61 31 8 (ag 1 (ax (bu aB v1) (ab (fQ 2 0 1 (bJ [2,3,4,5,6,7,10,11,12] [4,5,7] [] (fr 43 2 64 67 (ac 0 (cf (p:=pn 122) n (DA hK n h)))))))))
end
noncomputable section
variable(M:Nat→Prop)(w0:az)(r v1:List af)  
variable{M w0 r v1}{K:Kn}{n:Nat}
theorem FW(hK:aj K)(h:ni K n v1=some r):aN Try.prog 77 [.sl (lm aB v1)] (fun v s=>v=.ref 5∧look 5 s.r=some ⟨64,67,lm aB r⟩):=by
 refine bd (cat Try.f77 (pn 1)) Try.func77 Try.ntmps77 fun M w0=>(ba ⟨[(0,.sl (lm aB v1))],[],[],[]⟩ ?_);unfold ni at h;refine bL 12 13 7 4 (ag 1 ?_);refine Fs (aR Try.f77 (pn 12) 1) (.eql) 39 39 (.tmp 3) (.const (.slice none 0 0)) 4 (lm aB v1) (r:=aI Try.f77 (pn 12) 2) (e:=64) (by kernel_rfl) (by kernel_rfl) (by kernel_rfl) (by kernel_rfl) (by kernel_rfl) (by kernel_rfl) (by kernel_rfl) (by kernel_rfl) (fun hq=>?_) ?_
 ·have h:=Em (by simpa using hq) h;refine ab (aD 5 (fr 5 2 64 67 ?_));cases h;exact eu
 ·have h:=GN h;refine ab (fM 2 3 3 (ag 0 (JT 39 5 (e:=64) (sz:=67) (aE 2 1 ?_))));obtain⟨h2,h⟩:=aQ h;refine ax (ct 7 5 64 67 aB (rfl) (eY) h2) (ab (aD 1 ?_));cases h;exact eu
end
noncomputable section
variable(M:Nat→Prop)(w0:az)(r:aJ)(v1:Int)  
variable{M w0 r v1}{K:Kn}{n:Nat}
theorem xg(hK:aj K)(h:mj K n v1=some r):aN Try.prog 78 [iI v1] (fun v _=>v=.agg (bA r)):=by
 refine bd (cat Try.f78 (pn 1)) Try.func78 Try.ntmps78 fun M w0=>(ba ⟨[(0,iI v1)],[],[],[]⟩ ?_);unfold mj at h;refine aD 5 ?_;cases h;exact aZ
end
noncomputable section
variable(M:Nat→Prop)(w0:az)(r:Int)(v1:bn)  
variable{M w0 r v1}{K:Kn}{n:Nat}
theorem EI(hK:aj K)(h:uv K n v1=some r):aN Try.prog 80 [.agg (bq v1)] (fun v _=>v=iI r):=by
 refine bd (cat Try.f80 (pn 1)) Try.func80 Try.ntmps80 fun M w0=>(ba ⟨[(0,.agg (bq v1))],[],[],[]⟩ ?_);unfold uv at h;refine aD 5 ?_;cases h;exact aZ
end
end Go.Proofs.Ytnpmlepplfaijaa

/- The runs of the functions that InlineText reaches do what their plain forms say, part 0. Made by a program. -/
import Derived.Test.YtnpmlepplfaijaaItGk
namespace Go.Proofs.Ytnpmlepplfaijaa
open Go.RowKit
set_option maxRecDepth 20000
set_option linter.all false
set_option linter.unusedVariables false
set_option linter.unusedSimpArgs false
noncomputable section
variable(M:Nat→Prop)(w0:ay)(r v1:Int)  
variable{M w0 r v1}{K:Kn}{n:Nat}
theorem qU(hK:ak K)(h:jI K n v1=some r):aH Try.prog 50 [iI v1] (fun v _=>v=iI r):=by
 refine bc (cat Try.f50 (pn 1)) Try.func50 Try.ntmps50 fun M w0=>(aZ ⟨[(0,iI v1)],[],[],[]⟩ ?_);unfold jI at h;refine aD 5 ?_;cases h;exact aY
end
noncomputable section
variable(M:Nat→Prop)(w0:ay)(r v1:Int)  
variable{M w0 r v1}{K:Kn}{n:Nat}
theorem Ch(hK:ak K)(h:nI K n v1=some r):aH Try.prog 25 [iI v1] (fun v _=>v=iI r):=by
 refine bc (cat Try.f25 (pn 1)) Try.func25 Try.ntmps25 fun M w0=>(aZ ⟨[(0,iI v1)],[],[],[]⟩ ?_);unfold nI at h;refine av 6 7 3 (ah 1 ?_);obtain⟨v2,h1,h⟩:=bind_some h;refine aE (qU hK h1) (ab (aD 1 ?_));cases h;exact aY
end
noncomputable section
variable(M:Nat→Prop)(w0:ay)(r v1:Int)  
variable{M w0 r v1}{K:Kn}{n:Nat}
theorem De(hK:ak K)(h:pr K n v1=some r):aH Try.prog 26 [iI v1] (fun v _=>v=iI r):=by
 refine bc (cat Try.f26 (pn 1)) Try.func26 Try.ntmps26 fun M w0=>(aZ ⟨[(0,iI v1)],[],[],[]⟩ ?_);unfold pr at h;refine av 6 7 3 (ah 1 ?_);obtain⟨v2,h1,h⟩:=bind_some h;refine aE (qU hK h1) (aL 3 1 ?_);obtain⟨v3,h2,h⟩:=bind_some h;refine aE (qU hK h2) (ab (aD 1 ?_));cases h;exact aY
end
noncomputable section
variable(M:Nat→Prop)(w0:ay)(r:Int×Int)(v1:aB)  
variable{M w0 r v1}{K:Kn}{n:Nat}
theorem qS(hK:ak K)(h:g7 K n v1=some r):aH Try.prog 9 [.agg (aA v1)] (fun v _=>v=.tup [iI r.1,iI r.2]):=by
 refine bc (cat Try.f9 (pn 1)) Try.func9 Try.ntmps9 fun M w0=>(aZ ⟨[(0,.agg (aA v1))],[],[],[]⟩ ?_);unfold g7 at h;refine av 14 15 5 (bS [1,4] [1] [] ?_);obtain⟨v2,h1,h⟩:=bind_some h;obtain⟨v3,h2,h⟩:=bind_some h;refine cg 1 (nu 8 [.ptr 1 37,iI v1.FontSize,iI v2,iI (max v1.LineHeight 0),.ptr 1 37,iI v1.FontSize,iI v3,iI (aa ((max v1.LineHeight 0)-v3)),iI ((aa ((max v1.LineHeight 0)-v3)) / 2),iI (aa (v2+((aa ((max v1.LineHeight 0)-v3)) / 2)))]) [] [] [bV Try.prog 22 Try.f9 (pn 14) 10] (aO (vz 2) (ao (ci 0 1 10 (Ch hK h1)) (aO (vz 3) (ao (ci 0 1 14 (De hK h2)) (aO (vz 3) (ao (bW 0) ce)))))) (aD 3 ?_);cases h;exact fW
end
noncomputable section
variable(M:Nat→Prop)(w0:ay)(r:Int)(v1:List aq)(v2 v4:Int)(v5:Bool)(m1:Nat)(L1:Int→Option Int)
abbrev wT:Cx:=⟨Try.prog,22,M,w0⟩
abbrev wM:=bodyPost Try.prog Try.f30 (bo M w0 (fun v _=>v=iI r))
abbrev A9(ks:List am)(s:AS):=VE (wT M w0) (wM M w0 r) ks .normal s
abbrev ry(n:Nat):am:=.c (cat Try.f30 (pn n))
abbrev uf:List am:=[.b 0,ry 15]
abbrev Df:List am:=kl (wT M w0) (wM M w0 r) uf (cat Try.f30 (pn 56)) m1::uf
def JW:AS:=⟨[(0,.sl (lm aI v1)),(5,iI v4),(18,.bool v5)],[],[],[]⟩
def yn:AS:=⟨[(0,.sl (lm aI v1)),(5,iI v4)],[],[],[]⟩
abbrev vO:Prop:=∀{v4:Int},L1 v4=some r→LP (wT M w0) (wM M w0 r) uf (cat Try.f30 (pn 56)) m1 (yn v1 v4)
variable{M w0 r v1 v2 v4 v5 m1 L1}{K:Kn}{n:Nat}
theorem Bl(hK:ak K)(hL1:vO M w0 r v1 m1 L1)(h:md K n v1 v4 L1 v5=some r):A9 M w0 r (ry 225::ry 113::Df M w0 r m1) (JW v1 v4 v5):=by
 unfold md at h;obtain⟨h6,h⟩|⟨h6,h⟩:=ai h
 ·exact ae 18 h6 (ac 5 (br (hL1 h)))
 ·refine ae 18 h6 (aD 8 ?_);cases h;exact aY
theorem Jk(hK:ak K)(hL1:vO M w0 r v1 m1 L1)(h:lQ K n v1 L1 v4=some r):A9 M w0 r (ry 56::Df M w0 r m1) (yn v1 v4):=by
 unfold lQ at h;refine bO 4 5 3 2 (ah 2 (ax (bF aI v1) (aL 5 2 ?_)));obtain⟨h4,h⟩|⟨h4,h⟩:=ai h
 ·refine au 12 h4 (aL 7 2 ?_);obtain⟨h5,h⟩:=aQ h;exact ax (bH aI aI h5 (fP) ((fun _=>rfl))) (ab (ac 0 (Bl hK hL1 h)))
 ·exact au 12 h4 (ab (ac 0 (Bl hK hL1 h)))
theorem EM(hK:ak K)(m:Nat):vO M w0 r v1 m (mC K n v1 m):=by
 induction m with
 | zero=>intro v4 h;cases h
 | succ m ih=>intro v4 h;have h:lQ K n v1 (mC K n v1 m) v4=some r:=h;exact bl (Jk hK ih h)
theorem xo(hK:ak K)(h:kG K n v1 v2=some r):aH Try.prog 30 [.sl (lm aI v1),iI v2] (fun v _=>v=iI r):=by
 refine bc (cat Try.f30 (pn 1)) Try.func30 Try.ntmps30 fun M w0=>(aZ ⟨[(0,.sl (lm aI v1)),(1,iI v2)],[],[],[]⟩ ?_);unfold kG at h;exact ac 6 (cp (p:=pn 28) n (EM hK n h))
end
noncomputable section
variable(M:Nat→Prop)(w0:ay)(r:Int)(v1:List aq)(v3:Int)(m1:Nat)(L1:Int→Option Int)
abbrev uR:Cx:=⟨Try.prog,18,M,w0⟩
abbrev tW:=bodyPost Try.prog Try.f51 (bo M w0 (fun v _=>v=iI r))
abbrev DG(ks:List am)(s:AS):=VE (uR M w0) (tW M w0 r) ks .normal s
abbrev As(n:Nat):am:=.c (cat Try.f51 (pn n))
abbrev va:List am:=[.b 0,As 7]
abbrev Lh:List am:=kl (uR M w0) (tW M w0 r) va (cat Try.f51 (pn 52)) m1::va
def AZ:AS:=⟨[(0,.sl (lm aI v1)),(3,iI v3)],[],[],[]⟩
abbrev CZ:Prop:=∀{v3:Int},L1 v3=some r→LP (uR M w0) (tW M w0 r) va (cat Try.f51 (pn 52)) m1 (AZ v1 v3)
variable{M w0 r v1 v3 m1 L1}{K:Kn}{n:Nat}
theorem EG(hK:ak K)(hL1:CZ M w0 r v1 m1 L1)(h:im K n v1 L1 v3=some r):DG M w0 r (As 52::Lh M w0 r m1) (AZ v1 v3):=by
 unfold im at h;refine av 5 3 3 ?_;obtain⟨h5,h⟩|⟨h5,h⟩:=ai h
 ·refine ae 8 h5 (cN 8 9 1 3 5 (ah 2 ?_));obtain⟨h6,h⟩:=aQ h;refine ax (bH aI aI h6 (fP) ((fun _=>rfl))) (ab ?_);obtain⟨h7,h⟩|⟨h7,h⟩:=ai h
  ·refine ae 16 h7 (aD 9 ?_);cases h;exact aY
  ·exact ae 16 h7 (ac 4 (br (hL1 h)))
 ·refine ae 8 h5 (aD 8 ?_);cases h;exact aY
theorem Lj(hK:ak K)(m:Nat):CZ M w0 r v1 m (ji K n v1 m):=by
 induction m with
 | zero=>intro v3 h;cases h
 | succ m ih=>intro v3 h;have h:im K n v1 (ji K n v1 m) v3=some r:=h;exact bl (EG hK ih h)
theorem yZ(hK:ak K)(h:jg K n v1=some r):aH Try.prog 51 [.sl (lm aI v1)] (fun v _=>v=iI r):=by
 refine bc (cat Try.f51 (pn 1)) Try.func51 Try.ntmps51 fun M w0=>(aZ ⟨[(0,.sl (lm aI v1))],[],[],[]⟩ ?_);unfold jg at h;exact bO 12 13 7 4 (ah 1 (ax (bF aI v1) (ab (ac 1 (cp (p:=pn 26) n (Lj hK n h))))))
end
noncomputable section
variable(M:Nat→Prop)(w0:ay)(r:Int)(v1:List aq)(v2 v3 v5:Int)(m1:Nat)(L1:Int→Int→Option Int)
abbrev vC:Cx:=⟨Try.prog,33,M,w0⟩
abbrev vy:=bodyPost Try.prog Try.f31 (bo M w0 (fun v _=>v=iI r))
abbrev xX(ks:List am)(s:AS):=VE (vC M w0) (vy M w0 r) ks .normal s
abbrev vT(n:Nat):am:=.c (cat Try.f31 (pn n))
abbrev ta:List am:=[.b 0,vT 15]
abbrev Md:List am:=kl (vC M w0) (vy M w0 r) ta (cat Try.f31 (pn 116)) m1::ta
def Jv:AS:=⟨[(3,iI v5)],[],[],[]⟩
def Cu:AS:=⟨[(0,.sl (lm aI v1)),(3,iI v2),(7,.sl (lm aI v1)),(8,iI (v1.length:Int)),(9,iI v3)],[],[],[]⟩
abbrev zY:Prop:=∀{v2:Int} {v3:Int},L1 v2 v3=some r→LP (vC M w0) (vy M w0 r) ta (cat Try.f31 (pn 116)) m1 (Cu v1 v2 v3)
variable{M w0 r v1 v2 v3 v5 m1 L1}{K:Kn}{n:Nat}
theorem yN(hK:ak K)(h:nz K n v5=some r):xX M w0 r [vT 31] (Jv v5):=by
 unfold nz at h;refine aD 3 ?_;cases h;exact aY
theorem Mj(hK:ak K)(hL1:zY M w0 r v1 m1 L1)(h:lI K n v1 L1 v2 v3=some r):xX M w0 r (vT 116::Md M w0 r m1) (Cu v1 v2 v3):=by
 unfold lI at h;refine av 6 7 3 ?_;obtain⟨h3,h⟩|⟨h3,h⟩:=ai h
 ·refine ae 10 h3 (cN 8 9 1 3 5 (ah 0 ?_));obtain⟨h4,h⟩:=aQ h;exact ax (bH aI aI h4 (fP) ((fun _=>rfl))) (ab (ac 3 (br (hL1 h))))
 ·refine ae 10 h3 (LI 4 5 3 7 (ah 1 ?_));obtain⟨v4,h5,h⟩:=bind_some h;refine aE (yZ hK h5) (ab (aU 3 2 ?_));obtain⟨h6,h⟩|⟨h6,h⟩:=ai h
  ·refine ae 24 h6 (aU 2 1 (ah 3 ?_));obtain⟨h7,h⟩:=aQ h;exact ax (bH aI aI h7 (fP) ((fun _=>rfl))) (ab (ac 0 (yN hK h)))
  ·exact ae 24 h6 (ac 2 (yN hK h))
theorem Eb(hK:ak K)(m:Nat):zY M w0 r v1 m (lM K n v1 m):=by
 induction m with
 | zero=>intro v2 v3 h;cases h
 | succ m ih=>intro v2 v3 h;have h:lI K n v1 (lM K n v1 m) v2 v3=some r:=h;exact bl (Mj hK ih h)
theorem zI(hK:ak K)(h:l5 K n v1=some r):aH Try.prog 31 [.sl (lm aI v1)] (fun v _=>v=iI r):=by
 refine bc (cat Try.f31 (pn 1)) Try.func31 Try.ntmps31 fun M w0=>(aZ ⟨[(0,.sl (lm aI v1))],[],[],[]⟩ ?_);unfold l5 at h;exact bO 28 29 15 6 (ah 1 (ax (bF aI v1) (ab (ac 1 (cp (p:=pn 58) n (Eb hK n h))))))
end
noncomputable section
variable(M:Nat→Prop)(w0:ay)(r:List Int)(v1:List aq)(v2 v19:Int)(v20:List Int)(v25:Int)(v26:Bool)(m1 m2:Nat)(L1:Int→(List Int)→Option (List Int))(L2:Int→Option (List Int))
abbrev nR:Cx:=⟨Try.prog,46,M,w0⟩
abbrev ny:=bodyPost Try.prog Try.f13 (bo M w0 (fun v s=>v=.ref 16∧look 16 s.r=some ⟨3,1,lm (bz .i64) r⟩))
abbrev qJ(ks:List am)(s:AS):=VE (nR M w0) (ny M w0 r) ks .normal s
abbrev fE(n:Nat):am:=.c (cat Try.f13 (pn n))
abbrev vD:List am:=[.b 0,fE 15]
abbrev qK:List am:=kl (nR M w0) (ny M w0 r) vD (cat Try.f13 (pn 116)) m1::vD
abbrev sZ:List am:=.b 2::fE 3735 :: .b 1::qK M w0 r m1
abbrev tQ:List am:=kl (nR M w0) (ny M w0 r) (sZ M w0 r m1) (cat Try.f13 (pn 14936)) m2::(sZ M w0 r m1)
def Fk:AS:=⟨[(0,.sl (lm aI v1)),(1,iI v2),(5,.ref 16),(7,iI v25)],[],[(16,⟨3,1,lm (bz .i64) (v20++[v19])⟩)],[16]⟩
def Ka:AS:=⟨[(0,.sl (lm aI v1)),(1,iI v2),(5,.ref 16),(6,iI v19),(7,iI v25),(32,.bool v26)],[],[(16,⟨3,1,lm (bz .i64) (v20++[v19])⟩)],[16]⟩
def CP:AS:=⟨[(0,.sl (lm aI v1)),(1,iI v2),(5,.ref 16),(6,iI v19),(7,iI v25)],[],[(16,⟨3,1,lm (bz .i64) (v20++[v19])⟩)],[16]⟩
def B7:AS:=⟨[(0,.sl (lm aI v1)),(1,iI v2),(5,.ref 16),(6,iI v19)],[],[(16,⟨3,1,lm (bz .i64) v20⟩)],[16]⟩
abbrev kz:Prop:=∀{v19:Int} {v20:(List Int)},L1 v19 v20=some r→LP (nR M w0) (ny M w0 r) vD (cat Try.f13 (pn 116)) m1 (B7 v1 v2 v19 v20)
abbrev tZ:Prop:=∀{v25:Int},L2 v25=some r→LP (nR M w0) (ny M w0 r) (sZ M w0 r m1) (cat Try.f13 (pn 14936)) m2 (CP v1 v2 v19 v20 v25)
variable{M w0 r v1 v2 v19 v20 v25 v26 m1 m2 L1 L2}{K:Kn}{n:Nat}
theorem Ad(hK:ak K)(hL1:kz M w0 r v1 v2 m1 L1)(h:rZ K n v1 v2 v19 v20 v25 L1=some r):qJ M w0 r (fE 3735 :: .b 1::qK M w0 r m1) (Fk v1 v2 v19 v20 v25):=by
 unfold rZ at h;exact ac 2 (br (hL1 h))
theorem z8(hK:ak K)(hL1:kz M w0 r v1 v2 m1 L1)(hL2:tZ M w0 r v1 v2 v19 v20 m1 m2 L2)(h:kS K n v1 v2 v19 v20 v25 L1 L2 v26=some r):qJ M w0 r (fE 59745::fE 29873::tQ M w0 r m1 m2) (Ka v1 v2 v19 v20 v25 v26):=by
 unfold kS at h;obtain⟨h47,h⟩|⟨h47,h⟩:=ai h
 ·refine ae 32 h47 (b9 (ks':=fE 119492::fE 119493 :: .b 3::tQ M w0 r m1 m2) 4 (ah 2 ?_));obtain⟨v27,h48,h⟩:=bind_some h;refine aE (xo hK h48) (ab (bO 4 5 3 2 (ah 3 ?_)));obtain⟨h49,h⟩:=aQ h;refine ax (vm aI v1 v19 v27 37 (.tmp 36) (some (.tmp 37)) (some (.tmp 38)) 39 (e:=41) (sz:=62) (by kernel_rfl) (by kernel_rfl) (by kernel_rfl) (by kernel_rfl) (by kernel_rfl) (by kernel_rfl) (fP) (fun k hk=>by subst hk;kernel_rfl) h49) ?_;obtain⟨v28,h50,h⟩:=bind_some h;refine aE (zI hK h50) (ab ?_);obtain⟨h51,h⟩|⟨h51,h⟩:=ai h
  ·exact ae 42 h51 (ac 6 (Ad hK hL1 h))
  ·exact ae 42 h51 (ac 4 (br (hL2 h)))
 ·exact ae 32 h47 (ac 5 (Ad hK hL1 h))
theorem KU(hK:ak K)(hL1:kz M w0 r v1 v2 m1 L1)(hL2:tZ M w0 r v1 v2 v19 v20 m1 m2 L2)(h:kx K n v1 v2 v19 v20 L1 L2 v25=some r):qJ M w0 r (fE 14936::tQ M w0 r m1 m2) (CP v1 v2 v19 v20 v25):=by
 unfold kx at h;refine bO 4 5 3 2 (ah 2 (ax (bF aI v1) (aL 5 2 ?_)));obtain⟨h45,h⟩|⟨h45,h⟩:=ai h
 ·refine au 24 h45 (aL 8 3 ?_);obtain⟨h46,h⟩:=aQ h;exact ax (bH aI aI h46 (fP) ((fun _=>rfl))) (ab (ac 0 (z8 hK hL1 hL2 h)))
 ·exact au 24 h45 (ab (ac 0 (z8 hK hL1 hL2 h)))
theorem Fo(hK:ak K)(hL1:kz M w0 r v1 v2 m1 L1)(m:Nat):tZ M w0 r v1 v2 v19 v20 m1 m (lZ K n v1 v2 v19 v20 L1 m):=by
 induction m with
 | zero=>intro v25 h;cases h
 | succ m ih=>intro v25 h;have h:kx K n v1 v2 v19 v20 L1 (lZ K n v1 v2 v19 v20 L1 m) v25=some r:=h;exact bl (KU hK hL1 ih h)
theorem H8(hK:ak K)(hL1:kz M w0 r v1 v2 m1 L1)(h:kT K n v1 v2 L1 v19 v20=some r):qJ M w0 r (fE 116::qK M w0 r m1) (B7 v1 v2 v19 v20):=by
 unfold kT at h;refine bO 4 5 3 2 (ah 2 (ax (bF aI v1) (ab ?_)));obtain⟨h35,h⟩|⟨h35,h⟩:=ai h
 ·refine ae 12 h35 (b9 (ks':=fE 932::fE 933 :: .b 1::qK M w0 r m1) 4 (ah 3 ?_));obtain⟨h36,h⟩:=aQ h;refine ax (cD 16 16 3 1 (bz .i64) (rfl) ((fun _=>rfl)) h36) (ab (av 2 3 1 (ah 2 ?_)));obtain⟨v21,h37,h⟩:=bind_some h;exact aE (xo hK h37) (ab (ac 2 (cp (p:=pn 7468) n (Fo hK hL1 n h))))
 ·refine ae 12 h35 (aD 8 ?_);cases h;exact eG
theorem Mx(hK:ak K)(m:Nat):kz M w0 r v1 v2 m (lU K n v1 v2 m):=by
 induction m with
 | zero=>intro v19 v20 h;cases h
 | succ m ih=>intro v19 v20 h;have h:kT K n v1 v2 (lU K n v1 v2 m) v19 v20=some r:=h;exact bl (H8 hK ih h)
theorem H6(hK:ak K)(h:nt K n v1 v2=some r):aH Try.prog 13 [.sl (lm aI v1),iI v2] (fun v s=>v=.ref 16∧look 16 s.r=some ⟨3,1,lm (bz .i64) r⟩):=by
 refine bc (cat Try.f13 (pn 1)) Try.func13 Try.ntmps13 fun M w0=>(aZ ⟨[(0,.sl (lm aI v1)),(1,iI v2)],[],[],[]⟩ ?_);unfold nt at h;exact gC 58 0 15 8 (bS [0,1,5,6] [] [] (fZ 16 5 3 1 (ac 0 (cp (p:=pn 58) n (Mx hK n h)))))
end
noncomputable section
variable(M:Nat→Prop)(w0:ay)(r:Bool)(v1:ag)(v2:Bool)  
abbrev FL(n:Nat):am:=.c (cat Try.f67 (pn n))
abbrev HD:Cx:=⟨Try.prog,12,M,w0⟩
abbrev Jg:=bodyPost Try.prog Try.f67 (bo M w0 (fun v _=>v=.bool r))
abbrev Ff(ks:List am)(s:AS):=VE (HD M w0) (Jg M w0 r) ks .normal s
def KZ:AS:=⟨[(2,.bool v2)],[],[],[]⟩
variable{M w0 r v1 v2}{K:Kn}{n:Nat}
theorem BZ(hK:ak K)(h:rJ K n v2=some r):Ff M w0 r [FL 7] (KZ v2):=by
 unfold rJ at h;refine aD 1 ?_;cases h;exact aY
theorem Am(hK:ak K)(h:fc K n v1=some r):aH Try.prog 67 [.agg (aS v1)] (fun v _=>v=.bool r):=by
 refine bc (cat Try.f67 (pn 1)) Try.func67 Try.ntmps67 fun M w0=>(aZ ⟨[(0,.agg (aS v1))],[],[],[]⟩ ?_);unfold fc at h;refine av 6 7 3 (ah 4 ?_);obtain⟨h1,h⟩|⟨h1,h⟩:=ai h
 ·exact au 6 h1 (ab (ac 0 (BZ hK h)))
 ·exact au 6 h1 (ab (ac 0 (BZ hK h)))
end
noncomputable section
variable(M:Nat→Prop)(w0:ay)(r:List aj)(v1:aj)(v2:List aj)(v3 v4 v5 v6:Bool)(v7:aj)  
abbrev eM(n:Nat):am:=.c (cat Try.f68 (pn n))
abbrev MD:Cx:=⟨Try.prog,72,M,w0⟩
abbrev JZ:=bodyPost Try.prog Try.f68 (bo M w0 (fun v s=>v=.ref 9∧dL s.o []∧look 9 s.r=some ⟨99,5,lm aw r⟩))
abbrev oQ(ks:List am)(s:AS):=VE (MD M w0) (JZ M w0 r) ks .normal s
def H3:AS:=⟨[(0,.ref 9),(3,.ptr 3 0)],[(3,aw v7)],[(9,⟨99,5,lm aw v2⟩)],[3,9]⟩
def Lm:AS:=⟨[(0,.ref 9),(3,.ptr 3 0),(64,.bool v6)],[(3,aw v1)],[(9,⟨99,5,lm aw v2⟩)],[3,9]⟩
def GL:AS:=⟨[(0,.ref 9),(3,.ptr 3 0),(5,.bool (v1.Box.Style.WhiteSpace == 2)),(32,.bool v5)],[(3,aw v1)],[(9,⟨99,5,lm aw v2⟩)],[3,9]⟩
def IZ:AS:=⟨[(0,.ref 9),(3,.ptr 3 0),(5,.bool (v1.Box.Style.WhiteSpace == 2)),(24,.bool v4)],[(3,aw v1)],[(9,⟨99,5,lm aw v2⟩)],[3,9]⟩
def JE:AS:=⟨[(0,.ref 9),(3,.ptr 3 0),(5,.bool (v1.Box.Style.WhiteSpace == 2)),(19,.bool v3)],[(3,aw v1)],[(9,⟨99,5,lm aw v2⟩)],[3,9]⟩
variable{M w0 r v1 v2 v3 v4 v5 v6 v7}{K:Kn}{n:Nat}
theorem wV(hK:ak K)(h:jY K n v2 v7=some r):oQ M w0 r [.b 1,eM 31] (H3 v2 v7):=by
 unfold jY at h;refine gV 6 7 4 (ah 3 ?_);obtain⟨h16,h⟩:=aQ h;refine ax (cD 71 9 99 5 aw (rfl) (cY) h16) (ab (aD 1 ?_));cases h;exact ga
theorem wc(hK:ak K)(h:gJ K n v1 v2 v6=some r):oQ M w0 r [eM 15609,eM 7805,.b 1,eM 31] (Lm v1 v2 v6):=by
 unfold gJ at h;obtain⟨h15,h⟩|⟨h15,h⟩:=ai h
 ·refine ae 64 h15 (aD 7 ?_);cases h;exact ga
 ·exact ae 64 h15 (ac 3 (wV hK h))
theorem xe(hK:ak K)(h:mm K n v1 v2 v5=some r):oQ M w0 r [eM 487,.b 1,eM 31] (GL v1 v2 v5):=by
 unfold mm at h;obtain⟨h9,h⟩|⟨h9,h⟩:=ai h
 ·refine ae 32 h9 (aD 6 ?_);cases h;exact ga
 ·refine ae 32 h9 (aU 7 3 ?_);obtain⟨h10,h⟩|⟨h10,h⟩:=ai h
  ·refine ae 40 h10 (bO 8 9 5 3 (ah 1 (ax (bF aw v2) (aL 4 2 ?_))));obtain⟨h11,h⟩|⟨h11,h⟩:=ai h
   ·exact au 46 h11 (ab (ac 0 (wc hK h)))
   ·refine au 46 h11 (aL 6 2 (ax (bF aw v2) (aL 8 1 ?_)));obtain⟨h12,h⟩:=aQ h;refine ax (dE 9 5 aw h12) (aL 10 1 (ax (cR 4 3 aw aw (dM h12).2 ((fun _=>rfl))) (aL 13 2 ?_)));obtain⟨h13,h⟩|⟨h13,h⟩:=ai h
    ·exact au 55 h13 (ab (ac 0 (wc hK h)))
    ·refine au 55 h13 (aL 15 2 (ax (bF aw v2) (aL 17 1 ?_)));obtain⟨h14,h⟩:=aQ h;exact ax (dE 9 5 aw h14) (aL 19 1 (ax (cR 3 0 aw aw (dM h14).2 ((fun _=>rfl))) (ab (ac 0 (wc hK h)))))
  ·exact ae 40 h10 (ac 2 (wV hK h))
theorem xE(hK:ak K)(h:kR K n v1 v2 v4=some r):oQ M w0 r [eM 121,.b 1,eM 31] (IZ v1 v2 v4):=by
 unfold kR at h;obtain⟨h7,h⟩|⟨h7,h⟩:=ai h
 ·exact ae 24 h7 (ac 2 (wV hK h))
 ·refine ae 24 h7 (av 6 7 2 (ah 2 ?_));obtain⟨h8,h⟩|⟨h8,h⟩:=ai h
  ·exact au 34 h8 (ab (ac 0 (xe hK h)))
  ·exact au 34 h8 (ab (ac 0 (xe hK h)))
theorem rL(hK:ak K)(h:fY K n v1 v2 v3=some r):oQ M w0 r [eM 117,.b 0,eM 15] (JE v1 v2 v3):=by
 unfold fY at h;obtain⟨h4,h⟩|⟨h4,h⟩:=ai h
 ·refine ae 19 h4 (b9 (ks':=[eM 120,eM 121,.b 1,eM 31]) 6 (ah 2 ?_));obtain⟨h6,h⟩|⟨h6,h⟩:=ai h
  ·exact au 26 h6 (ab (ac 0 (xE hK h)))
  ·exact au 26 h6 (ab (ac 0 (xE hK h)))
 ·refine ae 19 h4 (av 6 7 2 (ah 3 ?_));obtain⟨h5,h⟩:=aQ h;refine ax (cD 18 9 99 5 aw (rfl) (cY) h5) (ab (aD 3 ?_));cases h;exact ga
theorem Fi(hK:ak K)(h:pN K n v1 v2=some r):gE Try.prog 68 [.ref 9,.agg (aw v1)] [] 9 ⟨99,5,lm aw v2⟩ [9] (fun v s=>v=.ref 9∧dL s.o []∧look 9 s.r=some ⟨99,5,lm aw r⟩):=by
 refine nH (c:=cat Try.f68 (pn 1)) Try.func68 (by kernel_rfl) _ Try.ntmps68 (of_decide_eq_true (by kernel_rfl)) fun M w0=>(aZ ⟨[(0,.ref 9),(1,.agg (aw v1))],[],[(9,⟨99,5,lm aw v2⟩)],[9]⟩ ?_);unfold pN at h;refine c7 233 117 0 15 11 ?_;obtain⟨h1,h⟩|⟨h1,h⟩:=ai h
 ·exact ae 19 h1 (ac 2 (rL hK h))
 ·refine ae 19 h1 (aU 7 3 ?_);obtain⟨h2,h⟩|⟨h2,h⟩:=ai h
  ·exact ae 19 h2 (ac 2 (rL hK h))
  ·refine ae 19 h2 (aU 7 3 ?_);obtain⟨h3,h⟩|⟨h3,h⟩:=ai h
   ·exact ae 19 h3 (ac 2 (rL hK h))
   ·exact ae 19 h3 (ac 2 (rL hK h))
end
noncomputable section
variable(M:Nat→Prop)(w0:ay)(r:Int×(List aj))(v1:List ag)(v2:Int)(v3:List aj)(v10:Nat)(v23 v24:Int)(v25:List aj)(v32 v36:Nat)(v37:List aj)(v41:Int)(v42:List aj)(v43:Int)(v44:List aj)(m1 m2:Nat)(L1:Int→Int→(List aj)→Option (Int×(List aj)))(L2:Nat→(List aj)→Option (Int×(List aj)))
abbrev py:Cx:=⟨Try.prog,69,M,w0⟩
abbrev nZ:=bodyPost Try.prog Try.f66 (bo M w0 (fun v s=>v=.tup []∧dL s.o [(1,[iI r.1]),(2,[.fno 66 [.ptr 1 0,.ptr 2 0,.ptr 3 0]]),(3,[.ref 9])]∧look 9 s.r=some ⟨99,5,lm aw r.2⟩))
abbrev qb(ks:List am)(s:AS):=VE (py M w0) (nZ M w0 r) ks .normal s
abbrev eB(n:Nat):am:=.c (cat Try.f66 (pn n))
abbrev wO:List am:=[.b 0]
abbrev iA:List am:=kl (py M w0) (nZ M w0 r) wO (cat Try.f66 (pn 12)) m1::wO
abbrev sN:List am:=.b 3 :: .b 2 :: .b 1::eB 103::iA M w0 r m1
abbrev B3:List am:=kl (py M w0) (nZ M w0 r) (sN M w0 r m1) (cat Try.f66 (pn 26867700)) m2::(sN M w0 r m1)
def Fy:AS:=⟨[(0,.sl (lm aF v1)),(1,.ptr 1 0),(2,.ptr 2 0),(3,.ptr 3 0),(10,iI (v1.length:Int)),(11,iI v23)],[(1,[iI v43]),(2,[.fno 66 [.ptr 1 0,.ptr 2 0,.ptr 3 0]]),(3,[.ref 9])],[(9,⟨99,5,lm aw v44⟩)],[1,2,3,9,1000001,1,1000002,2,1000003,3]⟩
def Mw:AS:=⟨[(0,.sl (lm aF v1)),(1,.ptr 1 0),(2,.ptr 2 0),(3,.ptr 3 0),(10,iI (v1.length:Int)),(11,iI v23)],[(1,[iI v41]),(2,[.fno 66 [.ptr 1 0,.ptr 2 0,.ptr 3 0]]),(3,[.ref 9])],[(9,⟨99,5,lm aw v42⟩)],[1,2,3,9,1000001,1,1000002,2,1000003,3]⟩
def xh:AS:=⟨[(0,.sl (lm aF v1)),(1,.ptr 1 0),(2,.ptr 2 0),(3,.ptr 3 0),(6,.cptr (aS (gD v1 v23))),(10,iI (v1.length:Int)),(11,iI v23),(58,.sit 320058 v32 ((gD v1 v23).Text) v36)],[(1,[iI (aa (v24+1))]),(2,[.fno 66 [.ptr 1 0,.ptr 2 0,.ptr 3 0]]),(3,[.ref 9])],[(9,⟨99,5,lm aw v37⟩)],[1,2,3,9,320058,1000001,1,1000002,2,1000003,3]⟩
def Aq:AS:=⟨[(0,.sl (lm aF v1)),(1,.ptr 1 0),(2,.ptr 2 0),(3,.ptr 3 0),(10,iI (v1.length:Int)),(11,iI v23)],[(1,[iI v24]),(2,[.fno 66 [.ptr 1 0,.ptr 2 0,.ptr 3 0]]),(3,[.ref 9])],[(9,⟨99,5,lm aw v25⟩)],[1,2,3,9,1000001,1,1000002,2,1000003,3]⟩
abbrev mq:Prop:=∀{v23:Int} {v24:Int} {v25:(List aj)},L1 v23 v24 v25=some r→LP (py M w0) (nZ M w0 r) wO (cat Try.f66 (pn 12)) m1 (Aq v1 v23 v24 v25)
abbrev CV:Prop:=∀{v36:Nat} {v37:(List aj)},L2 v36 v37=some r→LP (py M w0) (nZ M w0 r) (sN M w0 r m1) (cat Try.f66 (pn 26867700)) m2 (xh v1 v23 v24 v32 v36 v37)
variable{M w0 r v1 v2 v3 v10 v23 v24 v25 v32 v36 v37 v41 v42 v43 v44 m1 m2 L1 L2}{K:Kn}{n:Nat}
theorem CQ(hK:ak K)(hL1:mq M w0 r v1 m1 L1)(h:gB K n v1 v23 L1 v43 v44=some r):qb M w0 r (eB 103::iA M w0 r m1) (Fy v1 v23 v43 v44):=by
 unfold gB at h;exact ac 1 (br (hL1 h))
theorem oH(hK:ak K)(hL1:mq M w0 r v1 m1 L1)(h:fx K n v1 v23 L1 v41 v42=some r):qb M w0 r (.b 2 :: .b 1::eB 103::iA M w0 r m1) (Mw v1 v23 v41 v42):=by
 unfold fx at h;exact ac 2 (CQ hK hL1 h)
theorem Mo(hK:ak K)(hv32:w0.w.heap.size≤v32)(hL1:mq M w0 r v1 m1 L1)(hL2:CV M w0 r v1 v23 v24 v32 m1 m2 L2)(h:mE K n v1 v23 v24 L1 L2 v36 v37=some r):qb M w0 r (eB 26867700::B3 M w0 r m1 m2) (xh v1 v23 v24 v32 v36 v37):=by
 unfold mE at h;refine av 2 3 1 (ah 0 ?_);obtain⟨h43,h⟩|⟨h43,h⟩:=ai h
 ·refine rt 58 (id:=320058) (g:=v32) h43 hv32 (ab ?_);obtain⟨v38,h44,h⟩:=bZ h;obtain⟨v39,h45,h⟩:=bZ h;refine bC (ks':=eB 429883213 :: .b 4::B3 M w0 r m1 m2) 6 ⟨[(0,.sl (lm aF v1)),(1,.ptr 1 0),(2,.ptr 2 0),(3,.ptr 3 0),(6,.cptr (aS (gD v1 v23))),(8,.int .i32 v38),(10,iI (v1.length:Int)),(11,iI v23),(58,.sit 320058 v32 ((gD v1 v23).Text) v39)],[(1,[iI (aa (v24+1))]),(2,[.fno 66 [.ptr 1 0,.ptr 2 0,.ptr 3 0]]),(3,[.ref 9])],[(9,⟨99,5,lm aw v37⟩)],[1,2,3,9,320058,1000001,1,1000002,2,1000003,3]⟩ ?_ (by subst h45;subst h44;kernel_rfl);refine ah 5 ?_;obtain⟨v40,h46,h⟩:=bind_some h;exact iD 9 9 [] (Fi hK h46) (ab (ac 1 (br (hL2 h))))
 ·exact pZ 58 (id:=320058) (g:=v32) h43 (ab (ac 6 (oH hK hL1 h)))
theorem D9(hK:ak K)(hv32:w0.w.heap.size≤v32)(hL1:mq M w0 r v1 m1 L1)(m:Nat):CV M w0 r v1 v23 v24 v32 m1 m (mD K n v1 v23 v24 L1 m):=by
 induction m with
 | zero=>intro v36 v37 h;cases h
 | succ m ih=>intro v36 v37 h;have h:mE K n v1 v23 v24 L1 (mD K n v1 v23 v24 L1 m) v36 v37=some r:=h;exact bl (Mo hK hv32 hL1 ih h)
theorem Dx(hK:ak K)(hL1:mq M w0 r v1 m1 L1)(h:ly K n v1 L1 v23 v24 v25=some r):qb M w0 r (eB 12::iA M w0 r m1) (Aq v1 v23 v24 v25):=by
 unfold ly at h;refine av 6 7 3 ?_;obtain⟨h24,h⟩|⟨h24,h⟩:=ai h
 ·refine ae 12 h24 (cN 18 19 1 3 7 (ah 2 ?_));obtain⟨h25,h⟩:=aQ h;refine ax (bH aF aS h25 (eE) (dS)) (ab (bO 4 5 3 2 (ah 3 ?_)));obtain⟨v26,h26,h⟩:=bind_some h;refine aE (Am hK h26) (ab ?_);obtain⟨h27,h⟩|⟨h27,h⟩:=ai h
  ·exact ae 21 h27 (ac 4 (CQ hK hL1 h))
  ·refine ae 21 h27 ?_;obtain⟨v27,h28,h⟩:=bZ h;refine bC (ks':=eB 26237 :: .b 2 :: .b 1::eB 103::iA M w0 r m1) 9 ⟨[(0,.sl (lm aF v1)),(1,.ptr 1 0),(2,.ptr 2 0),(3,.ptr 3 0),(6,.cptr (aS (gD v1 v23))),(10,iI (v1.length:Int)),(11,iI v23),(27,iI ((gD v1 v23).Kind)),(28,.bool v27)],[(1,[iI (aa (v24+1))]),(2,[.fno 66 [.ptr 1 0,.ptr 2 0,.ptr 3 0]]),(3,[.ref 9])],[(9,⟨99,5,lm aw v25⟩)],[1,2,3,9,1000001,1,1000002,2,1000003,3]⟩ ?_ (by subst h28;kernel_rfl);obtain⟨h29,h⟩|⟨h29,h⟩:=ai h
   ·refine ae 28 h29 (aU 2 1 (bS [0,1,2,3,6,10,11] [1,2,3] [9] (DF 5 0 [(30,.fno 66 [.ptr 1 0,.ptr 2 0,.ptr 3 0]),(31,.cptr (aS (gD v1 v23))),(32,.cptr (aS (gD v1 v23))),(33,.cptr (List.drop 58 (aS (gD v1 v23)))),(34,.sl (lm aF ((gD v1 v23).Kids)))] [] [] [] (aO (vz 5) (J1)) ?_)));obtain⟨v28,h30,h⟩:=bind_some h;exact iD 9 9 [(1,1),(2,2),(3,3)] (hK.qz h30) (ab (ac 0 (oH hK hL1 h)))
   ·refine ae 28 h29 ?_;obtain⟨v29,h31,h⟩:=bZ h;refine bC (ks':=eB 104951 :: .b 2 :: .b 1::eB 103::iA M w0 r m1) 3 ⟨[(0,.sl (lm aF v1)),(1,.ptr 1 0),(2,.ptr 2 0),(3,.ptr 3 0),(6,.cptr (aS (gD v1 v23))),(10,iI (v1.length:Int)),(11,iI v23),(27,iI ((gD v1 v23).Kind)),(36,.bool v29)],[(1,[iI (aa (v24+1))]),(2,[.fno 66 [.ptr 1 0,.ptr 2 0,.ptr 3 0]]),(3,[.ref 9])],[(9,⟨99,5,lm aw v25⟩)],[1,2,3,9,1000001,1,1000002,2,1000003,3]⟩ ?_ (by subst h31;kernel_rfl);obtain⟨h32,h⟩|⟨h32,h⟩:=ai h
    ·refine ae 36 h32 (aU 2 1 (ah 5 ?_));obtain⟨h33,h⟩:=aQ h;exact ax (cD 43 9 99 5 aw (rfl) (cY) h33) (ab (ac 0 (oH hK hL1 h)))
    ·refine ae 36 h32 ?_;obtain⟨v30,h34,h⟩:=bZ h;refine bC (ks':=eB 419807 :: .b 2 :: .b 1::eB 103::iA M w0 r m1) 3 ⟨[(0,.sl (lm aF v1)),(1,.ptr 1 0),(2,.ptr 2 0),(3,.ptr 3 0),(6,.cptr (aS (gD v1 v23))),(10,iI (v1.length:Int)),(11,iI v23),(27,iI ((gD v1 v23).Kind)),(44,.bool v30)],[(1,[iI (aa (v24+1))]),(2,[.fno 66 [.ptr 1 0,.ptr 2 0,.ptr 3 0]]),(3,[.ref 9])],[(9,⟨99,5,lm aw v25⟩)],[1,2,3,9,1000001,1,1000002,2,1000003,3]⟩ ?_ (by subst h34;kernel_rfl);obtain⟨h35,h⟩|⟨h35,h⟩:=ai h
     ·refine ae 44 h35 (aU 2 1 (ah 5 ?_));obtain⟨h36,h⟩:=aQ h;exact ax (cD 51 9 99 5 aw (rfl) (cY) h36) (ab (ac 0 (oH hK hL1 h)))
     ·refine ae 44 h35 ?_;obtain⟨v31,h37,h⟩:=bZ h;refine bC (ks':=eB 1679231 :: .b 2 :: .b 1::eB 103::iA M w0 r m1) 3 ⟨[(0,.sl (lm aF v1)),(1,.ptr 1 0),(2,.ptr 2 0),(3,.ptr 3 0),(6,.cptr (aS (gD v1 v23))),(10,iI (v1.length:Int)),(11,iI v23),(52,.bool v31)],[(1,[iI (aa (v24+1))]),(2,[.fno 66 [.ptr 1 0,.ptr 2 0,.ptr 3 0]]),(3,[.ref 9])],[(9,⟨99,5,lm aw v25⟩)],[1,2,3,9,1000001,1,1000002,2,1000003,3]⟩ ?_ (by subst h37;kernel_rfl);obtain⟨h38,h⟩|⟨h38,h⟩:=ai h
      ·exact ae 52 h38 (av 4 5 2 (ah 4 (pX 320058 (b:=((gD v1 v23).Text)) fun v32 hv32=>(ab (ac 1 (cp (p:=pn 13433850) n (D9 hK (v32:=v32) hv32 hL1 n h)))))))
      ·exact ae 52 h38 (ac 2 (oH hK hL1 h))
 ·refine ae 12 h24 (b9 (ks':=[]) 5 (IC ?_));cases h;exact tX
theorem Ke(hK:ak K)(m:Nat):mq M w0 r v1 m (kj K n v1 m):=by
 induction m with
 | zero=>intro v23 v24 v25 h;cases h
 | succ m ih=>intro v23 v24 v25 h;have h:ly K n v1 (kj K n v1 m) v23 v24 v25=some r:=h;exact bl (Dx hK ih h)
theorem xJ(hK:ak K)(h:gp K n v1 v2 v3=some r):gE Try.prog 66 [.sl (lm aF v1),.ptr 1 0,.ptr 2 0,.ptr 3 0] [(1,[iI v2]),(2,[.fno 66 [.ptr 1 0,.ptr 2 0,.ptr 3 0]]),(3,[.ref 9])] 9 ⟨99,5,lm aw v3⟩ [9,1,2,3,1000001,1000002,1000003] (fun v s=>v=.tup []∧dL s.o [(1,[iI r.1]),(2,[.fno 66 [.ptr 1 0,.ptr 2 0,.ptr 3 0]]),(3,[.ref 9])]∧look 9 s.r=some ⟨99,5,lm aw r.2⟩):=by
 refine nH (c:=cat Try.f66 (pn 1)) Try.func66 (by kernel_rfl) _ Try.ntmps66 (of_decide_eq_true (by kernel_rfl)) fun M w0=>(aZ ⟨[(0,.sl (lm aF v1)),(1,.ptr 1 0),(2,.ptr 2 0),(3,.ptr 3 0)],[(1,[iI v2]),(2,[.fno 66 [.ptr 1 0,.ptr 2 0,.ptr 3 0]]),(3,[.ref 9])],[(9,⟨99,5,lm aw v3⟩)],[9,1,2,3,1000001,1000002,1000003]⟩ ?_);unfold gp at h;exact av 2 3 1 (ah 1 (ax (bF aF v1) (ab (ac 1 (cp (p:=pn 6) n (Ke hK n h))))))
end
noncomputable section
variable(M:Nat→Prop)(w0:ay)(r:List aj)(v1:List ag)  
variable{M w0 r v1}{K:Kn}{n:Nat}
theorem IW(hK:ak K)(h:ph K n v1=some r):aH Try.prog 55 [.sl (lm aF v1)] (fun v s=>v=.ref 400003∧look 400003 s.r=some ⟨99,5,lm aw r⟩):=by
 refine bc (cat Try.f55 (pn 1)) Try.func55 Try.ntmps55 fun M w0=>(aZ ⟨[(0,.sl (lm aF v1))],[],[],[]⟩ ?_);unfold ph at h;refine av 62 63 9 (ah 0 (Ee 66 #[(.tmp 4),(.tmp 5),(.tmp 3)] [.ptr 4 0,.ptr 5 0,.ptr 3 0] (ab (av 2 3 1 (ah 2 (Lp 400003 3 0 99 5 ?_))))));obtain⟨v2,h1,h⟩:=bind_some h;refine iD 400003 9 [(4,1),(5,2),(3,3)] (xJ hK h1) (ab (aD 3 ?_));cases h;exact eG
end
noncomputable section
variable(M:Nat→Prop)(w0:ay)(r:Bool)(v1:aj)(v2:Bool)  
abbrev HX(n:Nat):am:=.c (cat Try.f69 (pn n))
abbrev LM:Cx:=⟨Try.prog,24,M,w0⟩
abbrev Hj:=bodyPost Try.prog Try.f69 (bo M w0 (fun v _=>v=.bool r))
abbrev KP(ks:List am)(s:AS):=VE (LM M w0) (Hj M w0 r) ks .normal s
def Jb:AS:=⟨[(2,.bool v2)],[],[],[]⟩
variable{M w0 r v1 v2}{K:Kn}{n:Nat}
theorem wK(hK:ak K)(h:lC K n v2=some r):KP M w0 r [HX 7] (Jb v2):=by
 unfold lC at h;refine aD 1 ?_;cases h;exact aY
theorem pT(hK:ak K)(h:gW K n v1=some r):aH Try.prog 69 [.agg (aw v1)] (fun v _=>v=.bool r):=by
 refine bc (cat Try.f69 (pn 1)) Try.func69 Try.ntmps69 fun M w0=>(aZ ⟨[(0,.agg (aw v1))],[],[],[]⟩ ?_);unfold gW at h;refine av 6 7 3 (ah 4 ?_);obtain⟨h1,h⟩|⟨h1,h⟩:=ai h
 ·refine au 6 h1 (aL 13 9 ?_);obtain⟨h2,h⟩|⟨h2,h⟩:=ai h
  ·exact au 15 h2 (ab (ac 0 (wK hK h)))
  ·exact au 15 h2 (ab (ac 0 (wK hK h)))
 ·exact au 6 h1 (ab (ac 0 (wK hK h)))
end
noncomputable section
variable(M:Nat→Prop)(w0:ay)(r v1:Int)(v2 v3 v4 v5 v6:Bool)  
abbrev dX(n:Nat):am:=.c (cat Try.f85 (pn n))
abbrev Ir:Cx:=⟨Try.prog,73,M,w0⟩
abbrev I3:=bodyPost Try.prog Try.f85 (bo M w0 (fun v _=>v=iI r))
abbrev pw(ks:List am)(s:AS):=VE (Ir M w0) (I3 M w0 r) ks .normal s
def HL:AS:=⟨[(72,.bool v6)],[],[],[]⟩
def LG:AS:=⟨[(0,.int .i32 v1),(60,.bool v5)],[],[],[]⟩
def Eg:AS:=⟨[(0,.int .i32 v1),(29,.int .i32 v1),(44,.bool v4)],[],[],[]⟩
def HW:AS:=⟨[(0,.int .i32 v1),(29,.int .i32 v1),(30,.bool v3)],[],[],[]⟩
def DU:AS:=⟨[(0,.int .i32 v1),(3,.bool v2)],[],[],[]⟩
variable{M w0 r v1 v2 v3 v4 v5 v6}{K:Kn}{n:Nat}
theorem B2(hK:ak K)(h:oM K n v6=some r):pw M w0 r [dX 61,dX 31] (HL v6):=by
 unfold oM at h;obtain⟨h44,h⟩|⟨h44,h⟩:=ai h
 ·refine ae 72 h44 (aD 5 ?_);cases h;exact aY
 ·refine ae 72 h44 (aD 5 ?_);cases h;exact aY
theorem l3(hK:ak K)(h:gI K n v1 v5=some r):pw M w0 r [dX 1887,.b 1,dX 15] (LG v1 v5):=by
 unfold gI at h;obtain⟨h42,h⟩|⟨h42,h⟩:=ai h
 ·refine ae 60 h42 (aD 6 ?_);cases h;exact aY
 ·refine ae 60 h42 (b9 (ks':=[dX 60,dX 61,dX 31]) 5 (ah 3 ?_));obtain⟨h43,h⟩|⟨h43,h⟩:=ai h
  ·exact au 69 h43 (ab (ac 0 (B2 hK h)))
  ·exact au 69 h43 (ab (ac 0 (B2 hK h)))
theorem d6(hK:ak K)(h:dA K n v1 v4=some r):pw M w0 r [dX 471,.b 1,dX 15] (Eg v1 v4):=by
 unfold dA at h;obtain⟨h36,h⟩|⟨h36,h⟩:=ai h
 ·refine ae 44 h36 (aD 6 ?_);cases h;exact aY
 ·refine ae 44 h36 (av 13 7 4 ?_);obtain⟨h37,h⟩|⟨h37,h⟩:=ai h
  ·exact ae 60 h37 (ac 2 (l3 hK h))
  ·refine ae 60 h37 (aU 7 3 ?_);obtain⟨h38,h⟩|⟨h38,h⟩:=ai h
   ·exact ae 60 h38 (ac 2 (l3 hK h))
   ·refine ae 60 h38 (aU 7 3 ?_);obtain⟨h39,h⟩|⟨h39,h⟩:=ai h
    ·exact ae 60 h39 (ac 2 (l3 hK h))
    ·refine ae 60 h39 (aU 7 3 ?_);obtain⟨h40,h⟩|⟨h40,h⟩:=ai h
     ·exact ae 60 h40 (ac 2 (l3 hK h))
     ·refine ae 60 h40 (aU 7 3 ?_);obtain⟨h41,h⟩|⟨h41,h⟩:=ai h
      ·exact ae 60 h41 (ac 2 (l3 hK h))
      ·exact ae 60 h41 (ac 2 (l3 hK h))
theorem eP(hK:ak K)(h:dZ K n v1 v3=some r):pw M w0 r [dX 117,.b 1,dX 15] (HW v1 v3):=by
 unfold dZ at h;obtain⟨h21,h⟩|⟨h21,h⟩:=ai h
 ·refine ae 30 h21 (aD 6 ?_);cases h;exact aY
 ·refine ae 30 h21 (av 13 7 4 ?_);obtain⟨h22,h⟩|⟨h22,h⟩:=ai h
  ·exact ae 44 h22 (ac 2 (d6 hK h))
  ·refine ae 44 h22 (aU 7 3 ?_);obtain⟨h23,h⟩|⟨h23,h⟩:=ai h
   ·exact ae 44 h23 (ac 2 (d6 hK h))
   ·refine ae 44 h23 (aU 7 3 ?_);obtain⟨h24,h⟩|⟨h24,h⟩:=ai h
    ·exact ae 44 h24 (ac 2 (d6 hK h))
    ·refine ae 44 h24 (aU 7 3 ?_);obtain⟨h25,h⟩|⟨h25,h⟩:=ai h
     ·exact ae 44 h25 (ac 2 (d6 hK h))
     ·refine ae 44 h25 (aU 7 3 ?_);obtain⟨h26,h⟩|⟨h26,h⟩:=ai h
      ·exact ae 44 h26 (ac 2 (d6 hK h))
      ·refine ae 44 h26 (aU 7 3 ?_);obtain⟨h27,h⟩|⟨h27,h⟩:=ai h
       ·exact ae 44 h27 (ac 2 (d6 hK h))
       ·refine ae 44 h27 (aU 7 3 ?_);obtain⟨h28,h⟩|⟨h28,h⟩:=ai h
        ·exact ae 44 h28 (ac 2 (d6 hK h))
        ·refine ae 44 h28 (aU 7 3 ?_);obtain⟨h29,h⟩|⟨h29,h⟩:=ai h
         ·exact ae 44 h29 (ac 2 (d6 hK h))
         ·refine ae 44 h29 (aU 7 3 ?_);obtain⟨h30,h⟩|⟨h30,h⟩:=ai h
          ·exact ae 44 h30 (ac 2 (d6 hK h))
          ·refine ae 44 h30 (aU 7 3 ?_);obtain⟨h31,h⟩|⟨h31,h⟩:=ai h
           ·exact ae 44 h31 (ac 2 (d6 hK h))
           ·refine ae 44 h31 (aU 7 3 ?_);obtain⟨h32,h⟩|⟨h32,h⟩:=ai h
            ·exact ae 44 h32 (ac 2 (d6 hK h))
            ·refine ae 44 h32 (aU 7 3 ?_);obtain⟨h33,h⟩|⟨h33,h⟩:=ai h
             ·exact ae 44 h33 (ac 2 (d6 hK h))
             ·refine ae 44 h33 (aU 7 3 ?_);obtain⟨h34,h⟩|⟨h34,h⟩:=ai h
              ·exact ae 44 h34 (ac 2 (d6 hK h))
              ·refine ae 44 h34 (aU 7 3 ?_);obtain⟨h35,h⟩|⟨h35,h⟩:=ai h
               ·exact ae 44 h35 (ac 2 (d6 hK h))
               ·exact ae 44 h35 (ac 2 (d6 hK h))
theorem jR(hK:ak K)(h:fX K n v1 v2=some r):pw M w0 r [dX 25,.b 0,dX 7] (DU v1 v2):=by
 unfold fX at h;obtain⟨h7,h⟩|⟨h7,h⟩:=ai h
 ·refine ae 3 h7 (aD 6 ?_);cases h;exact aY
 ·refine ae 3 h7 (aU 7 3 ?_);obtain⟨h8,h⟩|⟨h8,h⟩:=ai h
  ·refine ae 26 h8 (aD 6 ?_);cases h;exact aY
  ·refine ae 26 h8 (b9 (ks':=[dX 233,dX 117,.b 1,dX 15]) 10 ?_);obtain⟨h9,h⟩|⟨h9,h⟩:=ai h
   ·exact ae 30 h9 (ac 2 (eP hK h))
   ·refine ae 30 h9 (aU 7 3 ?_);obtain⟨h10,h⟩|⟨h10,h⟩:=ai h
    ·exact ae 30 h10 (ac 2 (eP hK h))
    ·refine ae 30 h10 (aU 7 3 ?_);obtain⟨h11,h⟩|⟨h11,h⟩:=ai h
     ·exact ae 30 h11 (ac 2 (eP hK h))
     ·refine ae 30 h11 (aU 7 3 ?_);obtain⟨h12,h⟩|⟨h12,h⟩:=ai h
      ·exact ae 30 h12 (ac 2 (eP hK h))
      ·refine ae 30 h12 (aU 7 3 ?_);obtain⟨h13,h⟩|⟨h13,h⟩:=ai h
       ·exact ae 30 h13 (ac 2 (eP hK h))
       ·refine ae 30 h13 (aU 7 3 ?_);obtain⟨h14,h⟩|⟨h14,h⟩:=ai h
        ·exact ae 30 h14 (ac 2 (eP hK h))
        ·refine ae 30 h14 (aU 7 3 ?_);obtain⟨h15,h⟩|⟨h15,h⟩:=ai h
         ·exact ae 30 h15 (ac 2 (eP hK h))
         ·refine ae 30 h15 (aU 7 3 ?_);obtain⟨h16,h⟩|⟨h16,h⟩:=ai h
          ·exact ae 30 h16 (ac 2 (eP hK h))
          ·refine ae 30 h16 (aU 7 3 ?_);obtain⟨h17,h⟩|⟨h17,h⟩:=ai h
           ·exact ae 30 h17 (ac 2 (eP hK h))
           ·refine ae 30 h17 (aU 7 3 ?_);obtain⟨h18,h⟩|⟨h18,h⟩:=ai h
            ·exact ae 30 h18 (ac 2 (eP hK h))
            ·refine ae 30 h18 (aU 7 3 ?_);obtain⟨h19,h⟩|⟨h19,h⟩:=ai h
             ·exact ae 30 h19 (ac 2 (eP hK h))
             ·refine ae 30 h19 (aU 7 3 ?_);obtain⟨h20,h⟩|⟨h20,h⟩:=ai h
              ·exact ae 30 h20 (ac 2 (eP hK h))
              ·exact ae 30 h20 (ac 2 (eP hK h))
theorem yU(hK:ak K)(h:fV K n v1=some r):aH Try.prog 85 [.int .i32 v1] (fun v _=>v=iI r):=by
 refine bc (cat Try.f85 (pn 1)) Try.func85 Try.ntmps85 fun M w0=>(aZ ⟨[(0,.int .i32 v1)],[],[],[]⟩ ?_);unfold fV at h;refine c7 24 25 0 7 5 (ah 3 ?_);obtain⟨h1,h⟩|⟨h1,h⟩:=ai h
 ·exact au 6 h1 (ab (ac 0 (jR hK h)))
 ·refine au 6 h1 (aL 7 4 ?_);obtain⟨h2,h⟩|⟨h2,h⟩:=ai h
  ·exact au 10 h2 (ab (ac 0 (jR hK h)))
  ·refine au 10 h2 (aL 10 3 ?_);obtain⟨h3,h⟩|⟨h3,h⟩:=ai h
   ·refine au 13 h3 (aL 15 5 ?_);obtain⟨h4,h⟩|⟨h4,h⟩:=ai h
    ·exact au 18 h4 (ab (ac 0 (jR hK h)))
    ·refine au 18 h4 (aL 18 3 ?_);obtain⟨h5,h⟩|⟨h5,h⟩:=ai h
     ·exact au 21 h5 (ab (ac 0 (jR hK h)))
     ·exact au 21 h5 (ab (ac 0 (jR hK h)))
   ·refine au 13 h3 (aL 18 8 ?_);obtain⟨h6,h⟩|⟨h6,h⟩:=ai h
    ·exact au 21 h6 (ab (ac 0 (jR hK h)))
    ·exact au 21 h6 (ab (ac 0 (jR hK h)))
end
noncomputable section
variable(M:Nat→Prop)(w0:ay)(r:Bool)(v1:Int)(v2:Bool)  
abbrev Ar(n:Nat):am:=.c (cat Try.f87 (pn n))
abbrev K1:Cx:=⟨Try.prog,9,M,w0⟩
abbrev KW:=bodyPost Try.prog Try.f87 (bo M w0 (fun v _=>v=.bool r))
abbrev JM(ks:List am)(s:AS):=VE (K1 M w0) (KW M w0 r) ks .normal s
def FU:AS:=⟨[(4,.bool v2)],[],[],[]⟩
variable{M w0 r v1 v2}{K:Kn}{n:Nat}
theorem qk(hK:ak K)(h:jK K n v2=some r):JM M w0 r [Ar 53,.b 0,Ar 7] (FU v2):=by
 unfold jK at h;obtain⟨h4,h⟩|⟨h4,h⟩:=ai h
 ·refine ae 4 h4 (aD 6 ?_);cases h;exact aY
 ·refine ae 4 h4 (aD 6 ?_);cases h;exact aY
theorem xu(hK:ak K)(h:mi K n v1=some r):aH Try.prog 87 [.int .i32 v1] (fun v _=>v=.bool r):=by
 refine bc (cat Try.f87 (pn 1)) Try.func87 Try.ntmps87 fun M w0=>(aZ ⟨[(0,.int .i32 v1)],[],[],[]⟩ ?_);unfold mi at h;refine c7 105 53 0 7 9 ?_;obtain⟨h1,h⟩|⟨h1,h⟩:=ai h
 ·exact ae 4 h1 (ac 2 (qk hK h))
 ·refine ae 4 h1 (aU 7 3 ?_);obtain⟨h2,h⟩|⟨h2,h⟩:=ai h
  ·exact ae 4 h2 (ac 2 (qk hK h))
  ·refine ae 4 h2 (aU 7 3 ?_);obtain⟨h3,h⟩|⟨h3,h⟩:=ai h
   ·exact ae 4 h3 (ac 2 (qk hK h))
   ·exact ae 4 h3 (ac 2 (qk hK h))
end
noncomputable section
variable(M:Nat→Prop)(w0:ay)(r:Bool)(v1 v2:Int)(v5 v7 v8:Bool)  
abbrev jm(n:Nat):am:=.c (cat Try.f82 (pn n))
abbrev I6:Cx:=⟨Try.prog,29,M,w0⟩
abbrev KF:=bodyPost Try.prog Try.f82 (bo M w0 (fun v _=>v=.bool r))
abbrev tS(ks:List am)(s:AS):=VE (I6 M w0) (KF M w0 r) ks .normal s
def HJ:AS:=⟨[(4,.bool v8)],[],[],[]⟩
def IK:AS:=⟨[(0,.int .i32 v1),(1,.int .i32 v2),(16,.bool v7)],[],[],[]⟩
def Fp:AS:=⟨[(0,.int .i32 v1),(1,.int .i32 v2),(5,.bool v5)],[],[],[]⟩
variable{M w0 r v1 v2 v5 v7 v8}{K:Kn}{n:Nat}
theorem xv(hK:ak K)(h:o6 K n v8=some r):tS M w0 r [jm 15] (HJ v8):=by
 unfold o6 at h;refine aD 1 ?_;cases h;exact aY
theorem yf(hK:ak K)(h:oo K n v1 v2 v7=some r):tS M w0 r [jm 415,.b 0,jm 7] (IK v1 v2 v7):=by
 unfold oo at h;obtain⟨h8,h⟩|⟨h8,h⟩:=ai h
 ·refine ae 16 h8 (aD 6 ?_);cases h;exact aY
 ·refine ae 16 h8 (b9 (ks':=[jm 14,jm 15]) 4 (ah 3 ?_));obtain⟨h9,h⟩|⟨h9,h⟩:=ai h
  ·exact au 25 h9 (ab (ac 0 (xv hK h)))
  ·exact au 25 h9 (ab (ac 0 (xv hK h)))
theorem Bd(hK:ak K)(h:j0 K n v1 v2 v5=some r):tS M w0 r [jm 25,.b 0,jm 7] (Fp v1 v2 v5):=by
 unfold j0 at h;obtain⟨h4,h⟩|⟨h4,h⟩:=ai h
 ·refine ae 5 h4 (aD 6 ?_);cases h;exact aY
 ·refine ae 5 h4 (av 6 7 2 (ah 1 ?_));obtain⟨v6,h5,h⟩:=bind_some h;refine aE (xu hK h5) (ab ?_);obtain⟨h6,h⟩|⟨h6,h⟩:=ai h
  ·refine ae 13 h6 (aD 6 ?_);cases h;exact aY
  ·refine ae 13 h6 (av 6 7 2 (ah 3 ?_));obtain⟨h7,h⟩|⟨h7,h⟩:=ai h
   ·exact au 19 h7 (ab (ac 0 (yf hK h)))
   ·exact au 19 h7 (ab (ac 0 (yf hK h)))
theorem Ko(hK:ak K)(h:n8 K n v1 v2=some r):aH Try.prog 82 [.int .i32 v1,.int .i32 v2] (fun v _=>v=.bool r):=by
 refine bc (cat Try.f82 (pn 1)) Try.func82 Try.ntmps82 fun M w0=>(aZ ⟨[(0,.int .i32 v1),(1,.int .i32 v2)],[],[],[]⟩ ?_);unfold n8 at h;refine c7 24 25 0 7 5 (ah 1 ?_);obtain⟨v3,h1,h⟩:=bind_some h;refine aE (xu hK h1) (aL 3 1 ?_);obtain⟨h2,h⟩|⟨h2,h⟩:=ai h
 ·exact au 8 h2 (ab (ac 0 (Bd hK h)))
 ·refine au 8 h2 (aL 4 1 ?_);obtain⟨v4,h3,h⟩:=bind_some h;exact aE (yU hK h3) (ab (ac 0 (Bd hK h)))
end
noncomputable section
variable(M:Nat→Prop)(w0:ay)(r:List Int)(v1:ByteArray)(v2:Nat)(v9:Int)(v10:Nat)(v11:List Int)(v13:Bool)(v14:List Int)(m1:Nat)(L1:Int→Nat→(List Int)→Option (List Int))
abbrev vo:Cx:=⟨Try.prog,26,M,w0⟩
abbrev wZ:=bodyPost Try.prog Try.f70 (bo M w0 (fun v s=>v=.ref 23∧look 23 s.r=some ⟨3,1,lm (bz .i64) r⟩))
abbrev uN(ks:List am)(s:AS):=VE (vo M w0) (wZ M w0 r) ks .normal s
abbrev iS(n:Nat):am:=.c (cat Try.f70 (pn n))
abbrev uH:List am:=[.b 0,iS 31]
abbrev rx:List am:=kl (vo M w0) (wZ M w0 r) uH (cat Try.f70 (pn 244)) m1::uH
def F6:AS:=⟨[(3,.ref 23),(6,.int .i32 ((Utf8.decode v1 v10).1:Int)),(8,.sit 320008 v2 v1 (v10+(Utf8.decode v1 v10).2))],[],[(23,⟨3,1,lm (bz .i64) v14⟩)],[23,320008]⟩
def Je:AS:=⟨[(3,.ref 23),(5,iI ((v10:Nat):Int)),(6,.int .i32 ((Utf8.decode v1 v10).1:Int)),(8,.sit 320008 v2 v1 (v10+(Utf8.decode v1 v10).2)),(19,.bool v13)],[],[(23,⟨3,1,lm (bz .i64) v11⟩)],[23,320008]⟩
def xP:AS:=⟨[(3,.ref 23),(4,.int .i32 v9),(8,.sit 320008 v2 v1 v10)],[],[(23,⟨3,1,lm (bz .i64) v11⟩)],[23,320008]⟩
abbrev sn:Prop:=∀{v9:Int} {v10:Nat} {v11:(List Int)},L1 v9 v10 v11=some r→LP (vo M w0) (wZ M w0 r) uH (cat Try.f70 (pn 244)) m1 (xP v1 v2 v9 v10 v11)
variable{M w0 r v1 v2 v9 v10 v11 v13 v14 m1 L1}{K:Kn}{n:Nat}
theorem yR(hK:ak K)(hv2:w0.w.heap.size≤v2)(hL1:sn M w0 r v1 v2 m1 L1)(h:jE K n v1 v10 L1 v14=some r):uN M w0 r (iS 7835 :: .b 1::rx M w0 r m1) (F6 v1 v2 v10 v14):=by
 unfold jE at h;exact ac 2 (br (hL1 h))
theorem xI(hK:ak K)(hv2:w0.w.heap.size≤v2)(hL1:sn M w0 r v1 v2 m1 L1)(h:kh K n v1 v10 v11 L1 v13=some r):uN M w0 r (iS 15669::iS 7835 :: .b 1::rx M w0 r m1) (Je v1 v2 v10 v11 v13):=by
 unfold kh at h;obtain⟨h14,h⟩|⟨h14,h⟩:=ai h
 ·refine ae 19 h14 (aU 2 1 (ah 3 ?_));obtain⟨h15,h⟩:=aQ h;exact ax (cD 23 23 3 1 (bz .i64) (rfl) ((fun _=>rfl)) h15) (ab (ac 0 (yR hK (v2:=v2) hv2 hL1 h)))
 ·exact ae 19 h14 (ac 2 (yR hK (v2:=v2) hv2 hL1 h))
theorem J3(hK:ak K)(hv2:w0.w.heap.size≤v2)(hL1:sn M w0 r v1 v2 m1 L1)(h:fQ K n v1 L1 v9 v10 v11=some r):uN M w0 r (iS 244::rx M w0 r m1) (xP v1 v2 v9 v10 v11):=by
 unfold fQ at h;refine av 2 3 1 (ah 0 ?_);obtain⟨h11,h⟩|⟨h11,h⟩:=ai h
 ·refine rt 8 (id:=320008) (g:=v2) h11 hv2 (ab (b9 (ks':=iS 15668::iS 15669::iS 7835 :: .b 1::rx M w0 r m1) 8 (ah 3 ?_)));obtain⟨h12,h⟩|⟨h12,h⟩:=ai h
  ·refine au 15 h12 (aL 5 2 ?_);obtain⟨v12,h13,h⟩:=bind_some h;exact aE (Ko hK h13) (ab (ac 0 (xI hK (v2:=v2) hv2 hL1 h)))
  ·exact au 15 h12 (ab (ac 0 (xI hK (v2:=v2) hv2 hL1 h)))
 ·refine pZ 8 (id:=320008) (g:=v2) h11 (ab (aD 9 ?_));cases h;exact eG
theorem FH(hK:ak K)(hv2:w0.w.heap.size≤v2)(m:Nat):sn M w0 r v1 v2 m (iw K n v1 m):=by
 induction m with
 | zero=>intro v9 v10 v11 h;cases h
 | succ m ih=>intro v9 v10 v11 h;have h:fQ K n v1 (iw K n v1 m) v9 v10 v11=some r:=h;exact bl (J3 hK hv2 ih h)
theorem MG(hK:ak K)(h:oT K n v1=some r):aH Try.prog 70 [.str v1] (fun v s=>v=.ref 23∧look 23 s.r=some ⟨3,1,lm (bz .i64) r⟩):=by
 refine bc (cat Try.f70 (pn 1)) Try.func70 Try.ntmps70 fun M w0=>(aZ ⟨[(0,.str v1)],[],[],[]⟩ ?_);unfold oT at h;exact bO 60 61 31 8 (ah 1 (pX 320008 (b:=v1) fun v2 hv2=>(ab (gz 2 0 1 (bS [3,4,8] [] [] (fZ 23 3 3 1 (ac 0 (cp (p:=pn 122) n (FH hK (v2:=v2) hv2 n h)))))))))
end
noncomputable section
variable(M:Nat→Prop)(w0:ay)(r:Bool)(v1 v2:aj)(v3 v7 v10:Bool)  
abbrev mJ(n:Nat):am:=.c (cat Try.f56 (pn n))
abbrev G4:Cx:=⟨Try.prog,61,M,w0⟩
abbrev DZ:=bodyPost Try.prog Try.f56 (bo M w0 (fun v _=>v=.bool r))
abbrev vK(ks:List am)(s:AS):=VE (G4 M w0) (DZ M w0 r) ks .normal s
def E2:AS:=⟨[(4,.bool v7)],[],[],[]⟩
def JL:AS:=⟨[(2,.ptr 2 0),(3,.ptr 3 0),(51,.bool v10)],[(2,aw v1),(3,aw v2)],[],[2,3]⟩
def Eh:AS:=⟨[(2,.ptr 2 0),(3,.ptr 3 0),(12,.bool v3)],[(2,aw v1),(3,aw v2)],[],[2,3]⟩
variable{M w0 r v1 v2 v3 v7 v10}{K:Kn}{n:Nat}
theorem oe(hK:ak K)(h:ja K n v7=some r):vK M w0 r [mJ 53,mJ 7] (E2 v7):=by
 unfold ja at h;refine aD 2 ?_;cases h;exact aY
theorem pe(hK:ak K)(h:fI K n v1 v2 v10=some r):vK M w0 r [mJ 29,mJ 15] (JL v1 v2 v10):=by
 unfold fI at h;obtain⟨h16,h⟩|⟨h16,h⟩:=ai h
 ·refine ae 51 h16 (aD 5 ?_);cases h;exact aY
 ·refine ae 51 h16 (gV 2 3 3 (ah 6 ?_));obtain⟨v11,h17,h⟩:=bind_some h;refine fb 1058 (MG hK h17) (g8 23) (ax (bF (bz .i64) v11) (ab (aD 1 ?_)));cases h;exact aY
theorem z6(hK:ak K)(h:jj K n v1 v2 v3=some r):vK M w0 r [mJ 13,mJ 7] (Eh v1 v2 v3):=by
 unfold jj at h;obtain⟨h2,h⟩|⟨h2,h⟩:=ai h
 ·refine ae 12 h2 (av 4 5 2 (ah 4 ?_));obtain⟨h3,h⟩|⟨h3,h⟩:=ai h
  ·refine au 16 h3 (aL 12 8 ?_);obtain⟨h4,h⟩|⟨h4,h⟩:=ai h
   ·exact au 24 h4 (ab (ac 0 (oe hK h)))
   ·refine au 24 h4 (aL 13 1 ?_);obtain⟨v4,h5,h⟩:=bind_some h;exact aE (pT hK h5) (ab (ac 0 (oe hK h)))
  ·refine au 16 h3 (aL 5 1 ?_);obtain⟨v5,h6,h⟩:=bind_some h;refine aE (pT hK h6) (aL 8 2 ?_);obtain⟨h7,h⟩|⟨h7,h⟩:=ai h
   ·refine au 20 h7 (aL 12 4 ?_);obtain⟨h8,h⟩|⟨h8,h⟩:=ai h
    ·exact au 24 h8 (ab (ac 0 (oe hK h)))
    ·refine au 24 h8 (aL 13 1 ?_);obtain⟨v6,h9,h⟩:=bind_some h;exact aE (pT hK h9) (ab (ac 0 (oe hK h)))
   ·exact au 20 h7 (ab (ac 0 (oe hK h)))
 ·refine ae 12 h2 (nA 4 5 3 4 (ah 4 ?_));obtain⟨h10,h⟩|⟨h10,h⟩:=ai h
  ·exact au 32 h10 (ab (ac 0 (pe hK h)))
  ·refine au 32 h10 (aL 9 5 ?_);obtain⟨h11,h⟩|⟨h11,h⟩:=ai h
   ·exact au 37 h11 (ab (ac 0 (pe hK h)))
   ·refine au 37 h11 (aL 10 1 ?_);obtain⟨v8,h12,h⟩:=bind_some h;refine aE (pT hK h12) (aL 14 3 ?_);obtain⟨h13,h⟩|⟨h13,h⟩:=ai h
    ·exact au 42 h13 (ab (ac 0 (pe hK h)))
    ·refine au 42 h13 (aL 18 4 ?_);obtain⟨h14,h⟩|⟨h14,h⟩:=ai h
     ·refine au 46 h14 (aL 19 1 ?_);obtain⟨v9,h15,h⟩:=bind_some h;exact aE (pT hK h15) (ab (ac 0 (pe hK h)))
     ·exact au 46 h14 (ab (ac 0 (pe hK h)))
theorem Da(hK:ak K)(h:lK K n v1 v2=some r):aH Try.prog 56 [.agg (aw v1),.agg (aw v2)] (fun v _=>v=.bool r):=by
 refine bc (cat Try.f56 (pn 1)) Try.func56 Try.ntmps56 fun M w0=>(aZ ⟨[(0,.agg (aw v1)),(1,.agg (aw v2))],[],[],[]⟩ ?_);unfold lK at h;refine bO 12 13 7 4 (ah 4 ?_);obtain⟨h1,h⟩|⟨h1,h⟩:=ai h
 ·exact au 8 h1 (ab (ac 0 (z6 hK h)))
 ·exact au 8 h1 (ab (ac 0 (z6 hK h)))
end
noncomputable section
variable(M:Nat→Prop)(w0:ay)(r:List Int)(v1:Int)(v2:List Int)(v3 v4:Bool)  
abbrev zJ(n:Nat):am:=.c (cat Try.f89 (pn n))
abbrev KT:Cx:=⟨Try.prog,78,M,w0⟩
abbrev EE:=bodyPost Try.prog Try.f89 (bo M w0 (fun v s=>v=.ref 9∧dL s.o []∧look 9 s.r=some ⟨5,1,lm (bz .u8) r⟩))
abbrev BI(ks:List am)(s:AS):=VE (KT M w0) (EE M w0 r) ks .normal s
def Kz:AS:=⟨[(0,.ref 9),(1,.int .i32 v1),(50,.bool v4)],[],[(9,⟨5,1,lm (bz .u8) v2⟩)],[9]⟩
def Hw:AS:=⟨[(0,.ref 9),(1,.int .i32 v1),(5,.int .u32 (IntKind.wrap .u32 v1)),(25,.bool v3)],[],[(9,⟨5,1,lm (bz .u8) v2⟩)],[9]⟩
variable{M w0 r v1 v2 v3 v4}{K:Kn}{n:Nat}
theorem CN(hK:ak K)(h:ni K n v1 v2 v4=some r):BI M w0 r [zJ 479,.b 0] (Kz v1 v2 v4):=by
 unfold ni at h;obtain⟨h8,h⟩|⟨h8,h⟩:=ai h
 ·refine ae 50 h8 (av 4 5 2 (ah 20 ?_));obtain⟨h9,h⟩:=aQ h;refine ax (cD 77 9 5 1 (bz .u8) (rfl) ((fun _=>rfl)) h9) (ab (aD 2 ?_));cases h;exact ga
 ·refine ae 50 h8 (av 6 7 2 (ah 2 ?_));obtain⟨h10,h⟩:=aQ h;refine ax (cD 10 9 5 1 (bz .u8) (rfl) ((fun _=>rfl)) h10) (ab (aD 2 ?_));cases h;exact ga
theorem sO(hK:ak K)(h:ii K n v1 v2 v3=some r):BI M w0 r [zJ 119,.b 0] (Hw v1 v2 v3):=by
 unfold ii at h;obtain⟨h5,h⟩|⟨h5,h⟩:=ai h
 ·refine ae 25 h5 (av 4 5 2 (ah 15 ?_));obtain⟨h6,h⟩:=aQ h;refine ax (cD 49 9 5 1 (bz .u8) (rfl) ((fun _=>rfl)) h6) (ab (aD 2 ?_));cases h;exact ga
 ·refine ae 25 h5 (av 6 7 2 (ah 3 ?_));obtain⟨h7,h⟩|⟨h7,h⟩:=ai h
  ·exact au 53 h7 (ab (ac 0 (CN hK h)))
  ·exact au 53 h7 (ab (ac 0 (CN hK h)))
theorem EW(hK:ak K)(h:mo K n v1 v2=some r):gE Try.prog 89 [.ref 9,.int .i32 v1] [] 9 ⟨5,1,lm (bz .u8) v2⟩ [9] (fun v s=>v=.ref 9∧dL s.o []∧look 9 s.r=some ⟨5,1,lm (bz .u8) r⟩):=by
 refine nH (c:=cat Try.f89 (pn 1)) Try.func89 (by kernel_rfl) _ Try.ntmps89 (of_decide_eq_true (by kernel_rfl)) fun M w0=>(aZ ⟨[(0,.ref 9),(1,.int .i32 v1)],[],[(9,⟨5,1,lm (bz .u8) v2⟩)],[9]⟩ ?_);unfold mo at h;refine gz 29 0 7 ?_;obtain⟨h1,h⟩|⟨h1,h⟩:=ai h
 ·refine ae 11 h1 (av 4 5 2 (ah 10 ?_));obtain⟨h2,h⟩:=aQ h;refine ax (cD 24 9 5 1 (bz .u8) (rfl) ((fun _=>rfl)) h2) (ab (aD 2 ?_));cases h;exact ga
 ·refine ae 11 h1 (av 13 7 4 ?_);obtain⟨h3,h⟩|⟨h3,h⟩:=ai h
  ·exact ae 25 h3 (ac 2 (sO hK h))
  ·refine ae 25 h3 (aU 3 1 (ah 3 ?_));obtain⟨h4,h⟩|⟨h4,h⟩:=ai h
   ·exact au 30 h4 (ab (ac 0 (sO hK h)))
   ·exact au 30 h4 (ab (ac 0 (sO hK h)))
end
noncomputable section
variable(M:Nat→Prop)(w0:ay)(r:List Int)(v1:Int)(v2:List Int)  
variable{M w0 r v1 v2}{K:Kn}{n:Nat}
theorem CX(hK:ak K)(h:mG K n v1 v2=some r):gE Try.prog 84 [.ref 9,.int .i32 v1] [] 9 ⟨5,1,lm (bz .u8) v2⟩ [9] (fun v s=>v=.ref 9∧dL s.o []∧look 9 s.r=some ⟨5,1,lm (bz .u8) r⟩):=by
 refine nH (c:=cat Try.f84 (pn 1)) Try.func84 (by kernel_rfl) _ Try.ntmps84 (of_decide_eq_true (by kernel_rfl)) fun M w0=>(aZ ⟨[(0,.ref 9),(1,.int .i32 v1)],[],[(9,⟨5,1,lm (bz .u8) v2⟩)],[9]⟩ ?_);unfold mG at h;refine av 13 7 5 ?_;obtain⟨h1,h⟩|⟨h1,h⟩:=ai h
 ·refine ae 7 h1 (av 4 5 2 (ah 4 ?_));obtain⟨h2,h⟩:=aQ h;refine ax (cD 12 9 5 1 (bz .u8) (rfl) ((fun _=>rfl)) h2) (ab (aD 2 ?_));cases h;exact ga
 ·refine ae 7 h1 (gV 2 3 3 (ah 2 ?_));obtain⟨v3,h3,h⟩:=bind_some h;refine iD 9 9 [] (EW hK h3) (ab (aD 1 ?_));cases h;exact ga
end
noncomputable section
variable(M:Nat→Prop)(w0:ay)(r:Int×Unit×(List Int))(v1:Int)(v2:Bool)(v3:List Int)  
variable{M w0 r v1 v2 v3}{K:Kn}{n:Nat}
theorem yo(hK:ak K)(h:jU K n v1 v2 v3=some r):gE Try.prog 71 [.ptr 450114 0,.int .i32 v1] [(450114,[(oF v2 450114),.ref 9])] 9 ⟨5,1,lm (bz .u8) v3⟩ [9,450114,1450114] (fun v s=>v=.tup [iI r.1,.vv .nilIface]∧dL s.o [(450114,[.ptr 450114 0,.ref 9])]∧look 9 s.r=some ⟨5,1,lm (bz .u8) r.2.2⟩):=by
 refine nH (c:=cat Try.f71 (pn 1)) Try.func71 (by kernel_rfl) _ Try.ntmps71 (of_decide_eq_true (by kernel_rfl)) fun M w0=>(aZ ⟨[(0,.ptr 450114 0),(1,.int .i32 v1)],[(450114,[(oF v2 450114),.ref 9])],[(9,⟨5,1,lm (bz .u8) v3⟩)],[9,450114,1450114]⟩ ?_);unfold jU at h;refine av 6 7 3 (ah 1 ?_);rcases ai h with⟨h1,gh1⟩|⟨h1,gh1⟩
 ·subst h1;have h:=gh1;refine AC 450114 (b:=true) (c1:=.ref 9) (ab (av 2 3 1 (ah 4 (ax (bF (bz .u8) v3) (ab (av 2 3 1 (ah 6 ?_)))))));obtain⟨v4,h2,h⟩:=bind_some h;refine iD 9 9 [] (CX hK h2) (ab (av 2 3 1 (ah 4 (ax (bF (bz .u8) v4) (ab (aD 1 ?_))))));cases h;exact tX
 ·subst h1;have h:=gh1;refine AC 450114 (b:=false) (c1:=.ref 9) (ab (av 2 3 1 (ah 4 (ax (bF (bz .u8) v3) (ab (av 2 3 1 (ah 6 ?_)))))));obtain⟨v5,h3,h⟩:=bind_some h;refine iD 9 9 [] (CX hK h3) (ab (av 2 3 1 (ah 4 (ax (bF (bz .u8) v5) (ab (aD 1 ?_))))));cases h;exact tX
end
noncomputable section
variable(M:Nat→Prop)(w0:ay)(r:Int)(v1 v2:Int)  
variable{M w0 r v1 v2}{K:Kn}{n:Nat}
theorem wA(hK:ak K)(h:ic K n v1 v2=some r):aH Try.prog 73 [.int .i32 v1,iI v2] (fun v _=>v=iI r):=by
 refine bc (cat Try.f73 (pn 1)) Try.func73 Try.ntmps73 fun M w0=>(aZ ⟨[(0,.int .i32 v1),(1,iI v2)],[],[],[]⟩ ?_);unfold ic at h;refine av 6 7 3 (ah 1 ?_);obtain⟨v3,h1,h⟩:=bind_some h;refine aE (yU hK h1) (aL 3 1 ?_);obtain⟨v4,h2,h⟩:=bind_some h;refine aE (qU hK h2) (ab (aD 1 ?_));cases h;exact aY
end
noncomputable section
variable(M:Nat→Prop)(w0:ay)(r:Int)(v1:ByteArray)(v2:Int)(v3:Nat)(v5:Int)(v6 m1:Nat)(L1:Int→Nat→Option Int)
abbrev ud:Cx:=⟨Try.prog,19,M,w0⟩
abbrev wg:=bodyPost Try.prog Try.f74 (bo M w0 (fun v _=>v=iI r))
abbrev JJ(ks:List am)(s:AS):=VE (ud M w0) (wg M w0 r) ks .normal s
abbrev xU(n:Nat):am:=.c (cat Try.f74 (pn n))
abbrev u9:List am:=[.b 0,xU 15]
abbrev Ex:List am:=kl (ud M w0) (wg M w0 r) u9 (cat Try.f74 (pn 116)) m1::u9
def CA:AS:=⟨[(1,iI v2),(5,iI v5),(9,.sit 320009 v3 v1 v6)],[],[],[320009]⟩
abbrev Cs:Prop:=∀{v5:Int} {v6:Nat},L1 v5 v6=some r→LP (ud M w0) (wg M w0 r) u9 (cat Try.f74 (pn 116)) m1 (CA v1 v2 v3 v5 v6)
variable{M w0 r v1 v2 v3 v5 v6 m1 L1}{K:Kn}{n:Nat}
theorem Ia(hK:ak K)(hv3:w0.w.heap.size≤v3)(hL1:Cs M w0 r v1 v2 v3 m1 L1)(h:lF K n v1 v2 L1 v5 v6=some r):JJ M w0 r (xU 116::Ex M w0 r m1) (CA v1 v2 v3 v5 v6):=by
 unfold lF at h;refine av 2 3 1 (ah 0 ?_);obtain⟨h3,h⟩|⟨h3,h⟩:=ai h
 ·refine rt 9 (id:=320009) (g:=v3) h3 hv3 (ab (gz 13 1 6 (ah 3 ?_)));obtain⟨v7,h4,h⟩:=bind_some h;exact aE (wA hK h4) (ab (ac 1 (br (hL1 h))))
 ·refine pZ 9 (id:=320009) (g:=v3) h3 (ab (aD 9 ?_));cases h;exact aY
theorem Gc(hK:ak K)(hv3:w0.w.heap.size≤v3)(m:Nat):Cs M w0 r v1 v2 v3 m (my K n v1 v2 m):=by
 induction m with
 | zero=>intro v5 v6 h;cases h
 | succ m ih=>intro v5 v6 h;have h:lF K n v1 v2 (my K n v1 v2 m) v5 v6=some r:=h;exact bl (Ia hK hv3 ih h)
theorem AY(hK:ak K)(h:kp K n v1 v2=some r):aH Try.prog 74 [.str v1,iI v2] (fun v _=>v=iI r):=by
 refine bc (cat Try.f74 (pn 1)) Try.func74 Try.ntmps74 fun M w0=>(aZ ⟨[(0,.str v1),(1,iI v2)],[],[],[]⟩ ?_);unfold kp at h;exact bO 28 29 15 6 (ah 1 (pX 320009 (b:=v1) fun v3 hv3=>(ab (ac 1 (cp (p:=pn 58) n (Gc hK (v3:=v3) hv3 n h))))))
end
noncomputable section
variable(M:Nat→Prop)(w0:ay)(r:aq)(v1:List aj)(v4:Int)(v5:Bool)(v6:List Int)(v9:Bool)(v10:aB)(v14:ByteArray)(v15:Int)(v18:aB)(v22:ByteArray)(v23:Int)(m1:Nat)(L1:Int→Bool→(List Int)→Option aq)
abbrev wI:Cx:=⟨Try.prog,59,M,w0⟩
abbrev vF:=bodyPost Try.prog Try.f57 (bo M w0 (fun v _=>v=.agg (aI r)))
abbrev qo(ks:List am)(s:AS):=VE (wI M w0) (vF M w0 r) ks .normal s
abbrev dF(n:Nat):am:=.c (cat Try.f57 (pn n))
abbrev t9:List am:=[.b 0,dF 15]
abbrev I0:List am:=kl (wI M w0) (vF M w0 r) t9 (cat Try.f57 (pn 116)) m1::t9
def FS:AS:=⟨[(2,.ptr 2 0),(6,.ptr 6 0),(7,.ptr 7 0),(8,.str v14)],[(2,List.set (aI co) 61 (.nils)),(6,aA v10),(7,List.set (aI ({ co with Text:=(bytesOf v6),Space:=v15 }:aq)) 61 (.nils))],[],[2,6,7]⟩
def L7:AS:=⟨[(2,.ptr 2 0),(6,.ptr 6 0),(7,.ptr 7 0),(8,.str v22)],[(2,List.set (aI co) 61 (.nils)),(6,aA v18),(7,List.set (aI ({ co with Text:=(bytesOf v6),Space:=v23 }:aq)) 61 (.nils))],[],[2,6,7]⟩
def KI:AS:=⟨[(0,.sl (lm aw v1)),(2,.ptr 2 0),(3,.ptr 451114 0)],[(2,List.set (aI co) 61 (.nils)),(451114,[(oF v9 451114),.ref 401114])],[(401114,⟨5,1,lm (bz .u8) v6⟩)],[2,451114,401114]⟩
def Bp:AS:=⟨[(0,.sl (lm aw v1)),(2,.ptr 2 0),(3,.ptr 451114 0),(9,.sl (lm aw v1)),(10,iI (v1.length:Int)),(11,iI v4)],[(2,List.set (aI co) 61 (.nils)),(451114,[(oF v5 451114),.ref 401114])],[(401114,⟨5,1,lm (bz .u8) v6⟩)],[2,451114,401114]⟩
abbrev zQ:Prop:=∀{v4:Int} {v5:Bool} {v6:(List Int)},L1 v4 v5 v6=some r→LP (wI M w0) (vF M w0 r) t9 (cat Try.f57 (pn 116)) m1 (Bp v1 v4 v5 v6)
variable{M w0 r v1 v4 v5 v6 v9 v10 v14 v15 v18 v22 v23 m1 L1}{K:Kn}{n:Nat}
theorem AR(hK:ak K)(h:oy K n v6 v10 v14 v15=some r):qo M w0 r [dF 255] (FS v6 v10 v14 v15):=by
 unfold oy at h;refine av 2 3 1 (ah 3 ?_);obtain⟨v16,h24,h⟩:=bind_some h;refine aE (AY hK h24) (ab (av 2 3 1 (ah 1 ?_)));obtain⟨v17,h25,h⟩:=bind_some h;refine aE (qS hK h25) (ab (aD 3 (pO 2 ?_)));cases h;exact aY
theorem xS(hK:ak K)(h:pE K n v6 v18 v22 v23=some r):qo M w0 r [dF 255] (L7 v6 v18 v22 v23):=by
 unfold pE at h;refine av 2 3 1 (ah 3 ?_);obtain⟨v24,h35,h⟩:=bind_some h;refine aE (AY hK h35) (ab (av 2 3 1 (ah 1 ?_)));obtain⟨v25,h36,h⟩:=bind_some h;refine aE (qS hK h36) (ab (aD 3 (pO 2 ?_)));cases h;exact aY
theorem CU(hK:ak K)(h:kB K n v1 v6 v9=some r):qo M w0 r [dF 15] (KI v1 v6 v9):=by
 unfold kB at h;rcases ai h with⟨h14,gh14⟩|⟨h14,gh14⟩
 ·subst h14;have h:=gh14;refine av 2 3 1 (ah 1 ?_);obtain⟨h15,h⟩:=aQ h;refine ax (bH aw aw h15 (cY) ((fun _=>rfl))) (ab ?_);obtain⟨v10,h16,h⟩:=bZ h;refine bC (ks':=[dF 62,dF 63]) 1 ⟨[(0,.sl (lm aw v1)),(2,.ptr 2 0),(3,.ptr 451114 0),(6,.ptr 6 0)],[(2,List.set (aI co) 61 (.nils)),(6,aA v10),(451114,[.ptr 451114 0,.ref 401114])],[(401114,⟨5,1,lm (bz .u8) v6⟩)],[2,6,451114,401114]⟩ ?_ (by subst h16;kernel_rfl);refine ah 0 ?_;obtain⟨h17,h⟩:=aQ h;refine xc 451114 401114 (L:=v6) h17 (ab (bO 12 13 7 4 (ah 2 (ax (bF aw v1) (aL 4 1 ?_)))));obtain⟨h18,h⟩:=aQ h;refine ax (bH aw aw h18 (cY) ((fun _=>rfl))) (ab ?_);obtain⟨v11,h19,h⟩:=bZ h;refine bC (ks':=[dF 509,dF 255]) 0 ⟨[(2,.ptr 2 0),(6,.ptr 6 0),(7,.ptr 7 0),(8,.str (bytesOf v6)),(36,.bool v11)],[(2,List.set (aI co) 61 (.nils)),(6,aA v10),(7,List.set (aI ({ co with Text:=(bytesOf v6) }:aq)) 61 (.nils))],[],[2,6,7]⟩ ?_ (by subst h19;kernel_rfl)
  obtain⟨h20,h⟩|⟨h20,h⟩:=ai h
  ·refine ae 36 h20 (av 4 5 2 (ah 4 ?_));obtain⟨h21,h⟩:=aQ h;refine ax (rQ h21) (ab ?_);obtain⟨v12,h22,h⟩:=bZ h;refine bC (ks':=[dF 2037,dF 255]) 0 ⟨[(2,.ptr 2 0),(6,.ptr 6 0),(7,.ptr 7 0),(8,.str v12)],[(2,List.set (aI co) 61 (.nils)),(6,aA v10),(7,List.set (aI ({ co with Text:=(bytesOf v6) }:aq)) 61 (.nils))],[],[2,6,7]⟩ ?_ (by subst h22;kernel_rfl);refine ah 2 ?_;obtain⟨v13,h23,h⟩:=bind_some h;exact aE (wA hK h23) (ab (ac 0 (AR hK h)))
  ·exact ae 36 h20 (ac 2 (AR hK h))
 ·subst h14;have h:=gh14;refine av 2 3 1 (ah 1 ?_);obtain⟨h26,h⟩:=aQ h;refine ax (bH aw aw h26 (cY) ((fun _=>rfl))) (ab ?_);obtain⟨v18,h27,h⟩:=bZ h;refine bC (ks':=[dF 62,dF 63]) 1 ⟨[(0,.sl (lm aw v1)),(2,.ptr 2 0),(3,.ptr 451114 0),(6,.ptr 6 0)],[(2,List.set (aI co) 61 (.nils)),(6,aA v18),(451114,[.nilp,.ref 401114])],[(401114,⟨5,1,lm (bz .u8) v6⟩)],[2,6,451114,401114]⟩ ?_ (by subst h27;kernel_rfl);refine ah 0 ?_;obtain⟨h28,h⟩:=aQ h;refine xc 451114 401114 (L:=v6) h28 (ab (bO 12 13 7 4 (ah 2 (ax (bF aw v1) (aL 4 1 ?_)))));obtain⟨h29,h⟩:=aQ h;refine ax (bH aw aw h29 (cY) ((fun _=>rfl))) (ab ?_);obtain⟨v19,h30,h⟩:=bZ h;refine bC (ks':=[dF 509,dF 255]) 0 ⟨[(2,.ptr 2 0),(6,.ptr 6 0),(7,.ptr 7 0),(8,.str (bytesOf v6)),(36,.bool v19)],[(2,List.set (aI co) 61 (.nils)),(6,aA v18),(7,List.set (aI ({ co with Text:=(bytesOf v6) }:aq)) 61 (.nils))],[],[2,6,7]⟩ ?_ (by subst h30;kernel_rfl);obtain⟨h31,h⟩|⟨h31,h⟩:=ai h
  ·refine ae 36 h31 (av 4 5 2 (ah 4 ?_));obtain⟨h32,h⟩:=aQ h;refine ax (rQ h32) (ab ?_);obtain⟨v20,h33,h⟩:=bZ h;refine bC (ks':=[dF 2037,dF 255]) 0 ⟨[(2,.ptr 2 0),(6,.ptr 6 0),(7,.ptr 7 0),(8,.str v20)],[(2,List.set (aI co) 61 (.nils)),(6,aA v18),(7,List.set (aI ({ co with Text:=(bytesOf v6) }:aq)) 61 (.nils))],[],[2,6,7]⟩ ?_ (by subst h33;kernel_rfl);refine ah 2 ?_;obtain⟨v21,h34,h⟩:=bind_some h;exact aE (wA hK h34) (ab (ac 0 (xS hK h)))
  ·exact ae 36 h31 (ac 2 (xS hK h))
theorem Gp(hK:ak K)(hL1:zQ M w0 r v1 m1 L1)(h:mL K n v1 L1 v4 v5 v6=some r):qo M w0 r (dF 116::I0 M w0 r m1) (Bp v1 v4 v5 v6):=by
 unfold mL at h;rcases ai h with⟨h7,gh7⟩|⟨h7,gh7⟩
 ·subst h7;have h:=gh7;refine av 6 7 3 ?_;obtain⟨h8,h⟩|⟨h8,h⟩:=ai h
  ·refine ae 12 h8 (cN 8 9 1 3 5 (ah 0 ?_));obtain⟨h9,h⟩:=aQ h;refine ax (bH aw aw h9 (cY) ((fun _=>rfl))) (ab (ah 2 ?_));obtain⟨v7,h10,h⟩:=bind_some h;exact iD 401114 9 [(451114,450114)] (yo hK h10) (ab (ac 2 (br (hL1 h))))
  ·exact ae 12 h8 (ac 5 (CU hK h))
 ·subst h7;have h:=gh7;refine av 6 7 3 ?_;obtain⟨h11,h⟩|⟨h11,h⟩:=ai h
  ·refine ae 12 h11 (cN 8 9 1 3 5 (ah 0 ?_));obtain⟨h12,h⟩:=aQ h;refine ax (bH aw aw h12 (cY) ((fun _=>rfl))) (ab (ah 2 ?_));obtain⟨v8,h13,h⟩:=bind_some h;exact iD 401114 9 [(451114,450114)] (yo hK h13) (ab (ac 2 (br (hL1 h))))
  ·exact ae 12 h11 (ac 5 (CU hK h))
theorem F3(hK:ak K)(m:Nat):zQ M w0 r v1 m (jo K n v1 m):=by
 induction m with
 | zero=>intro v4 v5 v6 h;cases h
 | succ m ih=>intro v4 v5 v6 h;have h:mL K n v1 (jo K n v1 m) v4 v5 v6=some r:=h;exact bl (Gp hK ih h)
theorem Hy(hK:ak K)(h:nn K n v1=some r):aH Try.prog 57 [.sl (lm aw v1)] (fun v _=>v=.agg (aI r)):=by
 refine bc (cat Try.f57 (pn 1)) Try.func57 Try.ntmps57 fun M w0=>(aZ ⟨[(0,.sl (lm aw v1))],[],[],[]⟩ ?_);unfold nn at h;exact av 6 7 3 (ah 0 (Km 451114 (T:=114) (d:=3) (cs:=[.nilp,.nils]) (ab (bO 4 5 3 2 (ah 1 (ax (bF aw v1) (ab (gz 2 0 1 (bS [0,2,3,9,10,11] [2,451114] [] (y5 401114 451114 1 5 1 (ac 0 (cp (p:=pn 58) n (F3 hK n h)))))))))))))
end
noncomputable section
variable(M:Nat→Prop)(w0:ay)(r:List aq)(v1:List ag)(v2:Fv)(v3:List aj)(v30:Int)(v31:List aq)(v33:Bool)(v39:Int)(v41:Bool)(v43:Int)(v44:aq)(m1 m2:Nat)(L1:Int→(List aq)→Option (List aq))(L2:Int→Option (List aq))
abbrev nL:Cx:=⟨Try.prog,120,M,w0⟩
abbrev om:=bodyPost Try.prog Try.f41 (bo M w0 (fun v s=>v=.ref 117∧look 117 s.r=some ⟨41,62,lm aI r⟩))
abbrev o3(ks:List am)(s:AS):=VE (nL M w0) (om M w0 r) ks .normal s
abbrev dg(n:Nat):am:=.c (cat Try.f41 (pn n))
abbrev wz:List am:=[.b 0,dg 31]
abbrev fR:List am:=kl (nL M w0) (om M w0 r) wz (cat Try.f41 (pn 244)) m1::wz
abbrev wW:List am:=.b 3::dg 4009823 :: .b 2::dg 31327 :: .b 1::fR M w0 r m1
abbrev Ae:List am:=kl (nL M w0) (om M w0 r) (wW M w0 r m1) (cat Try.f41 (pn 16039288)) m2::(wW M w0 r m1)
def IA:AS:=⟨[(1,.fn v2.id v2.aN),(5,.sl (lm aw v3)),(6,.ref 117),(8,.ptr 8 0),(9,.bool v33),(10,.ptr 10 0),(11,iI v43)],[(8,aw (gD v3 v30)),(10,aI v44)],[(117,⟨41,62,lm aI v31⟩)],[8,10,117]⟩
def GU:AS:=⟨[(1,.fn v2.id v2.aN),(5,.sl (lm aw v3)),(6,.ref 117),(7,iI v30),(8,.ptr 8 0),(9,.bool v33),(10,.ptr 10 0),(11,iI v39),(81,.bool v41)],[(8,aw (gD v3 v30)),(10,List.set (aI co) 61 (.nils))],[(117,⟨41,62,lm aI v31⟩)],[8,10,117]⟩
def Br:AS:=⟨[(1,.fn v2.id v2.aN),(5,.sl (lm aw v3)),(6,.ref 117),(7,iI v30),(8,.ptr 8 0),(9,.bool v33),(10,.ptr 10 0),(11,iI v39)],[(8,aw (gD v3 v30)),(10,List.set (aI co) 61 (.nils))],[(117,⟨41,62,lm aI v31⟩)],[8,10,117]⟩
def Kv:AS:=⟨[(1,.fn v2.id v2.aN),(5,.sl (lm aw v3)),(6,.ref 117),(7,iI v30),(8,.ptr 8 0),(9,.bool v33)],[(8,aw (gD v3 v30))],[(117,⟨41,62,lm aI v31⟩)],[8,117]⟩
def yv:AS:=⟨[(1,.fn v2.id v2.aN),(5,.sl (lm aw v3)),(6,.ref 117),(7,iI v30)],[],[(117,⟨41,62,lm aI v31⟩)],[117]⟩
abbrev jz:Prop:=∀{v30:Int} {v31:(List aq)},L1 v30 v31=some r→LP (nL M w0) (om M w0 r) wz (cat Try.f41 (pn 244)) m1 (yv v2 v3 v30 v31)
abbrev vq:Prop:=∀{v39:Int},L2 v39=some r→LP (nL M w0) (om M w0 r) (wW M w0 r m1) (cat Try.f41 (pn 16039288)) m2 (Br v2 v3 v30 v31 v33 v39)
variable{M w0 r v1 v2 v3 v30 v31 v33 v39 v41 v43 v44 m1 m2 L1 L2}{K:Kn}{n:Nat}
theorem ve(hK:ak K)(hL1:jz M w0 r v2 v3 m1 L1)(h:fS K n v2 v3 v30 v31 v33 L1 v43 v44=some r):o3 M w0 r (.b 2::dg 31327 :: .b 1::fR M w0 r m1) (IA v2 v3 v30 v31 v33 v43 v44):=by
 unfold fS at h;refine gV 2 3 2 (bS [1,5,6,8,9,10,11] [8,10] [117] (cg 3 (nu 100 [.ptr 8 4,.cptr (aS ((gD v3 v30).Box)),.cptr (aS ((gD v3 v30).Box)),.cptr (List.drop 1 (aS ((gD v3 v30).Box))),iI (((gD v3 v30).Box).Node),.ptr 8 4,.cptr (aS ((gD v3 v30).Box)),.cptr (aS ((gD v3 v30).Box)),.cptr (List.drop 2 (aS ((gD v3 v30).Box))),.agg (aA (((gD v3 v30).Box).Style)),.bool v33,.ptr 10 0,.ptr 10 2,.ptr 10 59]) [] [] [bV Try.prog 120 Try.f41 (pn 62654) 12,bV Try.prog 120 Try.f41 (pn 62654) 14,bV Try.prog 120 Try.f41 (pn 62654) 16] (aO [.v 0 1,.v 0 1,.v 0 1,.v 0 1,.v 0 1,.v 0 2,.v 0 2,.v 0 2,.v 0 2,.v 0 2,.v 0 3,.v 0 1] (ao (bW 0) (aO [.v 1 1] (ao (bW 1) (aO [.v 2 1] (ao (bW 2) ce)))))) ?_));obtain⟨v45,h94,h⟩:=bZ h;obtain⟨v46,h95,h⟩:=bZ h;refine bC (ks':=dg 125310::dg 125311 :: .b 1::fR M w0 r m1) 1 ⟨[(1,.fn v2.id v2.aN),(5,.sl (lm aw v3)),(6,.ref 117),(10,.ptr 10 0),(11,iI v43)],[(10,aI ({ v44 with Node:=v45,Style:=v46,Glued:=v33 }:aq))],[(117,⟨41,62,lm aI v31⟩)],[10,117]⟩ ?_ (by subst h95;subst h94;kernel_rfl)
 refine ah 3 ?_;obtain⟨h96,h⟩:=aQ h;exact ax (cD 117 117 41 62 aI (rfl) (fP) h96) (ab (ac 2 (br (hL1 h))))
theorem qj(hK:ak K)(hL1:jz M w0 r v2 v3 m1 L1)(hL2:vq M w0 r v2 v3 v30 v31 v33 m1 m2 L2)(h:gg K n v2 v3 v30 v31 v33 v39 L1 L2 v41=some r):o3 M w0 r (dg 64157153::dg 32078577::Ae M w0 r m1 m2) (GU v2 v3 v30 v31 v33 v39 v41):=by
 unfold gg at h;obtain⟨h91,h⟩|⟨h91,h⟩:=ai h
 ·exact ae 81 h91 (ac 5 (br (hL2 h)))
 ·refine ae 81 h91 (b9 (ks':=dg 4009823 :: .b 2::dg 31327 :: .b 1::fR M w0 r m1) 5 (ah 3 ?_));obtain⟨h92,h⟩:=aQ h;refine ax (vm aw v3 v30 v39 95 (.tmp 84) (some (.tmp 85)) (some (.tmp 86)) 87 (e:=99) (sz:=5) (by kernel_rfl) (by kernel_rfl) (by kernel_rfl) (by kernel_rfl) (by kernel_rfl) (by kernel_rfl) (cY) (fun k hk=>by subst hk;kernel_rfl) h92) ?_;obtain⟨v42,h93,h⟩:=bind_some h;exact aE (Hy hK h93) (ab (ac 0 (ve hK hL1 h)))
theorem J0(hK:ak K)(hL1:jz M w0 r v2 v3 m1 L1)(hL2:vq M w0 r v2 v3 v30 v31 v33 m1 m2 L2)(h:mN K n v2 v3 v30 v31 v33 L1 L2 v39=some r):o3 M w0 r (dg 16039288::Ae M w0 r m1 m2) (Br v2 v3 v30 v31 v33 v39):=by
 unfold mN at h;refine bO 4 5 3 2 (bS [1,5,6,7,8,9,10,11] [8,10] [117] ?_);obtain⟨h83,h⟩|⟨h83,h⟩:=ai h
 ·obtain⟨h84,h⟩:=aQ h;obtain⟨h85,h⟩|⟨h85,h⟩:=ai h
  ·obtain⟨h86,h⟩:=aQ h;obtain⟨h87,h⟩|⟨h87,h⟩:=ai h
   ·obtain⟨h88,h⟩:=aQ h;obtain⟨h89,h⟩:=aQ h;obtain⟨v40,h90,h⟩:=bind_some h;exact cg 0 (nu 47 [iI v39,.sl (lm aw v3),iI (v3.length:Int),.bool (decide (v39<(v3.length:Int))),.bool true,.sl (lm aw v3),iI v39,.cptr (aw (gD v3 v39)),.cptr (List.drop 0 (aw (gD v3 v39))),iI ((gD v3 v39).Kind),.bool (((gD v3 v39).Kind) == 1),.bool (((gD v3 v39).Kind) == 1),.bool true,.sl (lm aw v3),iI v39,.cptr (aw (gD v3 v39)),.cptr (List.drop 1 (aw (gD v3 v39))),iI ((gD v3 v39).Of),.ptr 8 1,iI ((gD v3 v30).Of),.bool (((gD v3 v39).Of) == ((gD v3 v30).Of)),.bool (((gD v3 v39).Of) == ((gD v3 v30).Of)),.bool true,.sl (lm aw v3),iI v39,iI (aa (v39-1)),.cptr (aw (gD v3 ((aa (v39-1))))),.agg (aw (gD v3 ((aa (v39-1))))),.sl (lm aw v3),iI v39,.cptr (aw (gD v3 v39)),.agg (aw (gD v3 v39)),.bool v40,.bool (!v40),.bool (!v40)]) [] [] [] (aO (vz 2) (ct (bF aw v3) (aO [.v 0 1] (ao (eo 0 51 (e:=(decide (v39<(v3.length:Int)))) (b:=true) h83) (aO (vz 2) (ct (bH aw aw h84 (cY) ((fun _=>rfl))) (aO (vz 4) (ao (eo 0 59 (e:=(((gD v3 v39).Kind) == 1)) (b:=true) h85) (aO (vz 2) (ct (bH aw aw h86 (cY) ((fun _=>rfl))) (aO (vz 6) (ao (eo 0 69 (e:=(((gD v3 v39).Of) == ((gD v3 v30).Of))) (b:=true) h87) (aO (vz 3) (ct (bH aw aw h88 (cY) ((fun _=>rfl))) (aO (vz 3) (ct (bH aw aw h89 (cY) ((fun _=>rfl))) (aO [.v 0 1] (ao (ci 0 1 79 (Da hK h90)) (aO (vz 2) ce))))))))))))))))))) (ac 0 (qj hK hL1 hL2 h))
   ·exact cg 0 (nu 47 [iI v39,.sl (lm aw v3),iI (v3.length:Int),.bool (decide (v39<(v3.length:Int))),.bool true,.sl (lm aw v3),iI v39,.cptr (aw (gD v3 v39)),.cptr (List.drop 0 (aw (gD v3 v39))),iI ((gD v3 v39).Kind),.bool (((gD v3 v39).Kind) == 1),.bool (((gD v3 v39).Kind) == 1),.bool true,.sl (lm aw v3),iI v39,.cptr (aw (gD v3 v39)),.cptr (List.drop 1 (aw (gD v3 v39))),iI ((gD v3 v39).Of),.ptr 8 1,iI ((gD v3 v30).Of),.bool (((gD v3 v39).Of) == ((gD v3 v30).Of)),.bool (((gD v3 v39).Of) == ((gD v3 v30).Of)),.bool false,.tup [],.tup [],.tup [],.tup [],.tup [],.tup [],.tup [],.tup [],.tup [],.tup [],.tup [],.bool false]) [] [] [] (aO (vz 2) (ct (bF aw v3) (aO [.v 0 1] (ao (eo 0 51 (e:=(decide (v39<(v3.length:Int)))) (b:=true) h83) (aO (vz 2) (ct (bH aw aw h84 (cY) ((fun _=>rfl))) (aO (vz 4) (ao (eo 0 59 (e:=(((gD v3 v39).Kind) == 1)) (b:=true) h85) (aO (vz 2) (ct (bH aw aw h86 (cY) ((fun _=>rfl))) (aO (vz 6) (ao (eo 0 69 (e:=(((gD v3 v39).Of) == ((gD v3 v30).Of))) (b:=false) h87) (ao (aW 0 1) (ao (aW 0 1) (ao (aW 0 1) (ao (aW 0 1) (ao (aW 0 1) (ao (aW 0 1) (ao (aW 0 1) (ao (aW 0 1) (ao (aW 0 1) (ao (aW 0 1) (ao (aW 0 1) (aO [.v 0 1] ce)))))))))))))))))))))))) (ac 0 (qj hK hL1 hL2 h))
  ·exact cg 0 (nu 47 [iI v39,.sl (lm aw v3),iI (v3.length:Int),.bool (decide (v39<(v3.length:Int))),.bool true,.sl (lm aw v3),iI v39,.cptr (aw (gD v3 v39)),.cptr (List.drop 0 (aw (gD v3 v39))),iI ((gD v3 v39).Kind),.bool (((gD v3 v39).Kind) == 1),.bool (((gD v3 v39).Kind) == 1),.bool false,.tup [],.tup [],.tup [],.tup [],.tup [],.tup [],.tup [],.tup [],.bool false,.bool false,.tup [],.tup [],.tup [],.tup [],.tup [],.tup [],.tup [],.tup [],.tup [],.tup [],.tup [],.bool false]) [] [] [] (aO (vz 2) (ct (bF aw v3) (aO [.v 0 1] (ao (eo 0 51 (e:=(decide (v39<(v3.length:Int)))) (b:=true) h83) (aO (vz 2) (ct (bH aw aw h84 (cY) ((fun _=>rfl))) (aO (vz 4) (ao (eo 0 59 (e:=(((gD v3 v39).Kind) == 1)) (b:=false) h85) (ao (aW 0 1) (ao (aW 0 1) (ao (aW 0 1) (ao (aW 0 1) (ao (aW 0 1) (ao (aW 0 1) (ao (aW 0 1) (ao (aW 0 1) (aO (vz 2) (ao (aW 0 1) (ao (aW 0 1) (ao (aW 0 1) (ao (aW 0 1) (ao (aW 0 1) (ao (aW 0 1) (ao (aW 0 1) (ao (aW 0 1) (ao (aW 0 1) (ao (aW 0 1) (ao (aW 0 1) (aO [.v 0 1] ce))))))))))))))))))))))))))))) (ac 0 (qj hK hL1 hL2 h))
 ·exact cg 0 (nu 47 [iI v39,.sl (lm aw v3),iI (v3.length:Int),.bool (decide (v39<(v3.length:Int))),.bool false,.tup [],.tup [],.tup [],.tup [],.tup [],.tup [],.bool false,.bool false,.tup [],.tup [],.tup [],.tup [],.tup [],.tup [],.tup [],.tup [],.bool false,.bool false,.tup [],.tup [],.tup [],.tup [],.tup [],.tup [],.tup [],.tup [],.tup [],.tup [],.tup [],.bool false]) [] [] [] (aO (vz 2) (ct (bF aw v3) (aO [.v 0 1] (ao (eo 0 51 (e:=(decide (v39<(v3.length:Int)))) (b:=false) h83) (ao (aW 0 1) (ao (aW 0 1) (ao (aW 0 1) (ao (aW 0 1) (ao (aW 0 1) (ao (aW 0 1) (aO (vz 2) (ao (aW 0 1) (ao (aW 0 1) (ao (aW 0 1) (ao (aW 0 1) (ao (aW 0 1) (ao (aW 0 1) (ao (aW 0 1) (ao (aW 0 1) (aO (vz 2) (ao (aW 0 1) (ao (aW 0 1) (ao (aW 0 1) (ao (aW 0 1) (ao (aW 0 1) (ao (aW 0 1) (ao (aW 0 1) (ao (aW 0 1) (ao (aW 0 1) (ao (aW 0 1) (ao (aW 0 1) (aO [.v 0 1] ce)))))))))))))))))))))))))))))))) (ac 0 (qj hK hL1 hL2 h))
theorem FP(hK:ak K)(hL1:jz M w0 r v2 v3 m1 L1)(m:Nat):vq M w0 r v2 v3 v30 v31 v33 m1 m (jn K n v2 v3 v30 v31 v33 L1 m):=by
 induction m with
 | zero=>intro v39 h;cases h
 | succ m ih=>intro v39 h;have h:mN K n v2 v3 v30 v31 v33 L1 (jn K n v2 v3 v30 v31 v33 L1 m) v39=some r:=h;exact bl (J0 hK hL1 ih h)
theorem t6(hK:ak K)(hL1:jz M w0 r v2 v3 m1 L1)(h:jN K n v2 v3 v30 v31 L1 v33=some r):o3 M w0 r (dg 3915 :: .b 1::fR M w0 r m1) (Kv v2 v3 v30 v31 v33):=by
 unfold jN at h;obtain⟨v34,h69,h⟩:=bZ h;refine bC (ks':=dg 250613 :: .b 2::dg 31327 :: .b 1::fR M w0 r m1) 10 ⟨[(1,.fn v2.id v2.aN),(5,.sl (lm aw v3)),(6,.ref 117),(7,iI v30),(8,.ptr 8 0),(9,.bool v33),(10,.ptr 10 0),(11,iI (aa (v30+1))),(46,iI ((gD v3 v30).Kind)),(89,.bool v34)],[(8,aw (gD v3 v30)),(10,List.set (aI co) 61 (.nils))],[(117,⟨41,62,lm aI v31⟩)],[8,10,117]⟩ ?_ (by subst h69;kernel_rfl);obtain⟨h70,h⟩|⟨h70,h⟩:=ai h
 ·exact ae 89 h70 (b9 (ks':=.b 2::dg 31327 :: .b 1::fR M w0 r m1) 2 (pO 10 (ac 0 (ve hK hL1 h))))
 ·refine ae 89 h70 ?_;obtain⟨v35,h71,h⟩:=bZ h;refine bC (ks':=dg 1002455 :: .b 2::dg 31327 :: .b 1::fR M w0 r m1) 3 ⟨[(1,.fn v2.id v2.aN),(5,.sl (lm aw v3)),(6,.ref 117),(7,iI v30),(8,.ptr 8 0),(9,.bool v33),(10,.ptr 10 0),(11,iI (aa (v30+1))),(92,.bool v35)],[(8,aw (gD v3 v30)),(10,List.set (aI co) 61 (.nils))],[(117,⟨41,62,lm aI v31⟩)],[8,10,117]⟩ ?_ (by subst h71;kernel_rfl);obtain⟨h72,h⟩|⟨h72,h⟩:=ai h
  ·refine ae 92 h72 (aU 2 1 (ah 5 ?_));obtain⟨v36,h73,h⟩:=bind_some h;exact kJ (hK.kD h73) (ab (ac 0 (ve hK hL1 h)))
  ·exact ae 92 h72 (ac 3 (cp (p:=pn 8019644) n (FP hK hL1 n h)))
theorem IM(hK:ak K)(hL1:jz M w0 r v2 v3 m1 L1)(h:kw K n v2 v3 L1 v30 v31=some r):o3 M w0 r (dg 244::fR M w0 r m1) (yv v2 v3 v30 v31):=by
 unfold kw at h;refine bO 4 5 3 2 (ah 2 (ax (bF aw v3) (ab ?_)));obtain⟨h62,h⟩|⟨h62,h⟩:=ai h
 ·refine ae 17 h62 (b9 (ks':=dg 1956::dg 1957 :: .b 1::fR M w0 r m1) 4 (ah 2 ?_));obtain⟨h63,h⟩:=aQ h;refine ax (bH aw aw h63 (cY) ((fun _=>rfl))) (ab (av 2 3 1 (bS [1,5,6,7,8] [8] [117] ?_)));obtain⟨h64,h⟩|⟨h64,h⟩:=ai h
  ·obtain⟨h65,h⟩:=aQ h;obtain⟨h66,h⟩|⟨h66,h⟩:=ai h
   ·obtain⟨h67,h⟩:=aQ h;obtain⟨v32,h68,h⟩:=bind_some h;exact cg 1 (nu 22 [iI v30,.bool (decide (v30>0)),.bool true,.sl (lm aw v3),iI v30,iI (aa (v30-1)),.cptr (aw (gD v3 ((aa (v30-1))))),.cptr (List.drop 0 (aw (gD v3 ((aa (v30-1)))))),iI ((gD v3 ((aa (v30-1)))).Kind),.bool (((gD v3 ((aa (v30-1)))).Kind) != 2),.bool (((gD v3 ((aa (v30-1)))).Kind) != 2),.bool true,.sl (lm aw v3),iI v30,iI (aa (v30-1)),.cptr (aw (gD v3 ((aa (v30-1))))),.agg (aw (gD v3 ((aa (v30-1))))),.agg (aw (gD v3 v30)),.bool v32,.bool (!v32),.bool (!v32)]) [] [] [bV Try.prog 120 Try.f41 (pn 3914) 21] (aO (vz 2) (ao (eo 0 24 (e:=(decide (v30>0))) (b:=true) h64) (aO (vz 3) (ct (bH aw aw h65 (cY) ((fun _=>rfl))) (aO (vz 4) (ao (eo 0 33 (e:=(((gD v3 ((aa (v30-1)))).Kind) != 2)) (b:=true) h66) (aO (vz 3) (ct (bH aw aw h67 (cY) ((fun _=>rfl))) (aO (vz 2) (ao (ci 0 1 40 (Da hK h68)) (aO (vz 2) (ao (bW 0) ce)))))))))))) (ac 0 (t6 hK hL1 h))
   ·exact cg 1 (nu 22 [iI v30,.bool (decide (v30>0)),.bool true,.sl (lm aw v3),iI v30,iI (aa (v30-1)),.cptr (aw (gD v3 ((aa (v30-1))))),.cptr (List.drop 0 (aw (gD v3 ((aa (v30-1)))))),iI ((gD v3 ((aa (v30-1)))).Kind),.bool (((gD v3 ((aa (v30-1)))).Kind) != 2),.bool (((gD v3 ((aa (v30-1)))).Kind) != 2),.bool false,.tup [],.tup [],.tup [],.tup [],.tup [],.tup [],.tup [],.tup [],.bool false]) [] [] [bV Try.prog 120 Try.f41 (pn 3914) 21] (aO (vz 2) (ao (eo 0 24 (e:=(decide (v30>0))) (b:=true) h64) (aO (vz 3) (ct (bH aw aw h65 (cY) ((fun _=>rfl))) (aO (vz 4) (ao (eo 0 33 (e:=(((gD v3 ((aa (v30-1)))).Kind) != 2)) (b:=false) h66) (ao (aW 0 1) (ao (aW 0 1) (ao (aW 0 1) (ao (aW 0 1) (ao (aW 0 1) (ao (aW 0 1) (ao (aW 0 1) (ao (aW 0 1) (aO [.v 0 1] (ao (bW 0) ce)))))))))))))))) (ac 0 (t6 hK hL1 h))
  ·exact cg 1 (nu 22 [iI v30,.bool (decide (v30>0)),.bool false,.tup [],.tup [],.tup [],.tup [],.tup [],.tup [],.tup [],.bool false,.bool false,.tup [],.tup [],.tup [],.tup [],.tup [],.tup [],.tup [],.tup [],.bool false]) [] [] [bV Try.prog 120 Try.f41 (pn 3914) 21] (aO (vz 2) (ao (eo 0 24 (e:=(decide (v30>0))) (b:=false) h64) (ao (aW 0 1) (ao (aW 0 1) (ao (aW 0 1) (ao (aW 0 1) (ao (aW 0 1) (ao (aW 0 1) (ao (aW 0 1) (aO (vz 2) (ao (aW 0 1) (ao (aW 0 1) (ao (aW 0 1) (ao (aW 0 1) (ao (aW 0 1) (ao (aW 0 1) (ao (aW 0 1) (ao (aW 0 1) (aO [.v 0 1] (ao (bW 0) ce)))))))))))))))))))) (ac 0 (t6 hK hL1 h))
 ·refine ae 17 h62 (aD 8 ?_);cases h;exact eG
theorem Fs(hK:ak K)(m:Nat):jz M w0 r v2 v3 m (kt K n v2 v3 m):=by
 induction m with
 | zero=>intro v30 v31 h;cases h
 | succ m ih=>intro v30 v31 h;have h:kw K n v2 v3 (kt K n v2 v3 m) v30 v31=some r:=h;exact bl (IM hK ih h)
theorem GX(hK:ak K)(h:mB K n v1 v2=some r):aH Try.prog 41 [.sl (lm aF v1),.fn v2.id v2.aN] (fun v s=>v=.ref 117∧look 117 s.r=some ⟨41,62,lm aI r⟩):=by
 refine bc (cat Try.f41 (pn 1)) Try.func41 Try.ntmps41 fun M w0=>(aZ ⟨[(0,.sl (lm aF v1)),(1,.fn v2.id v2.aN)],[],[],[]⟩ ?_);unfold mB at h;refine av 6 7 3 (ah 1 ?_);obtain⟨v3,h1,h⟩:=bind_some h;exact fb 1013 (IW hK h1) (g8 400003) (ab (gC 26 0 7 6 (bS [1,5,6,7] [] [1013] (Bz 1013 (fZ 117 6 41 62 (ac 0 (cp (p:=pn 122) n (Fs hK n h))))))))
end
noncomputable section
variable(M:Nat→Prop)(w0:ay)(r v1:Int)  
variable{M w0 r v1}{K:Kn}{n:Nat}
theorem eV(hK:ak K)(h:dQ K n v1=some r):aH Try.prog 59 [iI v1] (fun v _=>v=iI r):=by
 refine bc (cat Try.f59 (pn 1)) Try.func59 Try.ntmps59 fun M w0=>(aZ ⟨[(0,iI v1)],[],[],[]⟩ ?_);unfold dQ at h;refine aD 5 ?_;cases h;exact aY
end
noncomputable section
variable(M:Nat→Prop)(w0:ay)(r:Int×Bool)(v1:cV)(v2 v4:Int)  
abbrev L5(n:Nat):am:=.c (cat Try.f58 (pn n))
abbrev Fh:Cx:=⟨Try.prog,25,M,w0⟩
abbrev Gf:=bodyPost Try.prog Try.f58 (bo M w0 (fun v _=>v=.tup [iI r.1,.bool r.2]))
abbrev JX(ks:List am)(s:AS):=VE (Fh M w0) (Gf M w0 r) ks .normal s
def DV:AS:=⟨[(6,iI v4)],[],[],[]⟩
variable{M w0 r v1 v2 v4}{K:Kn}{n:Nat}
theorem BT(hK:ak K)(h:lA K n v4=some r):JX M w0 r [.b 0,L5 15] (DV v4):=by
 unfold lA at h;refine aD 4 ?_;cases h;exact fW
theorem dx(hK:ak K)(h:cS K n v1 v2=some r):aH Try.prog 58 [.agg (lT v1),iI v2] (fun v _=>v=.tup [iI r.1,.bool r.2]):=by
 refine bc (cat Try.f58 (pn 1)) Try.func58 Try.ntmps58 fun M w0=>(aZ ⟨[(0,.agg (lT v1)),(1,iI v2)],[],[],[]⟩ ?_);unfold cS at h;refine gC 117 0 15 10 ?_;obtain⟨h1,h⟩|⟨h1,h⟩:=ai h
 ·exact ae 11 h1 (ac 2 (BT hK h))
 ·refine ae 11 h1 (aU 7 3 ?_);obtain⟨h2,h⟩|⟨h2,h⟩:=ai h
  ·refine ae 13 h2 (aU 2 1 (ah 1 ?_));obtain⟨v3,h3,h⟩:=bind_some h;exact aE (eV hK h3) (ab (ac 0 (BT hK h)))
  ·refine ae 13 h2 (aD 6 ?_);cases h;exact fW
end
noncomputable section
variable(M:Nat→Prop)(w0:ay)(r:bt)(v1:aB)(v2 v3:Int)  
abbrev jM(n:Nat):am:=.c (cat Try.f43 (pn n))
abbrev IH:Cx:=⟨Try.prog,52,M,w0⟩
abbrev Gw:=bodyPost Try.prog Try.f43 (bo M w0 (fun v _=>v=.agg (bw r)))
abbrev pD(m:Nat):List am:=kl (IH M w0) (Gw M w0 r) [.b 0,jM 15] (cat Try.f43 (pn 116)) m::[.b 0,jM 15]
variable{M w0 r v1 v2 v3}{K:Kn}{n:Nat}
theorem oB(hK:ak K)(h:gt K n v1 v2 v3=some r):aH Try.prog 43 [.agg (aA v1),iI v2,iI v3] (fun v _=>v=.agg (bw r)):=by
 refine bc (cat Try.f43 (pn 1)) Try.func43 Try.ntmps43 fun M w0=>(aZ ⟨[(0,.agg (aA v1)),(1,iI v2),(2,iI v3)],[],[],[]⟩ ?_);unfold gt at h;refine bC (ks':=[jM 58,.b 0,jM 15]) 8 ⟨[(1,iI v2),(3,.ptr 3 0),(6,.ptr 6 0),(7,.ptr 7 0),(13,iI 0)],[(3,aA v1),(6,bw fe),(7,bw ({ fe with Content:=v3 }:bt))],[],[3,6,7]⟩ (oK 40 (c:=cat Try.f43 [1,1,0,1,0,0]) (by kernel_rfl) (bl (b9 (ks':=jM 7474::jM 7475 :: .b 1::jM 935::pD M w0 r 39) 10 (ah 6 ?_))));obtain⟨v4,h1,h⟩:=bind_some h;refine aE (dx hK h1) (ab (av 2 3 1 (ah 5 ?_)));obtain⟨v5,h2,h⟩:=bind_some h;refine aE (eV hK h2) (ab (av 2 3 1 (ah 5 ?_)));obtain⟨v6,h3,h⟩:=bind_some h;refine aE (dx hK h3) (ab (bC (ks':=pD M w0 r 39) 3 ⟨[(1,iI v2),(3,.ptr 3 0),(6,.ptr 6 0),(7,.ptr 7 0),(13,iI 1)],[(3,aA v1),(6,bw fe),(7,bw (⟨⟨v4.1,0,0,0⟩,⟨v5,0,0,0⟩,⟨(max v6.1 0),0,0,0⟩,v3⟩:bt))],[],[3,6,7]⟩ (br (bl (c7 114 115 1 15 10 (ah 6 ?_))))));obtain⟨v7,h4,h⟩:=bind_some h
 refine aE (dx hK h4) (ab (av 2 3 1 (ah 5 ?_)));obtain⟨v8,h5,h⟩:=bind_some h;refine aE (eV hK h5) (ab (av 2 3 1 (ah 5 ?_)));obtain⟨v9,h6,h⟩:=bind_some h;refine aE (dx hK h6) (ab (bC (ks':=pD M w0 r 38) 3 ⟨[(1,iI v2),(3,.ptr 3 0),(6,.ptr 6 0),(7,.ptr 7 0),(13,iI 2)],[(3,aA v1),(6,bw fe),(7,bw (⟨⟨v4.1,v7.1,0,0⟩,⟨v5,v8,0,0⟩,⟨(max v6.1 0),(max v9.1 0),0,0⟩,v3⟩:bt))],[],[3,6,7]⟩ (br (bl (c7 114 115 1 15 10 (ah 6 ?_))))));obtain⟨v10,h7,h⟩:=bind_some h;refine aE (dx hK h7) (ab (av 2 3 1 (ah 5 ?_)));obtain⟨v11,h8,h⟩:=bind_some h;refine aE (eV hK h8) (ab (av 2 3 1 (ah 5 ?_)));obtain⟨v12,h9,h⟩:=bind_some h;refine aE (dx hK h9) (ab (bC (ks':=pD M w0 r 37) 3 ⟨[(1,iI v2),(3,.ptr 3 0),(6,.ptr 6 0),(7,.ptr 7 0),(13,iI 3)],[(3,aA v1),(6,bw fe),(7,bw (⟨⟨v4.1,v7.1,v10.1,0⟩,⟨v5,v8,v11,0⟩,⟨(max v6.1 0),(max v9.1 0),(max v12.1 0),0⟩,v3⟩:bt))],[],[3,6,7]⟩ (br (bl (c7 114 115 1 15 10 (ah 6 ?_))))));obtain⟨v13,h10,h⟩:=bind_some h
 refine aE (dx hK h10) (ab (av 2 3 1 (ah 5 ?_)));obtain⟨v14,h11,h⟩:=bind_some h;refine aE (eV hK h11) (ab (av 2 3 1 (ah 5 ?_)));obtain⟨v15,h12,h⟩:=bind_some h;refine aE (dx hK h12) (ab (bC (ks':=pD M w0 r 36) 3 ⟨[(1,iI v2),(3,.ptr 3 0),(6,.ptr 6 0),(7,.ptr 7 0),(13,iI 4)],[(3,aA v1),(6,bw fe),(7,bw (⟨⟨v4.1,v7.1,v10.1,v13.1⟩,⟨v5,v8,v11,v14⟩,⟨(max v6.1 0),(max v9.1 0),(max v12.1 0),(max v15.1 0)⟩,v3⟩:bt))],[],[3,6,7]⟩ (br (bl (aD 11 ?_)))));cases h;exact aY
end
noncomputable section
variable(M:Nat→Prop)(w0:ay)(r:Int)(v1:bt)  
variable{M w0 r v1}{K:Kn}{n:Nat}
theorem lS(hK:ak K)(h:gw K n v1=some r):aH Try.prog 47 [.agg (bw v1)] (fun v _=>v=iI r):=by
 refine bc (cat Try.f47 (pn 1)) Try.func47 Try.ntmps47 fun M w0=>(aZ ⟨[(0,.agg (bw v1))],[],[],[]⟩ ?_);unfold gw at h;refine aD 5 ?_;cases h;exact aY
end
noncomputable section
variable(M:Nat→Prop)(w0:ay)(r v1:aB)(v2:Nat)(v3 v4 v5 v6 v7 v8 v9 v10 v11 v12 v13:aB)  
abbrev cG(n:Nat):am:=.c (cat Try.f65 (pn n))
abbrev tA:Cx:=⟨Try.prog,40,M,w0⟩
abbrev wy:=bodyPost Try.prog Try.f65 (bo M w0 (fun v _=>v=.agg (aA r)))
abbrev fz(ks:List am)(s:AS):=VE (tA M w0) (wy M w0 r) ks .normal s
def Hf:AS:=⟨[(1,.pp 1 v2 0),(2,.ptr 2 0),(24,.ref 10),(25,iI 11),(26,iI 10)],[(1,aA v13),(2,aA bR)],[(10,⟨130,1,lm aX [(v2,6),(v2,10),(v2,12),(v2,14),(v2,22),(v2,16),(v2,24),(v2,18),(v2,26),(v2,20),(v2,28)]⟩)],[1,2,10]⟩
def EC:AS:=⟨[(1,.pp 1 v2 0),(2,.ptr 2 0),(24,.ref 10),(25,iI 11),(26,iI 9)],[(1,aA v12),(2,aA bR)],[(10,⟨130,1,lm aX [(v2,6),(v2,10),(v2,12),(v2,14),(v2,22),(v2,16),(v2,24),(v2,18),(v2,26),(v2,20),(v2,28)]⟩)],[1,2,10]⟩
def Kk:AS:=⟨[(1,.pp 1 v2 0),(2,.ptr 2 0),(24,.ref 10),(25,iI 11),(26,iI 8)],[(1,aA v11),(2,aA bR)],[(10,⟨130,1,lm aX [(v2,6),(v2,10),(v2,12),(v2,14),(v2,22),(v2,16),(v2,24),(v2,18),(v2,26),(v2,20),(v2,28)]⟩)],[1,2,10]⟩
def Kj:AS:=⟨[(1,.pp 1 v2 0),(2,.ptr 2 0),(24,.ref 10),(25,iI 11),(26,iI 7)],[(1,aA v10),(2,aA bR)],[(10,⟨130,1,lm aX [(v2,6),(v2,10),(v2,12),(v2,14),(v2,22),(v2,16),(v2,24),(v2,18),(v2,26),(v2,20),(v2,28)]⟩)],[1,2,10]⟩
def Gy:AS:=⟨[(1,.pp 1 v2 0),(2,.ptr 2 0),(24,.ref 10),(25,iI 11),(26,iI 6)],[(1,aA v9),(2,aA bR)],[(10,⟨130,1,lm aX [(v2,6),(v2,10),(v2,12),(v2,14),(v2,22),(v2,16),(v2,24),(v2,18),(v2,26),(v2,20),(v2,28)]⟩)],[1,2,10]⟩
def Jo:AS:=⟨[(1,.pp 1 v2 0),(2,.ptr 2 0),(24,.ref 10),(25,iI 11),(26,iI 5)],[(1,aA v8),(2,aA bR)],[(10,⟨130,1,lm aX [(v2,6),(v2,10),(v2,12),(v2,14),(v2,22),(v2,16),(v2,24),(v2,18),(v2,26),(v2,20),(v2,28)]⟩)],[1,2,10]⟩
def Is:AS:=⟨[(1,.pp 1 v2 0),(2,.ptr 2 0),(24,.ref 10),(25,iI 11),(26,iI 4)],[(1,aA v7),(2,aA bR)],[(10,⟨130,1,lm aX [(v2,6),(v2,10),(v2,12),(v2,14),(v2,22),(v2,16),(v2,24),(v2,18),(v2,26),(v2,20),(v2,28)]⟩)],[1,2,10]⟩
def Il:AS:=⟨[(1,.pp 1 v2 0),(2,.ptr 2 0),(24,.ref 10),(25,iI 11),(26,iI 3)],[(1,aA v6),(2,aA bR)],[(10,⟨130,1,lm aX [(v2,6),(v2,10),(v2,12),(v2,14),(v2,22),(v2,16),(v2,24),(v2,18),(v2,26),(v2,20),(v2,28)]⟩)],[1,2,10]⟩
def E0:AS:=⟨[(1,.pp 1 v2 0),(2,.ptr 2 0),(24,.ref 10),(25,iI 11),(26,iI 2)],[(1,aA v5),(2,aA bR)],[(10,⟨130,1,lm aX [(v2,6),(v2,10),(v2,12),(v2,14),(v2,22),(v2,16),(v2,24),(v2,18),(v2,26),(v2,20),(v2,28)]⟩)],[1,2,10]⟩
def KS:AS:=⟨[(1,.pp 1 v2 0),(2,.ptr 2 0),(24,.ref 10),(25,iI 11),(26,iI 1)],[(1,aA v4),(2,aA bR)],[(10,⟨130,1,lm aX [(v2,6),(v2,10),(v2,12),(v2,14),(v2,22),(v2,16),(v2,24),(v2,18),(v2,26),(v2,20),(v2,28)]⟩)],[1,2,10]⟩
def Ma:AS:=⟨[(1,.pp 1 v2 0),(2,.ptr 2 0),(24,.ref 10),(25,iI 11),(26,iI 0)],[(1,aA v3),(2,aA bR)],[(10,⟨130,1,lm aX [(v2,6),(v2,10),(v2,12),(v2,14),(v2,22),(v2,16),(v2,24),(v2,18),(v2,26),(v2,20),(v2,28)]⟩)],[1,2,10]⟩
abbrev cI(m:Nat):List am:=kl (tA M w0) (wy M w0 r) [.b 2,cG 31] (cat Try.f65 (pn 244)) m::[.b 2,cG 31]
abbrev nc(m:Nat):List am:=kl (tA M w0) (wy M w0 r) [.b 0,cG 15] (cat Try.f65 (pn 116)) m::[.b 0,cG 15]
variable{M w0 r v1 v2 v3 v4 v5 v6 v7 v8 v9 v10 v11 v12 v13}{K:Kn}{n:Nat}
theorem AI(hK:ak K)(h:m6 K n v13=some r):fz M w0 r (.b 3::cG 1959::cI M w0 r 29) (Hf v2 v13):=by
 unfold m6 at h;refine bC (ks':=cI M w0 r 29) 2 ⟨[(1,.pp 1 v2 0),(2,.ptr 2 0),(24,.ref 10),(25,iI 11),(26,iI 11)],[(1,aA v13),(2,aA bR)],[(10,⟨130,1,lm aX [(v2,6),(v2,10),(v2,12),(v2,14),(v2,22),(v2,16),(v2,24),(v2,18),(v2,26),(v2,20),(v2,28)]⟩)],[1,2,10]⟩ (br (bl (aD 11 ?_)));cases h;exact aY
theorem Cy(hK:ak K)(h:oC K n v12=some r):fz M w0 r (.b 3::cG 1959::cI M w0 r 30) (EC v2 v12):=by
 unfold oC at h;refine bC (ks':=cI M w0 r 30) 2 ⟨[(1,.pp 1 v2 0),(2,.ptr 2 0),(24,.ref 10),(25,iI 11),(26,iI 10)],[(1,aA v12),(2,aA bR)],[(10,⟨130,1,lm aX [(v2,6),(v2,10),(v2,12),(v2,14),(v2,22),(v2,16),(v2,24),(v2,18),(v2,26),(v2,20),(v2,28)]⟩)],[1,2,10]⟩ (br (bl (c7 56 57 3 15 8 (ah 0 (ax (dE 10 1 aX (L:=([(v2,6),(v2,10),(v2,12),(v2,14),(v2,22),(v2,16),(v2,24),(v2,18),(v2,26),(v2,20),(v2,28)]:List (Nat×Nat))) (i:=(10:Int)) (by kernel_rfl)) (ax (cR 130 0 aX aX (L:=([(v2,6),(v2,10),(v2,12),(v2,14),(v2,22),(v2,16),(v2,24),(v2,18),(v2,26),(v2,20),(v2,28)]:List (Nat×Nat))) (j:=(10:Int).toNat) (of_decide_eq_true (by kernel_rfl)) ((fun _=>rfl))) (ab (av 2 3 1 (ah 3 (c6 32 1 1 v2 28 0 (ab ?_)))))))))));obtain⟨h11,h⟩|⟨h11,h⟩:=ai h
 ·exact ae 34 h11 (aU 2 1 (ah 3 (c6 37 1 1 v2 28 0 (ab (ac 0 (AI hK (v2:=v2) h))))))
 ·exact ae 34 h11 (ac 2 (AI hK (v2:=v2) h))
theorem yj(hK:ak K)(h:n0 K n v11=some r):fz M w0 r (.b 3::cG 1959::cI M w0 r 31) (Kk v2 v11):=by
 unfold n0 at h;refine bC (ks':=cI M w0 r 31) 2 ⟨[(1,.pp 1 v2 0),(2,.ptr 2 0),(24,.ref 10),(25,iI 11),(26,iI 9)],[(1,aA v11),(2,aA bR)],[(10,⟨130,1,lm aX [(v2,6),(v2,10),(v2,12),(v2,14),(v2,22),(v2,16),(v2,24),(v2,18),(v2,26),(v2,20),(v2,28)]⟩)],[1,2,10]⟩ (br (bl (c7 56 57 3 15 8 (ah 0 (ax (dE 10 1 aX (L:=([(v2,6),(v2,10),(v2,12),(v2,14),(v2,22),(v2,16),(v2,24),(v2,18),(v2,26),(v2,20),(v2,28)]:List (Nat×Nat))) (i:=(9:Int)) (by kernel_rfl)) (ax (cR 130 0 aX aX (L:=([(v2,6),(v2,10),(v2,12),(v2,14),(v2,22),(v2,16),(v2,24),(v2,18),(v2,26),(v2,20),(v2,28)]:List (Nat×Nat))) (j:=(9:Int).toNat) (of_decide_eq_true (by kernel_rfl)) ((fun _=>rfl))) (ab (av 2 3 1 (ah 3 (c6 32 1 1 v2 20 0 (ab ?_)))))))))));obtain⟨h10,h⟩|⟨h10,h⟩:=ai h
 ·exact ae 34 h10 (aU 2 1 (ah 3 (c6 37 1 1 v2 20 0 (ab (ac 0 (Cy hK (v2:=v2) h))))))
 ·exact ae 34 h10 (ac 2 (Cy hK (v2:=v2) h))
theorem yM(hK:ak K)(h:pF K n v10=some r):fz M w0 r (.b 3::cG 1959::cI M w0 r 32) (Kj v2 v10):=by
 unfold pF at h;refine bC (ks':=cI M w0 r 32) 2 ⟨[(1,.pp 1 v2 0),(2,.ptr 2 0),(24,.ref 10),(25,iI 11),(26,iI 8)],[(1,aA v10),(2,aA bR)],[(10,⟨130,1,lm aX [(v2,6),(v2,10),(v2,12),(v2,14),(v2,22),(v2,16),(v2,24),(v2,18),(v2,26),(v2,20),(v2,28)]⟩)],[1,2,10]⟩ (br (bl (c7 56 57 3 15 8 (ah 0 (ax (dE 10 1 aX (L:=([(v2,6),(v2,10),(v2,12),(v2,14),(v2,22),(v2,16),(v2,24),(v2,18),(v2,26),(v2,20),(v2,28)]:List (Nat×Nat))) (i:=(8:Int)) (by kernel_rfl)) (ax (cR 130 0 aX aX (L:=([(v2,6),(v2,10),(v2,12),(v2,14),(v2,22),(v2,16),(v2,24),(v2,18),(v2,26),(v2,20),(v2,28)]:List (Nat×Nat))) (j:=(8:Int).toNat) (of_decide_eq_true (by kernel_rfl)) ((fun _=>rfl))) (ab (av 2 3 1 (ah 3 (c6 32 1 1 v2 26 0 (ab ?_)))))))))));obtain⟨h9,h⟩|⟨h9,h⟩:=ai h
 ·exact ae 34 h9 (aU 2 1 (ah 3 (c6 37 1 1 v2 26 0 (ab (ac 0 (yj hK (v2:=v2) h))))))
 ·exact ae 34 h9 (ac 2 (yj hK (v2:=v2) h))
theorem CW(hK:ak K)(h:o7 K n v9=some r):fz M w0 r (.b 3::cG 1959::cI M w0 r 33) (Gy v2 v9):=by
 unfold o7 at h;refine bC (ks':=cI M w0 r 33) 2 ⟨[(1,.pp 1 v2 0),(2,.ptr 2 0),(24,.ref 10),(25,iI 11),(26,iI 7)],[(1,aA v9),(2,aA bR)],[(10,⟨130,1,lm aX [(v2,6),(v2,10),(v2,12),(v2,14),(v2,22),(v2,16),(v2,24),(v2,18),(v2,26),(v2,20),(v2,28)]⟩)],[1,2,10]⟩ (br (bl (c7 56 57 3 15 8 (ah 0 (ax (dE 10 1 aX (L:=([(v2,6),(v2,10),(v2,12),(v2,14),(v2,22),(v2,16),(v2,24),(v2,18),(v2,26),(v2,20),(v2,28)]:List (Nat×Nat))) (i:=(7:Int)) (by kernel_rfl)) (ax (cR 130 0 aX aX (L:=([(v2,6),(v2,10),(v2,12),(v2,14),(v2,22),(v2,16),(v2,24),(v2,18),(v2,26),(v2,20),(v2,28)]:List (Nat×Nat))) (j:=(7:Int).toNat) (of_decide_eq_true (by kernel_rfl)) ((fun _=>rfl))) (ab (av 2 3 1 (ah 3 (c6 32 1 1 v2 18 0 (ab ?_)))))))))));obtain⟨h8,h⟩|⟨h8,h⟩:=ai h
 ·exact ae 34 h8 (aU 2 1 (ah 3 (c6 37 1 1 v2 18 0 (ab (ac 0 (yM hK (v2:=v2) h))))))
 ·exact ae 34 h8 (ac 2 (yM hK (v2:=v2) h))
theorem zN(hK:ak K)(h:nf K n v8=some r):fz M w0 r (.b 3::cG 1959::cI M w0 r 34) (Jo v2 v8):=by
 unfold nf at h;refine bC (ks':=cI M w0 r 34) 2 ⟨[(1,.pp 1 v2 0),(2,.ptr 2 0),(24,.ref 10),(25,iI 11),(26,iI 6)],[(1,aA v8),(2,aA bR)],[(10,⟨130,1,lm aX [(v2,6),(v2,10),(v2,12),(v2,14),(v2,22),(v2,16),(v2,24),(v2,18),(v2,26),(v2,20),(v2,28)]⟩)],[1,2,10]⟩ (br (bl (c7 56 57 3 15 8 (ah 0 (ax (dE 10 1 aX (L:=([(v2,6),(v2,10),(v2,12),(v2,14),(v2,22),(v2,16),(v2,24),(v2,18),(v2,26),(v2,20),(v2,28)]:List (Nat×Nat))) (i:=(6:Int)) (by kernel_rfl)) (ax (cR 130 0 aX aX (L:=([(v2,6),(v2,10),(v2,12),(v2,14),(v2,22),(v2,16),(v2,24),(v2,18),(v2,26),(v2,20),(v2,28)]:List (Nat×Nat))) (j:=(6:Int).toNat) (of_decide_eq_true (by kernel_rfl)) ((fun _=>rfl))) (ab (av 2 3 1 (ah 3 (c6 32 1 1 v2 24 0 (ab ?_)))))))))));obtain⟨h7,h⟩|⟨h7,h⟩:=ai h
 ·exact ae 34 h7 (aU 2 1 (ah 3 (c6 37 1 1 v2 24 0 (ab (ac 0 (CW hK (v2:=v2) h))))))
 ·exact ae 34 h7 (ac 2 (CW hK (v2:=v2) h))
theorem yl(hK:ak K)(h:pH K n v7=some r):fz M w0 r (.b 3::cG 1959::cI M w0 r 35) (Is v2 v7):=by
 unfold pH at h;refine bC (ks':=cI M w0 r 35) 2 ⟨[(1,.pp 1 v2 0),(2,.ptr 2 0),(24,.ref 10),(25,iI 11),(26,iI 5)],[(1,aA v7),(2,aA bR)],[(10,⟨130,1,lm aX [(v2,6),(v2,10),(v2,12),(v2,14),(v2,22),(v2,16),(v2,24),(v2,18),(v2,26),(v2,20),(v2,28)]⟩)],[1,2,10]⟩ (br (bl (c7 56 57 3 15 8 (ah 0 (ax (dE 10 1 aX (L:=([(v2,6),(v2,10),(v2,12),(v2,14),(v2,22),(v2,16),(v2,24),(v2,18),(v2,26),(v2,20),(v2,28)]:List (Nat×Nat))) (i:=(5:Int)) (by kernel_rfl)) (ax (cR 130 0 aX aX (L:=([(v2,6),(v2,10),(v2,12),(v2,14),(v2,22),(v2,16),(v2,24),(v2,18),(v2,26),(v2,20),(v2,28)]:List (Nat×Nat))) (j:=(5:Int).toNat) (of_decide_eq_true (by kernel_rfl)) ((fun _=>rfl))) (ab (av 2 3 1 (ah 3 (c6 32 1 1 v2 16 0 (ab ?_)))))))))));obtain⟨h6,h⟩|⟨h6,h⟩:=ai h
 ·exact ae 34 h6 (aU 2 1 (ah 3 (c6 37 1 1 v2 16 0 (ab (ac 0 (zN hK (v2:=v2) h))))))
 ·exact ae 34 h6 (ac 2 (zN hK (v2:=v2) h))
theorem y6(hK:ak K)(h:nU K n v6=some r):fz M w0 r (.b 3::cG 1959::cI M w0 r 36) (Il v2 v6):=by
 unfold nU at h;refine bC (ks':=cI M w0 r 36) 2 ⟨[(1,.pp 1 v2 0),(2,.ptr 2 0),(24,.ref 10),(25,iI 11),(26,iI 4)],[(1,aA v6),(2,aA bR)],[(10,⟨130,1,lm aX [(v2,6),(v2,10),(v2,12),(v2,14),(v2,22),(v2,16),(v2,24),(v2,18),(v2,26),(v2,20),(v2,28)]⟩)],[1,2,10]⟩ (br (bl (c7 56 57 3 15 8 (ah 0 (ax (dE 10 1 aX (L:=([(v2,6),(v2,10),(v2,12),(v2,14),(v2,22),(v2,16),(v2,24),(v2,18),(v2,26),(v2,20),(v2,28)]:List (Nat×Nat))) (i:=(4:Int)) (by kernel_rfl)) (ax (cR 130 0 aX aX (L:=([(v2,6),(v2,10),(v2,12),(v2,14),(v2,22),(v2,16),(v2,24),(v2,18),(v2,26),(v2,20),(v2,28)]:List (Nat×Nat))) (j:=(4:Int).toNat) (of_decide_eq_true (by kernel_rfl)) ((fun _=>rfl))) (ab (av 2 3 1 (ah 3 (c6 32 1 1 v2 22 0 (ab ?_)))))))))));obtain⟨h5,h⟩|⟨h5,h⟩:=ai h
 ·exact ae 34 h5 (aU 2 1 (ah 3 (c6 37 1 1 v2 22 0 (ab (ac 0 (yl hK (v2:=v2) h))))))
 ·exact ae 34 h5 (ac 2 (yl hK (v2:=v2) h))
theorem zh(hK:ak K)(h:pI K n v5=some r):fz M w0 r (.b 3::cG 1959::cI M w0 r 37) (E0 v2 v5):=by
 unfold pI at h;refine bC (ks':=cI M w0 r 37) 2 ⟨[(1,.pp 1 v2 0),(2,.ptr 2 0),(24,.ref 10),(25,iI 11),(26,iI 3)],[(1,aA v5),(2,aA bR)],[(10,⟨130,1,lm aX [(v2,6),(v2,10),(v2,12),(v2,14),(v2,22),(v2,16),(v2,24),(v2,18),(v2,26),(v2,20),(v2,28)]⟩)],[1,2,10]⟩ (br (bl (c7 56 57 3 15 8 (ah 0 (ax (dE 10 1 aX (L:=([(v2,6),(v2,10),(v2,12),(v2,14),(v2,22),(v2,16),(v2,24),(v2,18),(v2,26),(v2,20),(v2,28)]:List (Nat×Nat))) (i:=(3:Int)) (by kernel_rfl)) (ax (cR 130 0 aX aX (L:=([(v2,6),(v2,10),(v2,12),(v2,14),(v2,22),(v2,16),(v2,24),(v2,18),(v2,26),(v2,20),(v2,28)]:List (Nat×Nat))) (j:=(3:Int).toNat) (of_decide_eq_true (by kernel_rfl)) ((fun _=>rfl))) (ab (av 2 3 1 (ah 3 (c6 32 1 1 v2 14 0 (ab ?_)))))))))));obtain⟨h4,h⟩|⟨h4,h⟩:=ai h
 ·exact ae 34 h4 (aU 2 1 (ah 3 (c6 37 1 1 v2 14 0 (ab (ac 0 (y6 hK (v2:=v2) h))))))
 ·exact ae 34 h4 (ac 2 (y6 hK (v2:=v2) h))
theorem yH(hK:ak K)(h:o5 K n v4=some r):fz M w0 r (.b 3::cG 1959::cI M w0 r 38) (KS v2 v4):=by
 unfold o5 at h;refine bC (ks':=cI M w0 r 38) 2 ⟨[(1,.pp 1 v2 0),(2,.ptr 2 0),(24,.ref 10),(25,iI 11),(26,iI 2)],[(1,aA v4),(2,aA bR)],[(10,⟨130,1,lm aX [(v2,6),(v2,10),(v2,12),(v2,14),(v2,22),(v2,16),(v2,24),(v2,18),(v2,26),(v2,20),(v2,28)]⟩)],[1,2,10]⟩ (br (bl (c7 56 57 3 15 8 (ah 0 (ax (dE 10 1 aX (L:=([(v2,6),(v2,10),(v2,12),(v2,14),(v2,22),(v2,16),(v2,24),(v2,18),(v2,26),(v2,20),(v2,28)]:List (Nat×Nat))) (i:=(2:Int)) (by kernel_rfl)) (ax (cR 130 0 aX aX (L:=([(v2,6),(v2,10),(v2,12),(v2,14),(v2,22),(v2,16),(v2,24),(v2,18),(v2,26),(v2,20),(v2,28)]:List (Nat×Nat))) (j:=(2:Int).toNat) (of_decide_eq_true (by kernel_rfl)) ((fun _=>rfl))) (ab (av 2 3 1 (ah 3 (c6 32 1 1 v2 12 0 (ab ?_)))))))))));obtain⟨h3,h⟩|⟨h3,h⟩:=ai h
 ·exact ae 34 h3 (aU 2 1 (ah 3 (c6 37 1 1 v2 12 0 (ab (ac 0 (zh hK (v2:=v2) h))))))
 ·exact ae 34 h3 (ac 2 (zh hK (v2:=v2) h))
theorem yd(hK:ak K)(h:pm K n v3=some r):fz M w0 r (.b 3::cG 1959::cI M w0 r 39) (Ma v2 v3):=by
 unfold pm at h;refine bC (ks':=cI M w0 r 39) 2 ⟨[(1,.pp 1 v2 0),(2,.ptr 2 0),(24,.ref 10),(25,iI 11),(26,iI 1)],[(1,aA v3),(2,aA bR)],[(10,⟨130,1,lm aX [(v2,6),(v2,10),(v2,12),(v2,14),(v2,22),(v2,16),(v2,24),(v2,18),(v2,26),(v2,20),(v2,28)]⟩)],[1,2,10]⟩ (br (bl (c7 56 57 3 15 8 (ah 0 (ax (dE 10 1 aX (L:=([(v2,6),(v2,10),(v2,12),(v2,14),(v2,22),(v2,16),(v2,24),(v2,18),(v2,26),(v2,20),(v2,28)]:List (Nat×Nat))) (i:=(1:Int)) (by kernel_rfl)) (ax (cR 130 0 aX aX (L:=([(v2,6),(v2,10),(v2,12),(v2,14),(v2,22),(v2,16),(v2,24),(v2,18),(v2,26),(v2,20),(v2,28)]:List (Nat×Nat))) (j:=(1:Int).toNat) (of_decide_eq_true (by kernel_rfl)) ((fun _=>rfl))) (ab (av 2 3 1 (ah 3 (c6 32 1 1 v2 10 0 (ab ?_)))))))))));obtain⟨h2,h⟩|⟨h2,h⟩:=ai h
 ·exact ae 34 h2 (aU 2 1 (ah 3 (c6 37 1 1 v2 10 0 (ab (ac 0 (yH hK (v2:=v2) h))))))
 ·exact ae 34 h2 (ac 2 (yH hK (v2:=v2) h))
theorem Ag(hK:ak K)(h:kO K n v1=some r):aH Try.prog 65 [.agg (aA v1)] (fun v _=>v=.agg (aA r)):=by
 refine bc (cat Try.f65 (pn 1)) Try.func65 Try.ntmps65 fun M w0=>(aZ ⟨[(0,.agg (aA v1))],[],[],[]⟩ ?_);unfold kO at h;refine av 6 7 3 (Hg 1 1 0 fun v2=>(ah 3 (KL 131 3 #[(0,(.tmp 7)),(1,(.tmp 8)),(2,(.tmp 9))] 10 (e:=130) (sz:=1) (l:=lm aX [(v2,6),(v2,10),(v2,12)]) (ab (bC (ks':=[cG 58,.b 0,cG 15]) 4 ⟨[(1,.pp 1 v2 0),(2,.ptr 2 0),(3,.ref 10),(11,iI 0)],[(1,aA v1),(2,aA bR)],[(10,⟨130,1,lm aX [(v2,6),(v2,10),(v2,12)]⟩)],[1,2,10]⟩ (oK 40 (c:=cat Try.f65 [1,1,0,1,0,0]) (by kernel_rfl) (bl (b9 (ks':=cG 3737 :: .b 1::cG 935::nc M w0 r 39) 9 (bS [1,2,3,4,11] [1,2] [10] (cg 2 (nu 14 [.ref 10,iI 0,.adr v2 14,.adr v2 14,iI 0,.adr v2 22,.adr v2 22,.sl (lm aX [(v2,14),(v2,22)])]) [] [] [jy 22 10 ⟨130,1,lm aX [(v2,6),(v2,10),(v2,12),(v2,14),(v2,22)]⟩,bV Try.prog 40 Try.f65 (pn 3737) 9] (aO [.v 0 1,.v 0 2,.v 0 2,.v 0 2,.v 0 2,.v 0 2,.v 0 2,.v 0 1] (ao (gk (m:=0) (cD 22 10 130 1 aX (L:=([(v2,6),(v2,10),(v2,12)]:List (Nat×Nat))) (M:=([(v2,14),(v2,22)]:(List (Nat×Nat)))) (bytes:=8) (rfl) (fun _=>rfl) (by kernel_rfl))) (ao (bW 1) ce))) (bC (ks':=nc M w0 r 39) 2 ⟨[(1,.pp 1 v2 0),(2,.ptr 2 0),(3,.ref 10),(11,iI 1)],[(1,aA v1),(2,aA bR)],[(10,⟨130,1,lm aX [(v2,6),(v2,10),(v2,12),(v2,14),(v2,22)]⟩)],[1,2,10]⟩ (br (bl (gC 57 1 15 9 (bS [1,2,3,4,11] [1,2] [10] (cg 2 (nu 14 [.ref 10,iI 1,.adr v2 14,.adr v2 16,iI 1,.adr v2 22,.adr v2 24,.sl (lm aX [(v2,16),(v2,24)])]) [] [] [jy 22 10 ⟨130,1,lm aX [(v2,6),(v2,10),(v2,12),(v2,14),(v2,22),(v2,16),(v2,24)]⟩,bV Try.prog 40 Try.f65 (pn 3737) 9] (aO [.v 0 1,.v 0 2,.v 0 2,.v 0 2,.v 0 2,.v 0 2,.v 0 2,.v 0 1] (ao (gk (m:=0) (cD 22 10 130 1 aX (L:=([(v2,6),(v2,10),(v2,12),(v2,14),(v2,22)]:List (Nat×Nat))) (M:=([(v2,16),(v2,24)]:(List (Nat×Nat)))) (bytes:=8) (rfl) (fun _=>rfl) (by kernel_rfl))) (ao (bW 1) ce))) (bC (ks':=nc M w0 r 38) 2 ⟨[(1,.pp 1 v2 0),(2,.ptr 2 0),(3,.ref 10),(11,iI 2)],[(1,aA v1),(2,aA bR)],[(10,⟨130,1,lm aX [(v2,6),(v2,10),(v2,12),(v2,14),(v2,22),(v2,16),(v2,24)]⟩)],[1,2,10]⟩ (br (bl (gC 57 1 15 9 (bS [1,2,3,4,11] [1,2] [10] (cg 2 (nu 14 [.ref 10,iI 2,.adr v2 14,.adr v2 18,iI 2,.adr v2 22,.adr v2 26,.sl (lm aX [(v2,18),(v2,26)])]) [] [] [jy 22 10 ⟨130,1,lm aX [(v2,6),(v2,10),(v2,12),(v2,14),(v2,22),(v2,16),(v2,24),(v2,18),(v2,26)]⟩,bV Try.prog 40 Try.f65 (pn 3737) 9] (aO [.v 0 1,.v 0 2,.v 0 2,.v 0 2,.v 0 2,.v 0 2,.v 0 2,.v 0 1] (ao (gk (m:=0) (cD 22 10 130 1 aX (L:=([(v2,6),(v2,10),(v2,12),(v2,14),(v2,22),(v2,16),(v2,24)]:List (Nat×Nat))) (M:=([(v2,18),(v2,26)]:(List (Nat×Nat)))) (bytes:=8) (rfl) (fun _=>rfl) (by kernel_rfl))) (ao (bW 1) ce))) (bC (ks':=nc M w0 r 37) 2 ⟨[(1,.pp 1 v2 0),(2,.ptr 2 0),(3,.ref 10),(11,iI 3)],[(1,aA v1),(2,aA bR)],[(10,⟨130,1,lm aX [(v2,6),(v2,10),(v2,12),(v2,14),(v2,22),(v2,16),(v2,24),(v2,18),(v2,26)]⟩)],[1,2,10]⟩ ?_)))))))))))))))))))))))
 refine br (bl (gC 57 1 15 9 (bS [1,2,3,4,11] [1,2] [10] (cg 2 (nu 14 [.ref 10,iI 3,.adr v2 14,.adr v2 20,iI 3,.adr v2 22,.adr v2 28,.sl (lm aX [(v2,20),(v2,28)])]) [] [] [jy 22 10 ⟨130,1,lm aX [(v2,6),(v2,10),(v2,12),(v2,14),(v2,22),(v2,16),(v2,24),(v2,18),(v2,26),(v2,20),(v2,28)]⟩,bV Try.prog 40 Try.f65 (pn 3737) 9] (aO [.v 0 1,.v 0 2,.v 0 2,.v 0 2,.v 0 2,.v 0 2,.v 0 2,.v 0 1] (ao (gk (m:=0) (cD 22 10 130 1 aX (L:=([(v2,6),(v2,10),(v2,12),(v2,14),(v2,22),(v2,16),(v2,24),(v2,18),(v2,26)]:List (Nat×Nat))) (M:=([(v2,20),(v2,28)]:(List (Nat×Nat)))) (bytes:=8) (rfl) (fun _=>rfl) (by kernel_rfl))) (ao (bW 1) ce))) (bC (ks':=nc M w0 r 36) 2 ⟨[(1,.pp 1 v2 0),(2,.ptr 2 0),(3,.ref 10),(11,iI 4)],[(1,aA v1),(2,aA bR)],[(10,⟨130,1,lm aX [(v2,6),(v2,10),(v2,12),(v2,14),(v2,22),(v2,16),(v2,24),(v2,18),(v2,26),(v2,20),(v2,28)]⟩)],[1,2,10]⟩ (br (bl (F7 4 5 3 10 (ah 1 (ax (bF aX ([(v2,6),(v2,10),(v2,12),(v2,14),(v2,22),(v2,16),(v2,24),(v2,18),(v2,26),(v2,20),(v2,28)]:List (Nat×Nat))) (ab (bC (ks':=[cG 122,.b 2,cG 31]) 1 ⟨[(1,.pp 1 v2 0),(2,.ptr 2 0),(24,.ref 10),(25,iI 11),(26,iI 0)],[(1,aA v1),(2,aA bR)],[(10,⟨130,1,lm aX [(v2,6),(v2,10),(v2,12),(v2,14),(v2,22),(v2,16),(v2,24),(v2,18),(v2,26),(v2,20),(v2,28)]⟩)],[1,2,10]⟩ (oK 40 (c:=cat Try.f65 [1,1,1,0,1,0,0]) (by kernel_rfl) (bl (b9 (ks':=cG 7832::cG 7833 :: .b 3::cG 1959::cI M w0 r 39) 8 (ah 0 (ax (dE 10 1 aX (L:=([(v2,6),(v2,10),(v2,12),(v2,14),(v2,22),(v2,16),(v2,24),(v2,18),(v2,26),(v2,20),(v2,28)]:List (Nat×Nat))) (i:=(0:Int)) (by kernel_rfl)) (ax (cR 130 0 aX aX (L:=([(v2,6),(v2,10),(v2,12),(v2,14),(v2,22),(v2,16),(v2,24),(v2,18),(v2,26),(v2,20),(v2,28)]:List (Nat×Nat))) (j:=(0:Int).toNat) (of_decide_eq_true (by kernel_rfl)) ((fun _=>rfl))) (ab (av 2 3 1 (ah 3 (c6 32 1 1 v2 6 0 (ab ?_)))))))))))))))))))))))
 obtain⟨h1,h⟩|⟨h1,h⟩:=ai h
 ·exact ae 34 h1 (aU 2 1 (ah 3 (c6 37 1 1 v2 6 0 (ab (ac 0 (yd hK (v2:=v2) h))))))
 ·exact ae 34 h1 (ac 2 (yd hK (v2:=v2) h))
end
noncomputable section
variable(M:Nat→Prop)(w0:ay)(r:Int)(v1:List ag)(v2:Fv)(v4:Int)(m1:Nat)(L1:Int→Option Int)
abbrev ub:Cx:=⟨Try.prog,19,M,w0⟩
abbrev vk:=bodyPost Try.prog Try.f90 (bo M w0 (fun v _=>v=iI r))
abbrev GM(ks:List am)(s:AS):=VE (ub M w0) (vk M w0 r) ks .normal s
abbrev AQ(n:Nat):am:=.c (cat Try.f90 (pn n))
abbrev tK:List am:=[.b 0,AQ 7]
abbrev KG:List am:=kl (ub M w0) (vk M w0 r) tK (cat Try.f90 (pn 52)) m1::tK
def xQ:AS:=⟨[(0,.sl (lm aF v1)),(1,.fn v2.id v2.aN),(7,iI (v1.length:Int)),(8,iI v4)],[],[],[]⟩
abbrev xj:Prop:=∀{v4:Int},L1 v4=some r→LP (ub M w0) (vk M w0 r) tK (cat Try.f90 (pn 52)) m1 (xQ v1 v2 v4)
variable{M w0 r v1 v2 v4 m1 L1}{K:Kn}{n:Nat}
theorem Mv(hK:ak K)(hL1:xj M w0 r v1 v2 m1 L1)(h:iL K n v1 v2 L1 v4=some r):GM M w0 r (AQ 52::KG M w0 r m1) (xQ v1 v2 v4):=by
 unfold iL at h;refine av 6 7 3 ?_;obtain⟨h5,h⟩|⟨h5,h⟩:=ai h
 ·refine ae 9 h5 (cN 18 19 1 3 7 (ah 3 ?_));obtain⟨h6,h⟩:=aQ h;refine ax (bH aF aS h6 (eE) (dS)) (aL 5 1 ?_);obtain⟨v5,h7,h⟩:=bind_some h;refine kJ (hK.ob h7) (ab ?_);obtain⟨h8,h⟩|⟨h8,h⟩:=ai h
  ·refine ae 16 h8 (aD 9 ?_);cases h;exact aY
  ·exact ae 16 h8 (ac 4 (br (hL1 h)))
 ·refine ae 9 h5 (aD 8 ?_);cases h;exact aY
theorem G1(hK:ak K)(m:Nat):xj M w0 r v1 v2 m (kA K n v1 v2 m):=by
 induction m with
 | zero=>intro v4 h;cases h
 | succ m ih=>intro v4 h;have h:iL K n v1 v2 (kA K n v1 v2 m) v4=some r:=h;exact bl (Mv hK ih h)
theorem JY(hK:ak K)(h:sy K n v1 v2=some r):aH Try.prog 90 [.sl (lm aF v1),.fn v2.id v2.aN] (fun v _=>v=iI r):=by
 refine bc (cat Try.f90 (pn 1)) Try.func90 Try.ntmps90 fun M w0=>(aZ ⟨[(0,.sl (lm aF v1)),(1,.fn v2.id v2.aN)],[],[],[]⟩ ?_);unfold sy at h;exact bO 12 13 7 4 (ah 1 (ax (bF aF v1) (ab (ac 1 (cp (p:=pn 26) n (G1 hK n h))))))
end
noncomputable section
variable(M:Nat→Prop)(w0:ay)(r:Bool)(v1:List ag)(v2:Fv)  
variable{M w0 r v1 v2}{K:Kn}{n:Nat}
theorem Lc(hK:ak K)(h:oG K n v1 v2=some r):aH Try.prog 86 [.sl (lm aF v1),.fn v2.id v2.aN] (fun v _=>v=.bool r):=by
 refine bc (cat Try.f86 (pn 1)) Try.func86 Try.ntmps86 fun M w0=>(aZ ⟨[(0,.sl (lm aF v1)),(1,.fn v2.id v2.aN)],[],[],[]⟩ ?_);unfold oG at h;refine av 6 7 3 (ah 2 ?_);obtain⟨v3,h1,h⟩:=bind_some h;refine aE (JY hK h1) (ab (aD 1 ?_));cases h;exact aY
end
noncomputable section
variable(M:Nat→Prop)(w0:ay)(r:(List ag)×Bool)(v1:ag)(v8:Int)(v9 v11:(List ag))(m1:Nat)(L1:Int→(List ag)→Option ((List ag)×Bool))
abbrev tp:Cx:=⟨Try.prog,24,M,w0⟩
abbrev wP:=bodyPost Try.prog Try.f75 (bo M w0 (fun v _=>v=.tup [.sl (lm aF r.1),.bool r.2]))
abbrev zi(ks:List am)(s:AS):=VE (tp M w0) (wP M w0 r) ks .normal s
abbrev tV(n:Nat):am:=.c (cat Try.f75 (pn n))
abbrev uk:List am:=[.b 0,tV 15]
abbrev zA:List am:=kl (tp M w0) (wP M w0 r) uk (cat Try.f75 (pn 116)) m1::uk
def Ly:AS:=⟨[(4,.ref 19),(8,.sl (lm aF v1.Kids)),(9,iI (v1.Kids.length:Int)),(10,iI v8)],[],[(19,⟨72,59,lm aF v11⟩)],[19]⟩
def Ca:AS:=⟨[(4,.ref 19),(8,.sl (lm aF v1.Kids)),(9,iI (v1.Kids.length:Int)),(10,iI v8)],[],[(19,⟨72,59,lm aF v9⟩)],[19]⟩
abbrev sL:Prop:=∀{v8:Int} {v9:(List ag)},L1 v8 v9=some r→LP (tp M w0) (wP M w0 r) uk (cat Try.f75 (pn 116)) m1 (Ca v1 v8 v9)
variable{M w0 r v1 v8 v9 v11 m1 L1}{K:Kn}{n:Nat}
theorem B1(hK:ak K)(hL1:sL M w0 r v1 m1 L1)(h:m4 K n v1 v8 L1 v11=some r):zi M w0 r (.b 1::tV 935::zA M w0 r m1) (Ly v1 v8 v11):=by
 unfold m4 at h;exact ac 2 (br (hL1 h))
theorem K9(hK:ak K)(hL1:sL M w0 r v1 m1 L1)(h:hH K n v1 L1 v8 v9=some r):zi M w0 r (tV 116::zA M w0 r m1) (Ca v1 v8 v9):=by
 unfold hH at h;refine av 6 7 3 ?_;obtain⟨h13,h⟩|⟨h13,h⟩:=ai h
 ·refine ae 11 h13 (cN 8 9 1 3 5 (ah 0 ?_));obtain⟨h14,h⟩:=aQ h;refine ax (bH aF aS h14 (eE) (dS)) (ab (av 2 3 1 (ah 1 ?_)));obtain⟨v10,h15,h⟩:=bind_some h;refine aE (Am hK h15) (ab ?_);obtain⟨h16,h⟩|⟨h16,h⟩:=ai h
  ·refine ae 15 h16 (aU 2 1 (ah 2 (ax (fD aF ([(gD v1.Kids v8)]:List ag) (new:=[aS (gD v1.Kids v8)]) (by simp only[List.map_cons,List.map_nil,dS])) ?_)));obtain⟨h17,h⟩:=aQ h;exact ax (cD 19 19 72 59 aF (rfl) (eE) h17) (ab (ac 0 (B1 hK hL1 h)))
  ·exact ae 15 h16 (ac 2 (B1 hK hL1 h))
 ·refine ae 11 h13 (jH 2 3 6 (ah 2 (pg 19 ?_)));obtain⟨v12,h18,h⟩:=bind_some h;refine aE (Lc hK h18) (ab (aD 1 ?_));cases h;exact fW
theorem I2(hK:ak K)(m:Nat):sL M w0 r v1 m (kH K n v1 m):=by
 induction m with
 | zero=>intro v8 v9 h;cases h
 | succ m ih=>intro v8 v9 h;have h:hH K n v1 (kH K n v1 m) v8 v9=some r:=h;exact bl (K9 hK ih h)
theorem y3(hK:ak K)(h:hI K n v1=some r):aH Try.prog 75 [.agg (aS v1)] (fun v _=>v=.tup [.sl (lm aF r.1),.bool r.2]):=by
 refine bc (cat Try.f75 (pn 1)) Try.func75 Try.ntmps75 fun M w0=>(aZ ⟨[(0,.agg (aS v1))],[],[],[]⟩ ?_);unfold hI at h;exact bO 28 29 15 6 (ah 2 (ax (bF aF v1.Kids) (ab (gz 2 0 1 (bS [4,8,9,10] [] [] (fZ 19 4 72 59 (ac 0 (cp (p:=pn 58) n (I2 hK n h)))))))))
end
noncomputable section
variable(M:Nat→Prop)(w0:ay)(r:Int×Int)(v1:ag)(v2:ca)(v6:(List ag)×Bool)(v11 v12 v13:Int)(m1:Nat)(L1:Int→Int→Int→Option (Int×Int))
abbrev vn:Cx:=⟨Try.prog,71,M,w0⟩
abbrev tJ:=bodyPost Try.prog Try.f60 (bo M w0 (fun v _=>v=.tup [iI r.1,iI r.2]))
abbrev H4(ks:List am)(s:AS):=VE (vn M w0) (tJ M w0 r) ks .normal s
abbrev Cq(n:Nat):am:=.c (cat Try.f60 (pn n))
abbrev sM:List am:=[.b 0,Cq 63]
abbrev GZ:List am:=kl (vn M w0) (tJ M w0 r) sM (cat Try.f60 (pn 500)) m1::sM
def y7:AS:=⟨[(3,.ptr 3 0),(4,iI v11),(5,iI v12),(47,.sl (lm aF v6.1)),(48,iI (v6.1.length:Int)),(49,iI v13)],[(3,cr v2)],[],[3]⟩
abbrev yL:Prop:=∀{v11:Int} {v12:Int} {v13:Int},L1 v11 v12 v13=some r→LP (vn M w0) (tJ M w0 r) sM (cat Try.f60 (pn 500)) m1 (y7 v2 v6 v11 v12 v13)
variable{M w0 r v1 v2 v6 v11 v12 v13 m1 L1}{K:Kn}{n:Nat}
theorem J8(hK:ak K)(hL1:yL M w0 r v2 v6 m1 L1)(h:pU K n v2 v6 L1 v11 v12 v13=some r):H4 M w0 r (Cq 500::GZ M w0 r m1) (y7 v2 v6 v11 v12 v13):=by
 unfold pU at h;refine av 6 7 3 ?_;obtain⟨h13,h⟩|⟨h13,h⟩:=ai h
 ·refine ae 50 h13 (cN 8 9 1 3 5 (ah 0 ?_));obtain⟨h14,h⟩:=aQ h;refine ax (bH aF aS h14 (eE) (dS)) (ab (av 2 3 1 (ah 3 ?_)));obtain⟨v14,h15,h⟩:=bind_some h;exact kJ (hK.sd h15) (ab (ac 3 (br (hL1 h))))
 ·refine ae 50 h13 (jH 2 3 6 (ah 1 ?_));obtain⟨v15,h16,h⟩:=bind_some h;refine aE (eV hK h16) (aL 3 1 ?_);obtain⟨v16,h17,h⟩:=bind_some h;refine aE (eV hK h17) (ab (aD 1 ?_));cases h;exact fW
theorem J2(hK:ak K)(m:Nat):yL M w0 r v2 v6 m (sD K n v2 v6 m):=by
 induction m with
 | zero=>intro v11 v12 v13 h;cases h
 | succ m ih=>intro v11 v12 v13 h;have h:pU K n v2 v6 (sD K n v2 v6 m) v11 v12 v13=some r:=h;exact bl (J8 hK ih h)
theorem Bs(hK:ak K)(h:l7 K n v1 v2=some r):aH Try.prog 60 [.agg (aS v1),.agg (cr v2)] (fun v _=>v=.tup [iI r.1,iI r.2]):=by
 refine bc (cat Try.f60 (pn 1)) Try.func60 Try.ntmps60 fun M w0=>(aZ ⟨[(0,.agg (aS v1)),(1,.agg (cr v2))],[],[],[]⟩ ?_);unfold l7 at h;refine bO 12 13 7 4 (ah 2 ?_);obtain⟨v3,h1,h⟩:=bind_some h;refine aE (Ag hK h1) (aL 4 1 ?_);obtain⟨v4,h2,h⟩:=bind_some h;refine aE (dx hK h2) (ab (aU 3 2 ?_));obtain⟨h3,h⟩|⟨h3,h⟩:=ai h
 ·refine ae 22 h3 (av 4 5 2 (ah 1 ?_));obtain⟨v5,h4,h⟩:=bind_some h;refine aE (eV hK h4) (ab (aD 4 ?_));cases h;exact fW
 ·refine ae 22 h3 (gV 2 3 3 (ah 1 ?_));obtain⟨v6,h5,h⟩:=bind_some h;refine aE (y3 hK h5) (ab (av 5 3 3 ?_));obtain⟨h6,h⟩|⟨h6,h⟩:=ai h
  ·refine ae 33 h6 (av 4 5 2 (ah 5 ?_));obtain⟨v7,h7,h⟩:=bind_some h;refine kJ (hK.rY h7) (ab (av 2 3 1 (ah 1 ?_)));obtain⟨v8,h8,h⟩:=bind_some h;refine aE (eV hK h8) (aL 3 1 ?_);obtain⟨v9,h9,h⟩:=bind_some h;refine aE (eV hK h9) (ab (aD 2 ?_));cases h;exact fW
  ·exact ae 33 h6 (nA 4 5 3 4 (ah 1 (ax (bF aF v6.1) (ab (ac 1 (cp (p:=pn 250) n (J2 hK n h)))))))
end
noncomputable section
variable(M:Nat→Prop)(w0:ay)(r:Int)(v1:aB)(v2 v3 v5 v7:Int)  
abbrev Aw(n:Nat):am:=.c (cat Try.f61 (pn n))
abbrev Dm:Cx:=⟨Try.prog,37,M,w0⟩
abbrev L8:=bodyPost Try.prog Try.f61 (bo M w0 (fun v _=>v=iI r))
abbrev zz(ks:List am)(s:AS):=VE (Dm M w0) (L8 M w0 r) ks .normal s
def Jc:AS:=⟨[(2,iI v7)],[],[],[]⟩
def ME:AS:=⟨[(1,iI v2),(2,iI v5),(3,.ptr 3 0)],[(3,aA v1)],[],[3]⟩
variable{M w0 r v1 v2 v3 v5 v7}{K:Kn}{n:Nat}
theorem za(hK:ak K)(h:pL K n v7=some r):zz M w0 r [Aw 31] (Jc v7):=by
 unfold pL at h;refine aD 3 ?_;cases h;exact aY
theorem AX(hK:ak K)(h:px K n v1 v2 v5=some r):zz M w0 r [Aw 15] (ME v1 v2 v5):=by
 unfold px at h;refine bO 4 5 3 2 (ah 3 ?_);obtain⟨v6,h3,h⟩:=bind_some h;refine aE (dx hK h3) (ab (aU 3 2 ?_));obtain⟨h4,h⟩|⟨h4,h⟩:=ai h
 ·exact ae 32 h4 (ac 2 (za hK h))
 ·exact ae 32 h4 (ac 2 (za hK h))
theorem qr(hK:ak K)(h:iT K n v1 v2 v3=some r):aH Try.prog 61 [.agg (aA v1),iI v2,iI v3] (fun v _=>v=iI r):=by
 refine bc (cat Try.f61 (pn 1)) Try.func61 Try.ntmps61 fun M w0=>(aZ ⟨[(0,.agg (aA v1)),(1,iI v2),(2,iI v3)],[],[],[]⟩ ?_);unfold iT at h;refine bO 28 29 15 6 (ah 3 ?_);obtain⟨v4,h1,h⟩:=bind_some h;refine aE (dx hK h1) (ab (aU 3 2 ?_));obtain⟨h2,h⟩|⟨h2,h⟩:=ai h
 ·exact ae 20 h2 (ac 2 (AX hK h))
 ·exact ae 20 h2 (ac 2 (AX hK h))
end
noncomputable section
variable(M:Nat→Prop)(w0:ay)(r:Int)(v1:ag)(v2:Int)(v3:ca)(v9:Int)  
abbrev GK(n:Nat):am:=.c (cat Try.f44 (pn n))
abbrev Hc:Cx:=⟨Try.prog,46,M,w0⟩
abbrev KC:=bodyPost Try.prog Try.f44 (bo M w0 (fun v _=>v=iI r))
abbrev DT(ks:List am)(s:AS):=VE (Hc M w0) (KC M w0 r) ks .normal s
def Kx:AS:=⟨[(1,iI v2),(3,.ptr 3 0),(7,iI v9)],[(3,aS v1)],[],[3]⟩
variable{M w0 r v1 v2 v3 v9}{K:Kn}{n:Nat}
theorem yc(hK:ak K)(h:nF K n v1 v2 v9=some r):DT M w0 r [GK 15] (Kx v1 v2 v9):=by
 unfold nF at h;refine av 2 3 1 (ah 4 ?_);obtain⟨v10,h7,h⟩:=bind_some h;refine aE (qr hK h7) (ab (aD 1 ?_));cases h;exact aY
theorem Ji(hK:ak K)(h:oI K n v1 v2 v3=some r):aH Try.prog 44 [.agg (aS v1),iI v2,.agg (cr v3)] (fun v _=>v=iI r):=by
 refine bc (cat Try.f44 (pn 1)) Try.func44 Try.ntmps44 fun M w0=>(aZ ⟨[(0,.agg (aS v1)),(1,iI v2),(2,.agg (cr v3))],[],[],[]⟩ ?_);unfold oI at h;refine av 6 7 3 (ah 4 ?_);obtain⟨v4,h1,h⟩:=bind_some h;refine aE (dx hK h1) (ab (av 5 3 3 ?_));obtain⟨h2,h⟩|⟨h2,h⟩:=ai h
 ·refine ae 21 h2 (av 4 5 2 (ah 2 ?_));obtain⟨v5,h3,h⟩:=bind_some h;refine aE (Bs hK h3) (ab (av 2 3 1 (bS [1,3,9,10] [3] [] ?_)));obtain⟨v6,h4,h⟩:=bind_some h;obtain⟨v7,h5,h⟩:=bind_some h;obtain⟨v8,h6,h⟩:=bind_some h;exact cg 1 (nu 28 [iI v2,iI v6,.ptr 3 2,.agg (aA v1.Style),iI v2,.agg (bw v7),iI v8,iI (aa (v6-v8))]) [] [] [bV Try.prog 46 Try.f44 (pn 234) 8] (aO [.v 0 1] (ao (ci 0 1 29 (eV hK h4)) (aO (vz 3) (ao (ci 0 1 33 (oB hK h5)) (ao (ci 0 1 34 (lS hK h6)) (aO [.v 0 1] (ao (bW 0) ce))))))) (ac 1 (yc hK h))
 ·exact ae 21 h2 (ac 2 (yc hK h))
end
noncomputable section
variable(M:Nat→Prop)(w0:ay)(r v1:af)(v2:Int)(v3:Int×Bool)(v5:Int)  
abbrev H2(n:Nat):am:=.c (cat Try.f45 (pn n))
abbrev LH:Cx:=⟨Try.prog,45,M,w0⟩
abbrev Ei:=bodyPost Try.prog Try.f45 (bo M w0 (fun v _=>v=.agg (aG r)))
abbrev LD(ks:List am)(s:AS):=VE (LH M w0) (Ei M w0 r) ks .normal s
def K6:AS:=⟨[(2,.ptr 2 0),(4,.ptr 4 0)],[(2,aG ({ v1 with X:=(aa (v1.X+v3.1)),Y:=v5 }:af)),(4,List.set (aG bj) 66 (.nils))],[],[2,4]⟩
variable{M w0 r v1 v2 v3 v5}{K:Kn}{n:Nat}
theorem AK(hK:ak K)(h:m7 K n v1 v3 v5=some r):LD M w0 r [H2 63] (K6 v1 v3 v5):=by
 unfold m7 at h;refine aD 3 ?_;cases h;exact aY
theorem xH(hK:ak K)(h:ms K n v1 v2=some r):aH Try.prog 45 [.agg (aG v1),iI v2] (fun v _=>v=.agg (aG r)):=by
 refine bc (cat Try.f45 (pn 1)) Try.func45 Try.ntmps45 fun M w0=>(aZ ⟨[(0,.agg (aG v1)),(1,iI v2)],[],[],[]⟩ ?_);unfold ms at h;refine av 13 7 5 ?_;obtain⟨h1,h⟩|⟨h1,h⟩:=ai h
 ·refine ae 12 h1 (aD 5 ?_);cases h;exact aY
 ·refine ae 12 h1 (gV 2 3 3 (ah 4 ?_));obtain⟨v3,h2,h⟩:=bind_some h;refine aE (dx hK h2) (ab (av 13 7 5 ?_));obtain⟨h3,h⟩|⟨h3,h⟩:=ai h
  ·refine ae 31 h3 (av 4 5 2 (ah 3 ?_));obtain⟨v4,h4,h⟩:=bind_some h;exact aE (dx hK h4) (ab (ac 1 (AK hK h)))
  ·exact ae 31 h3 (ac 2 (AK hK h))
end
noncomputable section
variable(M:Nat→Prop)(w0:ay)(r:Int)(v1:aM)  
variable{M w0 r v1}{K:Kn}{n:Nat}
theorem ls(hK:ak K)(h:gb K n v1=some r):aH Try.prog 48 [.agg (bK v1)] (fun v _=>v=iI r):=by
 refine bc (cat Try.f48 (pn 1)) Try.func48 Try.ntmps48 fun M w0=>(aZ ⟨[(0,.agg (bK v1))],[],[],[]⟩ ?_);unfold gb at h;refine aD 5 ?_;cases h;exact aY
end
noncomputable section
variable(M:Nat→Prop)(w0:ay)(r:aM)(v1 v2:aM)  
variable{M w0 r v1 v2}{K:Kn}{n:Nat}
theorem nq(hK:ak K)(h:jb K n v1 v2=some r):aH Try.prog 79 [.agg (bK v1),.agg (bK v2)] (fun v _=>v=.agg (bK r)):=by
 refine bc (cat Try.f79 (pn 1)) Try.func79 Try.ntmps79 fun M w0=>(aZ ⟨[(0,.agg (bK v1)),(1,.agg (bK v2))],[],[],[]⟩ ?_);unfold jb at h;refine aD 5 ?_;cases h;exact aY
end
noncomputable section
variable(M:Nat→Prop)(w0:ay)(r:(List af)×Int×aM×aM×Bool)(v1:List af)(v16:Int)(v17:Bool)(v18:Int)(v19 v20:aM)(v21:List af)(v22:aM)(v24:Int)(v25:aM)(v26:Int)(v27:Bool)(v28 v29 v30:aM)(m1:Nat)(L1:Int→Bool→Int→aM→aM→(List af)→Option ((List af)×Int×aM×aM×Bool))
abbrev um:Cx:=⟨Try.prog,52,M,w0⟩
abbrev tw:=bodyPost Try.prog Try.f76 (bo M w0 (fun v s=>v=.tup [.ref 43,iI r.2.1,.agg (bK r.2.2.1),.agg (bK r.2.2.2.1),.bool r.2.2.2.2]∧look 43 s.r=some ⟨64,67,lm az r.1⟩))
abbrev oi(ks:List am)(s:AS):=VE (um M w0) (tw M w0 r) ks .normal s
abbrev fJ(n:Nat):am:=.c (cat Try.f76 (pn n))
abbrev tk:List am:=[.b 0,fJ 31]
abbrev rm:List am:=kl (um M w0) (tw M w0 r) tk (cat Try.f76 (pn 244)) m1::tk
def ID:AS:=⟨[(2,.ref 43),(3,iI v26),(4,.ptr 4 0),(5,.ptr 5 0),(6,.bool v27),(7,.ptr 7 0),(9,.ptr 9 0),(10,.sl (lm az v1)),(11,iI (v1.length:Int)),(12,iI v18)],[(4,bK v28),(5,bK cy),(7,bK v29),(9,aG ({ (gD v1 v18)with Y:=v24 }:af))],[(43,⟨64,67,lm az v21⟩)],[4,5,7,9,43]⟩
def G9:AS:=⟨[(2,.ref 43),(4,.ptr 4 0),(5,.ptr 5 0),(7,.ptr 7 0),(9,.ptr 9 0),(10,.sl (lm az v1)),(11,iI (v1.length:Int)),(12,iI v18)],[(4,bK v25),(5,bK cy),(7,bK v22),(9,aG ({ (gD v1 v18)with Y:=v24 }:af))],[(43,⟨64,67,lm az v21⟩)],[4,5,7,9,43]⟩
def Hk:AS:=⟨[(2,.ref 43),(3,iI v16),(4,.ptr 4 0),(5,.ptr 5 0),(6,.bool v17),(7,.ptr 7 0),(9,.ptr 9 0),(10,.sl (lm az v1)),(11,iI (v1.length:Int)),(12,iI v18)],[(4,bK v19),(5,bK cy),(7,bK v22),(9,aG ({ (gD v1 v18)with Y:=v24 }:af))],[(43,⟨64,67,lm az v21⟩)],[4,5,7,9,43]⟩
def KV:AS:=⟨[(2,.ref 43),(3,iI v16),(4,.ptr 4 0),(5,.ptr 5 0),(6,.bool v17),(7,.ptr 7 0)],[(4,bK v30),(5,bK cy),(7,bK v20)],[(43,⟨64,67,lm az v21⟩)],[4,5,7,43]⟩
def zl:AS:=⟨[(2,.ref 43),(3,iI v16),(4,.ptr 4 0),(5,.ptr 5 0),(6,.bool v17),(7,.ptr 7 0),(10,.sl (lm az v1)),(11,iI (v1.length:Int)),(12,iI v18)],[(4,bK v19),(5,bK cy),(7,bK v20)],[(43,⟨64,67,lm az v21⟩)],[4,5,7,43]⟩
abbrev pq:Prop:=∀{v16:Int} {v17:Bool} {v18:Int} {v19:aM} {v20:aM} {v21:(List af)},L1 v16 v17 v18 v19 v20 v21=some r→LP (um M w0) (tw M w0 r) tk (cat Try.f76 (pn 244)) m1 (zl v1 v16 v17 v18 v19 v20 v21)
variable{M w0 r v1 v16 v17 v18 v19 v20 v21 v22 v24 v25 v26 v27 v28 v29 v30 m1 L1}{K:Kn}{n:Nat}
theorem BX(hK:ak K)(hL1:pq M w0 r v1 m1 L1)(h:su K n v1 v18 v21 v24 L1 v26 v27 v28 v29=some r):oi M w0 r (fJ 125343 :: .b 1::fJ 1959::rm M w0 r m1) (ID v1 v18 v21 v24 v26 v27 v28 v29):=by
 unfold su at h;refine ah 2 (ax (fD az ([({ (gD v1 v18)with Y:=v24 }:af)]:List af) (new:=[aG ({ (gD v1 v18)with Y:=v24 }:af)]) (by simp only[List.map_cons,List.map_nil,cK])) ?_);obtain⟨h22,h⟩:=aQ h;exact ax (cD 43 43 64 67 az (rfl) (eY) h22) (ab (ac 2 (br (hL1 h))))
theorem Bk(hK:ak K)(hL1:pq M w0 r v1 m1 L1)(h:rF K n v1 v18 v21 v22 v24 L1 v25=some r):oi M w0 r (fJ 1002741::fJ 125343 :: .b 1::fJ 1959::rm M w0 r m1) (G9 v1 v18 v21 v22 v24 v25):=by
 unfold rF at h;exact ac 5 (BX hK hL1 h)
theorem yr(hK:ak K)(hL1:pq M w0 r v1 m1 L1)(h:qB K n v1 v16 v17 v18 v19 v21 v22 L1 v24=some r):oi M w0 r (fJ 62671 :: .b 1::fJ 1959::rm M w0 r m1) (Hk v1 v16 v17 v18 v19 v21 v22 v24):=by
 unfold qB at h;refine av 5 3 3 ?_;obtain⟨h20,h⟩|⟨h20,h⟩:=ai h
 ·refine ae 30 h20 (av 9 5 4 ?_);obtain⟨h21,h⟩|⟨h21,h⟩:=ai h
  ·exact ae 31 h21 (ac 2 (Bk hK hL1 h))
  ·exact ae 31 h21 (ac 2 (Bk hK hL1 h))
 ·exact ae 30 h20 (ac 2 (BX hK hL1 h))
theorem B0(hK:ak K)(h:sB K n v16 v17 v20 v21 v30=some r):oi M w0 r [fJ 63] (KV v16 v17 v20 v21 v30):=by
 unfold sB at h;refine av 2 3 1 (bS [2,3,4,5,6,7] [4,5,7] [43] (cg 5 (nu 47 [.ref 43,iI v16,.agg (bK v30),.agg (bK v20),.bool v17]) [] [] [bV Try.prog 52 Try.f76 (pn 126) 5,bV Try.prog 52 Try.f76 (pn 126) 6,bV Try.prog 52 Try.f76 (pn 126) 7,bV Try.prog 52 Try.f76 (pn 126) 8,bV Try.prog 52 Try.f76 (pn 126) 9] (aO [.v 0 1,.v 0 2,.v 0 3,.v 0 4,.v 0 5] (ao (bW 0) (ao (bW 1) (ao (bW 2) (ao (bW 3) (ao (bW 4) ce)))))) (aD 1 ?_)));cases h;exact qy
theorem Hz(hK:ak K)(hL1:pq M w0 r v1 m1 L1)(h:sv K n v1 L1 v16 v17 v18 v19 v20 v21=some r):oi M w0 r (fJ 244::rm M w0 r m1) (zl v1 v16 v17 v18 v19 v20 v21):=by
 unfold sv at h;refine av 6 7 3 ?_;obtain⟨h15,h⟩|⟨h15,h⟩:=ai h
 ·refine ae 13 h15 (cN 8 9 1 3 5 (ah 0 ?_));obtain⟨h16,h⟩:=aQ h;refine ax (bH az aG h16 (eY) (cK)) (ab (av 2 3 1 (ah 3 ?_)));obtain⟨v22,h17,h⟩:=bind_some h;refine aE (nq hK h17) (ab (av 13 7 5 ?_));obtain⟨h18,h⟩|⟨h18,h⟩:=ai h
  ·refine ae 22 h18 (aU 2 1 (ah 2 ?_));obtain⟨v23,h19,h⟩:=bind_some h;exact aE (ls hK h19) (ab (ac 0 (yr hK hL1 h)))
  ·exact ae 22 h18 (ac 2 (yr hK hL1 h))
 ·refine ae 13 h15 (jH 5 3 8 ?_);obtain⟨h23,h⟩|⟨h23,h⟩:=ai h
  ·exact ae 45 h23 (ac 2 (B0 hK h))
  ·exact ae 45 h23 (ac 2 (B0 hK h))
theorem LZ(hK:ak K)(m:Nat):pq M w0 r v1 m (qm K n v1 m):=by
 induction m with
 | zero=>intro v16 v17 v18 v19 v20 v21 h;cases h
 | succ m ih=>intro v16 v17 v18 v19 v20 v21 h;have h:sv K n v1 (qm K n v1 m) v16 v17 v18 v19 v20 v21=some r:=h;exact bl (Hz hK ih h)
theorem D0(hK:ak K)(h:uh K n v1=some r):aH Try.prog 76 [.sl (lm az v1)] (fun v s=>v=.tup [.ref 43,iI r.2.1,.agg (bK r.2.2.1),.agg (bK r.2.2.2.1),.bool r.2.2.2.2]∧look 43 s.r=some ⟨64,67,lm az r.1⟩):=by
 refine bc (cat Try.f76 (pn 1)) Try.func76 Try.ntmps76 fun M w0=>(aZ ⟨[(0,.sl (lm az v1))],[],[],[]⟩ ?_);unfold uh at h;exact bO 60 61 31 8 (ah 1 (ax (bF az v1) (ab (gz 2 0 1 (bS [2,3,4,5,6,7,10,11,12] [4,5,7] [] (fZ 43 2 64 67 (ac 0 (cp (p:=pn 122) n (LZ hK n h)))))))))
end
noncomputable section
variable(M:Nat→Prop)(w0:ay)(r v1:List af)  
variable{M w0 r v1}{K:Kn}{n:Nat}
theorem Lx(hK:ak K)(h:nW K n v1=some r):aH Try.prog 77 [.sl (lm az v1)] (fun v s=>v=.ref 5∧look 5 s.r=some ⟨64,67,lm az r⟩):=by
 refine bc (cat Try.f77 (pn 1)) Try.func77 Try.ntmps77 fun M w0=>(aZ ⟨[(0,.sl (lm az v1))],[],[],[]⟩ ?_);unfold nW at h;refine bO 12 13 7 4 (ah 1 ?_);refine Ky (aR Try.f77 (pn 12) 1) (.eql) 39 39 (.tmp 3) (.const (.slice none 0 0)) 4 (lm az v1) (r:=aK Try.f77 (pn 12) 2) (e:=64) (by kernel_rfl) (by kernel_rfl) (by kernel_rfl) (by kernel_rfl) (by kernel_rfl) (by kernel_rfl) (by kernel_rfl) (by kernel_rfl) (fun hq=>?_) ?_
 ·have h:=Mr (by simpa using hq) h;refine ab (aD 5 (fZ 5 2 64 67 ?_));cases h;exact eG
 ·have h:=FQ h;refine ab (gV 2 3 3 (ah 0 (LQ 39 5 (e:=64) (sz:=67) (aL 2 1 ?_))));obtain⟨h2,h⟩:=aQ h;refine ax (cD 7 5 64 67 az (rfl) (eY) h2) (ab (aD 1 ?_));cases h;exact eG
end
noncomputable section
variable(M:Nat→Prop)(w0:ay)(r:aM)(v1:Int)  
variable{M w0 r v1}{K:Kn}{n:Nat}
theorem AJ(hK:ak K)(h:nG K n v1=some r):aH Try.prog 78 [iI v1] (fun v _=>v=.agg (bK r)):=by
 refine bc (cat Try.f78 (pn 1)) Try.func78 Try.ntmps78 fun M w0=>(aZ ⟨[(0,iI v1)],[],[],[]⟩ ?_);unfold nG at h;refine aD 5 ?_;cases h;exact aY
end
noncomputable section
variable(M:Nat→Prop)(w0:ay)(r:Int)(v1:bt)  
variable{M w0 r v1}{K:Kn}{n:Nat}
theorem Dt(hK:ak K)(h:wB K n v1=some r):aH Try.prog 80 [.agg (bw v1)] (fun v _=>v=iI r):=by
 refine bc (cat Try.f80 (pn 1)) Try.func80 Try.ntmps80 fun M w0=>(aZ ⟨[(0,.agg (bw v1))],[],[],[]⟩ ?_);unfold wB at h;refine aD 5 ?_;cases h;exact aY
end
end Go.Proofs.Ytnpmlepplfaijaa

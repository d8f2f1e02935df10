/- The runs of the functions that InlineBreak reaches do what their plain forms say, part 0. Made by a program. -/
import Derived.Test.YtnpmlepplfaijaaIbGk
namespace Go.Proofs.Ytnpmlepplfaijaa
open Go.RowKit
set_option maxRecDepth 20000
set_option linter.all false
set_option linter.unusedVariables false
set_option linter.unusedSimpArgs false
noncomputable section
variable(M:Nat→Prop)(w0:aw)(r v1:Int)  
variable{M w0 r v1}{K:Kn}{n:Nat}
theorem mL(hK:ai K)(h:gH K n v1=some r):aJ Try.prog 50 [iI v1] (fun v _=>v=iI r):=by
 refine bd (cat Try.f50 (pn 1)) Try.func50 Try.ntmps50 fun M w0=>(aY ⟨[(0,iI v1)],[],[],[]⟩ ?_);unfold gH at h;refine aI 5 ?_;cases h;exact ba
end
noncomputable section
variable(M:Nat→Prop)(w0:aw)(r v1:Int)  
variable{M w0 r v1}{K:Kn}{n:Nat}
theorem tU(hK:ai K)(h:mP K n v1=some r):aJ Try.prog 25 [iI v1] (fun v _=>v=iI r):=by
 refine bd (cat Try.f25 (pn 1)) Try.func25 Try.ntmps25 fun M w0=>(aY ⟨[(0,iI v1)],[],[],[]⟩ ?_);unfold mP at h;refine ao 6 7 3 (ag 1 ?_);obtain⟨v2,h1,h⟩:=bind_some h;refine aL (mL hK h1) (aa (aI 1 ?_));cases h;exact ba
end
noncomputable section
variable(M:Nat→Prop)(w0:aw)(r v1:Int)  
variable{M w0 r v1}{K:Kn}{n:Nat}
theorem tT(hK:ai K)(h:mO K n v1=some r):aJ Try.prog 26 [iI v1] (fun v _=>v=iI r):=by
 refine bd (cat Try.f26 (pn 1)) Try.func26 Try.ntmps26 fun M w0=>(aY ⟨[(0,iI v1)],[],[],[]⟩ ?_);unfold mO at h;refine ao 6 7 3 (ag 1 ?_);obtain⟨v2,h1,h⟩:=bind_some h;refine aL (mL hK h1) (aU 3 1 ?_);obtain⟨v3,h2,h⟩:=bind_some h;refine aL (mL hK h2) (aa (aI 1 ?_));cases h;exact ba
end
noncomputable section
variable(M:Nat→Prop)(w0:aw)(r:Int×Int)(v1:aK)  
variable{M w0 r v1}{K:Kn}{n:Nat}
theorem n8(hK:ai K)(h:gN K n v1=some r):aJ Try.prog 9 [.agg (aA v1)] (fun v _=>v=.tup [iI r.1,iI r.2]):=by
 refine bd (cat Try.f9 (pn 1)) Try.func9 Try.ntmps9 fun M w0=>(aY ⟨[(0,.agg (aA v1))],[],[],[]⟩ ?_);unfold gN at h;refine ao 14 15 5 (bB [1,4] [1] [] ?_);obtain⟨v2,h1,h⟩:=bind_some h;obtain⟨v3,h2,h⟩:=bind_some h;refine bL 1 (nu 8 [.ptr 1 37,iI v1.FontSize,iI v2,iI (max v1.LineHeight 0),.ptr 1 37,iI v1.FontSize,iI v3,iI (af ((max v1.LineHeight 0)-v3)),iI ((af ((max v1.LineHeight 0)-v3)) / 2),iI (af (v2+((af ((max v1.LineHeight 0)-v3)) / 2)))]) [] [] [bF Try.prog 22 Try.f9 (pn 14) 10] (aB (vz 2) (ak (bR 0 1 10 (tU hK h1)) (aB (vz 3) (ak (bR 0 1 14 (tT hK h2)) (aB (vz 3) (ak (bI 0) bO)))))) (aI 3 ?_);cases h;exact eu
end
noncomputable section
variable(M:Nat→Prop)(w0:aw)(r:Int)(v1:List av)(v2 v4:Int)(v5:Bool)(m1:Nat)(L1:Int→Option Int)
abbrev pj:Cx:=⟨Try.prog,22,M,w0⟩
abbrev oX:=bodyPost Try.prog Try.f30 (bn M w0 (fun v _=>v=iI r))
abbrev wM(ks:List aj)(s:AS):=VE (pj M w0) (oX M w0 r) ks .normal s
abbrev mH(n:Nat):aj:=.c (cat Try.f30 (pn n))
abbrev qj:List aj:=[.b 0,mH 15]
abbrev xr:List aj:=kl (pj M w0) (oX M w0 r) qj (cat Try.f30 (pn 56)) m1::qj
def CX:AS:=⟨[(0,.sl (lm ax v1)),(5,iI v4),(18,.bool v5)],[],[],[]⟩
def tA:AS:=⟨[(0,.sl (lm ax v1)),(5,iI v4)],[],[],[]⟩
abbrev qD:Prop:=∀{v4:Int},L1 v4=some r→LP (pj M w0) (oX M w0 r) qj (cat Try.f30 (pn 56)) m1 (tA v1 v4)
variable{M w0 r v1 v2 v4 v5 m1 L1}{K:Kn}{n:Nat}
theorem sQ(hK:ai K)(hL1:qD M w0 r v1 m1 L1)(h:iR K n v1 v4 L1 v5=some r):wM M w0 r (mH 225::mH 113::xr M w0 r m1) (CX v1 v4 v5):=by
 unfold iR at h;obtain⟨h6,h⟩|⟨h6,h⟩:=ah h
 ·exact ab 18 h6 (ac 5 (bp (hL1 h)))
 ·refine ab 18 h6 (aI 8 ?_);cases h;exact ba
theorem CF(hK:ai K)(hL1:qD M w0 r v1 m1 L1)(h:gZ K n v1 L1 v4=some r):wM M w0 r (mH 56::xr M w0 r m1) (tA v1 v4):=by
 unfold gZ at h;refine bH 4 5 3 2 (ag 2 (ap (br ax v1) (aU 5 2 ?_)));obtain⟨h4,h⟩|⟨h4,h⟩:=ah h
 ·refine ay 12 h4 (aU 7 2 ?_);obtain⟨h5,h⟩:=aN h;exact ap (bw ax ax h5 (dR) (fun _=>rfl)) (aa (ac 0 (sQ hK hL1 h)))
 ·exact ay 12 h4 (aa (ac 0 (sQ hK hL1 h)))
theorem Ey(hK:ai K)(m:Nat):qD M w0 r v1 m (iM K n v1 m):=by
 induction m with
 | zero=>intro v4 h;cases h
 | succ m ih=>intro v4 h;have h:gZ K n v1 (iM K n v1 m) v4=some r:=h;exact bo (CF hK ih h)
theorem u2(hK:ai K)(h:iu K n v1 v2=some r):aJ Try.prog 30 [.sl (lm ax v1),iI v2] (fun v _=>v=iI r):=by
 refine bd (cat Try.f30 (pn 1)) Try.func30 Try.ntmps30 fun M w0=>(aY ⟨[(0,.sl (lm ax v1)),(1,iI v2)],[],[],[]⟩ ?_);unfold iu at h;exact ac 6 (bW (p:=pn 28) n (Ey hK n h))
end
noncomputable section
variable(M:Nat→Prop)(w0:aw)(r:Int)(v1:List av)(v3:Int)(m1:Nat)(L1:Int→Option Int)
abbrev qX:Cx:=⟨Try.prog,18,M,w0⟩
abbrev oI:=bodyPost Try.prog Try.f51 (bn M w0 (fun v _=>v=iI r))
abbrev B7(ks:List aj)(s:AS):=VE (qX M w0) (oI M w0 r) ks .normal s
abbrev wW(n:Nat):aj:=.c (cat Try.f51 (pn n))
abbrev q9:List aj:=[.b 0,wW 7]
abbrev EK:List aj:=kl (qX M w0) (oI M w0 r) q9 (cat Try.f51 (pn 52)) m1::q9
def uR:AS:=⟨[(0,.sl (lm ax v1)),(3,iI v3)],[],[],[]⟩
abbrev tW:Prop:=∀{v3:Int},L1 v3=some r→LP (qX M w0) (oI M w0 r) q9 (cat Try.f51 (pn 52)) m1 (uR v1 v3)
variable{M w0 r v1 v3 m1 L1}{K:Kn}{n:Nat}
theorem zo(hK:ai K)(hL1:tW M w0 r v1 m1 L1)(h:iw K n v1 L1 v3=some r):B7 M w0 r (wW 52::EK M w0 r m1) (uR v1 v3):=by
 unfold iw at h;refine ao 5 3 3 ?_;obtain⟨h5,h⟩|⟨h5,h⟩:=ah h
 ·refine ab 8 h5 (cu 8 9 1 3 5 (ag 2 ?_));obtain⟨h6,h⟩:=aN h;refine ap (bw ax ax h6 (dR) (fun _=>rfl)) (aa ?_);obtain⟨h7,h⟩|⟨h7,h⟩:=ah h
  ·refine ab 16 h7 (aI 9 ?_);cases h;exact ba
  ·exact ab 16 h7 (ac 4 (bp (hL1 h)))
 ·refine ab 8 h5 (aI 8 ?_);cases h;exact ba
theorem BP(hK:ai K)(m:Nat):tW M w0 r v1 m (gK K n v1 m):=by
 induction m with
 | zero=>intro v3 h;cases h
 | succ m ih=>intro v3 h;have h:iw K n v1 (gK K n v1 m) v3=some r:=h;exact bo (zo hK ih h)
theorem w5(hK:ai K)(h:iz K n v1=some r):aJ Try.prog 51 [.sl (lm ax v1)] (fun v _=>v=iI r):=by
 refine bd (cat Try.f51 (pn 1)) Try.func51 Try.ntmps51 fun M w0=>(aY ⟨[(0,.sl (lm ax v1))],[],[],[]⟩ ?_);unfold iz at h;exact bH 12 13 7 4 (ag 1 (ap (br ax v1) (aa (ac 1 (bW (p:=pn 26) n (BP hK n h))))))
end
noncomputable section
variable(M:Nat→Prop)(w0:aw)(r:Int)(v1:List av)(v2 v3 v5:Int)(m1:Nat)(L1:Int→Int→Option Int)
abbrev rE:Cx:=⟨Try.prog,33,M,w0⟩
abbrev oK:=bodyPost Try.prog Try.f31 (bn M w0 (fun v _=>v=iI r))
abbrev vr(ks:List aj)(s:AS):=VE (rE M w0) (oK M w0 r) ks .normal s
abbrev pq(n:Nat):aj:=.c (cat Try.f31 (pn n))
abbrev qk:List aj:=[.b 0,pq 15]
abbrev yB:List aj:=kl (rE M w0) (oK M w0 r) qk (cat Try.f31 (pn 116)) m1::qk
def EY:AS:=⟨[(3,iI v5)],[],[],[]⟩
def xe:AS:=⟨[(0,.sl (lm ax v1)),(3,iI v2),(7,.sl (lm ax v1)),(8,iI (v1.length:Int)),(9,iI v3)],[],[],[]⟩
abbrev uy:Prop:=∀{v2:Int} {v3:Int},L1 v2 v3=some r→LP (rE M w0) (oK M w0 r) qk (cat Try.f31 (pn 116)) m1 (xe v1 v2 v3)
variable{M w0 r v1 v2 v3 v5 m1 L1}{K:Kn}{n:Nat}
theorem vO(hK:ai K)(h:j2 K n v5=some r):vr M w0 r [pq 31] (EY v5):=by
 unfold j2 at h;refine aI 3 ?_;cases h;exact ba
theorem Ck(hK:ai K)(hL1:uy M w0 r v1 m1 L1)(h:ib K n v1 L1 v2 v3=some r):vr M w0 r (pq 116::yB M w0 r m1) (xe v1 v2 v3):=by
 unfold ib at h;refine ao 6 7 3 ?_;obtain⟨h3,h⟩|⟨h3,h⟩:=ah h
 ·refine ab 10 h3 (cu 8 9 1 3 5 (ag 0 ?_));obtain⟨h4,h⟩:=aN h;exact ap (bw ax ax h4 (dR) (fun _=>rfl)) (aa (ac 3 (bp (hL1 h))))
 ·refine ab 10 h3 (B0 4 5 3 7 (ag 1 ?_));obtain⟨v4,h5,h⟩:=bind_some h;refine aL (w5 hK h5) (aa (aS 3 2 ?_));obtain⟨h6,h⟩|⟨h6,h⟩:=ah h
  ·refine ab 24 h6 (aS 2 1 (ag 3 ?_));obtain⟨h7,h⟩:=aN h;exact ap (bw ax ax h7 (dR) (fun _=>rfl)) (aa (ac 0 (vO hK h)))
  ·exact ab 24 h6 (ac 2 (vO hK h))
theorem A6(hK:ai K)(m:Nat):uy M w0 r v1 m (gL K n v1 m):=by
 induction m with
 | zero=>intro v2 v3 h;cases h
 | succ m ih=>intro v2 v3 h;have h:ib K n v1 (gL K n v1 m) v2 v3=some r:=h;exact bo (Ck hK ih h)
theorem ux(hK:ai K)(h:iy K n v1=some r):aJ Try.prog 31 [.sl (lm ax v1)] (fun v _=>v=iI r):=by
 refine bd (cat Try.f31 (pn 1)) Try.func31 Try.ntmps31 fun M w0=>(aY ⟨[(0,.sl (lm ax v1))],[],[],[]⟩ ?_);unfold iy at h;exact bH 28 29 15 6 (ag 1 (ap (br ax v1) (aa (ac 1 (bW (p:=pn 58) n (A6 hK n h))))))
end
noncomputable section
variable(M:Nat→Prop)(w0:aw)(r:List Int)(v1:List av)(v2 v19:Int)(v20:List Int)(v25:Int)(v26:Bool)(m1 m2:Nat)(L1:Int→(List Int)→Option (List Int))(L2:Int→Option (List Int))
abbrev jW:Cx:=⟨Try.prog,46,M,w0⟩
abbrev ju:=bodyPost Try.prog Try.f13 (bn M w0 (fun v s=>v=.ref 16∧look 16 s.r=some ⟨3,1,lm (aX .i64) r⟩))
abbrev lB(ks:List aj)(s:AS):=VE (jW M w0) (ju M w0 r) ks .normal s
abbrev d5(n:Nat):aj:=.c (cat Try.f13 (pn n))
abbrev qP:List aj:=[.b 0,d5 15]
abbrev oq:List aj:=kl (jW M w0) (ju M w0 r) qP (cat Try.f13 (pn 116)) m1::qP
abbrev rF:List aj:=.b 2::d5 3735 :: .b 1::oq M w0 r m1
abbrev sa:List aj:=kl (jW M w0) (ju M w0 r) (rF M w0 r m1) (cat Try.f13 (pn 14936)) m2::(rF M w0 r m1)
def Dr:AS:=⟨[(0,.sl (lm ax v1)),(1,iI v2),(5,.ref 16),(7,iI v25)],[],[(16,⟨3,1,lm (aX .i64) (v20++[v19])⟩)],[16]⟩
def CQ:AS:=⟨[(0,.sl (lm ax v1)),(1,iI v2),(5,.ref 16),(6,iI v19),(7,iI v25),(32,.bool v26)],[],[(16,⟨3,1,lm (aX .i64) (v20++[v19])⟩)],[16]⟩
def vJ:AS:=⟨[(0,.sl (lm ax v1)),(1,iI v2),(5,.ref 16),(6,iI v19),(7,iI v25)],[],[(16,⟨3,1,lm (aX .i64) (v20++[v19])⟩)],[16]⟩
def tf:AS:=⟨[(0,.sl (lm ax v1)),(1,iI v2),(5,.ref 16),(6,iI v19)],[],[(16,⟨3,1,lm (aX .i64) v20⟩)],[16]⟩
abbrev gU:Prop:=∀{v19:Int} {v20:(List Int)},L1 v19 v20=some r→LP (jW M w0) (ju M w0 r) qP (cat Try.f13 (pn 116)) m1 (tf v1 v2 v19 v20)
abbrev rr:Prop:=∀{v25:Int},L2 v25=some r→LP (jW M w0) (ju M w0 r) (rF M w0 r m1) (cat Try.f13 (pn 14936)) m2 (vJ v1 v2 v19 v20 v25)
variable{M w0 r v1 v2 v19 v20 v25 v26 m1 m2 L1 L2}{K:Kn}{n:Nat}
theorem tv(hK:ai K)(hL1:gU M w0 r v1 v2 m1 L1)(h:l8 K n v1 v2 v19 v20 v25 L1=some r):lB M w0 r (d5 3735 :: .b 1::oq M w0 r m1) (Dr v1 v2 v19 v20 v25):=by
 unfold l8 at h;exact ac 2 (bp (hL1 h))
theorem yo(hK:ai K)(hL1:gU M w0 r v1 v2 m1 L1)(hL2:rr M w0 r v1 v2 v19 v20 m1 m2 L2)(h:iY K n v1 v2 v19 v20 v25 L1 L2 v26=some r):lB M w0 r (d5 59745::d5 29873::sa M w0 r m1 m2) (CQ v1 v2 v19 v20 v25 v26):=by
 unfold iY at h;obtain⟨h47,h⟩|⟨h47,h⟩:=ah h
 ·refine ab 32 h47 (bV (ks':=d5 119492::d5 119493 :: .b 3::sa M w0 r m1 m2) 4 (ag 2 ?_));obtain⟨v27,h48,h⟩:=bind_some h;refine aL (u2 hK h48) (aa (bH 4 5 3 2 (ag 3 ?_)));obtain⟨h49,h⟩:=aN h;refine ap (oo ax v1 v19 v27 37 (.tmp 36) (some (.tmp 37)) (some (.tmp 38)) 39 (e:=41) (sz:=62) (by kernel_rfl) (by kernel_rfl) (by kernel_rfl) (by kernel_rfl) (by kernel_rfl) (by kernel_rfl) (dR) (fun k hk=>by subst hk;kernel_rfl) h49) ?_;obtain⟨v28,h50,h⟩:=bind_some h;refine aL (ux hK h50) (aa ?_);obtain⟨h51,h⟩|⟨h51,h⟩:=ah h
  ·exact ab 42 h51 (ac 6 (tv hK hL1 h))
  ·exact ab 42 h51 (ac 4 (bp (hL2 h)))
 ·exact ab 32 h47 (ac 5 (tv hK hL1 h))
theorem Fc(hK:ai K)(hL1:gU M w0 r v1 v2 m1 L1)(hL2:rr M w0 r v1 v2 v19 v20 m1 m2 L2)(h:iJ K n v1 v2 v19 v20 L1 L2 v25=some r):lB M w0 r (d5 14936::sa M w0 r m1 m2) (vJ v1 v2 v19 v20 v25):=by
 unfold iJ at h;refine bH 4 5 3 2 (ag 2 (ap (br ax v1) (aU 5 2 ?_)));obtain⟨h45,h⟩|⟨h45,h⟩:=ah h
 ·refine ay 24 h45 (aU 8 3 ?_);obtain⟨h46,h⟩:=aN h;exact ap (bw ax ax h46 (dR) (fun _=>rfl)) (aa (ac 0 (yo hK hL1 hL2 h)))
 ·exact ay 24 h45 (aa (ac 0 (yo hK hL1 hL2 h)))
theorem B5(hK:ai K)(hL1:gU M w0 r v1 v2 m1 L1)(m:Nat):rr M w0 r v1 v2 v19 v20 m1 m (gA K n v1 v2 v19 v20 L1 m):=by
 induction m with
 | zero=>intro v25 h;cases h
 | succ m ih=>intro v25 h;have h:iJ K n v1 v2 v19 v20 L1 (gA K n v1 v2 v19 v20 L1 m) v25=some r:=h;exact bo (Fc hK hL1 ih h)
theorem FA(hK:ai K)(hL1:gU M w0 r v1 v2 m1 L1)(h:iW K n v1 v2 L1 v19 v20=some r):lB M w0 r (d5 116::oq M w0 r m1) (tf v1 v2 v19 v20):=by
 unfold iW at h;refine bH 4 5 3 2 (ag 2 (ap (br ax v1) (aa ?_)));obtain⟨h35,h⟩|⟨h35,h⟩:=ah h
 ·refine ab 12 h35 (bV (ks':=d5 932::d5 933 :: .b 1::oq M w0 r m1) 4 (ag 3 ?_));obtain⟨h36,h⟩:=aN h;refine ap (b9 16 16 3 1 (aX .i64) (rfl) (fun _=>rfl) h36) (aa (ao 2 3 1 (ag 2 ?_)));obtain⟨v21,h37,h⟩:=bind_some h;exact aL (u2 hK h37) (aa (ac 2 (bW (p:=pn 7468) n (B5 hK hL1 n h))))
 ·refine ab 12 h35 (aI 8 ?_);cases h;exact dB
theorem Fj(hK:ai K)(m:Nat):gU M w0 r v1 v2 m (gE K n v1 v2 m):=by
 induction m with
 | zero=>intro v19 v20 h;cases h
 | succ m ih=>intro v19 v20 h;have h:iW K n v1 v2 (gE K n v1 v2 m) v19 v20=some r:=h;exact bo (FA hK ih h)
theorem xt(hK:ai K)(h:ic K n v1 v2=some r):aJ Try.prog 13 [.sl (lm ax v1),iI v2] (fun v s=>v=.ref 16∧look 16 s.r=some ⟨3,1,lm (aX .i64) r⟩):=by
 refine bd (cat Try.f13 (pn 1)) Try.func13 Try.ntmps13 fun M w0=>(aY ⟨[(0,.sl (lm ax v1)),(1,iI v2)],[],[],[]⟩ ?_);unfold ic at h;exact eA 58 0 15 8 (bB [0,1,5,6] [] [] (d9 16 5 3 1 (ac 0 (bW (p:=pn 58) n (Fj hK n h)))))
end
noncomputable section
variable(M:Nat→Prop)(w0:aw)(r:Bool)(v1:aq)(v2:Bool)  
abbrev Bx(n:Nat):aj:=.c (cat Try.f67 (pn n))
abbrev Bn:Cx:=⟨Try.prog,12,M,w0⟩
abbrev A7:=bodyPost Try.prog Try.f67 (bn M w0 (fun v _=>v=.bool r))
abbrev y4(ks:List aj)(s:AS):=VE (Bn M w0) (A7 M w0 r) ks .normal s
def zV:AS:=⟨[(2,.bool v2)],[],[],[]⟩
variable{M w0 r v1 v2}{K:Kn}{n:Nat}
theorem wz(hK:ai K)(h:nW K n v2=some r):y4 M w0 r [Bx 7] (zV v2):=by
 unfold nW at h;refine aI 1 ?_;cases h;exact ba
theorem vY(hK:ai K)(h:oc K n v1=some r):aJ Try.prog 67 [.agg (aW v1)] (fun v _=>v=.bool r):=by
 refine bd (cat Try.f67 (pn 1)) Try.func67 Try.ntmps67 fun M w0=>(aY ⟨[(0,.agg (aW v1))],[],[],[]⟩ ?_);unfold oc at h;refine ao 6 7 3 (ag 4 ?_);obtain⟨h1,h⟩|⟨h1,h⟩:=ah h
 ·exact ay 6 h1 (aa (ac 0 (wz hK h)))
 ·exact ay 6 h1 (aa (ac 0 (wz hK h)))
end
noncomputable section
variable(M:Nat→Prop)(w0:aw)(r:List aC)(v1:aC)(v2:List aC)(v3 v4 v5 v6:Bool)(v7:aC)  
abbrev dA(n:Nat):aj:=.c (cat Try.f68 (pn n))
abbrev Bu:Cx:=⟨Try.prog,72,M,w0⟩
abbrev Ee:=bodyPost Try.prog Try.f68 (bn M w0 (fun v s=>v=.ref 9∧c8 s.o []∧look 9 s.r=some ⟨99,5,lm am r⟩))
abbrev jY(ks:List aj)(s:AS):=VE (Bu M w0) (Ee M w0 r) ks .normal s
def yu:AS:=⟨[(0,.ref 9),(3,.ptr 3 0)],[(3,am v7)],[(9,⟨99,5,lm am v2⟩)],[3,9]⟩
def yY:AS:=⟨[(0,.ref 9),(3,.ptr 3 0),(64,.bool v6)],[(3,am v1)],[(9,⟨99,5,lm am v2⟩)],[3,9]⟩
def Bw:AS:=⟨[(0,.ref 9),(3,.ptr 3 0),(5,.bool (v1.Box.Style.WhiteSpace == 2)),(32,.bool v5)],[(3,am v1)],[(9,⟨99,5,lm am v2⟩)],[3,9]⟩
def Dd:AS:=⟨[(0,.ref 9),(3,.ptr 3 0),(5,.bool (v1.Box.Style.WhiteSpace == 2)),(24,.bool v4)],[(3,am v1)],[(9,⟨99,5,lm am v2⟩)],[3,9]⟩
def EI:AS:=⟨[(0,.ref 9),(3,.ptr 3 0),(5,.bool (v1.Box.Style.WhiteSpace == 2)),(19,.bool v3)],[(3,am v1)],[(9,⟨99,5,lm am v2⟩)],[3,9]⟩
variable{M w0 r v1 v2 v3 v4 v5 v6 v7}{K:Kn}{n:Nat}
theorem oV(hK:ai K)(h:jB K n v2 v7=some r):jY M w0 r [.b 1,dA 31] (yu v2 v7):=by
 unfold jB at h;refine eZ 6 7 4 (ag 3 ?_);obtain⟨h16,h⟩:=aN h;refine ap (b9 71 9 99 5 am (rfl) (cp) h16) (aa (aI 1 ?_));cases h;exact er
theorem rt(hK:ai K)(h:kF K n v1 v2 v6=some r):jY M w0 r [dA 15609,dA 7805,.b 1,dA 31] (yY v1 v2 v6):=by
 unfold kF at h;obtain⟨h15,h⟩|⟨h15,h⟩:=ah h
 ·refine ab 64 h15 (aI 7 ?_);cases h;exact er
 ·exact ab 64 h15 (ac 3 (oV hK h))
theorem xM(hK:ai K)(h:ne K n v1 v2 v5=some r):jY M w0 r [dA 487,.b 1,dA 31] (Bw v1 v2 v5):=by
 unfold ne at h;obtain⟨h9,h⟩|⟨h9,h⟩:=ah h
 ·refine ab 32 h9 (aI 6 ?_);cases h;exact er
 ·refine ab 32 h9 (aS 7 3 ?_);obtain⟨h10,h⟩|⟨h10,h⟩:=ah h
  ·refine ab 40 h10 (bH 8 9 5 3 (ag 1 (ap (br am v2) (aU 4 2 ?_))));obtain⟨h11,h⟩|⟨h11,h⟩:=ah h
   ·exact ay 46 h11 (aa (ac 0 (rt hK h)))
   ·refine ay 46 h11 (aU 6 2 (ap (br am v2) (aU 8 1 ?_)));obtain⟨h12,h⟩:=aN h;refine ap (cV 9 5 am h12) (aU 10 1 (ap (cj 4 3 am am (cU h12).2 (fun _=>rfl)) (aU 13 2 ?_)));obtain⟨h13,h⟩|⟨h13,h⟩:=ah h
    ·exact ay 55 h13 (aa (ac 0 (rt hK h)))
    ·refine ay 55 h13 (aU 15 2 (ap (br am v2) (aU 17 1 ?_)));obtain⟨h14,h⟩:=aN h;exact ap (cV 9 5 am h14) (aU 19 1 (ap (cj 3 0 am am (cU h14).2 (fun _=>rfl)) (aa (ac 0 (rt hK h)))))
  ·exact ab 40 h10 (ac 2 (oV hK h))
theorem vH(hK:ai K)(h:me K n v1 v2 v4=some r):jY M w0 r [dA 121,.b 1,dA 31] (Dd v1 v2 v4):=by
 unfold me at h;obtain⟨h7,h⟩|⟨h7,h⟩:=ah h
 ·exact ab 24 h7 (ac 2 (oV hK h))
 ·refine ab 24 h7 (ao 6 7 2 (ag 2 ?_));obtain⟨h8,h⟩|⟨h8,h⟩:=ah h
  ·exact ay 34 h8 (aa (ac 0 (xM hK h)))
  ·exact ay 34 h8 (aa (ac 0 (xM hK h)))
theorem lS(hK:ai K)(h:gV K n v1 v2 v3=some r):jY M w0 r [dA 117,.b 0,dA 15] (EI v1 v2 v3):=by
 unfold gV at h;obtain⟨h4,h⟩|⟨h4,h⟩:=ah h
 ·refine ab 19 h4 (bV (ks':=[dA 120,dA 121,.b 1,dA 31]) 6 (ag 2 ?_));obtain⟨h6,h⟩|⟨h6,h⟩:=ah h
  ·exact ay 26 h6 (aa (ac 0 (vH hK h)))
  ·exact ay 26 h6 (aa (ac 0 (vH hK h)))
 ·refine ab 19 h4 (ao 6 7 2 (ag 3 ?_));obtain⟨h5,h⟩:=aN h;refine ap (b9 18 9 99 5 am (rfl) (cp) h5) (aa (aI 3 ?_));cases h;exact er
theorem zB(hK:ai K)(h:rJ K n v1 v2=some r):fp Try.prog 68 [.ref 9,.agg (am v1)] [] 9 ⟨99,5,lm am v2⟩ [9] (fun v s=>v=.ref 9∧c8 s.o []∧look 9 s.r=some ⟨99,5,lm am r⟩):=by
 refine kt (c:=cat Try.f68 (pn 1)) Try.func68 (by kernel_rfl) _ Try.ntmps68 (of_decide_eq_true (by kernel_rfl)) fun M w0=>(aY ⟨[(0,.ref 9),(1,.agg (am v1))],[],[(9,⟨99,5,lm am v2⟩)],[9]⟩ ?_);unfold rJ at h;refine cM 233 117 0 15 11 ?_;obtain⟨h1,h⟩|⟨h1,h⟩:=ah h
 ·exact ab 19 h1 (ac 2 (lS hK h))
 ·refine ab 19 h1 (aS 7 3 ?_);obtain⟨h2,h⟩|⟨h2,h⟩:=ah h
  ·exact ab 19 h2 (ac 2 (lS hK h))
  ·refine ab 19 h2 (aS 7 3 ?_);obtain⟨h3,h⟩|⟨h3,h⟩:=ah h
   ·exact ab 19 h3 (ac 2 (lS hK h))
   ·exact ab 19 h3 (ac 2 (lS hK h))
end
noncomputable section
variable(M:Nat→Prop)(w0:aw)(r:Int×(List aC))(v1:List aq)(v2:Int)(v3:List aC)(v10:Nat)(v23 v24:Int)(v25:List aC)(v32 v36:Nat)(v37:List aC)(v41:Int)(v42:List aC)(v43:Int)(v44:List aC)(m1 m2:Nat)(L1:Int→Int→(List aC)→Option (Int×(List aC)))(L2:Nat→(List aC)→Option (Int×(List aC)))
abbrev jc:Cx:=⟨Try.prog,69,M,w0⟩
abbrev ky:=bodyPost Try.prog Try.f66 (bn M w0 (fun v s=>v=.tup []∧c8 s.o [(1,[iI r.1]),(2,[.fno 66 [.ptr 1 0,.ptr 2 0,.ptr 3 0]]),(3,[.ref 9])]∧look 9 s.r=some ⟨99,5,lm am r.2⟩))
abbrev na(ks:List aj)(s:AS):=VE (jc M w0) (ky M w0 r) ks .normal s
abbrev dr(n:Nat):aj:=.c (cat Try.f66 (pn n))
abbrev sD:List aj:=[.b 0]
abbrev fk:List aj:=kl (jc M w0) (ky M w0 r) sD (cat Try.f66 (pn 12)) m1::sD
abbrev qR:List aj:=.b 3 :: .b 2 :: .b 1::dr 103::fk M w0 r m1
abbrev tm:List aj:=kl (jc M w0) (ky M w0 r) (qR M w0 r m1) (cat Try.f66 (pn 26867700)) m2::(qR M w0 r m1)
def yW:AS:=⟨[(0,.sl (lm aO v1)),(1,.ptr 1 0),(2,.ptr 2 0),(3,.ptr 3 0),(10,iI (v1.length:Int)),(11,iI v23)],[(1,[iI v43]),(2,[.fno 66 [.ptr 1 0,.ptr 2 0,.ptr 3 0]]),(3,[.ref 9])],[(9,⟨99,5,lm am v44⟩)],[1,2,3,9,1000001,1,1000002,2,1000003,3]⟩
def BH:AS:=⟨[(0,.sl (lm aO v1)),(1,.ptr 1 0),(2,.ptr 2 0),(3,.ptr 3 0),(10,iI (v1.length:Int)),(11,iI v23)],[(1,[iI v41]),(2,[.fno 66 [.ptr 1 0,.ptr 2 0,.ptr 3 0]]),(3,[.ref 9])],[(9,⟨99,5,lm am v42⟩)],[1,2,3,9,1000001,1,1000002,2,1000003,3]⟩
def wO:AS:=⟨[(0,.sl (lm aO v1)),(1,.ptr 1 0),(2,.ptr 2 0),(3,.ptr 3 0),(6,.cptr (aW (gD v1 v23))),(10,iI (v1.length:Int)),(11,iI v23),(58,.sit 320058 v32 ((gD v1 v23).Text) v36)],[(1,[iI (af (v24+1))]),(2,[.fno 66 [.ptr 1 0,.ptr 2 0,.ptr 3 0]]),(3,[.ref 9])],[(9,⟨99,5,lm am v37⟩)],[1,2,3,9,320058,1000001,1,1000002,2,1000003,3]⟩
def vt:AS:=⟨[(0,.sl (lm aO v1)),(1,.ptr 1 0),(2,.ptr 2 0),(3,.ptr 3 0),(10,iI (v1.length:Int)),(11,iI v23)],[(1,[iI v24]),(2,[.fno 66 [.ptr 1 0,.ptr 2 0,.ptr 3 0]]),(3,[.ref 9])],[(9,⟨99,5,lm am v25⟩)],[1,2,3,9,1000001,1,1000002,2,1000003,3]⟩
abbrev ir:Prop:=∀{v23:Int} {v24:Int} {v25:(List aC)},L1 v23 v24 v25=some r→LP (jc M w0) (ky M w0 r) sD (cat Try.f66 (pn 12)) m1 (vt v1 v23 v24 v25)
abbrev t0:Prop:=∀{v36:Nat} {v37:(List aC)},L2 v36 v37=some r→LP (jc M w0) (ky M w0 r) (qR M w0 r m1) (cat Try.f66 (pn 26867700)) m2 (wO v1 v23 v24 v32 v36 v37)
variable{M w0 r v1 v2 v3 v10 v23 v24 v25 v32 v36 v37 v41 v42 v43 v44 m1 m2 L1 L2}{K:Kn}{n:Nat}
theorem ue(hK:ai K)(hL1:ir M w0 r v1 m1 L1)(h:nT K n v1 v23 L1 v43 v44=some r):na M w0 r (dr 103::fk M w0 r m1) (yW v1 v23 v43 v44):=by
 unfold nT at h;exact ac 1 (bp (hL1 h))
theorem jn(hK:ai K)(hL1:ir M w0 r v1 m1 L1)(h:fI K n v1 v23 L1 v41 v42=some r):na M w0 r (.b 2 :: .b 1::dr 103::fk M w0 r m1) (BH v1 v23 v41 v42):=by
 unfold fI at h;exact ac 2 (ue hK hL1 h)
theorem A3(hK:ai K)(hv32:w0.w.heap.size≤v32)(hL1:ir M w0 r v1 m1 L1)(hL2:t0 M w0 r v1 v23 v24 v32 m1 m2 L2)(h:lG K n v1 v23 v24 L1 L2 v36 v37=some r):na M w0 r (dr 26867700::tm M w0 r m1 m2) (wO v1 v23 v24 v32 v36 v37):=by
 unfold lG at h;refine ao 2 3 1 (ag 0 ?_);obtain⟨h43,h⟩|⟨h43,h⟩:=ah h
 ·refine oC 58 (id:=320058) (g:=v32) h43 hv32 (aa ?_);obtain⟨v38,h44,h⟩:=bP h;obtain⟨v39,h45,h⟩:=bP h;refine bv (ks':=dr 429883213 :: .b 4::tm M w0 r m1 m2) 6 ⟨[(0,.sl (lm aO v1)),(1,.ptr 1 0),(2,.ptr 2 0),(3,.ptr 3 0),(6,.cptr (aW (gD v1 v23))),(8,.int .i32 v38),(10,iI (v1.length:Int)),(11,iI v23),(58,.sit 320058 v32 ((gD v1 v23).Text) v39)],[(1,[iI (af (v24+1))]),(2,[.fno 66 [.ptr 1 0,.ptr 2 0,.ptr 3 0]]),(3,[.ref 9])],[(9,⟨99,5,lm am v37⟩)],[1,2,3,9,320058,1000001,1,1000002,2,1000003,3]⟩ ?_ (by subst h45;subst h44;kernel_rfl);refine ag 5 ?_;obtain⟨v40,h46,h⟩:=bind_some h;exact eU 9 9 [] (zB hK h46) (aa (ac 1 (bp (hL2 h))))
 ·exact oL 58 (id:=320058) (g:=v32) h43 (aa (ac 6 (jn hK hL1 h)))
theorem DV(hK:ai K)(hv32:w0.w.heap.size≤v32)(hL1:ir M w0 r v1 m1 L1)(m:Nat):t0 M w0 r v1 v23 v24 v32 m1 m (mF K n v1 v23 v24 L1 m):=by
 induction m with
 | zero=>intro v36 v37 h;cases h
 | succ m ih=>intro v36 v37 h;have h:lG K n v1 v23 v24 L1 (mF K n v1 v23 v24 L1 m) v36 v37=some r:=h;exact bo (A3 hK hv32 hL1 ih h)
theorem zS(hK:ai K)(hL1:ir M w0 r v1 m1 L1)(h:nA K n v1 L1 v23 v24 v25=some r):na M w0 r (dr 12::fk M w0 r m1) (vt v1 v23 v24 v25):=by
 unfold nA at h;refine ao 6 7 3 ?_;obtain⟨h24,h⟩|⟨h24,h⟩:=ah h
 ·refine ab 12 h24 (cu 18 19 1 3 7 (ag 2 ?_));obtain⟨h25,h⟩:=aN h;refine ap (bw aO aW h25 (dS) (dC)) (aa (bH 4 5 3 2 (ag 3 ?_)));obtain⟨v26,h26,h⟩:=bind_some h;refine aL (vY hK h26) (aa ?_);obtain⟨h27,h⟩|⟨h27,h⟩:=ah h
  ·exact ab 21 h27 (ac 4 (ue hK hL1 h))
  ·refine ab 21 h27 ?_;obtain⟨v27,h28,h⟩:=bP h;refine bv (ks':=dr 26237 :: .b 2 :: .b 1::dr 103::fk M w0 r m1) 9 ⟨[(0,.sl (lm aO v1)),(1,.ptr 1 0),(2,.ptr 2 0),(3,.ptr 3 0),(6,.cptr (aW (gD v1 v23))),(10,iI (v1.length:Int)),(11,iI v23),(27,iI ((gD v1 v23).Kind)),(28,.bool v27)],[(1,[iI (af (v24+1))]),(2,[.fno 66 [.ptr 1 0,.ptr 2 0,.ptr 3 0]]),(3,[.ref 9])],[(9,⟨99,5,lm am v25⟩)],[1,2,3,9,1000001,1,1000002,2,1000003,3]⟩ ?_ (by subst h28;kernel_rfl);obtain⟨h29,h⟩|⟨h29,h⟩:=ah h
   ·refine ab 28 h29 (aS 2 1 (bB [0,1,2,3,6,10,11] [1,2,3] [9] (Ax 5 0 [(30,.fno 66 [.ptr 1 0,.ptr 2 0,.ptr 3 0]),(31,.cptr (aW (gD v1 v23))),(32,.cptr (aW (gD v1 v23))),(33,.cptr (List.drop 58 (aW (gD v1 v23)))),(34,.sl (lm aO ((gD v1 v23).Kids)))] [] [] [] (aB (vz 5) (yJ)) ?_)));obtain⟨v28,h30,h⟩:=bind_some h;exact eU 9 9 [(1,1),(2,2),(3,3)] (hK.mK h30) (aa (ac 0 (jn hK hL1 h)))
   ·refine ab 28 h29 ?_;obtain⟨v29,h31,h⟩:=bP h;refine bv (ks':=dr 104951 :: .b 2 :: .b 1::dr 103::fk M w0 r m1) 3 ⟨[(0,.sl (lm aO v1)),(1,.ptr 1 0),(2,.ptr 2 0),(3,.ptr 3 0),(6,.cptr (aW (gD v1 v23))),(10,iI (v1.length:Int)),(11,iI v23),(27,iI ((gD v1 v23).Kind)),(36,.bool v29)],[(1,[iI (af (v24+1))]),(2,[.fno 66 [.ptr 1 0,.ptr 2 0,.ptr 3 0]]),(3,[.ref 9])],[(9,⟨99,5,lm am v25⟩)],[1,2,3,9,1000001,1,1000002,2,1000003,3]⟩ ?_ (by subst h31;kernel_rfl);obtain⟨h32,h⟩|⟨h32,h⟩:=ah h
    ·refine ab 36 h32 (aS 2 1 (ag 5 ?_));obtain⟨h33,h⟩:=aN h;exact ap (b9 43 9 99 5 am (rfl) (cp) h33) (aa (ac 0 (jn hK hL1 h)))
    ·refine ab 36 h32 ?_;obtain⟨v30,h34,h⟩:=bP h;refine bv (ks':=dr 419807 :: .b 2 :: .b 1::dr 103::fk M w0 r m1) 3 ⟨[(0,.sl (lm aO v1)),(1,.ptr 1 0),(2,.ptr 2 0),(3,.ptr 3 0),(6,.cptr (aW (gD v1 v23))),(10,iI (v1.length:Int)),(11,iI v23),(27,iI ((gD v1 v23).Kind)),(44,.bool v30)],[(1,[iI (af (v24+1))]),(2,[.fno 66 [.ptr 1 0,.ptr 2 0,.ptr 3 0]]),(3,[.ref 9])],[(9,⟨99,5,lm am v25⟩)],[1,2,3,9,1000001,1,1000002,2,1000003,3]⟩ ?_ (by subst h34;kernel_rfl);obtain⟨h35,h⟩|⟨h35,h⟩:=ah h
     ·refine ab 44 h35 (aS 2 1 (ag 5 ?_));obtain⟨h36,h⟩:=aN h;exact ap (b9 51 9 99 5 am (rfl) (cp) h36) (aa (ac 0 (jn hK hL1 h)))
     ·refine ab 44 h35 ?_;obtain⟨v31,h37,h⟩:=bP h;refine bv (ks':=dr 1679231 :: .b 2 :: .b 1::dr 103::fk M w0 r m1) 3 ⟨[(0,.sl (lm aO v1)),(1,.ptr 1 0),(2,.ptr 2 0),(3,.ptr 3 0),(6,.cptr (aW (gD v1 v23))),(10,iI (v1.length:Int)),(11,iI v23),(52,.bool v31)],[(1,[iI (af (v24+1))]),(2,[.fno 66 [.ptr 1 0,.ptr 2 0,.ptr 3 0]]),(3,[.ref 9])],[(9,⟨99,5,lm am v25⟩)],[1,2,3,9,1000001,1,1000002,2,1000003,3]⟩ ?_ (by subst h37;kernel_rfl);obtain⟨h38,h⟩|⟨h38,h⟩:=ah h
      ·exact ab 52 h38 (ao 4 5 2 (ag 4 (qo 320058 (b:=((gD v1 v23).Text)) fun v32 hv32=>(aa (ac 1 (bW (p:=pn 13433850) n (DV hK (v32:=v32) hv32 hL1 n h)))))))
      ·exact ab 52 h38 (ac 2 (jn hK hL1 h))
 ·refine ab 12 h24 (bV (ks':=[]) 5 (Bs ?_));cases h;exact pd
theorem EN(hK:ai K)(m:Nat):ir M w0 r v1 m (mS K n v1 m):=by
 induction m with
 | zero=>intro v23 v24 v25 h;cases h
 | succ m ih=>intro v23 v24 v25 h;have h:nA K n v1 (mS K n v1 m) v23 v24 v25=some r:=h;exact bo (zS hK ih h)
theorem tX(hK:ai K)(h:mc K n v1 v2 v3=some r):fp Try.prog 66 [.sl (lm aO v1),.ptr 1 0,.ptr 2 0,.ptr 3 0] [(1,[iI v2]),(2,[.fno 66 [.ptr 1 0,.ptr 2 0,.ptr 3 0]]),(3,[.ref 9])] 9 ⟨99,5,lm am v3⟩ [9,1,2,3,1000001,1000002,1000003] (fun v s=>v=.tup []∧c8 s.o [(1,[iI r.1]),(2,[.fno 66 [.ptr 1 0,.ptr 2 0,.ptr 3 0]]),(3,[.ref 9])]∧look 9 s.r=some ⟨99,5,lm am r.2⟩):=by
 refine kt (c:=cat Try.f66 (pn 1)) Try.func66 (by kernel_rfl) _ Try.ntmps66 (of_decide_eq_true (by kernel_rfl)) fun M w0=>(aY ⟨[(0,.sl (lm aO v1)),(1,.ptr 1 0),(2,.ptr 2 0),(3,.ptr 3 0)],[(1,[iI v2]),(2,[.fno 66 [.ptr 1 0,.ptr 2 0,.ptr 3 0]]),(3,[.ref 9])],[(9,⟨99,5,lm am v3⟩)],[9,1,2,3,1000001,1000002,1000003]⟩ ?_);unfold mc at h;exact ao 2 3 1 (ag 1 (ap (br aO v1) (aa (ac 1 (bW (p:=pn 6) n (EN hK n h))))))
end
noncomputable section
variable(M:Nat→Prop)(w0:aw)(r:List aC)(v1:List aq)  
variable{M w0 r v1}{K:Kn}{n:Nat}
theorem zJ(hK:ai K)(h:q0 K n v1=some r):aJ Try.prog 55 [.sl (lm aO v1)] (fun v s=>v=.ref 400003∧look 400003 s.r=some ⟨99,5,lm am r⟩):=by
 refine bd (cat Try.f55 (pn 1)) Try.func55 Try.ntmps55 fun M w0=>(aY ⟨[(0,.sl (lm aO v1))],[],[],[]⟩ ?_);unfold q0 at h;refine ao 62 63 9 (ag 0 (Fl 66 #[(.tmp 4),(.tmp 5),(.tmp 3)] [.ptr 4 0,.ptr 5 0,.ptr 3 0] (aa (ao 2 3 1 (ag 2 (zA 400003 3 0 99 5 ?_))))));obtain⟨v2,h1,h⟩:=bind_some h;refine eU 400003 9 [(4,1),(5,2),(3,3)] (tX hK h1) (aa (aI 3 ?_));cases h;exact dB
end
noncomputable section
variable(M:Nat→Prop)(w0:aw)(r:Bool)(v1:aC)(v2:Bool)  
abbrev EX(n:Nat):aj:=.c (cat Try.f69 (pn n))
abbrev Be:Cx:=⟨Try.prog,24,M,w0⟩
abbrev Fo:=bodyPost Try.prog Try.f69 (bn M w0 (fun v _=>v=.bool r))
abbrev De(ks:List aj)(s:AS):=VE (Be M w0) (Fo M w0 r) ks .normal s
def EW:AS:=⟨[(2,.bool v2)],[],[],[]⟩
variable{M w0 r v1 v2}{K:Kn}{n:Nat}
theorem o5(hK:ai K)(h:kq K n v2=some r):De M w0 r [EX 7] (EW v2):=by
 unfold kq at h;refine aI 1 ?_;cases h;exact ba
theorem jp(hK:ai K)(h:gu K n v1=some r):aJ Try.prog 69 [.agg (am v1)] (fun v _=>v=.bool r):=by
 refine bd (cat Try.f69 (pn 1)) Try.func69 Try.ntmps69 fun M w0=>(aY ⟨[(0,.agg (am v1))],[],[],[]⟩ ?_);unfold gu at h;refine ao 6 7 3 (ag 4 ?_);obtain⟨h1,h⟩|⟨h1,h⟩:=ah h
 ·refine ay 6 h1 (aU 13 9 ?_);obtain⟨h2,h⟩|⟨h2,h⟩:=ah h
  ·exact ay 15 h2 (aa (ac 0 (o5 hK h)))
  ·exact ay 15 h2 (aa (ac 0 (o5 hK h)))
 ·exact ay 6 h1 (aa (ac 0 (o5 hK h)))
end
noncomputable section
variable(M:Nat→Prop)(w0:aw)(r v1:Int)(v2 v3 v4 v5 v6:Bool)  
abbrev cY(n:Nat):aj:=.c (cat Try.f85 (pn n))
abbrev BF:Cx:=⟨Try.prog,73,M,w0⟩
abbrev zg:=bodyPost Try.prog Try.f85 (bn M w0 (fun v _=>v=iI r))
abbrev kA(ks:List aj)(s:AS):=VE (BF M w0) (zg M w0 r) ks .normal s
def zb:AS:=⟨[(72,.bool v6)],[],[],[]⟩
def BD:AS:=⟨[(0,.int .i32 v1),(60,.bool v5)],[],[],[]⟩
def y0:AS:=⟨[(0,.int .i32 v1),(29,.int .i32 v1),(44,.bool v4)],[],[],[]⟩
def D6:AS:=⟨[(0,.int .i32 v1),(29,.int .i32 v1),(30,.bool v3)],[],[],[]⟩
def AB:AS:=⟨[(0,.int .i32 v1),(3,.bool v2)],[],[],[]⟩
variable{M w0 r v1 v2 v3 v4 v5 v6}{K:Kn}{n:Nat}
theorem xF(hK:ai K)(h:mi K n v6=some r):kA M w0 r [cY 61,cY 31] (zb v6):=by
 unfold mi at h;obtain⟨h44,h⟩|⟨h44,h⟩:=ah h
 ·refine ab 72 h44 (aI 5 ?_);cases h;exact ba
 ·refine ab 72 h44 (aI 5 ?_);cases h;exact ba
theorem iE(hK:ai K)(h:ff K n v1 v5=some r):kA M w0 r [cY 1887,.b 1,cY 15] (BD v1 v5):=by
 unfold ff at h;obtain⟨h42,h⟩|⟨h42,h⟩:=ah h
 ·refine ab 60 h42 (aI 6 ?_);cases h;exact ba
 ·refine ab 60 h42 (bV (ks':=[cY 60,cY 61,cY 31]) 5 (ag 3 ?_));obtain⟨h43,h⟩|⟨h43,h⟩:=ah h
  ·exact ay 69 h43 (aa (ac 0 (xF hK h)))
  ·exact ay 69 h43 (aa (ac 0 (xF hK h)))
theorem dd(hK:ai K)(h:cQ K n v1 v4=some r):kA M w0 r [cY 471,.b 1,cY 15] (y0 v1 v4):=by
 unfold cQ at h;obtain⟨h36,h⟩|⟨h36,h⟩:=ah h
 ·refine ab 44 h36 (aI 6 ?_);cases h;exact ba
 ·refine ab 44 h36 (ao 13 7 4 ?_);obtain⟨h37,h⟩|⟨h37,h⟩:=ah h
  ·exact ab 60 h37 (ac 2 (iE hK h))
  ·refine ab 60 h37 (aS 7 3 ?_);obtain⟨h38,h⟩|⟨h38,h⟩:=ah h
   ·exact ab 60 h38 (ac 2 (iE hK h))
   ·refine ab 60 h38 (aS 7 3 ?_);obtain⟨h39,h⟩|⟨h39,h⟩:=ah h
    ·exact ab 60 h39 (ac 2 (iE hK h))
    ·refine ab 60 h39 (aS 7 3 ?_);obtain⟨h40,h⟩|⟨h40,h⟩:=ah h
     ·exact ab 60 h40 (ac 2 (iE hK h))
     ·refine ab 60 h40 (aS 7 3 ?_);obtain⟨h41,h⟩|⟨h41,h⟩:=ah h
      ·exact ab 60 h41 (ac 2 (iE hK h))
      ·exact ab 60 h41 (ac 2 (iE hK h))
theorem dx(hK:ai K)(h:df K n v1 v3=some r):kA M w0 r [cY 117,.b 1,cY 15] (D6 v1 v3):=by
 unfold df at h;obtain⟨h21,h⟩|⟨h21,h⟩:=ah h
 ·refine ab 30 h21 (aI 6 ?_);cases h;exact ba
 ·refine ab 30 h21 (ao 13 7 4 ?_);obtain⟨h22,h⟩|⟨h22,h⟩:=ah h
  ·exact ab 44 h22 (ac 2 (dd hK h))
  ·refine ab 44 h22 (aS 7 3 ?_);obtain⟨h23,h⟩|⟨h23,h⟩:=ah h
   ·exact ab 44 h23 (ac 2 (dd hK h))
   ·refine ab 44 h23 (aS 7 3 ?_);obtain⟨h24,h⟩|⟨h24,h⟩:=ah h
    ·exact ab 44 h24 (ac 2 (dd hK h))
    ·refine ab 44 h24 (aS 7 3 ?_);obtain⟨h25,h⟩|⟨h25,h⟩:=ah h
     ·exact ab 44 h25 (ac 2 (dd hK h))
     ·refine ab 44 h25 (aS 7 3 ?_);obtain⟨h26,h⟩|⟨h26,h⟩:=ah h
      ·exact ab 44 h26 (ac 2 (dd hK h))
      ·refine ab 44 h26 (aS 7 3 ?_);obtain⟨h27,h⟩|⟨h27,h⟩:=ah h
       ·exact ab 44 h27 (ac 2 (dd hK h))
       ·refine ab 44 h27 (aS 7 3 ?_);obtain⟨h28,h⟩|⟨h28,h⟩:=ah h
        ·exact ab 44 h28 (ac 2 (dd hK h))
        ·refine ab 44 h28 (aS 7 3 ?_);obtain⟨h29,h⟩|⟨h29,h⟩:=ah h
         ·exact ab 44 h29 (ac 2 (dd hK h))
         ·refine ab 44 h29 (aS 7 3 ?_);obtain⟨h30,h⟩|⟨h30,h⟩:=ah h
          ·exact ab 44 h30 (ac 2 (dd hK h))
          ·refine ab 44 h30 (aS 7 3 ?_);obtain⟨h31,h⟩|⟨h31,h⟩:=ah h
           ·exact ab 44 h31 (ac 2 (dd hK h))
           ·refine ab 44 h31 (aS 7 3 ?_);obtain⟨h32,h⟩|⟨h32,h⟩:=ah h
            ·exact ab 44 h32 (ac 2 (dd hK h))
            ·refine ab 44 h32 (aS 7 3 ?_);obtain⟨h33,h⟩|⟨h33,h⟩:=ah h
             ·exact ab 44 h33 (ac 2 (dd hK h))
             ·refine ab 44 h33 (aS 7 3 ?_);obtain⟨h34,h⟩|⟨h34,h⟩:=ah h
              ·exact ab 44 h34 (ac 2 (dd hK h))
              ·refine ab 44 h34 (aS 7 3 ?_);obtain⟨h35,h⟩|⟨h35,h⟩:=ah h
               ·exact ab 44 h35 (ac 2 (dd hK h))
               ·exact ab 44 h35 (ac 2 (dd hK h))
theorem ga(hK:ai K)(h:eC K n v1 v2=some r):kA M w0 r [cY 25,.b 0,cY 7] (AB v1 v2):=by
 unfold eC at h;obtain⟨h7,h⟩|⟨h7,h⟩:=ah h
 ·refine ab 3 h7 (aI 6 ?_);cases h;exact ba
 ·refine ab 3 h7 (aS 7 3 ?_);obtain⟨h8,h⟩|⟨h8,h⟩:=ah h
  ·refine ab 26 h8 (aI 6 ?_);cases h;exact ba
  ·refine ab 26 h8 (bV (ks':=[cY 233,cY 117,.b 1,cY 15]) 10 ?_);obtain⟨h9,h⟩|⟨h9,h⟩:=ah h
   ·exact ab 30 h9 (ac 2 (dx hK h))
   ·refine ab 30 h9 (aS 7 3 ?_);obtain⟨h10,h⟩|⟨h10,h⟩:=ah h
    ·exact ab 30 h10 (ac 2 (dx hK h))
    ·refine ab 30 h10 (aS 7 3 ?_);obtain⟨h11,h⟩|⟨h11,h⟩:=ah h
     ·exact ab 30 h11 (ac 2 (dx hK h))
     ·refine ab 30 h11 (aS 7 3 ?_);obtain⟨h12,h⟩|⟨h12,h⟩:=ah h
      ·exact ab 30 h12 (ac 2 (dx hK h))
      ·refine ab 30 h12 (aS 7 3 ?_);obtain⟨h13,h⟩|⟨h13,h⟩:=ah h
       ·exact ab 30 h13 (ac 2 (dx hK h))
       ·refine ab 30 h13 (aS 7 3 ?_);obtain⟨h14,h⟩|⟨h14,h⟩:=ah h
        ·exact ab 30 h14 (ac 2 (dx hK h))
        ·refine ab 30 h14 (aS 7 3 ?_);obtain⟨h15,h⟩|⟨h15,h⟩:=ah h
         ·exact ab 30 h15 (ac 2 (dx hK h))
         ·refine ab 30 h15 (aS 7 3 ?_);obtain⟨h16,h⟩|⟨h16,h⟩:=ah h
          ·exact ab 30 h16 (ac 2 (dx hK h))
          ·refine ab 30 h16 (aS 7 3 ?_);obtain⟨h17,h⟩|⟨h17,h⟩:=ah h
           ·exact ab 30 h17 (ac 2 (dx hK h))
           ·refine ab 30 h17 (aS 7 3 ?_);obtain⟨h18,h⟩|⟨h18,h⟩:=ah h
            ·exact ab 30 h18 (ac 2 (dx hK h))
            ·refine ab 30 h18 (aS 7 3 ?_);obtain⟨h19,h⟩|⟨h19,h⟩:=ah h
             ·exact ab 30 h19 (ac 2 (dx hK h))
             ·refine ab 30 h19 (aS 7 3 ?_);obtain⟨h20,h⟩|⟨h20,h⟩:=ah h
              ·exact ab 30 h20 (ac 2 (dx hK h))
              ·exact ab 30 h20 (ac 2 (dx hK h))
theorem tC(hK:ai K)(h:mJ K n v1=some r):aJ Try.prog 85 [.int .i32 v1] (fun v _=>v=iI r):=by
 refine bd (cat Try.f85 (pn 1)) Try.func85 Try.ntmps85 fun M w0=>(aY ⟨[(0,.int .i32 v1)],[],[],[]⟩ ?_);unfold mJ at h;refine cM 24 25 0 7 5 (ag 3 ?_);obtain⟨h1,h⟩|⟨h1,h⟩:=ah h
 ·exact ay 6 h1 (aa (ac 0 (ga hK h)))
 ·refine ay 6 h1 (aU 7 4 ?_);obtain⟨h2,h⟩|⟨h2,h⟩:=ah h
  ·exact ay 10 h2 (aa (ac 0 (ga hK h)))
  ·refine ay 10 h2 (aU 10 3 ?_);obtain⟨h3,h⟩|⟨h3,h⟩:=ah h
   ·refine ay 13 h3 (aU 15 5 ?_);obtain⟨h4,h⟩|⟨h4,h⟩:=ah h
    ·exact ay 18 h4 (aa (ac 0 (ga hK h)))
    ·refine ay 18 h4 (aU 18 3 ?_);obtain⟨h5,h⟩|⟨h5,h⟩:=ah h
     ·exact ay 21 h5 (aa (ac 0 (ga hK h)))
     ·exact ay 21 h5 (aa (ac 0 (ga hK h)))
   ·refine ay 13 h3 (aU 18 8 ?_);obtain⟨h6,h⟩|⟨h6,h⟩:=ah h
    ·exact ay 21 h6 (aa (ac 0 (ga hK h)))
    ·exact ay 21 h6 (aa (ac 0 (ga hK h)))
end
noncomputable section
variable(M:Nat→Prop)(w0:aw)(r:Bool)(v1:Int)(v2:Bool)  
abbrev wQ(n:Nat):aj:=.c (cat Try.f87 (pn n))
abbrev zL:Cx:=⟨Try.prog,9,M,w0⟩
abbrev AK:=bodyPost Try.prog Try.f87 (bn M w0 (fun v _=>v=.bool r))
abbrev AA(ks:List aj)(s:AS):=VE (zL M w0) (AK M w0 r) ks .normal s
def Cb:AS:=⟨[(4,.bool v2)],[],[],[]⟩
variable{M w0 r v1 v2}{K:Kn}{n:Nat}
theorem lx(hK:ai K)(h:iP K n v2=some r):AA M w0 r [wQ 53,.b 0,wQ 7] (Cb v2):=by
 unfold iP at h;obtain⟨h4,h⟩|⟨h4,h⟩:=ah h
 ·refine ab 4 h4 (aI 6 ?_);cases h;exact ba
 ·refine ab 4 h4 (aI 6 ?_);cases h;exact ba
theorem sU(hK:ai K)(h:le K n v1=some r):aJ Try.prog 87 [.int .i32 v1] (fun v _=>v=.bool r):=by
 refine bd (cat Try.f87 (pn 1)) Try.func87 Try.ntmps87 fun M w0=>(aY ⟨[(0,.int .i32 v1)],[],[],[]⟩ ?_);unfold le at h;refine cM 105 53 0 7 9 ?_;obtain⟨h1,h⟩|⟨h1,h⟩:=ah h
 ·exact ab 4 h1 (ac 2 (lx hK h))
 ·refine ab 4 h1 (aS 7 3 ?_);obtain⟨h2,h⟩|⟨h2,h⟩:=ah h
  ·exact ab 4 h2 (ac 2 (lx hK h))
  ·refine ab 4 h2 (aS 7 3 ?_);obtain⟨h3,h⟩|⟨h3,h⟩:=ah h
   ·exact ab 4 h3 (ac 2 (lx hK h))
   ·exact ab 4 h3 (ac 2 (lx hK h))
end
noncomputable section
variable(M:Nat→Prop)(w0:aw)(r:Bool)(v1 v2:Int)(v5 v7 v8:Bool)  
abbrev gh(n:Nat):aj:=.c (cat Try.f82 (pn n))
abbrev Ff:Cx:=⟨Try.prog,29,M,w0⟩
abbrev za:=bodyPost Try.prog Try.f82 (bn M w0 (fun v _=>v=.bool r))
abbrev oG(ks:List aj)(s:AS):=VE (Ff M w0) (za M w0 r) ks .normal s
def y9:AS:=⟨[(4,.bool v8)],[],[],[]⟩
def EQ:AS:=⟨[(0,.int .i32 v1),(1,.int .i32 v2),(16,.bool v7)],[],[],[]⟩
def zU:AS:=⟨[(0,.int .i32 v1),(1,.int .i32 v2),(5,.bool v5)],[],[],[]⟩
variable{M w0 r v1 v2 v5 v7 v8}{K:Kn}{n:Nat}
theorem vS(hK:ai K)(h:oh K n v8=some r):oG M w0 r [gh 15] (y9 v8):=by
 unfold oh at h;refine aI 1 ?_;cases h;exact ba
theorem uV(hK:ai K)(h:kV K n v1 v2 v7=some r):oG M w0 r [gh 415,.b 0,gh 7] (EQ v1 v2 v7):=by
 unfold kV at h;obtain⟨h8,h⟩|⟨h8,h⟩:=ah h
 ·refine ab 16 h8 (aI 6 ?_);cases h;exact ba
 ·refine ab 16 h8 (bV (ks':=[gh 14,gh 15]) 4 (ag 3 ?_));obtain⟨h9,h⟩|⟨h9,h⟩:=ah h
  ·exact ay 25 h9 (aa (ac 0 (vS hK h)))
  ·exact ay 25 h9 (aa (ac 0 (vS hK h)))
theorem xY(hK:ai K)(h:n7 K n v1 v2 v5=some r):oG M w0 r [gh 25,.b 0,gh 7] (zU v1 v2 v5):=by
 unfold n7 at h;obtain⟨h4,h⟩|⟨h4,h⟩:=ah h
 ·refine ab 5 h4 (aI 6 ?_);cases h;exact ba
 ·refine ab 5 h4 (ao 6 7 2 (ag 1 ?_));obtain⟨v6,h5,h⟩:=bind_some h;refine aL (sU hK h5) (aa ?_);obtain⟨h6,h⟩|⟨h6,h⟩:=ah h
  ·refine ab 13 h6 (aI 6 ?_);cases h;exact ba
  ·refine ab 13 h6 (ao 6 7 2 (ag 3 ?_));obtain⟨h7,h⟩|⟨h7,h⟩:=ah h
   ·exact ay 19 h7 (aa (ac 0 (uV hK h)))
   ·exact ay 19 h7 (aa (ac 0 (uV hK h)))
theorem y3(hK:ai K)(h:oS K n v1 v2=some r):aJ Try.prog 82 [.int .i32 v1,.int .i32 v2] (fun v _=>v=.bool r):=by
 refine bd (cat Try.f82 (pn 1)) Try.func82 Try.ntmps82 fun M w0=>(aY ⟨[(0,.int .i32 v1),(1,.int .i32 v2)],[],[],[]⟩ ?_);unfold oS at h;refine cM 24 25 0 7 5 (ag 1 ?_);obtain⟨v3,h1,h⟩:=bind_some h;refine aL (sU hK h1) (aU 3 1 ?_);obtain⟨h2,h⟩|⟨h2,h⟩:=ah h
 ·exact ay 8 h2 (aa (ac 0 (xY hK h)))
 ·refine ay 8 h2 (aU 4 1 ?_);obtain⟨v4,h3,h⟩:=bind_some h;exact aL (tC hK h3) (aa (ac 0 (xY hK h)))
end
noncomputable section
variable(M:Nat→Prop)(w0:aw)(r:List Int)(v1:ByteArray)(v2:Nat)(v9:Int)(v10:Nat)(v11:List Int)(v13:Bool)(v14:List Int)(m1:Nat)(L1:Int→Nat→(List Int)→Option (List Int))
abbrev rA:Cx:=⟨Try.prog,26,M,w0⟩
abbrev rN:=bodyPost Try.prog Try.f70 (bn M w0 (fun v s=>v=.ref 23∧look 23 s.r=some ⟨3,1,lm (aX .i64) r⟩))
abbrev rG(ks:List aj)(s:AS):=VE (rA M w0) (rN M w0 r) ks .normal s
abbrev fa(n:Nat):aj:=.c (cat Try.f70 (pn n))
abbrev qE:List aj:=[.b 0,fa 31]
abbrev nE:List aj:=kl (rA M w0) (rN M w0 r) qE (cat Try.f70 (pn 244)) m1::qE
def D0:AS:=⟨[(3,.ref 23),(6,.int .i32 ((Utf8.decode v1 v10).1:Int)),(8,.sit 320008 v2 v1 (v10+(Utf8.decode v1 v10).2))],[],[(23,⟨3,1,lm (aX .i64) v14⟩)],[23,320008]⟩
def ET:AS:=⟨[(3,.ref 23),(5,iI ((v10:Nat):Int)),(6,.int .i32 ((Utf8.decode v1 v10).1:Int)),(8,.sit 320008 v2 v1 (v10+(Utf8.decode v1 v10).2)),(19,.bool v13)],[],[(23,⟨3,1,lm (aX .i64) v11⟩)],[23,320008]⟩
def xT:AS:=⟨[(3,.ref 23),(4,.int .i32 v9),(8,.sit 320008 v2 v1 v10)],[],[(23,⟨3,1,lm (aX .i64) v11⟩)],[23,320008]⟩
abbrev nR:Prop:=∀{v9:Int} {v10:Nat} {v11:(List Int)},L1 v9 v10 v11=some r→LP (rA M w0) (rN M w0 r) qE (cat Try.f70 (pn 244)) m1 (xT v1 v2 v9 v10 v11)
variable{M w0 r v1 v2 v9 v10 v11 v13 v14 m1 L1}{K:Kn}{n:Nat}
theorem uU(hK:ai K)(hv2:w0.w.heap.size≤v2)(hL1:nR M w0 r v1 v2 m1 L1)(h:kU K n v1 v10 L1 v14=some r):rG M w0 r (fa 7835 :: .b 1::nE M w0 r m1) (D0 v1 v2 v10 v14):=by
 unfold kU at h;exact ac 2 (bp (hL1 h))
theorem xV(hK:ai K)(hv2:w0.w.heap.size≤v2)(hL1:nR M w0 r v1 v2 m1 L1)(h:lL K n v1 v10 v11 L1 v13=some r):rG M w0 r (fa 15669::fa 7835 :: .b 1::nE M w0 r m1) (ET v1 v2 v10 v11 v13):=by
 unfold lL at h;obtain⟨h14,h⟩|⟨h14,h⟩:=ah h
 ·refine ab 19 h14 (aS 2 1 (ag 3 ?_));obtain⟨h15,h⟩:=aN h;exact ap (b9 23 23 3 1 (aX .i64) (rfl) (fun _=>rfl) h15) (aa (ac 0 (uU hK (v2:=v2) hv2 hL1 h)))
 ·exact ab 19 h14 (ac 2 (uU hK (v2:=v2) hv2 hL1 h))
theorem Cz(hK:ai K)(hv2:w0.w.heap.size≤v2)(hL1:nR M w0 r v1 v2 m1 L1)(h:ox K n v1 L1 v9 v10 v11=some r):rG M w0 r (fa 244::nE M w0 r m1) (xT v1 v2 v9 v10 v11):=by
 unfold ox at h;refine ao 2 3 1 (ag 0 ?_);obtain⟨h11,h⟩|⟨h11,h⟩:=ah h
 ·refine oC 8 (id:=320008) (g:=v2) h11 hv2 (aa (bV (ks':=fa 15668::fa 15669::fa 7835 :: .b 1::nE M w0 r m1) 8 (ag 3 ?_)));obtain⟨h12,h⟩|⟨h12,h⟩:=ah h
  ·refine ay 15 h12 (aU 5 2 ?_);obtain⟨v12,h13,h⟩:=bind_some h;exact aL (y3 hK h13) (aa (ac 0 (xV hK (v2:=v2) hv2 hL1 h)))
  ·exact ay 15 h12 (aa (ac 0 (xV hK (v2:=v2) hv2 hL1 h)))
 ·refine oL 8 (id:=320008) (g:=v2) h11 (aa (aI 9 ?_));cases h;exact dB
theorem zx(hK:ai K)(hv2:w0.w.heap.size≤v2)(m:Nat):nR M w0 r v1 v2 m (nq K n v1 m):=by
 induction m with
 | zero=>intro v9 v10 v11 h;cases h
 | succ m ih=>intro v9 v10 v11 h;have h:ox K n v1 (nq K n v1 m) v9 v10 v11=some r:=h;exact bo (Cz hK hv2 ih h)
theorem yV(hK:ai K)(h:ro K n v1=some r):aJ Try.prog 70 [.str v1] (fun v s=>v=.ref 23∧look 23 s.r=some ⟨3,1,lm (aX .i64) r⟩):=by
 refine bd (cat Try.f70 (pn 1)) Try.func70 Try.ntmps70 fun M w0=>(aY ⟨[(0,.str v1)],[],[],[]⟩ ?_);unfold ro at h;exact bH 60 61 31 8 (ag 1 (qo 320008 (b:=v1) fun v2 hv2=>(aa (ec 2 0 1 (bB [3,4,8] [] [] (d9 23 3 3 1 (ac 0 (bW (p:=pn 122) n (zx hK (v2:=v2) hv2 n h)))))))))
end
noncomputable section
variable(M:Nat→Prop)(w0:aw)(r:Bool)(v1 v2:aC)(v3 v7 v10:Bool)  
abbrev gG(n:Nat):aj:=.c (cat Try.f56 (pn n))
abbrev Cf:Cx:=⟨Try.prog,61,M,w0⟩
abbrev z7:=bodyPost Try.prog Try.f56 (bn M w0 (fun v _=>v=.bool r))
abbrev pu(ks:List aj)(s:AS):=VE (Cf M w0) (z7 M w0 r) ks .normal s
def D9:AS:=⟨[(4,.bool v7)],[],[],[]⟩
def CO:AS:=⟨[(2,.ptr 2 0),(3,.ptr 3 0),(51,.bool v10)],[(2,am v1),(3,am v2)],[],[2,3]⟩
def A0:AS:=⟨[(2,.ptr 2 0),(3,.ptr 3 0),(12,.bool v3)],[(2,am v1),(3,am v2)],[],[2,3]⟩
variable{M w0 r v1 v2 v3 v7 v10}{K:Kn}{n:Nat}
theorem jH(hK:ai K)(h:gv K n v7=some r):pu M w0 r [gG 53,gG 7] (D9 v7):=by
 unfold gv at h;refine aI 2 ?_;cases h;exact ba
theorem jX(hK:ai K)(h:fX K n v1 v2 v10=some r):pu M w0 r [gG 29,gG 15] (CO v1 v2 v10):=by
 unfold fX at h;obtain⟨h16,h⟩|⟨h16,h⟩:=ah h
 ·refine ab 51 h16 (aI 5 ?_);cases h;exact ba
 ·refine ab 51 h16 (eZ 2 3 3 (ag 6 ?_));obtain⟨v11,h17,h⟩:=bind_some h;refine d3 1058 (yV hK h17) (ep 23) (ap (br (aX .i64) v11) (aa (aI 1 ?_)));cases h;exact ba
theorem vi(hK:ai K)(h:ly K n v1 v2 v3=some r):pu M w0 r [gG 13,gG 7] (A0 v1 v2 v3):=by
 unfold ly at h;obtain⟨h2,h⟩|⟨h2,h⟩:=ah h
 ·refine ab 12 h2 (ao 4 5 2 (ag 4 ?_));obtain⟨h3,h⟩|⟨h3,h⟩:=ah h
  ·refine ay 16 h3 (aU 12 8 ?_);obtain⟨h4,h⟩|⟨h4,h⟩:=ah h
   ·exact ay 24 h4 (aa (ac 0 (jH hK h)))
   ·refine ay 24 h4 (aU 13 1 ?_);obtain⟨v4,h5,h⟩:=bind_some h;exact aL (jp hK h5) (aa (ac 0 (jH hK h)))
  ·refine ay 16 h3 (aU 5 1 ?_);obtain⟨v5,h6,h⟩:=bind_some h;refine aL (jp hK h6) (aU 8 2 ?_);obtain⟨h7,h⟩|⟨h7,h⟩:=ah h
   ·refine ay 20 h7 (aU 12 4 ?_);obtain⟨h8,h⟩|⟨h8,h⟩:=ah h
    ·exact ay 24 h8 (aa (ac 0 (jH hK h)))
    ·refine ay 24 h8 (aU 13 1 ?_);obtain⟨v6,h9,h⟩:=bind_some h;exact aL (jp hK h9) (aa (ac 0 (jH hK h)))
   ·exact ay 20 h7 (aa (ac 0 (jH hK h)))
 ·refine ab 12 h2 (gF 4 5 3 4 (ag 4 ?_));obtain⟨h10,h⟩|⟨h10,h⟩:=ah h
  ·exact ay 32 h10 (aa (ac 0 (jX hK h)))
  ·refine ay 32 h10 (aU 9 5 ?_);obtain⟨h11,h⟩|⟨h11,h⟩:=ah h
   ·exact ay 37 h11 (aa (ac 0 (jX hK h)))
   ·refine ay 37 h11 (aU 10 1 ?_);obtain⟨v8,h12,h⟩:=bind_some h;refine aL (jp hK h12) (aU 14 3 ?_);obtain⟨h13,h⟩|⟨h13,h⟩:=ah h
    ·exact ay 42 h13 (aa (ac 0 (jX hK h)))
    ·refine ay 42 h13 (aU 18 4 ?_);obtain⟨h14,h⟩|⟨h14,h⟩:=ah h
     ·refine ay 46 h14 (aU 19 1 ?_);obtain⟨v9,h15,h⟩:=bind_some h;exact aL (jp hK h15) (aa (ac 0 (jX hK h)))
     ·exact ay 46 h14 (aa (ac 0 (jX hK h)))
theorem tN(hK:ai K)(h:my K n v1 v2=some r):aJ Try.prog 56 [.agg (am v1),.agg (am v2)] (fun v _=>v=.bool r):=by
 refine bd (cat Try.f56 (pn 1)) Try.func56 Try.ntmps56 fun M w0=>(aY ⟨[(0,.agg (am v1)),(1,.agg (am v2))],[],[],[]⟩ ?_);unfold my at h;refine bH 12 13 7 4 (ag 4 ?_);obtain⟨h1,h⟩|⟨h1,h⟩:=ah h
 ·exact ay 8 h1 (aa (ac 0 (vi hK h)))
 ·exact ay 8 h1 (aa (ac 0 (vi hK h)))
end
noncomputable section
variable(M:Nat→Prop)(w0:aw)(r:List Int)(v1:Int)(v2:List Int)(v3 v4:Bool)  
abbrev wd(n:Nat):aj:=.c (cat Try.f89 (pn n))
abbrev DF:Cx:=⟨Try.prog,78,M,w0⟩
abbrev Bz:=bodyPost Try.prog Try.f89 (bn M w0 (fun v s=>v=.ref 9∧c8 s.o []∧look 9 s.r=some ⟨5,1,lm (aX .u8) r⟩))
abbrev tH(ks:List aj)(s:AS):=VE (DF M w0) (Bz M w0 r) ks .normal s
def Ak:AS:=⟨[(0,.ref 9),(1,.int .i32 v1),(50,.bool v4)],[],[(9,⟨5,1,lm (aX .u8) v2⟩)],[9]⟩
def yD:AS:=⟨[(0,.ref 9),(1,.int .i32 v1),(5,.int .u32 (IntKind.wrap .u32 v1)),(25,.bool v3)],[],[(9,⟨5,1,lm (aX .u8) v2⟩)],[9]⟩
variable{M w0 r v1 v2 v3 v4}{K:Kn}{n:Nat}
theorem xf(hK:ai K)(h:lK K n v1 v2 v4=some r):tH M w0 r [wd 479,.b 0] (Ak v1 v2 v4):=by
 unfold lK at h;obtain⟨h8,h⟩|⟨h8,h⟩:=ah h
 ·refine ab 50 h8 (ao 4 5 2 (ag 20 ?_));obtain⟨h9,h⟩:=aN h;refine ap (b9 77 9 5 1 (aX .u8) (rfl) (fun _=>rfl) h9) (aa (aI 2 ?_));cases h;exact er
 ·refine ab 50 h8 (ao 6 7 2 (ag 2 ?_));obtain⟨h10,h⟩:=aN h;refine ap (b9 10 9 5 1 (aX .u8) (rfl) (fun _=>rfl) h10) (aa (aI 2 ?_));cases h;exact er
theorem sr(hK:ai K)(h:jR K n v1 v2 v3=some r):tH M w0 r [wd 119,.b 0] (yD v1 v2 v3):=by
 unfold jR at h;obtain⟨h5,h⟩|⟨h5,h⟩:=ah h
 ·refine ab 25 h5 (ao 4 5 2 (ag 15 ?_));obtain⟨h6,h⟩:=aN h;refine ap (b9 49 9 5 1 (aX .u8) (rfl) (fun _=>rfl) h6) (aa (aI 2 ?_));cases h;exact er
 ·refine ab 25 h5 (ao 6 7 2 (ag 3 ?_));obtain⟨h7,h⟩|⟨h7,h⟩:=ah h
  ·exact ay 53 h7 (aa (ac 0 (xf hK h)))
  ·exact ay 53 h7 (aa (ac 0 (xf hK h)))
theorem B2(hK:ai K)(h:oF K n v1 v2=some r):fp Try.prog 89 [.ref 9,.int .i32 v1] [] 9 ⟨5,1,lm (aX .u8) v2⟩ [9] (fun v s=>v=.ref 9∧c8 s.o []∧look 9 s.r=some ⟨5,1,lm (aX .u8) r⟩):=by
 refine kt (c:=cat Try.f89 (pn 1)) Try.func89 (by kernel_rfl) _ Try.ntmps89 (of_decide_eq_true (by kernel_rfl)) fun M w0=>(aY ⟨[(0,.ref 9),(1,.int .i32 v1)],[],[(9,⟨5,1,lm (aX .u8) v2⟩)],[9]⟩ ?_);unfold oF at h;refine ec 29 0 7 ?_;obtain⟨h1,h⟩|⟨h1,h⟩:=ah h
 ·refine ab 11 h1 (ao 4 5 2 (ag 10 ?_));obtain⟨h2,h⟩:=aN h;refine ap (b9 24 9 5 1 (aX .u8) (rfl) (fun _=>rfl) h2) (aa (aI 2 ?_));cases h;exact er
 ·refine ab 11 h1 (ao 13 7 4 ?_);obtain⟨h3,h⟩|⟨h3,h⟩:=ah h
  ·exact ab 25 h3 (ac 2 (sr hK h))
  ·refine ab 25 h3 (aS 3 1 (ag 3 ?_));obtain⟨h4,h⟩|⟨h4,h⟩:=ah h
   ·exact ay 30 h4 (aa (ac 0 (sr hK h)))
   ·exact ay 30 h4 (aa (ac 0 (sr hK h)))
end
noncomputable section
variable(M:Nat→Prop)(w0:aw)(r:List Int)(v1:Int)(v2:List Int)  
variable{M w0 r v1 v2}{K:Kn}{n:Nat}
theorem vc(hK:ai K)(h:oi K n v1 v2=some r):fp Try.prog 84 [.ref 9,.int .i32 v1] [] 9 ⟨5,1,lm (aX .u8) v2⟩ [9] (fun v s=>v=.ref 9∧c8 s.o []∧look 9 s.r=some ⟨5,1,lm (aX .u8) r⟩):=by
 refine kt (c:=cat Try.f84 (pn 1)) Try.func84 (by kernel_rfl) _ Try.ntmps84 (of_decide_eq_true (by kernel_rfl)) fun M w0=>(aY ⟨[(0,.ref 9),(1,.int .i32 v1)],[],[(9,⟨5,1,lm (aX .u8) v2⟩)],[9]⟩ ?_);unfold oi at h;refine ao 13 7 5 ?_;obtain⟨h1,h⟩|⟨h1,h⟩:=ah h
 ·refine ab 7 h1 (ao 4 5 2 (ag 4 ?_));obtain⟨h2,h⟩:=aN h;refine ap (b9 12 9 5 1 (aX .u8) (rfl) (fun _=>rfl) h2) (aa (aI 2 ?_));cases h;exact er
 ·refine ab 7 h1 (eZ 2 3 3 (ag 2 ?_));obtain⟨v3,h3,h⟩:=bind_some h;refine eU 9 9 [] (B2 hK h3) (aa (aI 1 ?_));cases h;exact er
end
noncomputable section
variable(M:Nat→Prop)(w0:aw)(r:Int×Unit×(List Int))(v1:Int)(v2:Bool)(v3:List Int)  
variable{M w0 r v1 v2 v3}{K:Kn}{n:Nat}
theorem uZ(hK:ai K)(h:kX K n v1 v2 v3=some r):fp Try.prog 71 [.ptr 450114 0,.int .i32 v1] [(450114,[(jk v2 450114),.ref 9])] 9 ⟨5,1,lm (aX .u8) v3⟩ [9,450114,1450114] (fun v s=>v=.tup [iI r.1,.vv .nilIface]∧c8 s.o [(450114,[.ptr 450114 0,.ref 9])]∧look 9 s.r=some ⟨5,1,lm (aX .u8) r.2.2⟩):=by
 refine kt (c:=cat Try.f71 (pn 1)) Try.func71 (by kernel_rfl) _ Try.ntmps71 (of_decide_eq_true (by kernel_rfl)) fun M w0=>(aY ⟨[(0,.ptr 450114 0),(1,.int .i32 v1)],[(450114,[(jk v2 450114),.ref 9])],[(9,⟨5,1,lm (aX .u8) v3⟩)],[9,450114,1450114]⟩ ?_);unfold kX at h;refine ao 6 7 3 (ag 1 ?_);rcases ah h with⟨h1,gh1⟩|⟨h1,gh1⟩
 ·subst h1;have h:=gh1;refine ui 450114 (b:=true) (c1:=.ref 9) (aa (ao 2 3 1 (ag 4 (ap (br (aX .u8) v3) (aa (ao 2 3 1 (ag 6 ?_)))))));obtain⟨v4,h2,h⟩:=bind_some h;refine eU 9 9 [] (vc hK h2) (aa (ao 2 3 1 (ag 4 (ap (br (aX .u8) v4) (aa (aI 1 ?_))))));cases h;exact pd
 ·subst h1;have h:=gh1;refine ui 450114 (b:=false) (c1:=.ref 9) (aa (ao 2 3 1 (ag 4 (ap (br (aX .u8) v3) (aa (ao 2 3 1 (ag 6 ?_)))))));obtain⟨v5,h3,h⟩:=bind_some h;refine eU 9 9 [] (vc hK h3) (aa (ao 2 3 1 (ag 4 (ap (br (aX .u8) v5) (aa (aI 1 ?_))))));cases h;exact pd
end
noncomputable section
variable(M:Nat→Prop)(w0:aw)(r:Int)(v1 v2:Int)  
variable{M w0 r v1 v2}{K:Kn}{n:Nat}
theorem pk(hK:ai K)(h:jI K n v1 v2=some r):aJ Try.prog 73 [.int .i32 v1,iI v2] (fun v _=>v=iI r):=by
 refine bd (cat Try.f73 (pn 1)) Try.func73 Try.ntmps73 fun M w0=>(aY ⟨[(0,.int .i32 v1),(1,iI v2)],[],[],[]⟩ ?_);unfold jI at h;refine ao 6 7 3 (ag 1 ?_);obtain⟨v3,h1,h⟩:=bind_some h;refine aL (tC hK h1) (aU 3 1 ?_);obtain⟨v4,h2,h⟩:=bind_some h;refine aL (mL hK h2) (aa (aI 1 ?_));cases h;exact ba
end
noncomputable section
variable(M:Nat→Prop)(w0:aw)(r:Int)(v1:ByteArray)(v2:Int)(v3:Nat)(v5:Int)(v6 m1:Nat)(L1:Int→Nat→Option Int)
abbrev o6:Cx:=⟨Try.prog,19,M,w0⟩
abbrev oO:=bodyPost Try.prog Try.f74 (bn M w0 (fun v _=>v=iI r))
abbrev EL(ks:List aj)(s:AS):=VE (o6 M w0) (oO M w0 r) ks .normal s
abbrev vA(n:Nat):aj:=.c (cat Try.f74 (pn n))
abbrev qV:List aj:=[.b 0,vA 15]
abbrev Fs:List aj:=kl (o6 M w0) (oO M w0 r) qV (cat Try.f74 (pn 116)) m1::qV
def uY:AS:=⟨[(1,iI v2),(5,iI v5),(9,.sit 320009 v3 v1 v6)],[],[],[320009]⟩
abbrev uf:Prop:=∀{v5:Int} {v6:Nat},L1 v5 v6=some r→LP (o6 M w0) (oO M w0 r) qV (cat Try.f74 (pn 116)) m1 (uY v1 v2 v3 v5 v6)
variable{M w0 r v1 v2 v3 v5 v6 m1 L1}{K:Kn}{n:Nat}
theorem AF(hK:ai K)(hv3:w0.w.heap.size≤v3)(hL1:uf M w0 r v1 v2 v3 m1 L1)(h:nF K n v1 v2 L1 v5 v6=some r):EL M w0 r (vA 116::Fs M w0 r m1) (uY v1 v2 v3 v5 v6):=by
 unfold nF at h;refine ao 2 3 1 (ag 0 ?_);obtain⟨h3,h⟩|⟨h3,h⟩:=ah h
 ·refine oC 9 (id:=320009) (g:=v3) h3 hv3 (aa (ec 13 1 6 (ag 3 ?_)));obtain⟨v7,h4,h⟩:=bind_some h;exact aL (pk hK h4) (aa (ac 1 (bp (hL1 h))))
 ·refine oL 9 (id:=320009) (g:=v3) h3 (aa (aI 9 ?_));cases h;exact ba
theorem BJ(hK:ai K)(hv3:w0.w.heap.size≤v3)(m:Nat):uf M w0 r v1 v2 v3 m (ou K n v1 v2 m):=by
 induction m with
 | zero=>intro v5 v6 h;cases h
 | succ m ih=>intro v5 v6 h;have h:nF K n v1 v2 (ou K n v1 v2 m) v5 v6=some r:=h;exact bo (AF hK hv3 ih h)
theorem uJ(hK:ai K)(h:lg K n v1 v2=some r):aJ Try.prog 74 [.str v1,iI v2] (fun v _=>v=iI r):=by
 refine bd (cat Try.f74 (pn 1)) Try.func74 Try.ntmps74 fun M w0=>(aY ⟨[(0,.str v1),(1,iI v2)],[],[],[]⟩ ?_);unfold lg at h;exact bH 28 29 15 6 (ag 1 (qo 320009 (b:=v1) fun v3 hv3=>(aa (ac 1 (bW (p:=pn 58) n (BJ hK (v3:=v3) hv3 n h))))))
end
noncomputable section
variable(M:Nat→Prop)(w0:aw)(r:av)(v1:List aC)(v4:Int)(v5:Bool)(v6:List Int)(v9:Bool)(v10:aK)(v14:ByteArray)(v15:Int)(v18:aK)(v22:ByteArray)(v23:Int)(m1:Nat)(L1:Int→Bool→(List Int)→Option av)
abbrev sH:Cx:=⟨Try.prog,59,M,w0⟩
abbrev pe:=bodyPost Try.prog Try.f57 (bn M w0 (fun v _=>v=.agg (ax r)))
abbrev lr(ks:List aj)(s:AS):=VE (sH M w0) (pe M w0 r) ks .normal s
abbrev cW(n:Nat):aj:=.c (cat Try.f57 (pn n))
abbrev oH:List aj:=[.b 0,cW 15]
abbrev B6:List aj:=kl (sH M w0) (pe M w0 r) oH (cat Try.f57 (pn 116)) m1::oH
def yA:AS:=⟨[(2,.ptr 2 0),(6,.ptr 6 0),(7,.ptr 7 0),(8,.str v14)],[(2,List.set (ax cf) 61 (.nils)),(6,aA v10),(7,List.set (ax ({ cf with Text:=(bytesOf v6),Space:=v15 }:av)) 61 (.nils))],[],[2,6,7]⟩
def E6:AS:=⟨[(2,.ptr 2 0),(6,.ptr 6 0),(7,.ptr 7 0),(8,.str v22)],[(2,List.set (ax cf) 61 (.nils)),(6,aA v18),(7,List.set (ax ({ cf with Text:=(bytesOf v6),Space:=v23 }:av)) 61 (.nils))],[],[2,6,7]⟩
def E4:AS:=⟨[(0,.sl (lm am v1)),(2,.ptr 2 0),(3,.ptr 451114 0)],[(2,List.set (ax cf) 61 (.nils)),(451114,[(jk v9 451114),.ref 401114])],[(401114,⟨5,1,lm (aX .u8) v6⟩)],[2,451114,401114]⟩
def u1:AS:=⟨[(0,.sl (lm am v1)),(2,.ptr 2 0),(3,.ptr 451114 0),(9,.sl (lm am v1)),(10,iI (v1.length:Int)),(11,iI v4)],[(2,List.set (ax cf) 61 (.nils)),(451114,[(jk v5 451114),.ref 401114])],[(401114,⟨5,1,lm (aX .u8) v6⟩)],[2,451114,401114]⟩
abbrev yc:Prop:=∀{v4:Int} {v5:Bool} {v6:(List Int)},L1 v4 v5 v6=some r→LP (sH M w0) (pe M w0 r) oH (cat Try.f57 (pn 116)) m1 (u1 v1 v4 v5 v6)
variable{M w0 r v1 v4 v5 v6 v9 v10 v14 v15 v18 v22 v23 m1 L1}{K:Kn}{n:Nat}
theorem vP(hK:ai K)(h:oB K n v6 v10 v14 v15=some r):lr M w0 r [cW 255] (yA v6 v10 v14 v15):=by
 unfold oB at h;refine ao 2 3 1 (ag 3 ?_);obtain⟨v16,h24,h⟩:=bind_some h;refine aL (uJ hK h24) (aa (ao 2 3 1 (ag 1 ?_)));obtain⟨v17,h25,h⟩:=bind_some h;refine aL (n8 hK h25) (aa (aI 3 (oW 2 ?_)));cases h;exact ba
theorem t9(hK:ai K)(h:m9 K n v6 v18 v22 v23=some r):lr M w0 r [cW 255] (E6 v6 v18 v22 v23):=by
 unfold m9 at h;refine ao 2 3 1 (ag 3 ?_);obtain⟨v24,h35,h⟩:=bind_some h;refine aL (uJ hK h35) (aa (ao 2 3 1 (ag 1 ?_)));obtain⟨v25,h36,h⟩:=bind_some h;refine aL (n8 hK h36) (aa (aI 3 (oW 2 ?_)));cases h;exact ba
theorem xA(hK:ai K)(h:mh K n v1 v6 v9=some r):lr M w0 r [cW 15] (E4 v1 v6 v9):=by
 unfold mh at h;rcases ah h with⟨h14,gh14⟩|⟨h14,gh14⟩
 ·subst h14;have h:=gh14;refine ao 2 3 1 (ag 1 ?_);obtain⟨h15,h⟩:=aN h;refine ap (bw am am h15 (cp) (fun _=>rfl)) (aa ?_);obtain⟨v10,h16,h⟩:=bP h;refine bv (ks':=[cW 62,cW 63]) 1 ⟨[(0,.sl (lm am v1)),(2,.ptr 2 0),(3,.ptr 451114 0),(6,.ptr 6 0)],[(2,List.set (ax cf) 61 (.nils)),(6,aA v10),(451114,[.ptr 451114 0,.ref 401114])],[(401114,⟨5,1,lm (aX .u8) v6⟩)],[2,6,451114,401114]⟩ ?_ (by subst h16;kernel_rfl);refine ag 0 ?_;obtain⟨h17,h⟩:=aN h;refine tn 451114 401114 (L:=v6) h17 (aa (bH 12 13 7 4 (ag 2 (ap (br am v1) (aU 4 1 ?_)))));obtain⟨h18,h⟩:=aN h;refine ap (bw am am h18 (cp) (fun _=>rfl)) (aa ?_);obtain⟨v11,h19,h⟩:=bP h;refine bv (ks':=[cW 509,cW 255]) 0 ⟨[(2,.ptr 2 0),(6,.ptr 6 0),(7,.ptr 7 0),(8,.str (bytesOf v6)),(36,.bool v11)],[(2,List.set (ax cf) 61 (.nils)),(6,aA v10),(7,List.set (ax ({ cf with Text:=(bytesOf v6) }:av)) 61 (.nils))],[],[2,6,7]⟩ ?_ (by subst h19;kernel_rfl)
  obtain⟨h20,h⟩|⟨h20,h⟩:=ah h
  ·refine ab 36 h20 (ao 4 5 2 (ag 4 ?_));obtain⟨h21,h⟩:=aN h;refine ap (mU h21) (aa ?_);obtain⟨v12,h22,h⟩:=bP h;refine bv (ks':=[cW 2037,cW 255]) 0 ⟨[(2,.ptr 2 0),(6,.ptr 6 0),(7,.ptr 7 0),(8,.str v12)],[(2,List.set (ax cf) 61 (.nils)),(6,aA v10),(7,List.set (ax ({ cf with Text:=(bytesOf v6) }:av)) 61 (.nils))],[],[2,6,7]⟩ ?_ (by subst h22;kernel_rfl);refine ag 2 ?_;obtain⟨v13,h23,h⟩:=bind_some h;exact aL (pk hK h23) (aa (ac 0 (vP hK h)))
  ·exact ab 36 h20 (ac 2 (vP hK h))
 ·subst h14;have h:=gh14;refine ao 2 3 1 (ag 1 ?_);obtain⟨h26,h⟩:=aN h;refine ap (bw am am h26 (cp) (fun _=>rfl)) (aa ?_);obtain⟨v18,h27,h⟩:=bP h;refine bv (ks':=[cW 62,cW 63]) 1 ⟨[(0,.sl (lm am v1)),(2,.ptr 2 0),(3,.ptr 451114 0),(6,.ptr 6 0)],[(2,List.set (ax cf) 61 (.nils)),(6,aA v18),(451114,[.nilp,.ref 401114])],[(401114,⟨5,1,lm (aX .u8) v6⟩)],[2,6,451114,401114]⟩ ?_ (by subst h27;kernel_rfl);refine ag 0 ?_;obtain⟨h28,h⟩:=aN h;refine tn 451114 401114 (L:=v6) h28 (aa (bH 12 13 7 4 (ag 2 (ap (br am v1) (aU 4 1 ?_)))));obtain⟨h29,h⟩:=aN h;refine ap (bw am am h29 (cp) (fun _=>rfl)) (aa ?_);obtain⟨v19,h30,h⟩:=bP h;refine bv (ks':=[cW 509,cW 255]) 0 ⟨[(2,.ptr 2 0),(6,.ptr 6 0),(7,.ptr 7 0),(8,.str (bytesOf v6)),(36,.bool v19)],[(2,List.set (ax cf) 61 (.nils)),(6,aA v18),(7,List.set (ax ({ cf with Text:=(bytesOf v6) }:av)) 61 (.nils))],[],[2,6,7]⟩ ?_ (by subst h30;kernel_rfl);obtain⟨h31,h⟩|⟨h31,h⟩:=ah h
  ·refine ab 36 h31 (ao 4 5 2 (ag 4 ?_));obtain⟨h32,h⟩:=aN h;refine ap (mU h32) (aa ?_);obtain⟨v20,h33,h⟩:=bP h;refine bv (ks':=[cW 2037,cW 255]) 0 ⟨[(2,.ptr 2 0),(6,.ptr 6 0),(7,.ptr 7 0),(8,.str v20)],[(2,List.set (ax cf) 61 (.nils)),(6,aA v18),(7,List.set (ax ({ cf with Text:=(bytesOf v6) }:av)) 61 (.nils))],[],[2,6,7]⟩ ?_ (by subst h33;kernel_rfl);refine ag 2 ?_;obtain⟨v21,h34,h⟩:=bind_some h;exact aL (pk hK h34) (aa (ac 0 (t9 hK h)))
  ·exact ab 36 h31 (ac 2 (t9 hK h))
theorem Bd(hK:ai K)(hL1:yc M w0 r v1 m1 L1)(h:lR K n v1 L1 v4 v5 v6=some r):lr M w0 r (cW 116::B6 M w0 r m1) (u1 v1 v4 v5 v6):=by
 unfold lR at h;rcases ah h with⟨h7,gh7⟩|⟨h7,gh7⟩
 ·subst h7;have h:=gh7;refine ao 6 7 3 ?_;obtain⟨h8,h⟩|⟨h8,h⟩:=ah h
  ·refine ab 12 h8 (cu 8 9 1 3 5 (ag 0 ?_));obtain⟨h9,h⟩:=aN h;refine ap (bw am am h9 (cp) (fun _=>rfl)) (aa (ag 2 ?_));obtain⟨v7,h10,h⟩:=bind_some h;exact eU 401114 9 [(451114,450114)] (uZ hK h10) (aa (ac 2 (bp (hL1 h))))
  ·exact ab 12 h8 (ac 5 (xA hK h))
 ·subst h7;have h:=gh7;refine ao 6 7 3 ?_;obtain⟨h11,h⟩|⟨h11,h⟩:=ah h
  ·refine ab 12 h11 (cu 8 9 1 3 5 (ag 0 ?_));obtain⟨h12,h⟩:=aN h;refine ap (bw am am h12 (cp) (fun _=>rfl)) (aa (ag 2 ?_));obtain⟨v8,h13,h⟩:=bind_some h;exact eU 401114 9 [(451114,450114)] (uZ hK h13) (aa (ac 2 (bp (hL1 h))))
  ·exact ab 12 h11 (ac 5 (xA hK h))
theorem Dy(hK:ai K)(m:Nat):yc M w0 r v1 m (oy K n v1 m):=by
 induction m with
 | zero=>intro v4 v5 v6 h;cases h
 | succ m ih=>intro v4 v5 v6 h;have h:lR K n v1 (oy K n v1 m) v4 v5 v6=some r:=h;exact bo (Bd hK ih h)
theorem DX(hK:ai K)(h:po K n v1=some r):aJ Try.prog 57 [.sl (lm am v1)] (fun v _=>v=.agg (ax r)):=by
 refine bd (cat Try.f57 (pn 1)) Try.func57 Try.ntmps57 fun M w0=>(aY ⟨[(0,.sl (lm am v1))],[],[],[]⟩ ?_);unfold po at h;exact ao 6 7 3 (ag 0 (zE 451114 (T:=114) (d:=3) (cs:=[.nilp,.nils]) (aa (bH 4 5 3 2 (ag 1 (ap (br am v1) (aa (ec 2 0 1 (bB [0,2,3,9,10,11] [2,451114] [] (wh 401114 451114 1 5 1 (ac 0 (bW (p:=pn 58) n (Dy hK n h)))))))))))))
end
noncomputable section
variable(M:Nat→Prop)(w0:aw)(r:List av)(v1:List aq)(v2:Fv)(v3:List aC)(v30:Int)(v31:List av)(v33:Bool)(v39:Int)(v41:Bool)(v43:Int)(v44:av)(m1 m2:Nat)(L1:Int→(List av)→Option (List av))(L2:Int→Option (List av))
abbrev jw:Cx:=⟨Try.prog,120,M,w0⟩
abbrev ke:=bodyPost Try.prog Try.f41 (bn M w0 (fun v s=>v=.ref 117∧look 117 s.r=some ⟨41,62,lm ax r⟩))
abbrev js(ks:List aj)(s:AS):=VE (jw M w0) (ke M w0 r) ks .normal s
abbrev cB(n:Nat):aj:=.c (cat Try.f41 (pn n))
abbrev oY:List aj:=[.b 0,cB 31]
abbrev ed:List aj:=kl (jw M w0) (ke M w0 r) oY (cat Try.f41 (pn 244)) m1::oY
abbrev oZ:List aj:=.b 3::cB 4009823 :: .b 2::cB 31327 :: .b 1::ed M w0 r m1
abbrev tG:List aj:=kl (jw M w0) (ke M w0 r) (oZ M w0 r m1) (cat Try.f41 (pn 16039288)) m2::(oZ M w0 r m1)
def Fn:AS:=⟨[(1,.fn v2.id v2.aG),(5,.sl (lm am v3)),(6,.ref 117),(8,.ptr 8 0),(9,.bool v33),(10,.ptr 10 0),(11,iI v43)],[(8,am (gD v3 v30)),(10,ax v44)],[(117,⟨41,62,lm ax v31⟩)],[8,10,117]⟩
def yt:AS:=⟨[(1,.fn v2.id v2.aG),(5,.sl (lm am v3)),(6,.ref 117),(7,iI v30),(8,.ptr 8 0),(9,.bool v33),(10,.ptr 10 0),(11,iI v39),(81,.bool v41)],[(8,am (gD v3 v30)),(10,List.set (ax cf) 61 (.nils))],[(117,⟨41,62,lm ax v31⟩)],[8,10,117]⟩
def wN:AS:=⟨[(1,.fn v2.id v2.aG),(5,.sl (lm am v3)),(6,.ref 117),(7,iI v30),(8,.ptr 8 0),(9,.bool v33),(10,.ptr 10 0),(11,iI v39)],[(8,am (gD v3 v30)),(10,List.set (ax cf) 61 (.nils))],[(117,⟨41,62,lm ax v31⟩)],[8,10,117]⟩
def As:AS:=⟨[(1,.fn v2.id v2.aG),(5,.sl (lm am v3)),(6,.ref 117),(7,iI v30),(8,.ptr 8 0),(9,.bool v33)],[(8,am (gD v3 v30))],[(117,⟨41,62,lm ax v31⟩)],[8,117]⟩
def wj:AS:=⟨[(1,.fn v2.id v2.aG),(5,.sl (lm am v3)),(6,.ref 117),(7,iI v30)],[],[(117,⟨41,62,lm ax v31⟩)],[117]⟩
abbrev gc:Prop:=∀{v30:Int} {v31:(List av)},L1 v30 v31=some r→LP (jw M w0) (ke M w0 r) oY (cat Try.f41 (pn 244)) m1 (wj v2 v3 v30 v31)
abbrev px:Prop:=∀{v39:Int},L2 v39=some r→LP (jw M w0) (ke M w0 r) (oZ M w0 r m1) (cat Try.f41 (pn 16039288)) m2 (wN v2 v3 v30 v31 v33 v39)
variable{M w0 r v1 v2 v3 v30 v31 v33 v39 v41 v43 v44 m1 m2 L1 L2}{K:Kn}{n:Nat}
theorem rj(hK:ai K)(hL1:gc M w0 r v2 v3 m1 L1)(h:j1 K n v2 v3 v30 v31 v33 L1 v43 v44=some r):js M w0 r (.b 2::cB 31327 :: .b 1::ed M w0 r m1) (Fn v2 v3 v30 v31 v33 v43 v44):=by
 unfold j1 at h;refine eZ 2 3 2 (bB [1,5,6,8,9,10,11] [8,10] [117] (bL 3 (nu 100 [.ptr 8 4,.cptr (aW ((gD v3 v30).Box)),.cptr (aW ((gD v3 v30).Box)),.cptr (List.drop 1 (aW ((gD v3 v30).Box))),iI (((gD v3 v30).Box).Node),.ptr 8 4,.cptr (aW ((gD v3 v30).Box)),.cptr (aW ((gD v3 v30).Box)),.cptr (List.drop 2 (aW ((gD v3 v30).Box))),.agg (aA (((gD v3 v30).Box).Style)),.bool v33,.ptr 10 0,.ptr 10 2,.ptr 10 59]) [] [] [bF Try.prog 120 Try.f41 (pn 62654) 12,bF Try.prog 120 Try.f41 (pn 62654) 14,bF Try.prog 120 Try.f41 (pn 62654) 16] (aB [.v 0 1,.v 0 1,.v 0 1,.v 0 1,.v 0 1,.v 0 2,.v 0 2,.v 0 2,.v 0 2,.v 0 2,.v 0 3,.v 0 1] (ak (bI 0) (aB [.v 1 1] (ak (bI 1) (aB [.v 2 1] (ak (bI 2) bO)))))) ?_));obtain⟨v45,h94,h⟩:=bP h;obtain⟨v46,h95,h⟩:=bP h;refine bv (ks':=cB 125310::cB 125311 :: .b 1::ed M w0 r m1) 1 ⟨[(1,.fn v2.id v2.aG),(5,.sl (lm am v3)),(6,.ref 117),(10,.ptr 10 0),(11,iI v43)],[(10,ax ({ v44 with Node:=v45,Style:=v46,Glued:=v33 }:av))],[(117,⟨41,62,lm ax v31⟩)],[10,117]⟩ ?_ (by subst h95;subst h94;kernel_rfl)
 refine ag 3 ?_;obtain⟨h96,h⟩:=aN h;exact ap (b9 117 117 41 62 ax (rfl) (dR) h96) (aa (ac 2 (bp (hL1 h))))
theorem nS(hK:ai K)(hL1:gc M w0 r v2 v3 m1 L1)(hL2:px M w0 r v2 v3 v30 v31 v33 m1 m2 L2)(h:gI K n v2 v3 v30 v31 v33 v39 L1 L2 v41=some r):js M w0 r (cB 64157153::cB 32078577::tG M w0 r m1 m2) (yt v2 v3 v30 v31 v33 v39 v41):=by
 unfold gI at h;obtain⟨h91,h⟩|⟨h91,h⟩:=ah h
 ·exact ab 81 h91 (ac 5 (bp (hL2 h)))
 ·refine ab 81 h91 (bV (ks':=cB 4009823 :: .b 2::cB 31327 :: .b 1::ed M w0 r m1) 5 (ag 3 ?_));obtain⟨h92,h⟩:=aN h;refine ap (oo am v3 v30 v39 95 (.tmp 84) (some (.tmp 85)) (some (.tmp 86)) 87 (e:=99) (sz:=5) (by kernel_rfl) (by kernel_rfl) (by kernel_rfl) (by kernel_rfl) (by kernel_rfl) (by kernel_rfl) (cp) (fun k hk=>by subst hk;kernel_rfl) h92) ?_;obtain⟨v42,h93,h⟩:=bind_some h;exact aL (DX hK h93) (aa (ac 0 (rj hK hL1 h)))
theorem Fr(hK:ai K)(hL1:gc M w0 r v2 v3 m1 L1)(hL2:px M w0 r v2 v3 v30 v31 v33 m1 m2 L2)(h:mg K n v2 v3 v30 v31 v33 L1 L2 v39=some r):js M w0 r (cB 16039288::tG M w0 r m1 m2) (wN v2 v3 v30 v31 v33 v39):=by
 unfold mg at h;refine bH 4 5 3 2 (bB [1,5,6,7,8,9,10,11] [8,10] [117] ?_);obtain⟨h83,h⟩|⟨h83,h⟩:=ah h
 ·obtain⟨h84,h⟩:=aN h;obtain⟨h85,h⟩|⟨h85,h⟩:=ah h
  ·obtain⟨h86,h⟩:=aN h;obtain⟨h87,h⟩|⟨h87,h⟩:=ah h
   ·obtain⟨h88,h⟩:=aN h;obtain⟨h89,h⟩:=aN h;obtain⟨v40,h90,h⟩:=bind_some h;exact bL 0 (nu 47 [iI v39,.sl (lm am v3),iI (v3.length:Int),.bool (decide (v39<(v3.length:Int))),.bool true,.sl (lm am v3),iI v39,.cptr (am (gD v3 v39)),.cptr (List.drop 0 (am (gD v3 v39))),iI ((gD v3 v39).Kind),.bool (((gD v3 v39).Kind) == 1),.bool (((gD v3 v39).Kind) == 1),.bool true,.sl (lm am v3),iI v39,.cptr (am (gD v3 v39)),.cptr (List.drop 1 (am (gD v3 v39))),iI ((gD v3 v39).Of),.ptr 8 1,iI ((gD v3 v30).Of),.bool (((gD v3 v39).Of) == ((gD v3 v30).Of)),.bool (((gD v3 v39).Of) == ((gD v3 v30).Of)),.bool true,.sl (lm am v3),iI v39,iI (af (v39-1)),.cptr (am (gD v3 ((af (v39-1))))),.agg (am (gD v3 ((af (v39-1))))),.sl (lm am v3),iI v39,.cptr (am (gD v3 v39)),.agg (am (gD v3 v39)),.bool v40,.bool (!v40),.bool (!v40)]) [] [] [] (aB (vz 2) (bK (br am v3) (aB [.v 0 1] (ak (dp 0 51 (e:=(decide (v39<(v3.length:Int)))) (b:=true) h83) (aB (vz 2) (bK (bw am am h84 (cp) (fun _=>rfl)) (aB (vz 4) (ak (dp 0 59 (e:=(((gD v3 v39).Kind) == 1)) (b:=true) h85) (aB (vz 2) (bK (bw am am h86 (cp) (fun _=>rfl)) (aB (vz 6) (ak (dp 0 69 (e:=(((gD v3 v39).Of) == ((gD v3 v30).Of))) (b:=true) h87) (aB (vz 3) (bK (bw am am h88 (cp) (fun _=>rfl)) (aB (vz 3) (bK (bw am am h89 (cp) (fun _=>rfl)) (aB [.v 0 1] (ak (bR 0 1 79 (tN hK h90)) (aB (vz 2) bO))))))))))))))))))) (ac 0 (nS hK hL1 hL2 h))
   ·exact bL 0 (nu 47 [iI v39,.sl (lm am v3),iI (v3.length:Int),.bool (decide (v39<(v3.length:Int))),.bool true,.sl (lm am v3),iI v39,.cptr (am (gD v3 v39)),.cptr (List.drop 0 (am (gD v3 v39))),iI ((gD v3 v39).Kind),.bool (((gD v3 v39).Kind) == 1),.bool (((gD v3 v39).Kind) == 1),.bool true,.sl (lm am v3),iI v39,.cptr (am (gD v3 v39)),.cptr (List.drop 1 (am (gD v3 v39))),iI ((gD v3 v39).Of),.ptr 8 1,iI ((gD v3 v30).Of),.bool (((gD v3 v39).Of) == ((gD v3 v30).Of)),.bool (((gD v3 v39).Of) == ((gD v3 v30).Of)),.bool false,.tup [],.tup [],.tup [],.tup [],.tup [],.tup [],.tup [],.tup [],.tup [],.tup [],.tup [],.bool false]) [] [] [] (aB (vz 2) (bK (br am v3) (aB [.v 0 1] (ak (dp 0 51 (e:=(decide (v39<(v3.length:Int)))) (b:=true) h83) (aB (vz 2) (bK (bw am am h84 (cp) (fun _=>rfl)) (aB (vz 4) (ak (dp 0 59 (e:=(((gD v3 v39).Kind) == 1)) (b:=true) h85) (aB (vz 2) (bK (bw am am h86 (cp) (fun _=>rfl)) (aB (vz 6) (ak (dp 0 69 (e:=(((gD v3 v39).Of) == ((gD v3 v30).Of))) (b:=false) h87) (ak (aR 0 1) (ak (aR 0 1) (ak (aR 0 1) (ak (aR 0 1) (ak (aR 0 1) (ak (aR 0 1) (ak (aR 0 1) (ak (aR 0 1) (ak (aR 0 1) (ak (aR 0 1) (ak (aR 0 1) (aB [.v 0 1] bO)))))))))))))))))))))))) (ac 0 (nS hK hL1 hL2 h))
  ·exact bL 0 (nu 47 [iI v39,.sl (lm am v3),iI (v3.length:Int),.bool (decide (v39<(v3.length:Int))),.bool true,.sl (lm am v3),iI v39,.cptr (am (gD v3 v39)),.cptr (List.drop 0 (am (gD v3 v39))),iI ((gD v3 v39).Kind),.bool (((gD v3 v39).Kind) == 1),.bool (((gD v3 v39).Kind) == 1),.bool false,.tup [],.tup [],.tup [],.tup [],.tup [],.tup [],.tup [],.tup [],.bool false,.bool false,.tup [],.tup [],.tup [],.tup [],.tup [],.tup [],.tup [],.tup [],.tup [],.tup [],.tup [],.bool false]) [] [] [] (aB (vz 2) (bK (br am v3) (aB [.v 0 1] (ak (dp 0 51 (e:=(decide (v39<(v3.length:Int)))) (b:=true) h83) (aB (vz 2) (bK (bw am am h84 (cp) (fun _=>rfl)) (aB (vz 4) (ak (dp 0 59 (e:=(((gD v3 v39).Kind) == 1)) (b:=false) h85) (ak (aR 0 1) (ak (aR 0 1) (ak (aR 0 1) (ak (aR 0 1) (ak (aR 0 1) (ak (aR 0 1) (ak (aR 0 1) (ak (aR 0 1) (aB (vz 2) (ak (aR 0 1) (ak (aR 0 1) (ak (aR 0 1) (ak (aR 0 1) (ak (aR 0 1) (ak (aR 0 1) (ak (aR 0 1) (ak (aR 0 1) (ak (aR 0 1) (ak (aR 0 1) (ak (aR 0 1) (aB [.v 0 1] bO))))))))))))))))))))))))))))) (ac 0 (nS hK hL1 hL2 h))
 ·exact bL 0 (nu 47 [iI v39,.sl (lm am v3),iI (v3.length:Int),.bool (decide (v39<(v3.length:Int))),.bool false,.tup [],.tup [],.tup [],.tup [],.tup [],.tup [],.bool false,.bool false,.tup [],.tup [],.tup [],.tup [],.tup [],.tup [],.tup [],.tup [],.bool false,.bool false,.tup [],.tup [],.tup [],.tup [],.tup [],.tup [],.tup [],.tup [],.tup [],.tup [],.tup [],.bool false]) [] [] [] (aB (vz 2) (bK (br am v3) (aB [.v 0 1] (ak (dp 0 51 (e:=(decide (v39<(v3.length:Int)))) (b:=false) h83) (ak (aR 0 1) (ak (aR 0 1) (ak (aR 0 1) (ak (aR 0 1) (ak (aR 0 1) (ak (aR 0 1) (aB (vz 2) (ak (aR 0 1) (ak (aR 0 1) (ak (aR 0 1) (ak (aR 0 1) (ak (aR 0 1) (ak (aR 0 1) (ak (aR 0 1) (ak (aR 0 1) (aB (vz 2) (ak (aR 0 1) (ak (aR 0 1) (ak (aR 0 1) (ak (aR 0 1) (ak (aR 0 1) (ak (aR 0 1) (ak (aR 0 1) (ak (aR 0 1) (ak (aR 0 1) (ak (aR 0 1) (ak (aR 0 1) (aB [.v 0 1] bO)))))))))))))))))))))))))))))))) (ac 0 (nS hK hL1 hL2 h))
theorem Eo(hK:ai K)(hL1:gc M w0 r v2 v3 m1 L1)(m:Nat):px M w0 r v2 v3 v30 v31 v33 m1 m (mu K n v2 v3 v30 v31 v33 L1 m):=by
 induction m with
 | zero=>intro v39 h;cases h
 | succ m ih=>intro v39 h;have h:mg K n v2 v3 v30 v31 v33 L1 (mu K n v2 v3 v30 v31 v33 L1 m) v39=some r:=h;exact bo (Fr hK hL1 ih h)
theorem rk(hK:ai K)(hL1:gc M w0 r v2 v3 m1 L1)(h:jq K n v2 v3 v30 v31 L1 v33=some r):js M w0 r (cB 3915 :: .b 1::ed M w0 r m1) (As v2 v3 v30 v31 v33):=by
 unfold jq at h;obtain⟨v34,h69,h⟩:=bP h;refine bv (ks':=cB 250613 :: .b 2::cB 31327 :: .b 1::ed M w0 r m1) 10 ⟨[(1,.fn v2.id v2.aG),(5,.sl (lm am v3)),(6,.ref 117),(7,iI v30),(8,.ptr 8 0),(9,.bool v33),(10,.ptr 10 0),(11,iI (af (v30+1))),(46,iI ((gD v3 v30).Kind)),(89,.bool v34)],[(8,am (gD v3 v30)),(10,List.set (ax cf) 61 (.nils))],[(117,⟨41,62,lm ax v31⟩)],[8,10,117]⟩ ?_ (by subst h69;kernel_rfl);obtain⟨h70,h⟩|⟨h70,h⟩:=ah h
 ·exact ab 89 h70 (bV (ks':=.b 2::cB 31327 :: .b 1::ed M w0 r m1) 2 (oW 10 (ac 0 (rj hK hL1 h))))
 ·refine ab 89 h70 ?_;obtain⟨v35,h71,h⟩:=bP h;refine bv (ks':=cB 1002455 :: .b 2::cB 31327 :: .b 1::ed M w0 r m1) 3 ⟨[(1,.fn v2.id v2.aG),(5,.sl (lm am v3)),(6,.ref 117),(7,iI v30),(8,.ptr 8 0),(9,.bool v33),(10,.ptr 10 0),(11,iI (af (v30+1))),(92,.bool v35)],[(8,am (gD v3 v30)),(10,List.set (ax cf) 61 (.nils))],[(117,⟨41,62,lm ax v31⟩)],[8,10,117]⟩ ?_ (by subst h71;kernel_rfl);obtain⟨h72,h⟩|⟨h72,h⟩:=ah h
  ·refine ab 92 h72 (aS 2 1 (ag 5 ?_));obtain⟨v36,h73,h⟩:=bind_some h;exact im (hK.nX h73) (aa (ac 0 (rj hK hL1 h)))
  ·exact ab 92 h72 (ac 3 (bW (p:=pn 8019644) n (Eo hK hL1 n h)))
theorem z0(hK:ai K)(hL1:gc M w0 r v2 v3 m1 L1)(h:kM K n v2 v3 L1 v30 v31=some r):js M w0 r (cB 244::ed M w0 r m1) (wj v2 v3 v30 v31):=by
 unfold kM at h;refine bH 4 5 3 2 (ag 2 (ap (br am v3) (aa ?_)));obtain⟨h62,h⟩|⟨h62,h⟩:=ah h
 ·refine ab 17 h62 (bV (ks':=cB 1956::cB 1957 :: .b 1::ed M w0 r m1) 4 (ag 2 ?_));obtain⟨h63,h⟩:=aN h;refine ap (bw am am h63 (cp) (fun _=>rfl)) (aa (ao 2 3 1 (bB [1,5,6,7,8] [8] [117] ?_)));obtain⟨h64,h⟩|⟨h64,h⟩:=ah h
  ·obtain⟨h65,h⟩:=aN h;obtain⟨h66,h⟩|⟨h66,h⟩:=ah h
   ·obtain⟨h67,h⟩:=aN h;obtain⟨v32,h68,h⟩:=bind_some h;exact bL 1 (nu 22 [iI v30,.bool (decide (v30>0)),.bool true,.sl (lm am v3),iI v30,iI (af (v30-1)),.cptr (am (gD v3 ((af (v30-1))))),.cptr (List.drop 0 (am (gD v3 ((af (v30-1)))))),iI ((gD v3 ((af (v30-1)))).Kind),.bool (((gD v3 ((af (v30-1)))).Kind) != 2),.bool (((gD v3 ((af (v30-1)))).Kind) != 2),.bool true,.sl (lm am v3),iI v30,iI (af (v30-1)),.cptr (am (gD v3 ((af (v30-1))))),.agg (am (gD v3 ((af (v30-1))))),.agg (am (gD v3 v30)),.bool v32,.bool (!v32),.bool (!v32)]) [] [] [bF Try.prog 120 Try.f41 (pn 3914) 21] (aB (vz 2) (ak (dp 0 24 (e:=(decide (v30>0))) (b:=true) h64) (aB (vz 3) (bK (bw am am h65 (cp) (fun _=>rfl)) (aB (vz 4) (ak (dp 0 33 (e:=(((gD v3 ((af (v30-1)))).Kind) != 2)) (b:=true) h66) (aB (vz 3) (bK (bw am am h67 (cp) (fun _=>rfl)) (aB (vz 2) (ak (bR 0 1 40 (tN hK h68)) (aB (vz 2) (ak (bI 0) bO)))))))))))) (ac 0 (rk hK hL1 h))
   ·exact bL 1 (nu 22 [iI v30,.bool (decide (v30>0)),.bool true,.sl (lm am v3),iI v30,iI (af (v30-1)),.cptr (am (gD v3 ((af (v30-1))))),.cptr (List.drop 0 (am (gD v3 ((af (v30-1)))))),iI ((gD v3 ((af (v30-1)))).Kind),.bool (((gD v3 ((af (v30-1)))).Kind) != 2),.bool (((gD v3 ((af (v30-1)))).Kind) != 2),.bool false,.tup [],.tup [],.tup [],.tup [],.tup [],.tup [],.tup [],.tup [],.bool false]) [] [] [bF Try.prog 120 Try.f41 (pn 3914) 21] (aB (vz 2) (ak (dp 0 24 (e:=(decide (v30>0))) (b:=true) h64) (aB (vz 3) (bK (bw am am h65 (cp) (fun _=>rfl)) (aB (vz 4) (ak (dp 0 33 (e:=(((gD v3 ((af (v30-1)))).Kind) != 2)) (b:=false) h66) (ak (aR 0 1) (ak (aR 0 1) (ak (aR 0 1) (ak (aR 0 1) (ak (aR 0 1) (ak (aR 0 1) (ak (aR 0 1) (ak (aR 0 1) (aB [.v 0 1] (ak (bI 0) bO)))))))))))))))) (ac 0 (rk hK hL1 h))
  ·exact bL 1 (nu 22 [iI v30,.bool (decide (v30>0)),.bool false,.tup [],.tup [],.tup [],.tup [],.tup [],.tup [],.tup [],.bool false,.bool false,.tup [],.tup [],.tup [],.tup [],.tup [],.tup [],.tup [],.tup [],.bool false]) [] [] [bF Try.prog 120 Try.f41 (pn 3914) 21] (aB (vz 2) (ak (dp 0 24 (e:=(decide (v30>0))) (b:=false) h64) (ak (aR 0 1) (ak (aR 0 1) (ak (aR 0 1) (ak (aR 0 1) (ak (aR 0 1) (ak (aR 0 1) (ak (aR 0 1) (aB (vz 2) (ak (aR 0 1) (ak (aR 0 1) (ak (aR 0 1) (ak (aR 0 1) (ak (aR 0 1) (ak (aR 0 1) (ak (aR 0 1) (ak (aR 0 1) (aB [.v 0 1] (ak (bI 0) bO)))))))))))))))))))) (ac 0 (rk hK hL1 h))
 ·refine ab 17 h62 (aI 8 ?_);cases h;exact dB
theorem Af(hK:ai K)(m:Nat):gc M w0 r v2 v3 m (nK K n v2 v3 m):=by
 induction m with
 | zero=>intro v30 v31 h;cases h
 | succ m ih=>intro v30 v31 h;have h:kM K n v2 v3 (nK K n v2 v3 m) v30 v31=some r:=h;exact bo (z0 hK ih h)
theorem yH(hK:ai K)(h:pP K n v1 v2=some r):aJ Try.prog 41 [.sl (lm aO v1),.fn v2.id v2.aG] (fun v s=>v=.ref 117∧look 117 s.r=some ⟨41,62,lm ax r⟩):=by
 refine bd (cat Try.f41 (pn 1)) Try.func41 Try.ntmps41 fun M w0=>(aY ⟨[(0,.sl (lm aO v1)),(1,.fn v2.id v2.aG)],[],[],[]⟩ ?_);unfold pP at h;refine ao 6 7 3 (ag 1 ?_);obtain⟨v3,h1,h⟩:=bind_some h;exact d3 1013 (zJ hK h1) (ep 400003) (aa (eA 26 0 7 6 (bB [1,5,6,7] [] [1013] (yT 1013 (d9 117 6 41 62 (ac 0 (bW (p:=pn 122) n (Af hK n h))))))))
end
noncomputable section
variable(M:Nat→Prop)(w0:aw)(r v1:Int)  
variable{M w0 r v1}{K:Kn}{n:Nat}
theorem dL(hK:ai K)(h:dm K n v1=some r):aJ Try.prog 59 [iI v1] (fun v _=>v=iI r):=by
 refine bd (cat Try.f59 (pn 1)) Try.func59 Try.ntmps59 fun M w0=>(aY ⟨[(0,iI v1)],[],[],[]⟩ ?_);unfold dm at h;refine aI 5 ?_;cases h;exact ba
end
noncomputable section
variable(M:Nat→Prop)(w0:aw)(r:Int×Bool)(v1:c6)(v2 v4:Int)  
abbrev D3(n:Nat):aj:=.c (cat Try.f58 (pn n))
abbrev CH:Cx:=⟨Try.prog,25,M,w0⟩
abbrev Dx:=bodyPost Try.prog Try.f58 (bn M w0 (fun v _=>v=.tup [iI r.1,.bool r.2]))
abbrev AY(ks:List aj)(s:AS):=VE (CH M w0) (Dx M w0 r) ks .normal s
def Dj:AS:=⟨[(6,iI v4)],[],[],[]⟩
variable{M w0 r v1 v2 v4}{K:Kn}{n:Nat}
theorem uG(hK:ai K)(h:oe K n v4=some r):AY M w0 r [.b 0,D3 15] (Dj v4):=by
 unfold oe at h;refine aI 4 ?_;cases h;exact eu
theorem cI(hK:ai K)(h:cC K n v1 v2=some r):aJ Try.prog 58 [.agg (kZ v1),iI v2] (fun v _=>v=.tup [iI r.1,.bool r.2]):=by
 refine bd (cat Try.f58 (pn 1)) Try.func58 Try.ntmps58 fun M w0=>(aY ⟨[(0,.agg (kZ v1)),(1,iI v2)],[],[],[]⟩ ?_);unfold cC at h;refine eA 117 0 15 10 ?_;obtain⟨h1,h⟩|⟨h1,h⟩:=ah h
 ·exact ab 11 h1 (ac 2 (uG hK h))
 ·refine ab 11 h1 (aS 7 3 ?_);obtain⟨h2,h⟩|⟨h2,h⟩:=ah h
  ·refine ab 13 h2 (aS 2 1 (ag 1 ?_));obtain⟨v3,h3,h⟩:=bind_some h;exact aL (dL hK h3) (aa (ac 0 (uG hK h)))
  ·refine ab 13 h2 (aI 6 ?_);cases h;exact eu
end
noncomputable section
variable(M:Nat→Prop)(w0:aw)(r:bq)(v1:aK)(v2 v3:Int)  
abbrev gx(n:Nat):aj:=.c (cat Try.f43 (pn n))
abbrev Aw:Cx:=⟨Try.prog,52,M,w0⟩
abbrev AN:=bodyPost Try.prog Try.f43 (bn M w0 (fun v _=>v=.agg (bm r)))
abbrev jx(m:Nat):List aj:=kl (Aw M w0) (AN M w0 r) [.b 0,gx 15] (cat Try.f43 (pn 116)) m::[.b 0,gx 15]
variable{M w0 r v1 v2 v3}{K:Kn}{n:Nat}
theorem jE(hK:ai K)(h:gg K n v1 v2 v3=some r):aJ Try.prog 43 [.agg (aA v1),iI v2,iI v3] (fun v _=>v=.agg (bm r)):=by
 refine bd (cat Try.f43 (pn 1)) Try.func43 Try.ntmps43 fun M w0=>(aY ⟨[(0,.agg (aA v1)),(1,iI v2),(2,iI v3)],[],[],[]⟩ ?_);unfold gg at h;refine bv (ks':=[gx 58,.b 0,gx 15]) 8 ⟨[(1,iI v2),(3,.ptr 3 0),(6,.ptr 6 0),(7,.ptr 7 0),(13,iI 0)],[(3,aA v1),(6,bm dJ),(7,bm ({ dJ with Content:=v3 }:bq))],[],[3,6,7]⟩ (lu 40 (c:=cat Try.f43 [1,1,0,1,0,0]) (by kernel_rfl) (bo (bV (ks':=gx 7474::gx 7475 :: .b 1::gx 935::jx M w0 r 39) 10 (ag 6 ?_))));obtain⟨v4,h1,h⟩:=bind_some h;refine aL (cI hK h1) (aa (ao 2 3 1 (ag 5 ?_)));obtain⟨v5,h2,h⟩:=bind_some h;refine aL (dL hK h2) (aa (ao 2 3 1 (ag 5 ?_)));obtain⟨v6,h3,h⟩:=bind_some h;refine aL (cI hK h3) (aa (bv (ks':=jx M w0 r 39) 3 ⟨[(1,iI v2),(3,.ptr 3 0),(6,.ptr 6 0),(7,.ptr 7 0),(13,iI 1)],[(3,aA v1),(6,bm dJ),(7,bm (⟨⟨v4.1,0,0,0⟩,⟨v5,0,0,0⟩,⟨(max v6.1 0),0,0,0⟩,v3⟩:bq))],[],[3,6,7]⟩ (bp (bo (cM 114 115 1 15 10 (ag 6 ?_))))));obtain⟨v7,h4,h⟩:=bind_some h
 refine aL (cI hK h4) (aa (ao 2 3 1 (ag 5 ?_)));obtain⟨v8,h5,h⟩:=bind_some h;refine aL (dL hK h5) (aa (ao 2 3 1 (ag 5 ?_)));obtain⟨v9,h6,h⟩:=bind_some h;refine aL (cI hK h6) (aa (bv (ks':=jx M w0 r 38) 3 ⟨[(1,iI v2),(3,.ptr 3 0),(6,.ptr 6 0),(7,.ptr 7 0),(13,iI 2)],[(3,aA v1),(6,bm dJ),(7,bm (⟨⟨v4.1,v7.1,0,0⟩,⟨v5,v8,0,0⟩,⟨(max v6.1 0),(max v9.1 0),0,0⟩,v3⟩:bq))],[],[3,6,7]⟩ (bp (bo (cM 114 115 1 15 10 (ag 6 ?_))))));obtain⟨v10,h7,h⟩:=bind_some h;refine aL (cI hK h7) (aa (ao 2 3 1 (ag 5 ?_)));obtain⟨v11,h8,h⟩:=bind_some h;refine aL (dL hK h8) (aa (ao 2 3 1 (ag 5 ?_)));obtain⟨v12,h9,h⟩:=bind_some h;refine aL (cI hK h9) (aa (bv (ks':=jx M w0 r 37) 3 ⟨[(1,iI v2),(3,.ptr 3 0),(6,.ptr 6 0),(7,.ptr 7 0),(13,iI 3)],[(3,aA v1),(6,bm dJ),(7,bm (⟨⟨v4.1,v7.1,v10.1,0⟩,⟨v5,v8,v11,0⟩,⟨(max v6.1 0),(max v9.1 0),(max v12.1 0),0⟩,v3⟩:bq))],[],[3,6,7]⟩ (bp (bo (cM 114 115 1 15 10 (ag 6 ?_))))));obtain⟨v13,h10,h⟩:=bind_some h
 refine aL (cI hK h10) (aa (ao 2 3 1 (ag 5 ?_)));obtain⟨v14,h11,h⟩:=bind_some h;refine aL (dL hK h11) (aa (ao 2 3 1 (ag 5 ?_)));obtain⟨v15,h12,h⟩:=bind_some h;refine aL (cI hK h12) (aa (bv (ks':=jx M w0 r 36) 3 ⟨[(1,iI v2),(3,.ptr 3 0),(6,.ptr 6 0),(7,.ptr 7 0),(13,iI 4)],[(3,aA v1),(6,bm dJ),(7,bm (⟨⟨v4.1,v7.1,v10.1,v13.1⟩,⟨v5,v8,v11,v14⟩,⟨(max v6.1 0),(max v9.1 0),(max v12.1 0),(max v15.1 0)⟩,v3⟩:bq))],[],[3,6,7]⟩ (bp (bo (aI 11 ?_)))));cases h;exact ba
end
noncomputable section
variable(M:Nat→Prop)(w0:aw)(r:Int)(v1:bq)  
variable{M w0 r v1}{K:Kn}{n:Nat}
theorem hH(hK:ai K)(h:fz K n v1=some r):aJ Try.prog 47 [.agg (bm v1)] (fun v _=>v=iI r):=by
 refine bd (cat Try.f47 (pn 1)) Try.func47 Try.ntmps47 fun M w0=>(aY ⟨[(0,.agg (bm v1))],[],[],[]⟩ ?_);unfold fz at h;refine aI 5 ?_;cases h;exact ba
end
noncomputable section
variable(M:Nat→Prop)(w0:aw)(r v1:aK)(v2:Nat)(v3 v4 v5 v6 v7 v8 v9 v10 v11 v12 v13:aK)  
abbrev cg(n:Nat):aj:=.c (cat Try.f65 (pn n))
abbrev rK:Cx:=⟨Try.prog,40,M,w0⟩
abbrev ra:=bodyPost Try.prog Try.f65 (bn M w0 (fun v _=>v=.agg (aA r)))
abbrev dT(ks:List aj)(s:AS):=VE (rK M w0) (ra M w0 r) ks .normal s
def EE:AS:=⟨[(1,.pp 1 v2 0),(2,.ptr 2 0),(24,.ref 10),(25,iI 11),(26,iI 10)],[(1,aA v13),(2,aA bG)],[(10,⟨130,1,lm aV [(v2,6),(v2,10),(v2,12),(v2,14),(v2,22),(v2,16),(v2,24),(v2,18),(v2,26),(v2,20),(v2,28)]⟩)],[1,2,10]⟩
def Dq:AS:=⟨[(1,.pp 1 v2 0),(2,.ptr 2 0),(24,.ref 10),(25,iI 11),(26,iI 9)],[(1,aA v12),(2,aA bG)],[(10,⟨130,1,lm aV [(v2,6),(v2,10),(v2,12),(v2,14),(v2,22),(v2,16),(v2,24),(v2,18),(v2,26),(v2,20),(v2,28)]⟩)],[1,2,10]⟩
def Cn:AS:=⟨[(1,.pp 1 v2 0),(2,.ptr 2 0),(24,.ref 10),(25,iI 11),(26,iI 8)],[(1,aA v11),(2,aA bG)],[(10,⟨130,1,lm aV [(v2,6),(v2,10),(v2,12),(v2,14),(v2,22),(v2,16),(v2,24),(v2,18),(v2,26),(v2,20),(v2,28)]⟩)],[1,2,10]⟩
def yR:AS:=⟨[(1,.pp 1 v2 0),(2,.ptr 2 0),(24,.ref 10),(25,iI 11),(26,iI 7)],[(1,aA v10),(2,aA bG)],[(10,⟨130,1,lm aV [(v2,6),(v2,10),(v2,12),(v2,14),(v2,22),(v2,16),(v2,24),(v2,18),(v2,26),(v2,20),(v2,28)]⟩)],[1,2,10]⟩
def CY:AS:=⟨[(1,.pp 1 v2 0),(2,.ptr 2 0),(24,.ref 10),(25,iI 11),(26,iI 6)],[(1,aA v9),(2,aA bG)],[(10,⟨130,1,lm aV [(v2,6),(v2,10),(v2,12),(v2,14),(v2,22),(v2,16),(v2,24),(v2,18),(v2,26),(v2,20),(v2,28)]⟩)],[1,2,10]⟩
def BM:AS:=⟨[(1,.pp 1 v2 0),(2,.ptr 2 0),(24,.ref 10),(25,iI 11),(26,iI 5)],[(1,aA v8),(2,aA bG)],[(10,⟨130,1,lm aV [(v2,6),(v2,10),(v2,12),(v2,14),(v2,22),(v2,16),(v2,24),(v2,18),(v2,26),(v2,20),(v2,28)]⟩)],[1,2,10]⟩
def Eu:AS:=⟨[(1,.pp 1 v2 0),(2,.ptr 2 0),(24,.ref 10),(25,iI 11),(26,iI 4)],[(1,aA v7),(2,aA bG)],[(10,⟨130,1,lm aV [(v2,6),(v2,10),(v2,12),(v2,14),(v2,22),(v2,16),(v2,24),(v2,18),(v2,26),(v2,20),(v2,28)]⟩)],[1,2,10]⟩
def BL:AS:=⟨[(1,.pp 1 v2 0),(2,.ptr 2 0),(24,.ref 10),(25,iI 11),(26,iI 3)],[(1,aA v6),(2,aA bG)],[(10,⟨130,1,lm aV [(v2,6),(v2,10),(v2,12),(v2,14),(v2,22),(v2,16),(v2,24),(v2,18),(v2,26),(v2,20),(v2,28)]⟩)],[1,2,10]⟩
def CG:AS:=⟨[(1,.pp 1 v2 0),(2,.ptr 2 0),(24,.ref 10),(25,iI 11),(26,iI 2)],[(1,aA v5),(2,aA bG)],[(10,⟨130,1,lm aV [(v2,6),(v2,10),(v2,12),(v2,14),(v2,22),(v2,16),(v2,24),(v2,18),(v2,26),(v2,20),(v2,28)]⟩)],[1,2,10]⟩
def yP:AS:=⟨[(1,.pp 1 v2 0),(2,.ptr 2 0),(24,.ref 10),(25,iI 11),(26,iI 1)],[(1,aA v4),(2,aA bG)],[(10,⟨130,1,lm aV [(v2,6),(v2,10),(v2,12),(v2,14),(v2,22),(v2,16),(v2,24),(v2,18),(v2,26),(v2,20),(v2,28)]⟩)],[1,2,10]⟩
def FC:AS:=⟨[(1,.pp 1 v2 0),(2,.ptr 2 0),(24,.ref 10),(25,iI 11),(26,iI 0)],[(1,aA v3),(2,aA bG)],[(10,⟨130,1,lm aV [(v2,6),(v2,10),(v2,12),(v2,14),(v2,22),(v2,16),(v2,24),(v2,18),(v2,26),(v2,20),(v2,28)]⟩)],[1,2,10]⟩
abbrev ch(m:Nat):List aj:=kl (rK M w0) (ra M w0 r) [.b 2,cg 31] (cat Try.f65 (pn 244)) m::[.b 2,cg 31]
abbrev kh(m:Nat):List aj:=kl (rK M w0) (ra M w0 r) [.b 0,cg 15] (cat Try.f65 (pn 116)) m::[.b 0,cg 15]
variable{M w0 r v1 v2 v3 v4 v5 v6 v7 v8 v9 v10 v11 v12 v13}{K:Kn}{n:Nat}
theorem uT(hK:ai K)(h:l5 K n v13=some r):dT M w0 r (.b 3::cg 1959::ch M w0 r 29) (EE v2 v13):=by
 unfold l5 at h;refine bv (ks':=ch M w0 r 29) 2 ⟨[(1,.pp 1 v2 0),(2,.ptr 2 0),(24,.ref 10),(25,iI 11),(26,iI 11)],[(1,aA v13),(2,aA bG)],[(10,⟨130,1,lm aV [(v2,6),(v2,10),(v2,12),(v2,14),(v2,22),(v2,16),(v2,24),(v2,18),(v2,26),(v2,20),(v2,28)]⟩)],[1,2,10]⟩ (bp (bo (aI 11 ?_)));cases h;exact ba
theorem xK(hK:ai K)(h:mf K n v12=some r):dT M w0 r (.b 3::cg 1959::ch M w0 r 30) (Dq v2 v12):=by
 unfold mf at h;refine bv (ks':=ch M w0 r 30) 2 ⟨[(1,.pp 1 v2 0),(2,.ptr 2 0),(24,.ref 10),(25,iI 11),(26,iI 10)],[(1,aA v12),(2,aA bG)],[(10,⟨130,1,lm aV [(v2,6),(v2,10),(v2,12),(v2,14),(v2,22),(v2,16),(v2,24),(v2,18),(v2,26),(v2,20),(v2,28)]⟩)],[1,2,10]⟩ (bp (bo (cM 56 57 3 15 8 (ag 0 (ap (cV 10 1 aV (L:=([(v2,6),(v2,10),(v2,12),(v2,14),(v2,22),(v2,16),(v2,24),(v2,18),(v2,26),(v2,20),(v2,28)]:List (Nat×Nat))) (i:=(10:Int)) (by kernel_rfl)) (ap (cj 130 0 aV aV (L:=([(v2,6),(v2,10),(v2,12),(v2,14),(v2,22),(v2,16),(v2,24),(v2,18),(v2,26),(v2,20),(v2,28)]:List (Nat×Nat))) (j:=(10:Int).toNat) (of_decide_eq_true (by kernel_rfl)) (fun _=>rfl)) (aa (ao 2 3 1 (ag 3 (cn 32 1 1 v2 28 0 (aa ?_)))))))))));obtain⟨h11,h⟩|⟨h11,h⟩:=ah h
 ·exact ab 34 h11 (aS 2 1 (ag 3 (cn 37 1 1 v2 28 0 (aa (ac 0 (uT hK (v2:=v2) h))))))
 ·exact ab 34 h11 (ac 2 (uT hK (v2:=v2) h))
theorem uS(hK:ai K)(h:ms K n v11=some r):dT M w0 r (.b 3::cg 1959::ch M w0 r 31) (Cn v2 v11):=by
 unfold ms at h;refine bv (ks':=ch M w0 r 31) 2 ⟨[(1,.pp 1 v2 0),(2,.ptr 2 0),(24,.ref 10),(25,iI 11),(26,iI 9)],[(1,aA v11),(2,aA bG)],[(10,⟨130,1,lm aV [(v2,6),(v2,10),(v2,12),(v2,14),(v2,22),(v2,16),(v2,24),(v2,18),(v2,26),(v2,20),(v2,28)]⟩)],[1,2,10]⟩ (bp (bo (cM 56 57 3 15 8 (ag 0 (ap (cV 10 1 aV (L:=([(v2,6),(v2,10),(v2,12),(v2,14),(v2,22),(v2,16),(v2,24),(v2,18),(v2,26),(v2,20),(v2,28)]:List (Nat×Nat))) (i:=(9:Int)) (by kernel_rfl)) (ap (cj 130 0 aV aV (L:=([(v2,6),(v2,10),(v2,12),(v2,14),(v2,22),(v2,16),(v2,24),(v2,18),(v2,26),(v2,20),(v2,28)]:List (Nat×Nat))) (j:=(9:Int).toNat) (of_decide_eq_true (by kernel_rfl)) (fun _=>rfl)) (aa (ao 2 3 1 (ag 3 (cn 32 1 1 v2 20 0 (aa ?_)))))))))));obtain⟨h10,h⟩|⟨h10,h⟩:=ah h
 ·exact ab 34 h10 (aS 2 1 (ag 3 (cn 37 1 1 v2 20 0 (aa (ac 0 (xK hK (v2:=v2) h))))))
 ·exact ab 34 h10 (ac 2 (xK hK (v2:=v2) h))
theorem xN(hK:ai K)(h:kO K n v10=some r):dT M w0 r (.b 3::cg 1959::ch M w0 r 32) (yR v2 v10):=by
 unfold kO at h;refine bv (ks':=ch M w0 r 32) 2 ⟨[(1,.pp 1 v2 0),(2,.ptr 2 0),(24,.ref 10),(25,iI 11),(26,iI 8)],[(1,aA v10),(2,aA bG)],[(10,⟨130,1,lm aV [(v2,6),(v2,10),(v2,12),(v2,14),(v2,22),(v2,16),(v2,24),(v2,18),(v2,26),(v2,20),(v2,28)]⟩)],[1,2,10]⟩ (bp (bo (cM 56 57 3 15 8 (ag 0 (ap (cV 10 1 aV (L:=([(v2,6),(v2,10),(v2,12),(v2,14),(v2,22),(v2,16),(v2,24),(v2,18),(v2,26),(v2,20),(v2,28)]:List (Nat×Nat))) (i:=(8:Int)) (by kernel_rfl)) (ap (cj 130 0 aV aV (L:=([(v2,6),(v2,10),(v2,12),(v2,14),(v2,22),(v2,16),(v2,24),(v2,18),(v2,26),(v2,20),(v2,28)]:List (Nat×Nat))) (j:=(8:Int).toNat) (of_decide_eq_true (by kernel_rfl)) (fun _=>rfl)) (aa (ao 2 3 1 (ag 3 (cn 32 1 1 v2 26 0 (aa ?_)))))))))));obtain⟨h9,h⟩|⟨h9,h⟩:=ah h
 ·exact ab 34 h9 (aS 2 1 (ag 3 (cn 37 1 1 v2 26 0 (aa (ac 0 (uS hK (v2:=v2) h))))))
 ·exact ab 34 h9 (ac 2 (uS hK (v2:=v2) h))
theorem xc(hK:ai K)(h:oa K n v9=some r):dT M w0 r (.b 3::cg 1959::ch M w0 r 33) (CY v2 v9):=by
 unfold oa at h;refine bv (ks':=ch M w0 r 33) 2 ⟨[(1,.pp 1 v2 0),(2,.ptr 2 0),(24,.ref 10),(25,iI 11),(26,iI 7)],[(1,aA v9),(2,aA bG)],[(10,⟨130,1,lm aV [(v2,6),(v2,10),(v2,12),(v2,14),(v2,22),(v2,16),(v2,24),(v2,18),(v2,26),(v2,20),(v2,28)]⟩)],[1,2,10]⟩ (bp (bo (cM 56 57 3 15 8 (ag 0 (ap (cV 10 1 aV (L:=([(v2,6),(v2,10),(v2,12),(v2,14),(v2,22),(v2,16),(v2,24),(v2,18),(v2,26),(v2,20),(v2,28)]:List (Nat×Nat))) (i:=(7:Int)) (by kernel_rfl)) (ap (cj 130 0 aV aV (L:=([(v2,6),(v2,10),(v2,12),(v2,14),(v2,22),(v2,16),(v2,24),(v2,18),(v2,26),(v2,20),(v2,28)]:List (Nat×Nat))) (j:=(7:Int).toNat) (of_decide_eq_true (by kernel_rfl)) (fun _=>rfl)) (aa (ao 2 3 1 (ag 3 (cn 32 1 1 v2 18 0 (aa ?_)))))))))));obtain⟨h8,h⟩|⟨h8,h⟩:=ah h
 ·exact ab 34 h8 (aS 2 1 (ag 3 (cn 37 1 1 v2 18 0 (aa (ac 0 (xN hK (v2:=v2) h))))))
 ·exact ab 34 h8 (ac 2 (xN hK (v2:=v2) h))
theorem w8(hK:ai K)(h:n6 K n v8=some r):dT M w0 r (.b 3::cg 1959::ch M w0 r 34) (BM v2 v8):=by
 unfold n6 at h;refine bv (ks':=ch M w0 r 34) 2 ⟨[(1,.pp 1 v2 0),(2,.ptr 2 0),(24,.ref 10),(25,iI 11),(26,iI 6)],[(1,aA v8),(2,aA bG)],[(10,⟨130,1,lm aV [(v2,6),(v2,10),(v2,12),(v2,14),(v2,22),(v2,16),(v2,24),(v2,18),(v2,26),(v2,20),(v2,28)]⟩)],[1,2,10]⟩ (bp (bo (cM 56 57 3 15 8 (ag 0 (ap (cV 10 1 aV (L:=([(v2,6),(v2,10),(v2,12),(v2,14),(v2,22),(v2,16),(v2,24),(v2,18),(v2,26),(v2,20),(v2,28)]:List (Nat×Nat))) (i:=(6:Int)) (by kernel_rfl)) (ap (cj 130 0 aV aV (L:=([(v2,6),(v2,10),(v2,12),(v2,14),(v2,22),(v2,16),(v2,24),(v2,18),(v2,26),(v2,20),(v2,28)]:List (Nat×Nat))) (j:=(6:Int).toNat) (of_decide_eq_true (by kernel_rfl)) (fun _=>rfl)) (aa (ao 2 3 1 (ag 3 (cn 32 1 1 v2 24 0 (aa ?_)))))))))));obtain⟨h7,h⟩|⟨h7,h⟩:=ah h
 ·exact ab 34 h7 (aS 2 1 (ag 3 (cn 37 1 1 v2 24 0 (aa (ac 0 (xc hK (v2:=v2) h))))))
 ·exact ab 34 h7 (ac 2 (xc hK (v2:=v2) h))
theorem vC(hK:ai K)(h:l4 K n v7=some r):dT M w0 r (.b 3::cg 1959::ch M w0 r 35) (Eu v2 v7):=by
 unfold l4 at h;refine bv (ks':=ch M w0 r 35) 2 ⟨[(1,.pp 1 v2 0),(2,.ptr 2 0),(24,.ref 10),(25,iI 11),(26,iI 5)],[(1,aA v7),(2,aA bG)],[(10,⟨130,1,lm aV [(v2,6),(v2,10),(v2,12),(v2,14),(v2,22),(v2,16),(v2,24),(v2,18),(v2,26),(v2,20),(v2,28)]⟩)],[1,2,10]⟩ (bp (bo (cM 56 57 3 15 8 (ag 0 (ap (cV 10 1 aV (L:=([(v2,6),(v2,10),(v2,12),(v2,14),(v2,22),(v2,16),(v2,24),(v2,18),(v2,26),(v2,20),(v2,28)]:List (Nat×Nat))) (i:=(5:Int)) (by kernel_rfl)) (ap (cj 130 0 aV aV (L:=([(v2,6),(v2,10),(v2,12),(v2,14),(v2,22),(v2,16),(v2,24),(v2,18),(v2,26),(v2,20),(v2,28)]:List (Nat×Nat))) (j:=(5:Int).toNat) (of_decide_eq_true (by kernel_rfl)) (fun _=>rfl)) (aa (ao 2 3 1 (ag 3 (cn 32 1 1 v2 16 0 (aa ?_)))))))))));obtain⟨h6,h⟩|⟨h6,h⟩:=ah h
 ·exact ab 34 h6 (aS 2 1 (ag 3 (cn 37 1 1 v2 16 0 (aa (ac 0 (w8 hK (v2:=v2) h))))))
 ·exact ab 34 h6 (ac 2 (w8 hK (v2:=v2) h))
theorem wb(hK:ai K)(h:mD K n v6=some r):dT M w0 r (.b 3::cg 1959::ch M w0 r 36) (BL v2 v6):=by
 unfold mD at h;refine bv (ks':=ch M w0 r 36) 2 ⟨[(1,.pp 1 v2 0),(2,.ptr 2 0),(24,.ref 10),(25,iI 11),(26,iI 4)],[(1,aA v6),(2,aA bG)],[(10,⟨130,1,lm aV [(v2,6),(v2,10),(v2,12),(v2,14),(v2,22),(v2,16),(v2,24),(v2,18),(v2,26),(v2,20),(v2,28)]⟩)],[1,2,10]⟩ (bp (bo (cM 56 57 3 15 8 (ag 0 (ap (cV 10 1 aV (L:=([(v2,6),(v2,10),(v2,12),(v2,14),(v2,22),(v2,16),(v2,24),(v2,18),(v2,26),(v2,20),(v2,28)]:List (Nat×Nat))) (i:=(4:Int)) (by kernel_rfl)) (ap (cj 130 0 aV aV (L:=([(v2,6),(v2,10),(v2,12),(v2,14),(v2,22),(v2,16),(v2,24),(v2,18),(v2,26),(v2,20),(v2,28)]:List (Nat×Nat))) (j:=(4:Int).toNat) (of_decide_eq_true (by kernel_rfl)) (fun _=>rfl)) (aa (ao 2 3 1 (ag 3 (cn 32 1 1 v2 22 0 (aa ?_)))))))))));obtain⟨h5,h⟩|⟨h5,h⟩:=ah h
 ·exact ab 34 h5 (aS 2 1 (ag 3 (cn 37 1 1 v2 22 0 (aa (ac 0 (vC hK (v2:=v2) h))))))
 ·exact ab 34 h5 (ac 2 (vC hK (v2:=v2) h))
theorem vf(hK:ai K)(h:mw K n v5=some r):dT M w0 r (.b 3::cg 1959::ch M w0 r 37) (CG v2 v5):=by
 unfold mw at h;refine bv (ks':=ch M w0 r 37) 2 ⟨[(1,.pp 1 v2 0),(2,.ptr 2 0),(24,.ref 10),(25,iI 11),(26,iI 3)],[(1,aA v5),(2,aA bG)],[(10,⟨130,1,lm aV [(v2,6),(v2,10),(v2,12),(v2,14),(v2,22),(v2,16),(v2,24),(v2,18),(v2,26),(v2,20),(v2,28)]⟩)],[1,2,10]⟩ (bp (bo (cM 56 57 3 15 8 (ag 0 (ap (cV 10 1 aV (L:=([(v2,6),(v2,10),(v2,12),(v2,14),(v2,22),(v2,16),(v2,24),(v2,18),(v2,26),(v2,20),(v2,28)]:List (Nat×Nat))) (i:=(3:Int)) (by kernel_rfl)) (ap (cj 130 0 aV aV (L:=([(v2,6),(v2,10),(v2,12),(v2,14),(v2,22),(v2,16),(v2,24),(v2,18),(v2,26),(v2,20),(v2,28)]:List (Nat×Nat))) (j:=(3:Int).toNat) (of_decide_eq_true (by kernel_rfl)) (fun _=>rfl)) (aa (ao 2 3 1 (ag 3 (cn 32 1 1 v2 14 0 (aa ?_)))))))))));obtain⟨h4,h⟩|⟨h4,h⟩:=ah h
 ·exact ab 34 h4 (aS 2 1 (ag 3 (cn 37 1 1 v2 14 0 (aa (ac 0 (wb hK (v2:=v2) h))))))
 ·exact ab 34 h4 (ac 2 (wb hK (v2:=v2) h))
theorem vB(hK:ai K)(h:lM K n v4=some r):dT M w0 r (.b 3::cg 1959::ch M w0 r 38) (yP v2 v4):=by
 unfold lM at h;refine bv (ks':=ch M w0 r 38) 2 ⟨[(1,.pp 1 v2 0),(2,.ptr 2 0),(24,.ref 10),(25,iI 11),(26,iI 2)],[(1,aA v4),(2,aA bG)],[(10,⟨130,1,lm aV [(v2,6),(v2,10),(v2,12),(v2,14),(v2,22),(v2,16),(v2,24),(v2,18),(v2,26),(v2,20),(v2,28)]⟩)],[1,2,10]⟩ (bp (bo (cM 56 57 3 15 8 (ag 0 (ap (cV 10 1 aV (L:=([(v2,6),(v2,10),(v2,12),(v2,14),(v2,22),(v2,16),(v2,24),(v2,18),(v2,26),(v2,20),(v2,28)]:List (Nat×Nat))) (i:=(2:Int)) (by kernel_rfl)) (ap (cj 130 0 aV aV (L:=([(v2,6),(v2,10),(v2,12),(v2,14),(v2,22),(v2,16),(v2,24),(v2,18),(v2,26),(v2,20),(v2,28)]:List (Nat×Nat))) (j:=(2:Int).toNat) (of_decide_eq_true (by kernel_rfl)) (fun _=>rfl)) (aa (ao 2 3 1 (ag 3 (cn 32 1 1 v2 12 0 (aa ?_)))))))))));obtain⟨h3,h⟩|⟨h3,h⟩:=ah h
 ·exact ab 34 h3 (aS 2 1 (ag 3 (cn 37 1 1 v2 12 0 (aa (ac 0 (vf hK (v2:=v2) h))))))
 ·exact ab 34 h3 (ac 2 (vf hK (v2:=v2) h))
theorem wU(hK:ai K)(h:lU K n v3=some r):dT M w0 r (.b 3::cg 1959::ch M w0 r 39) (FC v2 v3):=by
 unfold lU at h;refine bv (ks':=ch M w0 r 39) 2 ⟨[(1,.pp 1 v2 0),(2,.ptr 2 0),(24,.ref 10),(25,iI 11),(26,iI 1)],[(1,aA v3),(2,aA bG)],[(10,⟨130,1,lm aV [(v2,6),(v2,10),(v2,12),(v2,14),(v2,22),(v2,16),(v2,24),(v2,18),(v2,26),(v2,20),(v2,28)]⟩)],[1,2,10]⟩ (bp (bo (cM 56 57 3 15 8 (ag 0 (ap (cV 10 1 aV (L:=([(v2,6),(v2,10),(v2,12),(v2,14),(v2,22),(v2,16),(v2,24),(v2,18),(v2,26),(v2,20),(v2,28)]:List (Nat×Nat))) (i:=(1:Int)) (by kernel_rfl)) (ap (cj 130 0 aV aV (L:=([(v2,6),(v2,10),(v2,12),(v2,14),(v2,22),(v2,16),(v2,24),(v2,18),(v2,26),(v2,20),(v2,28)]:List (Nat×Nat))) (j:=(1:Int).toNat) (of_decide_eq_true (by kernel_rfl)) (fun _=>rfl)) (aa (ao 2 3 1 (ag 3 (cn 32 1 1 v2 10 0 (aa ?_)))))))))));obtain⟨h2,h⟩|⟨h2,h⟩:=ah h
 ·exact ab 34 h2 (aS 2 1 (ag 3 (cn 37 1 1 v2 10 0 (aa (ac 0 (vB hK (v2:=v2) h))))))
 ·exact ab 34 h2 (ac 2 (vB hK (v2:=v2) h))
theorem xv(hK:ai K)(h:mV K n v1=some r):aJ Try.prog 65 [.agg (aA v1)] (fun v _=>v=.agg (aA r)):=by
 refine bd (cat Try.f65 (pn 1)) Try.func65 Try.ntmps65 fun M w0=>(aY ⟨[(0,.agg (aA v1))],[],[],[]⟩ ?_);unfold mV at h;refine ao 6 7 3 (zj 1 1 0 fun v2=>(ag 3 (yG 131 3 #[(0,(.tmp 7)),(1,(.tmp 8)),(2,(.tmp 9))] 10 (e:=130) (sz:=1) (l:=lm aV [(v2,6),(v2,10),(v2,12)]) (aa (bv (ks':=[cg 58,.b 0,cg 15]) 4 ⟨[(1,.pp 1 v2 0),(2,.ptr 2 0),(3,.ref 10),(11,iI 0)],[(1,aA v1),(2,aA bG)],[(10,⟨130,1,lm aV [(v2,6),(v2,10),(v2,12)]⟩)],[1,2,10]⟩ (lu 40 (c:=cat Try.f65 [1,1,0,1,0,0]) (by kernel_rfl) (bo (bV (ks':=cg 3737 :: .b 1::cg 935::kh M w0 r 39) 9 (bB [1,2,3,4,11] [1,2] [10] (bL 2 (nu 14 [.ref 10,iI 0,.adr v2 14,.adr v2 14,iI 0,.adr v2 22,.adr v2 22,.sl (lm aV [(v2,14),(v2,22)])]) [] [] [fY 22 10 ⟨130,1,lm aV [(v2,6),(v2,10),(v2,12),(v2,14),(v2,22)]⟩,bF Try.prog 40 Try.f65 (pn 3737) 9] (aB [.v 0 1,.v 0 2,.v 0 2,.v 0 2,.v 0 2,.v 0 2,.v 0 2,.v 0 1] (ak (eN (m:=0) (b9 22 10 130 1 aV (L:=([(v2,6),(v2,10),(v2,12)]:List (Nat×Nat))) (M:=([(v2,14),(v2,22)]:(List (Nat×Nat)))) (bytes:=8) (rfl) (fun _=>rfl) (by kernel_rfl))) (ak (bI 1) bO))) (bv (ks':=kh M w0 r 39) 2 ⟨[(1,.pp 1 v2 0),(2,.ptr 2 0),(3,.ref 10),(11,iI 1)],[(1,aA v1),(2,aA bG)],[(10,⟨130,1,lm aV [(v2,6),(v2,10),(v2,12),(v2,14),(v2,22)]⟩)],[1,2,10]⟩ (bp (bo (eA 57 1 15 9 (bB [1,2,3,4,11] [1,2] [10] (bL 2 (nu 14 [.ref 10,iI 1,.adr v2 14,.adr v2 16,iI 1,.adr v2 22,.adr v2 24,.sl (lm aV [(v2,16),(v2,24)])]) [] [] [fY 22 10 ⟨130,1,lm aV [(v2,6),(v2,10),(v2,12),(v2,14),(v2,22),(v2,16),(v2,24)]⟩,bF Try.prog 40 Try.f65 (pn 3737) 9] (aB [.v 0 1,.v 0 2,.v 0 2,.v 0 2,.v 0 2,.v 0 2,.v 0 2,.v 0 1] (ak (eN (m:=0) (b9 22 10 130 1 aV (L:=([(v2,6),(v2,10),(v2,12),(v2,14),(v2,22)]:List (Nat×Nat))) (M:=([(v2,16),(v2,24)]:(List (Nat×Nat)))) (bytes:=8) (rfl) (fun _=>rfl) (by kernel_rfl))) (ak (bI 1) bO))) (bv (ks':=kh M w0 r 38) 2 ⟨[(1,.pp 1 v2 0),(2,.ptr 2 0),(3,.ref 10),(11,iI 2)],[(1,aA v1),(2,aA bG)],[(10,⟨130,1,lm aV [(v2,6),(v2,10),(v2,12),(v2,14),(v2,22),(v2,16),(v2,24)]⟩)],[1,2,10]⟩ (bp (bo (eA 57 1 15 9 (bB [1,2,3,4,11] [1,2] [10] (bL 2 (nu 14 [.ref 10,iI 2,.adr v2 14,.adr v2 18,iI 2,.adr v2 22,.adr v2 26,.sl (lm aV [(v2,18),(v2,26)])]) [] [] [fY 22 10 ⟨130,1,lm aV [(v2,6),(v2,10),(v2,12),(v2,14),(v2,22),(v2,16),(v2,24),(v2,18),(v2,26)]⟩,bF Try.prog 40 Try.f65 (pn 3737) 9] (aB [.v 0 1,.v 0 2,.v 0 2,.v 0 2,.v 0 2,.v 0 2,.v 0 2,.v 0 1] (ak (eN (m:=0) (b9 22 10 130 1 aV (L:=([(v2,6),(v2,10),(v2,12),(v2,14),(v2,22),(v2,16),(v2,24)]:List (Nat×Nat))) (M:=([(v2,18),(v2,26)]:(List (Nat×Nat)))) (bytes:=8) (rfl) (fun _=>rfl) (by kernel_rfl))) (ak (bI 1) bO))) (bv (ks':=kh M w0 r 37) 2 ⟨[(1,.pp 1 v2 0),(2,.ptr 2 0),(3,.ref 10),(11,iI 3)],[(1,aA v1),(2,aA bG)],[(10,⟨130,1,lm aV [(v2,6),(v2,10),(v2,12),(v2,14),(v2,22),(v2,16),(v2,24),(v2,18),(v2,26)]⟩)],[1,2,10]⟩ ?_)))))))))))))))))))))))
 refine bp (bo (eA 57 1 15 9 (bB [1,2,3,4,11] [1,2] [10] (bL 2 (nu 14 [.ref 10,iI 3,.adr v2 14,.adr v2 20,iI 3,.adr v2 22,.adr v2 28,.sl (lm aV [(v2,20),(v2,28)])]) [] [] [fY 22 10 ⟨130,1,lm aV [(v2,6),(v2,10),(v2,12),(v2,14),(v2,22),(v2,16),(v2,24),(v2,18),(v2,26),(v2,20),(v2,28)]⟩,bF Try.prog 40 Try.f65 (pn 3737) 9] (aB [.v 0 1,.v 0 2,.v 0 2,.v 0 2,.v 0 2,.v 0 2,.v 0 2,.v 0 1] (ak (eN (m:=0) (b9 22 10 130 1 aV (L:=([(v2,6),(v2,10),(v2,12),(v2,14),(v2,22),(v2,16),(v2,24),(v2,18),(v2,26)]:List (Nat×Nat))) (M:=([(v2,20),(v2,28)]:(List (Nat×Nat)))) (bytes:=8) (rfl) (fun _=>rfl) (by kernel_rfl))) (ak (bI 1) bO))) (bv (ks':=kh M w0 r 36) 2 ⟨[(1,.pp 1 v2 0),(2,.ptr 2 0),(3,.ref 10),(11,iI 4)],[(1,aA v1),(2,aA bG)],[(10,⟨130,1,lm aV [(v2,6),(v2,10),(v2,12),(v2,14),(v2,22),(v2,16),(v2,24),(v2,18),(v2,26),(v2,20),(v2,28)]⟩)],[1,2,10]⟩ (bp (bo (Ep 4 5 3 10 (ag 1 (ap (br aV ([(v2,6),(v2,10),(v2,12),(v2,14),(v2,22),(v2,16),(v2,24),(v2,18),(v2,26),(v2,20),(v2,28)]:List (Nat×Nat))) (aa (bv (ks':=[cg 122,.b 2,cg 31]) 1 ⟨[(1,.pp 1 v2 0),(2,.ptr 2 0),(24,.ref 10),(25,iI 11),(26,iI 0)],[(1,aA v1),(2,aA bG)],[(10,⟨130,1,lm aV [(v2,6),(v2,10),(v2,12),(v2,14),(v2,22),(v2,16),(v2,24),(v2,18),(v2,26),(v2,20),(v2,28)]⟩)],[1,2,10]⟩ (lu 40 (c:=cat Try.f65 [1,1,1,0,1,0,0]) (by kernel_rfl) (bo (bV (ks':=cg 7832::cg 7833 :: .b 3::cg 1959::ch M w0 r 39) 8 (ag 0 (ap (cV 10 1 aV (L:=([(v2,6),(v2,10),(v2,12),(v2,14),(v2,22),(v2,16),(v2,24),(v2,18),(v2,26),(v2,20),(v2,28)]:List (Nat×Nat))) (i:=(0:Int)) (by kernel_rfl)) (ap (cj 130 0 aV aV (L:=([(v2,6),(v2,10),(v2,12),(v2,14),(v2,22),(v2,16),(v2,24),(v2,18),(v2,26),(v2,20),(v2,28)]:List (Nat×Nat))) (j:=(0:Int).toNat) (of_decide_eq_true (by kernel_rfl)) (fun _=>rfl)) (aa (ao 2 3 1 (ag 3 (cn 32 1 1 v2 6 0 (aa ?_)))))))))))))))))))))))
 obtain⟨h1,h⟩|⟨h1,h⟩:=ah h
 ·exact ab 34 h1 (aS 2 1 (ag 3 (cn 37 1 1 v2 6 0 (aa (ac 0 (wU hK (v2:=v2) h))))))
 ·exact ab 34 h1 (ac 2 (wU hK (v2:=v2) h))
end
noncomputable section
variable(M:Nat→Prop)(w0:aw)(r:Int)(v1:List aq)(v2:Fv)(v4:Int)(m1:Nat)(L1:Int→Option Int)
abbrev rd:Cx:=⟨Try.prog,19,M,w0⟩
abbrev ru:=bodyPost Try.prog Try.f90 (bn M w0 (fun v _=>v=iI r))
abbrev EU(ks:List aj)(s:AS):=VE (rd M w0) (ru M w0 r) ks .normal s
abbrev xX(n:Nat):aj:=.c (cat Try.f90 (pn n))
abbrev oM:List aj:=[.b 0,xX 7]
abbrev yO:List aj:=kl (rd M w0) (ru M w0 r) oM (cat Try.f90 (pn 52)) m1::oM
def yg:AS:=⟨[(0,.sl (lm aO v1)),(1,.fn v2.id v2.aG),(7,iI (v1.length:Int)),(8,iI v4)],[],[],[]⟩
abbrev vD:Prop:=∀{v4:Int},L1 v4=some r→LP (rd M w0) (ru M w0 r) oM (cat Try.f90 (pn 52)) m1 (yg v1 v2 v4)
variable{M w0 r v1 v2 v4 m1 L1}{K:Kn}{n:Nat}
theorem Ca(hK:ai K)(hL1:vD M w0 r v1 v2 m1 L1)(h:lD K n v1 v2 L1 v4=some r):EU M w0 r (xX 52::yO M w0 r m1) (yg v1 v2 v4):=by
 unfold lD at h;refine ao 6 7 3 ?_;obtain⟨h5,h⟩|⟨h5,h⟩:=ah h
 ·refine ab 9 h5 (cu 18 19 1 3 7 (ag 3 ?_));obtain⟨h6,h⟩:=aN h;refine ap (bw aO aW h6 (dS) (dC)) (aU 5 1 ?_);obtain⟨v5,h7,h⟩:=bind_some h;refine im (hK.ny h7) (aa ?_);obtain⟨h8,h⟩|⟨h8,h⟩:=ah h
  ·refine ab 16 h8 (aI 9 ?_);cases h;exact ba
  ·exact ab 16 h8 (ac 4 (bp (hL1 h)))
 ·refine ab 9 h5 (aI 8 ?_);cases h;exact ba
theorem Co(hK:ai K)(m:Nat):vD M w0 r v1 v2 m (nx K n v1 v2 m):=by
 induction m with
 | zero=>intro v4 h;cases h
 | succ m ih=>intro v4 h;have h:lD K n v1 v2 (nx K n v1 v2 m) v4=some r:=h;exact bo (Ca hK ih h)
theorem z8(hK:ai K)(h:qx K n v1 v2=some r):aJ Try.prog 90 [.sl (lm aO v1),.fn v2.id v2.aG] (fun v _=>v=iI r):=by
 refine bd (cat Try.f90 (pn 1)) Try.func90 Try.ntmps90 fun M w0=>(aY ⟨[(0,.sl (lm aO v1)),(1,.fn v2.id v2.aG)],[],[],[]⟩ ?_);unfold qx at h;exact bH 12 13 7 4 (ag 1 (ap (br aO v1) (aa (ac 1 (bW (p:=pn 26) n (Co hK n h))))))
end
noncomputable section
variable(M:Nat→Prop)(w0:aw)(r:Bool)(v1:List aq)(v2:Fv)  
variable{M w0 r v1 v2}{K:Kn}{n:Nat}
theorem CL(hK:ai K)(h:sd K n v1 v2=some r):aJ Try.prog 86 [.sl (lm aO v1),.fn v2.id v2.aG] (fun v _=>v=.bool r):=by
 refine bd (cat Try.f86 (pn 1)) Try.func86 Try.ntmps86 fun M w0=>(aY ⟨[(0,.sl (lm aO v1)),(1,.fn v2.id v2.aG)],[],[],[]⟩ ?_);unfold sd at h;refine ao 6 7 3 (ag 2 ?_);obtain⟨v3,h1,h⟩:=bind_some h;refine aL (z8 hK h1) (aa (aI 1 ?_));cases h;exact ba
end
noncomputable section
variable(M:Nat→Prop)(w0:aw)(r:(List aq)×Bool)(v1:aq)(v8:Int)(v9 v11:(List aq))(m1:Nat)(L1:Int→(List aq)→Option ((List aq)×Bool))
abbrev qf:Cx:=⟨Try.prog,24,M,w0⟩
abbrev pV:=bodyPost Try.prog Try.f75 (bn M w0 (fun v _=>v=.tup [.sl (lm aO r.1),.bool r.2]))
abbrev tM(ks:List aj)(s:AS):=VE (qf M w0) (pV M w0 r) ks .normal s
abbrev pJ(n:Nat):aj:=.c (cat Try.f75 (pn n))
abbrev rg:List aj:=[.b 0,pJ 15]
abbrev tD:List aj:=kl (qf M w0) (pV M w0 r) rg (cat Try.f75 (pn 116)) m1::rg
def C0:AS:=⟨[(4,.ref 19),(8,.sl (lm aO v1.Kids)),(9,iI (v1.Kids.length:Int)),(10,iI v8)],[],[(19,⟨72,59,lm aO v11⟩)],[19]⟩
def w3:AS:=⟨[(4,.ref 19),(8,.sl (lm aO v1.Kids)),(9,iI (v1.Kids.length:Int)),(10,iI v8)],[],[(19,⟨72,59,lm aO v9⟩)],[19]⟩
abbrev rp:Prop:=∀{v8:Int} {v9:(List aq)},L1 v8 v9=some r→LP (qf M w0) (pV M w0 r) rg (cat Try.f75 (pn 116)) m1 (w3 v1 v8 v9)
variable{M w0 r v1 v8 v9 v11 m1 L1}{K:Kn}{n:Nat}
theorem xq(hK:ai K)(hL1:rp M w0 r v1 m1 L1)(h:nG K n v1 v8 L1 v11=some r):tM M w0 r (.b 1::pJ 935::tD M w0 r m1) (C0 v1 v8 v11):=by
 unfold nG at h;exact ac 2 (bp (hL1 h))
theorem Dz(hK:ai K)(hL1:rp M w0 r v1 m1 L1)(h:m7 K n v1 L1 v8 v9=some r):tM M w0 r (pJ 116::tD M w0 r m1) (w3 v1 v8 v9):=by
 unfold m7 at h;refine ao 6 7 3 ?_;obtain⟨h13,h⟩|⟨h13,h⟩:=ah h
 ·refine ab 11 h13 (cu 8 9 1 3 5 (ag 0 ?_));obtain⟨h14,h⟩:=aN h;refine ap (bw aO aW h14 (dS) (dC)) (aa (ao 2 3 1 (ag 1 ?_)));obtain⟨v10,h15,h⟩:=bind_some h;refine aL (vY hK h15) (aa ?_);obtain⟨h16,h⟩|⟨h16,h⟩:=ah h
  ·refine ab 15 h16 (aS 2 1 (ag 2 (ap (eO aO ([(gD v1.Kids v8)]:List aq) (new:=[aW (gD v1.Kids v8)]) (by simp only[List.map_cons,List.map_nil,dC])) ?_)));obtain⟨h17,h⟩:=aN h;exact ap (b9 19 19 72 59 aO (rfl) (dS) h17) (aa (ac 0 (xq hK hL1 h)))
  ·exact ab 15 h16 (ac 2 (xq hK hL1 h))
 ·refine ab 11 h13 (jQ 2 3 6 (ag 2 (kg 19 ?_)));obtain⟨v12,h18,h⟩:=bind_some h;refine aL (CL hK h18) (aa (aI 1 ?_));cases h;exact eu
theorem Dp(hK:ai K)(m:Nat):rp M w0 r v1 m (nf K n v1 m):=by
 induction m with
 | zero=>intro v8 v9 h;cases h
 | succ m ih=>intro v8 v9 h;have h:m7 K n v1 (nf K n v1 m) v8 v9=some r:=h;exact bo (Dz hK ih h)
theorem xn(hK:ai K)(h:l7 K n v1=some r):aJ Try.prog 75 [.agg (aW v1)] (fun v _=>v=.tup [.sl (lm aO r.1),.bool r.2]):=by
 refine bd (cat Try.f75 (pn 1)) Try.func75 Try.ntmps75 fun M w0=>(aY ⟨[(0,.agg (aW v1))],[],[],[]⟩ ?_);unfold l7 at h;exact bH 28 29 15 6 (ag 2 (ap (br aO v1.Kids) (aa (ec 2 0 1 (bB [4,8,9,10] [] [] (d9 19 4 72 59 (ac 0 (bW (p:=pn 58) n (Dp hK n h)))))))))
end
noncomputable section
variable(M:Nat→Prop)(w0:aw)(r:Int×Int)(v1:aq)(v2:bU)(v6:(List aq)×Bool)(v11 v12 v13:Int)(m1:Nat)(L1:Int→Int→Int→Option (Int×Int))
abbrev qu:Cx:=⟨Try.prog,71,M,w0⟩
abbrev pU:=bodyPost Try.prog Try.f60 (bn M w0 (fun v _=>v=.tup [iI r.1,iI r.2]))
abbrev D4(ks:List aj)(s:AS):=VE (qu M w0) (pU M w0 r) ks .normal s
abbrev s6(n:Nat):aj:=.c (cat Try.f60 (pn n))
abbrev qW:List aj:=[.b 0,s6 63]
abbrev Dt:List aj:=kl (qu M w0) (pU M w0 r) qW (cat Try.f60 (pn 500)) m1::qW
def uO:AS:=⟨[(3,.ptr 3 0),(4,iI v11),(5,iI v12),(47,.sl (lm aO v6.1)),(48,iI (v6.1.length:Int)),(49,iI v13)],[(3,bX v2)],[],[3]⟩
abbrev sT:Prop:=∀{v11:Int} {v12:Int} {v13:Int},L1 v11 v12 v13=some r→LP (qu M w0) (pU M w0 r) qW (cat Try.f60 (pn 500)) m1 (uO v2 v6 v11 v12 v13)
variable{M w0 r v1 v2 v6 v11 v12 v13 m1 L1}{K:Kn}{n:Nat}
theorem Am(hK:ai K)(hL1:sT M w0 r v2 v6 m1 L1)(h:lh K n v2 v6 L1 v11 v12 v13=some r):D4 M w0 r (s6 500::Dt M w0 r m1) (uO v2 v6 v11 v12 v13):=by
 unfold lh at h;refine ao 6 7 3 ?_;obtain⟨h13,h⟩|⟨h13,h⟩:=ah h
 ·refine ab 50 h13 (cu 8 9 1 3 5 (ag 0 ?_));obtain⟨h14,h⟩:=aN h;refine ap (bw aO aW h14 (dS) (dC)) (aa (ao 2 3 1 (ag 3 ?_)));obtain⟨v14,h15,h⟩:=bind_some h;exact im (hK.nL h15) (aa (ac 3 (bp (hL1 h))))
 ·refine ab 50 h13 (jQ 2 3 6 (ag 1 ?_));obtain⟨v15,h16,h⟩:=bind_some h;refine aL (dL hK h16) (aU 3 1 ?_);obtain⟨v16,h17,h⟩:=bind_some h;refine aL (dL hK h17) (aa (aI 1 ?_));cases h;exact eu
theorem Eb(hK:ai K)(m:Nat):sT M w0 r v2 v6 m (m8 K n v2 v6 m):=by
 induction m with
 | zero=>intro v11 v12 v13 h;cases h
 | succ m ih=>intro v11 v12 v13 h;have h:lh K n v2 v6 (m8 K n v2 v6 m) v11 v12 v13=some r:=h;exact bo (Am hK ih h)
theorem tz(hK:ai K)(h:nU K n v1 v2=some r):aJ Try.prog 60 [.agg (aW v1),.agg (bX v2)] (fun v _=>v=.tup [iI r.1,iI r.2]):=by
 refine bd (cat Try.f60 (pn 1)) Try.func60 Try.ntmps60 fun M w0=>(aY ⟨[(0,.agg (aW v1)),(1,.agg (bX v2))],[],[],[]⟩ ?_);unfold nU at h;refine bH 12 13 7 4 (ag 2 ?_);obtain⟨v3,h1,h⟩:=bind_some h;refine aL (xv hK h1) (aU 4 1 ?_);obtain⟨v4,h2,h⟩:=bind_some h;refine aL (cI hK h2) (aa (aS 3 2 ?_));obtain⟨h3,h⟩|⟨h3,h⟩:=ah h
 ·refine ab 22 h3 (ao 4 5 2 (ag 1 ?_));obtain⟨v5,h4,h⟩:=bind_some h;refine aL (dL hK h4) (aa (aI 4 ?_));cases h;exact eu
 ·refine ab 22 h3 (eZ 2 3 3 (ag 1 ?_));obtain⟨v6,h5,h⟩:=bind_some h;refine aL (xn hK h5) (aa (ao 5 3 3 ?_));obtain⟨h6,h⟩|⟨h6,h⟩:=ah h
  ·refine ab 33 h6 (ao 4 5 2 (ag 5 ?_));obtain⟨v7,h7,h⟩:=bind_some h;refine im (hK.nI h7) (aa (ao 2 3 1 (ag 1 ?_)));obtain⟨v8,h8,h⟩:=bind_some h;refine aL (dL hK h8) (aU 3 1 ?_);obtain⟨v9,h9,h⟩:=bind_some h;refine aL (dL hK h9) (aa (aI 2 ?_));cases h;exact eu
  ·exact ab 33 h6 (gF 4 5 3 4 (ag 1 (ap (br aO v6.1) (aa (ac 1 (bW (p:=pn 250) n (Eb hK n h)))))))
end
noncomputable section
variable(M:Nat→Prop)(w0:aw)(r:Int)(v1:aK)(v2 v3 v5 v7:Int)  
abbrev s8(n:Nat):aj:=.c (cat Try.f61 (pn n))
abbrev Dg:Cx:=⟨Try.prog,37,M,w0⟩
abbrev DP:=bodyPost Try.prog Try.f61 (bn M w0 (fun v _=>v=iI r))
abbrev vb(ks:List aj)(s:AS):=VE (Dg M w0) (DP M w0 r) ks .normal s
def zp:AS:=⟨[(2,iI v7)],[],[],[]⟩
def BB:AS:=⟨[(1,iI v2),(2,iI v5),(3,.ptr 3 0)],[(3,aA v1)],[],[3]⟩
variable{M w0 r v1 v2 v3 v5 v7}{K:Kn}{n:Nat}
theorem uW(hK:ai K)(h:nO K n v7=some r):vb M w0 r [s8 31] (zp v7):=by
 unfold nO at h;refine aI 3 ?_;cases h;exact ba
theorem xG(hK:ai K)(h:mZ K n v1 v2 v5=some r):vb M w0 r [s8 15] (BB v1 v2 v5):=by
 unfold mZ at h;refine bH 4 5 3 2 (ag 3 ?_);obtain⟨v6,h3,h⟩:=bind_some h;refine aL (cI hK h3) (aa (aS 3 2 ?_));obtain⟨h4,h⟩|⟨h4,h⟩:=ah h
 ·exact ab 32 h4 (ac 2 (uW hK h))
 ·exact ab 32 h4 (ac 2 (uW hK h))
theorem lT(hK:ai K)(h:iD K n v1 v2 v3=some r):aJ Try.prog 61 [.agg (aA v1),iI v2,iI v3] (fun v _=>v=iI r):=by
 refine bd (cat Try.f61 (pn 1)) Try.func61 Try.ntmps61 fun M w0=>(aY ⟨[(0,.agg (aA v1)),(1,iI v2),(2,iI v3)],[],[],[]⟩ ?_);unfold iD at h;refine bH 28 29 15 6 (ag 3 ?_);obtain⟨v4,h1,h⟩:=bind_some h;refine aL (cI hK h1) (aa (aS 3 2 ?_));obtain⟨h2,h⟩|⟨h2,h⟩:=ah h
 ·exact ab 20 h2 (ac 2 (xG hK h))
 ·exact ab 20 h2 (ac 2 (xG hK h))
end
noncomputable section
variable(M:Nat→Prop)(w0:aw)(r:Int)(v1:aq)(v2:Int)(v3:bU)(v9:Int)  
abbrev E9(n:Nat):aj:=.c (cat Try.f44 (pn n))
abbrev DR:Cx:=⟨Try.prog,46,M,w0⟩
abbrev Cc:=bodyPost Try.prog Try.f44 (bn M w0 (fun v _=>v=iI r))
abbrev DB(ks:List aj)(s:AS):=VE (DR M w0) (Cc M w0 r) ks .normal s
def EF:AS:=⟨[(1,iI v2),(3,.ptr 3 0),(7,iI v9)],[(3,aW v1)],[],[3]⟩
variable{M w0 r v1 v2 v3 v9}{K:Kn}{n:Nat}
theorem xL(hK:ai K)(h:mR K n v1 v2 v9=some r):DB M w0 r [E9 15] (EF v1 v2 v9):=by
 unfold mR at h;refine ao 2 3 1 (ag 4 ?_);obtain⟨v10,h7,h⟩:=bind_some h;refine aL (lT hK h7) (aa (aI 1 ?_));cases h;exact ba
theorem Ce(hK:ai K)(h:pT K n v1 v2 v3=some r):aJ Try.prog 44 [.agg (aW v1),iI v2,.agg (bX v3)] (fun v _=>v=iI r):=by
 refine bd (cat Try.f44 (pn 1)) Try.func44 Try.ntmps44 fun M w0=>(aY ⟨[(0,.agg (aW v1)),(1,iI v2),(2,.agg (bX v3))],[],[],[]⟩ ?_);unfold pT at h;refine ao 6 7 3 (ag 4 ?_);obtain⟨v4,h1,h⟩:=bind_some h;refine aL (cI hK h1) (aa (ao 5 3 3 ?_));obtain⟨h2,h⟩|⟨h2,h⟩:=ah h
 ·refine ab 21 h2 (ao 4 5 2 (ag 2 ?_));obtain⟨v5,h3,h⟩:=bind_some h;refine aL (tz hK h3) (aa (ao 2 3 1 (bB [1,3,9,10] [3] [] ?_)));obtain⟨v6,h4,h⟩:=bind_some h;obtain⟨v7,h5,h⟩:=bind_some h;obtain⟨v8,h6,h⟩:=bind_some h;exact bL 1 (nu 28 [iI v2,iI v6,.ptr 3 2,.agg (aA v1.Style),iI v2,.agg (bm v7),iI v8,iI (af (v6-v8))]) [] [] [bF Try.prog 46 Try.f44 (pn 234) 8] (aB [.v 0 1] (ak (bR 0 1 29 (dL hK h4)) (aB (vz 3) (ak (bR 0 1 33 (jE hK h5)) (ak (bR 0 1 34 (hH hK h6)) (aB [.v 0 1] (ak (bI 0) bO))))))) (ac 1 (xL hK h))
 ·exact ab 21 h2 (ac 2 (xL hK h))
end
noncomputable section
variable(M:Nat→Prop)(w0:aw)(r v1:ae)(v2:Int)(v3:Int×Bool)(v5:Int)  
abbrev Aa(n:Nat):aj:=.c (cat Try.f45 (pn n))
abbrev z1:Cx:=⟨Try.prog,45,M,w0⟩
abbrev Dw:=bodyPost Try.prog Try.f45 (bn M w0 (fun v _=>v=.agg (aD r)))
abbrev Ah(ks:List aj)(s:AS):=VE (z1 M w0) (Dw M w0 r) ks .normal s
def E5:AS:=⟨[(2,.ptr 2 0),(4,.ptr 4 0)],[(2,aD ({ v1 with X:=(af (v1.X+v3.1)),Y:=v5 }:ae)),(4,List.set (aD bh) 66 (.nils))],[],[2,4]⟩
variable{M w0 r v1 v2 v3 v5}{K:Kn}{n:Nat}
theorem ut(hK:ai K)(h:mE K n v1 v3 v5=some r):Ah M w0 r [Aa 63] (E5 v1 v3 v5):=by
 unfold mE at h;refine aI 3 ?_;cases h;exact ba
theorem wZ(hK:ai K)(h:lw K n v1 v2=some r):aJ Try.prog 45 [.agg (aD v1),iI v2] (fun v _=>v=.agg (aD r)):=by
 refine bd (cat Try.f45 (pn 1)) Try.func45 Try.ntmps45 fun M w0=>(aY ⟨[(0,.agg (aD v1)),(1,iI v2)],[],[],[]⟩ ?_);unfold lw at h;refine ao 13 7 5 ?_;obtain⟨h1,h⟩|⟨h1,h⟩:=ah h
 ·refine ab 12 h1 (aI 5 ?_);cases h;exact ba
 ·refine ab 12 h1 (eZ 2 3 3 (ag 4 ?_));obtain⟨v3,h2,h⟩:=bind_some h;refine aL (cI hK h2) (aa (ao 13 7 5 ?_));obtain⟨h3,h⟩|⟨h3,h⟩:=ah h
  ·refine ab 31 h3 (ao 4 5 2 (ag 3 ?_));obtain⟨v4,h4,h⟩:=bind_some h;exact aL (cI hK h4) (aa (ac 1 (ut hK h)))
  ·exact ab 31 h3 (ac 2 (ut hK h))
end
noncomputable section
variable(M:Nat→Prop)(w0:aw)(r:Int)(v1:aE)  
variable{M w0 r v1}{K:Kn}{n:Nat}
theorem g9(hK:ai K)(h:eW K n v1=some r):aJ Try.prog 48 [.agg (bx v1)] (fun v _=>v=iI r):=by
 refine bd (cat Try.f48 (pn 1)) Try.func48 Try.ntmps48 fun M w0=>(aY ⟨[(0,.agg (bx v1))],[],[],[]⟩ ?_);unfold eW at h;refine aI 5 ?_;cases h;exact ba
end
noncomputable section
variable(M:Nat→Prop)(w0:aw)(r:aE)(v1 v2:aE)  
variable{M w0 r v1 v2}{K:Kn}{n:Nat}
theorem j3(hK:ai K)(h:fQ K n v1 v2=some r):aJ Try.prog 79 [.agg (bx v1),.agg (bx v2)] (fun v _=>v=.agg (bx r)):=by
 refine bd (cat Try.f79 (pn 1)) Try.func79 Try.ntmps79 fun M w0=>(aY ⟨[(0,.agg (bx v1)),(1,.agg (bx v2))],[],[],[]⟩ ?_);unfold fQ at h;refine aI 5 ?_;cases h;exact ba
end
noncomputable section
variable(M:Nat→Prop)(w0:aw)(r:(List ae)×Int×aE×aE×Bool)(v1:List ae)(v16:Int)(v17:Bool)(v18:Int)(v19 v20:aE)(v21:List ae)(v22:aE)(v24:Int)(v25:aE)(v26:Int)(v27:Bool)(v28 v29 v30:aE)(m1:Nat)(L1:Int→Bool→Int→aE→aE→(List ae)→Option ((List ae)×Int×aE×aE×Bool))
abbrev qt:Cx:=⟨Try.prog,52,M,w0⟩
abbrev sA:=bodyPost Try.prog Try.f76 (bn M w0 (fun v s=>v=.tup [.ref 43,iI r.2.1,.agg (bx r.2.2.1),.agg (bx r.2.2.2.1),.bool r.2.2.2.2]∧look 43 s.r=some ⟨64,67,lm au r.1⟩))
abbrev jU(ks:List aj)(s:AS):=VE (qt M w0) (sA M w0 r) ks .normal s
abbrev eg(n:Nat):aj:=.c (cat Try.f76 (pn n))
abbrev pH:List aj:=[.b 0,eg 31]
abbrev lj:List aj:=kl (qt M w0) (sA M w0 r) pH (cat Try.f76 (pn 244)) m1::pH
def C1:AS:=⟨[(2,.ref 43),(3,iI v26),(4,.ptr 4 0),(5,.ptr 5 0),(6,.bool v27),(7,.ptr 7 0),(9,.ptr 9 0),(10,.sl (lm au v1)),(11,iI (v1.length:Int)),(12,iI v18)],[(4,bx v28),(5,bx cb),(7,bx v29),(9,aD ({ (gD v1 v18)with Y:=v24 }:ae))],[(43,⟨64,67,lm au v21⟩)],[4,5,7,9,43]⟩
def yZ:AS:=⟨[(2,.ref 43),(4,.ptr 4 0),(5,.ptr 5 0),(7,.ptr 7 0),(9,.ptr 9 0),(10,.sl (lm au v1)),(11,iI (v1.length:Int)),(12,iI v18)],[(4,bx v25),(5,bx cb),(7,bx v22),(9,aD ({ (gD v1 v18)with Y:=v24 }:ae))],[(43,⟨64,67,lm au v21⟩)],[4,5,7,9,43]⟩
def Au:AS:=⟨[(2,.ref 43),(3,iI v16),(4,.ptr 4 0),(5,.ptr 5 0),(6,.bool v17),(7,.ptr 7 0),(9,.ptr 9 0),(10,.sl (lm au v1)),(11,iI (v1.length:Int)),(12,iI v18)],[(4,bx v19),(5,bx cb),(7,bx v22),(9,aD ({ (gD v1 v18)with Y:=v24 }:ae))],[(43,⟨64,67,lm au v21⟩)],[4,5,7,9,43]⟩
def CR:AS:=⟨[(2,.ref 43),(3,iI v16),(4,.ptr 4 0),(5,.ptr 5 0),(6,.bool v17),(7,.ptr 7 0)],[(4,bx v30),(5,bx cb),(7,bx v20)],[(43,⟨64,67,lm au v21⟩)],[4,5,7,43]⟩
def wH:AS:=⟨[(2,.ref 43),(3,iI v16),(4,.ptr 4 0),(5,.ptr 5 0),(6,.bool v17),(7,.ptr 7 0),(10,.sl (lm au v1)),(11,iI (v1.length:Int)),(12,iI v18)],[(4,bx v19),(5,bx cb),(7,bx v20)],[(43,⟨64,67,lm au v21⟩)],[4,5,7,43]⟩
abbrev ku:Prop:=∀{v16:Int} {v17:Bool} {v18:Int} {v19:aE} {v20:aE} {v21:(List ae)},L1 v16 v17 v18 v19 v20 v21=some r→LP (qt M w0) (sA M w0 r) pH (cat Try.f76 (pn 244)) m1 (wH v1 v16 v17 v18 v19 v20 v21)
variable{M w0 r v1 v16 v17 v18 v19 v20 v21 v22 v24 v25 v26 v27 v28 v29 v30 m1 L1}{K:Kn}{n:Nat}
theorem tS(hK:ai K)(hL1:ku M w0 r v1 m1 L1)(h:nd K n v1 v18 v21 v24 L1 v26 v27 v28 v29=some r):jU M w0 r (eg 125343 :: .b 1::eg 1959::lj M w0 r m1) (C1 v1 v18 v21 v24 v26 v27 v28 v29):=by
 unfold nd at h;refine ag 2 (ap (eO au ([({ (gD v1 v18)with Y:=v24 }:ae)]:List ae) (new:=[aD ({ (gD v1 v18)with Y:=v24 }:ae)]) (by simp only[List.map_cons,List.map_nil,cr])) ?_);obtain⟨h22,h⟩:=aN h;exact ap (b9 43 43 64 67 au (rfl) (d8) h22) (aa (ac 2 (bp (hL1 h))))
theorem xx(hK:ai K)(hL1:ku M w0 r v1 m1 L1)(h:nj K n v1 v18 v21 v22 v24 L1 v25=some r):jU M w0 r (eg 1002741::eg 125343 :: .b 1::eg 1959::lj M w0 r m1) (yZ v1 v18 v21 v22 v24 v25):=by
 unfold nj at h;exact ac 5 (tS hK hL1 h)
theorem yl(hK:ai K)(hL1:ku M w0 r v1 m1 L1)(h:lz K n v1 v16 v17 v18 v19 v21 v22 L1 v24=some r):jU M w0 r (eg 62671 :: .b 1::eg 1959::lj M w0 r m1) (Au v1 v16 v17 v18 v19 v21 v22 v24):=by
 unfold lz at h;refine ao 5 3 3 ?_;obtain⟨h20,h⟩|⟨h20,h⟩:=ah h
 ·refine ab 30 h20 (ao 9 5 4 ?_);obtain⟨h21,h⟩|⟨h21,h⟩:=ah h
  ·exact ab 31 h21 (ac 2 (xx hK hL1 h))
  ·exact ab 31 h21 (ac 2 (xx hK hL1 h))
 ·exact ab 30 h20 (ac 2 (tS hK hL1 h))
theorem xk(hK:ai K)(h:li K n v16 v17 v20 v21 v30=some r):jU M w0 r [eg 63] (CR v16 v17 v20 v21 v30):=by
 unfold li at h;refine ao 2 3 1 (bB [2,3,4,5,6,7] [4,5,7] [43] (bL 5 (nu 47 [.ref 43,iI v16,.agg (bx v30),.agg (bx v20),.bool v17]) [] [] [bF Try.prog 52 Try.f76 (pn 126) 5,bF Try.prog 52 Try.f76 (pn 126) 6,bF Try.prog 52 Try.f76 (pn 126) 7,bF Try.prog 52 Try.f76 (pn 126) 8,bF Try.prog 52 Try.f76 (pn 126) 9] (aB [.v 0 1,.v 0 2,.v 0 3,.v 0 4,.v 0 5] (ak (bI 0) (ak (bI 1) (ak (bI 2) (ak (bI 3) (ak (bI 4) bO)))))) (aI 1 ?_)));cases h;exact o7
theorem Fg(hK:ai K)(hL1:ku M w0 r v1 m1 L1)(h:mW K n v1 L1 v16 v17 v18 v19 v20 v21=some r):jU M w0 r (eg 244::lj M w0 r m1) (wH v1 v16 v17 v18 v19 v20 v21):=by
 unfold mW at h;refine ao 6 7 3 ?_;obtain⟨h15,h⟩|⟨h15,h⟩:=ah h
 ·refine ab 13 h15 (cu 8 9 1 3 5 (ag 0 ?_));obtain⟨h16,h⟩:=aN h;refine ap (bw au aD h16 (d8) (cr)) (aa (ao 2 3 1 (ag 3 ?_)));obtain⟨v22,h17,h⟩:=bind_some h;refine aL (j3 hK h17) (aa (ao 13 7 5 ?_));obtain⟨h18,h⟩|⟨h18,h⟩:=ah h
  ·refine ab 22 h18 (aS 2 1 (ag 2 ?_));obtain⟨v23,h19,h⟩:=bind_some h;exact aL (g9 hK h19) (aa (ac 0 (yl hK hL1 h)))
  ·exact ab 22 h18 (ac 2 (yl hK hL1 h))
 ·refine ab 13 h15 (jQ 5 3 8 ?_);obtain⟨h23,h⟩|⟨h23,h⟩:=ah h
  ·exact ab 45 h23 (ac 2 (xk hK h))
  ·exact ab 45 h23 (ac 2 (xk hK h))
theorem BS(hK:ai K)(m:Nat):ku M w0 r v1 m (mm K n v1 m):=by
 induction m with
 | zero=>intro v16 v17 v18 v19 v20 v21 h;cases h
 | succ m ih=>intro v16 v17 v18 v19 v20 v21 h;have h:mW K n v1 (mm K n v1 m) v16 v17 v18 v19 v20 v21=some r:=h;exact bo (Fg hK ih h)
theorem Eg(hK:ai K)(h:o8 K n v1=some r):aJ Try.prog 76 [.sl (lm au v1)] (fun v s=>v=.tup [.ref 43,iI r.2.1,.agg (bx r.2.2.1),.agg (bx r.2.2.2.1),.bool r.2.2.2.2]∧look 43 s.r=some ⟨64,67,lm au r.1⟩):=by
 refine bd (cat Try.f76 (pn 1)) Try.func76 Try.ntmps76 fun M w0=>(aY ⟨[(0,.sl (lm au v1))],[],[],[]⟩ ?_);unfold o8 at h;exact bH 60 61 31 8 (ag 1 (ap (br au v1) (aa (ec 2 0 1 (bB [2,3,4,5,6,7,10,11,12] [4,5,7] [] (d9 43 2 64 67 (ac 0 (bW (p:=pn 122) n (BS hK n h)))))))))
end
noncomputable section
variable(M:Nat→Prop)(w0:aw)(r v1:List ae)  
variable{M w0 r v1}{K:Kn}{n:Nat}
theorem Cg(hK:ai K)(h:sC K n v1=some r):aJ Try.prog 77 [.sl (lm au v1)] (fun v s=>v=.ref 5∧look 5 s.r=some ⟨64,67,lm au r⟩):=by
 refine bd (cat Try.f77 (pn 1)) Try.func77 Try.ntmps77 fun M w0=>(aY ⟨[(0,.sl (lm au v1))],[],[],[]⟩ ?_);unfold sC at h;refine bH 12 13 7 4 (ag 1 ?_);refine BR (aP Try.f77 (pn 12) 1) (.eql) 39 39 (.tmp 3) (.const (.slice none 0 0)) 4 (lm au v1) (r:=aF Try.f77 (pn 12) 2) (e:=64) (by kernel_rfl) (by kernel_rfl) (by kernel_rfl) (by kernel_rfl) (by kernel_rfl) (by kernel_rfl) (by kernel_rfl) (by kernel_rfl) (fun hq=>?_) ?_
 ·have h:=El (by simpa using hq) h;refine aa (aI 5 (d9 5 2 64 67 ?_));cases h;exact dB
 ·have h:=zG h;refine aa (eZ 2 3 3 (ag 0 (yF 39 5 (e:=64) (sz:=67) (aU 2 1 ?_))));obtain⟨h2,h⟩:=aN h;refine ap (b9 7 5 64 67 au (rfl) (d8) h2) (aa (aI 1 ?_));cases h;exact dB
end
noncomputable section
variable(M:Nat→Prop)(w0:aw)(r:aE)(v1:Int)  
variable{M w0 r v1}{K:Kn}{n:Nat}
theorem u3(hK:ai K)(h:mG K n v1=some r):aJ Try.prog 78 [iI v1] (fun v _=>v=.agg (bx r)):=by
 refine bd (cat Try.f78 (pn 1)) Try.func78 Try.ntmps78 fun M w0=>(aY ⟨[(0,iI v1)],[],[],[]⟩ ?_);unfold mG at h;refine aI 5 ?_;cases h;exact ba
end
noncomputable section
variable(M:Nat→Prop)(w0:aw)(r:Int)(v1:bq)  
variable{M w0 r v1}{K:Kn}{n:Nat}
theorem Ay(hK:ai K)(h:pZ K n v1=some r):aJ Try.prog 80 [.agg (bm v1)] (fun v _=>v=iI r):=by
 refine bd (cat Try.f80 (pn 1)) Try.func80 Try.ntmps80 fun M w0=>(aY ⟨[(0,.agg (bm v1))],[],[],[]⟩ ?_);unfold pZ at h;refine aI 5 ?_;cases h;exact ba
end
end Go.Proofs.Ytnpmlepplfaijaa

/- The runs of the functions that InlineStyles reaches do what their plain forms say, part 0. Made by a program. -/
import Derived.Test.YtnpmlepplfaijaaIsGk
namespace Go.Proofs.Ytnpmlepplfaijaa
open Go.RowKit
set_option maxRecDepth 20000
set_option linter.all false
set_option linter.unusedVariables false
set_option linter.unusedSimpArgs false
noncomputable section
variable(M:Nat→Prop)(w0:aw)(r v1:Int)  
variable{M w0 r v1}{K:Kn}{n:Nat}
theorem lL(hK:aj K)(h:gj K n v1=some r):aI Try.prog 50 [iI v1] (fun v _=>v=iI r):=by
 refine aZ (cat Try.f50 (pn 1)) Try.func50 Try.ntmps50 fun M w0=>(aY ⟨[(0,iI v1)],[],[],[]⟩ ?_);unfold gj at h;refine aC 5 ?_;cases h;exact aV
end
noncomputable section
variable(M:Nat→Prop)(w0:aw)(r v1:Int)  
variable{M w0 r v1}{K:Kn}{n:Nat}
theorem u0(hK:aj K)(h:iT K n v1=some r):aI Try.prog 25 [iI v1] (fun v _=>v=iI r):=by
 refine aZ (cat Try.f25 (pn 1)) Try.func25 Try.ntmps25 fun M w0=>(aY ⟨[(0,iI v1)],[],[],[]⟩ ?_);unfold iT at h;refine ao 6 7 3 (ai 1 ?_);obtain⟨v2,h1,h⟩:=bind_some h;refine aD (lL hK h1) (aa (aC 1 ?_));cases h;exact aV
end
noncomputable section
variable(M:Nat→Prop)(w0:aw)(r v1:Int)  
variable{M w0 r v1}{K:Kn}{n:Nat}
theorem tG(hK:aj K)(h:i9 K n v1=some r):aI Try.prog 26 [iI v1] (fun v _=>v=iI r):=by
 refine aZ (cat Try.f26 (pn 1)) Try.func26 Try.ntmps26 fun M w0=>(aY ⟨[(0,iI v1)],[],[],[]⟩ ?_);unfold i9 at h;refine ao 6 7 3 (ai 1 ?_);obtain⟨v2,h1,h⟩:=bind_some h;refine aD (lL hK h1) (aN 3 1 ?_);obtain⟨v3,h2,h⟩:=bind_some h;refine aD (lL hK h2) (aa (aC 1 ?_));cases h;exact aV
end
noncomputable section
variable(M:Nat→Prop)(w0:aw)(r:Int×Int)(v1:aH)  
variable{M w0 r v1}{K:Kn}{n:Nat}
theorem jm(hK:aj K)(h:eH K n v1=some r):aI Try.prog 9 [.agg (au v1)] (fun v _=>v=.tup [iI r.1,iI r.2]):=by
 refine aZ (cat Try.f9 (pn 1)) Try.func9 Try.ntmps9 fun M w0=>(aY ⟨[(0,.agg (au v1))],[],[],[]⟩ ?_);unfold eH at h;refine ao 14 15 5 (bE [1,4] [1] [] ?_);obtain⟨v2,h1,h⟩:=bind_some h;obtain⟨v3,h2,h⟩:=bind_some h;refine bJ 1 (nu 8 [.ptr 1 37,iI v1.FontSize,iI v2,iI (max v1.LineHeight 0),.ptr 1 37,iI v1.FontSize,iI v3,iI (af ((max v1.LineHeight 0)-v3)),iI ((af ((max v1.LineHeight 0)-v3)) / 2),iI (af (v2+((af ((max v1.LineHeight 0)-v3)) / 2)))]) [] [] [bz Try.prog 22 Try.f9 (pn 14) 10] (ay (vz 2) (ag (bI 0 1 10 (u0 hK h1)) (ay (vz 3) (ag (bI 0 1 14 (tG hK h2)) (ay (vz 3) (ag (bw 0) bG)))))) (aC 3 ?_);cases h;exact dW
end
noncomputable section
variable(M:Nat→Prop)(w0:aw)(r:Int)(v1:List aB)(v2 v4:Int)(v5:Bool)(m1:Nat)(L1:Int→Option Int)
abbrev oV:Cx:=⟨Try.prog,22,M,w0⟩
abbrev qK:=bodyPost Try.prog Try.f30 (bn M w0 (fun v _=>v=iI r))
abbrev uI(ks:List ak)(s:AS):=VE (oV M w0) (qK M w0 r) ks .normal s
abbrev mT(n:Nat):ak:=.c (cat Try.f30 (pn n))
abbrev qA:List ak:=[.b 0,mT 15]
abbrev s6:List ak:=kl (oV M w0) (qK M w0 r) qA (cat Try.f30 (pn 56)) m1::qA
def Df:AS:=⟨[(0,.sl (lm aE v1)),(5,iI v4),(18,.bool v5)],[],[],[]⟩
def wG:AS:=⟨[(0,.sl (lm aE v1)),(5,iI v4)],[],[],[]⟩
abbrev qL:Prop:=∀{v4:Int},L1 v4=some r→LP (oV M w0) (qK M w0 r) qA (cat Try.f30 (pn 56)) m1 (wG v1 v4)
variable{M w0 r v1 v2 v4 v5 m1 L1}{K:Kn}{n:Nat}
theorem s5(hK:aj K)(hL1:qL M w0 r v1 m1 L1)(h:lP K n v1 v4 L1 v5=some r):uI M w0 r (mT 225::mT 113::s6 M w0 r m1) (Df v1 v4 v5):=by
 unfold lP at h;obtain⟨h6,h⟩|⟨h6,h⟩:=ah h
 ·exact ac 18 h6 (ab 5 (bo (hL1 h)))
 ·refine ac 18 h6 (aC 8 ?_);cases h;exact aV
theorem Dd(hK:aj K)(hL1:qL M w0 r v1 m1 L1)(h:kA K n v1 L1 v4=some r):uI M w0 r (mT 56::s6 M w0 r m1) (wG v1 v4):=by
 unfold kA at h;refine bK 4 5 3 2 (ai 2 (ax (bA aE v1) (aN 5 2 ?_)));obtain⟨h4,h⟩|⟨h4,h⟩:=ah h
 ·refine ap 12 h4 (aN 7 2 ?_);obtain⟨h5,h⟩:=aS h;exact ax (bD aE aE h5 (ex) (fun _=>rfl)) (aa (ab 0 (s5 hK hL1 h)))
 ·exact ap 12 h4 (aa (ab 0 (s5 hK hL1 h)))
theorem Db(hK:aj K)(m:Nat):qL M w0 r v1 m (nL K n v1 m):=by
 induction m with
 | zero=>intro v4 h;cases h
 | succ m ih=>intro v4 h;have h:kA K n v1 (nL K n v1 m) v4=some r:=h;exact bm (Dd hK ih h)
theorem vD(hK:aj K)(h:l9 K n v1 v2=some r):aI Try.prog 30 [.sl (lm aE v1),iI v2] (fun v _=>v=iI r):=by
 refine aZ (cat Try.f30 (pn 1)) Try.func30 Try.ntmps30 fun M w0=>(aY ⟨[(0,.sl (lm aE v1)),(1,iI v2)],[],[],[]⟩ ?_);unfold l9 at h;exact ab 6 (ce (p:=pn 28) n (Db hK n h))
end
noncomputable section
variable(M:Nat→Prop)(w0:aw)(r:Int)(v1:List aB)(v3:Int)(m1:Nat)(L1:Int→Option Int)
abbrev pr:Cx:=⟨Try.prog,18,M,w0⟩
abbrev qa:=bodyPost Try.prog Try.f51 (bn M w0 (fun v _=>v=iI r))
abbrev Cu(ks:List ak)(s:AS):=VE (pr M w0) (qa M w0 r) ks .normal s
abbrev vb(n:Nat):ak:=.c (cat Try.f51 (pn n))
abbrev qg:List ak:=[.b 0,vb 7]
abbrev Ak:List ak:=kl (pr M w0) (qa M w0 r) qg (cat Try.f51 (pn 52)) m1::qg
def ss:AS:=⟨[(0,.sl (lm aE v1)),(3,iI v3)],[],[],[]⟩
abbrev wn:Prop:=∀{v3:Int},L1 v3=some r→LP (pr M w0) (qa M w0 r) qg (cat Try.f51 (pn 52)) m1 (ss v1 v3)
variable{M w0 r v1 v3 m1 L1}{K:Kn}{n:Nat}
theorem zV(hK:aj K)(hL1:wn M w0 r v1 m1 L1)(h:lX K n v1 L1 v3=some r):Cu M w0 r (vb 52::Ak M w0 r m1) (ss v1 v3):=by
 unfold lX at h;refine ao 5 3 3 ?_;obtain⟨h5,h⟩|⟨h5,h⟩:=ah h
 ·refine ac 8 h5 (cN 8 9 1 3 5 (ai 2 ?_));obtain⟨h6,h⟩:=aS h;refine ax (bD aE aE h6 (ex) (fun _=>rfl)) (aa ?_);obtain⟨h7,h⟩|⟨h7,h⟩:=ah h
  ·refine ac 16 h7 (aC 9 ?_);cases h;exact aV
  ·exact ac 16 h7 (ab 4 (bo (hL1 h)))
 ·refine ac 8 h5 (aC 8 ?_);cases h;exact aV
theorem z4(hK:aj K)(m:Nat):wn M w0 r v1 m (lM K n v1 m):=by
 induction m with
 | zero=>intro v3 h;cases h
 | succ m ih=>intro v3 h;have h:lX K n v1 (lM K n v1 m) v3=some r:=h;exact bm (zV hK ih h)
theorem wg(hK:aj K)(h:mG K n v1=some r):aI Try.prog 51 [.sl (lm aE v1)] (fun v _=>v=iI r):=by
 refine aZ (cat Try.f51 (pn 1)) Try.func51 Try.ntmps51 fun M w0=>(aY ⟨[(0,.sl (lm aE v1))],[],[],[]⟩ ?_);unfold mG at h;exact bK 12 13 7 4 (ai 1 (ax (bA aE v1) (aa (ab 1 (ce (p:=pn 26) n (z4 hK n h))))))
end
noncomputable section
variable(M:Nat→Prop)(w0:aw)(r:Int)(v1:List aB)(v2 v3 v5:Int)(m1:Nat)(L1:Int→Int→Option Int)
abbrev qW:Cx:=⟨Try.prog,33,M,w0⟩
abbrev qR:=bodyPost Try.prog Try.f31 (bn M w0 (fun v _=>v=iI r))
abbrev sB(ks:List ak)(s:AS):=VE (qW M w0) (qR M w0 r) ks .normal s
abbrev pu(n:Nat):ak:=.c (cat Try.f31 (pn n))
abbrev pT:List ak:=[.b 0,pu 15]
abbrev Ds:List ak:=kl (qW M w0) (qR M w0 r) pT (cat Try.f31 (pn 116)) m1::pT
def DS:AS:=⟨[(3,iI v5)],[],[],[]⟩
def vX:AS:=⟨[(0,.sl (lm aE v1)),(3,iI v2),(7,.sl (lm aE v1)),(8,iI (v1.length:Int)),(9,iI v3)],[],[],[]⟩
abbrev u9:Prop:=∀{v2:Int} {v3:Int},L1 v2 v3=some r→LP (qW M w0) (qR M w0 r) pT (cat Try.f31 (pn 116)) m1 (vX v1 v2 v3)
variable{M w0 r v1 v2 v3 v5 m1 L1}{K:Kn}{n:Nat}
theorem xk(hK:aj K)(h:mb K n v5=some r):sB M w0 r [pu 31] (DS v5):=by
 unfold mb at h;refine aC 3 ?_;cases h;exact aV
theorem Dn(hK:aj K)(hL1:u9 M w0 r v1 m1 L1)(h:ow K n v1 L1 v2 v3=some r):sB M w0 r (pu 116::Ds M w0 r m1) (vX v1 v2 v3):=by
 unfold ow at h;refine ao 6 7 3 ?_;obtain⟨h3,h⟩|⟨h3,h⟩:=ah h
 ·refine ac 10 h3 (cN 8 9 1 3 5 (ai 0 ?_));obtain⟨h4,h⟩:=aS h;exact ax (bD aE aE h4 (ex) (fun _=>rfl)) (aa (ab 3 (bo (hL1 h))))
 ·refine ac 10 h3 (B8 4 5 3 7 (ai 1 ?_));obtain⟨v4,h5,h⟩:=bind_some h;refine aD (wg hK h5) (aa (aU 3 2 ?_));obtain⟨h6,h⟩|⟨h6,h⟩:=ah h
  ·refine ac 24 h6 (aU 2 1 (ai 3 ?_));obtain⟨h7,h⟩:=aS h;exact ax (bD aE aE h7 (ex) (fun _=>rfl)) (aa (ab 0 (xk hK h)))
  ·exact ac 24 h6 (ab 2 (xk hK h))
theorem Bq(hK:aj K)(m:Nat):u9 M w0 r v1 m (mS K n v1 m):=by
 induction m with
 | zero=>intro v2 v3 h;cases h
 | succ m ih=>intro v2 v3 h;have h:ow K n v1 (mS K n v1 m) v2 v3=some r:=h;exact bm (Dn hK ih h)
theorem tM(hK:aj K)(h:om K n v1=some r):aI Try.prog 31 [.sl (lm aE v1)] (fun v _=>v=iI r):=by
 refine aZ (cat Try.f31 (pn 1)) Try.func31 Try.ntmps31 fun M w0=>(aY ⟨[(0,.sl (lm aE v1))],[],[],[]⟩ ?_);unfold om at h;exact bK 28 29 15 6 (ai 1 (ax (bA aE v1) (aa (ab 1 (ce (p:=pn 58) n (Bq hK n h))))))
end
noncomputable section
variable(M:Nat→Prop)(w0:aw)(r:List Int)(v1:List aB)(v2 v19:Int)(v20:List Int)(v25:Int)(v26:Bool)(m1 m2:Nat)(L1:Int→(List Int)→Option (List Int))(L2:Int→Option (List Int))
abbrev jk:Cx:=⟨Try.prog,46,M,w0⟩
abbrev j0:=bodyPost Try.prog Try.f13 (bn M w0 (fun v s=>v=.ref 16∧look 16 s.r=some ⟨3,1,lm (bi .i64) r⟩))
abbrev lF(ks:List ak)(s:AS):=VE (jk M w0) (j0 M w0 r) ks .normal s
abbrev ed(n:Nat):ak:=.c (cat Try.f13 (pn n))
abbrev oP:List ak:=[.b 0,ed 15]
abbrev nW:List ak:=kl (jk M w0) (j0 M w0 r) oP (cat Try.f13 (pn 116)) m1::oP
abbrev rq:List ak:=.b 2::ed 3735 :: .b 1::nW M w0 r m1
abbrev pi:List ak:=kl (jk M w0) (j0 M w0 r) (rq M w0 r m1) (cat Try.f13 (pn 14936)) m2::(rq M w0 r m1)
def y8:AS:=⟨[(0,.sl (lm aE v1)),(1,iI v2),(5,.ref 16),(7,iI v25)],[],[(16,⟨3,1,lm (bi .i64) (v20++[v19])⟩)],[16]⟩
def AF:AS:=⟨[(0,.sl (lm aE v1)),(1,iI v2),(5,.ref 16),(6,iI v19),(7,iI v25),(32,.bool v26)],[],[(16,⟨3,1,lm (bi .i64) (v20++[v19])⟩)],[16]⟩
def wM:AS:=⟨[(0,.sl (lm aE v1)),(1,iI v2),(5,.ref 16),(6,iI v19),(7,iI v25)],[],[(16,⟨3,1,lm (bi .i64) (v20++[v19])⟩)],[16]⟩
def uY:AS:=⟨[(0,.sl (lm aE v1)),(1,iI v2),(5,.ref 16),(6,iI v19)],[],[(16,⟨3,1,lm (bi .i64) v20⟩)],[16]⟩
abbrev hH:Prop:=∀{v19:Int} {v20:(List Int)},L1 v19 v20=some r→LP (jk M w0) (j0 M w0 r) oP (cat Try.f13 (pn 116)) m1 (uY v1 v2 v19 v20)
abbrev qd:Prop:=∀{v25:Int},L2 v25=some r→LP (jk M w0) (j0 M w0 r) (rq M w0 r m1) (cat Try.f13 (pn 14936)) m2 (wM v1 v2 v19 v20 v25)
variable{M w0 r v1 v2 v19 v20 v25 v26 m1 m2 L1 L2}{K:Kn}{n:Nat}
theorem xq(hK:aj K)(hL1:hH M w0 r v1 v2 m1 L1)(h:lx K n v1 v2 v19 v20 v25 L1=some r):lF M w0 r (ed 3735 :: .b 1::nW M w0 r m1) (y8 v1 v2 v19 v20 v25):=by
 unfold lx at h;exact ab 2 (bo (hL1 h))
theorem sv(hK:aj K)(hL1:hH M w0 r v1 v2 m1 L1)(hL2:qd M w0 r v1 v2 v19 v20 m1 m2 L2)(h:ms K n v1 v2 v19 v20 v25 L1 L2 v26=some r):lF M w0 r (ed 59745::ed 29873::pi M w0 r m1 m2) (AF v1 v2 v19 v20 v25 v26):=by
 unfold ms at h;obtain⟨h47,h⟩|⟨h47,h⟩:=ah h
 ·refine ac 32 h47 (bX (ks':=ed 119492::ed 119493 :: .b 3::pi M w0 r m1 m2) 4 (ai 2 ?_));obtain⟨v27,h48,h⟩:=bind_some h;refine aD (vD hK h48) (aa (bK 4 5 3 2 (ai 3 ?_)));obtain⟨h49,h⟩:=aS h;refine ax (pC aE v1 v19 v27 37 (.tmp 36) (some (.tmp 37)) (some (.tmp 38)) 39 (e:=41) (sz:=62) (by kernel_rfl) (by kernel_rfl) (by kernel_rfl) (by kernel_rfl) (by kernel_rfl) (by kernel_rfl) (ex) (fun k hk=>by subst hk;kernel_rfl) h49) ?_;obtain⟨v28,h50,h⟩:=bind_some h;refine aD (tM hK h50) (aa ?_);obtain⟨h51,h⟩|⟨h51,h⟩:=ah h
  ·exact ac 42 h51 (ab 6 (xq hK hL1 h))
  ·exact ac 42 h51 (ab 4 (bo (hL2 h)))
 ·exact ac 32 h47 (ab 5 (xq hK hL1 h))
theorem AH(hK:aj K)(hL1:hH M w0 r v1 v2 m1 L1)(hL2:qd M w0 r v1 v2 v19 v20 m1 m2 L2)(h:mB K n v1 v2 v19 v20 L1 L2 v25=some r):lF M w0 r (ed 14936::pi M w0 r m1 m2) (wM v1 v2 v19 v20 v25):=by
 unfold mB at h;refine bK 4 5 3 2 (ai 2 (ax (bA aE v1) (aN 5 2 ?_)));obtain⟨h45,h⟩|⟨h45,h⟩:=ah h
 ·refine ap 24 h45 (aN 8 3 ?_);obtain⟨h46,h⟩:=aS h;exact ax (bD aE aE h46 (ex) (fun _=>rfl)) (aa (ab 0 (sv hK hL1 hL2 h)))
 ·exact ap 24 h45 (aa (ab 0 (sv hK hL1 hL2 h)))
theorem BE(hK:aj K)(hL1:hH M w0 r v1 v2 m1 L1)(m:Nat):qd M w0 r v1 v2 v19 v20 m1 m (nl K n v1 v2 v19 v20 L1 m):=by
 induction m with
 | zero=>intro v25 h;cases h
 | succ m ih=>intro v25 h;have h:mB K n v1 v2 v19 v20 L1 (nl K n v1 v2 v19 v20 L1 m) v25=some r:=h;exact bm (AH hK hL1 ih h)
theorem zI(hK:aj K)(hL1:hH M w0 r v1 v2 m1 L1)(h:nI K n v1 v2 L1 v19 v20=some r):lF M w0 r (ed 116::nW M w0 r m1) (uY v1 v2 v19 v20):=by
 unfold nI at h;refine bK 4 5 3 2 (ai 2 (ax (bA aE v1) (aa ?_)));obtain⟨h35,h⟩|⟨h35,h⟩:=ah h
 ·refine ac 12 h35 (bX (ks':=ed 932::ed 933 :: .b 1::nW M w0 r m1) 4 (ai 3 ?_));obtain⟨h36,h⟩:=aS h;refine ax (cf 16 16 3 1 (bi .i64) (rfl) (fun _=>rfl) h36) (aa (ao 2 3 1 (ai 2 ?_)));obtain⟨v21,h37,h⟩:=bind_some h;exact aD (vD hK h37) (aa (ab 2 (ce (p:=pn 7468) n (BE hK hL1 n h))))
 ·refine ac 12 h35 (aC 8 ?_);cases h;exact dQ
theorem yb(hK:aj K)(m:Nat):hH M w0 r v1 v2 m (mI K n v1 v2 m):=by
 induction m with
 | zero=>intro v19 v20 h;cases h
 | succ m ih=>intro v19 v20 h;have h:nI K n v1 v2 (mI K n v1 v2 m) v19 v20=some r:=h;exact bm (zI hK ih h)
theorem Co(hK:aj K)(h:rQ K n v1 v2=some r):aI Try.prog 13 [.sl (lm aE v1),iI v2] (fun v s=>v=.ref 16∧look 16 s.r=some ⟨3,1,lm (bi .i64) r⟩):=by
 refine aZ (cat Try.f13 (pn 1)) Try.func13 Try.ntmps13 fun M w0=>(aY ⟨[(0,.sl (lm aE v1)),(1,iI v2)],[],[],[]⟩ ?_);unfold rQ at h;exact fA 58 0 15 8 (bE [0,1,5,6] [] [] (eV 16 5 3 1 (ab 0 (ce (p:=pn 58) n (yb hK n h)))))
end
noncomputable section
variable(M:Nat→Prop)(w0:aw)(r:Bool)(v1:aq)(v2:Bool)  
abbrev xZ(n:Nat):ak:=.c (cat Try.f67 (pn n))
abbrev Ai:Cx:=⟨Try.prog,12,M,w0⟩
abbrev zm:=bodyPost Try.prog Try.f67 (bn M w0 (fun v _=>v=.bool r))
abbrev D2(ks:List ak)(s:AS):=VE (Ai M w0) (zm M w0 r) ks .normal s
def DV:AS:=⟨[(2,.bool v2)],[],[],[]⟩
variable{M w0 r v1 v2}{K:Kn}{n:Nat}
theorem wI(hK:aj K)(h:mm K n v2=some r):D2 M w0 r [xZ 7] (DV v2):=by
 unfold mm at h;refine aC 1 ?_;cases h;exact aV
theorem xE(hK:aj K)(h:mf K n v1=some r):aI Try.prog 67 [.agg (aX v1)] (fun v _=>v=.bool r):=by
 refine aZ (cat Try.f67 (pn 1)) Try.func67 Try.ntmps67 fun M w0=>(aY ⟨[(0,.agg (aX v1))],[],[],[]⟩ ?_);unfold mf at h;refine ao 6 7 3 (ai 4 ?_);obtain⟨h1,h⟩|⟨h1,h⟩:=ah h
 ·exact ap 6 h1 (aa (ab 0 (wI hK h)))
 ·exact ap 6 h1 (aa (ab 0 (wI hK h)))
end
noncomputable section
variable(M:Nat→Prop)(w0:aw)(r:List aF)(v1:aF)(v2:List aF)(v3 v4 v5 v6:Bool)(v7:aF)  
abbrev dE(n:Nat):ak:=.c (cat Try.f68 (pn n))
abbrev BN:Cx:=⟨Try.prog,72,M,w0⟩
abbrev yv:=bodyPost Try.prog Try.f68 (bn M w0 (fun v s=>v=.ref 9∧dd s.o []∧look 9 s.r=some ⟨99,5,lm am r⟩))
abbrev iM(ks:List ak)(s:AS):=VE (BN M w0) (yv M w0 r) ks .normal s
def Ee:AS:=⟨[(0,.ref 9),(3,.ptr 3 0)],[(3,am v7)],[(9,⟨99,5,lm am v2⟩)],[3,9]⟩
def Ah:AS:=⟨[(0,.ref 9),(3,.ptr 3 0),(64,.bool v6)],[(3,am v1)],[(9,⟨99,5,lm am v2⟩)],[3,9]⟩
def CG:AS:=⟨[(0,.ref 9),(3,.ptr 3 0),(5,.bool (v1.Box.Style.WhiteSpace == 2)),(32,.bool v5)],[(3,am v1)],[(9,⟨99,5,lm am v2⟩)],[3,9]⟩
def EB:AS:=⟨[(0,.ref 9),(3,.ptr 3 0),(5,.bool (v1.Box.Style.WhiteSpace == 2)),(24,.bool v4)],[(3,am v1)],[(9,⟨99,5,lm am v2⟩)],[3,9]⟩
def BP:AS:=⟨[(0,.ref 9),(3,.ptr 3 0),(5,.bool (v1.Box.Style.WhiteSpace == 2)),(19,.bool v3)],[(3,am v1)],[(9,⟨99,5,lm am v2⟩)],[3,9]⟩
variable{M w0 r v1 v2 v3 v4 v5 v6 v7}{K:Kn}{n:Nat}
theorem qf(hK:aj K)(h:j7 K n v2 v7=some r):iM M w0 r [.b 1,dE 31] (Ee v2 v7):=by
 unfold j7 at h;refine eW 6 7 4 (ai 3 ?_);obtain⟨h16,h⟩:=aS h;refine ax (cf 71 9 99 5 am (rfl) (cp) h16) (aa (aC 1 ?_));cases h;exact ey
theorem qD(hK:aj K)(h:jY K n v1 v2 v6=some r):iM M w0 r [dE 15609,dE 7805,.b 1,dE 31] (Ah v1 v2 v6):=by
 unfold jY at h;obtain⟨h15,h⟩|⟨h15,h⟩:=ah h
 ·refine ac 64 h15 (aC 7 ?_);cases h;exact ey
 ·exact ac 64 h15 (ab 3 (qf hK h))
theorem uo(hK:aj K)(h:nh K n v1 v2 v5=some r):iM M w0 r [dE 487,.b 1,dE 31] (CG v1 v2 v5):=by
 unfold nh at h;obtain⟨h9,h⟩|⟨h9,h⟩:=ah h
 ·refine ac 32 h9 (aC 6 ?_);cases h;exact ey
 ·refine ac 32 h9 (aU 7 3 ?_);obtain⟨h10,h⟩|⟨h10,h⟩:=ah h
  ·refine ac 40 h10 (bK 8 9 5 3 (ai 1 (ax (bA am v2) (aN 4 2 ?_))));obtain⟨h11,h⟩|⟨h11,h⟩:=ah h
   ·exact ap 46 h11 (aa (ab 0 (qD hK h)))
   ·refine ap 46 h11 (aN 6 2 (ax (bA am v2) (aN 8 1 ?_)));obtain⟨h12,h⟩:=aS h;refine ax (c9 9 5 am h12) (aN 10 1 (ax (cw 4 3 am am (di h12).2 (fun _=>rfl)) (aN 13 2 ?_)));obtain⟨h13,h⟩|⟨h13,h⟩:=ah h
    ·exact ap 55 h13 (aa (ab 0 (qD hK h)))
    ·refine ap 55 h13 (aN 15 2 (ax (bA am v2) (aN 17 1 ?_)));obtain⟨h14,h⟩:=aS h;exact ax (c9 9 5 am h14) (aN 19 1 (ax (cw 3 0 am am (di h14).2 (fun _=>rfl)) (aa (ab 0 (qD hK h)))))
  ·exact ac 40 h10 (ab 2 (qf hK h))
theorem sr(hK:aj K)(h:nT K n v1 v2 v4=some r):iM M w0 r [dE 121,.b 1,dE 31] (EB v1 v2 v4):=by
 unfold nT at h;obtain⟨h7,h⟩|⟨h7,h⟩:=ah h
 ·exact ac 24 h7 (ab 2 (qf hK h))
 ·refine ac 24 h7 (ao 6 7 2 (ai 2 ?_));obtain⟨h8,h⟩|⟨h8,h⟩:=ah h
  ·exact ap 34 h8 (aa (ab 0 (uo hK h)))
  ·exact ap 34 h8 (aa (ab 0 (uo hK h)))
theorem mj(hK:aj K)(h:ij K n v1 v2 v3=some r):iM M w0 r [dE 117,.b 0,dE 15] (BP v1 v2 v3):=by
 unfold ij at h;obtain⟨h4,h⟩|⟨h4,h⟩:=ah h
 ·refine ac 19 h4 (bX (ks':=[dE 120,dE 121,.b 1,dE 31]) 6 (ai 2 ?_));obtain⟨h6,h⟩|⟨h6,h⟩:=ah h
  ·exact ap 26 h6 (aa (ab 0 (sr hK h)))
  ·exact ap 26 h6 (aa (ab 0 (sr hK h)))
 ·refine ac 19 h4 (ao 6 7 2 (ai 3 ?_));obtain⟨h5,h⟩:=aS h;refine ax (cf 18 9 99 5 am (rfl) (cp) h5) (aa (aC 3 ?_));cases h;exact ey
theorem DZ(hK:aj K)(h:qS K n v1 v2=some r):fy Try.prog 68 [.ref 9,.agg (am v1)] [] 9 ⟨99,5,lm am v2⟩ [9] (fun v s=>v=.ref 9∧dd s.o []∧look 9 s.r=some ⟨99,5,lm am r⟩):=by
 refine iW (c:=cat Try.f68 (pn 1)) Try.func68 (by kernel_rfl) _ Try.ntmps68 (of_decide_eq_true (by kernel_rfl)) fun M w0=>(aY ⟨[(0,.ref 9),(1,.agg (am v1))],[],[(9,⟨99,5,lm am v2⟩)],[9]⟩ ?_);unfold qS at h;refine cA 233 117 0 15 11 ?_;obtain⟨h1,h⟩|⟨h1,h⟩:=ah h
 ·exact ac 19 h1 (ab 2 (mj hK h))
 ·refine ac 19 h1 (aU 7 3 ?_);obtain⟨h2,h⟩|⟨h2,h⟩:=ah h
  ·exact ac 19 h2 (ab 2 (mj hK h))
  ·refine ac 19 h2 (aU 7 3 ?_);obtain⟨h3,h⟩|⟨h3,h⟩:=ah h
   ·exact ac 19 h3 (ab 2 (mj hK h))
   ·exact ac 19 h3 (ab 2 (mj hK h))
end
noncomputable section
variable(M:Nat→Prop)(w0:aw)(r:Int×(List aF))(v1:List aq)(v2:Int)(v3:List aF)(v10:Nat)(v23 v24:Int)(v25:List aF)(v32 v36:Nat)(v37:List aF)(v41:Int)(v42:List aF)(v43:Int)(v44:List aF)(m1 m2:Nat)(L1:Int→Int→(List aF)→Option (Int×(List aF)))(L2:Nat→(List aF)→Option (Int×(List aF)))
abbrev jn:Cx:=⟨Try.prog,69,M,w0⟩
abbrev i8:=bodyPost Try.prog Try.f66 (bn M w0 (fun v s=>v=.tup []∧dd s.o [(1,[iI r.1]),(2,[.fno 66 [.ptr 1 0,.ptr 2 0,.ptr 3 0]]),(3,[.ref 9])]∧look 9 s.r=some ⟨99,5,lm am r.2⟩))
abbrev kz(ks:List ak)(s:AS):=VE (jn M w0) (i8 M w0 r) ks .normal s
abbrev dB(n:Nat):ak:=.c (cat Try.f66 (pn n))
abbrev qB:List ak:=[.b 0]
abbrev fF:List ak:=kl (jn M w0) (i8 M w0 r) qB (cat Try.f66 (pn 12)) m1::qB
abbrev sh:List ak:=.b 3 :: .b 2 :: .b 1::dB 103::fF M w0 r m1
abbrev wu:List ak:=kl (jn M w0) (i8 M w0 r) (sh M w0 r m1) (cat Try.f66 (pn 26867700)) m2::(sh M w0 r m1)
def zH:AS:=⟨[(0,.sl (lm aO v1)),(1,.ptr 1 0),(2,.ptr 2 0),(3,.ptr 3 0),(10,iI (v1.length:Int)),(11,iI v23)],[(1,[iI v43]),(2,[.fno 66 [.ptr 1 0,.ptr 2 0,.ptr 3 0]]),(3,[.ref 9])],[(9,⟨99,5,lm am v44⟩)],[1,2,3,9,1000001,1,1000002,2,1000003,3]⟩
def yS:AS:=⟨[(0,.sl (lm aO v1)),(1,.ptr 1 0),(2,.ptr 2 0),(3,.ptr 3 0),(10,iI (v1.length:Int)),(11,iI v23)],[(1,[iI v41]),(2,[.fno 66 [.ptr 1 0,.ptr 2 0,.ptr 3 0]]),(3,[.ref 9])],[(9,⟨99,5,lm am v42⟩)],[1,2,3,9,1000001,1,1000002,2,1000003,3]⟩
def tR:AS:=⟨[(0,.sl (lm aO v1)),(1,.ptr 1 0),(2,.ptr 2 0),(3,.ptr 3 0),(6,.cptr (aX (gD v1 v23))),(10,iI (v1.length:Int)),(11,iI v23),(58,.sit 320058 v32 ((gD v1 v23).Text) v36)],[(1,[iI (af (v24+1))]),(2,[.fno 66 [.ptr 1 0,.ptr 2 0,.ptr 3 0]]),(3,[.ref 9])],[(9,⟨99,5,lm am v37⟩)],[1,2,3,9,320058,1000001,1,1000002,2,1000003,3]⟩
def tW:AS:=⟨[(0,.sl (lm aO v1)),(1,.ptr 1 0),(2,.ptr 2 0),(3,.ptr 3 0),(10,iI (v1.length:Int)),(11,iI v23)],[(1,[iI v24]),(2,[.fno 66 [.ptr 1 0,.ptr 2 0,.ptr 3 0]]),(3,[.ref 9])],[(9,⟨99,5,lm am v25⟩)],[1,2,3,9,1000001,1,1000002,2,1000003,3]⟩
abbrev hJ:Prop:=∀{v23:Int} {v24:Int} {v25:(List aF)},L1 v23 v24 v25=some r→LP (jn M w0) (i8 M w0 r) qB (cat Try.f66 (pn 12)) m1 (tW v1 v23 v24 v25)
abbrev uX:Prop:=∀{v36:Nat} {v37:(List aF)},L2 v36 v37=some r→LP (jn M w0) (i8 M w0 r) (sh M w0 r m1) (cat Try.f66 (pn 26867700)) m2 (tR v1 v23 v24 v32 v36 v37)
variable{M w0 r v1 v2 v3 v10 v23 v24 v25 v32 v36 v37 v41 v42 v43 v44 m1 m2 L1 L2}{K:Kn}{n:Nat}
theorem uU(hK:aj K)(hL1:hJ M w0 r v1 m1 L1)(h:m4 K n v1 v23 L1 v43 v44=some r):kz M w0 r (dB 103::fF M w0 r m1) (zH v1 v23 v43 v44):=by
 unfold m4 at h;exact ab 1 (bo (hL1 h))
theorem iQ(hK:aj K)(hL1:hJ M w0 r v1 m1 L1)(h:gv K n v1 v23 L1 v41 v42=some r):kz M w0 r (.b 2 :: .b 1::dB 103::fF M w0 r m1) (yS v1 v23 v41 v42):=by
 unfold gv at h;exact ab 2 (uU hK hL1 h)
theorem yZ(hK:aj K)(hv32:w0.w.heap.size≤v32)(hL1:hJ M w0 r v1 m1 L1)(hL2:uX M w0 r v1 v23 v24 v32 m1 m2 L2)(h:ov K n v1 v23 v24 L1 L2 v36 v37=some r):kz M w0 r (dB 26867700::wu M w0 r m1 m2) (tR v1 v23 v24 v32 v36 v37):=by
 unfold ov at h;refine ao 2 3 1 (ai 0 ?_);obtain⟨h43,h⟩|⟨h43,h⟩:=ah h
 ·refine pN 58 (id:=320058) (g:=v32) h43 hv32 (aa ?_);obtain⟨v38,h44,h⟩:=bO h;obtain⟨v39,h45,h⟩:=bO h;refine bq (ks':=dB 429883213 :: .b 4::wu M w0 r m1 m2) 6 ⟨[(0,.sl (lm aO v1)),(1,.ptr 1 0),(2,.ptr 2 0),(3,.ptr 3 0),(6,.cptr (aX (gD v1 v23))),(8,.int .i32 v38),(10,iI (v1.length:Int)),(11,iI v23),(58,.sit 320058 v32 ((gD v1 v23).Text) v39)],[(1,[iI (af (v24+1))]),(2,[.fno 66 [.ptr 1 0,.ptr 2 0,.ptr 3 0]]),(3,[.ref 9])],[(9,⟨99,5,lm am v37⟩)],[1,2,3,9,320058,1000001,1,1000002,2,1000003,3]⟩ ?_ (by subst h45;subst h44;kernel_rfl);refine ai 5 ?_;obtain⟨v40,h46,h⟩:=bind_some h;exact fc 9 9 [] (DZ hK h46) (aa (ab 1 (bo (hL2 h))))
 ·exact pR 58 (id:=320058) (g:=v32) h43 (aa (ab 6 (iQ hK hL1 h)))
theorem Cy(hK:aj K)(hv32:w0.w.heap.size≤v32)(hL1:hJ M w0 r v1 m1 L1)(m:Nat):uX M w0 r v1 v23 v24 v32 m1 m (mM K n v1 v23 v24 L1 m):=by
 induction m with
 | zero=>intro v36 v37 h;cases h
 | succ m ih=>intro v36 v37 h;have h:ov K n v1 v23 v24 L1 (mM K n v1 v23 v24 L1 m) v36 v37=some r:=h;exact bm (yZ hK hv32 hL1 ih h)
theorem y3(hK:aj K)(hL1:hJ M w0 r v1 m1 L1)(h:ny K n v1 L1 v23 v24 v25=some r):kz M w0 r (dB 12::fF M w0 r m1) (tW v1 v23 v24 v25):=by
 unfold ny at h;refine ao 6 7 3 ?_;obtain⟨h24,h⟩|⟨h24,h⟩:=ah h
 ·refine ac 12 h24 (cN 18 19 1 3 7 (ai 2 ?_));obtain⟨h25,h⟩:=aS h;refine ax (bD aO aX h25 (d7) (dJ)) (aa (bK 4 5 3 2 (ai 3 ?_)));obtain⟨v26,h26,h⟩:=bind_some h;refine aD (xE hK h26) (aa ?_);obtain⟨h27,h⟩|⟨h27,h⟩:=ah h
  ·exact ac 21 h27 (ab 4 (uU hK hL1 h))
  ·refine ac 21 h27 ?_;obtain⟨v27,h28,h⟩:=bO h;refine bq (ks':=dB 26237 :: .b 2 :: .b 1::dB 103::fF M w0 r m1) 9 ⟨[(0,.sl (lm aO v1)),(1,.ptr 1 0),(2,.ptr 2 0),(3,.ptr 3 0),(6,.cptr (aX (gD v1 v23))),(10,iI (v1.length:Int)),(11,iI v23),(27,iI ((gD v1 v23).Kind)),(28,.bool v27)],[(1,[iI (af (v24+1))]),(2,[.fno 66 [.ptr 1 0,.ptr 2 0,.ptr 3 0]]),(3,[.ref 9])],[(9,⟨99,5,lm am v25⟩)],[1,2,3,9,1000001,1,1000002,2,1000003,3]⟩ ?_ (by subst h28;kernel_rfl);obtain⟨h29,h⟩|⟨h29,h⟩:=ah h
   ·refine ac 28 h29 (aU 2 1 (bE [0,1,2,3,6,10,11] [1,2,3] [9] (yU 5 0 [(30,.fno 66 [.ptr 1 0,.ptr 2 0,.ptr 3 0]),(31,.cptr (aX (gD v1 v23))),(32,.cptr (aX (gD v1 v23))),(33,.cptr (List.drop 58 (aX (gD v1 v23)))),(34,.sl (lm aO ((gD v1 v23).Kids)))] [] [] [] (ay (vz 5) (yq)) ?_)));obtain⟨v28,h30,h⟩:=bind_some h;exact fc 9 9 [(1,1),(2,2),(3,3)] (hK.nM h30) (aa (ab 0 (iQ hK hL1 h)))
   ·refine ac 28 h29 ?_;obtain⟨v29,h31,h⟩:=bO h;refine bq (ks':=dB 104951 :: .b 2 :: .b 1::dB 103::fF M w0 r m1) 3 ⟨[(0,.sl (lm aO v1)),(1,.ptr 1 0),(2,.ptr 2 0),(3,.ptr 3 0),(6,.cptr (aX (gD v1 v23))),(10,iI (v1.length:Int)),(11,iI v23),(27,iI ((gD v1 v23).Kind)),(36,.bool v29)],[(1,[iI (af (v24+1))]),(2,[.fno 66 [.ptr 1 0,.ptr 2 0,.ptr 3 0]]),(3,[.ref 9])],[(9,⟨99,5,lm am v25⟩)],[1,2,3,9,1000001,1,1000002,2,1000003,3]⟩ ?_ (by subst h31;kernel_rfl);obtain⟨h32,h⟩|⟨h32,h⟩:=ah h
    ·refine ac 36 h32 (aU 2 1 (ai 5 ?_));obtain⟨h33,h⟩:=aS h;exact ax (cf 43 9 99 5 am (rfl) (cp) h33) (aa (ab 0 (iQ hK hL1 h)))
    ·refine ac 36 h32 ?_;obtain⟨v30,h34,h⟩:=bO h;refine bq (ks':=dB 419807 :: .b 2 :: .b 1::dB 103::fF M w0 r m1) 3 ⟨[(0,.sl (lm aO v1)),(1,.ptr 1 0),(2,.ptr 2 0),(3,.ptr 3 0),(6,.cptr (aX (gD v1 v23))),(10,iI (v1.length:Int)),(11,iI v23),(27,iI ((gD v1 v23).Kind)),(44,.bool v30)],[(1,[iI (af (v24+1))]),(2,[.fno 66 [.ptr 1 0,.ptr 2 0,.ptr 3 0]]),(3,[.ref 9])],[(9,⟨99,5,lm am v25⟩)],[1,2,3,9,1000001,1,1000002,2,1000003,3]⟩ ?_ (by subst h34;kernel_rfl);obtain⟨h35,h⟩|⟨h35,h⟩:=ah h
     ·refine ac 44 h35 (aU 2 1 (ai 5 ?_));obtain⟨h36,h⟩:=aS h;exact ax (cf 51 9 99 5 am (rfl) (cp) h36) (aa (ab 0 (iQ hK hL1 h)))
     ·refine ac 44 h35 ?_;obtain⟨v31,h37,h⟩:=bO h;refine bq (ks':=dB 1679231 :: .b 2 :: .b 1::dB 103::fF M w0 r m1) 3 ⟨[(0,.sl (lm aO v1)),(1,.ptr 1 0),(2,.ptr 2 0),(3,.ptr 3 0),(6,.cptr (aX (gD v1 v23))),(10,iI (v1.length:Int)),(11,iI v23),(52,.bool v31)],[(1,[iI (af (v24+1))]),(2,[.fno 66 [.ptr 1 0,.ptr 2 0,.ptr 3 0]]),(3,[.ref 9])],[(9,⟨99,5,lm am v25⟩)],[1,2,3,9,1000001,1,1000002,2,1000003,3]⟩ ?_ (by subst h37;kernel_rfl);obtain⟨h38,h⟩|⟨h38,h⟩:=ah h
      ·exact ac 52 h38 (ao 4 5 2 (ai 4 (qu 320058 (b:=((gD v1 v23).Text)) fun v32 hv32=>(aa (ab 1 (ce (p:=pn 13433850) n (Cy hK (v32:=v32) hv32 hL1 n h)))))))
      ·exact ac 52 h38 (ab 2 (iQ hK hL1 h))
 ·refine ac 12 h24 (bX (ks':=[]) 5 (Bk ?_));cases h;exact qT
theorem zy(hK:aj K)(m:Nat):hJ M w0 r v1 m (md K n v1 m):=by
 induction m with
 | zero=>intro v23 v24 v25 h;cases h
 | succ m ih=>intro v23 v24 v25 h;have h:ny K n v1 (md K n v1 m) v23 v24 v25=some r:=h;exact bm (y3 hK ih h)
theorem xt(hK:aj K)(h:l6 K n v1 v2 v3=some r):fy Try.prog 66 [.sl (lm aO v1),.ptr 1 0,.ptr 2 0,.ptr 3 0] [(1,[iI v2]),(2,[.fno 66 [.ptr 1 0,.ptr 2 0,.ptr 3 0]]),(3,[.ref 9])] 9 ⟨99,5,lm am v3⟩ [9,1,2,3,1000001,1000002,1000003] (fun v s=>v=.tup []∧dd s.o [(1,[iI r.1]),(2,[.fno 66 [.ptr 1 0,.ptr 2 0,.ptr 3 0]]),(3,[.ref 9])]∧look 9 s.r=some ⟨99,5,lm am r.2⟩):=by
 refine iW (c:=cat Try.f66 (pn 1)) Try.func66 (by kernel_rfl) _ Try.ntmps66 (of_decide_eq_true (by kernel_rfl)) fun M w0=>(aY ⟨[(0,.sl (lm aO v1)),(1,.ptr 1 0),(2,.ptr 2 0),(3,.ptr 3 0)],[(1,[iI v2]),(2,[.fno 66 [.ptr 1 0,.ptr 2 0,.ptr 3 0]]),(3,[.ref 9])],[(9,⟨99,5,lm am v3⟩)],[9,1,2,3,1000001,1000002,1000003]⟩ ?_);unfold l6 at h;exact ao 2 3 1 (ai 1 (ax (bA aO v1) (aa (ab 1 (ce (p:=pn 6) n (zy hK n h))))))
end
noncomputable section
variable(M:Nat→Prop)(w0:aw)(r:List aF)(v1:List aq)  
variable{M w0 r v1}{K:Kn}{n:Nat}
theorem DC(hK:aj K)(h:rE K n v1=some r):aI Try.prog 55 [.sl (lm aO v1)] (fun v s=>v=.ref 400003∧look 400003 s.r=some ⟨99,5,lm am r⟩):=by
 refine aZ (cat Try.f55 (pn 1)) Try.func55 Try.ntmps55 fun M w0=>(aY ⟨[(0,.sl (lm aO v1))],[],[],[]⟩ ?_);unfold rE at h;refine ao 62 63 9 (ai 0 (D6 66 #[(.tmp 4),(.tmp 5),(.tmp 3)] [.ptr 4 0,.ptr 5 0,.ptr 3 0] (aa (ao 2 3 1 (ai 2 (xT 400003 3 0 99 5 ?_))))));obtain⟨v2,h1,h⟩:=bind_some h;refine fc 400003 9 [(4,1),(5,2),(3,3)] (xt hK h1) (aa (aC 3 ?_));cases h;exact dQ
end
noncomputable section
variable(M:Nat→Prop)(w0:aw)(r:Bool)(v1:aF)(v2:Bool)  
abbrev xG(n:Nat):ak:=.c (cat Try.f69 (pn n))
abbrev AC:Cx:=⟨Try.prog,24,M,w0⟩
abbrev Bw:=bodyPost Try.prog Try.f69 (bn M w0 (fun v _=>v=.bool r))
abbrev ET(ks:List ak)(s:AS):=VE (AC M w0) (Bw M w0 r) ks .normal s
def zC:AS:=⟨[(2,.bool v2)],[],[],[]⟩
variable{M w0 r v1 v2}{K:Kn}{n:Nat}
theorem qE(hK:aj K)(h:iU K n v2=some r):ET M w0 r [xG 7] (zC v2):=by
 unfold iU at h;refine aC 1 ?_;cases h;exact aV
theorem jH(hK:aj K)(h:fX K n v1=some r):aI Try.prog 69 [.agg (am v1)] (fun v _=>v=.bool r):=by
 refine aZ (cat Try.f69 (pn 1)) Try.func69 Try.ntmps69 fun M w0=>(aY ⟨[(0,.agg (am v1))],[],[],[]⟩ ?_);unfold fX at h;refine ao 6 7 3 (ai 4 ?_);obtain⟨h1,h⟩|⟨h1,h⟩:=ah h
 ·refine ap 6 h1 (aN 13 9 ?_);obtain⟨h2,h⟩|⟨h2,h⟩:=ah h
  ·exact ap 15 h2 (aa (ab 0 (qE hK h)))
  ·exact ap 15 h2 (aa (ab 0 (qE hK h)))
 ·exact ap 6 h1 (aa (ab 0 (qE hK h)))
end
noncomputable section
variable(M:Nat→Prop)(w0:aw)(r v1:Int)(v2 v3 v4 v5 v6:Bool)  
abbrev dc(n:Nat):ak:=.c (cat Try.f85 (pn n))
abbrev Ci:Cx:=⟨Try.prog,73,M,w0⟩
abbrev Du:=bodyPost Try.prog Try.f85 (bn M w0 (fun v _=>v=iI r))
abbrev jN(ks:List ak)(s:AS):=VE (Ci M w0) (Du M w0 r) ks .normal s
def CP:AS:=⟨[(72,.bool v6)],[],[],[]⟩
def CW:AS:=⟨[(0,.int .i32 v1),(60,.bool v5)],[],[],[]⟩
def CU:AS:=⟨[(0,.int .i32 v1),(29,.int .i32 v1),(44,.bool v4)],[],[],[]⟩
def DB:AS:=⟨[(0,.int .i32 v1),(29,.int .i32 v1),(30,.bool v3)],[],[],[]⟩
def EU:AS:=⟨[(0,.int .i32 v1),(3,.bool v2)],[],[],[]⟩
variable{M w0 r v1 v2 v3 v4 v5 v6}{K:Kn}{n:Nat}
theorem vQ(hK:aj K)(h:nD K n v6=some r):jN M w0 r [dc 61,dc 31] (CP v6):=by
 unfold nD at h;obtain⟨h44,h⟩|⟨h44,h⟩:=ah h
 ·refine ac 72 h44 (aC 5 ?_);cases h;exact aV
 ·refine ac 72 h44 (aC 5 ?_);cases h;exact aV
theorem gR(hK:aj K)(h:fz K n v1 v5=some r):jN M w0 r [dc 1887,.b 1,dc 15] (CW v1 v5):=by
 unfold fz at h;obtain⟨h42,h⟩|⟨h42,h⟩:=ah h
 ·refine ac 60 h42 (aC 6 ?_);cases h;exact aV
 ·refine ac 60 h42 (bX (ks':=[dc 60,dc 61,dc 31]) 5 (ai 3 ?_));obtain⟨h43,h⟩|⟨h43,h⟩:=ah h
  ·exact ap 69 h43 (aa (ab 0 (vQ hK h)))
  ·exact ap 69 h43 (aa (ab 0 (vQ hK h)))
theorem dp(hK:aj K)(h:cX K n v1 v4=some r):jN M w0 r [dc 471,.b 1,dc 15] (CU v1 v4):=by
 unfold cX at h;obtain⟨h36,h⟩|⟨h36,h⟩:=ah h
 ·refine ac 44 h36 (aC 6 ?_);cases h;exact aV
 ·refine ac 44 h36 (ao 13 7 4 ?_);obtain⟨h37,h⟩|⟨h37,h⟩:=ah h
  ·exact ac 60 h37 (ab 2 (gR hK h))
  ·refine ac 60 h37 (aU 7 3 ?_);obtain⟨h38,h⟩|⟨h38,h⟩:=ah h
   ·exact ac 60 h38 (ab 2 (gR hK h))
   ·refine ac 60 h38 (aU 7 3 ?_);obtain⟨h39,h⟩|⟨h39,h⟩:=ah h
    ·exact ac 60 h39 (ab 2 (gR hK h))
    ·refine ac 60 h39 (aU 7 3 ?_);obtain⟨h40,h⟩|⟨h40,h⟩:=ah h
     ·exact ac 60 h40 (ab 2 (gR hK h))
     ·refine ac 60 h40 (aU 7 3 ?_);obtain⟨h41,h⟩|⟨h41,h⟩:=ah h
      ·exact ac 60 h41 (ab 2 (gR hK h))
      ·exact ac 60 h41 (ab 2 (gR hK h))
theorem dI(hK:aj K)(h:dm K n v1 v3=some r):jN M w0 r [dc 117,.b 1,dc 15] (DB v1 v3):=by
 unfold dm at h;obtain⟨h21,h⟩|⟨h21,h⟩:=ah h
 ·refine ac 30 h21 (aC 6 ?_);cases h;exact aV
 ·refine ac 30 h21 (ao 13 7 4 ?_);obtain⟨h22,h⟩|⟨h22,h⟩:=ah h
  ·exact ac 44 h22 (ab 2 (dp hK h))
  ·refine ac 44 h22 (aU 7 3 ?_);obtain⟨h23,h⟩|⟨h23,h⟩:=ah h
   ·exact ac 44 h23 (ab 2 (dp hK h))
   ·refine ac 44 h23 (aU 7 3 ?_);obtain⟨h24,h⟩|⟨h24,h⟩:=ah h
    ·exact ac 44 h24 (ab 2 (dp hK h))
    ·refine ac 44 h24 (aU 7 3 ?_);obtain⟨h25,h⟩|⟨h25,h⟩:=ah h
     ·exact ac 44 h25 (ab 2 (dp hK h))
     ·refine ac 44 h25 (aU 7 3 ?_);obtain⟨h26,h⟩|⟨h26,h⟩:=ah h
      ·exact ac 44 h26 (ab 2 (dp hK h))
      ·refine ac 44 h26 (aU 7 3 ?_);obtain⟨h27,h⟩|⟨h27,h⟩:=ah h
       ·exact ac 44 h27 (ab 2 (dp hK h))
       ·refine ac 44 h27 (aU 7 3 ?_);obtain⟨h28,h⟩|⟨h28,h⟩:=ah h
        ·exact ac 44 h28 (ab 2 (dp hK h))
        ·refine ac 44 h28 (aU 7 3 ?_);obtain⟨h29,h⟩|⟨h29,h⟩:=ah h
         ·exact ac 44 h29 (ab 2 (dp hK h))
         ·refine ac 44 h29 (aU 7 3 ?_);obtain⟨h30,h⟩|⟨h30,h⟩:=ah h
          ·exact ac 44 h30 (ab 2 (dp hK h))
          ·refine ac 44 h30 (aU 7 3 ?_);obtain⟨h31,h⟩|⟨h31,h⟩:=ah h
           ·exact ac 44 h31 (ab 2 (dp hK h))
           ·refine ac 44 h31 (aU 7 3 ?_);obtain⟨h32,h⟩|⟨h32,h⟩:=ah h
            ·exact ac 44 h32 (ab 2 (dp hK h))
            ·refine ac 44 h32 (aU 7 3 ?_);obtain⟨h33,h⟩|⟨h33,h⟩:=ah h
             ·exact ac 44 h33 (ab 2 (dp hK h))
             ·refine ac 44 h33 (aU 7 3 ?_);obtain⟨h34,h⟩|⟨h34,h⟩:=ah h
              ·exact ac 44 h34 (ab 2 (dp hK h))
              ·refine ac 44 h34 (aU 7 3 ?_);obtain⟨h35,h⟩|⟨h35,h⟩:=ah h
               ·exact ac 44 h35 (ab 2 (dp hK h))
               ·exact ac 44 h35 (ab 2 (dp hK h))
theorem fQ(hK:aj K)(h:eL K n v1 v2=some r):jN M w0 r [dc 25,.b 0,dc 7] (EU v1 v2):=by
 unfold eL at h;obtain⟨h7,h⟩|⟨h7,h⟩:=ah h
 ·refine ac 3 h7 (aC 6 ?_);cases h;exact aV
 ·refine ac 3 h7 (aU 7 3 ?_);obtain⟨h8,h⟩|⟨h8,h⟩:=ah h
  ·refine ac 26 h8 (aC 6 ?_);cases h;exact aV
  ·refine ac 26 h8 (bX (ks':=[dc 233,dc 117,.b 1,dc 15]) 10 ?_);obtain⟨h9,h⟩|⟨h9,h⟩:=ah h
   ·exact ac 30 h9 (ab 2 (dI hK h))
   ·refine ac 30 h9 (aU 7 3 ?_);obtain⟨h10,h⟩|⟨h10,h⟩:=ah h
    ·exact ac 30 h10 (ab 2 (dI hK h))
    ·refine ac 30 h10 (aU 7 3 ?_);obtain⟨h11,h⟩|⟨h11,h⟩:=ah h
     ·exact ac 30 h11 (ab 2 (dI hK h))
     ·refine ac 30 h11 (aU 7 3 ?_);obtain⟨h12,h⟩|⟨h12,h⟩:=ah h
      ·exact ac 30 h12 (ab 2 (dI hK h))
      ·refine ac 30 h12 (aU 7 3 ?_);obtain⟨h13,h⟩|⟨h13,h⟩:=ah h
       ·exact ac 30 h13 (ab 2 (dI hK h))
       ·refine ac 30 h13 (aU 7 3 ?_);obtain⟨h14,h⟩|⟨h14,h⟩:=ah h
        ·exact ac 30 h14 (ab 2 (dI hK h))
        ·refine ac 30 h14 (aU 7 3 ?_);obtain⟨h15,h⟩|⟨h15,h⟩:=ah h
         ·exact ac 30 h15 (ab 2 (dI hK h))
         ·refine ac 30 h15 (aU 7 3 ?_);obtain⟨h16,h⟩|⟨h16,h⟩:=ah h
          ·exact ac 30 h16 (ab 2 (dI hK h))
          ·refine ac 30 h16 (aU 7 3 ?_);obtain⟨h17,h⟩|⟨h17,h⟩:=ah h
           ·exact ac 30 h17 (ab 2 (dI hK h))
           ·refine ac 30 h17 (aU 7 3 ?_);obtain⟨h18,h⟩|⟨h18,h⟩:=ah h
            ·exact ac 30 h18 (ab 2 (dI hK h))
            ·refine ac 30 h18 (aU 7 3 ?_);obtain⟨h19,h⟩|⟨h19,h⟩:=ah h
             ·exact ac 30 h19 (ab 2 (dI hK h))
             ·refine ac 30 h19 (aU 7 3 ?_);obtain⟨h20,h⟩|⟨h20,h⟩:=ah h
              ·exact ac 30 h20 (ab 2 (dI hK h))
              ·exact ac 30 h20 (ab 2 (dI hK h))
theorem ug(hK:aj K)(h:lZ K n v1=some r):aI Try.prog 85 [.int .i32 v1] (fun v _=>v=iI r):=by
 refine aZ (cat Try.f85 (pn 1)) Try.func85 Try.ntmps85 fun M w0=>(aY ⟨[(0,.int .i32 v1)],[],[],[]⟩ ?_);unfold lZ at h;refine cA 24 25 0 7 5 (ai 3 ?_);obtain⟨h1,h⟩|⟨h1,h⟩:=ah h
 ·exact ap 6 h1 (aa (ab 0 (fQ hK h)))
 ·refine ap 6 h1 (aN 7 4 ?_);obtain⟨h2,h⟩|⟨h2,h⟩:=ah h
  ·exact ap 10 h2 (aa (ab 0 (fQ hK h)))
  ·refine ap 10 h2 (aN 10 3 ?_);obtain⟨h3,h⟩|⟨h3,h⟩:=ah h
   ·refine ap 13 h3 (aN 15 5 ?_);obtain⟨h4,h⟩|⟨h4,h⟩:=ah h
    ·exact ap 18 h4 (aa (ab 0 (fQ hK h)))
    ·refine ap 18 h4 (aN 18 3 ?_);obtain⟨h5,h⟩|⟨h5,h⟩:=ah h
     ·exact ap 21 h5 (aa (ab 0 (fQ hK h)))
     ·exact ap 21 h5 (aa (ab 0 (fQ hK h)))
   ·refine ap 13 h3 (aN 18 8 ?_);obtain⟨h6,h⟩|⟨h6,h⟩:=ah h
    ·exact ap 21 h6 (aa (ab 0 (fQ hK h)))
    ·exact ap 21 h6 (aa (ab 0 (fQ hK h)))
end
noncomputable section
variable(M:Nat→Prop)(w0:aw)(r:Bool)(v1:Int)(v2:Bool)  
abbrev xp(n:Nat):ak:=.c (cat Try.f87 (pn n))
abbrev DQ:Cx:=⟨Try.prog,9,M,w0⟩
abbrev Be:=bodyPost Try.prog Try.f87 (bn M w0 (fun v _=>v=.bool r))
abbrev zP(ks:List ak)(s:AS):=VE (DQ M w0) (Be M w0 r) ks .normal s
def yj:AS:=⟨[(4,.bool v2)],[],[],[]⟩
variable{M w0 r v1 v2}{K:Kn}{n:Nat}
theorem ni(hK:aj K)(h:gL K n v2=some r):zP M w0 r [xp 53,.b 0,xp 7] (yj v2):=by
 unfold gL at h;obtain⟨h4,h⟩|⟨h4,h⟩:=ah h
 ·refine ac 4 h4 (aC 6 ?_);cases h;exact aV
 ·refine ac 4 h4 (aC 6 ?_);cases h;exact aV
theorem sQ(hK:aj K)(h:nP K n v1=some r):aI Try.prog 87 [.int .i32 v1] (fun v _=>v=.bool r):=by
 refine aZ (cat Try.f87 (pn 1)) Try.func87 Try.ntmps87 fun M w0=>(aY ⟨[(0,.int .i32 v1)],[],[],[]⟩ ?_);unfold nP at h;refine cA 105 53 0 7 9 ?_;obtain⟨h1,h⟩|⟨h1,h⟩:=ah h
 ·exact ac 4 h1 (ab 2 (ni hK h))
 ·refine ac 4 h1 (aU 7 3 ?_);obtain⟨h2,h⟩|⟨h2,h⟩:=ah h
  ·exact ac 4 h2 (ab 2 (ni hK h))
  ·refine ac 4 h2 (aU 7 3 ?_);obtain⟨h3,h⟩|⟨h3,h⟩:=ah h
   ·exact ac 4 h3 (ab 2 (ni hK h))
   ·exact ac 4 h3 (ab 2 (ni hK h))
end
noncomputable section
variable(M:Nat→Prop)(w0:aw)(r:Bool)(v1 v2:Int)(v5 v7 v8:Bool)  
abbrev fZ(n:Nat):ak:=.c (cat Try.f82 (pn n))
abbrev Dp:Cx:=⟨Try.prog,29,M,w0⟩
abbrev zM:=bodyPost Try.prog Try.f82 (bn M w0 (fun v _=>v=.bool r))
abbrev pd(ks:List ak)(s:AS):=VE (Dp M w0) (zM M w0 r) ks .normal s
def EL:AS:=⟨[(4,.bool v8)],[],[],[]⟩
def Al:AS:=⟨[(0,.int .i32 v1),(1,.int .i32 v2),(16,.bool v7)],[],[],[]⟩
def Ab:AS:=⟨[(0,.int .i32 v1),(1,.int .i32 v2),(5,.bool v5)],[],[],[]⟩
variable{M w0 r v1 v2 v5 v7 v8}{K:Kn}{n:Nat}
theorem sC(hK:aj K)(h:kM K n v8=some r):pd M w0 r [fZ 15] (EL v8):=by
 unfold kM at h;refine aC 1 ?_;cases h;exact aV
theorem vr(hK:aj K)(h:kP K n v1 v2 v7=some r):pd M w0 r [fZ 415,.b 0,fZ 7] (Al v1 v2 v7):=by
 unfold kP at h;obtain⟨h8,h⟩|⟨h8,h⟩:=ah h
 ·refine ac 16 h8 (aC 6 ?_);cases h;exact aV
 ·refine ac 16 h8 (bX (ks':=[fZ 14,fZ 15]) 4 (ai 3 ?_));obtain⟨h9,h⟩|⟨h9,h⟩:=ah h
  ·exact ap 25 h9 (aa (ab 0 (sC hK h)))
  ·exact ap 25 h9 (aa (ab 0 (sC hK h)))
theorem t9(hK:aj K)(h:lz K n v1 v2 v5=some r):pd M w0 r [fZ 25,.b 0,fZ 7] (Ab v1 v2 v5):=by
 unfold lz at h;obtain⟨h4,h⟩|⟨h4,h⟩:=ah h
 ·refine ac 5 h4 (aC 6 ?_);cases h;exact aV
 ·refine ac 5 h4 (ao 6 7 2 (ai 1 ?_));obtain⟨v6,h5,h⟩:=bind_some h;refine aD (sQ hK h5) (aa ?_);obtain⟨h6,h⟩|⟨h6,h⟩:=ah h
  ·refine ac 13 h6 (aC 6 ?_);cases h;exact aV
  ·refine ac 13 h6 (ao 6 7 2 (ai 3 ?_));obtain⟨h7,h⟩|⟨h7,h⟩:=ah h
   ·exact ap 19 h7 (aa (ab 0 (vr hK h)))
   ·exact ap 19 h7 (aa (ab 0 (vr hK h)))
theorem CC(hK:aj K)(h:rt K n v1 v2=some r):aI Try.prog 82 [.int .i32 v1,.int .i32 v2] (fun v _=>v=.bool r):=by
 refine aZ (cat Try.f82 (pn 1)) Try.func82 Try.ntmps82 fun M w0=>(aY ⟨[(0,.int .i32 v1),(1,.int .i32 v2)],[],[],[]⟩ ?_);unfold rt at h;refine cA 24 25 0 7 5 (ai 1 ?_);obtain⟨v3,h1,h⟩:=bind_some h;refine aD (sQ hK h1) (aN 3 1 ?_);obtain⟨h2,h⟩|⟨h2,h⟩:=ah h
 ·exact ap 8 h2 (aa (ab 0 (t9 hK h)))
 ·refine ap 8 h2 (aN 4 1 ?_);obtain⟨v4,h3,h⟩:=bind_some h;exact aD (ug hK h3) (aa (ab 0 (t9 hK h)))
end
noncomputable section
variable(M:Nat→Prop)(w0:aw)(r:List Int)(v1:ByteArray)(v2:Nat)(v9:Int)(v10:Nat)(v11:List Int)(v13:Bool)(v14:List Int)(m1:Nat)(L1:Int→Nat→(List Int)→Option (List Int))
abbrev py:Cx:=⟨Try.prog,26,M,w0⟩
abbrev pB:=bodyPost Try.prog Try.f70 (bn M w0 (fun v s=>v=.ref 23∧look 23 s.r=some ⟨3,1,lm (bi .i64) r⟩))
abbrev pc(ks:List ak)(s:AS):=VE (py M w0) (pB M w0 r) ks .normal s
abbrev fh(n:Nat):ak:=.c (cat Try.f70 (pn n))
abbrev o8:List ak:=[.b 0,fh 31]
abbrev n3:List ak:=kl (py M w0) (pB M w0 r) o8 (cat Try.f70 (pn 244)) m1::o8
def AE:AS:=⟨[(3,.ref 23),(6,.int .i32 ((Utf8.decode v1 v10).1:Int)),(8,.sit 320008 v2 v1 (v10+(Utf8.decode v1 v10).2))],[],[(23,⟨3,1,lm (bi .i64) v14⟩)],[23,320008]⟩
def BT:AS:=⟨[(3,.ref 23),(5,iI ((v10:Nat):Int)),(6,.int .i32 ((Utf8.decode v1 v10).1:Int)),(8,.sit 320008 v2 v1 (v10+(Utf8.decode v1 v10).2)),(19,.bool v13)],[],[(23,⟨3,1,lm (bi .i64) v11⟩)],[23,320008]⟩
def uj:AS:=⟨[(3,.ref 23),(4,.int .i32 v9),(8,.sit 320008 v2 v1 v10)],[],[(23,⟨3,1,lm (bi .i64) v11⟩)],[23,320008]⟩
abbrev mO:Prop:=∀{v9:Int} {v10:Nat} {v11:(List Int)},L1 v9 v10 v11=some r→LP (py M w0) (pB M w0 r) o8 (cat Try.f70 (pn 244)) m1 (uj v1 v2 v9 v10 v11)
variable{M w0 r v1 v2 v9 v10 v11 v13 v14 m1 L1}{K:Kn}{n:Nat}
theorem wd(hK:aj K)(hv2:w0.w.heap.size≤v2)(hL1:mO M w0 r v1 v2 m1 L1)(h:lQ K n v1 v10 L1 v14=some r):pc M w0 r (fh 7835 :: .b 1::n3 M w0 r m1) (AE v1 v2 v10 v14):=by
 unfold lQ at h;exact ab 2 (bo (hL1 h))
theorem tB(hK:aj K)(hv2:w0.w.heap.size≤v2)(hL1:mO M w0 r v1 v2 m1 L1)(h:lD K n v1 v10 v11 L1 v13=some r):pc M w0 r (fh 15669::fh 7835 :: .b 1::n3 M w0 r m1) (BT v1 v2 v10 v11 v13):=by
 unfold lD at h;obtain⟨h14,h⟩|⟨h14,h⟩:=ah h
 ·refine ac 19 h14 (aU 2 1 (ai 3 ?_));obtain⟨h15,h⟩:=aS h;exact ax (cf 23 23 3 1 (bi .i64) (rfl) (fun _=>rfl) h15) (aa (ab 0 (wd hK (v2:=v2) hv2 hL1 h)))
 ·exact ac 19 h14 (ab 2 (wd hK (v2:=v2) hv2 hL1 h))
theorem A1(hK:aj K)(hv2:w0.w.heap.size≤v2)(hL1:mO M w0 r v1 v2 m1 L1)(h:k9 K n v1 L1 v9 v10 v11=some r):pc M w0 r (fh 244::n3 M w0 r m1) (uj v1 v2 v9 v10 v11):=by
 unfold k9 at h;refine ao 2 3 1 (ai 0 ?_);obtain⟨h11,h⟩|⟨h11,h⟩:=ah h
 ·refine pN 8 (id:=320008) (g:=v2) h11 hv2 (aa (bX (ks':=fh 15668::fh 15669::fh 7835 :: .b 1::n3 M w0 r m1) 8 (ai 3 ?_)));obtain⟨h12,h⟩|⟨h12,h⟩:=ah h
  ·refine ap 15 h12 (aN 5 2 ?_);obtain⟨v12,h13,h⟩:=bind_some h;exact aD (CC hK h13) (aa (ab 0 (tB hK (v2:=v2) hv2 hL1 h)))
  ·exact ap 15 h12 (aa (ab 0 (tB hK (v2:=v2) hv2 hL1 h)))
 ·refine pR 8 (id:=320008) (g:=v2) h11 (aa (aC 9 ?_));cases h;exact dQ
theorem Cj(hK:aj K)(hv2:w0.w.heap.size≤v2)(m:Nat):mO M w0 r v1 v2 m (mE K n v1 m):=by
 induction m with
 | zero=>intro v9 v10 v11 h;cases h
 | succ m ih=>intro v9 v10 v11 h;have h:k9 K n v1 (mE K n v1 m) v9 v10 v11=some r:=h;exact bm (A1 hK hv2 ih h)
theorem Cg(hK:aj K)(h:pE K n v1=some r):aI Try.prog 70 [.str v1] (fun v s=>v=.ref 23∧look 23 s.r=some ⟨3,1,lm (bi .i64) r⟩):=by
 refine aZ (cat Try.f70 (pn 1)) Try.func70 Try.ntmps70 fun M w0=>(aY ⟨[(0,.str v1)],[],[],[]⟩ ?_);unfold pE at h;exact bK 60 61 31 8 (ai 1 (qu 320008 (b:=v1) fun v2 hv2=>(aa (eI 2 0 1 (bE [3,4,8] [] [] (eV 23 3 3 1 (ab 0 (ce (p:=pn 122) n (Cj hK (v2:=v2) hv2 n h)))))))))
end
noncomputable section
variable(M:Nat→Prop)(w0:aw)(r:Bool)(v1 v2:aF)(v3 v7 v10:Bool)  
abbrev il(n:Nat):ak:=.c (cat Try.f56 (pn n))
abbrev Dh:Cx:=⟨Try.prog,61,M,w0⟩
abbrev C2:=bodyPost Try.prog Try.f56 (bn M w0 (fun v _=>v=.bool r))
abbrev sf(ks:List ak)(s:AS):=VE (Dh M w0) (C2 M w0 r) ks .normal s
def Eb:AS:=⟨[(4,.bool v7)],[],[],[]⟩
def Bu:AS:=⟨[(2,.ptr 2 0),(3,.ptr 3 0),(51,.bool v10)],[(2,am v1),(3,am v2)],[],[2,3]⟩
def Cb:AS:=⟨[(2,.ptr 2 0),(3,.ptr 3 0),(12,.bool v3)],[(2,am v1),(3,am v2)],[],[2,3]⟩
variable{M w0 r v1 v2 v3 v7 v10}{K:Kn}{n:Nat}
theorem j9(hK:aj K)(h:gk K n v7=some r):sf M w0 r [il 53,il 7] (Eb v7):=by
 unfold gk at h;refine aC 2 ?_;cases h;exact aV
theorem iE(hK:aj K)(h:gB K n v1 v2 v10=some r):sf M w0 r [il 29,il 15] (Bu v1 v2 v10):=by
 unfold gB at h;obtain⟨h16,h⟩|⟨h16,h⟩:=ah h
 ·refine ac 51 h16 (aC 5 ?_);cases h;exact aV
 ·refine ac 51 h16 (eW 2 3 3 (ai 6 ?_));obtain⟨v11,h17,h⟩:=bind_some h;refine eF 1058 (Cg hK h17) (fD 23) (ax (bA (bi .i64) v11) (aa (aC 1 ?_)));cases h;exact aV
theorem w6(hK:aj K)(h:k7 K n v1 v2 v3=some r):sf M w0 r [il 13,il 7] (Cb v1 v2 v3):=by
 unfold k7 at h;obtain⟨h2,h⟩|⟨h2,h⟩:=ah h
 ·refine ac 12 h2 (ao 4 5 2 (ai 4 ?_));obtain⟨h3,h⟩|⟨h3,h⟩:=ah h
  ·refine ap 16 h3 (aN 12 8 ?_);obtain⟨h4,h⟩|⟨h4,h⟩:=ah h
   ·exact ap 24 h4 (aa (ab 0 (j9 hK h)))
   ·refine ap 24 h4 (aN 13 1 ?_);obtain⟨v4,h5,h⟩:=bind_some h;exact aD (jH hK h5) (aa (ab 0 (j9 hK h)))
  ·refine ap 16 h3 (aN 5 1 ?_);obtain⟨v5,h6,h⟩:=bind_some h;refine aD (jH hK h6) (aN 8 2 ?_);obtain⟨h7,h⟩|⟨h7,h⟩:=ah h
   ·refine ap 20 h7 (aN 12 4 ?_);obtain⟨h8,h⟩|⟨h8,h⟩:=ah h
    ·exact ap 24 h8 (aa (ab 0 (j9 hK h)))
    ·refine ap 24 h8 (aN 13 1 ?_);obtain⟨v6,h9,h⟩:=bind_some h;exact aD (jH hK h9) (aa (ab 0 (j9 hK h)))
   ·exact ap 20 h7 (aa (ab 0 (j9 hK h)))
 ·refine ac 12 h2 (oh 4 5 3 4 (ai 4 ?_));obtain⟨h10,h⟩|⟨h10,h⟩:=ah h
  ·exact ap 32 h10 (aa (ab 0 (iE hK h)))
  ·refine ap 32 h10 (aN 9 5 ?_);obtain⟨h11,h⟩|⟨h11,h⟩:=ah h
   ·exact ap 37 h11 (aa (ab 0 (iE hK h)))
   ·refine ap 37 h11 (aN 10 1 ?_);obtain⟨v8,h12,h⟩:=bind_some h;refine aD (jH hK h12) (aN 14 3 ?_);obtain⟨h13,h⟩|⟨h13,h⟩:=ah h
    ·exact ap 42 h13 (aa (ab 0 (iE hK h)))
    ·refine ap 42 h13 (aN 18 4 ?_);obtain⟨h14,h⟩|⟨h14,h⟩:=ah h
     ·refine ap 46 h14 (aN 19 1 ?_);obtain⟨v9,h15,h⟩:=bind_some h;exact aD (jH hK h15) (aa (ab 0 (iE hK h)))
     ·exact ap 46 h14 (aa (ab 0 (iE hK h)))
theorem uu(hK:aj K)(h:lO K n v1 v2=some r):aI Try.prog 56 [.agg (am v1),.agg (am v2)] (fun v _=>v=.bool r):=by
 refine aZ (cat Try.f56 (pn 1)) Try.func56 Try.ntmps56 fun M w0=>(aY ⟨[(0,.agg (am v1)),(1,.agg (am v2))],[],[],[]⟩ ?_);unfold lO at h;refine bK 12 13 7 4 (ai 4 ?_);obtain⟨h1,h⟩|⟨h1,h⟩:=ah h
 ·exact ap 8 h1 (aa (ab 0 (w6 hK h)))
 ·exact ap 8 h1 (aa (ab 0 (w6 hK h)))
end
noncomputable section
variable(M:Nat→Prop)(w0:aw)(r:List Int)(v1:Int)(v2:List Int)(v3 v4:Bool)  
abbrev ve(n:Nat):ak:=.c (cat Try.f89 (pn n))
abbrev y2:Cx:=⟨Try.prog,78,M,w0⟩
abbrev yp:=bodyPost Try.prog Try.f89 (bn M w0 (fun v s=>v=.ref 9∧dd s.o []∧look 9 s.r=some ⟨5,1,lm (bi .u8) r⟩))
abbrev xA(ks:List ak)(s:AS):=VE (y2 M w0) (yp M w0 r) ks .normal s
def B9:AS:=⟨[(0,.ref 9),(1,.int .i32 v1),(50,.bool v4)],[],[(9,⟨5,1,lm (bi .u8) v2⟩)],[9]⟩
def zU:AS:=⟨[(0,.ref 9),(1,.int .i32 v1),(5,.int .u32 (IntKind.wrap .u32 v1)),(25,.bool v3)],[],[(9,⟨5,1,lm (bi .u8) v2⟩)],[9]⟩
variable{M w0 r v1 v2 v3 v4}{K:Kn}{n:Nat}
theorem uy(hK:aj K)(h:kR K n v1 v2 v4=some r):xA M w0 r [ve 479,.b 0] (B9 v1 v2 v4):=by
 unfold kR at h;obtain⟨h8,h⟩|⟨h8,h⟩:=ah h
 ·refine ac 50 h8 (ao 4 5 2 (ai 20 ?_));obtain⟨h9,h⟩:=aS h;refine ax (cf 77 9 5 1 (bi .u8) (rfl) (fun _=>rfl) h9) (aa (aC 2 ?_));cases h;exact ey
 ·refine ac 50 h8 (ao 6 7 2 (ai 2 ?_));obtain⟨h10,h⟩:=aS h;refine ax (cf 10 9 5 1 (bi .u8) (rfl) (fun _=>rfl) h10) (aa (aC 2 ?_));cases h;exact ey
theorem rd(hK:aj K)(h:jV K n v1 v2 v3=some r):xA M w0 r [ve 119,.b 0] (zU v1 v2 v3):=by
 unfold jV at h;obtain⟨h5,h⟩|⟨h5,h⟩:=ah h
 ·refine ac 25 h5 (ao 4 5 2 (ai 15 ?_));obtain⟨h6,h⟩:=aS h;refine ax (cf 49 9 5 1 (bi .u8) (rfl) (fun _=>rfl) h6) (aa (aC 2 ?_));cases h;exact ey
 ·refine ac 25 h5 (ao 6 7 2 (ai 3 ?_));obtain⟨h7,h⟩|⟨h7,h⟩:=ah h
  ·exact ap 53 h7 (aa (ab 0 (uy hK h)))
  ·exact ap 53 h7 (aa (ab 0 (uy hK h)))
theorem zE(hK:aj K)(h:qY K n v1 v2=some r):fy Try.prog 89 [.ref 9,.int .i32 v1] [] 9 ⟨5,1,lm (bi .u8) v2⟩ [9] (fun v s=>v=.ref 9∧dd s.o []∧look 9 s.r=some ⟨5,1,lm (bi .u8) r⟩):=by
 refine iW (c:=cat Try.f89 (pn 1)) Try.func89 (by kernel_rfl) _ Try.ntmps89 (of_decide_eq_true (by kernel_rfl)) fun M w0=>(aY ⟨[(0,.ref 9),(1,.int .i32 v1)],[],[(9,⟨5,1,lm (bi .u8) v2⟩)],[9]⟩ ?_);unfold qY at h;refine eI 29 0 7 ?_;obtain⟨h1,h⟩|⟨h1,h⟩:=ah h
 ·refine ac 11 h1 (ao 4 5 2 (ai 10 ?_));obtain⟨h2,h⟩:=aS h;refine ax (cf 24 9 5 1 (bi .u8) (rfl) (fun _=>rfl) h2) (aa (aC 2 ?_));cases h;exact ey
 ·refine ac 11 h1 (ao 13 7 4 ?_);obtain⟨h3,h⟩|⟨h3,h⟩:=ah h
  ·exact ac 25 h3 (ab 2 (rd hK h))
  ·refine ac 25 h3 (aU 3 1 (ai 3 ?_));obtain⟨h4,h⟩|⟨h4,h⟩:=ah h
   ·exact ap 30 h4 (aa (ab 0 (rd hK h)))
   ·exact ap 30 h4 (aa (ab 0 (rd hK h)))
end
noncomputable section
variable(M:Nat→Prop)(w0:aw)(r:List Int)(v1:Int)(v2:List Int)  
variable{M w0 r v1 v2}{K:Kn}{n:Nat}
theorem tu(hK:aj K)(h:ob K n v1 v2=some r):fy Try.prog 84 [.ref 9,.int .i32 v1] [] 9 ⟨5,1,lm (bi .u8) v2⟩ [9] (fun v s=>v=.ref 9∧dd s.o []∧look 9 s.r=some ⟨5,1,lm (bi .u8) r⟩):=by
 refine iW (c:=cat Try.f84 (pn 1)) Try.func84 (by kernel_rfl) _ Try.ntmps84 (of_decide_eq_true (by kernel_rfl)) fun M w0=>(aY ⟨[(0,.ref 9),(1,.int .i32 v1)],[],[(9,⟨5,1,lm (bi .u8) v2⟩)],[9]⟩ ?_);unfold ob at h;refine ao 13 7 5 ?_;obtain⟨h1,h⟩|⟨h1,h⟩:=ah h
 ·refine ac 7 h1 (ao 4 5 2 (ai 4 ?_));obtain⟨h2,h⟩:=aS h;refine ax (cf 12 9 5 1 (bi .u8) (rfl) (fun _=>rfl) h2) (aa (aC 2 ?_));cases h;exact ey
 ·refine ac 7 h1 (eW 2 3 3 (ai 2 ?_));obtain⟨v3,h3,h⟩:=bind_some h;refine fc 9 9 [] (zE hK h3) (aa (aC 1 ?_));cases h;exact ey
end
noncomputable section
variable(M:Nat→Prop)(w0:aw)(r:Int×Unit×(List Int))(v1:Int)(v2:Bool)(v3:List Int)  
variable{M w0 r v1 v2 v3}{K:Kn}{n:Nat}
theorem tx(hK:aj K)(h:oc K n v1 v2 v3=some r):fy Try.prog 71 [.ptr 450114 0,.int .i32 v1] [(450114,[(kf v2 450114),.ref 9])] 9 ⟨5,1,lm (bi .u8) v3⟩ [9,450114,1450114] (fun v s=>v=.tup [iI r.1,.vv .nilIface]∧dd s.o [(450114,[.ptr 450114 0,.ref 9])]∧look 9 s.r=some ⟨5,1,lm (bi .u8) r.2.2⟩):=by
 refine iW (c:=cat Try.f71 (pn 1)) Try.func71 (by kernel_rfl) _ Try.ntmps71 (of_decide_eq_true (by kernel_rfl)) fun M w0=>(aY ⟨[(0,.ptr 450114 0),(1,.int .i32 v1)],[(450114,[(kf v2 450114),.ref 9])],[(9,⟨5,1,lm (bi .u8) v3⟩)],[9,450114,1450114]⟩ ?_);unfold oc at h;refine ao 6 7 3 (ai 1 ?_);rcases ah h with⟨h1,gh1⟩|⟨h1,gh1⟩
 ·subst h1;have h:=gh1;refine xw 450114 (b:=true) (c1:=.ref 9) (aa (ao 2 3 1 (ai 4 (ax (bA (bi .u8) v3) (aa (ao 2 3 1 (ai 6 ?_)))))));obtain⟨v4,h2,h⟩:=bind_some h;refine fc 9 9 [] (tu hK h2) (aa (ao 2 3 1 (ai 4 (ax (bA (bi .u8) v4) (aa (aC 1 ?_))))));cases h;exact qT
 ·subst h1;have h:=gh1;refine xw 450114 (b:=false) (c1:=.ref 9) (aa (ao 2 3 1 (ai 4 (ax (bA (bi .u8) v3) (aa (ao 2 3 1 (ai 6 ?_)))))));obtain⟨v5,h3,h⟩:=bind_some h;refine fc 9 9 [] (tu hK h3) (aa (ao 2 3 1 (ai 4 (ax (bA (bi .u8) v5) (aa (aC 1 ?_))))));cases h;exact qT
end
noncomputable section
variable(M:Nat→Prop)(w0:aw)(r:Int)(v1 v2:Int)  
variable{M w0 r v1 v2}{K:Kn}{n:Nat}
theorem rj(hK:aj K)(h:iJ K n v1 v2=some r):aI Try.prog 73 [.int .i32 v1,iI v2] (fun v _=>v=iI r):=by
 refine aZ (cat Try.f73 (pn 1)) Try.func73 Try.ntmps73 fun M w0=>(aY ⟨[(0,.int .i32 v1),(1,iI v2)],[],[],[]⟩ ?_);unfold iJ at h;refine ao 6 7 3 (ai 1 ?_);obtain⟨v3,h1,h⟩:=bind_some h;refine aD (ug hK h1) (aN 3 1 ?_);obtain⟨v4,h2,h⟩:=bind_some h;refine aD (lL hK h2) (aa (aC 1 ?_));cases h;exact aV
end
noncomputable section
variable(M:Nat→Prop)(w0:aw)(r:Int)(v1:ByteArray)(v2:Int)(v3:Nat)(v5:Int)(v6 m1:Nat)(L1:Int→Nat→Option Int)
abbrev qV:Cx:=⟨Try.prog,19,M,w0⟩
abbrev rf:=bodyPost Try.prog Try.f74 (bn M w0 (fun v _=>v=iI r))
abbrev yl(ks:List ak)(s:AS):=VE (qV M w0) (rf M w0 r) ks .normal s
abbrev ux(n:Nat):ak:=.c (cat Try.f74 (pn n))
abbrev rA:List ak:=[.b 0,ux 15]
abbrev C7:List ak:=kl (qV M w0) (rf M w0 r) rA (cat Try.f74 (pn 116)) m1::rA
def vR:AS:=⟨[(1,iI v2),(5,iI v5),(9,.sit 320009 v3 v1 v6)],[],[],[320009]⟩
abbrev xc:Prop:=∀{v5:Int} {v6:Nat},L1 v5 v6=some r→LP (qV M w0) (rf M w0 r) rA (cat Try.f74 (pn 116)) m1 (vR v1 v2 v3 v5 v6)
variable{M w0 r v1 v2 v3 v5 v6 m1 L1}{K:Kn}{n:Nat}
theorem AW(hK:aj K)(hv3:w0.w.heap.size≤v3)(hL1:xc M w0 r v1 v2 v3 m1 L1)(h:lE K n v1 v2 L1 v5 v6=some r):yl M w0 r (ux 116::C7 M w0 r m1) (vR v1 v2 v3 v5 v6):=by
 unfold lE at h;refine ao 2 3 1 (ai 0 ?_);obtain⟨h3,h⟩|⟨h3,h⟩:=ah h
 ·refine pN 9 (id:=320009) (g:=v3) h3 hv3 (aa (eI 13 1 6 (ai 3 ?_)));obtain⟨v7,h4,h⟩:=bind_some h;exact aD (rj hK h4) (aa (ab 1 (bo (hL1 h))))
 ·refine pR 9 (id:=320009) (g:=v3) h3 (aa (aC 9 ?_));cases h;exact aV
theorem z8(hK:aj K)(hv3:w0.w.heap.size≤v3)(m:Nat):xc M w0 r v1 v2 v3 m (nH K n v1 v2 m):=by
 induction m with
 | zero=>intro v5 v6 h;cases h
 | succ m ih=>intro v5 v6 h;have h:lE K n v1 v2 (nH K n v1 v2 m) v5 v6=some r:=h;exact bm (AW hK hv3 ih h)
theorem wJ(hK:aj K)(h:mF K n v1 v2=some r):aI Try.prog 74 [.str v1,iI v2] (fun v _=>v=iI r):=by
 refine aZ (cat Try.f74 (pn 1)) Try.func74 Try.ntmps74 fun M w0=>(aY ⟨[(0,.str v1),(1,iI v2)],[],[],[]⟩ ?_);unfold mF at h;exact bK 28 29 15 6 (ai 1 (qu 320009 (b:=v1) fun v3 hv3=>(aa (ab 1 (ce (p:=pn 58) n (z8 hK (v3:=v3) hv3 n h))))))
end
noncomputable section
variable(M:Nat→Prop)(w0:aw)(r:aB)(v1:List aF)(v4:Int)(v5:Bool)(v6:List Int)(v9:Bool)(v10:aH)(v14:ByteArray)(v15:Int)(v18:aH)(v22:ByteArray)(v23:Int)(m1:Nat)(L1:Int→Bool→(List Int)→Option aB)
abbrev pK:Cx:=⟨Try.prog,59,M,w0⟩
abbrev oQ:=bodyPost Try.prog Try.f57 (bn M w0 (fun v _=>v=.agg (aE r)))
abbrev nc(ks:List ak)(s:AS):=VE (pK M w0) (oQ M w0 r) ks .normal s
abbrev cW(n:Nat):ak:=.c (cat Try.f57 (pn n))
abbrev qo:List ak:=[.b 0,cW 15]
abbrev Ek:List ak:=kl (pK M w0) (oQ M w0 r) qo (cat Try.f57 (pn 116)) m1::qo
def Bc:AS:=⟨[(2,.ptr 2 0),(6,.ptr 6 0),(7,.ptr 7 0),(8,.str v14)],[(2,List.set (aE cd) 61 (.nils)),(6,au v10),(7,List.set (aE ({ cd with Text:=(bytesOf v6),Space:=v15 }:aB)) 61 (.nils))],[],[2,6,7]⟩
def zQ:AS:=⟨[(2,.ptr 2 0),(6,.ptr 6 0),(7,.ptr 7 0),(8,.str v22)],[(2,List.set (aE cd) 61 (.nils)),(6,au v18),(7,List.set (aE ({ cd with Text:=(bytesOf v6),Space:=v23 }:aB)) 61 (.nils))],[],[2,6,7]⟩
def DF:AS:=⟨[(0,.sl (lm am v1)),(2,.ptr 2 0),(3,.ptr 451114 0)],[(2,List.set (aE cd) 61 (.nils)),(451114,[(kf v9 451114),.ref 401114])],[(401114,⟨5,1,lm (bi .u8) v6⟩)],[2,451114,401114]⟩
def wD:AS:=⟨[(0,.sl (lm am v1)),(2,.ptr 2 0),(3,.ptr 451114 0),(9,.sl (lm am v1)),(10,iI (v1.length:Int)),(11,iI v4)],[(2,List.set (aE cd) 61 (.nils)),(451114,[(kf v5 451114),.ref 401114])],[(401114,⟨5,1,lm (bi .u8) v6⟩)],[2,451114,401114]⟩
abbrev sE:Prop:=∀{v4:Int} {v5:Bool} {v6:(List Int)},L1 v4 v5 v6=some r→LP (pK M w0) (oQ M w0 r) qo (cat Try.f57 (pn 116)) m1 (wD v1 v4 v5 v6)
variable{M w0 r v1 v4 v5 v6 v9 v10 v14 v15 v18 v22 v23 m1 L1}{K:Kn}{n:Nat}
theorem vK(hK:aj K)(h:lB K n v6 v10 v14 v15=some r):nc M w0 r [cW 255] (Bc v6 v10 v14 v15):=by
 unfold lB at h;refine ao 2 3 1 (ai 3 ?_);obtain⟨v16,h24,h⟩:=bind_some h;refine aD (wJ hK h24) (aa (ao 2 3 1 (ai 1 ?_)));obtain⟨v17,h25,h⟩:=bind_some h;refine aD (jm hK h25) (aa (aC 3 (oY 2 ?_)));cases h;exact aV
theorem vn(hK:aj K)(h:nO K n v6 v18 v22 v23=some r):nc M w0 r [cW 255] (zQ v6 v18 v22 v23):=by
 unfold nO at h;refine ao 2 3 1 (ai 3 ?_);obtain⟨v24,h35,h⟩:=bind_some h;refine aD (wJ hK h35) (aa (ao 2 3 1 (ai 1 ?_)));obtain⟨v25,h36,h⟩:=bind_some h;refine aD (jm hK h36) (aa (aC 3 (oY 2 ?_)));cases h;exact aV
theorem vV(hK:aj K)(h:kU K n v1 v6 v9=some r):nc M w0 r [cW 15] (DF v1 v6 v9):=by
 unfold kU at h;rcases ah h with⟨h14,gh14⟩|⟨h14,gh14⟩
 ·subst h14;have h:=gh14;refine ao 2 3 1 (ai 1 ?_);obtain⟨h15,h⟩:=aS h;refine ax (bD am am h15 (cp) (fun _=>rfl)) (aa ?_);obtain⟨v10,h16,h⟩:=bO h;refine bq (ks':=[cW 62,cW 63]) 1 ⟨[(0,.sl (lm am v1)),(2,.ptr 2 0),(3,.ptr 451114 0),(6,.ptr 6 0)],[(2,List.set (aE cd) 61 (.nils)),(6,au v10),(451114,[.ptr 451114 0,.ref 401114])],[(401114,⟨5,1,lm (bi .u8) v6⟩)],[2,6,451114,401114]⟩ ?_ (by subst h16;kernel_rfl);refine ai 0 ?_;obtain⟨h17,h⟩:=aS h;refine tK 451114 401114 (L:=v6) h17 (aa (bK 12 13 7 4 (ai 2 (ax (bA am v1) (aN 4 1 ?_)))));obtain⟨h18,h⟩:=aS h;refine ax (bD am am h18 (cp) (fun _=>rfl)) (aa ?_);obtain⟨v11,h19,h⟩:=bO h;refine bq (ks':=[cW 509,cW 255]) 0 ⟨[(2,.ptr 2 0),(6,.ptr 6 0),(7,.ptr 7 0),(8,.str (bytesOf v6)),(36,.bool v11)],[(2,List.set (aE cd) 61 (.nils)),(6,au v10),(7,List.set (aE ({ cd with Text:=(bytesOf v6) }:aB)) 61 (.nils))],[],[2,6,7]⟩ ?_ (by subst h19;kernel_rfl)
  obtain⟨h20,h⟩|⟨h20,h⟩:=ah h
  ·refine ac 36 h20 (ao 4 5 2 (ai 4 ?_));obtain⟨h21,h⟩:=aS h;refine ax (lu h21) (aa ?_);obtain⟨v12,h22,h⟩:=bO h;refine bq (ks':=[cW 2037,cW 255]) 0 ⟨[(2,.ptr 2 0),(6,.ptr 6 0),(7,.ptr 7 0),(8,.str v12)],[(2,List.set (aE cd) 61 (.nils)),(6,au v10),(7,List.set (aE ({ cd with Text:=(bytesOf v6) }:aB)) 61 (.nils))],[],[2,6,7]⟩ ?_ (by subst h22;kernel_rfl);refine ai 2 ?_;obtain⟨v13,h23,h⟩:=bind_some h;exact aD (rj hK h23) (aa (ab 0 (vK hK h)))
  ·exact ac 36 h20 (ab 2 (vK hK h))
 ·subst h14;have h:=gh14;refine ao 2 3 1 (ai 1 ?_);obtain⟨h26,h⟩:=aS h;refine ax (bD am am h26 (cp) (fun _=>rfl)) (aa ?_);obtain⟨v18,h27,h⟩:=bO h;refine bq (ks':=[cW 62,cW 63]) 1 ⟨[(0,.sl (lm am v1)),(2,.ptr 2 0),(3,.ptr 451114 0),(6,.ptr 6 0)],[(2,List.set (aE cd) 61 (.nils)),(6,au v18),(451114,[.nilp,.ref 401114])],[(401114,⟨5,1,lm (bi .u8) v6⟩)],[2,6,451114,401114]⟩ ?_ (by subst h27;kernel_rfl);refine ai 0 ?_;obtain⟨h28,h⟩:=aS h;refine tK 451114 401114 (L:=v6) h28 (aa (bK 12 13 7 4 (ai 2 (ax (bA am v1) (aN 4 1 ?_)))));obtain⟨h29,h⟩:=aS h;refine ax (bD am am h29 (cp) (fun _=>rfl)) (aa ?_);obtain⟨v19,h30,h⟩:=bO h;refine bq (ks':=[cW 509,cW 255]) 0 ⟨[(2,.ptr 2 0),(6,.ptr 6 0),(7,.ptr 7 0),(8,.str (bytesOf v6)),(36,.bool v19)],[(2,List.set (aE cd) 61 (.nils)),(6,au v18),(7,List.set (aE ({ cd with Text:=(bytesOf v6) }:aB)) 61 (.nils))],[],[2,6,7]⟩ ?_ (by subst h30;kernel_rfl);obtain⟨h31,h⟩|⟨h31,h⟩:=ah h
  ·refine ac 36 h31 (ao 4 5 2 (ai 4 ?_));obtain⟨h32,h⟩:=aS h;refine ax (lu h32) (aa ?_);obtain⟨v20,h33,h⟩:=bO h;refine bq (ks':=[cW 2037,cW 255]) 0 ⟨[(2,.ptr 2 0),(6,.ptr 6 0),(7,.ptr 7 0),(8,.str v20)],[(2,List.set (aE cd) 61 (.nils)),(6,au v18),(7,List.set (aE ({ cd with Text:=(bytesOf v6) }:aB)) 61 (.nils))],[],[2,6,7]⟩ ?_ (by subst h33;kernel_rfl);refine ai 2 ?_;obtain⟨v21,h34,h⟩:=bind_some h;exact aD (rj hK h34) (aa (ab 0 (vn hK h)))
  ·exact ac 36 h31 (ab 2 (vn hK h))
theorem Dc(hK:aj K)(hL1:sE M w0 r v1 m1 L1)(h:mh K n v1 L1 v4 v5 v6=some r):nc M w0 r (cW 116::Ek M w0 r m1) (wD v1 v4 v5 v6):=by
 unfold mh at h;rcases ah h with⟨h7,gh7⟩|⟨h7,gh7⟩
 ·subst h7;have h:=gh7;refine ao 6 7 3 ?_;obtain⟨h8,h⟩|⟨h8,h⟩:=ah h
  ·refine ac 12 h8 (cN 8 9 1 3 5 (ai 0 ?_));obtain⟨h9,h⟩:=aS h;refine ax (bD am am h9 (cp) (fun _=>rfl)) (aa (ai 2 ?_));obtain⟨v7,h10,h⟩:=bind_some h;exact fc 401114 9 [(451114,450114)] (tx hK h10) (aa (ab 2 (bo (hL1 h))))
  ·exact ac 12 h8 (ab 5 (vV hK h))
 ·subst h7;have h:=gh7;refine ao 6 7 3 ?_;obtain⟨h11,h⟩|⟨h11,h⟩:=ah h
  ·refine ac 12 h11 (cN 8 9 1 3 5 (ai 0 ?_));obtain⟨h12,h⟩:=aS h;refine ax (bD am am h12 (cp) (fun _=>rfl)) (aa (ai 2 ?_));obtain⟨v8,h13,h⟩:=bind_some h;exact fc 401114 9 [(451114,450114)] (tx hK h13) (aa (ab 2 (bo (hL1 h))))
  ·exact ac 12 h11 (ab 5 (vV hK h))
theorem zx(hK:aj K)(m:Nat):sE M w0 r v1 m (mN K n v1 m):=by
 induction m with
 | zero=>intro v4 v5 v6 h;cases h
 | succ m ih=>intro v4 v5 v6 h;have h:mh K n v1 (mN K n v1 m) v4 v5 v6=some r:=h;exact bm (Dc hK ih h)
theorem Ae(hK:aj K)(h:qO K n v1=some r):aI Try.prog 57 [.sl (lm am v1)] (fun v _=>v=.agg (aE r)):=by
 refine aZ (cat Try.f57 (pn 1)) Try.func57 Try.ntmps57 fun M w0=>(aY ⟨[(0,.sl (lm am v1))],[],[],[]⟩ ?_);unfold qO at h;exact ao 6 7 3 (ai 0 (EJ 451114 (T:=114) (d:=3) (cs:=[.nilp,.nils]) (aa (bK 4 5 3 2 (ai 1 (ax (bA am v1) (aa (eI 2 0 1 (bE [0,2,3,9,10,11] [2,451114] [] (uS 401114 451114 1 5 1 (ab 0 (ce (p:=pn 58) n (zx hK n h)))))))))))))
end
noncomputable section
variable(M:Nat→Prop)(w0:aw)(r:List aB)(v1:List aq)(v2:Fv)(v3:List aF)(v30:Int)(v31:List aB)(v33:Bool)(v39:Int)(v41:Bool)(v43:Int)(v44:aB)(m1 m2:Nat)(L1:Int→(List aB)→Option (List aB))(L2:Int→Option (List aB))
abbrev jU:Cx:=⟨Try.prog,120,M,w0⟩
abbrev j3:=bodyPost Try.prog Try.f41 (bn M w0 (fun v s=>v=.ref 117∧look 117 s.r=some ⟨41,62,lm aE r⟩))
abbrev ki(ks:List ak)(s:AS):=VE (jU M w0) (j3 M w0 r) ks .normal s
abbrev cE(n:Nat):ak:=.c (cat Try.f41 (pn n))
abbrev rL:List ak:=[.b 0,cE 31]
abbrev eh:List ak:=kl (jU M w0) (j3 M w0 r) rL (cat Try.f41 (pn 244)) m1::rL
abbrev qv:List ak:=.b 3::cE 4009823 :: .b 2::cE 31327 :: .b 1::eh M w0 r m1
abbrev tC:List ak:=kl (jU M w0) (j3 M w0 r) (qv M w0 r m1) (cat Try.f41 (pn 16039288)) m2::(qv M w0 r m1)
def DM:AS:=⟨[(1,.fn v2.id v2.aJ),(5,.sl (lm am v3)),(6,.ref 117),(8,.ptr 8 0),(9,.bool v33),(10,.ptr 10 0),(11,iI v43)],[(8,am (gD v3 v30)),(10,aE v44)],[(117,⟨41,62,lm aE v31⟩)],[8,10,117]⟩
def yd:AS:=⟨[(1,.fn v2.id v2.aJ),(5,.sl (lm am v3)),(6,.ref 117),(7,iI v30),(8,.ptr 8 0),(9,.bool v33),(10,.ptr 10 0),(11,iI v39),(81,.bool v41)],[(8,am (gD v3 v30)),(10,List.set (aE cd) 61 (.nils))],[(117,⟨41,62,lm aE v31⟩)],[8,10,117]⟩
def wm:AS:=⟨[(1,.fn v2.id v2.aJ),(5,.sl (lm am v3)),(6,.ref 117),(7,iI v30),(8,.ptr 8 0),(9,.bool v33),(10,.ptr 10 0),(11,iI v39)],[(8,am (gD v3 v30)),(10,List.set (aE cd) 61 (.nils))],[(117,⟨41,62,lm aE v31⟩)],[8,10,117]⟩
def yA:AS:=⟨[(1,.fn v2.id v2.aJ),(5,.sl (lm am v3)),(6,.ref 117),(7,iI v30),(8,.ptr 8 0),(9,.bool v33)],[(8,am (gD v3 v30))],[(117,⟨41,62,lm aE v31⟩)],[8,117]⟩
def we:AS:=⟨[(1,.fn v2.id v2.aJ),(5,.sl (lm am v3)),(6,.ref 117),(7,iI v30)],[],[(117,⟨41,62,lm aE v31⟩)],[117]⟩
abbrev fY:Prop:=∀{v30:Int} {v31:(List aB)},L1 v30 v31=some r→LP (jU M w0) (j3 M w0 r) rL (cat Try.f41 (pn 244)) m1 (we v2 v3 v30 v31)
abbrev qC:Prop:=∀{v39:Int},L2 v39=some r→LP (jU M w0) (j3 M w0 r) (qv M w0 r m1) (cat Try.f41 (pn 16039288)) m2 (wm v2 v3 v30 v31 v33 v39)
variable{M w0 r v1 v2 v3 v30 v31 v33 v39 v41 v43 v44 m1 m2 L1 L2}{K:Kn}{n:Nat}
theorem qZ(hK:aj K)(hL1:fY M w0 r v2 v3 m1 L1)(h:jj K n v2 v3 v30 v31 v33 L1 v43 v44=some r):ki M w0 r (.b 2::cE 31327 :: .b 1::eh M w0 r m1) (DM v2 v3 v30 v31 v33 v43 v44):=by
 unfold jj at h;refine eW 2 3 2 (bE [1,5,6,8,9,10,11] [8,10] [117] (bJ 3 (nu 100 [.ptr 8 4,.cptr (aX ((gD v3 v30).Box)),.cptr (aX ((gD v3 v30).Box)),.cptr (List.drop 1 (aX ((gD v3 v30).Box))),iI (((gD v3 v30).Box).Node),.ptr 8 4,.cptr (aX ((gD v3 v30).Box)),.cptr (aX ((gD v3 v30).Box)),.cptr (List.drop 2 (aX ((gD v3 v30).Box))),.agg (au (((gD v3 v30).Box).Style)),.bool v33,.ptr 10 0,.ptr 10 2,.ptr 10 59]) [] [] [bz Try.prog 120 Try.f41 (pn 62654) 12,bz Try.prog 120 Try.f41 (pn 62654) 14,bz Try.prog 120 Try.f41 (pn 62654) 16] (ay [.v 0 1,.v 0 1,.v 0 1,.v 0 1,.v 0 1,.v 0 2,.v 0 2,.v 0 2,.v 0 2,.v 0 2,.v 0 3,.v 0 1] (ag (bw 0) (ay [.v 1 1] (ag (bw 1) (ay [.v 2 1] (ag (bw 2) bG)))))) ?_));obtain⟨v45,h94,h⟩:=bO h;obtain⟨v46,h95,h⟩:=bO h;refine bq (ks':=cE 125310::cE 125311 :: .b 1::eh M w0 r m1) 1 ⟨[(1,.fn v2.id v2.aJ),(5,.sl (lm am v3)),(6,.ref 117),(10,.ptr 10 0),(11,iI v43)],[(10,aE ({ v44 with Node:=v45,Style:=v46,Glued:=v33 }:aB))],[(117,⟨41,62,lm aE v31⟩)],[10,117]⟩ ?_ (by subst h95;subst h94;kernel_rfl)
 refine ai 3 ?_;obtain⟨h96,h⟩:=aS h;exact ax (cf 117 117 41 62 aE (rfl) (ex) h96) (aa (ab 2 (bo (hL1 h))))
theorem oA(hK:aj K)(hL1:fY M w0 r v2 v3 m1 L1)(hL2:qC M w0 r v2 v3 v30 v31 v33 m1 m2 L2)(h:hF K n v2 v3 v30 v31 v33 v39 L1 L2 v41=some r):ki M w0 r (cE 64157153::cE 32078577::tC M w0 r m1 m2) (yd v2 v3 v30 v31 v33 v39 v41):=by
 unfold hF at h;obtain⟨h91,h⟩|⟨h91,h⟩:=ah h
 ·exact ac 81 h91 (ab 5 (bo (hL2 h)))
 ·refine ac 81 h91 (bX (ks':=cE 4009823 :: .b 2::cE 31327 :: .b 1::eh M w0 r m1) 5 (ai 3 ?_));obtain⟨h92,h⟩:=aS h;refine ax (pC am v3 v30 v39 95 (.tmp 84) (some (.tmp 85)) (some (.tmp 86)) 87 (e:=99) (sz:=5) (by kernel_rfl) (by kernel_rfl) (by kernel_rfl) (by kernel_rfl) (by kernel_rfl) (by kernel_rfl) (cp) (fun k hk=>by subst hk;kernel_rfl) h92) ?_;obtain⟨v42,h93,h⟩:=bind_some h;exact aD (Ae hK h93) (aa (ab 0 (qZ hK hL1 h)))
theorem zT(hK:aj K)(hL1:fY M w0 r v2 v3 m1 L1)(hL2:qC M w0 r v2 v3 v30 v31 v33 m1 m2 L2)(h:lv K n v2 v3 v30 v31 v33 L1 L2 v39=some r):ki M w0 r (cE 16039288::tC M w0 r m1 m2) (wm v2 v3 v30 v31 v33 v39):=by
 unfold lv at h;refine bK 4 5 3 2 (bE [1,5,6,7,8,9,10,11] [8,10] [117] ?_);obtain⟨h83,h⟩|⟨h83,h⟩:=ah h
 ·obtain⟨h84,h⟩:=aS h;obtain⟨h85,h⟩|⟨h85,h⟩:=ah h
  ·obtain⟨h86,h⟩:=aS h;obtain⟨h87,h⟩|⟨h87,h⟩:=ah h
   ·obtain⟨h88,h⟩:=aS h;obtain⟨h89,h⟩:=aS h;obtain⟨v40,h90,h⟩:=bind_some h;exact bJ 0 (nu 47 [iI v39,.sl (lm am v3),iI (v3.length:Int),.bool (decide (v39<(v3.length:Int))),.bool true,.sl (lm am v3),iI v39,.cptr (am (gD v3 v39)),.cptr (List.drop 0 (am (gD v3 v39))),iI ((gD v3 v39).Kind),.bool (((gD v3 v39).Kind) == 1),.bool (((gD v3 v39).Kind) == 1),.bool true,.sl (lm am v3),iI v39,.cptr (am (gD v3 v39)),.cptr (List.drop 1 (am (gD v3 v39))),iI ((gD v3 v39).Of),.ptr 8 1,iI ((gD v3 v30).Of),.bool (((gD v3 v39).Of) == ((gD v3 v30).Of)),.bool (((gD v3 v39).Of) == ((gD v3 v30).Of)),.bool true,.sl (lm am v3),iI v39,iI (af (v39-1)),.cptr (am (gD v3 ((af (v39-1))))),.agg (am (gD v3 ((af (v39-1))))),.sl (lm am v3),iI v39,.cptr (am (gD v3 v39)),.agg (am (gD v3 v39)),.bool v40,.bool (!v40),.bool (!v40)]) [] [] [] (ay (vz 2) (bQ (bA am v3) (ay [.v 0 1] (ag (ci 0 51 (e:=(decide (v39<(v3.length:Int)))) (b:=true) h83) (ay (vz 2) (bQ (bD am am h84 (cp) (fun _=>rfl)) (ay (vz 4) (ag (ci 0 59 (e:=(((gD v3 v39).Kind) == 1)) (b:=true) h85) (ay (vz 2) (bQ (bD am am h86 (cp) (fun _=>rfl)) (ay (vz 6) (ag (ci 0 69 (e:=(((gD v3 v39).Of) == ((gD v3 v30).Of))) (b:=true) h87) (ay (vz 3) (bQ (bD am am h88 (cp) (fun _=>rfl)) (ay (vz 3) (bQ (bD am am h89 (cp) (fun _=>rfl)) (ay [.v 0 1] (ag (bI 0 1 79 (uu hK h90)) (ay (vz 2) bG))))))))))))))))))) (ab 0 (oA hK hL1 hL2 h))
   ·exact bJ 0 (nu 47 [iI v39,.sl (lm am v3),iI (v3.length:Int),.bool (decide (v39<(v3.length:Int))),.bool true,.sl (lm am v3),iI v39,.cptr (am (gD v3 v39)),.cptr (List.drop 0 (am (gD v3 v39))),iI ((gD v3 v39).Kind),.bool (((gD v3 v39).Kind) == 1),.bool (((gD v3 v39).Kind) == 1),.bool true,.sl (lm am v3),iI v39,.cptr (am (gD v3 v39)),.cptr (List.drop 1 (am (gD v3 v39))),iI ((gD v3 v39).Of),.ptr 8 1,iI ((gD v3 v30).Of),.bool (((gD v3 v39).Of) == ((gD v3 v30).Of)),.bool (((gD v3 v39).Of) == ((gD v3 v30).Of)),.bool false,.tup [],.tup [],.tup [],.tup [],.tup [],.tup [],.tup [],.tup [],.tup [],.tup [],.tup [],.bool false]) [] [] [] (ay (vz 2) (bQ (bA am v3) (ay [.v 0 1] (ag (ci 0 51 (e:=(decide (v39<(v3.length:Int)))) (b:=true) h83) (ay (vz 2) (bQ (bD am am h84 (cp) (fun _=>rfl)) (ay (vz 4) (ag (ci 0 59 (e:=(((gD v3 v39).Kind) == 1)) (b:=true) h85) (ay (vz 2) (bQ (bD am am h86 (cp) (fun _=>rfl)) (ay (vz 6) (ag (ci 0 69 (e:=(((gD v3 v39).Of) == ((gD v3 v30).Of))) (b:=false) h87) (ag (av 0 1) (ag (av 0 1) (ag (av 0 1) (ag (av 0 1) (ag (av 0 1) (ag (av 0 1) (ag (av 0 1) (ag (av 0 1) (ag (av 0 1) (ag (av 0 1) (ag (av 0 1) (ay [.v 0 1] bG)))))))))))))))))))))))) (ab 0 (oA hK hL1 hL2 h))
  ·exact bJ 0 (nu 47 [iI v39,.sl (lm am v3),iI (v3.length:Int),.bool (decide (v39<(v3.length:Int))),.bool true,.sl (lm am v3),iI v39,.cptr (am (gD v3 v39)),.cptr (List.drop 0 (am (gD v3 v39))),iI ((gD v3 v39).Kind),.bool (((gD v3 v39).Kind) == 1),.bool (((gD v3 v39).Kind) == 1),.bool false,.tup [],.tup [],.tup [],.tup [],.tup [],.tup [],.tup [],.tup [],.bool false,.bool false,.tup [],.tup [],.tup [],.tup [],.tup [],.tup [],.tup [],.tup [],.tup [],.tup [],.tup [],.bool false]) [] [] [] (ay (vz 2) (bQ (bA am v3) (ay [.v 0 1] (ag (ci 0 51 (e:=(decide (v39<(v3.length:Int)))) (b:=true) h83) (ay (vz 2) (bQ (bD am am h84 (cp) (fun _=>rfl)) (ay (vz 4) (ag (ci 0 59 (e:=(((gD v3 v39).Kind) == 1)) (b:=false) h85) (ag (av 0 1) (ag (av 0 1) (ag (av 0 1) (ag (av 0 1) (ag (av 0 1) (ag (av 0 1) (ag (av 0 1) (ag (av 0 1) (ay (vz 2) (ag (av 0 1) (ag (av 0 1) (ag (av 0 1) (ag (av 0 1) (ag (av 0 1) (ag (av 0 1) (ag (av 0 1) (ag (av 0 1) (ag (av 0 1) (ag (av 0 1) (ag (av 0 1) (ay [.v 0 1] bG))))))))))))))))))))))))))))) (ab 0 (oA hK hL1 hL2 h))
 ·exact bJ 0 (nu 47 [iI v39,.sl (lm am v3),iI (v3.length:Int),.bool (decide (v39<(v3.length:Int))),.bool false,.tup [],.tup [],.tup [],.tup [],.tup [],.tup [],.bool false,.bool false,.tup [],.tup [],.tup [],.tup [],.tup [],.tup [],.tup [],.tup [],.bool false,.bool false,.tup [],.tup [],.tup [],.tup [],.tup [],.tup [],.tup [],.tup [],.tup [],.tup [],.tup [],.bool false]) [] [] [] (ay (vz 2) (bQ (bA am v3) (ay [.v 0 1] (ag (ci 0 51 (e:=(decide (v39<(v3.length:Int)))) (b:=false) h83) (ag (av 0 1) (ag (av 0 1) (ag (av 0 1) (ag (av 0 1) (ag (av 0 1) (ag (av 0 1) (ay (vz 2) (ag (av 0 1) (ag (av 0 1) (ag (av 0 1) (ag (av 0 1) (ag (av 0 1) (ag (av 0 1) (ag (av 0 1) (ag (av 0 1) (ay (vz 2) (ag (av 0 1) (ag (av 0 1) (ag (av 0 1) (ag (av 0 1) (ag (av 0 1) (ag (av 0 1) (ag (av 0 1) (ag (av 0 1) (ag (av 0 1) (ag (av 0 1) (ag (av 0 1) (ay [.v 0 1] bG)))))))))))))))))))))))))))))))) (ab 0 (oA hK hL1 hL2 h))
theorem A5(hK:aj K)(hL1:fY M w0 r v2 v3 m1 L1)(m:Nat):qC M w0 r v2 v3 v30 v31 v33 m1 m (mr K n v2 v3 v30 v31 v33 L1 m):=by
 induction m with
 | zero=>intro v39 h;cases h
 | succ m ih=>intro v39 h;have h:lv K n v2 v3 v30 v31 v33 L1 (mr K n v2 v3 v30 v31 v33 L1 m) v39=some r:=h;exact bm (zT hK hL1 ih h)
theorem qk(hK:aj K)(hL1:fY M w0 r v2 v3 m1 L1)(h:iX K n v2 v3 v30 v31 L1 v33=some r):ki M w0 r (cE 3915 :: .b 1::eh M w0 r m1) (yA v2 v3 v30 v31 v33):=by
 unfold iX at h;obtain⟨v34,h69,h⟩:=bO h;refine bq (ks':=cE 250613 :: .b 2::cE 31327 :: .b 1::eh M w0 r m1) 10 ⟨[(1,.fn v2.id v2.aJ),(5,.sl (lm am v3)),(6,.ref 117),(7,iI v30),(8,.ptr 8 0),(9,.bool v33),(10,.ptr 10 0),(11,iI (af (v30+1))),(46,iI ((gD v3 v30).Kind)),(89,.bool v34)],[(8,am (gD v3 v30)),(10,List.set (aE cd) 61 (.nils))],[(117,⟨41,62,lm aE v31⟩)],[8,10,117]⟩ ?_ (by subst h69;kernel_rfl);obtain⟨h70,h⟩|⟨h70,h⟩:=ah h
 ·exact ac 89 h70 (bX (ks':=.b 2::cE 31327 :: .b 1::eh M w0 r m1) 2 (oY 10 (ab 0 (qZ hK hL1 h))))
 ·refine ac 89 h70 ?_;obtain⟨v35,h71,h⟩:=bO h;refine bq (ks':=cE 1002455 :: .b 2::cE 31327 :: .b 1::eh M w0 r m1) 3 ⟨[(1,.fn v2.id v2.aJ),(5,.sl (lm am v3)),(6,.ref 117),(7,iI v30),(8,.ptr 8 0),(9,.bool v33),(10,.ptr 10 0),(11,iI (af (v30+1))),(92,.bool v35)],[(8,am (gD v3 v30)),(10,List.set (aE cd) 61 (.nils))],[(117,⟨41,62,lm aE v31⟩)],[8,10,117]⟩ ?_ (by subst h71;kernel_rfl);obtain⟨h72,h⟩|⟨h72,h⟩:=ah h
  ·refine ac 92 h72 (aU 2 1 (ai 5 ?_));obtain⟨v36,h73,h⟩:=bind_some h;exact gK (hK.mP h73) (aa (ab 0 (qZ hK hL1 h)))
  ·exact ac 92 h72 (ab 3 (ce (p:=pn 8019644) n (A5 hK hL1 n h)))
theorem AD(hK:aj K)(hL1:fY M w0 r v2 v3 m1 L1)(h:mU K n v2 v3 L1 v30 v31=some r):ki M w0 r (cE 244::eh M w0 r m1) (we v2 v3 v30 v31):=by
 unfold mU at h;refine bK 4 5 3 2 (ai 2 (ax (bA am v3) (aa ?_)));obtain⟨h62,h⟩|⟨h62,h⟩:=ah h
 ·refine ac 17 h62 (bX (ks':=cE 1956::cE 1957 :: .b 1::eh M w0 r m1) 4 (ai 2 ?_));obtain⟨h63,h⟩:=aS h;refine ax (bD am am h63 (cp) (fun _=>rfl)) (aa (ao 2 3 1 (bE [1,5,6,7,8] [8] [117] ?_)));obtain⟨h64,h⟩|⟨h64,h⟩:=ah h
  ·obtain⟨h65,h⟩:=aS h;obtain⟨h66,h⟩|⟨h66,h⟩:=ah h
   ·obtain⟨h67,h⟩:=aS h;obtain⟨v32,h68,h⟩:=bind_some h;exact bJ 1 (nu 22 [iI v30,.bool (decide (v30>0)),.bool true,.sl (lm am v3),iI v30,iI (af (v30-1)),.cptr (am (gD v3 ((af (v30-1))))),.cptr (List.drop 0 (am (gD v3 ((af (v30-1)))))),iI ((gD v3 ((af (v30-1)))).Kind),.bool (((gD v3 ((af (v30-1)))).Kind) != 2),.bool (((gD v3 ((af (v30-1)))).Kind) != 2),.bool true,.sl (lm am v3),iI v30,iI (af (v30-1)),.cptr (am (gD v3 ((af (v30-1))))),.agg (am (gD v3 ((af (v30-1))))),.agg (am (gD v3 v30)),.bool v32,.bool (!v32),.bool (!v32)]) [] [] [bz Try.prog 120 Try.f41 (pn 3914) 21] (ay (vz 2) (ag (ci 0 24 (e:=(decide (v30>0))) (b:=true) h64) (ay (vz 3) (bQ (bD am am h65 (cp) (fun _=>rfl)) (ay (vz 4) (ag (ci 0 33 (e:=(((gD v3 ((af (v30-1)))).Kind) != 2)) (b:=true) h66) (ay (vz 3) (bQ (bD am am h67 (cp) (fun _=>rfl)) (ay (vz 2) (ag (bI 0 1 40 (uu hK h68)) (ay (vz 2) (ag (bw 0) bG)))))))))))) (ab 0 (qk hK hL1 h))
   ·exact bJ 1 (nu 22 [iI v30,.bool (decide (v30>0)),.bool true,.sl (lm am v3),iI v30,iI (af (v30-1)),.cptr (am (gD v3 ((af (v30-1))))),.cptr (List.drop 0 (am (gD v3 ((af (v30-1)))))),iI ((gD v3 ((af (v30-1)))).Kind),.bool (((gD v3 ((af (v30-1)))).Kind) != 2),.bool (((gD v3 ((af (v30-1)))).Kind) != 2),.bool false,.tup [],.tup [],.tup [],.tup [],.tup [],.tup [],.tup [],.tup [],.bool false]) [] [] [bz Try.prog 120 Try.f41 (pn 3914) 21] (ay (vz 2) (ag (ci 0 24 (e:=(decide (v30>0))) (b:=true) h64) (ay (vz 3) (bQ (bD am am h65 (cp) (fun _=>rfl)) (ay (vz 4) (ag (ci 0 33 (e:=(((gD v3 ((af (v30-1)))).Kind) != 2)) (b:=false) h66) (ag (av 0 1) (ag (av 0 1) (ag (av 0 1) (ag (av 0 1) (ag (av 0 1) (ag (av 0 1) (ag (av 0 1) (ag (av 0 1) (ay [.v 0 1] (ag (bw 0) bG)))))))))))))))) (ab 0 (qk hK hL1 h))
  ·exact bJ 1 (nu 22 [iI v30,.bool (decide (v30>0)),.bool false,.tup [],.tup [],.tup [],.tup [],.tup [],.tup [],.tup [],.bool false,.bool false,.tup [],.tup [],.tup [],.tup [],.tup [],.tup [],.tup [],.tup [],.bool false]) [] [] [bz Try.prog 120 Try.f41 (pn 3914) 21] (ay (vz 2) (ag (ci 0 24 (e:=(decide (v30>0))) (b:=false) h64) (ag (av 0 1) (ag (av 0 1) (ag (av 0 1) (ag (av 0 1) (ag (av 0 1) (ag (av 0 1) (ag (av 0 1) (ay (vz 2) (ag (av 0 1) (ag (av 0 1) (ag (av 0 1) (ag (av 0 1) (ag (av 0 1) (ag (av 0 1) (ag (av 0 1) (ag (av 0 1) (ay [.v 0 1] (ag (bw 0) bG)))))))))))))))))))) (ab 0 (qk hK hL1 h))
 ·refine ac 17 h62 (aC 8 ?_);cases h;exact dQ
theorem Ca(hK:aj K)(m:Nat):fY M w0 r v2 v3 m (lV K n v2 v3 m):=by
 induction m with
 | zero=>intro v30 v31 h;cases h
 | succ m ih=>intro v30 v31 h;have h:mU K n v2 v3 (lV K n v2 v3 m) v30 v31=some r:=h;exact bm (AD hK ih h)
theorem C4(hK:aj K)(h:rS K n v1 v2=some r):aI Try.prog 41 [.sl (lm aO v1),.fn v2.id v2.aJ] (fun v s=>v=.ref 117∧look 117 s.r=some ⟨41,62,lm aE r⟩):=by
 refine aZ (cat Try.f41 (pn 1)) Try.func41 Try.ntmps41 fun M w0=>(aY ⟨[(0,.sl (lm aO v1)),(1,.fn v2.id v2.aJ)],[],[],[]⟩ ?_);unfold rS at h;refine ao 6 7 3 (ai 1 ?_);obtain⟨v3,h1,h⟩:=bind_some h;exact eF 1013 (DC hK h1) (fD 400003) (aa (fA 26 0 7 6 (bE [1,5,6,7] [] [1013] (BW 1013 (eV 117 6 41 62 (ab 0 (ce (p:=pn 122) n (Ca hK n h))))))))
end
noncomputable section
variable(M:Nat→Prop)(w0:aw)(r v1:Int)  
variable{M w0 r v1}{K:Kn}{n:Nat}
theorem dK(hK:aj K)(h:dq K n v1=some r):aI Try.prog 59 [iI v1] (fun v _=>v=iI r):=by
 refine aZ (cat Try.f59 (pn 1)) Try.func59 Try.ntmps59 fun M w0=>(aY ⟨[(0,iI v1)],[],[],[]⟩ ?_);unfold dq at h;refine aC 5 ?_;cases h;exact aV
end
noncomputable section
variable(M:Nat→Prop)(w0:aw)(r:Int×Bool)(v1:cB)(v2 v4:Int)  
abbrev Ay(n:Nat):ak:=.c (cat Try.f58 (pn n))
abbrev D8:Cx:=⟨Try.prog,25,M,w0⟩
abbrev Ec:=bodyPost Try.prog Try.f58 (bn M w0 (fun v _=>v=.tup [iI r.1,.bool r.2]))
abbrev A7(ks:List ak)(s:AS):=VE (D8 M w0) (Ec M w0 r) ks .normal s
def AM:AS:=⟨[(6,iI v4)],[],[],[]⟩
variable{M w0 r v1 v2 v4}{K:Kn}{n:Nat}
theorem th(hK:aj K)(h:n9 K n v4=some r):A7 M w0 r [.b 0,Ay 15] (AM v4):=by
 unfold n9 at h;refine aC 4 ?_;cases h;exact dW
theorem cU(hK:aj K)(h:cH K n v1 v2=some r):aI Try.prog 58 [.agg (iq v1),iI v2] (fun v _=>v=.tup [iI r.1,.bool r.2]):=by
 refine aZ (cat Try.f58 (pn 1)) Try.func58 Try.ntmps58 fun M w0=>(aY ⟨[(0,.agg (iq v1)),(1,iI v2)],[],[],[]⟩ ?_);unfold cH at h;refine fA 117 0 15 10 ?_;obtain⟨h1,h⟩|⟨h1,h⟩:=ah h
 ·exact ac 11 h1 (ab 2 (th hK h))
 ·refine ac 11 h1 (aU 7 3 ?_);obtain⟨h2,h⟩|⟨h2,h⟩:=ah h
  ·refine ac 13 h2 (aU 2 1 (ai 1 ?_));obtain⟨v3,h3,h⟩:=bind_some h;exact aD (dK hK h3) (aa (ab 0 (th hK h)))
  ·refine ac 13 h2 (aC 6 ?_);cases h;exact dW
end
noncomputable section
variable(M:Nat→Prop)(w0:aw)(r:bp)(v1:aH)(v2 v3:Int)  
abbrev fR(n:Nat):ak:=.c (cat Try.f43 (pn n))
abbrev Bj:Cx:=⟨Try.prog,52,M,w0⟩
abbrev A6:=bodyPost Try.prog Try.f43 (bn M w0 (fun v _=>v=.agg (bl r)))
abbrev jC(m:Nat):List ak:=kl (Bj M w0) (A6 M w0 r) [.b 0,fR 15] (cat Try.f43 (pn 116)) m::[.b 0,fR 15]
variable{M w0 r v1 v2 v3}{K:Kn}{n:Nat}
theorem kh(hK:aj K)(h:gg K n v1 v2 v3=some r):aI Try.prog 43 [.agg (au v1),iI v2,iI v3] (fun v _=>v=.agg (bl r)):=by
 refine aZ (cat Try.f43 (pn 1)) Try.func43 Try.ntmps43 fun M w0=>(aY ⟨[(0,.agg (au v1)),(1,iI v2),(2,iI v3)],[],[],[]⟩ ?_);unfold gg at h;refine bq (ks':=[fR 58,.b 0,fR 15]) 8 ⟨[(1,iI v2),(3,.ptr 3 0),(6,.ptr 6 0),(7,.ptr 7 0),(13,iI 0)],[(3,au v1),(6,bl dR),(7,bl ({ dR with Content:=v3 }:bp))],[],[3,6,7]⟩ (jq 40 (c:=cat Try.f43 [1,1,0,1,0,0]) (by kernel_rfl) (bm (bX (ks':=fR 7474::fR 7475 :: .b 1::fR 935::jC M w0 r 39) 10 (ai 6 ?_))));obtain⟨v4,h1,h⟩:=bind_some h;refine aD (cU hK h1) (aa (ao 2 3 1 (ai 5 ?_)));obtain⟨v5,h2,h⟩:=bind_some h;refine aD (dK hK h2) (aa (ao 2 3 1 (ai 5 ?_)));obtain⟨v6,h3,h⟩:=bind_some h;refine aD (cU hK h3) (aa (bq (ks':=jC M w0 r 39) 3 ⟨[(1,iI v2),(3,.ptr 3 0),(6,.ptr 6 0),(7,.ptr 7 0),(13,iI 1)],[(3,au v1),(6,bl dR),(7,bl (⟨⟨v4.1,0,0,0⟩,⟨v5,0,0,0⟩,⟨(max v6.1 0),0,0,0⟩,v3⟩:bp))],[],[3,6,7]⟩ (bo (bm (cA 114 115 1 15 10 (ai 6 ?_))))));obtain⟨v7,h4,h⟩:=bind_some h
 refine aD (cU hK h4) (aa (ao 2 3 1 (ai 5 ?_)));obtain⟨v8,h5,h⟩:=bind_some h;refine aD (dK hK h5) (aa (ao 2 3 1 (ai 5 ?_)));obtain⟨v9,h6,h⟩:=bind_some h;refine aD (cU hK h6) (aa (bq (ks':=jC M w0 r 38) 3 ⟨[(1,iI v2),(3,.ptr 3 0),(6,.ptr 6 0),(7,.ptr 7 0),(13,iI 2)],[(3,au v1),(6,bl dR),(7,bl (⟨⟨v4.1,v7.1,0,0⟩,⟨v5,v8,0,0⟩,⟨(max v6.1 0),(max v9.1 0),0,0⟩,v3⟩:bp))],[],[3,6,7]⟩ (bo (bm (cA 114 115 1 15 10 (ai 6 ?_))))));obtain⟨v10,h7,h⟩:=bind_some h;refine aD (cU hK h7) (aa (ao 2 3 1 (ai 5 ?_)));obtain⟨v11,h8,h⟩:=bind_some h;refine aD (dK hK h8) (aa (ao 2 3 1 (ai 5 ?_)));obtain⟨v12,h9,h⟩:=bind_some h;refine aD (cU hK h9) (aa (bq (ks':=jC M w0 r 37) 3 ⟨[(1,iI v2),(3,.ptr 3 0),(6,.ptr 6 0),(7,.ptr 7 0),(13,iI 3)],[(3,au v1),(6,bl dR),(7,bl (⟨⟨v4.1,v7.1,v10.1,0⟩,⟨v5,v8,v11,0⟩,⟨(max v6.1 0),(max v9.1 0),(max v12.1 0),0⟩,v3⟩:bp))],[],[3,6,7]⟩ (bo (bm (cA 114 115 1 15 10 (ai 6 ?_))))));obtain⟨v13,h10,h⟩:=bind_some h
 refine aD (cU hK h10) (aa (ao 2 3 1 (ai 5 ?_)));obtain⟨v14,h11,h⟩:=bind_some h;refine aD (dK hK h11) (aa (ao 2 3 1 (ai 5 ?_)));obtain⟨v15,h12,h⟩:=bind_some h;refine aD (cU hK h12) (aa (bq (ks':=jC M w0 r 36) 3 ⟨[(1,iI v2),(3,.ptr 3 0),(6,.ptr 6 0),(7,.ptr 7 0),(13,iI 4)],[(3,au v1),(6,bl dR),(7,bl (⟨⟨v4.1,v7.1,v10.1,v13.1⟩,⟨v5,v8,v11,v14⟩,⟨(max v6.1 0),(max v9.1 0),(max v12.1 0),(max v15.1 0)⟩,v3⟩:bp))],[],[3,6,7]⟩ (bo (bm (aC 11 ?_)))));cases h;exact aV
end
noncomputable section
variable(M:Nat→Prop)(w0:aw)(r:Int)(v1:bp)  
variable{M w0 r v1}{K:Kn}{n:Nat}
theorem gX(hK:aj K)(h:fm K n v1=some r):aI Try.prog 47 [.agg (bl v1)] (fun v _=>v=iI r):=by
 refine aZ (cat Try.f47 (pn 1)) Try.func47 Try.ntmps47 fun M w0=>(aY ⟨[(0,.agg (bl v1))],[],[],[]⟩ ?_);unfold fm at h;refine aC 5 ?_;cases h;exact aV
end
noncomputable section
variable(M:Nat→Prop)(w0:aw)(r v1:aH)(v2:Nat)(v3 v4 v5 v6 v7 v8 v9 v10 v11 v12 v13:aH)  
abbrev ch(n:Nat):ak:=.c (cat Try.f65 (pn n))
abbrev qp:Cx:=⟨Try.prog,40,M,w0⟩
abbrev ro:=bodyPost Try.prog Try.f65 (bn M w0 (fun v _=>v=.agg (au r)))
abbrev ef(ks:List ak)(s:AS):=VE (qp M w0) (ro M w0 r) ks .normal s
def yi:AS:=⟨[(1,.pp 1 v2 0),(2,.ptr 2 0),(24,.ref 10),(25,iI 11),(26,iI 10)],[(1,au v13),(2,au bH)],[(10,⟨130,1,lm aW [(v2,6),(v2,10),(v2,12),(v2,14),(v2,22),(v2,16),(v2,24),(v2,18),(v2,26),(v2,20),(v2,28)]⟩)],[1,2,10]⟩
def z3:AS:=⟨[(1,.pp 1 v2 0),(2,.ptr 2 0),(24,.ref 10),(25,iI 11),(26,iI 9)],[(1,au v12),(2,au bH)],[(10,⟨130,1,lm aW [(v2,6),(v2,10),(v2,12),(v2,14),(v2,22),(v2,16),(v2,24),(v2,18),(v2,26),(v2,20),(v2,28)]⟩)],[1,2,10]⟩
def Af:AS:=⟨[(1,.pp 1 v2 0),(2,.ptr 2 0),(24,.ref 10),(25,iI 11),(26,iI 8)],[(1,au v11),(2,au bH)],[(10,⟨130,1,lm aW [(v2,6),(v2,10),(v2,12),(v2,14),(v2,22),(v2,16),(v2,24),(v2,18),(v2,26),(v2,20),(v2,28)]⟩)],[1,2,10]⟩
def Ax:AS:=⟨[(1,.pp 1 v2 0),(2,.ptr 2 0),(24,.ref 10),(25,iI 11),(26,iI 7)],[(1,au v10),(2,au bH)],[(10,⟨130,1,lm aW [(v2,6),(v2,10),(v2,12),(v2,14),(v2,22),(v2,16),(v2,24),(v2,18),(v2,26),(v2,20),(v2,28)]⟩)],[1,2,10]⟩
def Cm:AS:=⟨[(1,.pp 1 v2 0),(2,.ptr 2 0),(24,.ref 10),(25,iI 11),(26,iI 6)],[(1,au v9),(2,au bH)],[(10,⟨130,1,lm aW [(v2,6),(v2,10),(v2,12),(v2,14),(v2,22),(v2,16),(v2,24),(v2,18),(v2,26),(v2,20),(v2,28)]⟩)],[1,2,10]⟩
def Ce:AS:=⟨[(1,.pp 1 v2 0),(2,.ptr 2 0),(24,.ref 10),(25,iI 11),(26,iI 5)],[(1,au v8),(2,au bH)],[(10,⟨130,1,lm aW [(v2,6),(v2,10),(v2,12),(v2,14),(v2,22),(v2,16),(v2,24),(v2,18),(v2,26),(v2,20),(v2,28)]⟩)],[1,2,10]⟩
def yJ:AS:=⟨[(1,.pp 1 v2 0),(2,.ptr 2 0),(24,.ref 10),(25,iI 11),(26,iI 4)],[(1,au v7),(2,au bH)],[(10,⟨130,1,lm aW [(v2,6),(v2,10),(v2,12),(v2,14),(v2,22),(v2,16),(v2,24),(v2,18),(v2,26),(v2,20),(v2,28)]⟩)],[1,2,10]⟩
def zX:AS:=⟨[(1,.pp 1 v2 0),(2,.ptr 2 0),(24,.ref 10),(25,iI 11),(26,iI 3)],[(1,au v6),(2,au bH)],[(10,⟨130,1,lm aW [(v2,6),(v2,10),(v2,12),(v2,14),(v2,22),(v2,16),(v2,24),(v2,18),(v2,26),(v2,20),(v2,28)]⟩)],[1,2,10]⟩
def y7:AS:=⟨[(1,.pp 1 v2 0),(2,.ptr 2 0),(24,.ref 10),(25,iI 11),(26,iI 2)],[(1,au v5),(2,au bH)],[(10,⟨130,1,lm aW [(v2,6),(v2,10),(v2,12),(v2,14),(v2,22),(v2,16),(v2,24),(v2,18),(v2,26),(v2,20),(v2,28)]⟩)],[1,2,10]⟩
def CS:AS:=⟨[(1,.pp 1 v2 0),(2,.ptr 2 0),(24,.ref 10),(25,iI 11),(26,iI 1)],[(1,au v4),(2,au bH)],[(10,⟨130,1,lm aW [(v2,6),(v2,10),(v2,12),(v2,14),(v2,22),(v2,16),(v2,24),(v2,18),(v2,26),(v2,20),(v2,28)]⟩)],[1,2,10]⟩
def yX:AS:=⟨[(1,.pp 1 v2 0),(2,.ptr 2 0),(24,.ref 10),(25,iI 11),(26,iI 0)],[(1,au v3),(2,au bH)],[(10,⟨130,1,lm aW [(v2,6),(v2,10),(v2,12),(v2,14),(v2,22),(v2,16),(v2,24),(v2,18),(v2,26),(v2,20),(v2,28)]⟩)],[1,2,10]⟩
abbrev cn(m:Nat):List ak:=kl (qp M w0) (ro M w0 r) [.b 2,ch 31] (cat Try.f65 (pn 244)) m::[.b 2,ch 31]
abbrev jF(m:Nat):List ak:=kl (qp M w0) (ro M w0 r) [.b 0,ch 15] (cat Try.f65 (pn 116)) m::[.b 0,ch 15]
variable{M w0 r v1 v2 v3 v4 v5 v6 v7 v8 v9 v10 v11 v12 v13}{K:Kn}{n:Nat}
theorem tm(hK:aj K)(h:nX K n v13=some r):ef M w0 r (.b 3::ch 1959::cn M w0 r 29) (yi v2 v13):=by
 unfold nX at h;refine bq (ks':=cn M w0 r 29) 2 ⟨[(1,.pp 1 v2 0),(2,.ptr 2 0),(24,.ref 10),(25,iI 11),(26,iI 11)],[(1,au v13),(2,au bH)],[(10,⟨130,1,lm aW [(v2,6),(v2,10),(v2,12),(v2,14),(v2,22),(v2,16),(v2,24),(v2,18),(v2,26),(v2,20),(v2,28)]⟩)],[1,2,10]⟩ (bo (bm (aC 11 ?_)));cases h;exact aV
theorem ub(hK:aj K)(h:nV K n v12=some r):ef M w0 r (.b 3::ch 1959::cn M w0 r 30) (z3 v2 v12):=by
 unfold nV at h;refine bq (ks':=cn M w0 r 30) 2 ⟨[(1,.pp 1 v2 0),(2,.ptr 2 0),(24,.ref 10),(25,iI 11),(26,iI 10)],[(1,au v12),(2,au bH)],[(10,⟨130,1,lm aW [(v2,6),(v2,10),(v2,12),(v2,14),(v2,22),(v2,16),(v2,24),(v2,18),(v2,26),(v2,20),(v2,28)]⟩)],[1,2,10]⟩ (bo (bm (cA 56 57 3 15 8 (ai 0 (ax (c9 10 1 aW (L:=([(v2,6),(v2,10),(v2,12),(v2,14),(v2,22),(v2,16),(v2,24),(v2,18),(v2,26),(v2,20),(v2,28)]:List (Nat×Nat))) (i:=(10:Int)) (by kernel_rfl)) (ax (cw 130 0 aW aW (L:=([(v2,6),(v2,10),(v2,12),(v2,14),(v2,22),(v2,16),(v2,24),(v2,18),(v2,26),(v2,20),(v2,28)]:List (Nat×Nat))) (j:=(10:Int).toNat) (of_decide_eq_true (by kernel_rfl)) (fun _=>rfl)) (aa (ao 2 3 1 (ai 3 (ct 32 1 1 v2 28 0 (aa ?_)))))))))));obtain⟨h11,h⟩|⟨h11,h⟩:=ah h
 ·exact ac 34 h11 (aU 2 1 (ai 3 (ct 37 1 1 v2 28 0 (aa (ab 0 (tm hK (v2:=v2) h))))))
 ·exact ac 34 h11 (ab 2 (tm hK (v2:=v2) h))
theorem xj(hK:aj K)(h:n8 K n v11=some r):ef M w0 r (.b 3::ch 1959::cn M w0 r 31) (Af v2 v11):=by
 unfold n8 at h;refine bq (ks':=cn M w0 r 31) 2 ⟨[(1,.pp 1 v2 0),(2,.ptr 2 0),(24,.ref 10),(25,iI 11),(26,iI 9)],[(1,au v11),(2,au bH)],[(10,⟨130,1,lm aW [(v2,6),(v2,10),(v2,12),(v2,14),(v2,22),(v2,16),(v2,24),(v2,18),(v2,26),(v2,20),(v2,28)]⟩)],[1,2,10]⟩ (bo (bm (cA 56 57 3 15 8 (ai 0 (ax (c9 10 1 aW (L:=([(v2,6),(v2,10),(v2,12),(v2,14),(v2,22),(v2,16),(v2,24),(v2,18),(v2,26),(v2,20),(v2,28)]:List (Nat×Nat))) (i:=(9:Int)) (by kernel_rfl)) (ax (cw 130 0 aW aW (L:=([(v2,6),(v2,10),(v2,12),(v2,14),(v2,22),(v2,16),(v2,24),(v2,18),(v2,26),(v2,20),(v2,28)]:List (Nat×Nat))) (j:=(9:Int).toNat) (of_decide_eq_true (by kernel_rfl)) (fun _=>rfl)) (aa (ao 2 3 1 (ai 3 (ct 32 1 1 v2 20 0 (aa ?_)))))))))));obtain⟨h10,h⟩|⟨h10,h⟩:=ah h
 ·exact ac 34 h10 (aU 2 1 (ai 3 (ct 37 1 1 v2 20 0 (aa (ab 0 (ub hK (v2:=v2) h))))))
 ·exact ac 34 h10 (ab 2 (ub hK (v2:=v2) h))
theorem xB(hK:aj K)(h:mu K n v10=some r):ef M w0 r (.b 3::ch 1959::cn M w0 r 32) (Ax v2 v10):=by
 unfold mu at h;refine bq (ks':=cn M w0 r 32) 2 ⟨[(1,.pp 1 v2 0),(2,.ptr 2 0),(24,.ref 10),(25,iI 11),(26,iI 8)],[(1,au v10),(2,au bH)],[(10,⟨130,1,lm aW [(v2,6),(v2,10),(v2,12),(v2,14),(v2,22),(v2,16),(v2,24),(v2,18),(v2,26),(v2,20),(v2,28)]⟩)],[1,2,10]⟩ (bo (bm (cA 56 57 3 15 8 (ai 0 (ax (c9 10 1 aW (L:=([(v2,6),(v2,10),(v2,12),(v2,14),(v2,22),(v2,16),(v2,24),(v2,18),(v2,26),(v2,20),(v2,28)]:List (Nat×Nat))) (i:=(8:Int)) (by kernel_rfl)) (ax (cw 130 0 aW aW (L:=([(v2,6),(v2,10),(v2,12),(v2,14),(v2,22),(v2,16),(v2,24),(v2,18),(v2,26),(v2,20),(v2,28)]:List (Nat×Nat))) (j:=(8:Int).toNat) (of_decide_eq_true (by kernel_rfl)) (fun _=>rfl)) (aa (ao 2 3 1 (ai 3 (ct 32 1 1 v2 26 0 (aa ?_)))))))))));obtain⟨h9,h⟩|⟨h9,h⟩:=ah h
 ·exact ac 34 h9 (aU 2 1 (ai 3 (ct 37 1 1 v2 26 0 (aa (ab 0 (xj hK (v2:=v2) h))))))
 ·exact ac 34 h9 (ab 2 (xj hK (v2:=v2) h))
theorem tE(hK:aj K)(h:lH K n v9=some r):ef M w0 r (.b 3::ch 1959::cn M w0 r 33) (Cm v2 v9):=by
 unfold lH at h;refine bq (ks':=cn M w0 r 33) 2 ⟨[(1,.pp 1 v2 0),(2,.ptr 2 0),(24,.ref 10),(25,iI 11),(26,iI 7)],[(1,au v9),(2,au bH)],[(10,⟨130,1,lm aW [(v2,6),(v2,10),(v2,12),(v2,14),(v2,22),(v2,16),(v2,24),(v2,18),(v2,26),(v2,20),(v2,28)]⟩)],[1,2,10]⟩ (bo (bm (cA 56 57 3 15 8 (ai 0 (ax (c9 10 1 aW (L:=([(v2,6),(v2,10),(v2,12),(v2,14),(v2,22),(v2,16),(v2,24),(v2,18),(v2,26),(v2,20),(v2,28)]:List (Nat×Nat))) (i:=(7:Int)) (by kernel_rfl)) (ax (cw 130 0 aW aW (L:=([(v2,6),(v2,10),(v2,12),(v2,14),(v2,22),(v2,16),(v2,24),(v2,18),(v2,26),(v2,20),(v2,28)]:List (Nat×Nat))) (j:=(7:Int).toNat) (of_decide_eq_true (by kernel_rfl)) (fun _=>rfl)) (aa (ao 2 3 1 (ai 3 (ct 32 1 1 v2 18 0 (aa ?_)))))))))));obtain⟨h8,h⟩|⟨h8,h⟩:=ah h
 ·exact ac 34 h8 (aU 2 1 (ai 3 (ct 37 1 1 v2 18 0 (aa (ab 0 (xB hK (v2:=v2) h))))))
 ·exact ac 34 h8 (ab 2 (xB hK (v2:=v2) h))
theorem tQ(hK:aj K)(h:m9 K n v8=some r):ef M w0 r (.b 3::ch 1959::cn M w0 r 34) (Ce v2 v8):=by
 unfold m9 at h;refine bq (ks':=cn M w0 r 34) 2 ⟨[(1,.pp 1 v2 0),(2,.ptr 2 0),(24,.ref 10),(25,iI 11),(26,iI 6)],[(1,au v8),(2,au bH)],[(10,⟨130,1,lm aW [(v2,6),(v2,10),(v2,12),(v2,14),(v2,22),(v2,16),(v2,24),(v2,18),(v2,26),(v2,20),(v2,28)]⟩)],[1,2,10]⟩ (bo (bm (cA 56 57 3 15 8 (ai 0 (ax (c9 10 1 aW (L:=([(v2,6),(v2,10),(v2,12),(v2,14),(v2,22),(v2,16),(v2,24),(v2,18),(v2,26),(v2,20),(v2,28)]:List (Nat×Nat))) (i:=(6:Int)) (by kernel_rfl)) (ax (cw 130 0 aW aW (L:=([(v2,6),(v2,10),(v2,12),(v2,14),(v2,22),(v2,16),(v2,24),(v2,18),(v2,26),(v2,20),(v2,28)]:List (Nat×Nat))) (j:=(6:Int).toNat) (of_decide_eq_true (by kernel_rfl)) (fun _=>rfl)) (aa (ao 2 3 1 (ai 3 (ct 32 1 1 v2 24 0 (aa ?_)))))))))));obtain⟨h7,h⟩|⟨h7,h⟩:=ah h
 ·exact ac 34 h7 (aU 2 1 (ai 3 (ct 37 1 1 v2 24 0 (aa (ab 0 (tE hK (v2:=v2) h))))))
 ·exact ac 34 h7 (ab 2 (tE hK (v2:=v2) h))
theorem sV(hK:aj K)(h:mJ K n v7=some r):ef M w0 r (.b 3::ch 1959::cn M w0 r 35) (yJ v2 v7):=by
 unfold mJ at h;refine bq (ks':=cn M w0 r 35) 2 ⟨[(1,.pp 1 v2 0),(2,.ptr 2 0),(24,.ref 10),(25,iI 11),(26,iI 5)],[(1,au v7),(2,au bH)],[(10,⟨130,1,lm aW [(v2,6),(v2,10),(v2,12),(v2,14),(v2,22),(v2,16),(v2,24),(v2,18),(v2,26),(v2,20),(v2,28)]⟩)],[1,2,10]⟩ (bo (bm (cA 56 57 3 15 8 (ai 0 (ax (c9 10 1 aW (L:=([(v2,6),(v2,10),(v2,12),(v2,14),(v2,22),(v2,16),(v2,24),(v2,18),(v2,26),(v2,20),(v2,28)]:List (Nat×Nat))) (i:=(5:Int)) (by kernel_rfl)) (ax (cw 130 0 aW aW (L:=([(v2,6),(v2,10),(v2,12),(v2,14),(v2,22),(v2,16),(v2,24),(v2,18),(v2,26),(v2,20),(v2,28)]:List (Nat×Nat))) (j:=(5:Int).toNat) (of_decide_eq_true (by kernel_rfl)) (fun _=>rfl)) (aa (ao 2 3 1 (ai 3 (ct 32 1 1 v2 16 0 (aa ?_)))))))))));obtain⟨h6,h⟩|⟨h6,h⟩:=ah h
 ·exact ac 34 h6 (aU 2 1 (ai 3 (ct 37 1 1 v2 16 0 (aa (ab 0 (tQ hK (v2:=v2) h))))))
 ·exact ac 34 h6 (ab 2 (tQ hK (v2:=v2) h))
theorem wO(hK:aj K)(h:lr K n v6=some r):ef M w0 r (.b 3::ch 1959::cn M w0 r 36) (zX v2 v6):=by
 unfold lr at h;refine bq (ks':=cn M w0 r 36) 2 ⟨[(1,.pp 1 v2 0),(2,.ptr 2 0),(24,.ref 10),(25,iI 11),(26,iI 4)],[(1,au v6),(2,au bH)],[(10,⟨130,1,lm aW [(v2,6),(v2,10),(v2,12),(v2,14),(v2,22),(v2,16),(v2,24),(v2,18),(v2,26),(v2,20),(v2,28)]⟩)],[1,2,10]⟩ (bo (bm (cA 56 57 3 15 8 (ai 0 (ax (c9 10 1 aW (L:=([(v2,6),(v2,10),(v2,12),(v2,14),(v2,22),(v2,16),(v2,24),(v2,18),(v2,26),(v2,20),(v2,28)]:List (Nat×Nat))) (i:=(4:Int)) (by kernel_rfl)) (ax (cw 130 0 aW aW (L:=([(v2,6),(v2,10),(v2,12),(v2,14),(v2,22),(v2,16),(v2,24),(v2,18),(v2,26),(v2,20),(v2,28)]:List (Nat×Nat))) (j:=(4:Int).toNat) (of_decide_eq_true (by kernel_rfl)) (fun _=>rfl)) (aa (ao 2 3 1 (ai 3 (ct 32 1 1 v2 22 0 (aa ?_)))))))))));obtain⟨h5,h⟩|⟨h5,h⟩:=ah h
 ·exact ac 34 h5 (aU 2 1 (ai 3 (ct 37 1 1 v2 22 0 (aa (ab 0 (sV hK (v2:=v2) h))))))
 ·exact ac 34 h5 (ab 2 (sV hK (v2:=v2) h))
theorem vw(hK:aj K)(h:mz K n v5=some r):ef M w0 r (.b 3::ch 1959::cn M w0 r 37) (y7 v2 v5):=by
 unfold mz at h;refine bq (ks':=cn M w0 r 37) 2 ⟨[(1,.pp 1 v2 0),(2,.ptr 2 0),(24,.ref 10),(25,iI 11),(26,iI 3)],[(1,au v5),(2,au bH)],[(10,⟨130,1,lm aW [(v2,6),(v2,10),(v2,12),(v2,14),(v2,22),(v2,16),(v2,24),(v2,18),(v2,26),(v2,20),(v2,28)]⟩)],[1,2,10]⟩ (bo (bm (cA 56 57 3 15 8 (ai 0 (ax (c9 10 1 aW (L:=([(v2,6),(v2,10),(v2,12),(v2,14),(v2,22),(v2,16),(v2,24),(v2,18),(v2,26),(v2,20),(v2,28)]:List (Nat×Nat))) (i:=(3:Int)) (by kernel_rfl)) (ax (cw 130 0 aW aW (L:=([(v2,6),(v2,10),(v2,12),(v2,14),(v2,22),(v2,16),(v2,24),(v2,18),(v2,26),(v2,20),(v2,28)]:List (Nat×Nat))) (j:=(3:Int).toNat) (of_decide_eq_true (by kernel_rfl)) (fun _=>rfl)) (aa (ao 2 3 1 (ai 3 (ct 32 1 1 v2 14 0 (aa ?_)))))))))));obtain⟨h4,h⟩|⟨h4,h⟩:=ah h
 ·exact ac 34 h4 (aU 2 1 (ai 3 (ct 37 1 1 v2 14 0 (aa (ab 0 (wO hK (v2:=v2) h))))))
 ·exact ac 34 h4 (ab 2 (wO hK (v2:=v2) h))
theorem xD(hK:aj K)(h:nf K n v4=some r):ef M w0 r (.b 3::ch 1959::cn M w0 r 38) (CS v2 v4):=by
 unfold nf at h;refine bq (ks':=cn M w0 r 38) 2 ⟨[(1,.pp 1 v2 0),(2,.ptr 2 0),(24,.ref 10),(25,iI 11),(26,iI 2)],[(1,au v4),(2,au bH)],[(10,⟨130,1,lm aW [(v2,6),(v2,10),(v2,12),(v2,14),(v2,22),(v2,16),(v2,24),(v2,18),(v2,26),(v2,20),(v2,28)]⟩)],[1,2,10]⟩ (bo (bm (cA 56 57 3 15 8 (ai 0 (ax (c9 10 1 aW (L:=([(v2,6),(v2,10),(v2,12),(v2,14),(v2,22),(v2,16),(v2,24),(v2,18),(v2,26),(v2,20),(v2,28)]:List (Nat×Nat))) (i:=(2:Int)) (by kernel_rfl)) (ax (cw 130 0 aW aW (L:=([(v2,6),(v2,10),(v2,12),(v2,14),(v2,22),(v2,16),(v2,24),(v2,18),(v2,26),(v2,20),(v2,28)]:List (Nat×Nat))) (j:=(2:Int).toNat) (of_decide_eq_true (by kernel_rfl)) (fun _=>rfl)) (aa (ao 2 3 1 (ai 3 (ct 32 1 1 v2 12 0 (aa ?_)))))))))));obtain⟨h3,h⟩|⟨h3,h⟩:=ah h
 ·exact ac 34 h3 (aU 2 1 (ai 3 (ct 37 1 1 v2 12 0 (aa (ab 0 (vw hK (v2:=v2) h))))))
 ·exact ac 34 h3 (ab 2 (vw hK (v2:=v2) h))
theorem uk(hK:aj K)(h:mA K n v3=some r):ef M w0 r (.b 3::ch 1959::cn M w0 r 39) (yX v2 v3):=by
 unfold mA at h;refine bq (ks':=cn M w0 r 39) 2 ⟨[(1,.pp 1 v2 0),(2,.ptr 2 0),(24,.ref 10),(25,iI 11),(26,iI 1)],[(1,au v3),(2,au bH)],[(10,⟨130,1,lm aW [(v2,6),(v2,10),(v2,12),(v2,14),(v2,22),(v2,16),(v2,24),(v2,18),(v2,26),(v2,20),(v2,28)]⟩)],[1,2,10]⟩ (bo (bm (cA 56 57 3 15 8 (ai 0 (ax (c9 10 1 aW (L:=([(v2,6),(v2,10),(v2,12),(v2,14),(v2,22),(v2,16),(v2,24),(v2,18),(v2,26),(v2,20),(v2,28)]:List (Nat×Nat))) (i:=(1:Int)) (by kernel_rfl)) (ax (cw 130 0 aW aW (L:=([(v2,6),(v2,10),(v2,12),(v2,14),(v2,22),(v2,16),(v2,24),(v2,18),(v2,26),(v2,20),(v2,28)]:List (Nat×Nat))) (j:=(1:Int).toNat) (of_decide_eq_true (by kernel_rfl)) (fun _=>rfl)) (aa (ao 2 3 1 (ai 3 (ct 32 1 1 v2 10 0 (aa ?_)))))))))));obtain⟨h2,h⟩|⟨h2,h⟩:=ah h
 ·exact ac 34 h2 (aU 2 1 (ai 3 (ct 37 1 1 v2 10 0 (aa (ab 0 (xD hK (v2:=v2) h))))))
 ·exact ac 34 h2 (ab 2 (xD hK (v2:=v2) h))
theorem t7(hK:aj K)(h:lg K n v1=some r):aI Try.prog 65 [.agg (au v1)] (fun v _=>v=.agg (au r)):=by
 refine aZ (cat Try.f65 (pn 1)) Try.func65 Try.ntmps65 fun M w0=>(aY ⟨[(0,.agg (au v1))],[],[],[]⟩ ?_);unfold lg at h;refine ao 6 7 3 (yB 1 1 0 fun v2=>(ai 3 (DH 131 3 #[(0,(.tmp 7)),(1,(.tmp 8)),(2,(.tmp 9))] 10 (e:=130) (sz:=1) (l:=lm aW [(v2,6),(v2,10),(v2,12)]) (aa (bq (ks':=[ch 58,.b 0,ch 15]) 4 ⟨[(1,.pp 1 v2 0),(2,.ptr 2 0),(3,.ref 10),(11,iI 0)],[(1,au v1),(2,au bH)],[(10,⟨130,1,lm aW [(v2,6),(v2,10),(v2,12)]⟩)],[1,2,10]⟩ (jq 40 (c:=cat Try.f65 [1,1,0,1,0,0]) (by kernel_rfl) (bm (bX (ks':=ch 3737 :: .b 1::ch 935::jF M w0 r 39) 9 (bE [1,2,3,4,11] [1,2] [10] (bJ 2 (nu 14 [.ref 10,iI 0,.adr v2 14,.adr v2 14,iI 0,.adr v2 22,.adr v2 22,.sl (lm aW [(v2,14),(v2,22)])]) [] [] [gc 22 10 ⟨130,1,lm aW [(v2,6),(v2,10),(v2,12),(v2,14),(v2,22)]⟩,bz Try.prog 40 Try.f65 (pn 3737) 9] (ay [.v 0 1,.v 0 2,.v 0 2,.v 0 2,.v 0 2,.v 0 2,.v 0 2,.v 0 1] (ag (eE (m:=0) (cf 22 10 130 1 aW (L:=([(v2,6),(v2,10),(v2,12)]:List (Nat×Nat))) (M:=([(v2,14),(v2,22)]:(List (Nat×Nat)))) (bytes:=8) (rfl) (fun _=>rfl) (by kernel_rfl))) (ag (bw 1) bG))) (bq (ks':=jF M w0 r 39) 2 ⟨[(1,.pp 1 v2 0),(2,.ptr 2 0),(3,.ref 10),(11,iI 1)],[(1,au v1),(2,au bH)],[(10,⟨130,1,lm aW [(v2,6),(v2,10),(v2,12),(v2,14),(v2,22)]⟩)],[1,2,10]⟩ (bo (bm (fA 57 1 15 9 (bE [1,2,3,4,11] [1,2] [10] (bJ 2 (nu 14 [.ref 10,iI 1,.adr v2 14,.adr v2 16,iI 1,.adr v2 22,.adr v2 24,.sl (lm aW [(v2,16),(v2,24)])]) [] [] [gc 22 10 ⟨130,1,lm aW [(v2,6),(v2,10),(v2,12),(v2,14),(v2,22),(v2,16),(v2,24)]⟩,bz Try.prog 40 Try.f65 (pn 3737) 9] (ay [.v 0 1,.v 0 2,.v 0 2,.v 0 2,.v 0 2,.v 0 2,.v 0 2,.v 0 1] (ag (eE (m:=0) (cf 22 10 130 1 aW (L:=([(v2,6),(v2,10),(v2,12),(v2,14),(v2,22)]:List (Nat×Nat))) (M:=([(v2,16),(v2,24)]:(List (Nat×Nat)))) (bytes:=8) (rfl) (fun _=>rfl) (by kernel_rfl))) (ag (bw 1) bG))) (bq (ks':=jF M w0 r 38) 2 ⟨[(1,.pp 1 v2 0),(2,.ptr 2 0),(3,.ref 10),(11,iI 2)],[(1,au v1),(2,au bH)],[(10,⟨130,1,lm aW [(v2,6),(v2,10),(v2,12),(v2,14),(v2,22),(v2,16),(v2,24)]⟩)],[1,2,10]⟩ (bo (bm (fA 57 1 15 9 (bE [1,2,3,4,11] [1,2] [10] (bJ 2 (nu 14 [.ref 10,iI 2,.adr v2 14,.adr v2 18,iI 2,.adr v2 22,.adr v2 26,.sl (lm aW [(v2,18),(v2,26)])]) [] [] [gc 22 10 ⟨130,1,lm aW [(v2,6),(v2,10),(v2,12),(v2,14),(v2,22),(v2,16),(v2,24),(v2,18),(v2,26)]⟩,bz Try.prog 40 Try.f65 (pn 3737) 9] (ay [.v 0 1,.v 0 2,.v 0 2,.v 0 2,.v 0 2,.v 0 2,.v 0 2,.v 0 1] (ag (eE (m:=0) (cf 22 10 130 1 aW (L:=([(v2,6),(v2,10),(v2,12),(v2,14),(v2,22),(v2,16),(v2,24)]:List (Nat×Nat))) (M:=([(v2,18),(v2,26)]:(List (Nat×Nat)))) (bytes:=8) (rfl) (fun _=>rfl) (by kernel_rfl))) (ag (bw 1) bG))) (bq (ks':=jF M w0 r 37) 2 ⟨[(1,.pp 1 v2 0),(2,.ptr 2 0),(3,.ref 10),(11,iI 3)],[(1,au v1),(2,au bH)],[(10,⟨130,1,lm aW [(v2,6),(v2,10),(v2,12),(v2,14),(v2,22),(v2,16),(v2,24),(v2,18),(v2,26)]⟩)],[1,2,10]⟩ ?_)))))))))))))))))))))))
 refine bo (bm (fA 57 1 15 9 (bE [1,2,3,4,11] [1,2] [10] (bJ 2 (nu 14 [.ref 10,iI 3,.adr v2 14,.adr v2 20,iI 3,.adr v2 22,.adr v2 28,.sl (lm aW [(v2,20),(v2,28)])]) [] [] [gc 22 10 ⟨130,1,lm aW [(v2,6),(v2,10),(v2,12),(v2,14),(v2,22),(v2,16),(v2,24),(v2,18),(v2,26),(v2,20),(v2,28)]⟩,bz Try.prog 40 Try.f65 (pn 3737) 9] (ay [.v 0 1,.v 0 2,.v 0 2,.v 0 2,.v 0 2,.v 0 2,.v 0 2,.v 0 1] (ag (eE (m:=0) (cf 22 10 130 1 aW (L:=([(v2,6),(v2,10),(v2,12),(v2,14),(v2,22),(v2,16),(v2,24),(v2,18),(v2,26)]:List (Nat×Nat))) (M:=([(v2,20),(v2,28)]:(List (Nat×Nat)))) (bytes:=8) (rfl) (fun _=>rfl) (by kernel_rfl))) (ag (bw 1) bG))) (bq (ks':=jF M w0 r 36) 2 ⟨[(1,.pp 1 v2 0),(2,.ptr 2 0),(3,.ref 10),(11,iI 4)],[(1,au v1),(2,au bH)],[(10,⟨130,1,lm aW [(v2,6),(v2,10),(v2,12),(v2,14),(v2,22),(v2,16),(v2,24),(v2,18),(v2,26),(v2,20),(v2,28)]⟩)],[1,2,10]⟩ (bo (bm (B3 4 5 3 10 (ai 1 (ax (bA aW ([(v2,6),(v2,10),(v2,12),(v2,14),(v2,22),(v2,16),(v2,24),(v2,18),(v2,26),(v2,20),(v2,28)]:List (Nat×Nat))) (aa (bq (ks':=[ch 122,.b 2,ch 31]) 1 ⟨[(1,.pp 1 v2 0),(2,.ptr 2 0),(24,.ref 10),(25,iI 11),(26,iI 0)],[(1,au v1),(2,au bH)],[(10,⟨130,1,lm aW [(v2,6),(v2,10),(v2,12),(v2,14),(v2,22),(v2,16),(v2,24),(v2,18),(v2,26),(v2,20),(v2,28)]⟩)],[1,2,10]⟩ (jq 40 (c:=cat Try.f65 [1,1,1,0,1,0,0]) (by kernel_rfl) (bm (bX (ks':=ch 7832::ch 7833 :: .b 3::ch 1959::cn M w0 r 39) 8 (ai 0 (ax (c9 10 1 aW (L:=([(v2,6),(v2,10),(v2,12),(v2,14),(v2,22),(v2,16),(v2,24),(v2,18),(v2,26),(v2,20),(v2,28)]:List (Nat×Nat))) (i:=(0:Int)) (by kernel_rfl)) (ax (cw 130 0 aW aW (L:=([(v2,6),(v2,10),(v2,12),(v2,14),(v2,22),(v2,16),(v2,24),(v2,18),(v2,26),(v2,20),(v2,28)]:List (Nat×Nat))) (j:=(0:Int).toNat) (of_decide_eq_true (by kernel_rfl)) (fun _=>rfl)) (aa (ao 2 3 1 (ai 3 (ct 32 1 1 v2 6 0 (aa ?_)))))))))))))))))))))))
 obtain⟨h1,h⟩|⟨h1,h⟩:=ah h
 ·exact ac 34 h1 (aU 2 1 (ai 3 (ct 37 1 1 v2 6 0 (aa (ab 0 (uk hK (v2:=v2) h))))))
 ·exact ac 34 h1 (ab 2 (uk hK (v2:=v2) h))
end
noncomputable section
variable(M:Nat→Prop)(w0:aw)(r:Int)(v1:List aq)(v2:Fv)(v4:Int)(m1:Nat)(L1:Int→Option Int)
abbrev pQ:Cx:=⟨Try.prog,19,M,w0⟩
abbrev rT:=bodyPost Try.prog Try.f90 (bn M w0 (fun v _=>v=iI r))
abbrev Dj(ks:List ak)(s:AS):=VE (pQ M w0) (rT M w0 r) ks .normal s
abbrev sk(n:Nat):ak:=.c (cat Try.f90 (pn n))
abbrev po:List ak:=[.b 0,sk 7]
abbrev zF:List ak:=kl (pQ M w0) (rT M w0 r) po (cat Try.f90 (pn 52)) m1::po
def sw:AS:=⟨[(0,.sl (lm aO v1)),(1,.fn v2.id v2.aJ),(7,iI (v1.length:Int)),(8,iI v4)],[],[],[]⟩
abbrev vy:Prop:=∀{v4:Int},L1 v4=some r→LP (pQ M w0) (rT M w0 r) po (cat Try.f90 (pn 52)) m1 (sw v1 v2 v4)
variable{M w0 r v1 v2 v4 m1 L1}{K:Kn}{n:Nat}
theorem D9(hK:aj K)(hL1:vy M w0 r v1 v2 m1 L1)(h:nU K n v1 v2 L1 v4=some r):Dj M w0 r (sk 52::zF M w0 r m1) (sw v1 v2 v4):=by
 unfold nU at h;refine ao 6 7 3 ?_;obtain⟨h5,h⟩|⟨h5,h⟩:=ah h
 ·refine ac 9 h5 (cN 18 19 1 3 7 (ai 3 ?_));obtain⟨h6,h⟩:=aS h;refine ax (bD aO aX h6 (d7) (dJ)) (aN 5 1 ?_);obtain⟨v5,h7,h⟩:=bind_some h;refine gK (hK.nj h7) (aa ?_);obtain⟨h8,h⟩|⟨h8,h⟩:=ah h
  ·refine ac 16 h8 (aC 9 ?_);cases h;exact aV
  ·exact ac 16 h8 (ab 4 (bo (hL1 h)))
 ·refine ac 9 h5 (aC 8 ?_);cases h;exact aV
theorem C5(hK:aj K)(m:Nat):vy M w0 r v1 v2 m (nY K n v1 v2 m):=by
 induction m with
 | zero=>intro v4 h;cases h
 | succ m ih=>intro v4 h;have h:nU K n v1 v2 (nY K n v1 v2 m) v4=some r:=h;exact bm (D9 hK ih h)
theorem AL(hK:aj K)(h:pH K n v1 v2=some r):aI Try.prog 90 [.sl (lm aO v1),.fn v2.id v2.aJ] (fun v _=>v=iI r):=by
 refine aZ (cat Try.f90 (pn 1)) Try.func90 Try.ntmps90 fun M w0=>(aY ⟨[(0,.sl (lm aO v1)),(1,.fn v2.id v2.aJ)],[],[],[]⟩ ?_);unfold pH at h;exact bK 12 13 7 4 (ai 1 (ax (bA aO v1) (aa (ab 1 (ce (p:=pn 26) n (C5 hK n h))))))
end
noncomputable section
variable(M:Nat→Prop)(w0:aw)(r:Bool)(v1:List aq)(v2:Fv)  
variable{M w0 r v1 v2}{K:Kn}{n:Nat}
theorem zo(hK:aj K)(h:rc K n v1 v2=some r):aI Try.prog 86 [.sl (lm aO v1),.fn v2.id v2.aJ] (fun v _=>v=.bool r):=by
 refine aZ (cat Try.f86 (pn 1)) Try.func86 Try.ntmps86 fun M w0=>(aY ⟨[(0,.sl (lm aO v1)),(1,.fn v2.id v2.aJ)],[],[],[]⟩ ?_);unfold rc at h;refine ao 6 7 3 (ai 2 ?_);obtain⟨v3,h1,h⟩:=bind_some h;refine aD (AL hK h1) (aa (aC 1 ?_));cases h;exact aV
end
noncomputable section
variable(M:Nat→Prop)(w0:aw)(r:(List aq)×Bool)(v1:aq)(v8:Int)(v9 v11:(List aq))(m1:Nat)(L1:Int→(List aq)→Option ((List aq)×Bool))
abbrev oM:Cx:=⟨Try.prog,24,M,w0⟩
abbrev oZ:=bodyPost Try.prog Try.f75 (bn M w0 (fun v _=>v=.tup [.sl (lm aO r.1),.bool r.2]))
abbrev w3(ks:List ak)(s:AS):=VE (oM M w0) (oZ M w0 r) ks .normal s
abbrev qt(n:Nat):ak:=.c (cat Try.f75 (pn n))
abbrev qr:List ak:=[.b 0,qt 15]
abbrev vH:List ak:=kl (oM M w0) (oZ M w0 r) qr (cat Try.f75 (pn 116)) m1::qr
def AJ:AS:=⟨[(4,.ref 19),(8,.sl (lm aO v1.Kids)),(9,iI (v1.Kids.length:Int)),(10,iI v8)],[],[(19,⟨72,59,lm aO v11⟩)],[19]⟩
def sJ:AS:=⟨[(4,.ref 19),(8,.sl (lm aO v1.Kids)),(9,iI (v1.Kids.length:Int)),(10,iI v8)],[],[(19,⟨72,59,lm aO v9⟩)],[19]⟩
abbrev qc:Prop:=∀{v8:Int} {v9:(List aq)},L1 v8 v9=some r→LP (oM M w0) (oZ M w0 r) qr (cat Try.f75 (pn 116)) m1 (sJ v1 v8 v9)
variable{M w0 r v1 v8 v9 v11 m1 L1}{K:Kn}{n:Nat}
theorem sx(hK:aj K)(hL1:qc M w0 r v1 m1 L1)(h:kJ K n v1 v8 L1 v11=some r):w3 M w0 r (.b 1::qt 935::vH M w0 r m1) (AJ v1 v8 v11):=by
 unfold kJ at h;exact ab 2 (bo (hL1 h))
theorem yC(hK:aj K)(hL1:qc M w0 r v1 m1 L1)(h:lw K n v1 L1 v8 v9=some r):w3 M w0 r (qt 116::vH M w0 r m1) (sJ v1 v8 v9):=by
 unfold lw at h;refine ao 6 7 3 ?_;obtain⟨h13,h⟩|⟨h13,h⟩:=ah h
 ·refine ac 11 h13 (cN 8 9 1 3 5 (ai 0 ?_));obtain⟨h14,h⟩:=aS h;refine ax (bD aO aX h14 (d7) (dJ)) (aa (ao 2 3 1 (ai 1 ?_)));obtain⟨v10,h15,h⟩:=bind_some h;refine aD (xE hK h15) (aa ?_);obtain⟨h16,h⟩|⟨h16,h⟩:=ah h
  ·refine ac 15 h16 (aU 2 1 (ai 2 (ax (eK aO ([(gD v1.Kids v8)]:List aq) (new:=[aX (gD v1.Kids v8)]) (by simp only[List.map_cons,List.map_nil,dJ])) ?_)));obtain⟨h17,h⟩:=aS h;exact ax (cf 19 19 72 59 aO (rfl) (d7) h17) (aa (ab 0 (sx hK hL1 h)))
  ·exact ac 15 h16 (ab 2 (sx hK hL1 h))
 ·refine ac 11 h13 (jd 2 3 6 (ai 2 (mi 19 ?_)));obtain⟨v12,h18,h⟩:=bind_some h;refine aD (zo hK h18) (aa (aC 1 ?_));cases h;exact dW
theorem A8(hK:aj K)(m:Nat):qc M w0 r v1 m (kT K n v1 m):=by
 induction m with
 | zero=>intro v8 v9 h;cases h
 | succ m ih=>intro v8 v9 h;have h:lw K n v1 (kT K n v1 m) v8 v9=some r:=h;exact bm (yC hK ih h)
theorem tZ(hK:aj K)(h:lc K n v1=some r):aI Try.prog 75 [.agg (aX v1)] (fun v _=>v=.tup [.sl (lm aO r.1),.bool r.2]):=by
 refine aZ (cat Try.f75 (pn 1)) Try.func75 Try.ntmps75 fun M w0=>(aY ⟨[(0,.agg (aX v1))],[],[],[]⟩ ?_);unfold lc at h;exact bK 28 29 15 6 (ai 2 (ax (bA aO v1.Kids) (aa (eI 2 0 1 (bE [4,8,9,10] [] [] (eV 19 4 72 59 (ab 0 (ce (p:=pn 58) n (A8 hK n h)))))))))
end
noncomputable section
variable(M:Nat→Prop)(w0:aw)(r:Int×Int)(v1:aq)(v2:bP)(v6:(List aq)×Bool)(v11 v12 v13:Int)(m1:Nat)(L1:Int→Int→Int→Option (Int×Int))
abbrev pV:Cx:=⟨Try.prog,71,M,w0⟩
abbrev qU:=bodyPost Try.prog Try.f60 (bn M w0 (fun v _=>v=.tup [iI r.1,iI r.2]))
abbrev Dm(ks:List ak)(s:AS):=VE (pV M w0) (qU M w0 r) ks .normal s
abbrev vx(n:Nat):ak:=.c (cat Try.f60 (pn n))
abbrev pk:List ak:=[.b 0,vx 63]
abbrev Dq:List ak:=kl (pV M w0) (qU M w0 r) pk (cat Try.f60 (pn 500)) m1::pk
def ur:AS:=⟨[(3,.ptr 3 0),(4,iI v11),(5,iI v12),(47,.sl (lm aO v6.1)),(48,iI (v6.1.length:Int)),(49,iI v13)],[(3,bS v2)],[],[3]⟩
abbrev ww:Prop:=∀{v11:Int} {v12:Int} {v13:Int},L1 v11 v12 v13=some r→LP (pV M w0) (qU M w0 r) pk (cat Try.f60 (pn 500)) m1 (ur v2 v6 v11 v12 v13)
variable{M w0 r v1 v2 v6 v11 v12 v13 m1 L1}{K:Kn}{n:Nat}
theorem BS(hK:aj K)(hL1:ww M w0 r v2 v6 m1 L1)(h:li K n v2 v6 L1 v11 v12 v13=some r):Dm M w0 r (vx 500::Dq M w0 r m1) (ur v2 v6 v11 v12 v13):=by
 unfold li at h;refine ao 6 7 3 ?_;obtain⟨h13,h⟩|⟨h13,h⟩:=ah h
 ·refine ac 50 h13 (cN 8 9 1 3 5 (ai 0 ?_));obtain⟨h14,h⟩:=aS h;refine ax (bD aO aX h14 (d7) (dJ)) (aa (ao 2 3 1 (ai 3 ?_)));obtain⟨v14,h15,h⟩:=bind_some h;exact gK (hK.ol h15) (aa (ab 3 (bo (hL1 h))))
 ·refine ac 50 h13 (jd 2 3 6 (ai 1 ?_));obtain⟨v15,h16,h⟩:=bind_some h;refine aD (dK hK h16) (aN 3 1 ?_);obtain⟨v16,h17,h⟩:=bind_some h;refine aD (dK hK h17) (aa (aC 1 ?_));cases h;exact dW
theorem AN(hK:aj K)(m:Nat):ww M w0 r v2 v6 m (nE K n v2 v6 m):=by
 induction m with
 | zero=>intro v11 v12 v13 h;cases h
 | succ m ih=>intro v11 v12 v13 h;have h:li K n v2 v6 (nE K n v2 v6 m) v11 v12 v13=some r:=h;exact bm (BS hK ih h)
theorem tc(hK:aj K)(h:mR K n v1 v2=some r):aI Try.prog 60 [.agg (aX v1),.agg (bS v2)] (fun v _=>v=.tup [iI r.1,iI r.2]):=by
 refine aZ (cat Try.f60 (pn 1)) Try.func60 Try.ntmps60 fun M w0=>(aY ⟨[(0,.agg (aX v1)),(1,.agg (bS v2))],[],[],[]⟩ ?_);unfold mR at h;refine bK 12 13 7 4 (ai 2 ?_);obtain⟨v3,h1,h⟩:=bind_some h;refine aD (t7 hK h1) (aN 4 1 ?_);obtain⟨v4,h2,h⟩:=bind_some h;refine aD (cU hK h2) (aa (aU 3 2 ?_));obtain⟨h3,h⟩|⟨h3,h⟩:=ah h
 ·refine ac 22 h3 (ao 4 5 2 (ai 1 ?_));obtain⟨v5,h4,h⟩:=bind_some h;refine aD (dK hK h4) (aa (aC 4 ?_));cases h;exact dW
 ·refine ac 22 h3 (eW 2 3 3 (ai 1 ?_));obtain⟨v6,h5,h⟩:=bind_some h;refine aD (tZ hK h5) (aa (ao 5 3 3 ?_));obtain⟨h6,h⟩|⟨h6,h⟩:=ah h
  ·refine ac 33 h6 (ao 4 5 2 (ai 5 ?_));obtain⟨v7,h7,h⟩:=bind_some h;refine gK (hK.lG h7) (aa (ao 2 3 1 (ai 1 ?_)));obtain⟨v8,h8,h⟩:=bind_some h;refine aD (dK hK h8) (aN 3 1 ?_);obtain⟨v9,h9,h⟩:=bind_some h;refine aD (dK hK h9) (aa (aC 2 ?_));cases h;exact dW
  ·exact ac 33 h6 (oh 4 5 3 4 (ai 1 (ax (bA aO v6.1) (aa (ab 1 (ce (p:=pn 250) n (AN hK n h)))))))
end
noncomputable section
variable(M:Nat→Prop)(w0:aw)(r:Int)(v1:aH)(v2 v3 v5 v7:Int)  
abbrev vG(n:Nat):ak:=.c (cat Try.f61 (pn n))
abbrev Di:Cx:=⟨Try.prog,37,M,w0⟩
abbrev Dy:=bodyPost Try.prog Try.f61 (bn M w0 (fun v _=>v=iI r))
abbrev w9(ks:List ak)(s:AS):=VE (Di M w0) (Dy M w0 r) ks .normal s
def D4:AS:=⟨[(2,iI v7)],[],[],[]⟩
def Ao:AS:=⟨[(1,iI v2),(2,iI v5),(3,.ptr 3 0)],[(3,au v1)],[],[3]⟩
variable{M w0 r v1 v2 v3 v5 v7}{K:Kn}{n:Nat}
theorem wj(hK:aj K)(h:ky K n v7=some r):w9 M w0 r [vG 31] (D4 v7):=by
 unfold ky at h;refine aC 3 ?_;cases h;exact aV
theorem uR(hK:aj K)(h:mo K n v1 v2 v5=some r):w9 M w0 r [vG 15] (Ao v1 v2 v5):=by
 unfold mo at h;refine bK 4 5 3 2 (ai 3 ?_);obtain⟨v6,h3,h⟩:=bind_some h;refine aD (cU hK h3) (aa (aU 3 2 ?_));obtain⟨h4,h⟩|⟨h4,h⟩:=ah h
 ·exact ac 32 h4 (ab 2 (wj hK h))
 ·exact ac 32 h4 (ab 2 (wj hK h))
theorem lS(hK:aj K)(h:gZ K n v1 v2 v3=some r):aI Try.prog 61 [.agg (au v1),iI v2,iI v3] (fun v _=>v=iI r):=by
 refine aZ (cat Try.f61 (pn 1)) Try.func61 Try.ntmps61 fun M w0=>(aY ⟨[(0,.agg (au v1)),(1,iI v2),(2,iI v3)],[],[],[]⟩ ?_);unfold gZ at h;refine bK 28 29 15 6 (ai 3 ?_);obtain⟨v4,h1,h⟩:=bind_some h;refine aD (cU hK h1) (aa (aU 3 2 ?_));obtain⟨h2,h⟩|⟨h2,h⟩:=ah h
 ·exact ac 20 h2 (ab 2 (uR hK h))
 ·exact ac 20 h2 (ab 2 (uR hK h))
end
noncomputable section
variable(M:Nat→Prop)(w0:aw)(r:Int)(v1:aq)(v2:Int)(v3:bP)(v9:Int)  
abbrev BU(n:Nat):ak:=.c (cat Try.f44 (pn n))
abbrev AY:Cx:=⟨Try.prog,46,M,w0⟩
abbrev Dz:=bodyPost Try.prog Try.f44 (bn M w0 (fun v _=>v=iI r))
abbrev CJ(ks:List ak)(s:AS):=VE (AY M w0) (Dz M w0 r) ks .normal s
def CK:AS:=⟨[(1,iI v2),(3,.ptr 3 0),(7,iI v9)],[(3,aX v1)],[],[3]⟩
variable{M w0 r v1 v2 v3 v9}{K:Kn}{n:Nat}
theorem tv(hK:aj K)(h:mY K n v1 v2 v9=some r):CJ M w0 r [BU 15] (CK v1 v2 v9):=by
 unfold mY at h;refine ao 2 3 1 (ai 4 ?_);obtain⟨v10,h7,h⟩:=bind_some h;refine aD (lS hK h7) (aa (aC 1 ?_));cases h;exact aV
theorem BB(hK:aj K)(h:oG K n v1 v2 v3=some r):aI Try.prog 44 [.agg (aX v1),iI v2,.agg (bS v3)] (fun v _=>v=iI r):=by
 refine aZ (cat Try.f44 (pn 1)) Try.func44 Try.ntmps44 fun M w0=>(aY ⟨[(0,.agg (aX v1)),(1,iI v2),(2,.agg (bS v3))],[],[],[]⟩ ?_);unfold oG at h;refine ao 6 7 3 (ai 4 ?_);obtain⟨v4,h1,h⟩:=bind_some h;refine aD (cU hK h1) (aa (ao 5 3 3 ?_));obtain⟨h2,h⟩|⟨h2,h⟩:=ah h
 ·refine ac 21 h2 (ao 4 5 2 (ai 2 ?_));obtain⟨v5,h3,h⟩:=bind_some h;refine aD (tc hK h3) (aa (ao 2 3 1 (bE [1,3,9,10] [3] [] ?_)));obtain⟨v6,h4,h⟩:=bind_some h;obtain⟨v7,h5,h⟩:=bind_some h;obtain⟨v8,h6,h⟩:=bind_some h;exact bJ 1 (nu 28 [iI v2,iI v6,.ptr 3 2,.agg (au v1.Style),iI v2,.agg (bl v7),iI v8,iI (af (v6-v8))]) [] [] [bz Try.prog 46 Try.f44 (pn 234) 8] (ay [.v 0 1] (ag (bI 0 1 29 (dK hK h4)) (ay (vz 3) (ag (bI 0 1 33 (kh hK h5)) (ag (bI 0 1 34 (gX hK h6)) (ay [.v 0 1] (ag (bw 0) bG))))))) (ab 1 (tv hK h))
 ·exact ac 21 h2 (ab 2 (tv hK h))
end
noncomputable section
variable(M:Nat→Prop)(w0:aw)(r v1:ae)(v2:Int)(v3:Int×Bool)(v5:Int)  
abbrev Eo(n:Nat):ak:=.c (cat Try.f45 (pn n))
abbrev AX:Cx:=⟨Try.prog,45,M,w0⟩
abbrev Dx:=bodyPost Try.prog Try.f45 (bn M w0 (fun v _=>v=.agg (aG r)))
abbrev CD(ks:List ak)(s:AS):=VE (AX M w0) (Dx M w0 r) ks .normal s
def Bz:AS:=⟨[(2,.ptr 2 0),(4,.ptr 4 0)],[(2,aG ({ v1 with X:=(af (v1.X+v3.1)),Y:=v5 }:ae)),(4,List.set (aG bf) 66 (.nils))],[],[2,4]⟩
variable{M w0 r v1 v2 v3 v5}{K:Kn}{n:Nat}
theorem wT(hK:aj K)(h:nS K n v1 v3 v5=some r):CD M w0 r [Eo 63] (Bz v1 v3 v5):=by
 unfold nS at h;refine aC 3 ?_;cases h;exact aV
theorem w8(hK:aj K)(h:lU K n v1 v2=some r):aI Try.prog 45 [.agg (aG v1),iI v2] (fun v _=>v=.agg (aG r)):=by
 refine aZ (cat Try.f45 (pn 1)) Try.func45 Try.ntmps45 fun M w0=>(aY ⟨[(0,.agg (aG v1)),(1,iI v2)],[],[],[]⟩ ?_);unfold lU at h;refine ao 13 7 5 ?_;obtain⟨h1,h⟩|⟨h1,h⟩:=ah h
 ·refine ac 12 h1 (aC 5 ?_);cases h;exact aV
 ·refine ac 12 h1 (eW 2 3 3 (ai 4 ?_));obtain⟨v3,h2,h⟩:=bind_some h;refine aD (cU hK h2) (aa (ao 13 7 5 ?_));obtain⟨h3,h⟩|⟨h3,h⟩:=ah h
  ·refine ac 31 h3 (ao 4 5 2 (ai 3 ?_));obtain⟨v4,h4,h⟩:=bind_some h;exact aD (cU hK h4) (aa (ab 1 (wT hK h)))
  ·exact ac 31 h3 (ab 2 (wT hK h))
end
noncomputable section
variable(M:Nat→Prop)(w0:aw)(r:Int)(v1:aK)  
variable{M w0 r v1}{K:Kn}{n:Nat}
theorem gY(hK:aj K)(h:ff K n v1=some r):aI Try.prog 48 [.agg (bv v1)] (fun v _=>v=iI r):=by
 refine aZ (cat Try.f48 (pn 1)) Try.func48 Try.ntmps48 fun M w0=>(aY ⟨[(0,.agg (bv v1))],[],[],[]⟩ ?_);unfold ff at h;refine aC 5 ?_;cases h;exact aV
end
noncomputable section
variable(M:Nat→Prop)(w0:aw)(r:aK)(v1 v2:aK)  
variable{M w0 r v1 v2}{K:Kn}{n:Nat}
theorem i7(hK:aj K)(h:fV K n v1 v2=some r):aI Try.prog 79 [.agg (bv v1),.agg (bv v2)] (fun v _=>v=.agg (bv r)):=by
 refine aZ (cat Try.f79 (pn 1)) Try.func79 Try.ntmps79 fun M w0=>(aY ⟨[(0,.agg (bv v1)),(1,.agg (bv v2))],[],[],[]⟩ ?_);unfold fV at h;refine aC 5 ?_;cases h;exact aV
end
noncomputable section
variable(M:Nat→Prop)(w0:aw)(r:(List ae)×Int×aK×aK×Bool)(v1:List ae)(v16:Int)(v17:Bool)(v18:Int)(v19 v20:aK)(v21:List ae)(v22:aK)(v24:Int)(v25:aK)(v26:Int)(v27:Bool)(v28 v29 v30:aK)(m1:Nat)(L1:Int→Bool→Int→aK→aK→(List ae)→Option ((List ae)×Int×aK×aK×Bool))
abbrev o9:Cx:=⟨Try.prog,52,M,w0⟩
abbrev rp:=bodyPost Try.prog Try.f76 (bn M w0 (fun v s=>v=.tup [.ref 43,iI r.2.1,.agg (bv r.2.2.1),.agg (bv r.2.2.2.1),.bool r.2.2.2.2]∧look 43 s.r=some ⟨64,67,lm az r.1⟩))
abbrev iH(ks:List ak)(s:AS):=VE (o9 M w0) (rp M w0 r) ks .normal s
abbrev ep(n:Nat):ak:=.c (cat Try.f76 (pn n))
abbrev px:List ak:=[.b 0,ep 31]
abbrev n7:List ak:=kl (o9 M w0) (rp M w0 r) px (cat Try.f76 (pn 244)) m1::px
def zD:AS:=⟨[(2,.ref 43),(3,iI v26),(4,.ptr 4 0),(5,.ptr 5 0),(6,.bool v27),(7,.ptr 7 0),(9,.ptr 9 0),(10,.sl (lm az v1)),(11,iI (v1.length:Int)),(12,iI v18)],[(4,bv v28),(5,bv cc),(7,bv v29),(9,aG ({ (gD v1 v18)with Y:=v24 }:ae))],[(43,⟨64,67,lm az v21⟩)],[4,5,7,9,43]⟩
def Ej:AS:=⟨[(2,.ref 43),(4,.ptr 4 0),(5,.ptr 5 0),(7,.ptr 7 0),(9,.ptr 9 0),(10,.sl (lm az v1)),(11,iI (v1.length:Int)),(12,iI v18)],[(4,bv v25),(5,bv cc),(7,bv v22),(9,aG ({ (gD v1 v18)with Y:=v24 }:ae))],[(43,⟨64,67,lm az v21⟩)],[4,5,7,9,43]⟩
def CT:AS:=⟨[(2,.ref 43),(3,iI v16),(4,.ptr 4 0),(5,.ptr 5 0),(6,.bool v17),(7,.ptr 7 0),(9,.ptr 9 0),(10,.sl (lm az v1)),(11,iI (v1.length:Int)),(12,iI v18)],[(4,bv v19),(5,bv cc),(7,bv v22),(9,aG ({ (gD v1 v18)with Y:=v24 }:ae))],[(43,⟨64,67,lm az v21⟩)],[4,5,7,9,43]⟩
def CY:AS:=⟨[(2,.ref 43),(3,iI v16),(4,.ptr 4 0),(5,.ptr 5 0),(6,.bool v17),(7,.ptr 7 0)],[(4,bv v30),(5,bv cc),(7,bv v20)],[(43,⟨64,67,lm az v21⟩)],[4,5,7,43]⟩
def ua:AS:=⟨[(2,.ref 43),(3,iI v16),(4,.ptr 4 0),(5,.ptr 5 0),(6,.bool v17),(7,.ptr 7 0),(10,.sl (lm az v1)),(11,iI (v1.length:Int)),(12,iI v18)],[(4,bv v19),(5,bv cc),(7,bv v20)],[(43,⟨64,67,lm az v21⟩)],[4,5,7,43]⟩
abbrev iS:Prop:=∀{v16:Int} {v17:Bool} {v18:Int} {v19:aK} {v20:aK} {v21:(List ae)},L1 v16 v17 v18 v19 v20 v21=some r→LP (o9 M w0) (rp M w0 r) px (cat Try.f76 (pn 244)) m1 (ua v1 v16 v17 v18 v19 v20 v21)
variable{M w0 r v1 v16 v17 v18 v19 v20 v21 v22 v24 v25 v26 v27 v28 v29 v30 m1 L1}{K:Kn}{n:Nat}
theorem s4(hK:aj K)(hL1:iS M w0 r v1 m1 L1)(h:mZ K n v1 v18 v21 v24 L1 v26 v27 v28 v29=some r):iH M w0 r (ep 125343 :: .b 1::ep 1959::n7 M w0 r m1) (zD v1 v18 v21 v24 v26 v27 v28 v29):=by
 unfold mZ at h;refine ai 2 (ax (eK az ([({ (gD v1 v18)with Y:=v24 }:ae)]:List ae) (new:=[aG ({ (gD v1 v18)with Y:=v24 }:ae)]) (by simp only[List.map_cons,List.map_nil,cy])) ?_);obtain⟨h22,h⟩:=aS h;exact ax (cf 43 43 64 67 az (rfl) (d6) h22) (aa (ab 2 (bo (hL1 h))))
theorem xh(hK:aj K)(hL1:iS M w0 r v1 m1 L1)(h:nG K n v1 v18 v21 v22 v24 L1 v25=some r):iH M w0 r (ep 1002741::ep 125343 :: .b 1::ep 1959::n7 M w0 r m1) (Ej v1 v18 v21 v22 v24 v25):=by
 unfold nG at h;exact ab 5 (s4 hK hL1 h)
theorem uV(hK:aj K)(hL1:iS M w0 r v1 m1 L1)(h:nN K n v1 v16 v17 v18 v19 v21 v22 L1 v24=some r):iH M w0 r (ep 62671 :: .b 1::ep 1959::n7 M w0 r m1) (CT v1 v16 v17 v18 v19 v21 v22 v24):=by
 unfold nN at h;refine ao 5 3 3 ?_;obtain⟨h20,h⟩|⟨h20,h⟩:=ah h
 ·refine ac 30 h20 (ao 9 5 4 ?_);obtain⟨h21,h⟩|⟨h21,h⟩:=ah h
  ·exact ac 31 h21 (ab 2 (xh hK hL1 h))
  ·exact ac 31 h21 (ab 2 (xh hK hL1 h))
 ·exact ac 30 h20 (ab 2 (s4 hK hL1 h))
theorem wK(hK:aj K)(h:n0 K n v16 v17 v20 v21 v30=some r):iH M w0 r [ep 63] (CY v16 v17 v20 v21 v30):=by
 unfold n0 at h;refine ao 2 3 1 (bE [2,3,4,5,6,7] [4,5,7] [43] (bJ 5 (nu 47 [.ref 43,iI v16,.agg (bv v30),.agg (bv v20),.bool v17]) [] [] [bz Try.prog 52 Try.f76 (pn 126) 5,bz Try.prog 52 Try.f76 (pn 126) 6,bz Try.prog 52 Try.f76 (pn 126) 7,bz Try.prog 52 Try.f76 (pn 126) 8,bz Try.prog 52 Try.f76 (pn 126) 9] (ay [.v 0 1,.v 0 2,.v 0 3,.v 0 4,.v 0 5] (ag (bw 0) (ag (bw 1) (ag (bw 2) (ag (bw 3) (ag (bw 4) bG)))))) (aC 1 ?_)));cases h;exact rM
theorem zl(hK:aj K)(hL1:iS M w0 r v1 m1 L1)(h:nn K n v1 L1 v16 v17 v18 v19 v20 v21=some r):iH M w0 r (ep 244::n7 M w0 r m1) (ua v1 v16 v17 v18 v19 v20 v21):=by
 unfold nn at h;refine ao 6 7 3 ?_;obtain⟨h15,h⟩|⟨h15,h⟩:=ah h
 ·refine ac 13 h15 (cN 8 9 1 3 5 (ai 0 ?_));obtain⟨h16,h⟩:=aS h;refine ax (bD az aG h16 (d6) (cy)) (aa (ao 2 3 1 (ai 3 ?_)));obtain⟨v22,h17,h⟩:=bind_some h;refine aD (i7 hK h17) (aa (ao 13 7 5 ?_));obtain⟨h18,h⟩|⟨h18,h⟩:=ah h
  ·refine ac 22 h18 (aU 2 1 (ai 2 ?_));obtain⟨v23,h19,h⟩:=bind_some h;exact aD (gY hK h19) (aa (ab 0 (uV hK hL1 h)))
  ·exact ac 22 h18 (ab 2 (uV hK hL1 h))
 ·refine ac 13 h15 (jd 5 3 8 ?_);obtain⟨h23,h⟩|⟨h23,h⟩:=ah h
  ·exact ac 45 h23 (ab 2 (wK hK h))
  ·exact ac 45 h23 (ab 2 (wK hK h))
theorem D7(hK:aj K)(m:Nat):iS M w0 r v1 m (kY K n v1 m):=by
 induction m with
 | zero=>intro v16 v17 v18 v19 v20 v21 h;cases h
 | succ m ih=>intro v16 v17 v18 v19 v20 v21 h;have h:nn K n v1 (kY K n v1 m) v16 v17 v18 v19 v20 v21=some r:=h;exact bm (zl hK ih h)
theorem Az(hK:aj K)(h:rP K n v1=some r):aI Try.prog 76 [.sl (lm az v1)] (fun v s=>v=.tup [.ref 43,iI r.2.1,.agg (bv r.2.2.1),.agg (bv r.2.2.2.1),.bool r.2.2.2.2]∧look 43 s.r=some ⟨64,67,lm az r.1⟩):=by
 refine aZ (cat Try.f76 (pn 1)) Try.func76 Try.ntmps76 fun M w0=>(aY ⟨[(0,.sl (lm az v1))],[],[],[]⟩ ?_);unfold rP at h;exact bK 60 61 31 8 (ai 1 (ax (bA az v1) (aa (eI 2 0 1 (bE [2,3,4,5,6,7,10,11,12] [4,5,7] [] (eV 43 2 64 67 (ab 0 (ce (p:=pn 122) n (D7 hK n h)))))))))
end
noncomputable section
variable(M:Nat→Prop)(w0:aw)(r v1:List ae)  
variable{M w0 r v1}{K:Kn}{n:Nat}
theorem C6(hK:aj K)(h:q9 K n v1=some r):aI Try.prog 77 [.sl (lm az v1)] (fun v s=>v=.ref 5∧look 5 s.r=some ⟨64,67,lm az r⟩):=by
 refine aZ (cat Try.f77 (pn 1)) Try.func77 Try.ntmps77 fun M w0=>(aY ⟨[(0,.sl (lm az v1))],[],[],[]⟩ ?_);unfold q9 at h;refine bK 12 13 7 4 (ai 1 ?_);refine zJ (aP Try.f77 (pn 12) 1) (.eql) 39 39 (.tmp 3) (.const (.slice none 0 0)) 4 (lm az v1) (r:=aM Try.f77 (pn 12) 2) (e:=64) (by kernel_rfl) (by kernel_rfl) (by kernel_rfl) (by kernel_rfl) (by kernel_rfl) (by kernel_rfl) (by kernel_rfl) (by kernel_rfl) (fun hq=>?_) ?_
 ·have h:=zL (by simpa using hq) h;refine aa (aC 5 (eV 5 2 64 67 ?_));cases h;exact dQ
 ·have h:=yL h;refine aa (eW 2 3 3 (ai 0 (zi 39 5 (e:=64) (sz:=67) (aN 2 1 ?_))));obtain⟨h2,h⟩:=aS h;refine ax (cf 7 5 64 67 az (rfl) (d6) h2) (aa (aC 1 ?_));cases h;exact dQ
end
noncomputable section
variable(M:Nat→Prop)(w0:aw)(r:aK)(v1:Int)  
variable{M w0 r v1}{K:Kn}{n:Nat}
theorem tp(hK:aj K)(h:nQ K n v1=some r):aI Try.prog 78 [iI v1] (fun v _=>v=.agg (bv r)):=by
 refine aZ (cat Try.f78 (pn 1)) Try.func78 Try.ntmps78 fun M w0=>(aY ⟨[(0,iI v1)],[],[],[]⟩ ?_);unfold nQ at h;refine aC 5 ?_;cases h;exact aV
end
noncomputable section
variable(M:Nat→Prop)(w0:aw)(r:Int)(v1:bp)  
variable{M w0 r v1}{K:Kn}{n:Nat}
theorem Eh(hK:aj K)(h:oX K n v1=some r):aI Try.prog 80 [.agg (bl v1)] (fun v _=>v=iI r):=by
 refine aZ (cat Try.f80 (pn 1)) Try.func80 Try.ntmps80 fun M w0=>(aY ⟨[(0,.agg (bl v1))],[],[],[]⟩ ?_);unfold oX at h;refine aC 5 ?_;cases h;exact aV
end
end Go.Proofs.Ytnpmlepplfaijaa

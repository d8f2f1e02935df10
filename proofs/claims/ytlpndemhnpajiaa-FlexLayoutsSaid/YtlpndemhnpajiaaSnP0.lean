/- The runs of the functions that FlexLayouts reaches do what their plain forms say, part 0. Made by a program. -/
import Derived.Test.YtlpndemhnpajiaaSnGk
namespace Go.Proofs.Ytlpndemhnpajiaa
open Go.RowKit
set_option maxRecDepth 20000
set_option linter.all false
set_option linter.unusedVariables false
set_option linter.unusedSimpArgs false
def p13_0:=pth 0 1110100
def p13_1:=pth 0 111010010
def p13_2:=pth 0 111010011
def p13_3:=pth 0 1110100110010
def p13_4:=pth 0 1110100110011
def p13_5:=pth 0 1110100111
def p13_6:=pth 0 11100
def p13_7:=pth 0 11101
def p13_8:=pth 0 111010
noncomputable section
abbrev cx13 (M:Nat→Prop) (w0:Base):Cx:=⟨Try.prog,26,M,w0⟩
abbrev q13 (M:Nat→Prop) (w0:Base) (r:Bool):=bodyPost Try.prog Try.f13 (RetQ M w0 (fun v _=>v = .bool r))
abbrev di (p:List Nat):Kont:=.c (cat Try.f13 p)
abbrev k13_1 (M:Nat→Prop) (w0:Base) (r:Bool) (m1:Nat):Kont:=kl (cx13 M w0) (q13 M w0 r) [.b 0,di [1,1,1]] (cat Try.f13 p13_0) m1
def s13_l1 (v1 v2:List Int) (v4:Int):AS:=⟨[(0,.sl (lm (eInt .i64) v1)),(1,.sl (lm (eInt .i64) v2)),(12,iI (v1.length:Int)),(13,iI v4)],[],[],[]⟩
abbrev H13_1 (M:Nat→Prop) (w0:Base) (r:Bool) (v1 v2:List Int) (m1:Nat) (L1:Int→Option Bool):Prop:=∀ {v4:Int},L1 v4=some r→LP (cx13 M w0) (q13 M w0 r) [.b 0,di [1,1,1]] (cat Try.f13 p13_0) m1 (s13_l1 v1 v2 v4)
variable {K:Kn} {n:Nat} {M:Nat→Prop} {w0:Base} {r:Bool} {v1 v2:List Int} {v4:Int} {m1:Nat} {L1:Int→Option Bool}
theorem Bc (hK:KnOk K) (hL1:H13_1 M w0 r v1 v2 m1 L1) (h:tu K n v1 v2 L1 v4=some r):VE (cx13 M w0) (q13 M w0 r) [di p13_0,k13_1 M w0 r m1,.b 0,di [1,1,1]] .normal (s13_l1 v1 v2 v4):=by
  unfold tu at h
  refine ac (ks':=[di p13_1,di p13_2,k13_1 M w0 r m1,.b 0,di [1,1,1]]) 3 ?_
  rcases ao h with ⟨h7,h⟩ | ⟨h7,h⟩
  ·
   refine ak 14 h7 (ac (ks':=[di p13_3,di p13_4,.b 1,di p13_5,k13_1 M w0 r m1,.b 0,di [1,1,1]]) 7 (bL [0,1,5,12,13] [] [] ?_))
   obtain ⟨h8,h⟩:=aq h
   obtain ⟨h9,h⟩:=aq h
   refine bm 0 (nu 16 [.sl (lm (eInt .i64) v1),iI v4,.cptr ([iI (gD v1 v4)]),iI (gD v1 v4),.sl (lm (eInt .i64) v2),iI v4,.cptr ([iI (gD v2 v4)]),iI (gD v2 v4),.bool ((gD v1 v4) != (gD v2 v4))]) [] [] [] (am (vz 2) (d_v (bF (eInt .i64) (eInt .i64) h8 (fun _=>rfl) (fun _=>rfl)) (am (vz 3) (d_v (bF (eInt .i64) (eInt .i64) h9 (fun _=>rfl) (fun _=>rfl)) (am (vz 2) bk))))) ?_
   obtain ⟨v5,h10,h⟩:=bind_some h
   have h10:=Option.some.inj h10
   refine aU (ks':=[di p13_4,.b 1,di p13_5,k13_1 M w0 r m1,.b 0,di [1,1,1]]) 0 ⟨[(0,.sl (lm (eInt .i64) v1)),(1,.sl (lm (eInt .i64) v2)),(12,iI (v1.length:Int)),(13,iI v4),(24,.bool v5)],[],[],[]⟩ ?_ (by subst h10; kernel_rfl)
   rcases ao h with ⟨h11,h⟩ | ⟨h11,h⟩
   ·
    refine ak 24 h11 (aM 9 ?_)
    cases h
    exact bu
   ·
    exact ak 24 h11 (ag 4 (aY (hL1 h)))
  ·
   refine ak 14 h7 (aM 8 ?_)
   cases h
   exact bu
theorem CL (hK:KnOk K) (m:Nat):H13_1 M w0 r v1 v2 m (ta K n v1 v2 m):=by
  induction m with
 | zero=>intro v4 h; cases h
 | succ m ih=>intro v4 h; have h:tu K n v1 v2 (ta K n v1 v2 m) v4=some r:=h; exact aR (Bc hK ih h)
theorem w8 (hK:KnOk K) (h:tq K n v1 v2=some r):ACalls Try.prog 13 [.sl (lm (eInt .i64) v1),.sl (lm (eInt .i64) v2)] (fun v _=>v = .bool r):=by
  refine bj (cat Try.f13 []) Try.func13 Try.ntmps13 fun M w0=>(bb ⟨[(0,.sl (lm (eInt .i64) v1)),(1,.sl (lm (eInt .i64) v2))],[],[],[]⟩ ?_)
  unfold tq at h
  refine ac (ks':=[di [1,0,0],di [1,0,1],di [1,1]]) 4 (ai 1 (ap (br (eInt .i64) v1) (aO 3 1 (ap (br (eInt .i64) v2) (ae ?_)))))
  rcases ao h with ⟨h1,h⟩ | ⟨h1,h⟩
  ·
   refine ak 10 h1 (aM 5 ?_)
   cases h
   exact bu
  ·
   exact ak 10 h1 (ac (ks':=[di p13_6,di p13_7,di [1,1,1]]) 4 (ai 1 (ap (br (eInt .i64) v1) (ae (ag 1 (bE (p:=p13_8) n (CL hK n h)))))))
end
noncomputable section
variable {K:Kn} {n:Nat} {M:Nat→Prop} {w0:Base} {r v1 v2:Int} 
theorem kP (hK:KnOk K) (h:fu K n v1 v2=some r):ACalls Try.prog 34 [iI v1,iI v2] (fun v _=>v=iI r):=by
  refine bj (cat Try.f34 []) Try.func34 Try.ntmps34 fun M w0=>(bb ⟨[(0,iI v1),(1,iI v2)],[],[],[]⟩ ?_)
  unfold fu at h
  refine aM 5 ?_
  cases h
  exact bu
end
def o6:=pth 0 110011
def p96_1:=pth 0 1100100100
def p96_2:=pth 0 110010010001
def p96_3:=pth 0 11001001001
def p96_4:=pth 0 1100100100100
def p96_5:=pth 0 110010010011
def p96_6:=pth 0 110010010000
def p96_7:=pth 0 110001
def p96_8:=pth 0 11001
def p96_9:=pth 0 110010010
noncomputable section
abbrev mL (M:Nat→Prop) (w0:Base):Cx:=⟨Try.prog,53,M,w0⟩
abbrev q96 (M:Nat→Prop) (w0:Base) (r:List Int):=bodyPost Try.prog Try.f96 (RetQ M w0 (fun v s=>v = .tup []∧look 0 s.r=some ⟨3,1,lm (eInt .i64) r⟩))
abbrev lF (M:Nat→Prop) (w0:Base) (r:List Int) (m1:Nat):Kont:=kl (mL M w0) (q96 M w0 r) [.b 0] (cat Try.f96 [1,0,0]) m1
abbrev dM (p:List Nat):Kont:=.c (cat Try.f96 p)
abbrev k96_2 (M:Nat→Prop) (w0:Base) (r:List Int) (m1 m2:Nat):Kont:=kl (mL M w0) (q96 M w0 r) [.b 2,.b 1,dM o6,lF M w0 r m1,.b 0] (cat Try.f96 p96_1) m2
def s96_j1 (v2 v3:Int) (v4:Fv) (v11 v15:Int) (v16:List Int) (v18:Bool):AS:=⟨[(0,.ref 0),(1,iI v2),(2,iI v3),(3,.fn v4.id v4.caps),(8,iI v11),(9,iI v15),(34,.bool v18)],[],[(0,⟨3,1,lm (eInt .i64) v16⟩)],[0,1000000,0]⟩
def s96_l2 (v2 v3:Int) (v4:Fv) (v11 v15:Int) (v16:List Int):AS:=⟨[(0,.ref 0),(1,iI v2),(2,iI v3),(3,.fn v4.id v4.caps),(8,iI v11),(9,iI v15)],[],[(0,⟨3,1,lm (eInt .i64) v16⟩)],[0,1000000,0]⟩
def s96_l3 (v2 v3:Int) (v4:Fv) (v11:Int) (v12:List Int):AS:=⟨[(0,.ref 0),(1,iI v2),(2,iI v3),(3,.fn v4.id v4.caps),(8,iI v11)],[],[(0,⟨3,1,lm (eInt .i64) v12⟩)],[0,1000000,0]⟩
abbrev H96_1 (M:Nat→Prop) (w0:Base) (r:List Int) (v2 v3:Int) (v4:Fv) (m1:Nat) (L1:Int→(List Int)→Option (List Int)):Prop:=∀ {v11:Int} {v12:List Int},L1 v11 v12=some r→LP (mL M w0) (q96 M w0 r) [.b 0] (cat Try.f96 [1,0,0]) m1 (s96_l3 v2 v3 v4 v11 v12)
abbrev H96_2 (M:Nat→Prop) (w0:Base) (r:List Int) (v2 v3:Int) (v4:Fv) (v11:Int) (m1 m2:Nat) (L2:Int→(List Int)→Option (List Int)):Prop:=∀ {v15:Int} {v16:List Int},L2 v15 v16=some r→LP (mL M w0) (q96 M w0 r) [.b 2,.b 1,dM o6,lF M w0 r m1,.b 0] (cat Try.f96 p96_1) m2 (s96_l2 v2 v3 v4 v11 v15 v16)
variable {K:Kn} {n:Nat} {M:Nat→Prop} {w0:Base} {r v1:List Int} {v2 v3:Int} {v4:Fv} {v11:Int} {v12:List Int} {v15:Int} {v16:List Int} {v18:Bool} {m1:Nat} {L1:Int→(List Int)→Option (List Int)} {m2:Nat} {L2:Int→(List Int)→Option (List Int)}
theorem vZ (hK:KnOk K) (hL1:H96_1 M w0 r v2 v3 v4 m1 L1) (hL2:H96_2 M w0 r v2 v3 v4 v11 m1 m2 L2) (h:nW K n v2 v3 v4 v11 v15 v16 L1 L2 v18=some r):VE (mL M w0) (q96 M w0 r) [dM p96_2,dM p96_3,k96_2 M w0 r m1 m2,.b 2,.b 1,dM o6,lF M w0 r m1,.b 0] .normal (s96_j1 v2 v3 v4 v11 v15 v16 v18):=by
  unfold nW at h
  rcases ao h with ⟨h34,h⟩ | ⟨h34,h⟩
  ·
   refine ak 34 h34 (ac (ks':=[dM p96_4,.b 3,dM p96_5,k96_2 M w0 r m1 m2,.b 2,.b 1,dM o6,lF M w0 r m1,.b 0]) 4 (bL [0,1,2,3,8,9] [] [0] ?_))
   obtain ⟨h35,h⟩:=aq h
   obtain ⟨h36,h⟩:=aq h
   obtain ⟨h37,h⟩:=aq h
   obtain ⟨h38,h⟩:=aq h
   exact bm 2 (nu 37 [.ref 0,iI v15,.ref 0,iI v15,iI (w64 (v15 - 1)),.ref 0,iI v15,iI (w64 (v15 - 1)),.eptr 0 1 (((w64 (v15 - 1))).toNat) 0,iI (gD v16 ((w64 (v15 - 1)))),.ref 0,iI v15,.eptr 0 1 (v15.toNat) 0,iI (gD v16 v15),.eptr 0 1 (v15.toNat) 0,.eptr 0 1 (((w64 (v15 - 1))).toNat) 0]) [] [] [strS 0 ⟨3,1,lm (eInt .i64) (List.set v16 v15.toNat (gD v16 ((w64 (v15 - 1)))))⟩,strS 0 ⟨3,1,lm (eInt .i64) (List.set (List.set v16 v15.toNat (gD v16 ((w64 (v15 - 1))))) ((w64 (v15 - 1))).toNat (gD v16 v15))⟩] (am [.v 0 1,.v 0 1,.v 0 2,.v 0 2,.v 0 2,.v 0 1,.v 0 1,.v 0 1] (d_v (aN 0 1 (eInt .i64) (L:=v16) h35) (d_v (aJ 3 0 (eInt .i64) (eInt .i64) (aH h35).2 (fun _=>rfl)) (am [.v 0 2,.v 0 2] (aj (k_v (lo:=0) (k:=2) (bP ⟨(by kernel_rfl),(bQ (aN 0 1 (eInt .i64) (L:=v16) h36) (by kernel_rfl))⟩ (bP ⟨(by kernel_rfl),(bQ (aN 0 1 (eInt .i64) (L:=(List.set v16 v15.toNat (gD v16 ((w64 (v15 - 1)))))) h36) (by kernel_rfl))⟩ cF))) (d_v (aJ 3 0 (eInt .i64) (eInt .i64) (aH h37).2 (fun _=>rfl)) (d_v (aN 0 1 (eInt .i64) (L:=v16) h37) (aj (e_s (m:=0) (bV 0 3 1 0 (eInt .i64) (eInt .i64) (gD v16 ((w64 (v15 - 1)))) (aH h37).2 (fun _=>rfl))) (aj (e_v (lo:=1) (aN 0 1 (eInt .i64) (L:=(List.set v16 v15.toNat (gD v16 ((w64 (v15 - 1)))))) h38)) (aj (e_s (m:=1) (bV 0 3 1 0 (eInt .i64) (eInt .i64) (gD v16 v15) (aH h38).2 (fun _=>rfl))) bk)))))))))) (ag 2 (aY (hL2 h)))
  ·
   exact ak 34 h34 (ag 7 (aY (hL1 h)))
theorem zV (hK:KnOk K) (hL1:H96_1 M w0 r v2 v3 v4 m1 L1) (hL2:H96_2 M w0 r v2 v3 v4 v11 m1 m2 L2) (h:rX K n v2 v3 v4 v11 L1 L2 v15 v16=some r):VE (mL M w0) (q96 M w0 r) [dM p96_1,k96_2 M w0 r m1 m2,.b 2,.b 1,dM o6,lF M w0 r m1,.b 0] .normal (s96_l2 v2 v3 v4 v11 v15 v16):=by
  unfold rX at h
  refine ac (ks':=[dM p96_6,dM p96_2,dM p96_3,k96_2 M w0 r m1 m2,.b 2,.b 1,dM o6,lF M w0 r m1,.b 0]) 2 (bL [0,1,2,3,8,9] [] [0] ?_)
  rcases ao h with ⟨h30,h⟩ | ⟨h30,h⟩
  ·
   obtain ⟨h31,h⟩:=aq h
   obtain ⟨h32,h⟩:=aq h
   obtain ⟨v17,h33,h⟩:=bind_some h
   exact bm 0 (nu 18 [iI v15,iI v2,.bool (decide (v15>v2)),.bool true,.fn v4.id v4.caps,.ref 0,iI v15,.eptr 0 1 (v15.toNat) 0,iI (gD v16 v15),.ref 0,iI v15,iI (w64 (v15 - 1)),.eptr 0 1 (((w64 (v15 - 1))).toNat) 0,iI (gD v16 ((w64 (v15 - 1)))),iI v17,.bool (decide (v17<0)),.bool (decide (v17<0))]) [] [] [] (am (vz 3) (aj (e_b 0 21 (e:=(decide (v15>v2))) (b:=true) h30) (am (vz 3) (d_v (aN 0 1 (eInt .i64) (L:=v16) h31) (d_v (aJ 3 0 (eInt .i64) (eInt .i64) (aH h31).2 (fun _=>rfl)) (am (vz 3) (d_v (aN 0 1 (eInt .i64) (L:=v16) h32) (d_v (aJ 3 0 (eInt .i64) (eInt .i64) (aH h32).2 (fun _=>rfl)) (aj (e_c 0 1 32 (hK.eF h33).2 (hK.eF h33).1) (am (vz 2) bk)))))))))) (ag 0 (vZ hK hL1 hL2 h))
  ·
   exact bm 0 (nu 18 [iI v15,iI v2,.bool (decide (v15>v2)),.bool false,.tup [],.tup [],.tup [],.tup [],.tup [],.tup [],.tup [],.tup [],.tup [],.tup [],.tup [],.tup [],.bool false]) [] [] [] (am (vz 3) (aj (e_b 0 21 (e:=(decide (v15>v2))) (b:=false) h30) (aj (aD 0 1) (aj (aD 0 1) (aj (aD 0 1) (aj (aD 0 1) (aj (aD 0 1) (aj (aD 0 1) (aj (aD 0 1) (aj (aD 0 1) (aj (aD 0 1) (aj (aD 0 1) (aj (aD 0 1) (aj (aD 0 1) (am [.v 0 1] bk))))))))))))))) (ag 0 (vZ hK hL1 hL2 h))
theorem zS (hK:KnOk K) (hL1:H96_1 M w0 r v2 v3 v4 m1 L1) (m:Nat):H96_2 M w0 r v2 v3 v4 v11 m1 m (pI K n v2 v3 v4 v11 L1 m):=by
  induction m with
 | zero=>intro v15 v16 h; cases h
 | succ m ih=>intro v15 v16 h; have h:rX K n v2 v3 v4 v11 L1 (pI K n v2 v3 v4 v11 L1 m) v15 v16=some r:=h; exact aR (zV hK hL1 ih h)
theorem Cg (hK:KnOk K) (hL1:H96_1 M w0 r v2 v3 v4 m1 L1) (h:oX K n v2 v3 v4 L1 v11 v12=some r):VE (mL M w0) (q96 M w0 r) [dM [1,0,0],lF M w0 r m1,.b 0] .normal (s96_l3 v2 v3 v4 v11 v12):=by
  unfold oX at h
  refine ac (ks':=[dM p96_7,dM p96_8,lF M w0 r m1,.b 0]) 3 ?_
  rcases ao h with ⟨h20,h⟩ | ⟨h20,h⟩
  ·
   exact ak 14 h20 (ag 7 (bE (p:=p96_9) n (zS hK hL1 n h)))
  ·
   refine ak 14 h20 (ac (ks':=[]) 5 (pn ?_))
   cases h
   exact eH
theorem CJ (hK:KnOk K) (m:Nat):H96_1 M w0 r v2 v3 v4 m (j0 K n v2 v3 v4 m):=by
  induction m with
 | zero=>intro v11 v12 h; cases h
 | succ m ih=>intro v11 v12 h; have h:oX K n v2 v3 v4 (j0 K n v2 v3 v4 m) v11 v12=some r:=h; exact aR (Cg hK ih h)
theorem wB (hK:KnOk K) (h:oY K n v1 v2 v3 v4=some r):AIO Try.prog 96 [.ref 0,iI v2,iI v3,.fn v4.id v4.caps] 0 ⟨3,1,lm (eInt .i64) v1⟩ (fun v s=>v = .tup []∧look 0 s.r=some ⟨3,1,lm (eInt .i64) r⟩):=by
  refine mA (c:=cat Try.f96 []) Try.func96 (by kernel_rfl) _ Try.ntmps96 (of_decide_eq_true (by kernel_rfl)) fun M w0=>(bb ⟨[(0,.ref 0),(1,iI v2),(2,iI v3),(3,.fn v4.id v4.caps)],[],[(0,⟨3,1,lm (eInt .i64) v1⟩)],[0,1000000]⟩ ?_)
  unfold oY at h
  exact ag 3 (bE (p:=[1,0]) n (CJ hK n h))
end
def p114_0:=pth 0 110001
def p114_1:=pth 0 11001
def p114_2:=pth 0 1100100
def p114_3:=pth 0 110011
noncomputable section
abbrev cx114 (M:Nat→Prop) (w0:Base):Cx:=⟨Try.prog,38,M,w0⟩
abbrev q114 (M:Nat→Prop) (w0:Base) (r:List Int):=bodyPost Try.prog Try.f114 (RetQ M w0 (fun v s=>v = .tup []∧look 0 s.r=some ⟨3,1,lm (eInt .i64) r⟩))
abbrev k114_1 (M:Nat→Prop) (w0:Base) (r:List Int) (m1:Nat):Kont:=kl (cx114 M w0) (q114 M w0 r) [.b 0] (cat Try.f114 [1,0,0]) m1
def s114_l1 (v2 v3 v4 v6:Int) (v7:List Int):AS:=⟨[(0,.ref 0),(1,iI v2),(2,iI v3),(3,iI v4),(10,iI v6)],[],[(0,⟨3,1,lm (eInt .i64) v7⟩)],[0,1000000,0]⟩
abbrev H114_1 (M:Nat→Prop) (w0:Base) (r:List Int) (v2 v3 v4:Int) (m1:Nat) (L1:Int→(List Int)→Option (List Int)):Prop:=∀ {v6:Int} {v7:List Int},L1 v6 v7=some r→LP (cx114 M w0) (q114 M w0 r) [.b 0] (cat Try.f114 [1,0,0]) m1 (s114_l1 v2 v3 v4 v6 v7)
variable {K:Kn} {n:Nat} {M:Nat→Prop} {w0:Base} {r v1:List Int} {v2 v3 v4:Int} {v5:Fv} {v6:Int} {v7:List Int} {m1:Nat} {L1:Int→(List Int)→Option (List Int)}
abbrev cF114 (p:List Nat):Kont:=.c (cat Try.f114 p)
theorem Cv (hK:KnOk K) (hL1:H114_1 M w0 r v2 v3 v4 m1 L1) (h:rd K n v2 v3 v4 L1 v6 v7=some r):VE (cx114 M w0) (q114 M w0 r) [cF114 [1,0,0],k114_1 M w0 r m1,.b 0] .normal (s114_l1 v2 v3 v4 v6 v7):=by
  unfold rd at h
  refine ac (ks':=[cF114 p114_0,cF114 p114_1,k114_1 M w0 r m1,.b 0]) 3 ?_
  rcases ao h with ⟨h6,h⟩ | ⟨h6,h⟩
  ·
   refine ak 13 h6 (ac (ks':=[cF114 p114_2,.b 1,cF114 p114_3,k114_1 M w0 r m1,.b 0]) 4 (bL [0,1,2,3,10] [] [0] ?_))
   obtain ⟨h7,h⟩:=aq h
   obtain ⟨h8,h⟩:=aq h
   obtain ⟨h9,h⟩:=aq h
   obtain ⟨h10,h⟩:=aq h
   exact bm 2 (nu 16 [.ref 0,iI v2,iI v6,iI (w64 (v2+v6)),.ref 0,iI v3,iI v6,iI (w64 (v3+v6)),.ref 0,iI v3,iI v6,iI (w64 (v3+v6)),.eptr 0 1 (((w64 (v3+v6))).toNat) 0,iI (gD v7 ((w64 (v3+v6)))),.ref 0,iI v2,iI v6,iI (w64 (v2+v6)),.eptr 0 1 (((w64 (v2+v6))).toNat) 0,iI (gD v7 ((w64 (v2+v6)))),.eptr 0 1 (((w64 (v2+v6))).toNat) 0,.eptr 0 1 (((w64 (v3+v6))).toNat) 0]) [] [] [strS 0 ⟨3,1,lm (eInt .i64) (List.set v7 ((w64 (v2+v6))).toNat (gD v7 ((w64 (v3+v6)))))⟩,strS 0 ⟨3,1,lm (eInt .i64) (List.set (List.set v7 ((w64 (v2+v6))).toNat (gD v7 ((w64 (v3+v6))))) ((w64 (v3+v6))).toNat (gD v7 ((w64 (v2+v6)))))⟩] (am [.v 0 1,.v 0 1,.v 0 1,.v 0 1,.v 0 2,.v 0 2,.v 0 2,.v 0 2,.v 0 1,.v 0 1,.v 0 1,.v 0 1] (d_v (aN 0 1 (eInt .i64) (L:=v7) h7) (d_v (aJ 3 0 (eInt .i64) (eInt .i64) (aH h7).2 (fun _=>rfl)) (am [.v 0 2,.v 0 2,.v 0 2,.v 0 2] (aj (k_v (lo:=0) (k:=2) (bP ⟨(by kernel_rfl),(bQ (aN 0 1 (eInt .i64) (L:=v7) h8) (by kernel_rfl))⟩ (bP ⟨(by kernel_rfl),(bQ (aN 0 1 (eInt .i64) (L:=(List.set v7 ((w64 (v2+v6))).toNat (gD v7 ((w64 (v3+v6)))))) h8) (by kernel_rfl))⟩ cF))) (d_v (aJ 3 0 (eInt .i64) (eInt .i64) (aH h9).2 (fun _=>rfl)) (d_v (aN 0 1 (eInt .i64) (L:=v7) h9) (aj (e_s (m:=0) (bV 0 3 1 0 (eInt .i64) (eInt .i64) (gD v7 ((w64 (v3+v6)))) (aH h9).2 (fun _=>rfl))) (aj (e_v (lo:=1) (aN 0 1 (eInt .i64) (L:=(List.set v7 ((w64 (v2+v6))).toNat (gD v7 ((w64 (v3+v6)))))) h10)) (aj (e_s (m:=1) (bV 0 3 1 0 (eInt .i64) (eInt .i64) (gD v7 ((w64 (v2+v6)))) (aH h10).2 (fun _=>rfl))) bk)))))))))) (ag 2 (aY (hL1 h)))
  ·
   refine ak 13 h6 (ac (ks':=[]) 5 (pn ?_))
   cases h
   exact eH
theorem Dn (hK:KnOk K) (m:Nat):H114_1 M w0 r v2 v3 v4 m (pU K n v2 v3 v4 m):=by
  induction m with
 | zero=>intro v6 v7 h; cases h
 | succ m ih=>intro v6 v7 h; have h:rd K n v2 v3 v4 (pU K n v2 v3 v4 m) v6 v7=some r:=h; exact aR (Cv hK ih h)
theorem uO (hK:KnOk K) (h:md K n v1 v2 v3 v4 v5=some r):AIO Try.prog 114 [.ref 0,iI v2,iI v3,iI v4,.fn v5.id v5.caps] 0 ⟨3,1,lm (eInt .i64) v1⟩ (fun v s=>v = .tup []∧look 0 s.r=some ⟨3,1,lm (eInt .i64) r⟩):=by
  refine mA (c:=cat Try.f114 []) Try.func114 (by kernel_rfl) _ Try.ntmps114 (of_decide_eq_true (by kernel_rfl)) fun M w0=>(bb ⟨[(0,.ref 0),(1,iI v2),(2,iI v3),(3,iI v4),(4,.fn v5.id v5.caps)],[],[(0,⟨3,1,lm (eInt .i64) v1⟩)],[0,1000000]⟩ ?_)
  unfold md at h
  exact ag 3 (bE (p:=[1,0]) n (Dn hK n h))
end
def p105_0:=pth 0 111000
def p105_1:=pth 0 11100001
def p105_2:=pth 0 1110001
def p105_3:=pth 0 111000101
def p105_4:=pth 0 11100010100
def p105_5:=pth 0 11100010101
def p105_6:=pth 0 11100010110
def p105_7:=pth 0 11100010111
def p105_8:=pth 0 11100
noncomputable section
abbrev cx105 (M:Nat→Prop) (w0:Base):Cx:=⟨Try.prog,58,M,w0⟩
abbrev q105 (M:Nat→Prop) (w0:Base) (r:List Int):=bodyPost Try.prog Try.f105 (RetQ M w0 (fun v s=>v = .tup []∧look 0 s.r=some ⟨3,1,lm (eInt .i64) r⟩))
abbrev dK (p:List Nat):Kont:=.c (cat Try.f105 p)
abbrev nO (M:Nat→Prop) (w0:Base) (r:List Int) (m1:Nat):Kont:=kl (cx105 M w0) (q105 M w0 r) [.b 0,dK [1,1,1]] (cat Try.f105 p105_0) m1
def s105_j1 (v3:Int) (v5:Fv) (v16 v17:Int) (v18:List Int):AS:=⟨[(0,.ref 0),(2,iI v3),(4,.fn v5.id v5.caps),(10,iI v16),(11,iI v17)],[],[(0,⟨3,1,lm (eInt .i64) v18⟩)],[0,1000000,0]⟩
def s105_l2 (v3:Int) (v5:Fv) (v11 v12:Int) (v13:List Int):AS:=⟨[(0,.ref 0),(2,iI v3),(4,.fn v5.id v5.caps),(10,iI v11),(11,iI v12)],[],[(0,⟨3,1,lm (eInt .i64) v13⟩)],[0,1000000,0]⟩
abbrev H105_1 (M:Nat→Prop) (w0:Base) (r:List Int) (v3:Int) (v5:Fv) (m1:Nat) (L1:Int→Int→(List Int)→Option (List Int)):Prop:=∀ {v11 v12:Int} {v13:List Int},L1 v11 v12 v13=some r→LP (cx105 M w0) (q105 M w0 r) [.b 0,dK [1,1,1]] (cat Try.f105 p105_0) m1 (s105_l2 v3 v5 v11 v12 v13)
variable {K:Kn} {n:Nat} {M:Nat→Prop} {w0:Base} {r v1:List Int} {v2 v3 v4:Int} {v5:Fv} {v11 v12:Int} {v13:List Int} {v16 v17:Int} {v18:List Int} {m1:Nat} {L1:Int→Int→(List Int)→Option (List Int)}
theorem vK (hK:KnOk K) (hL1:H105_1 M w0 r v3 v5 m1 L1) (h:pH K n v3 v5 L1 v16 v17 v18=some r):VE (cx105 M w0) (q105 M w0 r) [.b 1,nO M w0 r m1,.b 0,dK [1,1,1]] .normal (s105_j1 v3 v5 v16 v17 v18):=by
  unfold pH at h
  exact ag 1 (aY (hL1 h))
theorem zD (hK:KnOk K) (hL1:H105_1 M w0 r v3 v5 m1 L1) (h:sd K n v3 v5 L1 v11 v12 v13=some r):VE (cx105 M w0) (q105 M w0 r) [dK p105_0,nO M w0 r m1,.b 0,dK [1,1,1]] .normal (s105_l2 v3 v5 v11 v12 v13):=by
  unfold sd at h
  refine ac (ks':=[dK p105_1,dK p105_2,nO M w0 r m1,.b 0,dK [1,1,1]]) 3 ?_
  rcases ao h with ⟨h5,h⟩ | ⟨h5,h⟩
  ·
   refine ak 20 h5 (ac (ks':=[dK p105_3,.b 1,nO M w0 r m1,.b 0,dK [1,1,1]]) 5 ?_)
   rcases ao h with ⟨h6,h⟩ | ⟨h6,h⟩
   ·
    refine ak 23 h6 (ac (ks':=[dK p105_4,dK p105_5,.b 1,nO M w0 r m1,.b 0,dK [1,1,1]]) 2 (ai 7 ?_))
    obtain ⟨v14,h7,h⟩:=bind_some h
    exact eP 0 0 (uO hK h7) (ae (ag 1 (vK hK hL1 h)))
   ·
    refine ak 23 h6 (ac (ks':=[dK p105_6,dK p105_7,.b 1,nO M w0 r m1,.b 0,dK [1,1,1]]) 2 (ai 11 ?_))
    obtain ⟨v15,h8,h⟩:=bind_some h
    exact eP 0 0 (uO hK h8) (ae (ag 1 (vK hK hL1 h)))
  ·
   refine ak 20 h5 (ac (ks':=[dK [1,1,1]]) 5 (ai 7 ?_))
   obtain ⟨v19,h9,h⟩:=bind_some h
   refine eP 0 0 (uO hK h9) (ae (pn ?_))
   cases h
   exact eH
theorem CB (hK:KnOk K) (m:Nat):H105_1 M w0 r v3 v5 m (oF K n v3 v5 m):=by
  induction m with
 | zero=>intro v11 v12 v13 h; cases h
 | succ m ih=>intro v11 v12 v13 h; have h:sd K n v3 v5 (oF K n v3 v5 m) v11 v12 v13=some r:=h; exact aR (zD hK ih h)
theorem AB (hK:KnOk K) (h:rI K n v1 v2 v3 v4 v5=some r):AIO Try.prog 105 [.ref 0,iI v2,iI v3,iI v4,.fn v5.id v5.caps] 0 ⟨3,1,lm (eInt .i64) v1⟩ (fun v s=>v = .tup []∧look 0 s.r=some ⟨3,1,lm (eInt .i64) r⟩):=by
  refine mA (c:=cat Try.f105 []) Try.func105 (by kernel_rfl) _ Try.ntmps105 (of_decide_eq_true (by kernel_rfl)) fun M w0=>(bb ⟨[(0,.ref 0),(1,iI v2),(2,iI v3),(3,iI v4),(4,.fn v5.id v5.caps)],[],[(0,⟨3,1,lm (eInt .i64) v1⟩)],[0,1000000]⟩ ?_)
  unfold rI at h
  exact ag 6 (bE (p:=p105_8) n (CB hK n h))
end
def p97_0:=pth 0 10101111
def p97_1:=pth 0 10101110100
def pd:=pth 0 1010111
def p97_3:=pth 0 101011000
def p97_4:=pth 0 110101111
def p97_5:=pth 0 110101110100
def n6:=pth 0 11010111
def p97_7:=pth 0 1101011000
def o0:=pth 8 1
def p97_9:=pth 7 1000
def p97_10:=pth 0 1010111010001
def p97_11:=pth 0 101011101001
def p97_12:=pth 0 10101110100100
def p97_13:=pth 0 1010111010011
def p97_14:=pth 0 10101100001
def p97_15:=pth 0 1010110001
def p97_16:=pth 0 1010110001010
def p97_17:=pth 0 1010110001011
def p97_18:=pth 0 1010111010
def p97_19:=pth 0 11010111010001
def p97_20:=pth 0 1101011101001
def p97_21:=pth 0 110101110100100
def p97_22:=pth 0 11010111010011
def p97_23:=pth 0 110101100001
def p97_24:=pth 0 11010110001
def p97_25:=pth 0 11010110001010
def p97_26:=pth 0 11010110001011
def p97_27:=pth 0 11010111010
def p97_28:=pth 12 1
def p97_29:=pth 12 10
def p97_30:=pth 11 1
def p97_31:=pth 11 10
def p97_32:=pth 10 101
def p97_33:=pth 10 1010
def p97_34:=pth 10 1
def p97_35:=pth 10 100
def p97_36:=pth 9 101
def p97_37:=pth 9 1010
def p97_38:=pth 7 100001
def p97_39:=pth 7 10001
def p97_40:=pth 7 10001010
def p97_41:=pth 7 10001011
def p97_42:=pth 9 100
def p97_43:=pth 6 1
def p97_44:=pth 7 100
def p97_45:=pth 0 10101100
def p97_46:=pth 0 110101100
def p97_47:=pth 5 101
noncomputable section
abbrev cS (M:Nat→Prop) (w0:Base):Cx:=⟨Try.prog,220,M,w0⟩
abbrev q97 (M:Nat→Prop) (w0:Base) (r:List Int):=bodyPost Try.prog Try.f97 (RetQ M w0 (fun v s=>v = .tup []∧look 0 s.r=some ⟨3,1,lm (eInt .i64) r⟩))
abbrev ba (p:List Nat):Kont:=.c (cat Try.f97 p)
abbrev k97_2 (M:Nat→Prop) (w0:Base) (r:List Int) (m2:Nat):Kont:=kl (cS M w0) (q97 M w0 r) [.b 2,ba p97_0,ba [1]] (cat Try.f97 p97_1) m2
abbrev k97_1 (M:Nat→Prop) (w0:Base) (r:List Int) (m1:Nat):Kont:=kl (cS M w0) (q97 M w0 r) [.b 0,ba pd,ba [1]] (cat Try.f97 p97_3) m1
abbrev k97_4 (M:Nat→Prop) (w0:Base) (r:List Int) (m4:Nat):Kont:=kl (cS M w0) (q97 M w0 r) [.b 6,ba p97_4,ba [1,1]] (cat Try.f97 p97_5) m4
abbrev k97_3 (M:Nat→Prop) (w0:Base) (r:List Int) (m3:Nat):Kont:=kl (cS M w0) (q97 M w0 r) [.b 4,ba n6,ba [1,1]] (cat Try.f97 p97_7) m3
abbrev k97_5 (M:Nat→Prop) (w0:Base) (r:List Int) (m5:Nat):Kont:=kl (cS M w0) (q97 M w0 r) [.b 8,ba o0] (cat Try.f97 p97_9) m5
def s97_j1 (v1:List Int) (v2:Int) (v5:Fv) (v14 v15:Int):AS:=⟨[(0,.ref 0),(1,iI v2),(4,.fn v5.id v5.caps),(10,iI v14),(11,iI v15)],[],[(0,⟨3,1,lm (eInt .i64) v1⟩)],[0,1000000,0]⟩
def s97_l3 (v10 v16:Int) (v17:List Int):AS:=⟨[(0,.ref 0),(10,iI v10),(13,iI v16)],[],[(0,⟨3,1,lm (eInt .i64) v17⟩)],[0,1000000,0]⟩
def s97_l2 (v1:List Int) (v2:Int) (v5:Fv) (v10 v11:Int):AS:=⟨[(0,.ref 0),(1,iI v2),(4,.fn v5.id v5.caps),(10,iI v10),(11,iI v11)],[],[(0,⟨3,1,lm (eInt .i64) v1⟩)],[0,1000000,0]⟩
def s97_j4 (v1:List Int) (v3:Int) (v5:Fv) (v26 v27:Int):AS:=⟨[(0,.ref 0),(2,iI v3),(4,.fn v5.id v5.caps),(14,iI v26),(15,iI v27)],[],[(0,⟨3,1,lm (eInt .i64) v1⟩)],[0,1000000,0]⟩
def s97_l6 (v22 v28:Int) (v29:List Int):AS:=⟨[(0,.ref 0),(14,iI v22),(17,iI v28)],[],[(0,⟨3,1,lm (eInt .i64) v29⟩)],[0,1000000,0]⟩
def s97_l5 (v1:List Int) (v3:Int) (v5:Fv) (v22 v23:Int):AS:=⟨[(0,.ref 0),(2,iI v3),(4,.fn v5.id v5.caps),(14,iI v22),(15,iI v23)],[],[(0,⟨3,1,lm (eInt .i64) v1⟩)],[0,1000000,0]⟩
def s97_j8 (v1:List Int) (v2 v3 v4:Int) (v5:Fv) (v30 v31 v43 v44:Int):AS:=⟨[(0,.ref 0),(1,iI v2),(2,iI v3),(3,iI v4),(4,.fn v5.id v5.caps),(18,iI v30),(19,iI v31),(20,iI v43),(21,iI v44),(22,iI (w64 (v31 - 1)))],[],[(0,⟨3,1,lm (eInt .i64) v1⟩)],[0,1000000,0]⟩
def s97_j15 (v53:List Int):AS:=⟨[],[],[(0,⟨3,1,lm (eInt .i64) v53⟩)],[0,1000000,0]⟩
def s97_j14 (v4:Int) (v5:Fv) (v30 v31 v39:Int) (v50:List Int) (v51:Bool):AS:=⟨[(0,.ref 0),(3,iI v4),(4,.fn v5.id v5.caps),(18,iI v30),(24,iI (w64 (v31 - v39))),(213,.bool v51)],[],[(0,⟨3,1,lm (eInt .i64) v50⟩)],[0,1000000,0]⟩
def s97_j13 (v4:Int) (v5:Fv) (v30 v31 v39:Int) (v50:List Int):AS:=⟨[(0,.ref 0),(3,iI v4),(4,.fn v5.id v5.caps),(18,iI v30),(24,iI (w64 (v31 - v39)))],[],[(0,⟨3,1,lm (eInt .i64) v50⟩)],[0,1000000,0]⟩
def s97_j12 (v2 v4:Int) (v5:Fv) (v30 v31 v39:Int) (v47:List Int) (v48:Bool):AS:=⟨[(0,.ref 0),(1,iI v2),(3,iI v4),(4,.fn v5.id v5.caps),(18,iI v30),(20,iI v39),(24,iI (w64 (v31 - v39))),(199,.bool v48)],[],[(0,⟨3,1,lm (eInt .i64) v47⟩)],[0,1000000,0]⟩
def s97_j11 (v2 v4:Int) (v5:Fv) (v30 v31 v39:Int) (v47:List Int):AS:=⟨[(0,.ref 0),(1,iI v2),(3,iI v4),(4,.fn v5.id v5.caps),(18,iI v30),(20,iI v39),(24,iI (w64 (v31 - v39)))],[],[(0,⟨3,1,lm (eInt .i64) v47⟩)],[0,1000000,0]⟩
def s97_j10 (v1:List Int) (v2 v3 v4:Int) (v5:Fv) (v30 v31 v39:Int) (v45:Bool):AS:=⟨[(0,.ref 0),(1,iI v2),(2,iI v3),(3,iI v4),(4,.fn v5.id v5.caps),(18,iI v30),(20,iI v39),(24,iI (w64 (v31 - v39))),(185,.bool v45)],[],[(0,⟨3,1,lm (eInt .i64) v1⟩)],[0,1000000,0]⟩
def s97_l9 (v1:List Int) (v2 v3 v4:Int) (v5:Fv) (v30 v31 v39 v40:Int):AS:=⟨[(0,.ref 0),(1,iI v2),(2,iI v3),(3,iI v4),(4,.fn v5.id v5.caps),(18,iI v30),(19,iI v31),(20,iI v39),(21,iI v40),(22,iI (w64 (v31 - 1)))],[],[(0,⟨3,1,lm (eInt .i64) v1⟩)],[0,1000000,0]⟩
def s97_j7 (v1:List Int) (v2 v3 v4:Int) (v5:Fv) (v30 v31 v33 v34:Int):AS:=⟨[(0,.ref 0),(1,iI v2),(2,iI v3),(3,iI v4),(4,.fn v5.id v5.caps),(18,iI v30),(19,iI v31),(20,iI v33),(21,iI v34)],[],[(0,⟨3,1,lm (eInt .i64) v1⟩)],[0,1000000,0]⟩
abbrev H97_1 (M:Nat→Prop) (w0:Base) (r v1:List Int) (v2:Int) (v5:Fv) (m1:Nat) (L1:Int→Int→Option (List Int)):Prop:=∀ {v10 v11:Int},L1 v10 v11=some r→LP (cS M w0) (q97 M w0 r) [.b 0,ba pd,ba [1]] (cat Try.f97 p97_3) m1 (s97_l2 v1 v2 v5 v10 v11)
abbrev H97_2 (M:Nat→Prop) (w0:Base) (r:List Int) (v10:Int) (m2:Nat) (L2:Int→(List Int)→Option (List Int)):Prop:=∀ {v16:Int} {v17:List Int},L2 v16 v17=some r→LP (cS M w0) (q97 M w0 r) [.b 2,ba p97_0,ba [1]] (cat Try.f97 p97_1) m2 (s97_l3 v10 v16 v17)
abbrev H97_3 (M:Nat→Prop) (w0:Base) (r v1:List Int) (v3:Int) (v5:Fv) (m3:Nat) (L3:Int→Int→Option (List Int)):Prop:=∀ {v22 v23:Int},L3 v22 v23=some r→LP (cS M w0) (q97 M w0 r) [.b 4,ba n6,ba [1,1]] (cat Try.f97 p97_7) m3 (s97_l5 v1 v3 v5 v22 v23)
abbrev H97_4 (M:Nat→Prop) (w0:Base) (r:List Int) (v22:Int) (m4:Nat) (L4:Int→(List Int)→Option (List Int)):Prop:=∀ {v28:Int} {v29:List Int},L4 v28 v29=some r→LP (cS M w0) (q97 M w0 r) [.b 6,ba p97_4,ba [1,1]] (cat Try.f97 p97_5) m4 (s97_l6 v22 v28 v29)
abbrev H97_5 (M:Nat→Prop) (w0:Base) (r v1:List Int) (v2 v3 v4:Int) (v5:Fv) (v30 v31:Int) (m5:Nat) (L5:Int→Int→Option (List Int)):Prop:=∀ {v39 v40:Int},L5 v39 v40=some r→LP (cS M w0) (q97 M w0 r) [.b 8,ba o0] (cat Try.f97 p97_9) m5 (s97_l9 v1 v2 v3 v4 v5 v30 v31 v39 v40)
variable {K:Kn} {n:Nat} {M:Nat→Prop} {w0:Base} {r v1:List Int} {v2 v3 v4:Int} {v5:Fv} {v10 v11 v14 v15 v16:Int} {v17:List Int} {v22 v23 v26 v27 v28:Int} {v29:List Int} {v30 v31 v33 v34 v39 v40 v43 v44:Int} {v45:Bool} {v47:List Int} {v48:Bool} {v50:List Int} {v51:Bool} {v53:List Int} {m1:Nat} {L1:Int→Int→Option (List Int)} {m2:Nat} {L2:Int→(List Int)→Option (List Int)} {m3:Nat} {L3:Int→Int→Option (List Int)} {m4:Nat} {L4:Int→(List Int)→Option (List Int)} {m5:Nat} {L5:Int→Int→Option (List Int)}
theorem vC (hK:KnOk K) (hL1:H97_1 M w0 r v1 v2 v5 m1 L1) (h:rx K n v1 v2 v5 L1 v14 v15=some r):VE (cS M w0) (q97 M w0 r) [.b 1,k97_1 M w0 r m1,.b 0,ba pd,ba [1]] .normal (s97_j1 v1 v2 v5 v14 v15):=by
  unfold rx at h
  exact ag 1 (aY (hL1 h))
theorem yW (hK:KnOk K) (hL2:H97_2 M w0 r v10 m2 L2) (h:rJ K n v10 L2 v16 v17=some r):VE (cS M w0) (q97 M w0 r) [ba p97_1,k97_2 M w0 r m2,.b 2,ba p97_0,ba [1]] .normal (s97_l3 v10 v16 v17):=by
  unfold rJ at h
  refine ac (ks':=[ba p97_10,ba p97_11,k97_2 M w0 r m2,.b 2,ba p97_0,ba [1]]) 3 ?_
  rcases ao h with ⟨h19,h⟩ | ⟨h19,h⟩
  ·
   refine ak 58 h19 (ac (ks':=[ba p97_12,.b 3,ba p97_13,k97_2 M w0 r m2,.b 2,ba p97_0,ba [1]]) 4 (bL [0,10,13] [] [0] ?_))
   obtain ⟨h20,h⟩:=aq h
   obtain ⟨h21,h⟩:=aq h
   obtain ⟨h22,h⟩:=aq h
   obtain ⟨h23,h⟩:=aq h
   exact bm 2 (nu 61 [.ref 0,iI v16,.ref 0,iI v16,iI (w64 (v16+1)),.ref 0,iI v16,iI (w64 (v16+1)),.eptr 0 1 (((w64 (v16+1))).toNat) 0,iI (gD v17 ((w64 (v16+1)))),.ref 0,iI v16,.eptr 0 1 (v16.toNat) 0,iI (gD v17 v16),.eptr 0 1 (v16.toNat) 0,.eptr 0 1 (((w64 (v16+1))).toNat) 0]) [] [] [strS 0 ⟨3,1,lm (eInt .i64) (List.set v17 v16.toNat (gD v17 ((w64 (v16+1)))))⟩,strS 0 ⟨3,1,lm (eInt .i64) (List.set (List.set v17 v16.toNat (gD v17 ((w64 (v16+1))))) ((w64 (v16+1))).toNat (gD v17 v16))⟩] (am [.v 0 1,.v 0 1,.v 0 2,.v 0 2,.v 0 2,.v 0 1,.v 0 1,.v 0 1] (d_v (aN 0 1 (eInt .i64) (L:=v17) h20) (d_v (aJ 3 0 (eInt .i64) (eInt .i64) (aH h20).2 (fun _=>rfl)) (am [.v 0 2,.v 0 2] (aj (k_v (lo:=0) (k:=2) (bP ⟨(by kernel_rfl),(bQ (aN 0 1 (eInt .i64) (L:=v17) h21) (by kernel_rfl))⟩ (bP ⟨(by kernel_rfl),(bQ (aN 0 1 (eInt .i64) (L:=(List.set v17 v16.toNat (gD v17 ((w64 (v16+1)))))) h21) (by kernel_rfl))⟩ cF))) (d_v (aJ 3 0 (eInt .i64) (eInt .i64) (aH h22).2 (fun _=>rfl)) (d_v (aN 0 1 (eInt .i64) (L:=v17) h22) (aj (e_s (m:=0) (bV 0 3 1 0 (eInt .i64) (eInt .i64) (gD v17 ((w64 (v16+1)))) (aH h22).2 (fun _=>rfl))) (aj (e_v (lo:=1) (aN 0 1 (eInt .i64) (L:=(List.set v17 v16.toNat (gD v17 ((w64 (v16+1)))))) h23)) (aj (e_s (m:=1) (bV 0 3 1 0 (eInt .i64) (eInt .i64) (gD v17 v16) (aH h23).2 (fun _=>rfl))) bk)))))))))) (ag 2 (aY (hL2 h)))
  ·
   refine ak 58 h19 (aM 7 ?_)
   cases h
   exact eH
theorem zZ (hK:KnOk K) (m:Nat):H97_2 M w0 r v10 m (nC K n v10 m):=by
  induction m with
 | zero=>intro v16 v17 h; cases h
 | succ m ih=>intro v16 v17 h; have h:rJ K n v10 (nC K n v10 m) v16 v17=some r:=h; exact aR (yW hK ih h)
theorem zK (hK:KnOk K) (hL1:H97_1 M w0 r v1 v2 v5 m1 L1) (h:rS K n v1 v2 v5 L1 v10 v11=some r):VE (cS M w0) (q97 M w0 r) [ba p97_3,k97_1 M w0 r m1,.b 0,ba pd,ba [1]] .normal (s97_l2 v1 v2 v5 v10 v11):=by
  unfold rS at h
  refine ac (ks':=[ba p97_14,ba p97_15,k97_1 M w0 r m1,.b 0,ba pd,ba [1]]) 3 ?_
  rcases ao h with ⟨h8,h⟩ | ⟨h8,h⟩
  ·
   refine ak 33 h8 ?_
   obtain ⟨v12,h9,h⟩:=bind_some h
   have h9:=Option.some.inj h9
   refine aU (ks':=[ba p97_16,ba p97_17,.b 1,k97_1 M w0 r m1,.b 0,ba pd,ba [1]]) 6 ⟨[(0,.ref 0),(1,iI v2),(4,.fn v5.id v5.caps),(10,iI v10),(11,iI v11),(12,iI v12)],[],[(0,⟨3,1,lm (eInt .i64) v1⟩)],[0,1000000,0]⟩ ?_ (by subst h9; kernel_rfl)
   obtain ⟨h10,h⟩:=aq h
   obtain ⟨h11,h⟩:=aq h
   obtain ⟨v13,h12,h⟩:=bind_some h
   refine bm 0 (nu 40 [.fn v5.id v5.caps,.ref 0,iI v12,.eptr 0 1 (v12.toNat) 0,iI (gD v1 v12),.ref 0,iI v2,.eptr 0 1 (v2.toNat) 0,iI (gD v1 v2),iI v13,.bool (decide (v13<0))]) [] [] [] (am (vz 3) (d_v (aN 0 1 (eInt .i64) (L:=v1) h10) (d_v (aJ 3 0 (eInt .i64) (eInt .i64) (aH h10).2 (fun _=>rfl)) (am (vz 2) (d_v (aN 0 1 (eInt .i64) (L:=v1) h11) (d_v (aJ 3 0 (eInt .i64) (eInt .i64) (aH h11).2 (fun _=>rfl)) (aj (e_c 0 1 49 (hK.eF h12).2 (hK.eF h12).1) (am [.v 0 1] bk)))))))) ?_
   rcases ao h with ⟨h13,h⟩ | ⟨h13,h⟩
   ·
    exact ak 50 h13 (ag 2 (vC hK hL1 h))
   ·
    exact ak 50 h13 (ag 2 (vC hK hL1 h))
  ·
   exact ak 33 h8 (ag 9 (bE (p:=p97_18) n (zZ hK n h)))
theorem AF (hK:KnOk K) (m:Nat):H97_1 M w0 r v1 v2 v5 m (nI K n v1 v2 v5 m):=by
  induction m with
 | zero=>intro v10 v11 h; cases h
 | succ m ih=>intro v10 v11 h; have h:rS K n v1 v2 v5 (nI K n v1 v2 v5 m) v10 v11=some r:=h; exact aR (zK hK ih h)
theorem wh (hK:KnOk K) (hL3:H97_3 M w0 r v1 v3 v5 m3 L3) (h:qI K n v1 v3 v5 L3 v26 v27=some r):VE (cS M w0) (q97 M w0 r) [.b 5,k97_3 M w0 r m3,.b 4,ba n6,ba [1,1]] .normal (s97_j4 v1 v3 v5 v26 v27):=by
  unfold qI at h
  exact ag 1 (aY (hL3 h))
theorem AP (hK:KnOk K) (hL4:H97_4 M w0 r v22 m4 L4) (h:sg K n v22 L4 v28 v29=some r):VE (cS M w0) (q97 M w0 r) [ba p97_5,k97_4 M w0 r m4,.b 6,ba p97_4,ba [1,1]] .normal (s97_l6 v22 v28 v29):=by
  unfold sg at h
  refine ac (ks':=[ba p97_19,ba p97_20,k97_4 M w0 r m4,.b 6,ba p97_4,ba [1,1]]) 3 ?_
  rcases ao h with ⟨h42,h⟩ | ⟨h42,h⟩
  ·
   refine ak 110 h42 (ac (ks':=[ba p97_21,.b 7,ba p97_22,k97_4 M w0 r m4,.b 6,ba p97_4,ba [1,1]]) 4 (bL [0,14,17] [] [0] ?_))
   obtain ⟨h43,h⟩:=aq h
   obtain ⟨h44,h⟩:=aq h
   obtain ⟨h45,h⟩:=aq h
   obtain ⟨h46,h⟩:=aq h
   exact bm 2 (nu 113 [.ref 0,iI v28,.ref 0,iI v28,iI (w64 (v28 - 1)),.ref 0,iI v28,iI (w64 (v28 - 1)),.eptr 0 1 (((w64 (v28 - 1))).toNat) 0,iI (gD v29 ((w64 (v28 - 1)))),.ref 0,iI v28,.eptr 0 1 (v28.toNat) 0,iI (gD v29 v28),.eptr 0 1 (v28.toNat) 0,.eptr 0 1 (((w64 (v28 - 1))).toNat) 0]) [] [] [strS 0 ⟨3,1,lm (eInt .i64) (List.set v29 v28.toNat (gD v29 ((w64 (v28 - 1)))))⟩,strS 0 ⟨3,1,lm (eInt .i64) (List.set (List.set v29 v28.toNat (gD v29 ((w64 (v28 - 1))))) ((w64 (v28 - 1))).toNat (gD v29 v28))⟩] (am [.v 0 1,.v 0 1,.v 0 2,.v 0 2,.v 0 2,.v 0 1,.v 0 1,.v 0 1] (d_v (aN 0 1 (eInt .i64) (L:=v29) h43) (d_v (aJ 3 0 (eInt .i64) (eInt .i64) (aH h43).2 (fun _=>rfl)) (am [.v 0 2,.v 0 2] (aj (k_v (lo:=0) (k:=2) (bP ⟨(by kernel_rfl),(bQ (aN 0 1 (eInt .i64) (L:=v29) h44) (by kernel_rfl))⟩ (bP ⟨(by kernel_rfl),(bQ (aN 0 1 (eInt .i64) (L:=(List.set v29 v28.toNat (gD v29 ((w64 (v28 - 1)))))) h44) (by kernel_rfl))⟩ cF))) (d_v (aJ 3 0 (eInt .i64) (eInt .i64) (aH h45).2 (fun _=>rfl)) (d_v (aN 0 1 (eInt .i64) (L:=v29) h45) (aj (e_s (m:=0) (bV 0 3 1 0 (eInt .i64) (eInt .i64) (gD v29 ((w64 (v28 - 1)))) (aH h45).2 (fun _=>rfl))) (aj (e_v (lo:=1) (aN 0 1 (eInt .i64) (L:=(List.set v29 v28.toNat (gD v29 ((w64 (v28 - 1)))))) h46)) (aj (e_s (m:=1) (bV 0 3 1 0 (eInt .i64) (eInt .i64) (gD v29 v28) (aH h46).2 (fun _=>rfl))) bk)))))))))) (ag 2 (aY (hL4 h)))
  ·
   refine ak 110 h42 (aM 7 ?_)
   cases h
   exact eH
theorem y4 (hK:KnOk K) (m:Nat):H97_4 M w0 r v22 m (nf K n v22 m):=by
  induction m with
 | zero=>intro v28 v29 h; cases h
 | succ m ih=>intro v28 v29 h; have h:sg K n v22 (nf K n v22 m) v28 v29=some r:=h; exact aR (AP hK ih h)
theorem zi (hK:KnOk K) (hL3:H97_3 M w0 r v1 v3 v5 m3 L3) (h:rO K n v1 v3 v5 L3 v22 v23=some r):VE (cS M w0) (q97 M w0 r) [ba p97_7,k97_3 M w0 r m3,.b 4,ba n6,ba [1,1]] .normal (s97_l5 v1 v3 v5 v22 v23):=by
  unfold rO at h
  refine ac (ks':=[ba p97_23,ba p97_24,k97_3 M w0 r m3,.b 4,ba n6,ba [1,1]]) 3 ?_
  rcases ao h with ⟨h31,h⟩ | ⟨h31,h⟩
  ·
   refine ak 85 h31 ?_
   obtain ⟨v24,h32,h⟩:=bind_some h
   have h32:=Option.some.inj h32
   refine aU (ks':=[ba p97_25,ba p97_26,.b 5,k97_3 M w0 r m3,.b 4,ba n6,ba [1,1]]) 6 ⟨[(0,.ref 0),(2,iI v3),(4,.fn v5.id v5.caps),(14,iI v22),(15,iI v23),(16,iI v24)],[],[(0,⟨3,1,lm (eInt .i64) v1⟩)],[0,1000000,0]⟩ ?_ (by subst h32; kernel_rfl)
   obtain ⟨h33,h⟩:=aq h
   obtain ⟨h34,h⟩:=aq h
   obtain ⟨v25,h35,h⟩:=bind_some h
   refine bm 0 (nu 92 [.fn v5.id v5.caps,.ref 0,iI v3,.eptr 0 1 (v3.toNat) 0,iI (gD v1 v3),.ref 0,iI v24,.eptr 0 1 (v24.toNat) 0,iI (gD v1 v24),iI v25,.bool (decide (v25<0)),.bool (!(decide (v25<0)))]) [] [] [] (am (vz 3) (d_v (aN 0 1 (eInt .i64) (L:=v1) h33) (d_v (aJ 3 0 (eInt .i64) (eInt .i64) (aH h33).2 (fun _=>rfl)) (am (vz 2) (d_v (aN 0 1 (eInt .i64) (L:=v1) h34) (d_v (aJ 3 0 (eInt .i64) (eInt .i64) (aH h34).2 (fun _=>rfl)) (aj (e_c 0 1 101 (hK.eF h35).2 (hK.eF h35).1) (am (vz 2) bk)))))))) ?_
   rcases ao h with ⟨h36,h⟩ | ⟨h36,h⟩
   ·
    exact ak 103 h36 (ag 2 (wh hK hL3 h))
   ·
    exact ak 103 h36 (ag 2 (wh hK hL3 h))
  ·
   exact ak 85 h31 (ag 9 (bE (p:=p97_27) n (y4 hK n h)))
theorem Ce (hK:KnOk K) (m:Nat):H97_3 M w0 r v1 v3 v5 m (nT K n v1 v3 v5 m):=by
  induction m with
 | zero=>intro v22 v23 h; cases h
 | succ m ih=>intro v22 v23 h; have h:rO K n v1 v3 v5 (nT K n v1 v3 v5 m) v22 v23=some r:=h; exact aR (zi hK ih h)
theorem vB (hK:KnOk K) (hL5:H97_5 M w0 r v1 v2 v3 v4 v5 v30 v31 m5 L5) (h:so K n v1 v2 v3 v4 v5 v30 v31 L5 v43 v44=some r):VE (cS M w0) (q97 M w0 r) [.b 9,k97_5 M w0 r m5,.b 8,ba o0] .normal (s97_j8 v1 v2 v3 v4 v5 v30 v31 v43 v44):=by
  unfold so at h
  exact ag 1 (aY (hL5 h))
theorem yE (hK:KnOk K) (h:rc K n v53=some r):VE (cS M w0) (q97 M w0 r) [] .normal (s97_j15 v53):=by
  unfold rc at h
  refine pn ?_
  cases h
  exact eH
theorem xq (hK:KnOk K) (h:py K n v4 v5 v30 v31 v39 v50 v51=some r):VE (cS M w0) (q97 M w0 r) [ba p97_28] .normal (s97_j14 v4 v5 v30 v31 v39 v50 v51):=by
  unfold py at h
  rcases ao h with ⟨h70,h⟩ | ⟨h70,h⟩
  ·
   refine ak 213 h70 (ac (ks':=[ba p97_29]) 1 (ai 5 ?_))
   obtain ⟨v52,h71,h⟩:=bind_some h
   exact eP 0 0 (hK.ik h71) (ae (ag 0 (yE hK h)))
  ·
   exact ak 213 h70 (ag 2 (yE hK h))
theorem wR (hK:KnOk K) (h:jh K n v4 v5 v30 v31 v39 v50=some r):VE (cS M w0) (q97 M w0 r) [ba p97_30] .normal (s97_j13 v4 v5 v30 v31 v39 v50):=by
  unfold jh at h
  refine ac (ks':=[ba p97_31,ba p97_28]) 1 (ai 4 ?_)
  rcases ao h with ⟨h69,h⟩ | ⟨h69,h⟩
  ·
   exact aK 209 h69 (ae (ag 0 (xq hK h)))
  ·
   exact aK 209 h69 (ae (ag 0 (xq hK h)))
theorem xp (hK:KnOk K) (h:qd K n v2 v4 v5 v30 v31 v39 v47 v48=some r):VE (cS M w0) (q97 M w0 r) [ba p97_32,ba p97_30] .normal (s97_j12 v2 v4 v5 v30 v31 v39 v47 v48):=by
  unfold qd at h
  rcases ao h with ⟨h67,h⟩ | ⟨h67,h⟩
  ·
   refine ak 199 h67 (ac (ks':=[ba p97_33,ba p97_30]) 1 (ai 5 ?_))
   obtain ⟨v49,h68,h⟩:=bind_some h
   exact eP 0 0 (hK.ik h68) (ae (ag 0 (wR hK h)))
  ·
   exact ak 199 h67 (ag 2 (wR hK h))
theorem yj (hK:KnOk K) (h:mo K n v2 v4 v5 v30 v31 v39 v47=some r):VE (cS M w0) (q97 M w0 r) [ba p97_34] .normal (s97_j11 v2 v4 v5 v30 v31 v39 v47):=by
  unfold mo at h
  refine ac (ks':=[ba p97_35,ba p97_32,ba p97_30]) 2 (ai 4 ?_)
  rcases ao h with ⟨h66,h⟩ | ⟨h66,h⟩
  ·
   exact aK 195 h66 (ae (ag 0 (xp hK h)))
  ·
   exact aK 195 h66 (ae (ag 0 (xp hK h)))
theorem xv (hK:KnOk K) (h:fN K n v1 v2 v3 v4 v5 v30 v31 v39 v45=some r):VE (cS M w0) (q97 M w0 r) [ba p97_36,ba p97_34] .normal (s97_j10 v1 v2 v3 v4 v5 v30 v31 v39 v45):=by
  unfold fN at h
  rcases ao h with ⟨h64,h⟩ | ⟨h64,h⟩
  ·
   refine ak 185 h64 (ac (ks':=[ba p97_37,ba p97_34]) 1 (ai 5 ?_))
   obtain ⟨v46,h65,h⟩:=bind_some h
   exact eP 0 0 (AB hK h65) (ae (ag 0 (yj hK h)))
  ·
   exact ak 185 h64 (ag 2 (yj hK h))
theorem CW (hK:KnOk K) (hL5:H97_5 M w0 r v1 v2 v3 v4 v5 v30 v31 m5 L5) (h:rh K n v1 v2 v3 v4 v5 v30 v31 L5 v39 v40=some r):VE (cS M w0) (q97 M w0 r) [ba p97_9,k97_5 M w0 r m5,.b 8,ba o0] .normal (s97_l9 v1 v2 v3 v4 v5 v30 v31 v39 v40):=by
  unfold rh at h
  refine ac (ks':=[ba p97_38,ba p97_39,k97_5 M w0 r m5,.b 8,ba o0]) 3 ?_
  rcases ao h with ⟨h57,h⟩ | ⟨h57,h⟩
  ·
   refine ak 151 h57 ?_
   obtain ⟨v41,h58,h⟩:=bind_some h
   have h58:=Option.some.inj h58
   refine aU (ks':=[ba p97_40,ba p97_41,.b 9,k97_5 M w0 r m5,.b 8,ba o0]) 6 ⟨[(0,.ref 0),(1,iI v2),(2,iI v3),(3,iI v4),(4,.fn v5.id v5.caps),(18,iI v30),(19,iI v31),(20,iI v39),(21,iI v40),(22,iI (w64 (v31 - 1))),(23,iI v41)],[],[(0,⟨3,1,lm (eInt .i64) v1⟩)],[0,1000000,0]⟩ ?_ (by subst h58; kernel_rfl)
   obtain ⟨h59,h⟩:=aq h
   obtain ⟨h60,h⟩:=aq h
   obtain ⟨v42,h61,h⟩:=bind_some h
   refine bm 0 (nu 158 [.fn v5.id v5.caps,.ref 0,iI (w64 (v31 - 1)),iI v41,iI (w64 ((w64 (v31 - 1)) - v41)),.eptr 0 1 (((w64 ((w64 (v31 - 1)) - v41))).toNat) 0,iI (gD v1 ((w64 ((w64 (v31 - 1)) - v41)))),.ref 0,iI v41,.eptr 0 1 (v41.toNat) 0,iI (gD v1 v41),iI v42,.bool (decide (v42<0)),.bool (!(decide (v42<0)))]) [] [] [] (am (vz 5) (d_v (aN 0 1 (eInt .i64) (L:=v1) h59) (d_v (aJ 3 0 (eInt .i64) (eInt .i64) (aH h59).2 (fun _=>rfl)) (am (vz 2) (d_v (aN 0 1 (eInt .i64) (L:=v1) h60) (d_v (aJ 3 0 (eInt .i64) (eInt .i64) (aH h60).2 (fun _=>rfl)) (aj (e_c 0 1 169 (hK.eF h61).2 (hK.eF h61).1) (am (vz 2) bk)))))))) ?_
   rcases ao h with ⟨h62,h⟩ | ⟨h62,h⟩
   ·
    exact ak 171 h62 (ag 2 (vB hK hL5 h))
   ·
    exact ak 171 h62 (ag 2 (vB hK hL5 h))
  ·
   refine ak 151 h57 (ac (ks':=[ba p97_42,ba p97_36,ba p97_34]) 9 (ai 4 ?_))
   rcases ao h with ⟨h63,h⟩ | ⟨h63,h⟩
   ·
    exact aK 181 h63 (ae (ag 0 (xv hK h)))
   ·
    exact aK 181 h63 (ae (ag 0 (xv hK h)))
theorem AX (hK:KnOk K) (m:Nat):H97_5 M w0 r v1 v2 v3 v4 v5 v30 v31 m (mC K n v1 v2 v3 v4 v5 v30 v31 m):=by
  induction m with
 | zero=>intro v39 v40 h; cases h
 | succ m ih=>intro v39 v40 h; have h:rh K n v1 v2 v3 v4 v5 v30 v31 (mC K n v1 v2 v3 v4 v5 v30 v31 m) v39 v40=some r:=h; exact aR (CW hK ih h)
theorem wO (hK:KnOk K) (h:oA K n v1 v2 v3 v4 v5 v30 v31 v33 v34=some r):VE (cS M w0) (q97 M w0 r) [ba p97_43] .normal (s97_j7 v1 v2 v3 v4 v5 v30 v31 v33 v34):=by
  unfold oA at h
  exact ag 4 (bE (p:=p97_44) n (AX hK n h))
theorem tX (hK:KnOk K) (h:gg K n v1 v2 v3 v4 v5=some r):AIO Try.prog 97 [.ref 0,iI v2,iI v3,iI v4,.fn v5.id v5.caps] 0 ⟨3,1,lm (eInt .i64) v1⟩ (fun v s=>v = .tup []∧look 0 s.r=some ⟨3,1,lm (eInt .i64) r⟩):=by
  refine mA (c:=cat Try.f97 []) Try.func97 (by kernel_rfl) _ Try.ntmps97 (of_decide_eq_true (by kernel_rfl)) fun M w0=>(bb ⟨[(0,.ref 0),(1,iI v2),(2,iI v3),(3,iI v4),(4,.fn v5.id v5.caps)],[],[(0,⟨3,1,lm (eInt .i64) v1⟩)],[0,1000000]⟩ ?_)
  unfold gg at h
  refine ac (ks':=[ba [0,1],ba [1]]) 3 ?_
  rcases ao h with ⟨h1,h⟩ | ⟨h1,h⟩
  ·
   exact ak 28 h1 (ag 7 (bE (p:=p97_45) n (AF hK n h)))
  ·
   refine ak 28 h1 (ac (ks':=[ba [1,0,1],ba [1,1]]) 5 ?_)
   rcases ao h with ⟨h24,h⟩ | ⟨h24,h⟩
   ·
    exact ak 80 h24 (ag 7 (bE (p:=p97_46) n (Ce hK n h)))
   ·
    refine ak 80 h24 ?_
    obtain ⟨v30,h47,h⟩:=bind_some h
    have h47:=Option.some.inj h47
    obtain ⟨v31,h48,h⟩:=bind_some h
    have h48:=Option.some.inj h48
    obtain ⟨v32,h49,h⟩:=bind_some h
    have h49:=Option.some.inj h49
    refine aU (ks':=[ba p97_47,ba p97_43]) 11 ⟨[(0,.ref 0),(1,iI v2),(2,iI v3),(3,iI v4),(4,.fn v5.id v5.caps),(18,iI v30),(19,iI v31),(140,.bool v32)],[],[(0,⟨3,1,lm (eInt .i64) v1⟩)],[0,1000000,0]⟩ ?_ (by subst h49; subst h48; subst h47; kernel_rfl)
    rcases ao h with ⟨h50,h⟩ | ⟨h50,h⟩
    ·
     exact ak 140 h50 (ag 4 (wO hK h))
    ·
     exact ak 140 h50 (ag 4 (wO hK h))
end
def p73_0:=pth 0 1111100
def p73_1:=pth 0 111000
def p73_2:=pth 0 11111001011
def p73_3:=pth 0 1111100101000
def p73_4:=pth 0 111110010111
def p73_5:=pth 0 111110010100001
def p73_6:=pth 0 11111001010001
def p73_7:=pth 0 1111100101000100
def p73_8:=pth 0 1111100101000101
def p73_9:=pth 0 11111001011011
def p73_10:=pth 0 111110010110110
def p73_11:=pth 0 111110001
def p73_12:=pth 0 11111001
def p73_13:=pth 0 111110010100
def p73_14:=pth 0 11100001
def p73_15:=pth 0 1110001
def p73_16:=pth 0 111000100
def p73_17:=pth 0 111000101
def p73_18:=pth 0 11110
def p73_19:=pth 0 11111
def p73_20:=pth 0 111110
def p73_21:=pth 0 11100
noncomputable section
abbrev iA (M:Nat→Prop) (w0:Base):Cx:=⟨Try.prog,63,M,w0⟩
abbrev q73 (M:Nat→Prop) (w0:Base) (r:List Int):=bodyPost Try.prog Try.f73 (RetQ M w0 (fun v s=>v = .tup []∧look 0 s.r=some ⟨3,1,lm (eInt .i64) r⟩))
abbrev iD (M:Nat→Prop) (w0:Base) (r:List Int) (m2:Nat):Kont:=kl (iA M w0) (q73 M w0 r) [.b 2] (cat Try.f73 p73_0) m2
abbrev cC (p:List Nat):Kont:=.c (cat Try.f73 p)
abbrev k73_1 (M:Nat→Prop) (w0:Base) (r:List Int) (m1:Nat):Kont:=kl (iA M w0) (q73 M w0 r) [.b 0,cC [1,1,1]] (cat Try.f73 p73_1) m1
abbrev k73_3 (M:Nat→Prop) (w0:Base) (r:List Int) (m2 m3:Nat):Kont:=kl (iA M w0) (q73 M w0 r) [.b 4,cC p73_2,.b 3,iD M w0 r m2,.b 2] (cat Try.f73 p73_3) m3
def s73_j3 (v2:Int) (v3:Fv) (v17:Int) (v25:List Int):AS:=⟨[(0,.ref 0),(1,iI v2),(2,.fn v3.id v3.caps),(6,iI v17)],[],[(0,⟨3,1,lm (eInt .i64) v25⟩)],[0,1000000,0]⟩
def s73_l2 (v2:Int) (v3:Fv) (v17 v20 v21:Int) (v22:List Int):AS:=⟨[(0,.ref 0),(1,iI v2),(2,.fn v3.id v3.caps),(6,iI v17),(7,iI v20),(8,iI v21)],[],[(0,⟨3,1,lm (eInt .i64) v22⟩)],[0,1000000,0]⟩
def s73_l4 (v2:Int) (v3:Fv) (v17:Int) (v18:List Int):AS:=⟨[(0,.ref 0),(1,iI v2),(2,.fn v3.id v3.caps),(6,iI v17)],[],[(0,⟨3,1,lm (eInt .i64) v18⟩)],[0,1000000,0]⟩
def s73_l1 (v2:Int) (v3:Fv) (v5 v6:Int) (v7:List Int):AS:=⟨[(0,.ref 0),(1,iI v2),(2,.fn v3.id v3.caps),(6,iI 20),(7,iI v5),(8,iI v6)],[],[(0,⟨3,1,lm (eInt .i64) v7⟩)],[0,1000000,0]⟩
abbrev H73_1 (M:Nat→Prop) (w0:Base) (r:List Int) (v2:Int) (v3:Fv) (m1:Nat) (L1:Int→Int→(List Int)→Option (List Int)):Prop:=∀ {v5 v6:Int} {v7:List Int},L1 v5 v6 v7=some r→LP (iA M w0) (q73 M w0 r) [.b 0,cC [1,1,1]] (cat Try.f73 p73_1) m1 (s73_l1 v2 v3 v5 v6 v7)
abbrev H73_2 (M:Nat→Prop) (w0:Base) (r:List Int) (v2:Int) (v3:Fv) (m2:Nat) (L2:Int→(List Int)→Option (List Int)):Prop:=∀ {v17:Int} {v18:List Int},L2 v17 v18=some r→LP (iA M w0) (q73 M w0 r) [.b 2] (cat Try.f73 p73_0) m2 (s73_l4 v2 v3 v17 v18)
abbrev H73_3 (M:Nat→Prop) (w0:Base) (r:List Int) (v2:Int) (v3:Fv) (v17:Int) (m2 m3:Nat) (L3:Int→Int→(List Int)→Option (List Int)):Prop:=∀ {v20 v21:Int} {v22:List Int},L3 v20 v21 v22=some r→LP (iA M w0) (q73 M w0 r) [.b 4,cC p73_2,.b 3,iD M w0 r m2,.b 2] (cat Try.f73 p73_3) m3 (s73_l2 v2 v3 v17 v20 v21 v22)
variable {K:Kn} {n:Nat} {M:Nat→Prop} {w0:Base} {r v1:List Int} {v2:Int} {v3:Fv} {v5 v6:Int} {v7:List Int} {v17:Int} {v18:List Int} {v20 v21:Int} {v22 v25:List Int} {m1:Nat} {L1:Int→Int→(List Int)→Option (List Int)} {m2:Nat} {L2:Int→(List Int)→Option (List Int)} {m3:Nat} {L3:Int→Int→(List Int)→Option (List Int)}
theorem wD (hK:KnOk K) (hL2:H73_2 M w0 r v2 v3 m2 L2) (h:rK K n v2 v3 v17 L2 v25=some r):VE (iA M w0) (q73 M w0 r) [cC p73_4,.b 3,iD M w0 r m2,.b 2] .normal (s73_j3 v2 v3 v17 v25):=by
  unfold rK at h
  exact ag 2 (aY (hL2 h))
theorem BC (hK:KnOk K) (hL2:H73_2 M w0 r v2 v3 m2 L2) (hL3:H73_3 M w0 r v2 v3 v17 m2 m3 L3) (h:rC K n v2 v3 v17 L2 L3 v20 v21 v22=some r):VE (iA M w0) (q73 M w0 r) [cC p73_3,k73_3 M w0 r m2 m3,.b 4,cC p73_2,.b 3,iD M w0 r m2,.b 2] .normal (s73_l2 v2 v3 v17 v20 v21 v22):=by
  unfold rC at h
  refine ac (ks':=[cC p73_5,cC p73_6,k73_3 M w0 r m2 m3,.b 4,cC p73_2,.b 3,iD M w0 r m2,.b 2]) 3 ?_
  rcases ao h with ⟨h16,h⟩ | ⟨h16,h⟩
  ·
   refine ak 35 h16 (ac (ks':=[cC p73_7,cC p73_8,.b 5,k73_3 M w0 r m2 m3,.b 4,cC p73_2,.b 3,iD M w0 r m2,.b 2]) 4 (ai 7 ?_))
   obtain ⟨v23,h17,h⟩:=bind_some h
   exact eP 0 0 (tX hK h17) (ae (ag 4 (aY (hL3 h))))
  ·
   refine ak 35 h16 (ac (ks':=[cC p73_9,cC p73_4,.b 3,iD M w0 r m2,.b 2]) 10 ?_)
   rcases ao h with ⟨h18,h⟩ | ⟨h18,h⟩
   ·
    refine ak 54 h18 (ac (ks':=[cC p73_10,cC p73_4,.b 3,iD M w0 r m2,.b 2]) 1 (ai 5 ?_))
    obtain ⟨v24,h19,h⟩:=bind_some h
    exact eP 0 0 (tX hK h19) (ae (ag 0 (wD hK hL2 h)))
   ·
    exact ak 54 h18 (ag 2 (wD hK hL2 h))
theorem Af (hK:KnOk K) (hL2:H73_2 M w0 r v2 v3 m2 L2) (m:Nat):H73_3 M w0 r v2 v3 v17 m2 m (qm K n v2 v3 v17 L2 m):=by
  induction m with
 | zero=>intro v20 v21 v22 h; cases h
 | succ m ih=>intro v20 v21 v22 h; have h:rC K n v2 v3 v17 L2 (qm K n v2 v3 v17 L2 m) v20 v21 v22=some r:=h; exact aR (BC hK hL2 ih h)
theorem yU (hK:KnOk K) (hL2:H73_2 M w0 r v2 v3 m2 L2) (h:sS K n v2 v3 L2 v17 v18=some r):VE (iA M w0) (q73 M w0 r) [cC p73_0,iD M w0 r m2,.b 2] .normal (s73_l4 v2 v3 v17 v18):=by
  unfold sS at h
  refine ac (ks':=[cC p73_11,cC p73_12,iD M w0 r m2,.b 2]) 3 ?_
  rcases ao h with ⟨h13,h⟩ | ⟨h13,h⟩
  ·
   exact ak 30 h13 (ag 7 (bE (p:=p73_13) n (Af hK hL2 n h)))
  ·
   refine ak 30 h13 (ac (ks':=[]) 5 (pn ?_))
   cases h
   exact eH
theorem zE (hK:KnOk K) (m:Nat):H73_2 M w0 r v2 v3 m (kY K n v2 v3 m):=by
  induction m with
 | zero=>intro v17 v18 h; cases h
 | succ m ih=>intro v17 v18 h; have h:sS K n v2 v3 (kY K n v2 v3 m) v17 v18=some r:=h; exact aR (yU hK ih h)
theorem Bv (hK:KnOk K) (hL1:H73_1 M w0 r v2 v3 m1 L1) (h:rP K n v2 v3 L1 v5 v6 v7=some r):VE (iA M w0) (q73 M w0 r) [cC p73_1,k73_1 M w0 r m1,.b 0,cC [1,1,1]] .normal (s73_l1 v2 v3 v5 v6 v7):=by
  unfold rP at h
  refine ac (ks':=[cC p73_14,cC p73_15,k73_1 M w0 r m1,.b 0,cC [1,1,1]]) 3 ?_
  rcases ao h with ⟨h3,h⟩ | ⟨h3,h⟩
  ·
   refine ak 13 h3 (ac (ks':=[cC p73_16,cC p73_17,.b 1,k73_1 M w0 r m1,.b 0,cC [1,1,1]]) 4 (ai 4 ?_))
   obtain ⟨v8,h4,h⟩:=bind_some h
   exact eP 0 0 (wB hK h4) (ae (ag 4 (aY (hL1 h))))
  ·
   refine ak 13 h3 (ac (ks':=[cC p73_18,cC p73_19]) 6 (ai 4 ?_))
   obtain ⟨v9,h5,h⟩:=bind_some h
   exact eP 0 0 (wB hK h5) (ae (ag 1 (bE (p:=p73_20) n (zE hK n h))))
theorem AI (hK:KnOk K) (m:Nat):H73_1 M w0 r v2 v3 m (pS K n v2 v3 m):=by
  induction m with
 | zero=>intro v5 v6 v7 h; cases h
 | succ m ih=>intro v5 v6 v7 h; have h:rP K n v2 v3 (pS K n v2 v3 m) v5 v6 v7=some r:=h; exact aR (Bv hK ih h)
theorem zH (hK:KnOk K) (h:tn K n v1 v2 v3=some r):AIO Try.prog 73 [.ref 0,iI v2,.fn v3.id v3.caps] 0 ⟨3,1,lm (eInt .i64) v1⟩ (fun v s=>v = .tup []∧look 0 s.r=some ⟨3,1,lm (eInt .i64) r⟩):=by
  refine mA (c:=cat Try.f73 []) Try.func73 (by kernel_rfl) _ Try.ntmps73 (of_decide_eq_true (by kernel_rfl)) fun M w0=>(bb ⟨[(0,.ref 0),(1,iI v2),(2,.fn v3.id v3.caps)],[],[(0,⟨3,1,lm (eInt .i64) v1⟩)],[0,1000000]⟩ ?_)
  unfold tn at h
  exact ag 6 (bE (p:=p73_21) n (AI hK n h))
end
noncomputable section
variable {K:Kn} {n:Nat} {M:Nat→Prop} {w0:Base} {r v1:List Int} {v2:Fv} 
theorem xm (hK:KnOk K) (h:iK K n v1 v2=some r):AIO Try.prog 35 [.ref 0,.fn v2.id v2.caps] 0 ⟨3,1,lm (eInt .i64) v1⟩ (fun v s=>v = .tup []∧look 0 s.r=some ⟨3,1,lm (eInt .i64) r⟩):=by
  refine mA (c:=cat Try.f35 []) Try.func35 (by kernel_rfl) _ Try.ntmps35 (of_decide_eq_true (by kernel_rfl)) fun M w0=>(bb ⟨[(0,.ref 0),(1,.fn v2.id v2.caps)],[],[(0,⟨3,1,lm (eInt .i64) v1⟩)],[0,1000000]⟩ ?_)
  unfold iK at h
  refine ai 2 (ap (br (eInt .i64) v1) (aO 4 1 ?_))
  obtain ⟨v3,h1,h⟩:=bind_some h
  refine eP 0 0 (zH hK h1) (ae (pn ?_))
  cases h
  exact eH
end
noncomputable section
variable {K:Kn} {n:Nat} {M:Nat→Prop} {w0:Base} {r:Bool} {v1:Int} 
theorem wC (hK:KnOk K) (h:pW K n v1=some r):ACalls Try.prog 74 [iI v1] (fun v _=>v = .bool r):=by
  refine bj (cat Try.f74 []) Try.func74 Try.ntmps74 fun M w0=>(bb ⟨[(0,iI v1)],[],[],[]⟩ ?_)
  unfold pW at h
  refine aM 5 ?_
  cases h
  exact bu
end
def p37_0:=pth 0 111101
def p37_1:=pth 0 11111
def p37_2:=pth 0 111101001
def p37_3:=pth 0 11110101
def p37_4:=pth 0 1111101
def p37_5:=pth 5 1
def p37_6:=pth 5 101
def p37_7:=pth 6 1
def p37_8:=pth 6 101
def p37_9:=pth 7 1
noncomputable section
variable {K:Kn} {n:Nat} {M:Nat→Prop} {w0:Base} {r v1 v2:Int} 
abbrev eJ (p:List Nat):Kont:=.c (cat Try.f37 p)
theorem w2 (hK:KnOk K) (h:oV K n v1 v2=some r):ACalls Try.prog 37 [iI v1,iI v2] (fun v _=>v=iI r):=by
  refine bj (cat Try.f37 []) Try.func37 Try.ntmps37 fun M w0=>(bb ⟨[(0,iI v1),(1,iI v2)],[],[],[]⟩ ?_)
  unfold oV at h
  refine ac (ks':=[eJ [1,0],eJ [1,1]]) 3 (ai 1 ?_)
  obtain ⟨v3,h1,h⟩:=bind_some h
  refine aC (wC hK h1) (ae (ac (ks':=[eJ [1,1,0],eJ [1,1,1]]) 1 (ai 1 ?_)))
  obtain ⟨v4,h2,h⟩:=bind_some h
  refine aC (wC hK h2) (ae (ac (ks':=[eJ p37_0,eJ p37_1]) 3 ?_))
  rcases ao h with ⟨h3,h⟩ | ⟨h3,h⟩
  ·
   refine ak 11 h3 (ac (ks':=[eJ p37_2,eJ p37_3,eJ p37_1]) 4 ?_)
   rcases ao h with ⟨h4,h⟩ | ⟨h4,h⟩
   ·
    refine ak 12 h4 (aM 6 ?_)
    cases h
    exact bu
   ·
    refine ak 12 h4 (aM 6 ?_)
    cases h
    exact bu
  ·
   refine ak 11 h3 (ac (ks':=[eJ p37_4,eJ p37_5]) 5 ?_)
   rcases ao h with ⟨h5,h⟩ | ⟨h5,h⟩
   ·
    refine ak 13 h5 (aM 5 ?_)
    cases h
    exact bu
   ·
    refine ak 13 h5 (ac (ks':=[eJ p37_6,eJ p37_7]) 5 ?_)
    rcases ao h with ⟨h6,h⟩ | ⟨h6,h⟩
    ·
     refine ak 16 h6 (aM 5 ?_)
     cases h
     exact bu
    ·
     refine ak 16 h6 (ac (ks':=[eJ p37_8,eJ p37_9]) 5 ?_)
     rcases ao h with ⟨h7,h⟩ | ⟨h7,h⟩
     ·
      refine ak 19 h7 (aM 5 ?_)
      cases h
      exact bu
     ·
      refine ak 19 h7 (aM 5 ?_)
      cases h
      exact bu
end
noncomputable section
variable {K:Kn} {n:Nat} {M:Nat→Prop} {w0:Base} {r v1 v2:Int} {v3:List Int} 
abbrev cF36 (p:List Nat):Kont:=.c (cat Try.f36 p)
theorem zT (hK:KnOk K) (h:qr K n v1 v2 v3=some r):ACalls Try.prog 36 [iI v1,iI v2,.cptr ([.sl (lm (eInt .i64) v3)])] (fun v _=>v=iI r):=by
  refine bj (cat Try.f36 []) Try.func36 Try.ntmps36 fun M w0=>(bb ⟨[(0,iI v1),(1,iI v2),(2,.cptr ([.sl (lm (eInt .i64) v3)]))],[],[],[]⟩ ?_)
  unfold qr at h
  refine ac (ks':=[cF36 [1,0],cF36 [1,1]]) 3 (bL [0,1,2] [] [] ?_)
  obtain ⟨h1,h⟩:=aq h
  obtain ⟨h2,h⟩:=aq h
  obtain ⟨v4,h3,h⟩:=bind_some h
  refine bm 1 (nu 6 [.sl (lm (eInt .i64) v3),iI v2,.cptr ([iI (gD v3 v2)]),iI (gD v3 v2),.sl (lm (eInt .i64) v3),iI v1,.cptr ([iI (gD v3 v1)]),iI (gD v3 v1),iI v4]) [] [] [stp Try.prog 15 Try.f36 [1,0] 9] (am (vz 2) (d_v (bF (eInt .i64) (eInt .i64) h1 (fun _=>rfl) (fun _=>rfl)) (am (vz 3) (d_v (bF (eInt .i64) (eInt .i64) h2 (fun _=>rfl) (fun _=>rfl)) (am [.v 0 1] (aj (e_c 0 1 14 (w2 hK h3)) (aj (e_d 0) bk))))))) (aM 1 ?_)
  cases h
  exact bu
end
def nM:=pth 12 1
def p14_1:=pth 11 10100
def jj:=pth 10 1
def p14_3:=pth 9 10100
def oH:=pth 7 1
def p14_5:=pth 6 10100
def p14_6:=pth 11 1010010
def p14_7:=pth 11 1010011
def p14_8:=pth 11 1010011000
def p14_9:=pth 11 1010011001
def p14_10:=pth 11 10100111
def p14_11:=pth 9 1010010
def p14_12:=pth 9 1010011
def p14_13:=pth 9 1010011000
def p14_14:=pth 9 1010011001
def p14_15:=pth 9 10100111
def p14_16:=pth 9 10100110010
def p14_17:=pth 9 10100110011
def p14_18:=pth 9 101001100110
def p14_19:=pth 9 101001100111
def p14_20:=pth 10 10
def p14_21:=pth 11 1
def p14_22:=pth 11 100
def p14_23:=pth 11 101
def p14_24:=pth 11 1010
def p14_25:=pth 6 1010010
def p14_26:=pth 6 1010011
def p14_27:=pth 6 1010011000
def p14_28:=pth 6 1010011001
def p14_29:=pth 6 10100111
def p14_30:=pth 7 101
def p14_31:=pth 8 1
def p14_32:=pth 9 100
def p14_33:=pth 9 101
def p14_34:=pth 9 1010
def p14_35:=pth 0 11110
def p14_36:=pth 0 11111
def p14_37:=pth 0 111110
def p14_38:=pth 5 1
def p14_39:=pth 6 100
def p14_40:=pth 6 101
def p14_41:=pth 6 1010
noncomputable section
abbrev iP (M:Nat→Prop) (w0:Base):Cx:=⟨Try.prog,96,M,w0⟩
abbrev q14 (M:Nat→Prop) (w0:Base) (r:List Int):=bodyPost Try.prog Try.f14 (RetQ M w0 (fun v s=>v = .ref 21∧look 21 s.r=some ⟨3,1,lm (eInt .i64) r⟩))
abbrev bJ (p:List Nat):Kont:=.c (cat Try.f14 p)
abbrev k14_3 (M:Nat→Prop) (w0:Base) (r:List Int) (m3:Nat):Kont:=kl (iP M w0) (q14 M w0 r) [.b 4,bJ nM] (cat Try.f14 p14_1) m3
abbrev ot (M:Nat→Prop) (w0:Base) (r:List Int) (m2:Nat):Kont:=kl (iP M w0) (q14 M w0 r) [.b 2,bJ jj] (cat Try.f14 p14_3) m2
abbrev k14_1 (M:Nat→Prop) (w0:Base) (r:List Int) (m1:Nat):Kont:=kl (iP M w0) (q14 M w0 r) [.b 0,bJ oH] (cat Try.f14 p14_5) m1
def s14_l3 (v26:List Int) (v27 v28:Int) (v29:List Int):AS:=⟨[(5,.ref 21),(82,.sl (lm (eInt .i64) v26)),(83,iI v27),(84,iI v28)],[],[(21,⟨3,1,lm (eInt .i64) v29⟩)],[21]⟩
def s14_l2 (v2:List Int) (v3 v8 v14 v15:Int) (v16 v17 v18:List Int):AS:=⟨[(0,iI v3),(5,.ref 21),(6,.ptr 6 0),(7,.ref 27),(8,iI v8),(11,iI v14),(43,.sl (lm (eInt .i64) v2)),(44,iI (v2.length:Int)),(45,iI v15)],[(6,[.ref 24])],[(21,⟨3,1,lm (eInt .i64) v16⟩),(24,⟨3,1,lm (eInt .i64) v17⟩),(27,⟨3,1,lm (eInt .i64) v18⟩)],[6,21,24,27]⟩
def s14_l1 (v2:List Int) (v3:Int) (v4 v5 v6:List Int) (v8 v9:Int):AS:=⟨[(0,iI v3),(1,.sl (lm (eInt .i64) v2)),(5,.ref 21),(6,.ptr 6 0),(7,.ref 27),(8,iI v8),(28,.sl (lm (eInt .i64) v2)),(29,iI (v2.length:Int)),(30,iI v9)],[(6,[.ref 24])],[(21,⟨3,1,lm (eInt .i64) v4⟩),(24,⟨3,1,lm (eInt .i64) v5⟩),(27,⟨3,1,lm (eInt .i64) v6⟩)],[6,21,24,27]⟩
abbrev H14_1 (M:Nat→Prop) (w0:Base) (r v2:List Int) (v3:Int) (v4 v5 v6:List Int) (m1:Nat) (L1:Int→Int→Option (List Int)):Prop:=∀ {v8 v9:Int},L1 v8 v9=some r→LP (iP M w0) (q14 M w0 r) [.b 0,bJ oH] (cat Try.f14 p14_5) m1 (s14_l1 v2 v3 v4 v5 v6 v8 v9)
abbrev H14_2 (M:Nat→Prop) (w0:Base) (r v2:List Int) (v3 v8:Int) (m2:Nat) (L2:Int→Int→(List Int)→(List Int)→(List Int)→Option (List Int)):Prop:=∀ {v14 v15:Int} {v16 v17 v18:List Int},L2 v14 v15 v16 v17 v18=some r→LP (iP M w0) (q14 M w0 r) [.b 2,bJ jj] (cat Try.f14 p14_3) m2 (s14_l2 v2 v3 v8 v14 v15 v16 v17 v18)
abbrev H14_3 (M:Nat→Prop) (w0:Base) (r:List Int) (m3:Nat) (L3:(List Int)→Int→Int→(List Int)→Option (List Int)):Prop:=∀ {v26:List Int} {v27 v28:Int} {v29:List Int},L3 v26 v27 v28 v29=some r→LP (iP M w0) (q14 M w0 r) [.b 4,bJ nM] (cat Try.f14 p14_1) m3 (s14_l3 v26 v27 v28 v29)
variable {K:Kn} {n:Nat} {M:Nat→Prop} {w0:Base} {r:List Int} {v1:Int} {v2:List Int} {v3:Int} {v4 v5 v6:List Int} {v8 v9 v14 v15:Int} {v16 v17 v18 v26:List Int} {v27 v28:Int} {v29:List Int} {m1:Nat} {L1:Int→Int→Option (List Int)} {m2:Nat} {L2:Int→Int→(List Int)→(List Int)→(List Int)→Option (List Int)} {m3:Nat} {L3:(List Int)→Int→Int→(List Int)→Option (List Int)}
theorem Az (hK:KnOk K) (hL3:H14_3 M w0 r m3 L3) (h:sT K n L3 v26 v27 v28 v29=some r):VE (iP M w0) (q14 M w0 r) [bJ p14_1,k14_3 M w0 r m3,.b 4,bJ nM] .normal (s14_l3 v26 v27 v28 v29):=by
  unfold sT at h
  refine ac (ks':=[bJ p14_6,bJ p14_7,k14_3 M w0 r m3,.b 4,bJ nM]) 3 ?_
  rcases ao h with ⟨h46,h⟩ | ⟨h46,h⟩
  ·
   refine ak 85 h46 (ac (ks':=[bJ p14_8,bJ p14_9,.b 5,bJ p14_10,k14_3 M w0 r m3,.b 4,bJ nM]) 5 (ai 0 ?_))
   obtain ⟨h47,h⟩:=aq h
   refine ap (bF (eInt .i64) (eInt .i64) h47 (fun _=>rfl) (fun _=>rfl)) (ae (ai 2 ?_))
   obtain ⟨h48,h⟩:=aq h
   refine ap (bK 21 1 (eInt .i64) h48) (ap (aJ 3 0 (eInt .i64) (eInt .i64) (aH h48).2 (fun _=>rfl)) (aO 5 1 ?_))
   obtain ⟨h49,h⟩:=aq h
   exact ap (bK 21 1 (eInt .i64) h49) (ap (bV 21 3 1 0 (eInt .i64) (eInt .i64) (w64 ((gD v29 ((gD v26 v28)))+1)) (aH h49).2 (fun _=>rfl)) (ae (ag 2 (aY (hL3 h)))))
  ·
   refine ak 85 h46 (aM 8 ?_)
   cases h
   exact cP
theorem zr (hK:KnOk K) (m:Nat):H14_3 M w0 r m (mP K n m):=by
  induction m with
 | zero=>intro v26 v27 v28 v29 h; cases h
 | succ m ih=>intro v26 v27 v28 v29 h; have h:sT K n (mP K n m) v26 v27 v28 v29=some r:=h; exact aR (Az hK ih h)
theorem Dr (hK:KnOk K) (hL2:H14_2 M w0 r v2 v3 v8 m2 L2) (h:qV K n v2 v3 v8 L2 v14 v15 v16 v17 v18=some r):VE (iP M w0) (q14 M w0 r) [bJ p14_3,ot M w0 r m2,.b 2,bJ jj] .normal (s14_l2 v2 v3 v8 v14 v15 v16 v17 v18):=by
  unfold qV at h
  refine ac (ks':=[bJ p14_11,bJ p14_12,ot M w0 r m2,.b 2,bJ jj]) 3 ?_
  rcases ao h with ⟨h26,h⟩ | ⟨h26,h⟩
  ·
   refine ak 46 h26 (ac (ks':=[bJ p14_13,bJ p14_14,.b 3,bJ p14_15,ot M w0 r m2,.b 2,bJ jj]) 5 (ai 1 ?_))
   obtain ⟨h27,h⟩:=aq h
   refine ap (bF (eInt .i64) (eInt .i64) h27 (fun _=>rfl) (fun _=>rfl)) (ae (ac (ks':=[bJ p14_16,bJ p14_17,.b 3,bJ p14_15,ot M w0 r m2,.b 2,bJ jj]) 1 (ai 2 ?_)))
   obtain ⟨v19,h28,h⟩:=bind_some h
   refine aC (kP hK h28) (ae (ac (ks':=[bJ p14_18,bJ p14_19,.b 3,bJ p14_15,ot M w0 r m2,.b 2,bJ jj]) 1 (bL [0,5,6,7,8,11,12,14,43,44,45] [6] [21,24,27] ?_)))
   obtain ⟨h29,h⟩:=aq h
   obtain ⟨h30,h⟩:=aq h
   obtain ⟨h31,h⟩:=aq h
   obtain ⟨h32,h⟩:=aq h
   obtain ⟨h33,h⟩:=aq h
   refine bm 3 (nu 54 [.ref 21,iI v15,.ref 24,iI v15,.ref 27,iI v15,iI (w64 (v3*v19)),iI v8,iI (w64 (Int.tdiv (w64 (v3*v19)) v8)),iI (w64 (v3*v19)),iI v8,iI (Int.tmod (w64 (v3*v19)) v8),iI v15,.eptr 21 1 (v15.toNat) 0,.eptr 24 1 (v15.toNat) 0,.eptr 27 1 (v15.toNat) 0]) [] [] [strS 21 ⟨3,1,lm (eInt .i64) (List.set v16 v15.toNat (w64 (Int.tdiv (w64 (v3*v19)) v8)))⟩,strS 24 ⟨3,1,lm (eInt .i64) (List.set v17 v15.toNat (Int.tmod (w64 (v3*v19)) v8))⟩,strS 27 ⟨3,1,lm (eInt .i64) (List.set v18 v15.toNat v15)⟩] (am [.v 0 1,.v 0 1,.v 0 2,.v 0 2,.v 0 3,.v 0 3,.v 0 1,.v 0 1] (d_v (y_quo .i64 (w64 (v3*v19)) h29) (am [.v 0 2,.v 0 2] (aj (k_v (lo:=0) (k:=2) (bP ⟨(by kernel_rfl),(bQ (y_rem .i64 (w64 (v3*v19)) h30) (by kernel_rfl))⟩ (bP ⟨(by kernel_rfl),(bQ (y_rem .i64 (w64 (v3*v19)) h30) (by kernel_rfl))⟩ cF))) (am [.v 0 3] (d_v (aN 21 1 (eInt .i64) (L:=v16) h31) (aj (e_s (m:=0) (bV 21 3 1 0 (eInt .i64) (eInt .i64) (w64 (Int.tdiv (w64 (v3*v19)) v8)) (aH h31).2 (fun _=>rfl))) (aj (e_v (lo:=1) (aN 24 1 (eInt .i64) (L:=v17) h32)) (aj (e_s (m:=1) (bV 24 3 1 0 (eInt .i64) (eInt .i64) (Int.tmod (w64 (v3*v19)) v8) (aH h32).2 (fun _=>rfl))) (aj (e_v (lo:=2) (aN 27 1 (eInt .i64) (L:=v18) h33)) (aj (e_s (m:=2) (bV 27 3 1 0 (eInt .i64) (eInt .i64) v15 (aH h33).2 (fun _=>rfl))) bk))))))))))) ?_
   obtain ⟨v20,h34,h⟩:=bind_some h
   have h34:=Option.some.inj h34
   obtain ⟨v21,h35,h⟩:=bind_some h
   have h35:=Option.some.inj h35
   refine aU (ks':=[bJ p14_19,.b 3,bJ p14_15,ot M w0 r m2,.b 2,bJ jj]) 0 ⟨[(0,iI v3),(5,.ref 21),(6,.ptr 6 0),(7,.ref 27),(8,iI v8),(11,iI v14),(12,iI v15),(43,.sl (lm (eInt .i64) v2)),(44,iI (v2.length:Int)),(45,iI v15)],[(6,[.ref 24])],[(21,⟨3,1,lm (eInt .i64) v20⟩),(24,⟨3,1,lm (eInt .i64) v21⟩),(27,⟨3,1,lm (eInt .i64) (List.set v18 v15.toNat v15)⟩)],[6,21,24,27]⟩ ?_ (by subst h35; subst h34; kernel_rfl)
   refine ai 3 ?_
   obtain ⟨h36,h⟩:=aq h
   exact ap (bK 21 1 (eInt .i64) h36) (ap (aJ 3 0 (eInt .i64) (eInt .i64) (aH h36).2 (fun _=>rfl)) (ae (ag 2 (aY (hL2 h)))))
  ·
   refine ak 46 h26 (ac (ks':=[bJ p14_20,bJ p14_21]) 6 (ai 1 (c9 24 (ot_fo 6 6 ([.sl (lm (eInt .i64) v17)]) (ot_mf 36 #[(.tmp 6)] [.cptr ([.sl (lm (eInt .i64) v17)])] ?_)))))
   obtain ⟨v22,h37,h⟩:=bind_some h
   refine eP 27 0 (xm hK h37) (ae (ac (ks':=[bJ p14_22,bJ p14_23,bJ nM]) 2 (ai 2 (c9 27 ?_))))
   obtain ⟨h38,h⟩:=aq h
   exact ap (nV (eInt .i64) v22 (0:Int) v14 22 (.tmp 80) none (some (.tmp 81)) 82 (e:=3) (sz:=1) (by kernel_rfl) (by kernel_rfl) (by kernel_rfl) (by kernel_rfl) (by kernel_rfl) (by kernel_rfl) (fun _=>rfl) (fun k hk=>by subst hk; kernel_rfl) h38) (ap (br (eInt .i64) (List.drop ((0:Int)).toNat (List.take v14.toNat v22))) (ae (ag 1 (bE (p:=p14_24) n (zr hK n h)))))
theorem B8 (hK:KnOk K) (m:Nat):H14_2 M w0 r v2 v3 v8 m (mg K n v2 v3 v8 m):=by
  induction m with
 | zero=>intro v14 v15 v16 v17 v18 h; cases h
 | succ m ih=>intro v14 v15 v16 v17 v18 h; have h:qV K n v2 v3 v8 (mg K n v2 v3 v8 m) v14 v15 v16 v17 v18=some r:=h; exact aR (Dr hK ih h)
theorem A7 (hK:KnOk K) (hL1:H14_1 M w0 r v2 v3 v4 v5 v6 m1 L1) (h:qC K n v2 v3 v4 v5 v6 L1 v8 v9=some r):VE (iP M w0) (q14 M w0 r) [bJ p14_5,k14_1 M w0 r m1,.b 0,bJ oH] .normal (s14_l1 v2 v3 v4 v5 v6 v8 v9):=by
  unfold qC at h
  refine ac (ks':=[bJ p14_25,bJ p14_26,k14_1 M w0 r m1,.b 0,bJ oH]) 3 ?_
  rcases ao h with ⟨h11,h⟩ | ⟨h11,h⟩
  ·
   refine ak 31 h11 (ac (ks':=[bJ p14_27,bJ p14_28,.b 1,bJ p14_29,k14_1 M w0 r m1,.b 0,bJ oH]) 5 (ai 0 ?_))
   obtain ⟨h12,h⟩:=aq h
   refine ap (bF (eInt .i64) (eInt .i64) h12 (fun _=>rfl) (fun _=>rfl)) (ae (ai 2 ?_))
   obtain ⟨v10,h13,h⟩:=bind_some h
   exact aC (kP hK h13) (ae (ag 2 (aY (hL1 h))))
  ·
   refine ak 31 h11 (ac (ks':=[bJ p14_30,bJ p14_31]) 8 ?_)
   rcases ao h with ⟨h14,h⟩ | ⟨h14,h⟩
   ·
    refine ak 40 h14 (aM 5 ?_)
    cases h
    exact cP
   ·
    exact ak 40 h14 (ac (ks':=[bJ p14_32,bJ p14_33,bJ jj]) 6 (ai 1 (ap (br (eInt .i64) v2) (ae (ag 1 (bE (p:=p14_34) n (B8 hK n h)))))))
theorem BD (hK:KnOk K) (m:Nat):H14_1 M w0 r v2 v3 v4 v5 v6 m (pX K n v2 v3 v4 v5 v6 m):=by
  induction m with
 | zero=>intro v8 v9 h; cases h
 | succ m ih=>intro v8 v9 h; have h:qC K n v2 v3 v4 v5 v6 (pX K n v2 v3 v4 v5 v6 m) v8 v9=some r:=h; exact aR (A7 hK ih h)
theorem xB (hK:KnOk K) (h:pe K n v1 v2=some r):ACalls Try.prog 14 [iI v1,.sl (lm (eInt .i64) v2)] (fun v s=>v = .ref 21∧look 21 s.r=some ⟨3,1,lm (eInt .i64) r⟩):=by
  refine bj (cat Try.f14 []) Try.func14 Try.ntmps14 fun M w0=>(bb ⟨[(0,iI v1),(1,.sl (lm (eInt .i64) v2))],[],[],[]⟩ ?_)
  unfold pe at h
  refine ac (ks':=[bJ [1,0],bJ [1,1]]) 3 (ai 1 ?_)
  obtain ⟨v3,h1,h⟩:=bind_some h
  refine aC (kP hK h1) (ae (ac (ks':=[bJ [1,1,0],bJ [1,1,1]]) 1 (ai 1 (ap (br (eInt .i64) v2) ?_))))
  obtain ⟨h2,h⟩:=aq h
  refine fL (eInt .i64) (0:Int) 22 (.tmp 20) (.tmp 20) 21 (e:=3) (sz:=1) (zc:=[iI 0]) (kd:=.i64) (kd':=.i64) h2 (ae ?_)
  obtain ⟨v4,h3,h⟩:=bind_some h
  have h3:=Option.some.inj h3
  refine aU (ks':=[bJ p14_35,bJ p14_36]) 1 ⟨[(0,iI v3),(1,.sl (lm (eInt .i64) v2)),(5,.ref 21)],[],[(21,⟨3,1,lm (eInt .i64) v4⟩)],[21]⟩ ?_ (by subst h3; kernel_rfl)
  refine ai 1 (ap (br (eInt .i64) v2) ?_)
  obtain ⟨h4,h⟩:=aq h
  refine fL (eInt .i64) (0:Int) 22 (.tmp 23) (.tmp 23) 24 (e:=3) (sz:=1) (zc:=[iI 0]) (kd:=.i64) (kd':=.i64) h4 (ae ?_)
  obtain ⟨v5,h5,h⟩:=bind_some h
  have h5:=Option.some.inj h5
  refine aU (ks':=[bJ p14_37,bJ p14_38]) 1 ⟨[(0,iI v3),(1,.sl (lm (eInt .i64) v2)),(5,.ref 21),(6,.ptr 6 0)],[(6,[.ref 24])],[(21,⟨3,1,lm (eInt .i64) v4⟩),(24,⟨3,1,lm (eInt .i64) v5⟩)],[6,21,24]⟩ ?_ (by subst h5; kernel_rfl)
  refine ai 1 (ap (br (eInt .i64) v2) ?_)
  obtain ⟨h6,h⟩:=aq h
  refine fL (eInt .i64) (0:Int) 22 (.tmp 26) (.tmp 26) 27 (e:=3) (sz:=1) (zc:=[iI 0]) (kd:=.i64) (kd':=.i64) h6 (ae ?_)
  obtain ⟨v6,h7,h⟩:=bind_some h
  have h7:=Option.some.inj h7
  refine aU (ks':=[bJ p14_39,bJ p14_40,bJ oH]) 4 ⟨[(0,iI v3),(1,.sl (lm (eInt .i64) v2)),(5,.ref 21),(6,.ptr 6 0),(7,.ref 27),(8,iI 0)],[(6,[.ref 24])],[(21,⟨3,1,lm (eInt .i64) v4⟩),(24,⟨3,1,lm (eInt .i64) v5⟩),(27,⟨3,1,lm (eInt .i64) v6⟩)],[6,21,24,27]⟩ ?_ (by subst h7; kernel_rfl)
  exact ai 1 (ap (br (eInt .i64) v2) (ae (ag 1 (bE (p:=p14_41) n (BD hK n h)))))
end
def p39_0:=pth 0 11110
def p39_1:=pth 0 11111
def p39_2:=pth 0 111110
def p39_3:=pth 5 1
def p39_4:=pth 5 10
def p39_5:=pth 6 1
noncomputable section
variable {K:Kn} {n:Nat} {M:Nat→Prop} {w0:Base} {r v1:aw} 
abbrev iG (p:List Nat):Kont:=.c (cat Try.f39 p)
theorem vQ (hK:KnOk K) (h:qE K n v1=some r):ACalls Try.prog 39 [.agg (aF v1)] (fun v _=>v = .agg (aF r)):=by
  refine bj (cat Try.f39 []) Try.func39 Try.ntmps39 fun M w0=>(bb ⟨[(0,.agg (aF v1))],[],[],[]⟩ ?_)
  unfold qE at h
  refine ac (ks':=[iG [1,0],iG [1,1]]) 3 (ai 2 ?_)
  obtain ⟨v2,h1,h⟩:=bind_some h
  refine aC (kP hK h1) (ae (ac (ks':=[iG [1,1,0],iG [1,1,1]]) 1 (ai 2 ?_)))
  obtain ⟨v3,h2,h⟩:=bind_some h
  refine aC (kP hK h2) (ae (ac (ks':=[iG p39_0,iG p39_1]) 1 (ai 2 ?_)))
  obtain ⟨v4,h3,h⟩:=bind_some h
  refine aC (kP hK h3) (ae (ac (ks':=[iG p39_2,iG p39_3]) 1 (ai 2 ?_)))
  obtain ⟨v5,h4,h⟩:=bind_some h
  refine aC (kP hK h4) (ae (ac (ks':=[iG p39_4,iG p39_5]) 1 (bL [1,2] [1,2] [] ?_)))
  obtain ⟨v6,h5,h⟩:=bind_some h
  refine bm 1 (nu 19 [.ptr 1 4,iI v1.Max,iI v6,.ptr 1 3,iI v5,iI (max v6 v5),.ptr 1 4]) [] [] [stp Try.prog 27 Try.f39 p39_4 7] (am (vz 2) (aj (e_c 0 1 21 (kP hK h5)) (am (vz 4) (aj (e_d 0) bk)))) (aM 3 ?_)
  cases h
  exact bu
end
noncomputable section
variable {K:Kn} {n:Nat} {M:Nat→Prop} {w0:Base} {r:Int} {v1:aw} {v2:Int} 
theorem uH (hK:KnOk K) (h:nh K n v1 v2=some r):ACalls Try.prog 75 [.agg (aF v1),iI v2] (fun v _=>v=iI r):=by
  refine bj (cat Try.f75 []) Try.func75 Try.ntmps75 fun M w0=>(bb ⟨[(0,.agg (aF v1)),(1,iI v2)],[],[],[]⟩ ?_)
  unfold nh at h
  refine aM 5 ?_
  cases h
  exact bu
end
noncomputable section
variable {K:Kn} {n:Nat} {M:Nat→Prop} {w0:Base} {r:Int} {v1:aw} 
abbrev cF40 (p:List Nat):Kont:=.c (cat Try.f40 p)
theorem t6 (hK:KnOk K) (h:pC K n v1=some r):ACalls Try.prog 40 [.agg (aF v1)] (fun v _=>v=iI r):=by
  refine bj (cat Try.f40 []) Try.func40 Try.ntmps40 fun M w0=>(bb ⟨[(0,.agg (aF v1))],[],[],[]⟩ ?_)
  unfold pC at h
  refine ac (ks':=[cF40 [1,0],cF40 [1,1]]) 3 (ai 1 ?_)
  obtain ⟨v2,h1,h⟩:=bind_some h
  refine aC (vQ hK h1) (ae (ac (ks':=[cF40 [1,1,0],cF40 [1,1,1]]) 1 (ai 3 ?_)))
  obtain ⟨v3,h2,h⟩:=bind_some h
  refine aC (uH hK h2) (ae (aM 1 ?_))
  cases h
  exact bu
end
def fU:=pth 11 1
def p41_1:=pth 10 10100
def lI:=pth 10 1
def p41_3:=pth 9 10100
def gV:=pth 0 11111
def p41_5:=pth 0 11110100
def p41_6:=pth 0 11110100111
def nj:=pth 10 10100111
def p41_8:=pth 10 1010011001111
def p41_9:=pth 10 10100110011110
def p41_10:=pth 10 1010010
def p41_11:=pth 10 1010011
def p41_12:=pth 10 1010011000
def p41_13:=pth 10 1010011001
def p41_14:=pth 10 10100110010
def p41_15:=pth 10 10100110011
def p41_16:=pth 10 101001100110
def p41_17:=pth 10 101001100111
def p41_18:=pth 10 1010011001110
def p41_19:=pth 9 1010010
def p41_20:=pth 9 1010011
def p41_21:=pth 9 1010011000
def p41_22:=pth 9 1010011001
def p41_23:=pth 9 10100111
def p41_24:=pth 9 10100110010
def p41_25:=pth 9 10100110011
def p41_26:=pth 10 100
def p41_27:=pth 10 101
def p41_28:=pth 10 1010
def p41_29:=pth 7 1
def p41_30:=pth 8 10
def p41_31:=pth 9 1
def p41_32:=pth 9 100
def p41_33:=pth 9 101
def p41_34:=pth 9 1010
def p41_35:=pth 0 1111010010
def p41_36:=pth 0 1111010011
def p41_37:=pth 0 1111010011000
def p41_38:=pth 0 1111010011001
def p41_39:=pth 0 111101001100101
def p41_40:=pth 0 11110100110011
def p41_41:=pth 0 11110100110011110
def p41_42:=pth 0 11110100110011111
def p41_43:=pth 0 1111100
def p41_44:=pth 0 1111101
def p41_45:=pth 5 1
def p41_46:=pth 6 101
def p41_47:=pth 0 111100
def p41_48:=pth 0 111101
def p41_49:=pth 0 1111010
noncomputable section
abbrev fd (M:Nat→Prop) (w0:Base):Cx:=⟨Try.prog,170,M,w0⟩
abbrev q41 (M:Nat→Prop) (w0:Base) (r:Bool×(List aI)):=bodyPost Try.prog Try.f41 (RetQ M w0 (fun v s=>v = .bool r.1∧look 0 s.r=some ⟨74,9,lm aZ r.2⟩))
abbrev bo (p:List Nat):Kont:=.c (cat Try.f41 p)
abbrev iY (M:Nat→Prop) (w0:Base) (r:Bool×(List aI)) (m3:Nat):Kont:=kl (fd M w0) (q41 M w0 r) [.b 4,bo fU] (cat Try.f41 p41_1) m3
abbrev k41_2 (M:Nat→Prop) (w0:Base) (r:Bool×(List aI)) (m2:Nat):Kont:=kl (fd M w0) (q41 M w0 r) [.b 2,bo lI] (cat Try.f41 p41_3) m2
abbrev pB (M:Nat→Prop) (w0:Base) (r:Bool×(List aI)) (m1:Nat):Kont:=kl (fd M w0) (q41 M w0 r) [.b 0,bo gV] (cat Try.f41 p41_5) m1
def s41_j1 (v1:List aI) (v3 v18 v23 v24:Int) (v25 v26:List Int):AS:=⟨[(0,.ref 0),(2,iI v3),(7,iI v23),(8,iI v24),(9,.ref 47),(10,.ref 52),(22,.ref 0),(23,iI (v1.length:Int)),(24,iI v18)],[],[(0,⟨74,9,lm aZ v1⟩),(47,⟨3,1,lm (eInt .i64) v25⟩),(52,⟨3,1,lm (eInt .i64) v26⟩)],[0,47,52,1000000,0]⟩
def s41_j6 (v19:List Int) (v31:Int) (v33:List Int) (v39:Int) (v43:List aI):AS:=⟨[(0,.ref 0),(13,iI v31),(14,.ref 1075),(117,.ref 47),(118,iI (v19.length:Int)),(119,iI v39)],[],[(0,⟨74,9,lm aZ v43⟩),(47,⟨3,1,lm (eInt .i64) v19⟩),(1075,⟨3,1,lm (eInt .i64) v33⟩)],[0,47,1075,1000000,0]⟩
def s41_j5 (v19:List Int) (v31:Int) (v33:List Int) (v39:Int) (v40:List aI) (v41:Int) (v42:Bool):AS:=⟨[(0,.ref 0),(13,iI v31),(14,.ref 1075),(19,.eptr 0 9 (((gD v19 v39)).toNat) 0),(20,iI v41),(117,.ref 47),(118,iI (v19.length:Int)),(119,iI v39),(161,.bool v42)],[],[(0,⟨74,9,lm aZ v40⟩),(47,⟨3,1,lm (eInt .i64) v19⟩),(1075,⟨3,1,lm (eInt .i64) v33⟩)],[0,47,1075,1000000,0]⟩
def s41_l7 (v19:List Int) (v31:Int) (v33:List Int) (v39:Int) (v40:List aI):AS:=⟨[(0,.ref 0),(13,iI v31),(14,.ref 1075),(117,.ref 47),(118,iI (v19.length:Int)),(119,iI v39)],[],[(0,⟨74,9,lm aZ v40⟩),(47,⟨3,1,lm (eInt .i64) v19⟩),(1075,⟨3,1,lm (eInt .i64) v33⟩)],[0,47,1075,1000000,0]⟩
def s41_l4 (v1:List aI) (v3:Int) (v19:List Int) (v31 v32:Int) (v33:List Int):AS:=⟨[(0,.ref 0),(2,iI v3),(9,.ref 47),(13,iI v31),(14,.ref 1075),(76,.ref 47),(77,iI (v19.length:Int)),(78,iI v32)],[],[(0,⟨74,9,lm aZ v1⟩),(47,⟨3,1,lm (eInt .i64) v19⟩),(1075,⟨3,1,lm (eInt .i64) v33⟩)],[0,47,1075,1000000,0]⟩
def s41_j3 (v1:List aI) (v3:Int) (v19 v20:List Int) (v27:Int):AS:=⟨[(0,.ref 0),(2,iI v3),(7,iI v27),(9,.ref 47),(10,.ref 52)],[],[(0,⟨74,9,lm aZ v1⟩),(47,⟨3,1,lm (eInt .i64) v19⟩),(52,⟨3,1,lm (eInt .i64) v20⟩)],[0,47,52,1000000,0]⟩
def s41_l2 (v1:List aI) (v3 v16 v17 v18:Int) (v19 v20:List Int):AS:=⟨[(0,.ref 0),(2,iI v3),(7,iI v16),(8,iI v17),(9,.ref 47),(10,.ref 52),(22,.ref 0),(23,iI (v1.length:Int)),(24,iI v18)],[],[(0,⟨74,9,lm aZ v1⟩),(47,⟨3,1,lm (eInt .i64) v19⟩),(52,⟨3,1,lm (eInt .i64) v20⟩)],[0,47,52,1000000,0]⟩
abbrev H41_1 (M:Nat→Prop) (w0:Base) (r:Bool×(List aI)) (v1:List aI) (v3:Int) (m1:Nat) (L1:Int→Int→Int→(List Int)→(List Int)→Option (Bool×(List aI))):Prop:=∀ {v16 v17 v18:Int} {v19 v20:List Int},L1 v16 v17 v18 v19 v20=some r→LP (fd M w0) (q41 M w0 r) [.b 0,bo gV] (cat Try.f41 p41_5) m1 (s41_l2 v1 v3 v16 v17 v18 v19 v20)
abbrev H41_2 (M:Nat→Prop) (w0:Base) (r:Bool×(List aI)) (v1:List aI) (v3:Int) (v19:List Int) (m2:Nat) (L2:Int→Int→(List Int)→Option (Bool×(List aI))):Prop:=∀ {v31 v32:Int} {v33:List Int},L2 v31 v32 v33=some r→LP (fd M w0) (q41 M w0 r) [.b 2,bo lI] (cat Try.f41 p41_3) m2 (s41_l4 v1 v3 v19 v31 v32 v33)
abbrev H41_3 (M:Nat→Prop) (w0:Base) (r:Bool×(List aI)) (v19:List Int) (v31:Int) (v33:List Int) (m3:Nat) (L3:Int→(List aI)→Option (Bool×(List aI))):Prop:=∀ {v39:Int} {v40:List aI},L3 v39 v40=some r→LP (fd M w0) (q41 M w0 r) [.b 4,bo fU] (cat Try.f41 p41_1) m3 (s41_l7 v19 v31 v33 v39 v40)
variable {K:Kn} {n:Nat} {M:Nat→Prop} {w0:Base} {r:Bool×(List aI)} {v1:List aI} {v2 v3 v16 v17 v18:Int} {v19 v20:List Int} {v23 v24:Int} {v25 v26:List Int} {v27 v31 v32:Int} {v33:List Int} {v39:Int} {v40:List aI} {v41:Int} {v42:Bool} {v43:List aI} {m1:Nat} {L1:Int→Int→Int→(List Int)→(List Int)→Option (Bool×(List aI))} {m2:Nat} {L2:Int→Int→(List Int)→Option (Bool×(List aI))} {m3:Nat} {L3:Int→(List aI)→Option (Bool×(List aI))}
theorem yh (hK:KnOk K) (hL1:H41_1 M w0 r v1 v3 m1 L1) (h:qY K n v1 v3 v18 L1 v23 v24 v25 v26=some r):VE (fd M w0) (q41 M w0 r) [bo p41_6,pB M w0 r m1,.b 0,bo gV] .normal (s41_j1 v1 v3 v18 v23 v24 v25 v26):=by
  unfold qY at h
  exact ag 1 (aY (hL1 h))
theorem wN (hK:KnOk K) (hL3:H41_3 M w0 r v19 v31 v33 m3 L3) (h:sI K n v19 v31 v33 v39 L3 v43=some r):VE (fd M w0) (q41 M w0 r) [.b 5,bo nj,iY M w0 r m3,.b 4,bo fU] .normal (s41_j6 v19 v31 v33 v39 v43):=by
  unfold sI at h
  exact ag 2 (aY (hL3 h))
theorem oh (hK:KnOk K) (hL3:H41_3 M w0 r v19 v31 v33 m3 L3) (h:js K n v19 v31 v33 v39 v40 v41 L3 v42=some r):VE (fd M w0) (q41 M w0 r) [bo p41_8,.b 5,bo nj,iY M w0 r m3,.b 4,bo fU] .normal (s41_j5 v19 v31 v33 v39 v40 v41 v42):=by
  unfold js at h
  rcases ao h with ⟨h73,h⟩ | ⟨h73,h⟩
  ·
   refine ak 161 h73 (ac (ks':=[bo p41_9,.b 5,bo nj,iY M w0 r m3,.b 4,bo fU]) 1 (ai 5 ?_))
   obtain ⟨h74,h⟩:=aq h
   exact ap (bV 0 74 9 7 aZ aZ ({ (gD v40 ((gD v19 v39))) with size:=v41 }:aI) (of_decide_eq_true h74) (fun _=>rfl)) (aO 8 2 (ap (bV 0 74 9 8 aZ aZ (L:=(List.set v40 ((gD v19 v39)).toNat ({ (gD v40 ((gD v19 v39))) with size:=v41 }:aI))) (j:=((gD v19 v39)).toNat) ({ (gD (List.set v40 ((gD v19 v39)).toNat ({ (gD v40 ((gD v19 v39))) with size:=v41 }:aI)) ((gD v19 v39))) with fixed:=true }:aI) (eD (of_decide_eq_true h74)) (fun _=>rfl)) (ae (ag 0 (wN hK hL3 h)))))
  ·
   exact ak 161 h73 (ag 2 (wN hK hL3 h))
theorem Ci (hK:KnOk K) (hL3:H41_3 M w0 r v19 v31 v33 m3 L3) (h:qO K n v19 v31 v33 L3 v39 v40=some r):VE (fd M w0) (q41 M w0 r) [bo p41_1,iY M w0 r m3,.b 4,bo fU] .normal (s41_l7 v19 v31 v33 v39 v40):=by
  unfold qO at h
  refine ac (ks':=[bo p41_10,bo p41_11,iY M w0 r m3,.b 4,bo fU]) 3 ?_
  rcases ao h with ⟨h60,h⟩ | ⟨h60,h⟩
  ·
   refine ak 120 h60 (ac (ks':=[bo p41_12,bo p41_13,.b 5,bo nj,iY M w0 r m3,.b 4,bo fU]) 5 (ai 1 ?_))
   obtain ⟨h61,h⟩:=aq h
   refine ap (bK 47 1 (eInt .i64) h61) (ap (aJ 3 0 (eInt .i64) (eInt .i64) (aH h61).2 (fun _=>rfl)) (ae (ac (ks':=[bo p41_14,bo p41_15,.b 5,bo nj,iY M w0 r m3,.b 4,bo fU]) 1 (ai 2 ?_))))
   obtain ⟨h62,h⟩:=aq h
   refine ap (bK 0 9 aZ h62) (ae (ac (ks':=[bo p41_16,bo p41_17,.b 5,bo nj,iY M w0 r m3,.b 4,bo fU]) 1 (bL [0,13,14,17,19,117,118,119] [] [0,47,1075] ?_)))
   obtain ⟨h63,h⟩:=aq h
   obtain ⟨v41,h64,h⟩:=bind_some h
   refine bm 1 (nu 127 [.eptr 0 9 (((gD v19 v39)).toNat) 0,.eptr 0 9 (((gD v19 v39)).toNat) 0,.eptr 0 9 (((gD v19 v39)).toNat) 0,.agg (aF ((gD v40 ((gD v19 v39))).Item)),.ref 1075,iI v39,.eptr 1075 1 (v39.toNat) 0,iI (gD v33 v39),iI v41]) [] [] [stp Try.prog 170 Try.f41 p41_16 9] (am (vz 3) (d_v (aJ 34 0 aZ aZ (aH h62).2 (fun _=>rfl)) (am (vz 2) (d_v (aN 1075 1 (eInt .i64) (L:=v33) h63) (d_v (aJ 3 0 (eInt .i64) (eInt .i64) (aH h63).2 (fun _=>rfl)) (aj (e_c 0 1 135 (uH hK h64)) (aj (e_d 0) bk))))))) (ac (ks':=[bo p41_18,bo p41_8,.b 5,bo nj,iY M w0 r m3,.b 4,bo fU]) 1 (ai 3 ?_))
   rcases ao h with ⟨h65,h⟩ | ⟨h65,h⟩
   ·
    exact aK 138 h65 (ae (ag 0 (oh hK hL3 h)))
   ·
    refine aK 138 h65 (aO 6 3 ?_)
    rcases ao h with ⟨h66,h⟩ | ⟨h66,h⟩
    ·
     refine aK 141 h66 (aO 9 3 ?_)
     obtain ⟨h67,h⟩:=aq h
     refine ap (bK 1075 1 (eInt .i64) h67) (ap (aJ 3 0 (eInt .i64) (eInt .i64) (aH h67).2 (fun _=>rfl)) (aO 15 4 ?_))
     rcases ao h with ⟨h68,h⟩ | ⟨h68,h⟩
     ·
      exact aK 150 h68 (ae (ag 0 (oh hK hL3 h)))
     ·
      refine aK 150 h68 (aO 18 3 ?_)
      rcases ao h with ⟨h69,h⟩ | ⟨h69,h⟩
      ·
       refine aK 153 h69 (aO 21 3 ?_)
       obtain ⟨h70,h⟩:=aq h
       exact ap (bK 1075 1 (eInt .i64) h70) (ap (aJ 3 0 (eInt .i64) (eInt .i64) (aH h70).2 (fun _=>rfl)) (ae (ag 0 (oh hK hL3 h))))
      ·
       exact aK 153 h69 (ae (ag 0 (oh hK hL3 h)))
    ·
     refine aK 141 h66 (aO 18 12 ?_)
     rcases ao h with ⟨h71,h⟩ | ⟨h71,h⟩
     ·
      refine aK 153 h71 (aO 21 3 ?_)
      obtain ⟨h72,h⟩:=aq h
      exact ap (bK 1075 1 (eInt .i64) h72) (ap (aJ 3 0 (eInt .i64) (eInt .i64) (aH h72).2 (fun _=>rfl)) (ae (ag 0 (oh hK hL3 h))))
     ·
      exact aK 153 h71 (ae (ag 0 (oh hK hL3 h)))
  ·
   refine ak 120 h60 (aM 8 ?_)
   cases h
   exact cP
theorem BL (hK:KnOk K) (m:Nat):H41_3 M w0 r v19 v31 v33 m (mU K n v19 v31 v33 m):=by
  induction m with
 | zero=>intro v39 v40 h; cases h
 | succ m ih=>intro v39 v40 h; have h:qO K n v19 v31 v33 (mU K n v19 v31 v33 m) v39 v40=some r:=h; exact aR (Ci hK ih h)
theorem BK (hK:KnOk K) (hL2:H41_2 M w0 r v1 v3 v19 m2 L2) (h:sH K n v1 v3 v19 L2 v31 v32 v33=some r):VE (fd M w0) (q41 M w0 r) [bo p41_3,k41_2 M w0 r m2,.b 2,bo lI] .normal (s41_l4 v1 v3 v19 v31 v32 v33):=by
  unfold sH at h
  refine ac (ks':=[bo p41_19,bo p41_20,k41_2 M w0 r m2,.b 2,bo lI]) 3 ?_
  rcases ao h with ⟨h35,h⟩ | ⟨h35,h⟩
  ·
   refine ak 79 h35 (ac (ks':=[bo p41_21,bo p41_22,.b 3,bo p41_23,k41_2 M w0 r m2,.b 2,bo lI]) 5 (ai 1 ?_))
   obtain ⟨h36,h⟩:=aq h
   refine ap (bK 47 1 (eInt .i64) h36) (ap (aJ 3 0 (eInt .i64) (eInt .i64) (aH h36).2 (fun _=>rfl)) (ae (ac (ks':=[bo p41_24,bo p41_25,.b 3,bo p41_23,k41_2 M w0 r m2,.b 2,bo lI]) 1 (bL [0,2,9,13,14,15,16,76,77,78] [] [0,47,1075] ?_))))
   obtain ⟨h37,h⟩:=aq h
   obtain ⟨h38,h⟩:=aq h
   obtain ⟨h39,h⟩:=aq h
   refine bm 1 (nu 83 [.ref 1075,iI v32,.ref 0,iI (gD v19 v32),.eptr 0 9 (((gD v19 v32)).toNat) 0,.eptr 0 9 (((gD v19 v32)).toNat) 0,.eptr 0 9 (((gD v19 v32)).toNat) 0,iI (((gD v1 ((gD v19 v32))).Item).Base),iI v3,.ref 1075,iI v32,.eptr 1075 1 (v32.toNat) 0,iI (gD v33 v32),iI (w64 (v3*(gD v33 v32))),iI (w64 ((((gD v1 ((gD v19 v32))).Item).Base)+(w64 (v3*(gD v33 v32))))),.eptr 1075 1 (v32.toNat) 0]) [] [] [strS 1075 ⟨3,1,lm (eInt .i64) (List.set v33 v32.toNat (w64 ((((gD v1 ((gD v19 v32))).Item).Base)+(w64 (v3*(gD v33 v32))))))⟩] (am (vz 4) (d_v (aN 0 9 aZ (L:=v1) h37) (am (vz 2) (d_v (aJ 3 0 aZ aZ (aH h37).2 (fun _=>rfl)) (am (vz 3) (d_v (aN 1075 1 (eInt .i64) (L:=v33) h38) (d_v (aJ 3 0 (eInt .i64) (eInt .i64) (aH h39).2 (fun _=>rfl)) (am (vz 2) (d_v (aN 1075 1 (eInt .i64) (L:=v33) h39) (aj (e_s (m:=0) (bV 1075 3 1 0 (eInt .i64) (eInt .i64) (w64 ((((gD v1 ((gD v19 v32))).Item).Base)+(w64 (v3*(gD v33 v32))))) (aH h39).2 (fun _=>rfl))) bk)))))))))) ?_
   obtain ⟨v34,h40,h⟩:=bind_some h
   have h40:=Option.some.inj h40
   refine aU (ks':=[bo p41_25,.b 3,bo p41_23,k41_2 M w0 r m2,.b 2,bo lI]) 0 ⟨[(0,.ref 0),(2,iI v3),(9,.ref 47),(13,iI v31),(14,.ref 1075),(15,iI v32),(16,iI (gD v19 v32)),(76,.ref 47),(77,iI (v19.length:Int)),(78,iI v32)],[],[(0,⟨74,9,lm aZ v1⟩),(47,⟨3,1,lm (eInt .i64) v19⟩),(1075,⟨3,1,lm (eInt .i64) v34⟩)],[0,47,1075,1000000,0]⟩ ?_ (by subst h40; kernel_rfl)
   obtain ⟨h41,h⟩:=aq h
   obtain ⟨h42,h⟩:=aq h
   obtain ⟨v35,h43,h⟩:=bind_some h
   obtain ⟨h44,h⟩:=aq h
   exact bm 1 (nu 99 [iI v31,.ref 0,iI (gD v19 v32),.eptr 0 9 (((gD v19 v32)).toNat) 0,.eptr 0 9 (((gD v19 v32)).toNat) 0,.agg (aF ((gD v1 ((gD v19 v32))).Item)),.ref 1075,iI v32,.eptr 1075 1 (v32.toNat) 0,iI (gD v34 v32),iI v35,.ref 1075,iI v32,.eptr 1075 1 (v32.toNat) 0,iI (gD v34 v32),iI (w64 (v35 - (gD v34 v32))),iI (w64 (v31+(w64 (v35 - (gD v34 v32)))))]) [] [] [stp Try.prog 170 Try.f41 p41_25 17] (am (vz 3) (d_v (aN 0 9 aZ (L:=v1) h41) (am [.v 0 1] (d_v (aJ 34 0 aZ aZ (aH h41).2 (fun _=>rfl)) (am (vz 2) (d_v (aN 1075 1 (eInt .i64) (L:=v34) h42) (d_v (aJ 3 0 (eInt .i64) (eInt .i64) (aH h44).2 (fun _=>rfl)) (aj (e_c 0 1 109 (uH hK h43)) (am (vz 2) (d_v (aN 1075 1 (eInt .i64) (L:=v34) h44) (d_v (aJ 3 0 (eInt .i64) (eInt .i64) (aH h44).2 (fun _=>rfl)) (am (vz 2) (aj (e_d 0) bk))))))))))))) (ag 2 (aY (hL2 h)))
  ·
   exact ak 79 h35 (ac (ks':=[bo p41_26,bo p41_27,bo fU]) 7 (ai 1 (ap (br (eInt .i64) v19) (ae (ag 1 (bE (p:=p41_28) n (BL hK n h)))))))
theorem AY (hK:KnOk K) (m:Nat):H41_2 M w0 r v1 v3 v19 m (o8 K n v1 v3 v19 m):=by
  induction m with
 | zero=>intro v31 v32 v33 h; cases h
 | succ m ih=>intro v31 v32 v33 h; have h:sH K n v1 v3 v19 (o8 K n v1 v3 v19 m) v31 v32 v33=some r:=h; exact aR (BK hK ih h)
theorem vM (hK:KnOk K) (h:qe K n v1 v3 v19 v20 v27=some r):VE (fd M w0) (q41 M w0 r) [bo p41_29] .normal (s41_j3 v1 v3 v19 v20 v27):=by
  unfold qe at h
  refine ac (ks':=[bo p41_30,bo p41_31]) 3 (ai 2 (c9 52 ?_))
  obtain ⟨v28,h24,h⟩:=bind_some h
  exact cv 1075 (xB hK h24) (df 21) (ae (ac (ks':=[bo p41_32,bo p41_33,bo lI]) 2 (ai 1 (ap (br (eInt .i64) v19) (ae (ag 1 (bE (p:=p41_34) n (AY hK n h))))))))
theorem AC (hK:KnOk K) (hL1:H41_1 M w0 r v1 v3 m1 L1) (h:qT K n v1 v3 L1 v16 v17 v18 v19 v20=some r):VE (fd M w0) (q41 M w0 r) [bo p41_5,pB M w0 r m1,.b 0,bo gV] .normal (s41_l2 v1 v3 v16 v17 v18 v19 v20):=by
  unfold qT at h
  refine ac (ks':=[bo p41_35,bo p41_36,pB M w0 r m1,.b 0,bo gV]) 3 ?_
  rcases ao h with ⟨h15,h⟩ | ⟨h15,h⟩
  ·
   refine ak 25 h15 (ac (ks':=[bo p41_37,bo p41_38,.b 1,bo p41_6,pB M w0 r m1,.b 0,bo gV]) 5 (ai 1 ?_))
   obtain ⟨h16,h⟩:=aq h
   refine ap (bK 0 9 aZ h16) (ap (aJ 74 0 aZ aZ (aH h16).2 (fun _=>rfl)) (ae (ac (ks':=[bo p41_39,bo p41_40,.b 1,bo p41_6,pB M w0 r m1,.b 0,bo gV]) 3 ?_)))
   rcases ao h with ⟨h17,h⟩ | ⟨h17,h⟩
   ·
    exact ak 30 h17 (ag 6 (yh hK hL1 h))
   ·
    refine ak 30 h17 ?_
    obtain ⟨v21,h18,h⟩:=bind_some h
    have h18:=Option.some.inj h18
    obtain ⟨v22,h19,h⟩:=bind_some h
    have h19:=Option.some.inj h19
    refine aU (ks':=[bo p41_41,bo p41_42,.b 1,bo p41_6,pB M w0 r m1,.b 0,bo gV]) 7 ⟨[(0,.ref 0),(2,iI v3),(7,iI v21),(8,iI v22),(9,.ref 47),(10,.ref 52),(11,iI v18),(12,.ptr 12 0),(22,.ref 0),(23,iI (v1.length:Int)),(24,iI v18)],[(12,aZ (gD v1 v18))],[(0,⟨74,9,lm aZ v1⟩),(47,⟨3,1,lm (eInt .i64) v19⟩),(52,⟨3,1,lm (eInt .i64) v20⟩)],[12,0,47,52,1000000,0]⟩ ?_ (by subst h19; subst h18; kernel_rfl)
    refine ai 3 ?_
    obtain ⟨h20,h⟩:=aq h
    refine ap (cb 47 47 3 1 (eInt .i64) (rfl) (fun _=>rfl) h20) (ae (ai 4 ?_))
    obtain ⟨h21,h⟩:=aq h
    exact ap (cb 52 52 3 1 (eInt .i64) (rfl) (fun _=>rfl) h21) (ae (ag 1 (yh hK hL1 h)))
  ·
   refine ak 25 h15 (ac (ks':=[bo p41_43,bo p41_44,bo p41_45]) 7 (ai 1 (ap (br (eInt .i64) v19) (ae ?_))))
   rcases ao h with ⟨h22,h⟩ | ⟨h22,h⟩
   ·
    refine ak 56 h22 (aM 5 ?_)
    cases h
    exact cP
   ·
    refine ak 56 h22 (ac (ks':=[bo p41_46,bo p41_29]) 7 ?_)
    rcases ao h with ⟨h23,h⟩ | ⟨h23,h⟩
    ·
     exact ak 62 h23 (ag 2 (vM hK h))
    ·
     exact ak 62 h23 (ag 2 (vM hK h))
theorem z6 (hK:KnOk K) (m:Nat):H41_1 M w0 r v1 v3 m (pt K n v1 v3 m):=by
  induction m with
 | zero=>intro v16 v17 v18 v19 v20 h; cases h
 | succ m ih=>intro v16 v17 v18 v19 v20 h; have h:qT K n v1 v3 (pt K n v1 v3 m) v16 v17 v18 v19 v20=some r:=h; exact aR (AC hK ih h)
theorem z9 (hK:KnOk K) (h:pV K n v1 v2 v3=some r):AIO Try.prog 41 [.ref 0,iI v2,iI v3] 0 ⟨74,9,lm aZ v1⟩ (fun v s=>v = .bool r.1∧look 0 s.r=some ⟨74,9,lm aZ r.2⟩):=by
  refine mA (c:=cat Try.f41 []) Try.func41 (by kernel_rfl) _ Try.ntmps41 (of_decide_eq_true (by kernel_rfl)) fun M w0=>(bb ⟨[(0,.ref 0),(1,iI v2),(2,iI v3)],[],[(0,⟨74,9,lm aZ v1⟩)],[0,1000000]⟩ ?_)
  unfold pV at h
  exact ac (ks':=[bo p41_47,bo p41_48,bo gV]) 8 (ai 1 (ap (br aZ v1) (ae (ac (ks':=[bo p41_49,.b 0,bo gV]) 1 (cw 47 9 3 1 (cw 52 10 3 1 (ag 0 (bE (p:=p41_49) n (z6 hK n h)))))))))
end
def qg:=pth 11 1
def p18_1:=pth 10 10100
def p18_2:=pth 9 1
def p18_3:=pth 8 1000
def fc:=pth 8 1
def p18_5:=pth 7 10100
def kM:=pth 5 1
def p18_7:=pth 0 111110100
def ku:=pth 7 10100111
def oW:=pth 7 101001100111
def p18_10:=pth 10 1010010
def p18_11:=pth 10 1010011
def p18_12:=pth 10 1010011000
def p18_13:=pth 10 1010011001
def p18_14:=pth 10 10100111
def p18_15:=pth 8 100000
def p18_16:=pth 8 100001
def p18_17:=pth 8 10001
def p18_18:=pth 9 10
def p18_19:=pth 10 1
def p18_20:=pth 10 100
def p18_21:=pth 10 101
def p18_22:=pth 10 1010
def p18_23:=pth 7 1010010
def p18_24:=pth 7 1010011
def p18_25:=pth 7 10100110010
def p18_26:=pth 7 10100110011
def p18_27:=pth 7 1010011001101
def p18_28:=pth 7 101001100110100
def p18_29:=pth 7 101001100110101
def p18_30:=pth 7 101001100110110
def p18_31:=pth 7 101001100110111
def p18_32:=pth 8 100
def p18_33:=pth 7 1
def p18_34:=pth 7 100
def p18_35:=pth 7 101
def p18_36:=pth 7 1010
def p18_37:=pth 0 11111010010
def p18_38:=pth 0 11111010011
def p18_39:=pth 0 11111010011000
def p18_40:=pth 0 11111010011001
def p18_41:=pth 0 111110100111
def p18_42:=pth 0 111110100110010
def p18_43:=pth 0 111110100110011
def p18_44:=pth 6 101
def p18_45:=pth 0 1111100
def p18_46:=pth 0 1111101
def p18_47:=pth 0 11111010
noncomputable section
abbrev eu (M:Nat→Prop) (w0:Base):Cx:=⟨Try.prog,158,M,w0⟩
abbrev q18 (M:Nat→Prop) (w0:Base) (r:List Int):=bodyPost Try.prog Try.f18 (RetQ M w0 (fun v s=>v = .ref 143∧look 143 s.r=some ⟨3,1,lm (eInt .i64) r⟩))
abbrev bn (p:List Nat):Kont:=.c (cat Try.f18 p)
abbrev k18_4 (M:Nat→Prop) (w0:Base) (r:List Int) (m4:Nat):Kont:=kl (eu M w0) (q18 M w0 r) [.b 6,bn qg] (cat Try.f18 p18_1) m4
abbrev k18_3 (M:Nat→Prop) (w0:Base) (r:List Int) (m3:Nat):Kont:=kl (eu M w0) (q18 M w0 r) [.b 4,bn p18_2] (cat Try.f18 p18_3) m3
abbrev ic (M:Nat→Prop) (w0:Base) (r:List Int) (m2:Nat):Kont:=kl (eu M w0) (q18 M w0 r) [.b 2,bn fc] (cat Try.f18 p18_5) m2
abbrev k18_1 (M:Nat→Prop) (w0:Base) (r:List Int) (m1:Nat):Kont:=kl (eu M w0) (q18 M w0 r) [.b 0,bn kM] (cat Try.f18 p18_7) m1
def s18_j4 (v3:Int) (v10:List aI) (v14 v19:Int) (v24:List aI):AS:=⟨[(1,iI v3),(5,.ref 20),(9,iI v14),(48,iI (v10.length:Int)),(49,iI v19)],[],[(20,⟨74,9,lm aZ v24⟩)],[20]⟩
def s18_j3 (v3:Int) (v10:List aI) (v14 v19:Int) (v23:List aI):AS:=⟨[(1,iI v3),(5,.ref 20),(9,iI v14),(11,.eptr 20 9 (v19.toNat) 0),(48,iI (v10.length:Int)),(49,iI v19)],[],[(20,⟨74,9,lm aZ v23⟩)],[20]⟩
def s18_l7 (v27:Bool×(List aI)) (v29:Int) (v30:List Int):AS:=⟨[(12,.ref 143),(144,.ref 20),(145,iI (v27.2.length:Int)),(146,iI v29)],[],[(20,⟨74,9,lm aZ v27.2⟩),(143,⟨3,1,lm (eInt .i64) v30⟩)],[20,143]⟩
def s18_l6 (v3 v14:Int) (v26:List aI):AS:=⟨[(1,iI v3),(5,.ref 20),(9,iI v14)],[],[(20,⟨74,9,lm aZ v26⟩)],[20]⟩
def s18_l5 (v3:Int) (v10:List aI) (v14 v19:Int) (v20:List aI):AS:=⟨[(1,iI v3),(5,.ref 20),(9,iI v14),(48,iI (v10.length:Int)),(49,iI v19)],[],[(20,⟨74,9,lm aZ v20⟩)],[20]⟩
def s18_j2 (v3:Int) (v10:List aI) (v14:Int):AS:=⟨[(1,iI v3),(5,.ref 20),(9,iI v14)],[],[(20,⟨74,9,lm aZ v10⟩)],[20]⟩
def s18_l1 (v1:List aw) (v3 v8 v9:Int) (v10:List aI):AS:=⟨[(1,iI v3),(5,.ref 20),(6,iI v8),(21,.sl (lm aF v1)),(22,iI (v1.length:Int)),(23,iI v9)],[],[(20,⟨74,9,lm aZ v10⟩)],[20]⟩
abbrev H18_1 (M:Nat→Prop) (w0:Base) (r:List Int) (v1:List aw) (v3:Int) (m1:Nat) (L1:Int→Int→(List aI)→Option (List Int)):Prop:=∀ {v8 v9:Int} {v10:List aI},L1 v8 v9 v10=some r→LP (eu M w0) (q18 M w0 r) [.b 0,bn kM] (cat Try.f18 p18_7) m1 (s18_l1 v1 v3 v8 v9 v10)
abbrev H18_2 (M:Nat→Prop) (w0:Base) (r:List Int) (v3:Int) (v10:List aI) (v14:Int) (m2:Nat) (L2:Int→(List aI)→Option (List Int)):Prop:=∀ {v19:Int} {v20:List aI},L2 v19 v20=some r→LP (eu M w0) (q18 M w0 r) [.b 2,bn fc] (cat Try.f18 p18_5) m2 (s18_l5 v3 v10 v14 v19 v20)
abbrev H18_3 (M:Nat→Prop) (w0:Base) (r:List Int) (v3 v14:Int) (m3:Nat) (L3:(List aI)→Option (List Int)):Prop:=∀ {v26:List aI},L3 v26=some r→LP (eu M w0) (q18 M w0 r) [.b 4,bn p18_2] (cat Try.f18 p18_3) m3 (s18_l6 v3 v14 v26)
abbrev H18_4 (M:Nat→Prop) (w0:Base) (r:List Int) (v27:Bool×(List aI)) (m4:Nat) (L4:Int→(List Int)→Option (List Int)):Prop:=∀ {v29:Int} {v30:List Int},L4 v29 v30=some r→LP (eu M w0) (q18 M w0 r) [.b 6,bn qg] (cat Try.f18 p18_1) m4 (s18_l7 v27 v29 v30)
variable {K:Kn} {n:Nat} {M:Nat→Prop} {w0:Base} {r:List Int} {v1:List aw} {v2 v3 v8 v9:Int} {v10:List aI} {v14 v19:Int} {v20 v23 v24 v26:List aI} {v27:Bool×(List aI)} {v29:Int} {v30:List Int} {m1:Nat} {L1:Int→Int→(List aI)→Option (List Int)} {m2:Nat} {L2:Int→(List aI)→Option (List Int)} {m3:Nat} {L3:(List aI)→Option (List Int)} {m4:Nat} {L4:Int→(List Int)→Option (List Int)}
theorem xk (hK:KnOk K) (hL2:H18_2 M w0 r v3 v10 v14 m2 L2) (h:rN K n v3 v10 v14 v19 L2 v24=some r):VE (eu M w0) (q18 M w0 r) [.b 3,bn ku,ic M w0 r m2,.b 2,bn fc] .normal (s18_j4 v3 v10 v14 v19 v24):=by
  unfold rN at h
  exact ag 2 (aY (hL2 h))
theorem yv (hK:KnOk K) (hL2:H18_2 M w0 r v3 v10 v14 m2 L2) (h:rA K n v3 v10 v14 v19 L2 v23=some r):VE (eu M w0) (q18 M w0 r) [bn oW,.b 3,bn ku,ic M w0 r m2,.b 2,bn fc] .normal (s18_j3 v3 v10 v14 v19 v23):=by
  unfold rA at h
  refine ai 4 ?_
  obtain ⟨h31,h⟩:=aq h
  refine ap (aJ 4 8 aZ aZ (of_decide_eq_true h31) (fun _=>rfl)) (aO 6 1 ?_)
  rcases ao h with ⟨h32,h⟩ | ⟨h32,h⟩
  ·
   exact aK 127 h32 (aO 14 8 (ap (bV 20 74 9 8 aZ aZ ({ (gD v23 v19) with fixed:=true }:aI) (of_decide_eq_true h31) (fun _=>rfl)) (ae (ag 0 (xk hK hL2 h)))))
  ·
   exact aK 127 h32 (aO 9 3 (ap (aJ 3 5 aZ aZ (of_decide_eq_true h31) (fun _=>rfl)) (aO 14 4 (ap (bV 20 74 9 8 aZ aZ ({ (gD v23 v19) with fixed:=(((gD v23 v19).factor) == 0) }:aI) (of_decide_eq_true h31) (fun _=>rfl)) (ae (ag 0 (xk hK hL2 h)))))))
theorem AL (hK:KnOk K) (hL4:H18_4 M w0 r v27 m4 L4) (h:sj K n v27 L4 v29 v30=some r):VE (eu M w0) (q18 M w0 r) [bn p18_1,k18_4 M w0 r m4,.b 6,bn qg] .normal (s18_l7 v27 v29 v30):=by
  unfold sj at h
  refine ac (ks':=[bn p18_10,bn p18_11,k18_4 M w0 r m4,.b 6,bn qg]) 3 ?_
  rcases ao h with ⟨h42,h⟩ | ⟨h42,h⟩
  ·
   refine ak 147 h42 (ac (ks':=[bn p18_12,bn p18_13,.b 7,bn p18_14,k18_4 M w0 r m4,.b 6,bn qg]) 5 (ai 1 ?_))
   obtain ⟨h43,h⟩:=aq h
   refine ap (bK 20 9 aZ h43) (ap (aJ 74 0 aZ aZ (aH h43).2 (fun _=>rfl)) (ae (ai 4 ?_)))
   obtain ⟨h44,h⟩:=aq h
   exact ap (bK 143 1 (eInt .i64) h44) (ap (bV 143 3 1 0 (eInt .i64) (eInt .i64) ((gD v27.2 v29).size) (aH h44).2 (fun _=>rfl)) (ae (ag 2 (aY (hL4 h)))))
  ·
   refine ak 147 h42 (aM 8 ?_)
   cases h
   exact cP
theorem Bf (hK:KnOk K) (m:Nat):H18_4 M w0 r v27 m (n7 K n v27 m):=by
  induction m with
 | zero=>intro v29 v30 h; cases h
 | succ m ih=>intro v29 v30 h; have h:sj K n v27 (n7 K n v27 m) v29 v30=some r:=h; exact aR (AL hK ih h)
theorem zL (hK:KnOk K) (hL3:H18_3 M w0 r v3 v14 m3 L3) (h:rf K n v3 v14 L3 v26=some r):VE (eu M w0) (q18 M w0 r) [bn p18_3,k18_3 M w0 r m3,.b 4,bn p18_2] .normal (s18_l6 v3 v14 v26):=by
  unfold rf at h
  refine ac (ks':=[bn p18_15,bn p18_16,bn p18_17,k18_3 M w0 r m3,.b 4,bn p18_2]) 2 (ai 3 ?_)
  obtain ⟨v27,h35,h⟩:=bind_some h
  refine eP 20 0 (z9 hK h35) (ae ?_)
  rcases ao h with ⟨h36,h⟩ | ⟨h36,h⟩
  ·
   exact ak 140 h36 (ag 5 (aY (hL3 h)))
  ·
   refine ak 140 h36 (ac (ks':=[bn p18_18,bn p18_19]) 6 (ai 1 (ap (br aZ v27.2) ?_)))
   obtain ⟨h37,h⟩:=aq h
   refine fL (eInt .i64) (0:Int) 22 (.tmp 142) (.tmp 142) 143 (e:=3) (sz:=1) (zc:=[iI 0]) (kd:=.i64) (kd':=.i64) h37 (ae ?_)
   obtain ⟨v28,h38,h⟩:=bind_some h
   have h38:=Option.some.inj h38
   refine aU (ks':=[bn p18_20,bn p18_21,bn qg]) 2 ⟨[(5,.ref 20),(12,.ref 143)],[],[(20,⟨74,9,lm aZ v27.2⟩),(143,⟨3,1,lm (eInt .i64) v28⟩)],[20,143]⟩ ?_ (by subst h38; kernel_rfl)
   exact ai 1 (ap (br aZ v27.2) (ae (ag 1 (bE (p:=p18_22) n (Bf hK n h)))))
theorem BH (hK:KnOk K) (m:Nat):H18_3 M w0 r v3 v14 m (mV K n v3 v14 m):=by
  induction m with
 | zero=>intro v26 h; cases h
 | succ m ih=>intro v26 h; have h:rf K n v3 v14 (mV K n v3 v14 m) v26=some r:=h; exact aR (zL hK ih h)
theorem AH (hK:KnOk K) (hL2:H18_2 M w0 r v3 v10 v14 m2 L2) (h:rG K n v3 v10 v14 L2 v19 v20=some r):VE (eu M w0) (q18 M w0 r) [bn p18_5,ic M w0 r m2,.b 2,bn fc] .normal (s18_l5 v3 v10 v14 v19 v20):=by
  unfold rG at h
  refine ac (ks':=[bn p18_23,bn p18_24,ic M w0 r m2,.b 2,bn fc]) 3 ?_
  rcases ao h with ⟨h26,h⟩ | ⟨h26,h⟩
  ·
   refine ak 50 h26 (ac (ks':=[bn p18_25,bn p18_26,.b 3,bn ku,ic M w0 r m2,.b 2,bn fc]) 7 (ai 2 ?_))
   obtain ⟨h27,h⟩:=aq h
   refine ap (bK 20 9 aZ h27) (ae (ac (ks':=[bn p18_27,bn oW,.b 3,bn ku,ic M w0 r m2,.b 2,bn fc]) 3 ?_))
   rcases ao h with ⟨h28,h⟩ | ⟨h28,h⟩
   ·
    refine ak 56 h28 (ac (ks':=[bn p18_28,bn p18_29,bn oW,.b 3,bn ku,ic M w0 r m2,.b 2,bn fc]) 2 (bL [1,5,9,11,48,49] [] [20] (bm 2 (nu 57 [.eptr 20 9 (v19.toNat) 0,.eptr 20 9 (v19.toNat) 0,.eptr 20 9 (v19.toNat) 0,.eptr 20 9 (v19.toNat) 0,.eptr 20 9 (v19.toNat) 0,.eptr 20 9 (v19.toNat) 1,iI (((gD v20 v19).Item).Grow),.eptr 20 9 (v19.toNat) 0,.eptr 20 9 (v19.toNat) 0,.eptr 20 9 (v19.toNat) 0,.eptr 20 9 (v19.toNat) 1,iI (((gD v20 v19).Item).Grow),.eptr 20 9 (v19.toNat) 0,.eptr 20 9 (v19.toNat) 5,.eptr 20 9 (v19.toNat) 0,.eptr 20 9 (v19.toNat) 6]) [] [] [strS 20 ⟨74,9,lm aZ (List.set v20 v19.toNat ({ (gD v20 v19) with factor:=((gD v20 v19).Item).Grow }:aI))⟩,strS 20 ⟨74,9,lm aZ (List.set (List.set v20 v19.toNat ({ (gD v20 v19) with factor:=((gD v20 v19).Item).Grow }:aI)) v19.toNat ({ (gD (List.set v20 v19.toNat ({ (gD v20 v19) with factor:=((gD v20 v19).Item).Grow }:aI)) v19) with weight:=((gD v20 v19).Item).Grow }:aI))⟩] (am [.v 0 1,.v 0 2,.v 0 1,.v 0 1,.v 0 1,.v 0 1] (d_v (aJ 3 1 aZ aZ (aH h27).2 (fun _=>rfl)) (am [.v 0 2,.v 0 2,.v 0 2,.v 0 2] (d_v (aJ 3 1 aZ aZ (aH h27).2 (fun _=>rfl)) (am [.v 0 2,.v 0 1] (aj (e_s (m:=0) (bV 20 74 9 5 aZ aZ ({ (gD v20 v19) with factor:=((gD v20 v19).Item).Grow }:aI) (aH h27).2 (fun _=>rfl))) (am [.v 1 2,.v 1 1] (aj (e_s (m:=1) (bV 20 74 9 6 aZ aZ (L:=(List.set v20 v19.toNat ({ (gD v20 v19) with factor:=((gD v20 v19).Item).Grow }:aI))) (j:=v19.toNat) ({ (gD (List.set v20 v19.toNat ({ (gD v20 v19) with factor:=((gD v20 v19).Item).Grow }:aI)) v19) with weight:=((gD v20 v19).Item).Grow }:aI) (eD (aH h27).2) (fun _=>rfl))) bk)))))))) ?_)))
    obtain ⟨v21,h29,h⟩:=bind_some h
    have h29:=Option.some.inj h29
    refine aU (ks':=[bn p18_29,bn oW,.b 3,bn ku,ic M w0 r m2,.b 2,bn fc]) 0 ⟨[(1,iI v3),(5,.ref 20),(9,iI v14),(11,.eptr 20 9 (v19.toNat) 0),(48,iI (v10.length:Int)),(49,iI v19)],[],[(20,⟨74,9,lm aZ v21⟩)],[20]⟩ ?_ (by subst h29; kernel_rfl)
    exact bm 1 (nu 73 [.eptr 20 9 (v19.toNat) 0,.eptr 20 9 (v19.toNat) 0,.eptr 20 9 (v19.toNat) 0,.eptr 20 9 (v19.toNat) 0,.eptr 20 9 (v19.toNat) 0,iI (((gD v21 v19).Item).Base),.eptr 20 9 (v19.toNat) 0,.eptr 20 9 (v19.toNat) 0,.eptr 20 9 (v19.toNat) 7,iI ((gD v21 v19).size),.bool (decide ((((gD v21 v19).Item).Base)>((gD v21 v19).size))),.eptr 20 9 (v19.toNat) 0,.eptr 20 9 (v19.toNat) 8]) [] [] [strS 20 ⟨74,9,lm aZ (List.set v21 v19.toNat ({ (gD v21 v19) with fixed:=(decide ((((gD v21 v19).Item).Base)>((gD v21 v19).size))) }:aI))⟩] (am (vz 5) (d_v (aJ 3 0 aZ aZ (L:=v21) (j:=v19.toNat) (by rw [←h29]; exact (eD (eD (aH h27).2))) (fun _=>rfl)) (am (vz 3) (d_v (aJ 3 7 aZ aZ (L:=v21) (j:=v19.toNat) (by rw [←h29]; exact (eD (eD (aH h27).2))) (fun _=>rfl)) (am [.v 0 1,.v 0 2,.v 0 1] (aj (e_s (m:=0) (bV 20 74 9 8 aZ aZ (L:=v21) (j:=v19.toNat) ({ (gD v21 v19) with fixed:=(decide ((((gD v21 v19).Item).Base)>((gD v21 v19).size))) }:aI) (by rw [←h29]; exact (eD (eD (aH h27).2))) (fun _=>rfl))) bk)))))) (ag 0 (yv hK hL2 h))
   ·
    refine ak 56 h28 (ac (ks':=[bn p18_30,bn p18_31,bn oW,.b 3,bn ku,ic M w0 r m2,.b 2,bn fc]) 2 (bL [1,5,9,11,48,49] [] [20] (bm 2 (nu 86 [.eptr 20 9 (v19.toNat) 0,.eptr 20 9 (v19.toNat) 0,.eptr 20 9 (v19.toNat) 0,.eptr 20 9 (v19.toNat) 0,.eptr 20 9 (v19.toNat) 0,.eptr 20 9 (v19.toNat) 2,iI (((gD v20 v19).Item).Shrink),.eptr 20 9 (v19.toNat) 0,.eptr 20 9 (v19.toNat) 0,.eptr 20 9 (v19.toNat) 0,.eptr 20 9 (v19.toNat) 0,iI (((gD v20 v19).Item).Base),.eptr 20 9 (v19.toNat) 0,.eptr 20 9 (v19.toNat) 0,.eptr 20 9 (v19.toNat) 0,.eptr 20 9 (v19.toNat) 2,iI (((gD v20 v19).Item).Shrink),iI (w64 ((((gD v20 v19).Item).Base)*(((gD v20 v19).Item).Shrink))),iI (w64 (Int.tdiv (w64 ((((gD v20 v19).Item).Base)*(((gD v20 v19).Item).Shrink))) 1000)),.eptr 20 9 (v19.toNat) 0,.eptr 20 9 (v19.toNat) 5,.eptr 20 9 (v19.toNat) 0,.eptr 20 9 (v19.toNat) 6]) [] [] [strS 20 ⟨74,9,lm aZ (List.set v20 v19.toNat ({ (gD v20 v19) with factor:=((gD v20 v19).Item).Shrink }:aI))⟩,strS 20 ⟨74,9,lm aZ (List.set (List.set v20 v19.toNat ({ (gD v20 v19) with factor:=((gD v20 v19).Item).Shrink }:aI)) v19.toNat ({ (gD (List.set v20 v19.toNat ({ (gD v20 v19) with factor:=((gD v20 v19).Item).Shrink }:aI)) v19) with weight:=(w64 (Int.tdiv (w64 ((((gD v20 v19).Item).Base)*(((gD v20 v19).Item).Shrink))) 1000)) }:aI))⟩] (am [.v 0 1,.v 0 2,.v 0 1,.v 0 1,.v 0 1,.v 0 1] (d_v (aJ 3 2 aZ aZ (aH h27).2 (fun _=>rfl)) (am [.v 0 2,.v 0 2,.v 0 2,.v 0 2] (d_v (aJ 3 0 aZ aZ (aH h27).2 (fun _=>rfl)) (am [.v 0 2,.v 0 2,.v 0 2,.v 0 2] (d_v (aJ 3 2 aZ aZ (aH h27).2 (fun _=>rfl)) (am [.v 0 2,.v 0 2,.v 0 2,.v 0 1] (aj (e_s (m:=0) (bV 20 74 9 5 aZ aZ ({ (gD v20 v19) with factor:=((gD v20 v19).Item).Shrink }:aI) (aH h27).2 (fun _=>rfl))) (am [.v 1 2,.v 1 1] (aj (e_s (m:=1) (bV 20 74 9 6 aZ aZ (L:=(List.set v20 v19.toNat ({ (gD v20 v19) with factor:=((gD v20 v19).Item).Shrink }:aI))) (j:=v19.toNat) ({ (gD (List.set v20 v19.toNat ({ (gD v20 v19) with factor:=((gD v20 v19).Item).Shrink }:aI)) v19) with weight:=(w64 (Int.tdiv (w64 ((((gD v20 v19).Item).Base)*(((gD v20 v19).Item).Shrink))) 1000)) }:aI) (eD (aH h27).2) (fun _=>rfl))) bk)))))))))) ?_)))
    obtain ⟨v22,h30,h⟩:=bind_some h
    have h30:=Option.some.inj h30
    refine aU (ks':=[bn p18_31,bn oW,.b 3,bn ku,ic M w0 r m2,.b 2,bn fc]) 0 ⟨[(1,iI v3),(5,.ref 20),(9,iI v14),(11,.eptr 20 9 (v19.toNat) 0),(48,iI (v10.length:Int)),(49,iI v19)],[],[(20,⟨74,9,lm aZ v22⟩)],[20]⟩ ?_ (by subst h30; kernel_rfl)
    exact bm 1 (nu 109 [.eptr 20 9 (v19.toNat) 0,.eptr 20 9 (v19.toNat) 0,.eptr 20 9 (v19.toNat) 0,.eptr 20 9 (v19.toNat) 0,.eptr 20 9 (v19.toNat) 0,iI (((gD v22 v19).Item).Base),.eptr 20 9 (v19.toNat) 0,.eptr 20 9 (v19.toNat) 0,.eptr 20 9 (v19.toNat) 7,iI ((gD v22 v19).size),.bool (decide ((((gD v22 v19).Item).Base)<((gD v22 v19).size))),.eptr 20 9 (v19.toNat) 0,.eptr 20 9 (v19.toNat) 8]) [] [] [strS 20 ⟨74,9,lm aZ (List.set v22 v19.toNat ({ (gD v22 v19) with fixed:=(decide ((((gD v22 v19).Item).Base)<((gD v22 v19).size))) }:aI))⟩] (am (vz 5) (d_v (aJ 3 0 aZ aZ (L:=v22) (j:=v19.toNat) (by rw [←h30]; exact (eD (eD (aH h27).2))) (fun _=>rfl)) (am (vz 3) (d_v (aJ 3 7 aZ aZ (L:=v22) (j:=v19.toNat) (by rw [←h30]; exact (eD (eD (aH h27).2))) (fun _=>rfl)) (am [.v 0 1,.v 0 2,.v 0 1] (aj (e_s (m:=0) (bV 20 74 9 8 aZ aZ (L:=v22) (j:=v19.toNat) ({ (gD v22 v19) with fixed:=(decide ((((gD v22 v19).Item).Base)<((gD v22 v19).size))) }:aI) (by rw [←h30]; exact (eD (eD (aH h27).2))) (fun _=>rfl))) bk)))))) (ag 0 (yv hK hL2 h))
  ·
   exact ak 50 h26 (ag 7 (bE (p:=p18_32) n (BH hK n h)))
theorem Dg (hK:KnOk K) (m:Nat):H18_2 M w0 r v3 v10 v14 m (nZ K n v3 v10 v14 m):=by
  induction m with
 | zero=>intro v19 v20 h; cases h
 | succ m ih=>intro v19 v20 h; have h:rG K n v3 v10 v14 (nZ K n v3 v10 v14 m) v19 v20=some r:=h; exact aR (AH hK ih h)
theorem xc (hK:KnOk K) (h:qb K n v3 v10 v14=some r):VE (eu M w0) (q18 M w0 r) [bn p18_33] .normal (s18_j2 v3 v10 v14):=by
  unfold qb at h
  exact ac (ks':=[bn p18_34,bn p18_35,bn fc]) 2 (ai 1 (ap (br aZ v10) (ae (ag 1 (bE (p:=p18_36) n (Dg hK n h))))))
theorem Aq (hK:KnOk K) (hL1:H18_1 M w0 r v1 v3 m1 L1) (h:rp K n v1 v3 L1 v8 v9 v10=some r):VE (eu M w0) (q18 M w0 r) [bn p18_7,k18_1 M w0 r m1,.b 0,bn kM] .normal (s18_l1 v1 v3 v8 v9 v10):=by
  unfold rp at h
  refine ac (ks':=[bn p18_37,bn p18_38,k18_1 M w0 r m1,.b 0,bn kM]) 3 ?_
  rcases ao h with ⟨h11,h⟩ | ⟨h11,h⟩
  ·
   refine ak 24 h11 (ac (ks':=[bn p18_39,bn p18_40,.b 1,bn p18_41,k18_1 M w0 r m1,.b 0,bn kM]) 5 (ai 1 ?_))
   obtain ⟨h12,h⟩:=aq h
   refine ap (bF aF aF h12 (jv) (fun _=>rfl)) (ae (ac (ks':=[bn p18_42,bn p18_43,.b 1,bn p18_41,k18_1 M w0 r m1,.b 0,bn kM]) 1 (bL [1,5,6,7,8,21,22,23] [8] [20] ?_)))
   obtain ⟨v11,h13,h⟩:=bind_some h
   obtain ⟨v12,h14,h⟩:=bind_some h
   obtain ⟨h15,h⟩:=aq h
   refine bm 1 (nu 28 [.ref 20,iI v9,.agg (aF (gD v1 v9)),.agg (aF v11),.agg (aF (gD v1 v9)),iI v12,.agg (aZ ({ eh with Item:=v11,size:=v12 }:aI)),.eptr 20 9 (v9.toNat) 0]) [] [] [strS 20 ⟨74,9,lm aZ (List.set v10 v9.toNat ({ eh with Item:=v11,size:=v12 }:aI))⟩] (am (vz 3) (aj (e_c 0 1 31 (vQ hK h13)) (am [.v 0 1] (aj (e_c 0 1 33 (t6 hK h14)) (am [.v 0 1] (d_v (aN 20 9 aZ (L:=v10) h15) (aj (e_s (m:=0) (bV 20 74 9 0 aZ aZ ({ eh with Item:=v11,size:=v12 }:aI) (aH h15).2 (fun _=>rfl))) bk))))))) ?_
   obtain ⟨v13,h16,h⟩:=bind_some h
   have h16:=Option.some.inj h16
   refine aU (ks':=[bn p18_43,.b 1,bn p18_41,k18_1 M w0 r m1,.b 0,bn kM]) 0 ⟨[(1,iI v3),(5,.ref 20),(6,iI v8),(7,iI v9),(21,.sl (lm aF v1)),(22,iI (v1.length:Int)),(23,iI v9)],[],[(20,⟨74,9,lm aZ v13⟩)],[20]⟩ ?_ (by subst h16; kernel_rfl)
   refine ai 3 ?_
   obtain ⟨h17,h⟩:=aq h
   exact ap (bK 20 9 aZ h17) (aO 5 1 (ap (aJ 3 7 aZ aZ (aH h17).2 (fun _=>rfl)) (ae (ag 2 (aY (hL1 h))))))
  ·
   refine ak 24 h11 (ac (ks':=[bn p18_44,bn p18_33]) 10 ?_)
   rcases ao h with ⟨h18,h⟩ | ⟨h18,h⟩
   ·
    exact ak 46 h18 (ag 2 (xc hK h))
   ·
    exact ak 46 h18 (ag 2 (xc hK h))
theorem Co (hK:KnOk K) (m:Nat):H18_1 M w0 r v1 v3 m (oI K n v1 v3 m):=by
  induction m with
 | zero=>intro v8 v9 v10 h; cases h
 | succ m ih=>intro v8 v9 v10 h; have h:rp K n v1 v3 (oI K n v1 v3 m) v8 v9 v10=some r:=h; exact aR (Aq hK ih h)
theorem uq (hK:KnOk K) (h:g9 K n v1 v2=some r):ACalls Try.prog 18 [.sl (lm aF v1),iI v2] (fun v s=>v = .ref 143∧look 143 s.r=some ⟨3,1,lm (eInt .i64) r⟩):=by
  refine bj (cat Try.f18 []) Try.func18 Try.ntmps18 fun M w0=>(bb ⟨[(0,.sl (lm aF v1)),(1,iI v2)],[],[],[]⟩ ?_)
  unfold g9 at h
  obtain ⟨v3,h1,h⟩:=bind_some h
  have h1:=Option.some.inj h1
  refine aU (ks':=[bn [1,1,0],bn [1,1,1]]) 5 ⟨[(0,.sl (lm aF v1)),(1,iI v3)],[],[],[]⟩ ?_ (by subst h1; kernel_rfl)
  refine ai 1 (ap (br aF v1) ?_)
  obtain ⟨h2,h⟩:=aq h
  refine fL aZ (eh:aI) 72 (.tmp 19) (.tmp 19) 20 (e:=74) (sz:=9) (zc:=aZ eh) (kd:=.i64) (kd':=.i64) h2 (ae ?_)
  obtain ⟨v4,h3,h⟩:=bind_some h
  have h3:=Option.some.inj h3
  refine aU (ks':=[bn p18_45,bn p18_46,bn kM]) 4 ⟨[(0,.sl (lm aF v1)),(1,iI v3),(5,.ref 20),(6,iI 0)],[],[(20,⟨74,9,lm aZ v4⟩)],[20]⟩ ?_ (by subst h3; kernel_rfl)
  exact ai 1 (ap (br aF v1) (ae (ag 1 (bE (p:=p18_47) n (Co hK n h)))))
end
def p12_0:=pth 0 11111
def p12_1:=pth 0 11110
noncomputable section
abbrev cx12 (M:Nat→Prop) (w0:Base):Cx:=⟨Try.prog,17,M,w0⟩
abbrev q12 (M:Nat→Prop) (w0:Base) (r:Bool):=bodyPost Try.prog Try.f12 (RetQ M w0 (fun v _=>v = .bool r))
def s12_j1 (v5:Bool):AS:=⟨[(0,.bool v5)],[],[],[]⟩
variable {K:Kn} {n:Nat} {M:Nat→Prop} {w0:Base} {r v5:Bool} 
abbrev mR (p:List Nat):Kont:=.c (cat Try.f12 p)
theorem yw (hK:KnOk K) (h:tv K n v5=some r):VE (cx12 M w0) (q12 M w0 r) [mR p12_0] .normal (s12_j1 v5):=by
  unfold tv at h
  refine aM 1 ?_
  cases h
  exact bu
theorem g_law19_fit_ok (hK:KnOk K) (h:sV K n=some r):ACalls Try.prog 12 [] (fun v _=>v = .bool r):=by
  refine bj (cat Try.f12 []) Try.func12 Try.ntmps12 fun M w0=>(bb ⟨[],[],[],[]⟩ ?_)
  unfold sV at h
  refine ac (ks':=[mR [1,0],mR [1,1]]) 3 (ai 1 ?_)
  obtain ⟨v1,h1,h⟩:=bind_some h
  refine cv 1004 (xB hK h1) (df 21) (ae (ac (ks':=[mR [1,1,0],mR [1,1,1]]) 1 (ai 3 ?_)))
  obtain ⟨v2,h2,h⟩:=bind_some h
  refine cv 1008 (uq hK h2) (df 143) (ae (ac (ks':=[mR p12_1,mR p12_0]) 1 (ai 2 (c9 1004 ?_))))
  obtain ⟨v3,h3,h⟩:=bind_some h
  refine aC (w8 hK h3) (aO 4 1 ?_)
  rcases ao h with ⟨h4,h⟩ | ⟨h4,h⟩
  ·
   refine aK 12 h4 (aO 6 2 (c9 1008 ?_))
   obtain ⟨v4,h5,h⟩:=bind_some h
   exact aC (w8 hK h5) (ae (ag 0 (yw hK h)))
  ·
   exact aK 12 h4 (ae (ag 0 (yw hK h)))
end
noncomputable section
abbrev cx76 (M:Nat→Prop) (w0:Base):Cx:=⟨Try.prog,11,M,w0⟩
abbrev q76 (M:Nat→Prop) (w0:Base) (r:Bool):=bodyPost Try.prog Try.f76 (RetQ M w0 (fun v _=>v = .bool r))
def s76_j1 (v2:Bool):AS:=⟨[(2,.bool v2)],[],[],[]⟩
variable {K:Kn} {n:Nat} {M:Nat→Prop} {w0:Base} {r:Bool} {v1:aQ} {v2:Bool} 
abbrev cF76 (p:List Nat):Kont:=.c (cat Try.f76 p)
theorem xw (hK:KnOk K) (h:qA K n v2=some r):VE (cx76 M w0) (q76 M w0 r) [cF76 [1,1]] .normal (s76_j1 v2):=by
  unfold qA at h
  refine aM 1 ?_
  cases h
  exact bu
theorem eC (hK:KnOk K) (h:dm K n v1=some r):ACalls Try.prog 76 [.agg (cE v1)] (fun v _=>v = .bool r):=by
  refine bj (cat Try.f76 []) Try.func76 Try.ntmps76 fun M w0=>(bb ⟨[(0,.agg (cE v1))],[],[],[]⟩ ?_)
  unfold dm at h
  refine ac (ks':=[cF76 [1,0],cF76 [1,1]]) 3 (ai 4 ?_)
  rcases ao h with ⟨h1,h⟩ | ⟨h1,h⟩
  ·
   exact aK 6 h1 (ae (ag 0 (xw hK h)))
  ·
   exact aK 6 h1 (ae (ag 0 (xw hK h)))
end
def p42_0:=pth 0 110100
def kL:=pth 0 110100100111001001
def lM:=pth 0 1101001001110011
def cJ:=pth 0 11010011
def eZ:=pth 0 11010010011100
def p42_5:=pth 0 110100100111001000
def p42_6:=pth 0 110100100101
def p42_7:=pth 0 11010010011
def p42_8:=pth 0 1101001001110
def p42_9:=pth 0 11010000
def p42_10:=pth 0 11010001
def p42_11:=pth 0 1101001
def p42_12:=pth 0 1101001000
def p42_13:=pth 0 1101001001
def p42_14:=pth 0 110100100100
def p42_15:=pth 0 11010
noncomputable section
abbrev dh (M:Nat→Prop) (w0:Base):Cx:=⟨Try.prog,130,M,w0⟩
abbrev q42 (M:Nat→Prop) (w0:Base) (r:Bool):=bodyPost Try.prog Try.f42 (RetQ M w0 (fun v _=>v = .bool r))
abbrev bi (p:List Nat):Kont:=.c (cat Try.f42 p)
abbrev cD (M:Nat→Prop) (w0:Base) (r:Bool) (m1:Nat):Kont:=kl (dh M w0) (q42 M w0 r) [.b 0,bi [1,1]] (cat Try.f42 p42_0) m1
def s42_j5 (v1:List bU) (v2 v23:Int) (v43:Bool):AS:=⟨[(0,.sl (lm bg v1)),(1,iI v2),(5,iI v23),(6,.ptr 6 0),(7,iI 3),(125,.bool v43)],[(6,aL ((gD v1 v23).Style))],[],[6]⟩
def s42_j4 (v1:List bU) (v2 v23:Int) (v40:Bool):AS:=⟨[(0,.sl (lm bg v1)),(1,iI v2),(5,iI v23),(6,.ptr 6 0),(7,iI 2),(125,.bool v40)],[(6,aL ((gD v1 v23).Style))],[],[6]⟩
def s42_j3 (v1:List bU) (v2 v23:Int) (v37:Bool):AS:=⟨[(0,.sl (lm bg v1)),(1,iI v2),(5,iI v23),(6,.ptr 6 0),(7,iI 1),(125,.bool v37)],[(6,aL ((gD v1 v23).Style))],[],[6]⟩
def s42_j2 (v1:List bU) (v2 v23:Int) (v34:Bool):AS:=⟨[(0,.sl (lm bg v1)),(1,iI v2),(5,iI v23),(6,.ptr 6 0),(7,iI 0),(125,.bool v34)],[(6,aL ((gD v1 v23).Style))],[],[6]⟩
def s42_j1 (v1:List bU) (v2 v23:Int) (v31:Bool):AS:=⟨[(0,.sl (lm bg v1)),(1,iI v2),(5,iI v23),(6,.ptr 6 0),(107,.bool v31)],[(6,aL ((gD v1 v23).Style))],[],[6]⟩
def s42_l6 (v1:List bU) (v2 v23:Int):AS:=⟨[(0,.sl (lm bg v1)),(1,iI v2),(5,iI v23)],[],[],[]⟩
abbrev nE (M:Nat→Prop) (w0:Base) (r:Bool) (v1:List bU) (v2:Int) (m1:Nat) (L1:Int→Option Bool):Prop:=∀ {v23:Int},L1 v23=some r→LP (dh M w0) (q42 M w0 r) [.b 0,bi [1,1]] (cat Try.f42 p42_0) m1 (s42_l6 v1 v2 v23)
variable {K:Kn} {n:Nat} {M:Nat→Prop} {w0:Base} {r:Bool} {v1:List bU} {v2 v23:Int} {v31 v34 v37 v40 v43:Bool} {m1:Nat} {L1:Int→Option Bool}
theorem yd (hK:KnOk K) (hL1:nE M w0 r v1 v2 m1 L1) (h:n4 K n v1 v2 v23 L1 v43=some r):VE (dh M w0) (q42 M w0 r) [bi kL,.b 3,bi lM,kl (dh M w0) (q42 M w0 r) [.b 2,.b 1,bi cJ,cD M w0 r m1,.b 0,bi [1,1]] (cat Try.f42 eZ) 36,.b 2,.b 1,bi cJ,cD M w0 r m1,.b 0,bi [1,1]] .normal (s42_j5 v1 v2 v23 v43):=by
  unfold n4 at h
  rcases ao h with ⟨h84,h⟩ | ⟨h84,h⟩
  ·
   refine ak 125 h84 (aM 13 ?_)
   cases h
   exact bu
  ·
   exact ak 125 h84 (aU (ks':=[kl (dh M w0) (q42 M w0 r) [.b 2,.b 1,bi cJ,cD M w0 r m1,.b 0,bi [1,1]] (cat Try.f42 eZ) 36,.b 2,.b 1,bi cJ,cD M w0 r m1,.b 0,bi [1,1]]) 4 ⟨[(0,.sl (lm bg v1)),(1,iI v2),(5,iI v23),(6,.ptr 6 0),(7,iI 4)],[(6,aL ((gD v1 v23).Style))],[],[6]⟩ (aY (aR (ag 10 (aY (hL1 h))))))
theorem xS (hK:KnOk K) (hL1:nE M w0 r v1 v2 m1 L1) (h:qq K n v1 v2 v23 L1 v40=some r):VE (dh M w0) (q42 M w0 r) [bi kL,.b 3,bi lM,kl (dh M w0) (q42 M w0 r) [.b 2,.b 1,bi cJ,cD M w0 r m1,.b 0,bi [1,1]] (cat Try.f42 eZ) 37,.b 2,.b 1,bi cJ,cD M w0 r m1,.b 0,bi [1,1]] .normal (s42_j4 v1 v2 v23 v40):=by
  unfold qq at h
  rcases ao h with ⟨h80,h⟩ | ⟨h80,h⟩
  ·
   refine ak 125 h80 (aM 13 ?_)
   cases h
   exact bu
  ·
   refine ak 125 h80 (aU (ks':=[kl (dh M w0) (q42 M w0 r) [.b 2,.b 1,bi cJ,cD M w0 r m1,.b 0,bi [1,1]] (cat Try.f42 eZ) 37,.b 2,.b 1,bi cJ,cD M w0 r m1,.b 0,bi [1,1]]) 4 ⟨[(0,.sl (lm bg v1)),(1,iI v2),(5,iI v23),(6,.ptr 6 0),(7,iI 3)],[(6,aL ((gD v1 v23).Style))],[],[6]⟩ (aY (aR (ac (ks':=[bi p42_5,bi kL,.b 3,bi lM,kl (dh M w0) (q42 M w0 r) [.b 2,.b 1,bi cJ,cD M w0 r m1,.b 0,bi [1,1]] (cat Try.f42 eZ) 36,.b 2,.b 1,bi cJ,cD M w0 r m1,.b 0,bi [1,1]]) 8 (ai 4 ?_)))))
   obtain ⟨v41,h81,h⟩:=bind_some h
   refine aC (eC hK h81) (aO 7 2 ?_)
   rcases ao h with ⟨h82,h⟩ | ⟨h82,h⟩
   ·
    exact aK 118 h82 (ae (ag 0 (yd hK hL1 h)))
   ·
    refine aK 118 h82 (aO 11 4 ?_)
    obtain ⟨v42,h83,h⟩:=bind_some h
    exact aC (eC hK h83) (ae (ag 0 (yd hK hL1 h)))
theorem vp (hK:KnOk K) (hL1:nE M w0 r v1 v2 m1 L1) (h:rq K n v1 v2 v23 L1 v37=some r):VE (dh M w0) (q42 M w0 r) [bi kL,.b 3,bi lM,kl (dh M w0) (q42 M w0 r) [.b 2,.b 1,bi cJ,cD M w0 r m1,.b 0,bi [1,1]] (cat Try.f42 eZ) 38,.b 2,.b 1,bi cJ,cD M w0 r m1,.b 0,bi [1,1]] .normal (s42_j3 v1 v2 v23 v37):=by
  unfold rq at h
  rcases ao h with ⟨h76,h⟩ | ⟨h76,h⟩
  ·
   refine ak 125 h76 (aM 13 ?_)
   cases h
   exact bu
  ·
   refine ak 125 h76 (aU (ks':=[kl (dh M w0) (q42 M w0 r) [.b 2,.b 1,bi cJ,cD M w0 r m1,.b 0,bi [1,1]] (cat Try.f42 eZ) 38,.b 2,.b 1,bi cJ,cD M w0 r m1,.b 0,bi [1,1]]) 4 ⟨[(0,.sl (lm bg v1)),(1,iI v2),(5,iI v23),(6,.ptr 6 0),(7,iI 2)],[(6,aL ((gD v1 v23).Style))],[],[6]⟩ (aY (aR (ac (ks':=[bi p42_5,bi kL,.b 3,bi lM,kl (dh M w0) (q42 M w0 r) [.b 2,.b 1,bi cJ,cD M w0 r m1,.b 0,bi [1,1]] (cat Try.f42 eZ) 37,.b 2,.b 1,bi cJ,cD M w0 r m1,.b 0,bi [1,1]]) 8 (ai 4 ?_)))))
   obtain ⟨v38,h77,h⟩:=bind_some h
   refine aC (eC hK h77) (aO 7 2 ?_)
   rcases ao h with ⟨h78,h⟩ | ⟨h78,h⟩
   ·
    exact aK 118 h78 (ae (ag 0 (xS hK hL1 h)))
   ·
    refine aK 118 h78 (aO 11 4 ?_)
    obtain ⟨v39,h79,h⟩:=bind_some h
    exact aC (eC hK h79) (ae (ag 0 (xS hK hL1 h)))
theorem yA (hK:KnOk K) (hL1:nE M w0 r v1 v2 m1 L1) (h:si K n v1 v2 v23 L1 v34=some r):VE (dh M w0) (q42 M w0 r) [bi kL,.b 3,bi lM,kl (dh M w0) (q42 M w0 r) [.b 2,.b 1,bi cJ,cD M w0 r m1,.b 0,bi [1,1]] (cat Try.f42 eZ) 39,.b 2,.b 1,bi cJ,cD M w0 r m1,.b 0,bi [1,1]] .normal (s42_j2 v1 v2 v23 v34):=by
  unfold si at h
  rcases ao h with ⟨h72,h⟩ | ⟨h72,h⟩
  ·
   refine ak 125 h72 (aM 13 ?_)
   cases h
   exact bu
  ·
   refine ak 125 h72 (aU (ks':=[kl (dh M w0) (q42 M w0 r) [.b 2,.b 1,bi cJ,cD M w0 r m1,.b 0,bi [1,1]] (cat Try.f42 eZ) 39,.b 2,.b 1,bi cJ,cD M w0 r m1,.b 0,bi [1,1]]) 4 ⟨[(0,.sl (lm bg v1)),(1,iI v2),(5,iI v23),(6,.ptr 6 0),(7,iI 1)],[(6,aL ((gD v1 v23).Style))],[],[6]⟩ (aY (aR (ac (ks':=[bi p42_5,bi kL,.b 3,bi lM,kl (dh M w0) (q42 M w0 r) [.b 2,.b 1,bi cJ,cD M w0 r m1,.b 0,bi [1,1]] (cat Try.f42 eZ) 38,.b 2,.b 1,bi cJ,cD M w0 r m1,.b 0,bi [1,1]]) 8 (ai 4 ?_)))))
   obtain ⟨v35,h73,h⟩:=bind_some h
   refine aC (eC hK h73) (aO 7 2 ?_)
   rcases ao h with ⟨h74,h⟩ | ⟨h74,h⟩
   ·
    exact aK 118 h74 (ae (ag 0 (vp hK hL1 h)))
   ·
    refine aK 118 h74 (aO 11 4 ?_)
    obtain ⟨v36,h75,h⟩:=bind_some h
    exact aC (eC hK h75) (ae (ag 0 (vp hK hL1 h)))
theorem dT (hK:KnOk K) (hL1:nE M w0 r v1 v2 m1 L1) (h:c8 K n v1 v2 v23 L1 v31=some r):VE (dh M w0) (q42 M w0 r) [bi p42_6,bi p42_7,.b 1,bi cJ,cD M w0 r m1,.b 0,bi [1,1]] .normal (s42_j1 v1 v2 v23 v31):=by
  unfold c8 at h
  rcases ao h with ⟨h68,h⟩ | ⟨h68,h⟩
  ·
   refine ak 107 h68 (aM 10 ?_)
   cases h
   exact bu
  ·
   refine ak 107 h68 (aU (ks':=[bi p42_8,.b 2,.b 1,bi cJ,cD M w0 r m1,.b 0,bi [1,1]]) 5 ⟨[(0,.sl (lm bg v1)),(1,iI v2),(5,iI v23),(6,.ptr 6 0),(7,iI 0)],[(6,aL ((gD v1 v23).Style))],[],[6]⟩ (jG 40 (c:=cat Try.f42 eZ) (by kernel_rfl) (aR (ac (ks':=[bi p42_5,bi kL,.b 3,bi lM,kl (dh M w0) (q42 M w0 r) [.b 2,.b 1,bi cJ,cD M w0 r m1,.b 0,bi [1,1]] (cat Try.f42 eZ) 39,.b 2,.b 1,bi cJ,cD M w0 r m1,.b 0,bi [1,1]]) 8 (ai 4 ?_)))))
   obtain ⟨v32,h69,h⟩:=bind_some h
   refine aC (eC hK h69) (aO 7 2 ?_)
   rcases ao h with ⟨h70,h⟩ | ⟨h70,h⟩
   ·
    exact aK 118 h70 (ae (ag 0 (yA hK hL1 h)))
   ·
    refine aK 118 h70 (aO 11 4 ?_)
    obtain ⟨v33,h71,h⟩:=bind_some h
    exact aC (eC hK h71) (ae (ag 0 (yA hK hL1 h)))
theorem Aj (hK:KnOk K) (hL1:nE M w0 r v1 v2 m1 L1) (h:jd K n v1 v2 L1 v23=some r):VE (dh M w0) (q42 M w0 r) [bi p42_0,cD M w0 r m1,.b 0,bi [1,1]] .normal (s42_l6 v1 v2 v23):=by
  unfold jd at h
  refine ac (ks':=[bi p42_9,bi p42_10,bi p42_11,cD M w0 r m1,.b 0,bi [1,1]]) 2 (ai 2 (ap (br bg v1) (ae ?_)))
  rcases ao h with ⟨h43,h⟩ | ⟨h43,h⟩
  ·
   refine ak 11 h43 (ac (ks':=[bi p42_12,bi p42_13,.b 1,bi cJ,cD M w0 r m1,.b 0,bi [1,1]]) 5 (ai 2 ?_))
   obtain ⟨h44,h⟩:=aq h
   refine ap (bF bg bg h44 (dU) (fun _=>rfl)) (ae (ac (ks':=[bi p42_14,bi p42_6,bi p42_7,.b 1,bi cJ,cD M w0 r m1,.b 0,bi [1,1]]) 2 (ai 2 ?_)))
   obtain ⟨h45,h⟩:=aq h
   refine ap (bF bg bg h45 (dU) (fun _=>rfl)) (aO 8 5 ?_)
   rcases ao h with ⟨h46,h⟩ | ⟨h46,h⟩
   ·
    exact aK 26 h46 (ae (ag 0 (dT hK hL1 h)))
   ·
    refine aK 26 h46 (aO 10 2 ?_)
    obtain ⟨v24,h47,h⟩:=bind_some h
    refine aC (eC hK h47) (aO 14 3 ?_)
    rcases ao h with ⟨h48,h⟩ | ⟨h48,h⟩
    ·
     exact aK 32 h48 (ae (ag 0 (dT hK hL1 h)))
    ·
     refine aK 32 h48 (aO 16 2 ?_)
     obtain ⟨v25,h49,h⟩:=bind_some h
     refine aC (eC hK h49) (aO 20 3 ?_)
     rcases ao h with ⟨h50,h⟩ | ⟨h50,h⟩
     ·
      exact aK 38 h50 (ae (ag 0 (dT hK hL1 h)))
     ·
      refine aK 38 h50 (aO 22 2 ?_)
      obtain ⟨v26,h51,h⟩:=bind_some h
      refine aC (eC hK h51) (aO 26 3 ?_)
      rcases ao h with ⟨h52,h⟩ | ⟨h52,h⟩
      ·
       exact aK 44 h52 (ae (ag 0 (dT hK hL1 h)))
      ·
       refine aK 44 h52 (aO 28 2 ?_)
       obtain ⟨v27,h53,h⟩:=bind_some h
       refine aC (eC hK h53) (aO 32 3 ?_)
       rcases ao h with ⟨h54,h⟩ | ⟨h54,h⟩
       ·
        exact aK 50 h54 (ae (ag 0 (dT hK hL1 h)))
       ·
        refine aK 50 h54 (aO 34 2 ?_)
        obtain ⟨v28,h55,h⟩:=bind_some h
        refine aC (eC hK h55) (aO 38 3 ?_)
        rcases ao h with ⟨h56,h⟩ | ⟨h56,h⟩
        ·
         exact aK 56 h56 (ae (ag 0 (dT hK hL1 h)))
        ·
         refine aK 56 h56 (aO 40 2 ?_)
         obtain ⟨v29,h57,h⟩:=bind_some h
         refine aC (eC hK h57) (aO 44 3 ?_)
         rcases ao h with ⟨h58,h⟩ | ⟨h58,h⟩
         ·
          exact aK 62 h58 (ae (ag 0 (dT hK hL1 h)))
         ·
          refine aK 62 h58 (aO 46 2 ?_)
          obtain ⟨v30,h59,h⟩:=bind_some h
          refine aC (eC hK h59) (aO 50 3 ?_)
          rcases ao h with ⟨h60,h⟩ | ⟨h60,h⟩
          ·
           exact aK 68 h60 (ae (ag 0 (dT hK hL1 h)))
          ·
           refine aK 68 h60 (aO 55 5 ?_)
           rcases ao h with ⟨h61,h⟩ | ⟨h61,h⟩
           ·
            exact aK 73 h61 (ae (ag 0 (dT hK hL1 h)))
           ·
            refine aK 73 h61 (aO 60 5 ?_)
            rcases ao h with ⟨h62,h⟩ | ⟨h62,h⟩
            ·
             exact aK 78 h62 (ae (ag 0 (dT hK hL1 h)))
            ·
             refine aK 78 h62 (aO 65 5 ?_)
             rcases ao h with ⟨h63,h⟩ | ⟨h63,h⟩
             ·
              exact aK 83 h63 (ae (ag 0 (dT hK hL1 h)))
             ·
              refine aK 83 h63 (aO 70 5 ?_)
              rcases ao h with ⟨h64,h⟩ | ⟨h64,h⟩
              ·
               exact aK 88 h64 (ae (ag 0 (dT hK hL1 h)))
              ·
               refine aK 88 h64 (aO 75 5 ?_)
               rcases ao h with ⟨h65,h⟩ | ⟨h65,h⟩
               ·
                exact aK 93 h65 (ae (ag 0 (dT hK hL1 h)))
               ·
                refine aK 93 h65 (aO 80 5 ?_)
                rcases ao h with ⟨h66,h⟩ | ⟨h66,h⟩
                ·
                 exact aK 98 h66 (ae (ag 0 (dT hK hL1 h)))
                ·
                 refine aK 98 h66 (aO 85 5 ?_)
                 rcases ao h with ⟨h67,h⟩ | ⟨h67,h⟩
                 ·
                  exact aK 103 h67 (ae (ag 0 (dT hK hL1 h)))
                 ·
                  exact aK 103 h67 (ae (ag 0 (dT hK hL1 h)))
  ·
   refine ak 11 h43 (ac (ks':=[bi [1,1,0],bi [1,1,1]]) 6 (ai 1 (ap (br bg v1) (ae (aM 1 ?_)))))
   cases h
   exact bu
theorem zh (hK:KnOk K) (m:Nat):nE M w0 r v1 v2 m (nc K n v1 v2 m):=by
  induction m with
 | zero=>intro v23 h; cases h
 | succ m ih=>intro v23 h; have h:jd K n v1 v2 (nc K n v1 v2 m) v23=some r:=h; exact aR (Aj hK ih h)
theorem tF (hK:KnOk K) (h:tB K n v1 v2=some r):ACalls Try.prog 42 [.sl (lm bg v1),iI v2] (fun v _=>v = .bool r):=by
  refine bj (cat Try.f42 []) Try.func42 Try.ntmps42 fun M w0=>(bb ⟨[(0,.sl (lm bg v1)),(1,iI v2)],[],[],[]⟩ ?_)
  unfold tB at h
  exact ag 6 (bE (p:=p42_15) n (zh hK n h))
end
end Go.Proofs.Ytlpndemhnpajiaa

/- The runs of the functions that FlexLayouts reaches do what their plain forms say, part 2. Made by a program. -/
import Derived.Test.YtlpndemhnpajiaaSnGk
import Derived.Test.YtlpndemhnpajiaaSnP1
namespace Go.Proofs.Ytlpndemhnpajiaa
open Go.RowKit
set_option maxRecDepth 20000
set_option linter.all false
set_option linter.unusedVariables false
set_option linter.unusedSimpArgs false
def p27_0:=pth 0 1110100
def p27_1:=pth 0 1110100100111
def ge:=pth 0 111010011
def p27_3:=pth 0 111010010011000
def p27_4:=pth 0 11101001001100001
def p27_5:=pth 0 1110100100110001
def p27_6:=pth 0 111010010011110
def p27_7:=pth 0 111010010011111
def p27_8:=pth 0 1110100100111110
def p27_9:=pth 0 1110100100111111
def p27_10:=pth 0 11101001001100000
def p27_11:=pth 0 111010000
def p27_12:=pth 0 111010001
def p27_13:=pth 0 11101001
def p27_14:=pth 0 111010010000
def p27_15:=pth 0 111010010001
def p27_16:=pth 0 11101001001
def p27_17:=pth 0 111010010010
def p27_18:=pth 0 111010010011
def p27_19:=pth 0 11101001001100
def p27_20:=pth 0 111010
noncomputable section
abbrev kW (M:Nat→Prop) (w0:Base):Cx:=⟨Try.prog,59,M,w0⟩
abbrev q27 (M:Nat→Prop) (w0:Base) (r:List Int):=bodyPost Try.prog Try.f27 (RetQ M w0 (fun v s=>v = .ref 2003∧look 2003 s.r=some ⟨3,1,lm (eInt .i64) r⟩))
abbrev bS (p:List Nat):Kont:=.c (cat Try.f27 p)
abbrev fz (M:Nat→Prop) (w0:Base) (r:List Int) (m1:Nat):Kont:=kl (kW M w0) (q27 M w0 r) [.b 0,bS [1,1,1]] (cat Try.f27 p27_0) m1
abbrev k27_2 (M:Nat→Prop) (w0:Base) (r:List Int) (m1 m2:Nat):Kont:=kl (kW M w0) (q27 M w0 r) [.b 2,bS p27_1,.b 1,bS ge,fz M w0 r m1,.b 0,bS [1,1,1]] (cat Try.f27 p27_3) m2
def s27_j3 (v1:List ab) (v10:Int) (v17:List Int):AS:=⟨[(0,.sl (lm aB v1)),(3,.ref 2003),(4,iI v10)],[],[(2003,⟨3,1,lm (eInt .i64) v17⟩)],[2003]⟩
def s27_j1 (v1:List ab) (v10:Int) (v11:List Int) (v14:Int) (v15:Bool):AS:=⟨[(0,.sl (lm aB v1)),(3,.ref 2003),(4,iI v10),(5,iI v14),(41,.bool v15)],[],[(2003,⟨3,1,lm (eInt .i64) v11⟩)],[2003]⟩
def s27_l2 (v1:List ab) (v10:Int) (v11:List Int) (v14:Int):AS:=⟨[(0,.sl (lm aB v1)),(3,.ref 2003),(4,iI v10),(5,iI v14)],[],[(2003,⟨3,1,lm (eInt .i64) v11⟩)],[2003]⟩
def s27_l4 (v1:List ab) (v10:Int) (v11:List Int):AS:=⟨[(0,.sl (lm aB v1)),(3,.ref 2003),(4,iI v10)],[],[(2003,⟨3,1,lm (eInt .i64) v11⟩)],[2003]⟩
abbrev pr (M:Nat→Prop) (w0:Base) (r:List Int) (v1:List ab) (m1:Nat) (L1:Int→(List Int)→Option (List Int)):Prop:=∀ {v10:Int} {v11:List Int},L1 v10 v11=some r→LP (kW M w0) (q27 M w0 r) [.b 0,bS [1,1,1]] (cat Try.f27 p27_0) m1 (s27_l4 v1 v10 v11)
abbrev H27_2 (M:Nat→Prop) (w0:Base) (r:List Int) (v1:List ab) (v10:Int) (v11:List Int) (m1 m2:Nat) (L2:Int→Option (List Int)):Prop:=∀ {v14:Int},L2 v14=some r→LP (kW M w0) (q27 M w0 r) [.b 2,bS p27_1,.b 1,bS ge,fz M w0 r m1,.b 0,bS [1,1,1]] (cat Try.f27 p27_3) m2 (s27_l2 v1 v10 v11 v14)
variable {K:Kn} {n:Nat} {M:Nat→Prop} {w0:Base} {r:List Int} {v1:List ab} {v10:Int} {v11:List Int} {v14:Int} {v15:Bool} {v17:List Int} {m1:Nat} {L1:Int→(List Int)→Option (List Int)} {m2:Nat} {L2:Int→Option (List Int)}
theorem xe (hK:KnOk K) (hL1:pr M w0 r v1 m1 L1) (h:oQ K n v1 v10 L1 v17=some r):VE (kW M w0) (q27 M w0 r) [bS ge,fz M w0 r m1,.b 0,bS [1,1,1]] .normal (s27_j3 v1 v10 v17):=by
  unfold oQ at h
  exact ag 1 (aY (hL1 h))
theorem yK (hK:KnOk K) (hL1:pr M w0 r v1 m1 L1) (hL2:H27_2 M w0 r v1 v10 v11 m1 m2 L2) (h:mF K n v1 v10 v11 v14 L1 L2 v15=some r):VE (kW M w0) (q27 M w0 r) [bS p27_4,bS p27_5,k27_2 M w0 r m1 m2,.b 2,bS p27_1,.b 1,bS ge,fz M w0 r m1,.b 0,bS [1,1,1]] .normal (s27_j1 v1 v10 v11 v14 v15):=by
  unfold mF at h
  rcases ao h with ⟨h43,h⟩ | ⟨h43,h⟩
  ·
   exact ak 41 h43 (ag 5 (aY (hL2 h)))
  ·
   refine ak 41 h43 (ac (ks':=[bS p27_6,bS p27_7,.b 1,bS ge,fz M w0 r m1,.b 0,bS [1,1,1]]) 8 (ai 3 (c9 2003 ?_)))
   obtain ⟨h44,h⟩:=aq h
   refine ap (nV (eInt .i64) v11 (0:Int) v14 22 (.tmp 45) none (some (.tmp 46)) 47 (e:=3) (sz:=1) (by kernel_rfl) (by kernel_rfl) (by kernel_rfl) (by kernel_rfl) (by kernel_rfl) (by kernel_rfl) (fun _=>rfl) (fun k hk=>by subst hk; kernel_rfl) h44) ?_
   obtain ⟨h45,h⟩:=aq h
   refine ap (y_apn 48 3 1 (eInt .i64) (rfl) (fun _=>rfl) h45) (ae ?_)
   obtain ⟨v16,h46,h⟩:=bind_some h
   have h46:=Option.some.inj h46
   refine aU (ks':=[bS p27_8,bS p27_9,.b 1,bS ge,fz M w0 r m1,.b 0,bS [1,1,1]]) 1 ⟨[(0,.sl (lm aB v1)),(3,.sl (lm (eInt .i64) v11)),(4,iI v10),(5,iI v14),(6,.ref 48)],[],[(48,⟨3,1,lm (eInt .i64) v16⟩)],[48]⟩ ?_ (by subst h46; kernel_rfl)
   refine ai 3 ?_
   obtain ⟨h47,h⟩:=aq h
   refine ap (cb 52 48 3 1 (eInt .i64) (rfl) (fun _=>rfl) h47) (ae (ai 3 ?_))
   obtain ⟨h48,h⟩:=aq h
   refine ap (nV (eInt .i64) v11 v14 (v11.length:Int) 22 (.tmp 54) (some (.tmp 55)) none 56 (e:=3) (sz:=1) (by kernel_rfl) (by kernel_rfl) (by kernel_rfl) (by kernel_rfl) (by kernel_rfl) (by kernel_rfl) (fun _=>rfl) (fun k hk=>by subst hk; kernel_rfl) h48) ?_
   obtain ⟨h49,h⟩:=aq h
   exact ap (cb 57 48 3 1 (eInt .i64) (rfl) (fun _=>rfl) h49) (ae (ac (ks':=[bS ge,fz M w0 r m1,.b 0,bS [1,1,1]]) 1 (kN 48 2003 (ag 0 (xe hK hL1 h)))))
theorem CN (hK:KnOk K) (hL1:pr M w0 r v1 m1 L1) (hL2:H27_2 M w0 r v1 v10 v11 m1 m2 L2) (h:qz K n v1 v10 v11 L1 L2 v14=some r):VE (kW M w0) (q27 M w0 r) [bS p27_3,k27_2 M w0 r m1 m2,.b 2,bS p27_1,.b 1,bS ge,fz M w0 r m1,.b 0,bS [1,1,1]] .normal (s27_l2 v1 v10 v11 v14):=by
  unfold qz at h
  refine ac (ks':=[bS p27_10,bS p27_4,bS p27_5,k27_2 M w0 r m1 m2,.b 2,bS p27_1,.b 1,bS ge,fz M w0 r m1,.b 0,bS [1,1,1]]) 2 (bL [0,3,4,5] [] [2003] ?_)
  rcases ao h with ⟨h39,h⟩ | ⟨h39,h⟩
  ·
   obtain ⟨h40,h⟩:=aq h
   obtain ⟨h41,h⟩:=aq h
   obtain ⟨h42,h⟩:=aq h
   exact bm 0 (nu 21 [iI v14,.bool (decide (v14>0)),.bool true,.sl (lm aB v1),.ref 2003,iI v14,iI (w64 (v14 - 1)),.eptr 2003 1 (((w64 (v14 - 1))).toNat) 0,iI (gD v11 ((w64 (v14 - 1)))),.cptr (ax (gD v1 ((gD v11 ((w64 (v14 - 1))))))),.cptr (List.drop 2 (ax (gD v1 ((gD v11 ((w64 (v14 - 1)))))))),.cptr (List.drop 48 (List.drop 2 (ax (gD v1 ((gD v11 ((w64 (v14 - 1))))))))),iI (((gD v1 ((gD v11 ((w64 (v14 - 1)))))).Style).Order),.sl (lm aB v1),iI v10,.cptr (ax (gD v1 v10)),.cptr (List.drop 2 (ax (gD v1 v10))),.cptr (List.drop 48 (List.drop 2 (ax (gD v1 v10)))),iI (((gD v1 v10).Style).Order),.bool (decide ((((gD v1 ((gD v11 ((w64 (v14 - 1)))))).Style).Order)>(((gD v1 v10).Style).Order))),.bool (decide ((((gD v1 ((gD v11 ((w64 (v14 - 1)))))).Style).Order)>(((gD v1 v10).Style).Order)))]) [] [] [] (am (vz 2) (aj (e_b 0 23 (e:=(decide (v14>0))) (b:=true) h39) (am (vz 4) (d_v (aN 2003 1 (eInt .i64) (L:=v11) h40) (d_v (aJ 3 0 (eInt .i64) (eInt .i64) (aH h40).2 (fun _=>rfl)) (d_v (bF aB ax h41 (cj) (b9)) (am (vz 5) (d_v (bF aB ax h42 (cj) (b9)) (am (vz 5) bk))))))))) (ag 0 (yK hK hL1 hL2 h))
  ·
   exact bm 0 (nu 21 [iI v14,.bool (decide (v14>0)),.bool false,.tup [],.tup [],.tup [],.tup [],.tup [],.tup [],.tup [],.tup [],.tup [],.tup [],.tup [],.tup [],.tup [],.tup [],.tup [],.tup [],.tup [],.bool false]) [] [] [] (am (vz 2) (aj (e_b 0 23 (e:=(decide (v14>0))) (b:=false) h39) (aj (aD 0 1) (aj (aD 0 1) (aj (aD 0 1) (aj (aD 0 1) (aj (aD 0 1) (aj (aD 0 1) (aj (aD 0 1) (aj (aD 0 1) (aj (aD 0 1) (aj (aD 0 1) (aj (aD 0 1) (aj (aD 0 1) (aj (aD 0 1) (aj (aD 0 1) (aj (aD 0 1) (aj (aD 0 1) (aj (aD 0 1) (am [.v 0 1] bk)))))))))))))))))))) (ag 0 (yK hK hL1 hL2 h))
theorem Dj (hK:KnOk K) (hL1:pr M w0 r v1 m1 L1) (m:Nat):H27_2 M w0 r v1 v10 v11 m1 m (mQ K n v1 v10 v11 L1 m):=by
  induction m with
 | zero=>intro v14 h; cases h
 | succ m ih=>intro v14 h; have h:qz K n v1 v10 v11 L1 (mQ K n v1 v10 v11 L1 m) v14=some r:=h; exact aR (CN hK hL1 ih h)
theorem BN (hK:KnOk K) (hL1:pr M w0 r v1 m1 L1) (h:qF K n v1 L1 v10 v11=some r):VE (kW M w0) (q27 M w0 r) [bS p27_0,fz M w0 r m1,.b 0,bS [1,1,1]] .normal (s27_l4 v1 v10 v11):=by
  unfold qF at h
  refine ac (ks':=[bS p27_11,bS p27_12,bS p27_13,fz M w0 r m1,.b 0,bS [1,1,1]]) 2 (ai 2 (ap (br aB v1) (ae ?_)))
  rcases ao h with ⟨h30,h⟩ | ⟨h30,h⟩
  ·
   refine ak 10 h30 (ac (ks':=[bS p27_14,bS p27_15,bS p27_16,.b 1,bS ge,fz M w0 r m1,.b 0,bS [1,1,1]]) 6 (ai 2 ?_))
   obtain ⟨h31,h⟩:=aq h
   refine ap (bF aB ax h31 (cj) (b9)) (aO 4 1 ?_)
   obtain ⟨v12,h32,h⟩:=bind_some h
   refine aC (wk hK h32) (ae ?_)
   rcases ao h with ⟨h33,h⟩ | ⟨h33,h⟩
   ·
    exact ak 18 h33 (ag 4 (xe hK hL1 h))
   ·
    exact ak 18 h33 (ac (ks':=[bS p27_17,bS p27_18,.b 1,bS ge,fz M w0 r m1,.b 0,bS [1,1,1]]) 3 (ai 1 (ap (br (eInt .i64) v11) (ae (ag 2 (bE (p:=p27_19) n (Dj hK hL1 n h)))))))
  ·
   refine ak 10 h30 (aM 8 ?_)
   cases h
   exact cP
theorem Bg (hK:KnOk K) (m:Nat):pr M w0 r v1 m (mW K n v1 m):=by
  induction m with
 | zero=>intro v10 v11 h; cases h
 | succ m ih=>intro v10 v11 h; have h:qF K n v1 (mW K n v1 m) v10 v11=some r:=h; exact aR (BN hK ih h)
theorem BP (hK:KnOk K) (h:qW K n v1=some r):ACalls Try.prog 27 [.sl (lm aB v1)] (fun v s=>v = .ref 2003∧look 2003 s.r=some ⟨3,1,lm (eInt .i64) r⟩):=by
  refine bj (cat Try.f27 []) Try.func27 Try.ntmps27 fun M w0=>(bb ⟨[(0,.sl (lm aB v1))],[],[],[]⟩ ?_)
  unfold qW at h
  exact ac (ks':=[bS p27_20,.b 0,bS [1,1,1]]) 8 (cw 2003 3 3 1 (ag 0 (bE (p:=p27_20) n (Bg hK n h))))
end
noncomputable section
variable {K:Kn} {n:Nat} {M:Nat→Prop} {w0:Base} {r v1:Int} 
theorem fY (hK:KnOk K) (h:dk K n v1=some r):ACalls Try.prog 82 [iI v1] (fun v _=>v=iI r):=by
  refine bj (cat Try.f82 []) Try.func82 Try.ntmps82 fun M w0=>(bb ⟨[(0,iI v1)],[],[],[]⟩ ?_)
  unfold dk at h
  refine aM 5 ?_
  cases h
  exact bu
end
noncomputable section
variable {K:Kn} {n:Nat} {M:Nat→Prop} {w0:Base} {r:Int} {v1:ay} 
theorem qN (hK:KnOk K) (h:gq K n v1=some r):ACalls Try.prog 84 [.agg (bh v1)] (fun v _=>v=iI r):=by
  refine bj (cat Try.f84 []) Try.func84 Try.ntmps84 fun M w0=>(bb ⟨[(0,.agg (bh v1))],[],[],[]⟩ ?_)
  unfold gq at h
  refine aM 5 ?_
  cases h
  exact bu
end
noncomputable section
variable {K:Kn} {n:Nat} {M:Nat→Prop} {w0:Base} {r v1:Int} 
theorem uw (hK:KnOk K) (h:gh K n v1=some r):ACalls Try.prog 103 [iI v1] (fun v _=>v=iI r):=by
  refine bj (cat Try.f103 []) Try.func103 Try.ntmps103 fun M w0=>(bb ⟨[(0,iI v1)],[],[],[]⟩ ?_)
  unfold gh at h
  refine aM 5 ?_
  cases h
  exact bu
end
def p90_0:=pth 0 110101
def p90_1:=pth 0 11010100
def p90_2:=pth 0 11010101
def p90_3:=pth 0 11010111
def p90_4:=pth 0 1101011100
def p90_5:=pth 0 1101011101
noncomputable section
variable {K:Kn} {n:Nat} {M:Nat→Prop} {w0:Base} {r:Int×Bool} {v1:aQ} {v2:Int} 
abbrev ip (p:List Nat):Kont:=.c (cat Try.f90 p)
theorem d4 (hK:KnOk K) (h:cW K n v1 v2=some r):ACalls Try.prog 90 [.agg (cE v1),iI v2] (fun v _=>v = .tup [iI r.1,.bool r.2]):=by
  refine bj (cat Try.f90 []) Try.func90 Try.ntmps90 fun M w0=>(bb ⟨[(0,.agg (cE v1)),(1,iI v2)],[],[],[]⟩ ?_)
  unfold cW at h
  refine ac (ks':=[ip p90_0,.b 0,ip [1,1]]) 8 ?_
  rcases ao h with ⟨h1,h⟩ | ⟨h1,h⟩
  ·
   refine ak 8 h1 (ac (ks':=[ip p90_1,ip p90_2,.b 0,ip [1,1]]) 2 (ai 2 ?_))
   obtain ⟨v3,h2,h⟩:=bind_some h
   refine aC (uw hK h2) (ae (aM 3 ?_))
   cases h
   exact dv
  ·
   refine ak 8 h1 (ac (ks':=[ip p90_3,.b 0,ip [1,1]]) 3 ?_)
   rcases ao h with ⟨h3,h⟩ | ⟨h3,h⟩
   ·
    refine ak 13 h3 (ac (ks':=[ip p90_4,ip p90_5,.b 0,ip [1,1]]) 2 (bL [1,2] [2] [] ?_))
    obtain ⟨v4,h4,h⟩:=bind_some h
    obtain ⟨v5,h5,h⟩:=bind_some h
    refine bm 2 (nu 15 [iI v2,iI v4,.ptr 2 1,iI v1.Value,iI (max v1.Value (-1000000)),iI (min (max v1.Value (-1000000)) 1000000),iI (w64 (v4*(min (max v1.Value (-1000000)) 1000000))),iI (w64 (Int.tdiv (w64 (v4*(min (max v1.Value (-1000000)) 1000000))) 10000)),iI v5]) [] [] [stp Try.prog 24 Try.f90 p90_4 9,stp Try.prog 24 Try.f90 p90_4 10] (am [.v 0 1] (aj (e_c 0 1 16 (fY hK h4)) (am (vz 6) (aj (e_c 0 1 23 (uw hK h5)) (aj (e_d 0) (aj (e_d 1) bk)))))) (aM 3 ?_)
    cases h
    exact dv
   ·
    refine ak 13 h3 (aM 6 ?_)
    cases h
    exact dv
end
def p85_0:=pth 0 111010
def dL:=pth 0 1110100
def p85_2:=pth 0 11101001000
def p85_3:=pth 0 11101001001
def fJ:=pth 0 111010011
def p85_5:=pth 0 111010010010
def p85_6:=pth 0 111010010011
def p85_7:=pth 0 11101001001111
noncomputable section
abbrev dS (M:Nat→Prop) (w0:Base):Cx:=⟨Try.prog,55,M,w0⟩
abbrev q85 (M:Nat→Prop) (w0:Base) (r:ay):=bodyPost Try.prog Try.f85 (RetQ M w0 (fun v _=>v = .agg (bh r)))
variable {K:Kn} {n:Nat} {M:Nat→Prop} {w0:Base} {r:ay} {v1:aE} {v2 v3:Int} 
abbrev bI (p:List Nat):Kont:=.c (cat Try.f85 p)
theorem sr (hK:KnOk K) (h:fH K n v1 v2 v3=some r):ACalls Try.prog 85 [.agg (aL v1),iI v2,iI v3] (fun v _=>v = .agg (bh r)):=by
  refine bj (cat Try.f85 []) Try.func85 Try.ntmps85 fun M w0=>(bb ⟨[(0,.agg (aL v1)),(1,iI v2),(2,iI v3)],[],[],[]⟩ ?_)
  unfold fH at h
  refine aU (ks':=[bI p85_0,.b 0,bI [1,1,1]]) 8 ⟨[(1,iI v2),(3,.ptr 3 0),(6,.ptr 6 0),(7,.ptr 7 0),(8,iI 0)],[(3,aL v1),(6,bh dp),(7,bh ({ dp with Content:=v3 }:ay))],[],[3,6,7]⟩ (jG 40 (c:=cat Try.f85 dL) (by kernel_rfl) (aR (ac (ks':=[bI p85_2,bI p85_3,.b 1,bI fJ,kl (dS M w0) (q85 M w0 r) [.b 0,bI [1,1,1]] (cat Try.f85 dL) 39,.b 0,bI [1,1,1]]) 8 (ai 5 ?_))))
  obtain ⟨v4,h1,h⟩:=bind_some h
  refine aC (d4 hK h1) (ae (ac (ks':=[bI p85_5,bI p85_6,.b 1,bI fJ,kl (dS M w0) (q85 M w0 r) [.b 0,bI [1,1,1]] (cat Try.f85 dL) 39,.b 0,bI [1,1,1]]) 1 (ai 5 ?_)))
  obtain ⟨v5,h2,h⟩:=bind_some h
  refine aC (d4 hK h2) (ae (ac (ks':=[bI p85_7,.b 1,bI fJ,kl (dS M w0) (q85 M w0 r) [.b 0,bI [1,1,1]] (cat Try.f85 dL) 39,.b 0,bI [1,1,1]]) 4 (ai 5 ?_)))
  obtain ⟨v6,h3,h⟩:=bind_some h
  refine aC (fY hK h3) (ae (aU (ks':=[kl (dS M w0) (q85 M w0 r) [.b 0,bI [1,1,1]] (cat Try.f85 dL) 39,.b 0,bI [1,1,1]]) 2 ⟨[(1,iI v2),(3,.ptr 3 0),(6,.ptr 6 0),(7,.ptr 7 0),(8,iI 1)],[(3,aL v1),(6,bh dp),(7,bh (⟨⟨v4.1,0,0,0⟩,⟨v6,0,0,0⟩,⟨(max v5.1 0),0,0,0⟩,v3⟩:ay))],[],[3,6,7]⟩ (aY (aR (ac (ks':=[bI p85_2,bI p85_3,.b 1,bI fJ,kl (dS M w0) (q85 M w0 r) [.b 0,bI [1,1,1]] (cat Try.f85 dL) 38,.b 0,bI [1,1,1]]) 8 (ai 5 ?_))))))
  obtain ⟨v7,h4,h⟩:=bind_some h
  refine aC (d4 hK h4) (ae (ac (ks':=[bI p85_5,bI p85_6,.b 1,bI fJ,kl (dS M w0) (q85 M w0 r) [.b 0,bI [1,1,1]] (cat Try.f85 dL) 38,.b 0,bI [1,1,1]]) 1 (ai 5 ?_)))
  obtain ⟨v8,h5,h⟩:=bind_some h
  refine aC (d4 hK h5) (ae (ac (ks':=[bI p85_7,.b 1,bI fJ,kl (dS M w0) (q85 M w0 r) [.b 0,bI [1,1,1]] (cat Try.f85 dL) 38,.b 0,bI [1,1,1]]) 4 (ai 5 ?_)))
  obtain ⟨v9,h6,h⟩:=bind_some h
  refine aC (fY hK h6) (ae (aU (ks':=[kl (dS M w0) (q85 M w0 r) [.b 0,bI [1,1,1]] (cat Try.f85 dL) 38,.b 0,bI [1,1,1]]) 2 ⟨[(1,iI v2),(3,.ptr 3 0),(6,.ptr 6 0),(7,.ptr 7 0),(8,iI 2)],[(3,aL v1),(6,bh dp),(7,bh (⟨⟨v4.1,v7.1,0,0⟩,⟨v6,v9,0,0⟩,⟨(max v5.1 0),(max v8.1 0),0,0⟩,v3⟩:ay))],[],[3,6,7]⟩ (aY (aR (ac (ks':=[bI p85_2,bI p85_3,.b 1,bI fJ,kl (dS M w0) (q85 M w0 r) [.b 0,bI [1,1,1]] (cat Try.f85 dL) 37,.b 0,bI [1,1,1]]) 8 (ai 5 ?_))))))
  obtain ⟨v10,h7,h⟩:=bind_some h
  refine aC (d4 hK h7) (ae (ac (ks':=[bI p85_5,bI p85_6,.b 1,bI fJ,kl (dS M w0) (q85 M w0 r) [.b 0,bI [1,1,1]] (cat Try.f85 dL) 37,.b 0,bI [1,1,1]]) 1 (ai 5 ?_)))
  obtain ⟨v11,h8,h⟩:=bind_some h
  refine aC (d4 hK h8) (ae (ac (ks':=[bI p85_7,.b 1,bI fJ,kl (dS M w0) (q85 M w0 r) [.b 0,bI [1,1,1]] (cat Try.f85 dL) 37,.b 0,bI [1,1,1]]) 4 (ai 5 ?_)))
  obtain ⟨v12,h9,h⟩:=bind_some h
  refine aC (fY hK h9) (ae (aU (ks':=[kl (dS M w0) (q85 M w0 r) [.b 0,bI [1,1,1]] (cat Try.f85 dL) 37,.b 0,bI [1,1,1]]) 2 ⟨[(1,iI v2),(3,.ptr 3 0),(6,.ptr 6 0),(7,.ptr 7 0),(8,iI 3)],[(3,aL v1),(6,bh dp),(7,bh (⟨⟨v4.1,v7.1,v10.1,0⟩,⟨v6,v9,v12,0⟩,⟨(max v5.1 0),(max v8.1 0),(max v11.1 0),0⟩,v3⟩:ay))],[],[3,6,7]⟩ (aY (aR (ac (ks':=[bI p85_2,bI p85_3,.b 1,bI fJ,kl (dS M w0) (q85 M w0 r) [.b 0,bI [1,1,1]] (cat Try.f85 dL) 36,.b 0,bI [1,1,1]]) 8 (ai 5 ?_))))))
  obtain ⟨v13,h10,h⟩:=bind_some h
  refine aC (d4 hK h10) (ae (ac (ks':=[bI p85_5,bI p85_6,.b 1,bI fJ,kl (dS M w0) (q85 M w0 r) [.b 0,bI [1,1,1]] (cat Try.f85 dL) 36,.b 0,bI [1,1,1]]) 1 (ai 5 ?_)))
  obtain ⟨v14,h11,h⟩:=bind_some h
  refine aC (d4 hK h11) (ae (ac (ks':=[bI p85_7,.b 1,bI fJ,kl (dS M w0) (q85 M w0 r) [.b 0,bI [1,1,1]] (cat Try.f85 dL) 36,.b 0,bI [1,1,1]]) 4 (ai 5 ?_)))
  obtain ⟨v15,h12,h⟩:=bind_some h
  refine aC (fY hK h12) (ae (aU (ks':=[kl (dS M w0) (q85 M w0 r) [.b 0,bI [1,1,1]] (cat Try.f85 dL) 36,.b 0,bI [1,1,1]]) 2 ⟨[(1,iI v2),(3,.ptr 3 0),(6,.ptr 6 0),(7,.ptr 7 0),(8,iI 4)],[(3,aL v1),(6,bh dp),(7,bh (⟨⟨v4.1,v7.1,v10.1,v13.1⟩,⟨v6,v9,v12,v15⟩,⟨(max v5.1 0),(max v8.1 0),(max v11.1 0),(max v14.1 0)⟩,v3⟩:ay))],[],[3,6,7]⟩ (aY (aR (aM 11 ?_)))))
  cases h
  exact bu
end
def p86_0:=pth 6 1
def p86_1:=pth 0 11111
def p86_2:=pth 0 111110
def p86_3:=pth 5 1
def p86_4:=pth 5 101
def p86_5:=pth 0 111101
noncomputable section
abbrev cx86 (M:Nat→Prop) (w0:Base):Cx:=⟨Try.prog,37,M,w0⟩
abbrev q86 (M:Nat→Prop) (w0:Base) (r:Int):=bodyPost Try.prog Try.f86 (RetQ M w0 (fun v _=>v=iI r))
def s86_j2 (v7:Int):AS:=⟨[(7,iI v7)],[],[],[]⟩
def s86_j1 (v1:aE) (v2 v5:Int):AS:=⟨[(1,iI v2),(3,.ptr 3 0),(7,iI v5)],[(3,aL v1)],[],[3]⟩
variable {K:Kn} {n:Nat} {M:Nat→Prop} {w0:Base} {r:Int} {v1:aE} {v2 v3 v5 v7:Int} 
abbrev gY (p:List Nat):Kont:=.c (cat Try.f86 p)
theorem vX (hK:KnOk K) (h:ld K n v7=some r):VE (cx86 M w0) (q86 M w0 r) [gY p86_0] .normal (s86_j2 v7):=by
  unfold ld at h
  refine aM 3 ?_
  cases h
  exact bu
theorem xa (hK:KnOk K) (h:lW K n v1 v2 v5=some r):VE (cx86 M w0) (q86 M w0 r) [gY p86_1] .normal (s86_j1 v1 v2 v5):=by
  unfold lW at h
  refine ac (ks':=[gY p86_2,gY p86_3]) 1 (ai 3 ?_)
  obtain ⟨v6,h3,h⟩:=bind_some h
  refine aC (d4 hK h3) (ae (ac (ks':=[gY p86_4,gY p86_0]) 3 ?_))
  rcases ao h with ⟨h4,h⟩ | ⟨h4,h⟩
  ·
   exact ak 32 h4 (ag 2 (vX hK h))
  ·
   exact ak 32 h4 (ag 2 (vX hK h))
theorem uC (hK:KnOk K) (h:ia K n v1 v2 v3=some r):ACalls Try.prog 86 [.agg (aL v1),iI v2,iI v3] (fun v _=>v=iI r):=by
  refine bj (cat Try.f86 []) Try.func86 Try.ntmps86 fun M w0=>(bb ⟨[(0,.agg (aL v1)),(1,iI v2),(2,iI v3)],[],[],[]⟩ ?_)
  unfold ia at h
  refine ac (ks':=[gY [1,1,0],gY [1,1,1]]) 5 (ai 3 ?_)
  obtain ⟨v4,h1,h⟩:=bind_some h
  refine aC (d4 hK h1) (ae (ac (ks':=[gY p86_5,gY p86_1]) 3 ?_))
  rcases ao h with ⟨h2,h⟩ | ⟨h2,h⟩
  ·
   exact ak 20 h2 (ag 2 (xa hK h))
  ·
   exact ak 20 h2 (ag 2 (xa hK h))
end
def p67_0:=pth 11 1
def p67_1:=pth 10 1001
def p67_2:=pth 10 100111
def p67_3:=pth 10 10011111
def p67_4:=pth 5 1
def p67_5:=pth 5 10
def p67_6:=pth 6 1
def p67_7:=pth 6 10
def p67_8:=pth 7 1
def p67_9:=pth 7 10
def p67_10:=pth 8 1
def p67_11:=pth 8 10
def p67_12:=pth 9 1
def p67_13:=pth 9 101
def p67_14:=pth 10 1
def p67_15:=pth 10 1000
def p67_16:=pth 0 11110
def p67_17:=pth 0 11111
def p67_18:=pth 0 1111101
def p67_19:=pth 0 11111010
noncomputable section
abbrev cx67 (M:Nat→Prop) (w0:Base):Cx:=⟨Try.prog,89,M,w0⟩
abbrev q67 (M:Nat→Prop) (w0:Base) (r:ay):=bodyPost Try.prog Try.f67 (RetQ M w0 (fun v _=>v = .agg (bh r)))
def s67_j3 (v4:ay) (v8:Int) (v13:V4 Int):AS:=⟨[(4,.ptr 4 0),(5,.ptr 5 0)],[(4,bh dp),(5,bh ({ v4 with Margin:=v13,Content:=v8 }:ay))],[],[4,5]⟩
def s67_j2 (v3:Int) (v4:ay) (v8 v9:Int) (v10 v11:Int×Bool) (v12:Bool):AS:=⟨[(4,.ptr 4 0),(5,.ptr 5 0),(8,iI (w64 (v3 - v9))),(10,.bool v10.2),(12,.bool v11.2),(59,.bool v12)],[(4,bh dp),(5,bh ({ v4 with Content:=v8 }:ay))],[],[4,5]⟩
def s67_j1 (v1:aE) (v3:Int) (v4:ay) (v7:Int):AS:=⟨[(1,iI v3),(2,.ptr 2 0),(4,.ptr 4 0),(5,.ptr 5 0),(6,iI v7)],[(2,aL v1),(4,bh dp),(5,bh v4)],[],[2,4,5]⟩
variable {K:Kn} {n:Nat} {M:Nat→Prop} {w0:Base} {r:ay} {v1:aE} {v2 v3:Int} {v4:ay} {v7 v8 v9:Int} {v10 v11:Int×Bool} {v12:Bool} {v13:V4 Int} 
abbrev cz (p:List Nat):Kont:=.c (cat Try.f67 p)
theorem tf (hK:KnOk K) (h:gS K n v4 v8 v13=some r):VE (cx67 M w0) (q67 M w0 r) [.b 0,cz p67_0] .normal (s67_j3 v4 v8 v13):=by
  unfold gS at h
  refine aM 4 ?_
  cases h
  exact bu
theorem vF (hK:KnOk K) (h:lO K n v3 v4 v8 v9 v10 v11 v12=some r):VE (cx67 M w0) (q67 M w0 r) [cz p67_1,.b 0,cz p67_0] .normal (s67_j2 v3 v4 v8 v9 v10 v11 v12):=by
  unfold lO at h
  rcases ao h with ⟨h12,h⟩ | ⟨h12,h⟩
  ·
   exact ak 59 h12 (ag 4 (tf hK h))
  ·
   refine ak 59 h12 (ac (ks':=[cz p67_2,.b 0,cz p67_0]) 3 ?_)
   rcases ao h with ⟨h13,h⟩ | ⟨h13,h⟩
   ·
    exact ak 76 h13 (ag 2 (tf hK h))
   ·
    refine ak 76 h13 (ac (ks':=[cz p67_3,.b 0,cz p67_0]) 3 ?_)
    rcases ao h with ⟨h14,h⟩ | ⟨h14,h⟩
    ·
     exact ak 82 h14 (ag 2 (tf hK h))
    ·
     exact ak 82 h14 (ag 2 (tf hK h))
theorem wj (hK:KnOk K) (h:iM K n v1 v3 v4 v7=some r):VE (cx67 M w0) (q67 M w0 r) [cz p67_4] .normal (s67_j1 v1 v3 v4 v7):=by
  unfold iM at h
  refine ac (ks':=[cz p67_5,cz p67_6]) 1 (ai 3 ?_)
  obtain ⟨v8,h6,h⟩:=bind_some h
  refine aC (uC hK h6) (ae (ac (ks':=[cz p67_7,cz p67_8]) 1 (ai 2 ?_)))
  obtain ⟨v9,h7,h⟩:=bind_some h
  refine aC (qN hK h7) (ae (ac (ks':=[cz p67_9,cz p67_10]) 1 (ai 4 ?_)))
  obtain ⟨v10,h8,h⟩:=bind_some h
  refine aC (d4 hK h8) (ae (ac (ks':=[cz p67_11,cz p67_12]) 1 (ai 4 ?_)))
  obtain ⟨v11,h9,h⟩:=bind_some h
  refine aC (d4 hK h9) (ae (ac (ks':=[cz p67_13,cz p67_14]) 3 ?_))
  rcases ao h with ⟨h10,h⟩ | ⟨h10,h⟩
  ·
   refine ak 57 h10 (aM 5 ?_)
   cases h
   exact bu
  ·
   refine ak 57 h10 (ac (ks':=[cz p67_15,cz p67_1,.b 0,cz p67_0]) 5 (ai 3 ?_))
   rcases ao h with ⟨h11,h⟩ | ⟨h11,h⟩
   ·
    exact aK 62 h11 (ae (ag 0 (vF hK h)))
   ·
    exact aK 62 h11 (ae (ag 0 (vF hK h)))
theorem xK (hK:KnOk K) (h:jl K n v1 v2=some r):ACalls Try.prog 67 [.agg (aL v1),iI v2] (fun v _=>v = .agg (bh r)):=by
  refine bj (cat Try.f67 []) Try.func67 Try.ntmps67 fun M w0=>(bb ⟨[(0,.agg (aL v1)),(1,iI v2)],[],[],[]⟩ ?_)
  unfold jl at h
  refine ac (ks':=[cz [1,0],cz [1,1]]) 3 (ai 1 ?_)
  obtain ⟨v3,h1,h⟩:=bind_some h
  refine aC (fY hK h1) (ae (ac (ks':=[cz [1,1,0],cz [1,1,1]]) 1 (ai 2 ?_)))
  obtain ⟨v4,h2,h⟩:=bind_some h
  refine aC (sr hK h2) (ae (ac (ks':=[cz p67_16,cz p67_17]) 1 (ai 3 ?_)))
  obtain ⟨v5,h3,h⟩:=bind_some h
  refine aC (d4 hK h3) (ae (ac (ks':=[cz p67_18,cz p67_4]) 3 ?_))
  rcases ao h with ⟨h4,h⟩ | ⟨h4,h⟩
  ·
   refine ak 26 h4 (ac (ks':=[cz p67_19,cz p67_4]) 1 (ai 2 ?_))
   obtain ⟨v6,h5,h⟩:=bind_some h
   exact aC (qN hK h5) (ae (ag 0 (wj hK h)))
  ·
   exact ak 26 h4 (ag 2 (wj hK h))
end
noncomputable section
variable {K:Kn} {n:Nat} {M:Nat→Prop} {w0:Base} {r:ah} {v1:Int} 
theorem tO (hK:KnOk K) (h:gI K n v1=some r):ACalls Try.prog 68 [iI v1] (fun v _=>v = .agg (bH r)):=by
  refine bj (cat Try.f68 []) Try.func68 Try.ntmps68 fun M w0=>(bb ⟨[(0,iI v1)],[],[],[]⟩ ?_)
  unfold gI at h
  refine aM 5 ?_
  cases h
  exact bu
end
def p69_0:=pth 0 11101
noncomputable section
variable {K:Kn} {n:Nat} {M:Nat→Prop} {w0:Base} {r:Int} {v1:aQ} {v2 v3:Int} 
abbrev cF69 (p:List Nat):Kont:=.c (cat Try.f69 p)
theorem oU (hK:KnOk K) (h:f8 K n v1 v2 v3=some r):ACalls Try.prog 69 [.agg (cE v1),iI v2,iI v3] (fun v _=>v=iI r):=by
  refine bj (cat Try.f69 []) Try.func69 Try.ntmps69 fun M w0=>(bb ⟨[(0,.agg (cE v1)),(1,iI v2),(2,iI v3)],[],[],[]⟩ ?_)
  unfold f8 at h
  refine ac (ks':=[cF69 [1,0],cF69 [1,1]]) 3 (ai 2 ?_)
  obtain ⟨v4,h1,h⟩:=bind_some h
  refine aC (d4 hK h1) (ae (ac (ks':=[cF69 p69_0,cF69 [1,1,1]]) 3 ?_))
  rcases ao h with ⟨h2,h⟩ | ⟨h2,h⟩
  ·
   refine ak 16 h2 (aM 5 ?_)
   cases h
   exact bu
  ·
   refine ak 16 h2 (aM 5 ?_)
   cases h
   exact bu
end
noncomputable section
variable {K:Kn} {n:Nat} {M:Nat→Prop} {w0:Base} {r v1 v2:Int} 
theorem jX (hK:KnOk K) (h:fk K n v1 v2=some r):ACalls Try.prog 38 [iI v1,iI v2] (fun v _=>v=iI r):=by
  refine bj (cat Try.f38 []) Try.func38 Try.ntmps38 fun M w0=>(bb ⟨[(0,iI v1),(1,iI v2)],[],[],[]⟩ ?_)
  unfold fk at h
  refine aM 5 ?_
  cases h
  exact bu
end
def fh:=pth 10 1
def p15_1:=pth 9 1000
def kz:=pth 9 1
def p15_3:=pth 8 10100
def p15_4:=pth 0 11111
def p15_5:=pth 0 11110100
def my:=pth 9 10001011
def p15_7:=pth 9 10001010100
def p15_8:=pth 9 1000101010011
def p15_9:=pth 9 1000101010000
def p15_10:=pth 9 1000101010001
def p15_11:=pth 9 100010101001
def p15_12:=pth 9 100010101001000
def p15_13:=pth 9 100010101001001
def p15_14:=pth 9 100010110
def p15_15:=pth 9 100010111
def p15_16:=pth 9 1000101110
def p15_17:=pth 9 1000101111
def p15_18:=pth 9 100001
def p15_19:=pth 9 10001
def p15_20:=pth 9 1000101010
def p15_21:=pth 8 1010000
def p15_22:=pth 8 1010001
def p15_23:=pth 8 101001
def p15_24:=pth 8 101001000
def p15_25:=pth 8 101001001
def p15_26:=pth 8 1010011
def p15_27:=pth 8 1010010010
def p15_28:=pth 8 1010010011
def p15_29:=pth 8 10100100110
def p15_30:=pth 8 10100100111
def p15_31:=pth 9 100
def p15_32:=pth 0 1111010000
def p15_33:=pth 0 1111010001
def p15_34:=pth 0 111101001
def p15_35:=pth 0 11110100100
def p15_36:=pth 0 1111010011
def p15_37:=pth 0 111110
def p15_38:=pth 5 1
def p15_39:=pth 5 10
def p15_40:=pth 6 1
def p15_41:=pth 6 101
def p15_42:=pth 7 1
def p15_43:=pth 8 1010
def p15_44:=pth 0 1111010
noncomputable section
abbrev fw (M:Nat→Prop) (w0:Base):Cx:=⟨Try.prog,100,M,w0⟩
abbrev q15 (M:Nat→Prop) (w0:Base) (r:List Int):=bodyPost Try.prog Try.f15 (RetQ M w0 (fun v s=>v = .ref 31∧look 31 s.r=some ⟨3,1,lm (eInt .i64) r⟩))
abbrev bx (p:List Nat):Kont:=.c (cat Try.f15 p)
abbrev gv (M:Nat→Prop) (w0:Base) (r:List Int) (m3:Nat):Kont:=kl (fw M w0) (q15 M w0 r) [.b 4,bx fh] (cat Try.f15 p15_1) m3
abbrev oB (M:Nat→Prop) (w0:Base) (r:List Int) (m2:Nat):Kont:=kl (fw M w0) (q15 M w0 r) [.b 2,bx kz] (cat Try.f15 p15_3) m2
abbrev k15_1 (M:Nat→Prop) (w0:Base) (r:List Int) (m1:Nat):Kont:=kl (fw M w0) (q15 M w0 r) [.b 0,bx p15_4] (cat Try.f15 p15_5) m1
abbrev k15_4 (M:Nat→Prop) (w0:Base) (r:List Int) (m3 m4:Nat):Kont:=kl (fw M w0) (q15 M w0 r) [.b 6,bx my,.b 5,gv M w0 r m3,.b 4,bx fh] (cat Try.f15 p15_7) m4
def s15_j3 (v27:Int) (v28 v29:List Int) (v33 v35:Int):AS:=⟨[(7,.ref 31),(8,.ref 34),(9,iI v27),(12,iI v35),(13,iI v33)],[],[(31,⟨3,1,lm (eInt .i64) v28⟩),(34,⟨3,1,lm (eInt .i64) v29⟩)],[31,34]⟩
def s15_l4 (v27:Int) (v28 v29:List Int) (v32 v33:Int):AS:=⟨[(7,.ref 31),(8,.ref 34),(9,iI v27),(12,iI v32),(13,iI v33)],[],[(31,⟨3,1,lm (eInt .i64) v28⟩),(34,⟨3,1,lm (eInt .i64) v29⟩)],[31,34]⟩
def s15_l5 (v27:Int) (v28 v29:List Int):AS:=⟨[(7,.ref 31),(8,.ref 34),(9,iI v27)],[],[(31,⟨3,1,lm (eInt .i64) v28⟩),(34,⟨3,1,lm (eInt .i64) v29⟩)],[31,34]⟩
def s15_l2 (v2:List Int) (v3 v5 v13 v14:Int) (v15 v16:List Int):AS:=⟨[(0,iI v3),(1,.sl (lm (eInt .i64) v2)),(5,iI v5),(7,.ref 31),(8,.ref 34),(9,iI v13),(10,iI v14)],[],[(31,⟨3,1,lm (eInt .i64) v15⟩),(34,⟨3,1,lm (eInt .i64) v16⟩)],[31,34]⟩
def s15_l1 (v2:List Int) (v3 v5 v6:Int):AS:=⟨[(0,iI v3),(1,.sl (lm (eInt .i64) v2)),(5,iI v5),(6,iI v6)],[],[],[]⟩
abbrev H15_1 (M:Nat→Prop) (w0:Base) (r v2:List Int) (v3:Int) (m1:Nat) (L1:Int→Int→Option (List Int)):Prop:=∀ {v5 v6:Int},L1 v5 v6=some r→LP (fw M w0) (q15 M w0 r) [.b 0,bx p15_4] (cat Try.f15 p15_5) m1 (s15_l1 v2 v3 v5 v6)
abbrev H15_2 (M:Nat→Prop) (w0:Base) (r v2:List Int) (v3 v5:Int) (m2:Nat) (L2:Int→Int→(List Int)→(List Int)→Option (List Int)):Prop:=∀ {v13 v14:Int} {v15 v16:List Int},L2 v13 v14 v15 v16=some r→LP (fw M w0) (q15 M w0 r) [.b 2,bx kz] (cat Try.f15 p15_3) m2 (s15_l2 v2 v3 v5 v13 v14 v15 v16)
abbrev H15_3 (M:Nat→Prop) (w0:Base) (r:List Int) (m3:Nat) (L3:Int→(List Int)→(List Int)→Option (List Int)):Prop:=∀ {v27:Int} {v28 v29:List Int},L3 v27 v28 v29=some r→LP (fw M w0) (q15 M w0 r) [.b 4,bx fh] (cat Try.f15 p15_1) m3 (s15_l5 v27 v28 v29)
abbrev H15_4 (M:Nat→Prop) (w0:Base) (r:List Int) (v27:Int) (v28 v29:List Int) (m3 m4:Nat) (L4:Int→Int→Option (List Int)):Prop:=∀ {v32 v33:Int},L4 v32 v33=some r→LP (fw M w0) (q15 M w0 r) [.b 6,bx my,.b 5,gv M w0 r m3,.b 4,bx fh] (cat Try.f15 p15_7) m4 (s15_l4 v27 v28 v29 v32 v33)
variable {K:Kn} {n:Nat} {M:Nat→Prop} {w0:Base} {r:List Int} {v1:Int} {v2:List Int} {v3 v5 v6 v13 v14:Int} {v15 v16:List Int} {v27:Int} {v28 v29:List Int} {v32 v33 v35:Int} {m1:Nat} {L1:Int→Int→Option (List Int)} {m2:Nat} {L2:Int→Int→(List Int)→(List Int)→Option (List Int)} {m3:Nat} {L3:Int→(List Int)→(List Int)→Option (List Int)} {m4:Nat} {L4:Int→Int→Option (List Int)}
theorem yz (hK:KnOk K) (hL3:H15_3 M w0 r m3 L3) (hL4:H15_4 M w0 r v27 v28 v29 m3 m4 L4) (h:rU K n v27 v28 v29 v33 L3 L4 v35=some r):VE (fw M w0) (q15 M w0 r) [.b 7,bx p15_8,k15_4 M w0 r m3 m4,.b 6,bx my,.b 5,gv M w0 r m3,.b 4,bx fh] .normal (s15_j3 v27 v28 v29 v33 v35):=by
  unfold rU at h
  exact ag 2 (aY (hL4 h))
theorem zy (hK:KnOk K) (hL3:H15_3 M w0 r m3 L3) (hL4:H15_4 M w0 r v27 v28 v29 m3 m4 L4) (h:rg K n v27 v28 v29 L3 L4 v32 v33=some r):VE (fw M w0) (q15 M w0 r) [bx p15_7,k15_4 M w0 r m3 m4,.b 6,bx my,.b 5,gv M w0 r m3,.b 4,bx fh] .normal (s15_l4 v27 v28 v29 v32 v33):=by
  unfold rg at h
  refine ac (ks':=[bx p15_9,bx p15_10,bx p15_11,k15_4 M w0 r m3 m4,.b 6,bx my,.b 5,gv M w0 r m3,.b 4,bx fh]) 2 (ai 2 (ap (br (eInt .i64) v29) (ae ?_)))
  rcases ao h with ⟨h54,h⟩ | ⟨h54,h⟩
  ·
   refine ak 75 h54 (ac (ks':=[bx p15_12,bx p15_13,.b 7,bx p15_8,k15_4 M w0 r m3 m4,.b 6,bx my,.b 5,gv M w0 r m3,.b 4,bx fh]) 5 (bL [7,8,9,12,13] [] [31,34] ?_))
   obtain ⟨h55,h⟩:=aq h
   obtain ⟨h56,h⟩:=aq h
   refine bm 0 (nu 78 [.ref 34,iI v33,.eptr 34 1 (v33.toNat) 0,iI (gD v29 v33),.ref 34,iI v32,.eptr 34 1 (v32.toNat) 0,iI (gD v29 v32),.bool (decide ((gD v29 v33)>(gD v29 v32)))]) [] [] [] (am (vz 2) (d_v (aN 34 1 (eInt .i64) (L:=v29) h55) (d_v (aJ 3 0 (eInt .i64) (eInt .i64) (aH h55).2 (fun _=>rfl)) (am (vz 2) (d_v (aN 34 1 (eInt .i64) (L:=v29) h56) (d_v (aJ 3 0 (eInt .i64) (eInt .i64) (aH h56).2 (fun _=>rfl)) (am [.v 0 1] bk))))))) ?_
   obtain ⟨v34,h57,h⟩:=bind_some h
   have h57:=Option.some.inj h57
   refine aU (ks':=[bx p15_13,.b 7,bx p15_8,k15_4 M w0 r m3 m4,.b 6,bx my,.b 5,gv M w0 r m3,.b 4,bx fh]) 0 ⟨[(7,.ref 31),(8,.ref 34),(9,iI v27),(12,iI v32),(13,iI v33),(86,.bool v34)],[],[(31,⟨3,1,lm (eInt .i64) v28⟩),(34,⟨3,1,lm (eInt .i64) v29⟩)],[31,34]⟩ ?_ (by subst h57; kernel_rfl)
   rcases ao h with ⟨h58,h⟩ | ⟨h58,h⟩
   ·
    exact ak 86 h58 (ag 2 (yz hK hL3 hL4 h))
   ·
    exact ak 86 h58 (ag 2 (yz hK hL3 hL4 h))
  ·
   refine ak 75 h54 (ac (ks':=[bx p15_14,bx p15_15,.b 5,gv M w0 r m3,.b 4,bx fh]) 6 (ai 2 ?_))
   obtain ⟨h59,h⟩:=aq h
   refine ap (bK 31 1 (eInt .i64) h59) (ap (aJ 3 0 (eInt .i64) (eInt .i64) (aH h59).2 (fun _=>rfl)) (aO 5 1 ?_))
   obtain ⟨h60,h⟩:=aq h
   refine ap (bK 31 1 (eInt .i64) h60) (ap (bV 31 3 1 0 (eInt .i64) (eInt .i64) (w64 ((gD v28 v32)+1)) (aH h60).2 (fun _=>rfl)) (ae ?_))
   obtain ⟨v36,h61,h⟩:=bind_some h
   have h61:=Option.some.inj h61
   refine aU (ks':=[bx p15_16,bx p15_17,.b 5,gv M w0 r m3,.b 4,bx fh]) 1 ⟨[(7,.ref 31),(8,.ref 34),(9,iI v27),(12,iI v32)],[],[(31,⟨3,1,lm (eInt .i64) v36⟩),(34,⟨3,1,lm (eInt .i64) v29⟩)],[31,34]⟩ ?_ (by subst h61; kernel_rfl)
   refine ai 2 ?_
   obtain ⟨h62,h⟩:=aq h
   exact ap (bK 34 1 (eInt .i64) h62) (ap (bV 34 3 1 0 (eInt .i64) (eInt .i64) (-1) (aH h62).2 (fun _=>rfl)) (ae (ag 2 (aY (hL3 h)))))
theorem Bn (hK:KnOk K) (hL3:H15_3 M w0 r m3 L3) (m:Nat):H15_4 M w0 r v27 v28 v29 m3 m (oa K n v27 v28 v29 L3 m):=by
  induction m with
 | zero=>intro v32 v33 h; cases h
 | succ m ih=>intro v32 v33 h; have h:rg K n v27 v28 v29 L3 (oa K n v27 v28 v29 L3 m) v32 v33=some r:=h; exact aR (zy hK hL3 ih h)
theorem AZ (hK:KnOk K) (hL3:H15_3 M w0 r m3 L3) (h:qK K n L3 v27 v28 v29=some r):VE (fw M w0) (q15 M w0 r) [bx p15_1,gv M w0 r m3,.b 4,bx fh] .normal (s15_l5 v27 v28 v29):=by
  unfold qK at h
  refine ac (ks':=[bx p15_18,bx p15_19,gv M w0 r m3,.b 4,bx fh]) 3 ?_
  rcases ao h with ⟨h48,h⟩ | ⟨h48,h⟩
  ·
   exact ak 71 h48 (ag 9 (bE (p:=p15_20) n (Bn hK hL3 n h)))
  ·
   refine ak 71 h48 (aM 8 ?_)
   cases h
   exact cP
theorem Bd (hK:KnOk K) (m:Nat):H15_3 M w0 r m (jW K n m):=by
  induction m with
 | zero=>intro v27 v28 v29 h; cases h
 | succ m ih=>intro v27 v28 v29 h; have h:qK K n (jW K n m) v27 v28 v29=some r:=h; exact aR (AZ hK ih h)
theorem za (hK:KnOk K) (hL2:H15_2 M w0 r v2 v3 v5 m2 L2) (h:qD K n v2 v3 v5 L2 v13 v14 v15 v16=some r):VE (fw M w0) (q15 M w0 r) [bx p15_3,oB M w0 r m2,.b 2,bx kz] .normal (s15_l2 v2 v3 v5 v13 v14 v15 v16):=by
  unfold qD at h
  refine ac (ks':=[bx p15_21,bx p15_22,bx p15_23,oB M w0 r m2,.b 2,bx kz]) 2 (ai 2 (ap (br (eInt .i64) v2) (ae ?_)))
  rcases ao h with ⟨h23,h⟩ | ⟨h23,h⟩
  ·
   refine ak 42 h23 (ac (ks':=[bx p15_24,bx p15_25,.b 3,bx p15_26,oB M w0 r m2,.b 2,bx kz]) 5 (ai 3 ?_))
   obtain ⟨h24,h⟩:=aq h
   refine ap (bF (eInt .i64) (eInt .i64) h24 (fun _=>rfl) (fun _=>rfl)) (aO 5 1 ?_)
   obtain ⟨v17,h25,h⟩:=bind_some h
   refine aC (jX hK h25) (ae (ac (ks':=[bx p15_27,bx p15_28,.b 3,bx p15_26,oB M w0 r m2,.b 2,bx kz]) 1 (ai 4 ?_)))
   obtain ⟨h26,h⟩:=aq h
   refine ap (y_quo .i64 (w64 (v3*v17)) h26) ?_
   obtain ⟨h27,h⟩:=aq h
   refine ap (bK 31 1 (eInt .i64) h27) (ap (bV 31 3 1 0 (eInt .i64) (eInt .i64) (w64 (Int.tdiv (w64 (v3*v17)) v5)) (aH h27).2 (fun _=>rfl)) (ae ?_))
   obtain ⟨v18,h28,h⟩:=bind_some h
   have h28:=Option.some.inj h28
   refine aU (ks':=[bx p15_29,bx p15_30,.b 3,bx p15_26,oB M w0 r m2,.b 2,bx kz]) 1 ⟨[(0,iI v3),(1,.sl (lm (eInt .i64) v2)),(5,iI v5),(7,.ref 31),(8,.ref 34),(9,iI v13),(10,iI v14),(11,iI (w64 (v3*v17)))],[],[(31,⟨3,1,lm (eInt .i64) v18⟩),(34,⟨3,1,lm (eInt .i64) v16⟩)],[31,34]⟩ ?_ (by subst h28; kernel_rfl)
   refine ai 4 ?_
   obtain ⟨h29,h⟩:=aq h
   refine ap (y_rem .i64 (w64 (v3*v17)) h29) ?_
   obtain ⟨h30,h⟩:=aq h
   refine ap (bK 34 1 (eInt .i64) h30) (ap (bV 34 3 1 0 (eInt .i64) (eInt .i64) (Int.tmod (w64 (v3*v17)) v5) (aH h30).2 (fun _=>rfl)) (ae ?_))
   obtain ⟨v19,h31,h⟩:=bind_some h
   have h31:=Option.some.inj h31
   refine aU (ks':=[bx p15_30,.b 3,bx p15_26,oB M w0 r m2,.b 2,bx kz]) 0 ⟨[(0,iI v3),(1,.sl (lm (eInt .i64) v2)),(5,iI v5),(7,.ref 31),(8,.ref 34),(9,iI v13),(10,iI v14)],[],[(31,⟨3,1,lm (eInt .i64) v18⟩),(34,⟨3,1,lm (eInt .i64) v19⟩)],[31,34]⟩ ?_ (by subst h31; kernel_rfl)
   refine ai 3 ?_
   obtain ⟨h32,h⟩:=aq h
   exact ap (bK 31 1 (eInt .i64) h32) (ap (aJ 3 0 (eInt .i64) (eInt .i64) (aH h32).2 (fun _=>rfl)) (ae (ag 2 (aY (hL2 h)))))
  ·
   exact ak 42 h23 (ag 7 (bE (p:=p15_31) n (Bd hK n h)))
theorem Aw (hK:KnOk K) (m:Nat):H15_2 M w0 r v2 v3 v5 m (mq K n v2 v3 v5 m):=by
  induction m with
 | zero=>intro v13 v14 v15 v16 h; cases h
 | succ m ih=>intro v13 v14 v15 v16 h; have h:qD K n v2 v3 v5 (mq K n v2 v3 v5 m) v13 v14 v15 v16=some r:=h; exact aR (za hK ih h)
theorem AR (hK:KnOk K) (hL1:H15_1 M w0 r v2 v3 m1 L1) (h:qG K n v2 v3 L1 v5 v6=some r):VE (fw M w0) (q15 M w0 r) [bx p15_5,k15_1 M w0 r m1,.b 0,bx p15_4] .normal (s15_l1 v2 v3 v5 v6):=by
  unfold qG at h
  refine ac (ks':=[bx p15_32,bx p15_33,bx p15_34,k15_1 M w0 r m1,.b 0,bx p15_4]) 2 (ai 2 (ap (br (eInt .i64) v2) (ae ?_)))
  rcases ao h with ⟨h5,h⟩ | ⟨h5,h⟩
  ·
   refine ak 19 h5 (ac (ks':=[bx p15_35,.b 1,bx p15_36,k15_1 M w0 r m1,.b 0,bx p15_4]) 4 (ai 3 ?_))
   obtain ⟨h6,h⟩:=aq h
   refine ap (bF (eInt .i64) (eInt .i64) h6 (fun _=>rfl) (fun _=>rfl)) (aO 5 1 ?_)
   obtain ⟨v7,h7,h⟩:=bind_some h
   exact aC (jX hK h7) (ae (ag 2 (aY (hL1 h))))
  ·
   refine ak 19 h5 (ac (ks':=[bx p15_37,bx p15_38]) 6 (ai 1 (ap (br (eInt .i64) v2) ?_)))
   obtain ⟨h8,h⟩:=aq h
   refine fL (eInt .i64) (0:Int) 22 (.tmp 30) (.tmp 30) 31 (e:=3) (sz:=1) (zc:=[iI 0]) (kd:=.i64) (kd':=.i64) h8 (ae ?_)
   obtain ⟨v8,h9,h⟩:=bind_some h
   have h9:=Option.some.inj h9
   refine aU (ks':=[bx p15_39,bx p15_40]) 1 ⟨[(0,iI v3),(1,.sl (lm (eInt .i64) v2)),(5,iI v5),(7,.ref 31)],[],[(31,⟨3,1,lm (eInt .i64) v8⟩)],[31]⟩ ?_ (by subst h9; kernel_rfl)
   refine ai 1 (ap (br (eInt .i64) v2) ?_)
   obtain ⟨h10,h⟩:=aq h
   refine fL (eInt .i64) (0:Int) 22 (.tmp 33) (.tmp 33) 34 (e:=3) (sz:=1) (zc:=[iI 0]) (kd:=.i64) (kd':=.i64) h10 (ae ?_)
   obtain ⟨v9,h11,h⟩:=bind_some h
   have h11:=Option.some.inj h11
   refine aU (ks':=[bx p15_41,bx p15_42]) 3 ⟨[(0,iI v3),(1,.sl (lm (eInt .i64) v2)),(5,iI v5),(7,.ref 31),(8,.ref 34),(36,.bool (v5 == 0))],[],[(31,⟨3,1,lm (eInt .i64) v8⟩),(34,⟨3,1,lm (eInt .i64) v9⟩)],[31,34]⟩ ?_ (by subst h11; kernel_rfl)
   rcases ao h with ⟨h12,h⟩ | ⟨h12,h⟩
   ·
    refine ak 36 h12 (aM 5 ?_)
    cases h
    exact cP
   ·
    exact ak 36 h12 (ag 8 (bE (p:=p15_43) n (Aw hK n h)))
theorem Bo (hK:KnOk K) (m:Nat):H15_1 M w0 r v2 v3 m (qa K n v2 v3 m):=by
  induction m with
 | zero=>intro v5 v6 h; cases h
 | succ m ih=>intro v5 v6 h; have h:qG K n v2 v3 (qa K n v2 v3 m) v5 v6=some r:=h; exact aR (AR hK ih h)
theorem zR (hK:KnOk K) (h:rB K n v1 v2=some r):ACalls Try.prog 15 [iI v1,.sl (lm (eInt .i64) v2)] (fun v s=>v = .ref 31∧look 31 s.r=some ⟨3,1,lm (eInt .i64) r⟩):=by
  refine bj (cat Try.f15 []) Try.func15 Try.ntmps15 fun M w0=>(bb ⟨[(0,iI v1),(1,.sl (lm (eInt .i64) v2))],[],[],[]⟩ ?_)
  unfold rB at h
  refine ac (ks':=[bx [1,0],bx [1,1]]) 3 (ai 1 ?_)
  obtain ⟨v3,h1,h⟩:=bind_some h
  exact aC (jX hK h1) (ae (ag 6 (bE (p:=p15_44) n (Bo hK n h))))
end
def p20_0:=pth 0 11110
def p20_1:=pth 0 11111
def p20_2:=pth 0 111110
def p20_3:=pth 5 1
def p20_4:=pth 5 10
def p20_5:=pth 6 1
noncomputable section
variable {K:Kn} {n:Nat} {M:Nat→Prop} {w0:Base} {r v1:aw} 
abbrev iu (p:List Nat):Kont:=.c (cat Try.f20 p)
theorem vq (hK:KnOk K) (h:qX K n v1=some r):ACalls Try.prog 20 [.agg (aF v1)] (fun v _=>v = .agg (aF r)):=by
  refine bj (cat Try.f20 []) Try.func20 Try.ntmps20 fun M w0=>(bb ⟨[(0,.agg (aF v1))],[],[],[]⟩ ?_)
  unfold qX at h
  refine ac (ks':=[iu [1,0],iu [1,1]]) 3 (ai 2 ?_)
  obtain ⟨v2,h1,h⟩:=bind_some h
  refine aC (jX hK h1) (ae (ac (ks':=[iu [1,1,0],iu [1,1,1]]) 1 (ai 2 ?_)))
  obtain ⟨v3,h2,h⟩:=bind_some h
  refine aC (jX hK h2) (ae (ac (ks':=[iu p20_0,iu p20_1]) 1 (bL [1,2] [1,2] [] ?_)))
  obtain ⟨v4,h3,h⟩:=bind_some h
  refine bm 1 (nu 11 [.ptr 1 4,iI v1.Max,iI v4,.ptr 1 3,iI v3,iI (max v4 v3),.ptr 1 4]) [] [] [stp Try.prog 27 Try.f20 p20_0 7] (am (vz 2) (aj (e_c 0 1 13 (jX hK h3)) (am (vz 4) (aj (e_d 0) bk)))) (ac (ks':=[iu p20_2,iu p20_3]) 1 (ai 2 ?_))
  obtain ⟨v5,h4,h⟩:=bind_some h
  refine aC (jX hK h4) (ae (ac (ks':=[iu p20_4,iu p20_5]) 1 (ai 2 ?_)))
  obtain ⟨v6,h5,h⟩:=bind_some h
  refine aC (jX hK h5) (ae (aM 3 ?_))
  cases h
  exact bu
end
noncomputable section
variable {K:Kn} {n:Nat} {M:Nat→Prop} {w0:Base} {r:Int} {v1:aw} 
abbrev cF21 (p:List Nat):Kont:=.c (cat Try.f21 p)
theorem uS (hK:KnOk K) (h:o5 K n v1=some r):ACalls Try.prog 21 [.agg (aF v1)] (fun v _=>v=iI r):=by
  refine bj (cat Try.f21 []) Try.func21 Try.ntmps21 fun M w0=>(bb ⟨[(0,.agg (aF v1))],[],[],[]⟩ ?_)
  unfold o5 at h
  refine ac (ks':=[cF21 [1,0],cF21 [1,1]]) 3 (ai 1 ?_)
  obtain ⟨v2,h1,h⟩:=bind_some h
  refine aC (vq hK h1) (ae (aM 3 ?_))
  cases h
  exact bu
end
def b8:=pth 10 1
def p19_1:=pth 9 1000
def ft:=pth 9 1
def p19_3:=pth 8 10100
def mt:=pth 6 1
def p19_5:=pth 5 10100
def p19_6:=pth 9 10001011111111111100
def fI:=pth 9 10001011111111111
def p19_8:=pth 9 10001011111111110100
def eN:=pth 9 1000101111
def p19_10:=pth 9 1000101110100
def kZ:=pth 8 1010011
def p19_12:=pth 8 1010010011
def p19_13:=pth 8 10100100110
def p19_14:=pth 8 10100100111
def p19_15:=pth 8 101001001111
def p19_16:=pth 8 101001001
def p19_17:=pth 8 10100100101
def p19_18:=pth 8 101001001010
def hJ:=pth 9 100010111010011
def lu:=pth 9 1000101111111111010011
def p19_21:=pth 9 10001011111111110100100111
def p19_22:=pth 9 100010111111111101001001110
def p19_23:=pth 9 100010111111111101001001111
def qR:=pth 9 1000101111111111110011
def p19_25:=pth 9 100010111111111111001001
def p19_26:=pth 9 10001011111111111100100100
def p19_27:=pth 9 10001011111111111100100101
def p19_28:=pth 9 100010111111111111001001010
def p19_29:=pth 9 100010111111111111001001011
def p19_30:=pth 9 1000101111111111110000
def p19_31:=pth 9 1000101111111111110001
def p19_32:=pth 9 100010111111111111001
def p19_33:=pth 9 100010111111111111001000
def p19_34:=pth 9 1000101111111111010000
def p19_35:=pth 9 1000101111111111010001
def p19_36:=pth 9 100010111111111101001
def p19_37:=pth 9 1000101111111111010010000
def p19_38:=pth 9 1000101111111111010010001
def p19_39:=pth 9 100010111111111101001001
def p19_40:=pth 9 1000101111111111010010010
def p19_41:=pth 9 1000101111111111010010011
def p19_42:=pth 9 100010111111111101001001101
def p19_43:=pth 9 1000101111111111010010011010
def p19_44:=pth 9 1000101111111111110
def p19_45:=pth 9 1000101111111
def p19_46:=pth 9 10001011111110
def p19_47:=pth 9 10001011111111
def p19_48:=pth 9 1000101111111110
def p19_49:=pth 9 1000101111111111
def p19_50:=pth 9 1000101111111111010
def p19_51:=pth 9 10001011111
def p19_52:=pth 9 10001011111101
def p19_53:=pth 9 100010111010000
def p19_54:=pth 9 100010111010001
def p19_55:=pth 9 10001011101001
def p19_56:=pth 9 100010111010010000
def p19_57:=pth 9 100010111010010001
def p19_58:=pth 9 10001011101001001
def p19_59:=pth 9 10001011101001000100
def p19_60:=pth 9 10001011101001000101
def p19_61:=pth 9 100010111010010010
def p19_62:=pth 9 100010111010010011
def p19_63:=pth 9 1000101110100100110
def p19_64:=pth 9 1000101110100100111
def p19_65:=pth 9 10001011101001001111
def p19_66:=pth 9 1000101110100100111100
def p19_67:=pth 9 1000101110100100111101
def p19_68:=pth 9 100010111010010011111
def p19_69:=pth 9 100010111101
def p19_70:=pth 9 100001
def p19_71:=pth 9 10001
def p19_72:=pth 9 100010110
def p19_73:=pth 9 100010111
def p19_74:=pth 9 100010111010
def p19_75:=pth 8 1010000
def p19_76:=pth 8 1010001
def p19_77:=pth 8 101001
def p19_78:=pth 8 101001000
def p19_79:=pth 9 100
def p19_80:=pth 5 1010000
def p19_81:=pth 5 1010001
def p19_82:=pth 5 101001
def p19_83:=pth 5 101001000
def p19_84:=pth 5 101001001
def p19_85:=pth 5 1010011
def p19_86:=pth 5 1010010010
def p19_87:=pth 5 1010010011
def p19_88:=pth 8 1010
def p19_89:=pth 5 1010
noncomputable section
abbrev cH (M:Nat→Prop) (w0:Base):Cx:=⟨Try.prog,315,M,w0⟩
abbrev q19 (M:Nat→Prop) (w0:Base) (r:List Int):=bodyPost Try.prog Try.f19 (RetQ M w0 (fun v s=>v = .ref 44∧look 44 s.r=some ⟨3,1,lm (eInt .i64) r⟩))
abbrev aA (p:List Nat):Kont:=.c (cat Try.f19 p)
abbrev cc (M:Nat→Prop) (w0:Base) (r:List Int) (m3:Nat):Kont:=kl (cH M w0) (q19 M w0 r) [.b 4,aA b8] (cat Try.f19 p19_1) m3
abbrev iH (M:Nat→Prop) (w0:Base) (r:List Int) (m2:Nat):Kont:=kl (cH M w0) (q19 M w0 r) [.b 2,aA ft] (cat Try.f19 p19_3) m2
abbrev k19_1 (M:Nat→Prop) (w0:Base) (r:List Int) (m1:Nat):Kont:=kl (cH M w0) (q19 M w0 r) [.b 0,aA mt] (cat Try.f19 p19_5) m1
abbrev na (M:Nat→Prop) (w0:Base) (r:List Int) (m3 m6:Nat):Kont:=kl (cH M w0) (q19 M w0 r) [.b 10,.b 5,cc M w0 r m3,.b 4,aA b8] (cat Try.f19 p19_6) m6
abbrev gO (M:Nat→Prop) (w0:Base) (r:List Int) (m3 m5:Nat):Kont:=kl (cH M w0) (q19 M w0 r) [.b 8,aA fI,.b 5,cc M w0 r m3,.b 4,aA b8] (cat Try.f19 p19_8) m5
abbrev fR (M:Nat→Prop) (w0:Base) (r:List Int) (m3 m4:Nat):Kont:=kl (cH M w0) (q19 M w0 r) [.b 6,aA eN,.b 5,cc M w0 r m3,.b 4,aA b8] (cat Try.f19 p19_10) m4
def s19_j4 (v2 v7:Int) (v9:List aw) (v10:List Int) (v20:Int) (v21:List Bool) (v23:Bool) (v24:Int):AS:=⟨[(1,iI v2),(5,.ref 36),(6,.ref 44),(7,.ref 100),(10,.bool (decide (v7<v2))),(11,iI v24),(12,iI v20)],[],[(36,⟨34,5,lm aF v9⟩),(44,⟨3,1,lm (eInt .i64) v10⟩),(100,⟨4,1,lm bR (v21++[v23])⟩)],[36,44,100]⟩
def s19_j3 (v2 v7:Int) (v9:List aw) (v10:List Int) (v19 v20:Int) (v21:List Bool) (v23:Bool):AS:=⟨[(1,iI v2),(5,.ref 36),(6,.ref 44),(7,.ref 100),(10,.bool (decide (v7<v2))),(11,iI v19),(12,iI v20),(13,.bool v23)],[],[(36,⟨34,5,lm aF v9⟩),(44,⟨3,1,lm (eInt .i64) v10⟩),(100,⟨4,1,lm bR v21⟩)],[36,44,100]⟩
def s19_j2 (v2 v7:Int) (v9:List aw) (v10:List Int) (v19 v20:Int) (v21:List Bool) (v22:Bool):AS:=⟨[(1,iI v2),(5,.ref 36),(6,.ref 44),(7,.ref 100),(10,.bool (decide (v7<v2))),(11,iI v19),(12,iI v20),(13,.bool v22)],[],[(36,⟨34,5,lm aF v9⟩),(44,⟨3,1,lm (eInt .i64) v10⟩),(100,⟨4,1,lm bR v21⟩)],[36,44,100]⟩
def s19_j7 (v2 v7:Int) (v9:List aw) (v78:Int) (v79:List Int) (v80:List Bool) (v92 v99 v100:Int) (v101:List Int):AS:=⟨[(1,iI v2),(5,.ref 36),(6,.ref 44),(7,.ref 100),(10,.bool (decide (v7<v2))),(11,iI v78),(14,iI v99),(15,iI v100),(16,.ref 110),(17,iI v92)],[],[(36,⟨34,5,lm aF v9⟩),(44,⟨3,1,lm (eInt .i64) v79⟩),(100,⟨4,1,lm bR v80⟩),(110,⟨3,1,lm (eInt .i64) v101⟩)],[36,44,100,110]⟩
def s19_j6 (v2 v7:Int) (v9:List aw) (v78:Int) (v79:List Int) (v80:List Bool) (v92 v94 v97:Int) (v98:List Int):AS:=⟨[(1,iI v2),(5,.ref 36),(6,.ref 44),(7,.ref 100),(10,.bool (decide (v7<v2))),(11,iI v78),(14,iI v94),(15,iI v97),(16,.ref 110),(17,iI v92)],[],[(36,⟨34,5,lm aF v9⟩),(44,⟨3,1,lm (eInt .i64) v79⟩),(100,⟨4,1,lm bR v80⟩),(110,⟨3,1,lm (eInt .i64) v98⟩)],[36,44,100,110]⟩
def s19_j12 (v2 v7:Int) (v9:List aw) (v78:Int) (v80:List Bool) (v104:List Int) (v113 v119:Int) (v120 v121:List Int):AS:=⟨[(1,iI v2),(5,.ref 36),(6,.ref 44),(7,.ref 100),(10,.bool (decide (v7<v2))),(11,iI v78),(18,.ref 1186),(19,iI v119),(20,.ref 189),(21,iI v113)],[],[(36,⟨34,5,lm aF v9⟩),(44,⟨3,1,lm (eInt .i64) v120⟩),(100,⟨4,1,lm bR v80⟩),(189,⟨3,1,lm (eInt .i64) v121⟩),(1186,⟨3,1,lm (eInt .i64) v104⟩)],[36,44,100,189,1186]⟩
def s19_j11 (v2 v7:Int) (v9:List aw) (v78:Int) (v80:List Bool) (v104:List Int) (v112 v113:Int) (v115 v117:List Int):AS:=⟨[(1,iI v2),(5,.ref 36),(6,.ref 44),(7,.ref 100),(10,.bool (decide (v7<v2))),(11,iI v78),(18,.ref 1186),(19,iI v112),(20,.ref 189),(21,iI v113)],[],[(36,⟨34,5,lm aF v9⟩),(44,⟨3,1,lm (eInt .i64) v117⟩),(100,⟨4,1,lm bR v80⟩),(189,⟨3,1,lm (eInt .i64) v115⟩),(1186,⟨3,1,lm (eInt .i64) v104⟩)],[36,44,100,189,1186]⟩
def s19_j15 (v2 v7:Int) (v9:List aw) (v112:Int) (v115:List Int) (v127 v131:Int) (v132:List Int) (v133:List Bool):AS:=⟨[(1,iI v2),(5,.ref 36),(6,.ref 44),(7,.ref 100),(10,.bool (decide (v7<v2))),(11,iI v131),(19,iI v112),(20,.ref 189),(22,iI v127)],[],[(36,⟨34,5,lm aF v9⟩),(44,⟨3,1,lm (eInt .i64) v132⟩),(100,⟨4,1,lm bR v133⟩),(189,⟨3,1,lm (eInt .i64) v115⟩)],[36,44,100,189]⟩
def s19_j14 (v2 v7:Int) (v9:List aw) (v112:Int) (v115:List Int) (v126 v127:Int) (v128:List Int) (v129:List Bool) (v130:Bool):AS:=⟨[(1,iI v2),(5,.ref 36),(6,.ref 44),(7,.ref 100),(10,.bool (decide (v7<v2))),(11,iI v126),(19,iI v112),(20,.ref 189),(22,iI v127),(301,.bool v130)],[],[(36,⟨34,5,lm aF v9⟩),(44,⟨3,1,lm (eInt .i64) v128⟩),(100,⟨4,1,lm bR v129⟩),(189,⟨3,1,lm (eInt .i64) v115⟩)],[36,44,100,189]⟩
def s19_l16 (v2 v7:Int) (v9:List aw) (v112:Int) (v115:List Int) (v126 v127:Int) (v128:List Int) (v129:List Bool):AS:=⟨[(1,iI v2),(5,.ref 36),(6,.ref 44),(7,.ref 100),(10,.bool (decide (v7<v2))),(11,iI v126),(19,iI v112),(20,.ref 189),(22,iI v127)],[],[(36,⟨34,5,lm aF v9⟩),(44,⟨3,1,lm (eInt .i64) v128⟩),(100,⟨4,1,lm bR v129⟩),(189,⟨3,1,lm (eInt .i64) v115⟩)],[36,44,100,189]⟩
def s19_l13 (v2 v7:Int) (v9:List aw) (v78:Int) (v80:List Bool) (v104:List Int) (v112 v113:Int) (v114 v115:List Int):AS:=⟨[(1,iI v2),(5,.ref 36),(6,.ref 44),(7,.ref 100),(10,.bool (decide (v7<v2))),(11,iI v78),(18,.ref 1186),(19,iI v112),(20,.ref 189),(21,iI v113)],[],[(36,⟨34,5,lm aF v9⟩),(44,⟨3,1,lm (eInt .i64) v114⟩),(100,⟨4,1,lm bR v80⟩),(189,⟨3,1,lm (eInt .i64) v115⟩),(1186,⟨3,1,lm (eInt .i64) v104⟩)],[36,44,100,189,1186]⟩
def s19_j10 (v2 v7:Int) (v9:List aw) (v78:Int) (v79:List Int) (v80:List Bool) (v93:List Int) (v103:Int):AS:=⟨[(1,iI v2),(5,.ref 36),(6,.ref 44),(7,.ref 100),(10,.bool (decide (v7<v2))),(11,iI v78),(14,iI v103),(16,.ref 110)],[],[(36,⟨34,5,lm aF v9⟩),(44,⟨3,1,lm (eInt .i64) v79⟩),(100,⟨4,1,lm bR v80⟩),(110,⟨3,1,lm (eInt .i64) v93⟩)],[36,44,100,110]⟩
def s19_j9 (v2 v7:Int) (v9:List aw) (v78:Int) (v79:List Int) (v80:List Bool) (v91:Int) (v93:List Int) (v102:Int):AS:=⟨[(1,iI v2),(5,.ref 36),(6,.ref 44),(7,.ref 100),(10,.bool (decide (v7<v2))),(11,iI v78),(14,iI v102),(15,iI v91),(16,.ref 110)],[],[(36,⟨34,5,lm aF v9⟩),(44,⟨3,1,lm (eInt .i64) v79⟩),(100,⟨4,1,lm bR v80⟩),(110,⟨3,1,lm (eInt .i64) v93⟩)],[36,44,100,110]⟩
def s19_l8 (v2 v7:Int) (v9:List aw) (v78:Int) (v79:List Int) (v80:List Bool) (v90 v91 v92:Int) (v93:List Int):AS:=⟨[(1,iI v2),(5,.ref 36),(6,.ref 44),(7,.ref 100),(10,.bool (decide (v7<v2))),(11,iI v78),(14,iI v90),(15,iI v91),(16,.ref 110),(17,iI v92)],[],[(36,⟨34,5,lm aF v9⟩),(44,⟨3,1,lm (eInt .i64) v79⟩),(100,⟨4,1,lm bR v80⟩),(110,⟨3,1,lm (eInt .i64) v93⟩)],[36,44,100,110]⟩
def s19_l17 (v2 v7:Int) (v9:List aw) (v78:Int) (v79:List Int) (v80:List Bool):AS:=⟨[(1,iI v2),(5,.ref 36),(6,.ref 44),(7,.ref 100),(10,.bool (decide (v7<v2))),(11,iI v78)],[],[(36,⟨34,5,lm aF v9⟩),(44,⟨3,1,lm (eInt .i64) v79⟩),(100,⟨4,1,lm bR v80⟩)],[36,44,100]⟩
def s19_l5 (v2 v7:Int) (v9:List aw) (v10:List Int) (v19 v20:Int) (v21:List Bool):AS:=⟨[(1,iI v2),(5,.ref 36),(6,.ref 44),(7,.ref 100),(10,.bool (decide (v7<v2))),(11,iI v19),(12,iI v20)],[],[(36,⟨34,5,lm aF v9⟩),(44,⟨3,1,lm (eInt .i64) v10⟩),(100,⟨4,1,lm bR v21⟩)],[36,44,100]⟩
def s19_l1 (v1:List aw) (v2 v7 v8:Int) (v9:List aw) (v10:List Int):AS:=⟨[(0,.sl (lm aF v1)),(1,iI v2),(5,.ref 36),(6,.ref 44),(7,.nils),(8,iI v7),(9,iI v8)],[],[(36,⟨34,5,lm aF v9⟩),(44,⟨3,1,lm (eInt .i64) v10⟩)],[36,44]⟩
abbrev H19_1 (M:Nat→Prop) (w0:Base) (r:List Int) (v1:List aw) (v2:Int) (m1:Nat) (L1:Int→Int→(List aw)→(List Int)→Option (List Int)):Prop:=∀ {v7 v8:Int} {v9:List aw} {v10:List Int},L1 v7 v8 v9 v10=some r→LP (cH M w0) (q19 M w0 r) [.b 0,aA mt] (cat Try.f19 p19_5) m1 (s19_l1 v1 v2 v7 v8 v9 v10)
abbrev H19_2 (M:Nat→Prop) (w0:Base) (r:List Int) (v2 v7:Int) (v9:List aw) (v10:List Int) (m2:Nat) (L2:Int→Int→(List Bool)→Option (List Int)):Prop:=∀ {v19 v20:Int} {v21:List Bool},L2 v19 v20 v21=some r→LP (cH M w0) (q19 M w0 r) [.b 2,aA ft] (cat Try.f19 p19_3) m2 (s19_l5 v2 v7 v9 v10 v19 v20 v21)
abbrev dW (M:Nat→Prop) (w0:Base) (r:List Int) (v2 v7:Int) (v9:List aw) (m3:Nat) (L3:Int→(List Int)→(List Bool)→Option (List Int)):Prop:=∀ {v78:Int} {v79:List Int} {v80:List Bool},L3 v78 v79 v80=some r→LP (cH M w0) (q19 M w0 r) [.b 4,aA b8] (cat Try.f19 p19_1) m3 (s19_l17 v2 v7 v9 v78 v79 v80)
abbrev H19_4 (M:Nat→Prop) (w0:Base) (r:List Int) (v2 v7:Int) (v9:List aw) (v78:Int) (v79:List Int) (v80:List Bool) (m3 m4:Nat) (L4:Int→Int→Int→(List Int)→Option (List Int)):Prop:=∀ {v90 v91 v92:Int} {v93:List Int},L4 v90 v91 v92 v93=some r→LP (cH M w0) (q19 M w0 r) [.b 6,aA eN,.b 5,cc M w0 r m3,.b 4,aA b8] (cat Try.f19 p19_10) m4 (s19_l8 v2 v7 v9 v78 v79 v80 v90 v91 v92 v93)
abbrev H19_5 (M:Nat→Prop) (w0:Base) (r:List Int) (v2 v7:Int) (v9:List aw) (v78:Int) (v80:List Bool) (v104:List Int) (m3 m5:Nat) (L5:Int→Int→(List Int)→(List Int)→Option (List Int)):Prop:=∀ {v112 v113:Int} {v114 v115:List Int},L5 v112 v113 v114 v115=some r→LP (cH M w0) (q19 M w0 r) [.b 8,aA fI,.b 5,cc M w0 r m3,.b 4,aA b8] (cat Try.f19 p19_8) m5 (s19_l13 v2 v7 v9 v78 v80 v104 v112 v113 v114 v115)
abbrev H19_6 (M:Nat→Prop) (w0:Base) (r:List Int) (v2 v7:Int) (v9:List aw) (v112:Int) (v115:List Int) (m3 m6:Nat) (L6:Int→Int→(List Int)→(List Bool)→Option (List Int)):Prop:=∀ {v126 v127:Int} {v128:List Int} {v129:List Bool},L6 v126 v127 v128 v129=some r→LP (cH M w0) (q19 M w0 r) [.b 10,.b 5,cc M w0 r m3,.b 4,aA b8] (cat Try.f19 p19_6) m6 (s19_l16 v2 v7 v9 v112 v115 v126 v127 v128 v129)
variable {K:Kn} {n:Nat} {M:Nat→Prop} {w0:Base} {r:List Int} {v1:List aw} {v2 v7 v8:Int} {v9:List aw} {v10:List Int} {v19 v20:Int} {v21:List Bool} {v22 v23:Bool} {v24 v78:Int} {v79:List Int} {v80:List Bool} {v90 v91 v92:Int} {v93:List Int} {v94 v97:Int} {v98:List Int} {v99 v100:Int} {v101:List Int} {v102 v103:Int} {v104:List Int} {v112 v113:Int} {v114 v115 v117:List Int} {v119:Int} {v120 v121:List Int} {v126 v127:Int} {v128:List Int} {v129:List Bool} {v130:Bool} {v131:Int} {v132:List Int} {v133:List Bool} {m1:Nat} {L1:Int→Int→(List aw)→(List Int)→Option (List Int)} {m2:Nat} {L2:Int→Int→(List Bool)→Option (List Int)} {m3:Nat} {L3:Int→(List Int)→(List Bool)→Option (List Int)} {m4:Nat} {L4:Int→Int→Int→(List Int)→Option (List Int)} {m5:Nat} {L5:Int→Int→(List Int)→(List Int)→Option (List Int)} {m6:Nat} {L6:Int→Int→(List Int)→(List Bool)→Option (List Int)}
theorem we (hK:KnOk K) (hL2:H19_2 M w0 r v2 v7 v9 v10 m2 L2) (h:su K n v2 v7 v9 v10 v20 v21 v23 L2 v24=some r):VE (cH M w0) (q19 M w0 r) [.b 3,aA kZ,iH M w0 r m2,.b 2,aA ft] .normal (s19_j4 v2 v7 v9 v10 v20 v21 v23 v24):=by
  unfold su at h
  exact ag 2 (aY (hL2 h))
theorem uW (hK:KnOk K) (hL2:H19_2 M w0 r v2 v7 v9 v10 m2 L2) (h:mi K n v2 v7 v9 v10 v19 v20 v21 L2 v23=some r):VE (cH M w0) (q19 M w0 r) [aA p19_12,.b 3,aA kZ,iH M w0 r m2,.b 2,aA ft] .normal (s19_j3 v2 v7 v9 v10 v19 v20 v21 v23):=by
  unfold mi at h
  refine ac (ks':=[aA p19_13,aA p19_14,.b 3,aA kZ,iH M w0 r m2,.b 2,aA ft]) 1 (ai 3 ?_)
  obtain ⟨h59,h⟩:=aq h
  refine ap (cb 100 100 4 1 bR (rfl) (fun _=>rfl) h59) (ae (ac (ks':=[aA p19_15,.b 3,aA kZ,iH M w0 r m2,.b 2,aA ft]) 2 ?_))
  rcases ao h with ⟨h60,h⟩ | ⟨h60,h⟩
  ·
   exact ak 102 h60 (ag 2 (we hK hL2 h))
  ·
   exact ak 102 h60 (ag 2 (we hK hL2 h))
theorem xi (hK:KnOk K) (hL2:H19_2 M w0 r v2 v7 v9 v10 m2 L2) (h:sx K n v2 v7 v9 v10 v19 v20 v21 L2 v22=some r):VE (cH M w0) (q19 M w0 r) [aA p19_16,.b 3,aA kZ,iH M w0 r m2,.b 2,aA ft] .normal (s19_j2 v2 v7 v9 v10 v19 v20 v21 v22):=by
  unfold sx at h
  refine ac (ks':=[aA p19_17,aA p19_12,.b 3,aA kZ,iH M w0 r m2,.b 2,aA ft]) 3 ?_
  rcases ao h with ⟨h54,h⟩ | ⟨h54,h⟩
  ·
   refine ak 78 h54 (ac (ks':=[aA p19_18,aA p19_12,.b 3,aA kZ,iH M w0 r m2,.b 2,aA ft]) 1 (bL [1,5,6,7,10,11,12] [] [36,44,100] ?_))
   obtain ⟨h55,h⟩:=aq h
   rcases ao h with ⟨h56,h⟩ | ⟨h56,h⟩
   ·
    exact bm 1 (nu 79 [.ref 36,iI v20,.eptr 36 5 (v20.toNat) 0,.eptr 36 5 (v20.toNat) 1,iI ((gD v9 v20).Grow),.bool (((gD v9 v20).Grow) == 0),.bool true,.tup [],.tup [],.tup [],.tup [],.tup [],.tup [],.tup [],.tup [],.tup [],.tup [],.bool true]) [] [] [stp Try.prog 315 Try.f19 p19_18 18] (am (vz 2) (d_v (aN 36 5 aF (L:=v9) h55) (am [.v 0 1] (d_v (aJ 3 1 aF aF (aH h55).2 (fun _=>rfl)) (am [.v 0 1] (aj (e_b 0 85 (e:=(((gD v9 v20).Grow) == 0)) (b:=true) h56) (aj (aD 0 1) (aj (aD 0 1) (aj (aD 0 1) (aj (aD 0 1) (aj (aD 0 1) (aj (aD 0 1) (aj (aD 0 1) (aj (aD 0 1) (aj (aD 0 1) (aj (aD 0 1) (am [.v 0 1] (aj (e_d 0) bk)))))))))))))))))) (ag 0 (uW hK hL2 h))
   ·
    obtain ⟨h57,h⟩:=aq h
    obtain ⟨h58,h⟩:=aq h
    exact bm 1 (nu 79 [.ref 36,iI v20,.eptr 36 5 (v20.toNat) 0,.eptr 36 5 (v20.toNat) 1,iI ((gD v9 v20).Grow),.bool (((gD v9 v20).Grow) == 0),.bool false,.ref 36,iI v20,.eptr 36 5 (v20.toNat) 0,.eptr 36 5 (v20.toNat) 0,iI ((gD v9 v20).Base),.ref 44,iI v20,.eptr 44 1 (v20.toNat) 0,iI (gD v10 v20),.bool (decide (((gD v9 v20).Base)>(gD v10 v20))),.bool (decide (((gD v9 v20).Base)>(gD v10 v20)))]) [] [] [stp Try.prog 315 Try.f19 p19_18 18] (am (vz 2) (d_v (aN 36 5 aF (L:=v9) h55) (am [.v 0 1] (d_v (aJ 3 1 aF aF (aH h57).2 (fun _=>rfl)) (am [.v 0 1] (aj (e_b 0 85 (e:=(((gD v9 v20).Grow) == 0)) (b:=false) h56) (am (vz 2) (d_v (aN 36 5 aF (L:=v9) h57) (am [.v 0 1] (d_v (aJ 3 0 aF aF (aH h57).2 (fun _=>rfl)) (am (vz 2) (d_v (aN 44 1 (eInt .i64) (L:=v10) h58) (d_v (aJ 3 0 (eInt .i64) (eInt .i64) (aH h58).2 (fun _=>rfl)) (am (vz 2) (aj (e_d 0) bk))))))))))))))) (ag 0 (uW hK hL2 h))
  ·
   exact ak 78 h54 (ag 2 (uW hK hL2 h))
theorem vn (hK:KnOk K) (hL3:dW M w0 r v2 v7 v9 m3 L3) (hL4:H19_4 M w0 r v2 v7 v9 v78 v79 v80 m3 m4 L4) (h:rr K n v2 v7 v9 v78 v79 v80 v92 L3 L4 v99 v100 v101=some r):VE (cH M w0) (q19 M w0 r) [aA hJ,fR M w0 r m3 m4,.b 6,aA eN,.b 5,cc M w0 r m3,.b 4,aA b8] .normal (s19_j7 v2 v7 v9 v78 v79 v80 v92 v99 v100 v101):=by
  unfold rr at h
  exact ag 1 (aY (hL4 h))
theorem xh (hK:KnOk K) (hL3:dW M w0 r v2 v7 v9 m3 L3) (hL4:H19_4 M w0 r v2 v7 v9 v78 v79 v80 m3 m4 L4) (h:sy K n v2 v7 v9 v78 v79 v80 v92 v94 L3 L4 v97 v98=some r):VE (cH M w0) (q19 M w0 r) [.b 7,aA hJ,fR M w0 r m3 m4,.b 6,aA eN,.b 5,cc M w0 r m3,.b 4,aA b8] .normal (s19_j6 v2 v7 v9 v78 v79 v80 v92 v94 v97 v98):=by
  unfold sy at h
  exact ag 1 (vn hK hL3 hL4 h)
theorem wg (hK:KnOk K) (hL3:dW M w0 r v2 v7 v9 m3 L3) (hL5:H19_5 M w0 r v2 v7 v9 v78 v80 v104 m3 m5 L5) (h:sO K n v2 v7 v9 v78 v80 v104 v113 L3 L5 v119 v120 v121=some r):VE (cH M w0) (q19 M w0 r) [aA lu,gO M w0 r m3 m5,.b 8,aA fI,.b 5,cc M w0 r m3,.b 4,aA b8] .normal (s19_j12 v2 v7 v9 v78 v80 v104 v113 v119 v120 v121):=by
  unfold sO at h
  exact ag 1 (aY (hL5 h))
theorem xP (hK:KnOk K) (hL3:dW M w0 r v2 v7 v9 m3 L3) (hL5:H19_5 M w0 r v2 v7 v9 v78 v80 v104 m3 m5 L5) (h:rH K n v2 v7 v9 v78 v80 v104 v112 v113 v115 L3 L5 v117=some r):VE (cH M w0) (q19 M w0 r) [aA p19_21,.b 9,aA lu,gO M w0 r m3 m5,.b 8,aA fI,.b 5,cc M w0 r m3,.b 4,aA b8] .normal (s19_j11 v2 v7 v9 v78 v80 v104 v112 v113 v115 v117):=by
  unfold rH at h
  refine ac (ks':=[aA p19_22,aA p19_23,.b 9,aA lu,gO M w0 r m3 m5,.b 8,aA fI,.b 5,cc M w0 r m3,.b 4,aA b8]) 1 (bL [1,5,6,7,10,11,18,19,20,21] [] [36,44,100,189,1186] ?_)
  obtain ⟨h242,h⟩:=aq h
  obtain ⟨h243,h⟩:=aq h
  obtain ⟨h244,h⟩:=aq h
  obtain ⟨h245,h⟩:=aq h
  refine bm 1 (nu 227 [.ref 189,iI v113,.ref 44,iI v113,.eptr 44 1 (v113.toNat) 0,iI (gD v117 v113),.ref 36,iI v113,.eptr 36 5 (v113.toNat) 0,.eptr 36 5 (v113.toNat) 3,iI ((gD v9 v113).Min),iI (max (gD v117 v113) ((gD v9 v113).Min)),.ref 36,iI v113,.eptr 36 5 (v113.toNat) 0,.eptr 36 5 (v113.toNat) 4,iI ((gD v9 v113).Max),iI (min (max (gD v117 v113) ((gD v9 v113).Min)) ((gD v9 v113).Max)),.eptr 189 1 (v113.toNat) 0]) [] [] [strS 189 ⟨3,1,lm (eInt .i64) (List.set v115 v113.toNat (min (max (gD v117 v113) ((gD v9 v113).Min)) ((gD v9 v113).Max)))⟩] (am (vz 4) (d_v (aN 44 1 (eInt .i64) (L:=v117) h242) (d_v (aJ 3 0 (eInt .i64) (eInt .i64) (aH h242).2 (fun _=>rfl)) (am (vz 2) (d_v (aN 36 5 aF (L:=v9) h243) (am [.v 0 1] (d_v (aJ 3 3 aF aF (aH h244).2 (fun _=>rfl)) (am (vz 3) (d_v (aN 36 5 aF (L:=v9) h244) (am [.v 0 1] (d_v (aJ 3 4 aF aF (aH h244).2 (fun _=>rfl)) (am [.v 0 1] (d_v (aN 189 1 (eInt .i64) (L:=v115) h245) (aj (e_s (m:=0) (bV 189 3 1 0 (eInt .i64) (eInt .i64) (min (max (gD v117 v113) ((gD v9 v113).Min)) ((gD v9 v113).Max)) (aH h245).2 (fun _=>rfl))) bk)))))))))))))) ?_
  obtain ⟨v118,h246,h⟩:=bind_some h
  have h246:=Option.some.inj h246
  refine aU (ks':=[aA p19_23,.b 9,aA lu,gO M w0 r m3 m5,.b 8,aA fI,.b 5,cc M w0 r m3,.b 4,aA b8]) 0 ⟨[(1,iI v2),(5,.ref 36),(6,.ref 44),(7,.ref 100),(10,.bool (decide (v7<v2))),(11,iI v78),(18,.ref 1186),(19,iI v112),(20,.ref 189),(21,iI v113)],[],[(36,⟨34,5,lm aF v9⟩),(44,⟨3,1,lm (eInt .i64) v117⟩),(100,⟨4,1,lm bR v80⟩),(189,⟨3,1,lm (eInt .i64) v118⟩),(1186,⟨3,1,lm (eInt .i64) v104⟩)],[36,44,100,189,1186]⟩ ?_ (by subst h246; kernel_rfl)
  obtain ⟨h247,h⟩:=aq h
  obtain ⟨h248,h⟩:=aq h
  exact bm 1 (nu 246 [iI v112,.ref 189,iI v113,.eptr 189 1 (v113.toNat) 0,iI (gD v118 v113),.ref 44,iI v113,.eptr 44 1 (v113.toNat) 0,iI (gD v117 v113),iI (w64 ((gD v118 v113) - (gD v117 v113))),iI (w64 (v112+(w64 ((gD v118 v113) - (gD v117 v113)))))]) [] [] [stp Try.prog 315 Try.f19 p19_23 11] (am (vz 3) (d_v (aN 189 1 (eInt .i64) (L:=v118) h247) (d_v (aJ 3 0 (eInt .i64) (eInt .i64) (aH h247).2 (fun _=>rfl)) (am (vz 2) (d_v (aN 44 1 (eInt .i64) (L:=v117) h248) (d_v (aJ 3 0 (eInt .i64) (eInt .i64) (aH h248).2 (fun _=>rfl)) (am (vz 2) (aj (e_d 0) bk)))))))) (ag 1 (wg hK hL3 hL5 h))
theorem yD (hK:KnOk K) (hL3:dW M w0 r v2 v7 v9 m3 L3) (hL6:H19_6 M w0 r v2 v7 v9 v112 v115 m3 m6 L6) (h:qy K n v2 v7 v9 v112 v115 v127 L3 L6 v131 v132 v133=some r):VE (cH M w0) (q19 M w0 r) [.b 11,aA qR,na M w0 r m3 m6,.b 10,.b 5,cc M w0 r m3,.b 4,aA b8] .normal (s19_j15 v2 v7 v9 v112 v115 v127 v131 v132 v133):=by
  unfold qy at h
  exact ag 2 (aY (hL6 h))
theorem mO (hK:KnOk K) (hL3:dW M w0 r v2 v7 v9 m3 L3) (hL6:H19_6 M w0 r v2 v7 v9 v112 v115 m3 m6 L6) (h:im K n v2 v7 v9 v112 v115 v126 v127 v128 v129 L3 L6 v130=some r):VE (cH M w0) (q19 M w0 r) [aA p19_25,.b 11,aA qR,na M w0 r m3 m6,.b 10,.b 5,cc M w0 r m3,.b 4,aA b8] .normal (s19_j14 v2 v7 v9 v112 v115 v126 v127 v128 v129 v130):=by
  unfold im at h
  rcases ao h with ⟨h281,h⟩ | ⟨h281,h⟩
  ·
   refine ak 301 h281 (ac (ks':=[aA p19_26,aA p19_27,.b 11,aA qR,na M w0 r m3 m6,.b 10,.b 5,cc M w0 r m3,.b 4,aA b8]) 2 (ai 2 ?_))
   obtain ⟨h282,h⟩:=aq h
   refine ap (bK 100 1 bR h282) (ap (bV 100 4 1 0 bR bR true (aH h282).2 (fun _=>rfl)) (ae (ac (ks':=[aA p19_28,aA p19_29,.b 11,aA qR,na M w0 r m3 m6,.b 10,.b 5,cc M w0 r m3,.b 4,aA b8]) 1 (ai 4 ?_))))
   obtain ⟨h283,h⟩:=aq h
   refine ap (bK 189 1 (eInt .i64) h283) (ap (aJ 3 0 (eInt .i64) (eInt .i64) (aH h283).2 (fun _=>rfl)) ?_)
   obtain ⟨h284,h⟩:=aq h
   exact ap (bK 44 1 (eInt .i64) h284) (ap (bV 44 3 1 0 (eInt .i64) (eInt .i64) (gD v115 v127) (aH h284).2 (fun _=>rfl)) (ae (ag 1 (yD hK hL3 hL6 h))))
  ·
   exact ak 301 h281 (ag 2 (yD hK hL3 hL6 h))
theorem y7 (hK:KnOk K) (hL3:dW M w0 r v2 v7 v9 m3 L3) (hL6:H19_6 M w0 r v2 v7 v9 v112 v115 m3 m6 L6) (h:q9 K n v2 v7 v9 v112 v115 L3 L6 v126 v127 v128 v129=some r):VE (cH M w0) (q19 M w0 r) [aA p19_6,na M w0 r m3 m6,.b 10,.b 5,cc M w0 r m3,.b 4,aA b8] .normal (s19_l16 v2 v7 v9 v112 v115 v126 v127 v128 v129):=by
  unfold q9 at h
  refine ac (ks':=[aA p19_30,aA p19_31,aA p19_32,na M w0 r m3 m6,.b 10,.b 5,cc M w0 r m3,.b 4,aA b8]) 2 (ai 2 (ap (br aF v9) (ae ?_)))
  rcases ao h with ⟨h267,h⟩ | ⟨h267,h⟩
  ·
   refine ak 260 h267 (ac (ks':=[aA p19_33,aA p19_25,.b 11,aA qR,na M w0 r m3 m6,.b 10,.b 5,cc M w0 r m3,.b 4,aA b8]) 5 (bL [1,5,6,7,10,11,19,20,22] [] [36,44,100,189] ?_))
   obtain ⟨h268,h⟩:=aq h
   rcases ao h with ⟨h269,h⟩ | ⟨h269,h⟩
   ·
    rcases ao h with ⟨h270,h⟩ | ⟨h270,h⟩
    ·
     exact bm 0 (nu 263 [.ref 100,iI v127,.eptr 100 1 (v127.toNat) 0,.bool (gD v129 v127),.bool (!(gD v129 v127)),.bool true,iI v112,.bool (v112 == 0),.bool true,.tup [],.tup [],.tup [],.tup [],.tup [],.tup [],.tup [],.tup [],.tup [],.tup [],.tup [],.tup [],.tup [],.bool true,.bool true,.tup [],.tup [],.tup [],.tup [],.tup [],.tup [],.tup [],.tup [],.tup [],.tup [],.tup [],.tup [],.tup [],.bool true,.bool true]) [] [] [] (am (vz 2) (d_v (aN 100 1 bR (L:=v129) h268) (d_v (aJ 4 0 bR bR (aH h268).2 (fun _=>rfl)) (am [.v 0 1] (aj (e_b 0 268 (e:=(!(gD v129 v127))) (b:=true) h269) (am (vz 2) (aj (e_b 0 271 (e:=(v112 == 0)) (b:=true) h270) (aj (aD 0 1) (aj (aD 0 1) (aj (aD 0 1) (aj (aD 0 1) (aj (aD 0 1) (aj (aD 0 1) (aj (aD 0 1) (aj (aD 0 1) (aj (aD 0 1) (aj (aD 0 1) (aj (aD 0 1) (aj (aD 0 1) (aj (aD 0 1) (am (vz 2) (aj (aD 0 1) (aj (aD 0 1) (aj (aD 0 1) (aj (aD 0 1) (aj (aD 0 1) (aj (aD 0 1) (aj (aD 0 1) (aj (aD 0 1) (aj (aD 0 1) (aj (aD 0 1) (aj (aD 0 1) (aj (aD 0 1) (aj (aD 0 1) (am (vz 2) bk))))))))))))))))))))))))))))))))))) (ag 0 (mO hK hL3 hL6 h))
    ·
     rcases ao h with ⟨h271,h⟩ | ⟨h271,h⟩
     ·
      obtain ⟨h272,h⟩:=aq h
      obtain ⟨h273,h⟩:=aq h
      rcases ao h with ⟨h274,h⟩ | ⟨h274,h⟩
      ·
       exact bm 0 (nu 263 [.ref 100,iI v127,.eptr 100 1 (v127.toNat) 0,.bool (gD v129 v127),.bool (!(gD v129 v127)),.bool true,iI v112,.bool (v112 == 0),.bool false,iI v112,.bool (decide (v112>0)),.bool true,.ref 189,iI v127,.eptr 189 1 (v127.toNat) 0,iI (gD v115 v127),.ref 44,iI v127,.eptr 44 1 (v127.toNat) 0,iI (gD v128 v127),.bool (decide ((gD v115 v127)>(gD v128 v127))),.bool (decide ((gD v115 v127)>(gD v128 v127))),.bool (decide ((gD v115 v127)>(gD v128 v127))),.bool true,.tup [],.tup [],.tup [],.tup [],.tup [],.tup [],.tup [],.tup [],.tup [],.tup [],.tup [],.tup [],.tup [],.bool true,.bool true]) [] [] [] (am (vz 2) (d_v (aN 100 1 bR (L:=v129) h268) (d_v (aJ 4 0 bR bR (aH h268).2 (fun _=>rfl)) (am [.v 0 1] (aj (e_b 0 268 (e:=(!(gD v129 v127))) (b:=true) h269) (am (vz 2) (aj (e_b 0 271 (e:=(v112 == 0)) (b:=false) h270) (am (vz 2) (aj (e_b 0 274 (e:=(decide (v112>0))) (b:=true) h271) (am (vz 2) (d_v (aN 189 1 (eInt .i64) (L:=v115) h272) (d_v (aJ 3 0 (eInt .i64) (eInt .i64) (aH h272).2 (fun _=>rfl)) (am (vz 2) (d_v (aN 44 1 (eInt .i64) (L:=v128) h273) (d_v (aJ 3 0 (eInt .i64) (eInt .i64) (aH h273).2 (fun _=>rfl)) (am (vz 3) (aj (e_b 0 286 (e:=(decide ((gD v115 v127)>(gD v128 v127)))) (b:=true) h274) (aj (aD 0 1) (aj (aD 0 1) (aj (aD 0 1) (aj (aD 0 1) (aj (aD 0 1) (aj (aD 0 1) (aj (aD 0 1) (aj (aD 0 1) (aj (aD 0 1) (aj (aD 0 1) (aj (aD 0 1) (aj (aD 0 1) (aj (aD 0 1) (am (vz 2) bk))))))))))))))))))))))))))))))) (ag 0 (mO hK hL3 hL6 h))
      ·
       rcases ao h with ⟨h275,h⟩ | ⟨h275,h⟩
       ·
        obtain ⟨h276,h⟩:=aq h
        obtain ⟨h277,h⟩:=aq h
        exact bm 0 (nu 263 [.ref 100,iI v127,.eptr 100 1 (v127.toNat) 0,.bool (gD v129 v127),.bool (!(gD v129 v127)),.bool true,iI v112,.bool (v112 == 0),.bool false,iI v112,.bool (decide (v112>0)),.bool true,.ref 189,iI v127,.eptr 189 1 (v127.toNat) 0,iI (gD v115 v127),.ref 44,iI v127,.eptr 44 1 (v127.toNat) 0,iI (gD v128 v127),.bool (decide ((gD v115 v127)>(gD v128 v127))),.bool (decide ((gD v115 v127)>(gD v128 v127))),.bool (decide ((gD v115 v127)>(gD v128 v127))),.bool false,iI v112,.bool (decide (v112<0)),.bool true,.ref 189,iI v127,.eptr 189 1 (v127.toNat) 0,iI (gD v115 v127),.ref 44,iI v127,.eptr 44 1 (v127.toNat) 0,iI (gD v128 v127),.bool (decide ((gD v115 v127)<(gD v128 v127))),.bool (decide ((gD v115 v127)<(gD v128 v127))),.bool (decide ((gD v115 v127)<(gD v128 v127))),.bool (decide ((gD v115 v127)<(gD v128 v127)))]) [] [] [] (am (vz 2) (d_v (aN 100 1 bR (L:=v129) h268) (d_v (aJ 4 0 bR bR (aH h268).2 (fun _=>rfl)) (am [.v 0 1] (aj (e_b 0 268 (e:=(!(gD v129 v127))) (b:=true) h269) (am (vz 2) (aj (e_b 0 271 (e:=(v112 == 0)) (b:=false) h270) (am (vz 2) (aj (e_b 0 274 (e:=(decide (v112>0))) (b:=true) h271) (am (vz 2) (d_v (aN 189 1 (eInt .i64) (L:=v115) h272) (d_v (aJ 3 0 (eInt .i64) (eInt .i64) (aH h276).2 (fun _=>rfl)) (am (vz 2) (d_v (aN 44 1 (eInt .i64) (L:=v128) h273) (d_v (aJ 3 0 (eInt .i64) (eInt .i64) (aH h277).2 (fun _=>rfl)) (am (vz 3) (aj (e_b 0 286 (e:=(decide ((gD v115 v127)>(gD v128 v127)))) (b:=false) h274) (am (vz 2) (aj (e_b 0 289 (e:=(decide (v112<0))) (b:=true) h275) (am (vz 2) (d_v (aN 189 1 (eInt .i64) (L:=v115) h276) (d_v (aJ 3 0 (eInt .i64) (eInt .i64) (aH h276).2 (fun _=>rfl)) (am (vz 2) (d_v (aN 44 1 (eInt .i64) (L:=v128) h277) (d_v (aJ 3 0 (eInt .i64) (eInt .i64) (aH h277).2 (fun _=>rfl)) (am (vz 4) bk)))))))))))))))))))))))))) (ag 0 (mO hK hL3 hL6 h))
       ·
        exact bm 0 (nu 263 [.ref 100,iI v127,.eptr 100 1 (v127.toNat) 0,.bool (gD v129 v127),.bool (!(gD v129 v127)),.bool true,iI v112,.bool (v112 == 0),.bool false,iI v112,.bool (decide (v112>0)),.bool true,.ref 189,iI v127,.eptr 189 1 (v127.toNat) 0,iI (gD v115 v127),.ref 44,iI v127,.eptr 44 1 (v127.toNat) 0,iI (gD v128 v127),.bool (decide ((gD v115 v127)>(gD v128 v127))),.bool (decide ((gD v115 v127)>(gD v128 v127))),.bool (decide ((gD v115 v127)>(gD v128 v127))),.bool false,iI v112,.bool (decide (v112<0)),.bool false,.tup [],.tup [],.tup [],.tup [],.tup [],.tup [],.tup [],.tup [],.tup [],.bool false,.bool false,.bool false]) [] [] [] (am (vz 2) (d_v (aN 100 1 bR (L:=v129) h268) (d_v (aJ 4 0 bR bR (aH h268).2 (fun _=>rfl)) (am [.v 0 1] (aj (e_b 0 268 (e:=(!(gD v129 v127))) (b:=true) h269) (am (vz 2) (aj (e_b 0 271 (e:=(v112 == 0)) (b:=false) h270) (am (vz 2) (aj (e_b 0 274 (e:=(decide (v112>0))) (b:=true) h271) (am (vz 2) (d_v (aN 189 1 (eInt .i64) (L:=v115) h272) (d_v (aJ 3 0 (eInt .i64) (eInt .i64) (aH h272).2 (fun _=>rfl)) (am (vz 2) (d_v (aN 44 1 (eInt .i64) (L:=v128) h273) (d_v (aJ 3 0 (eInt .i64) (eInt .i64) (aH h273).2 (fun _=>rfl)) (am (vz 3) (aj (e_b 0 286 (e:=(decide ((gD v115 v127)>(gD v128 v127)))) (b:=false) h274) (am (vz 2) (aj (e_b 0 289 (e:=(decide (v112<0))) (b:=false) h275) (aj (aD 0 1) (aj (aD 0 1) (aj (aD 0 1) (aj (aD 0 1) (aj (aD 0 1) (aj (aD 0 1) (aj (aD 0 1) (aj (aD 0 1) (aj (aD 0 1) (am (vz 3) bk))))))))))))))))))))))))))))) (ag 0 (mO hK hL3 hL6 h))
     ·
      rcases ao h with ⟨h278,h⟩ | ⟨h278,h⟩
      ·
       obtain ⟨h279,h⟩:=aq h
       obtain ⟨h280,h⟩:=aq h
       exact bm 0 (nu 263 [.ref 100,iI v127,.eptr 100 1 (v127.toNat) 0,.bool (gD v129 v127),.bool (!(gD v129 v127)),.bool true,iI v112,.bool (v112 == 0),.bool false,iI v112,.bool (decide (v112>0)),.bool false,.tup [],.tup [],.tup [],.tup [],.tup [],.tup [],.tup [],.tup [],.tup [],.bool false,.bool false,.bool false,iI v112,.bool (decide (v112<0)),.bool true,.ref 189,iI v127,.eptr 189 1 (v127.toNat) 0,iI (gD v115 v127),.ref 44,iI v127,.eptr 44 1 (v127.toNat) 0,iI (gD v128 v127),.bool (decide ((gD v115 v127)<(gD v128 v127))),.bool (decide ((gD v115 v127)<(gD v128 v127))),.bool (decide ((gD v115 v127)<(gD v128 v127))),.bool (decide ((gD v115 v127)<(gD v128 v127)))]) [] [] [] (am (vz 2) (d_v (aN 100 1 bR (L:=v129) h268) (d_v (aJ 4 0 bR bR (aH h268).2 (fun _=>rfl)) (am [.v 0 1] (aj (e_b 0 268 (e:=(!(gD v129 v127))) (b:=true) h269) (am (vz 2) (aj (e_b 0 271 (e:=(v112 == 0)) (b:=false) h270) (am (vz 2) (aj (e_b 0 274 (e:=(decide (v112>0))) (b:=false) h271) (aj (aD 0 1) (aj (aD 0 1) (aj (aD 0 1) (aj (aD 0 1) (aj (aD 0 1) (aj (aD 0 1) (aj (aD 0 1) (aj (aD 0 1) (aj (aD 0 1) (am (vz 5) (aj (e_b 0 289 (e:=(decide (v112<0))) (b:=true) h278) (am (vz 2) (d_v (aN 189 1 (eInt .i64) (L:=v115) h279) (d_v (aJ 3 0 (eInt .i64) (eInt .i64) (aH h279).2 (fun _=>rfl)) (am (vz 2) (d_v (aN 44 1 (eInt .i64) (L:=v128) h280) (d_v (aJ 3 0 (eInt .i64) (eInt .i64) (aH h280).2 (fun _=>rfl)) (am (vz 4) bk))))))))))))))))))))))))))) (ag 0 (mO hK hL3 hL6 h))
      ·
       exact bm 0 (nu 263 [.ref 100,iI v127,.eptr 100 1 (v127.toNat) 0,.bool (gD v129 v127),.bool (!(gD v129 v127)),.bool true,iI v112,.bool (v112 == 0),.bool false,iI v112,.bool (decide (v112>0)),.bool false,.tup [],.tup [],.tup [],.tup [],.tup [],.tup [],.tup [],.tup [],.tup [],.bool false,.bool false,.bool false,iI v112,.bool (decide (v112<0)),.bool false,.tup [],.tup [],.tup [],.tup [],.tup [],.tup [],.tup [],.tup [],.tup [],.bool false,.bool false,.bool false]) [] [] [] (am (vz 2) (d_v (aN 100 1 bR (L:=v129) h268) (d_v (aJ 4 0 bR bR (aH h268).2 (fun _=>rfl)) (am [.v 0 1] (aj (e_b 0 268 (e:=(!(gD v129 v127))) (b:=true) h269) (am (vz 2) (aj (e_b 0 271 (e:=(v112 == 0)) (b:=false) h270) (am (vz 2) (aj (e_b 0 274 (e:=(decide (v112>0))) (b:=false) h271) (aj (aD 0 1) (aj (aD 0 1) (aj (aD 0 1) (aj (aD 0 1) (aj (aD 0 1) (aj (aD 0 1) (aj (aD 0 1) (aj (aD 0 1) (aj (aD 0 1) (am (vz 5) (aj (e_b 0 289 (e:=(decide (v112<0))) (b:=false) h278) (aj (aD 0 1) (aj (aD 0 1) (aj (aD 0 1) (aj (aD 0 1) (aj (aD 0 1) (aj (aD 0 1) (aj (aD 0 1) (aj (aD 0 1) (aj (aD 0 1) (am (vz 3) bk)))))))))))))))))))))))))))))) (ag 0 (mO hK hL3 hL6 h))
   ·
    exact bm 0 (nu 263 [.ref 100,iI v127,.eptr 100 1 (v127.toNat) 0,.bool (gD v129 v127),.bool (!(gD v129 v127)),.bool false,.tup [],.tup [],.tup [],.tup [],.tup [],.tup [],.tup [],.tup [],.tup [],.tup [],.tup [],.tup [],.tup [],.tup [],.tup [],.tup [],.tup [],.tup [],.tup [],.tup [],.tup [],.tup [],.tup [],.tup [],.tup [],.tup [],.tup [],.tup [],.tup [],.tup [],.tup [],.tup [],.bool false]) [] [] [] (am (vz 2) (d_v (aN 100 1 bR (L:=v129) h268) (d_v (aJ 4 0 bR bR (aH h268).2 (fun _=>rfl)) (am [.v 0 1] (aj (e_b 0 268 (e:=(!(gD v129 v127))) (b:=false) h269) (aj (aD 0 1) (aj (aD 0 1) (aj (aD 0 1) (aj (aD 0 1) (aj (aD 0 1) (aj (aD 0 1) (aj (aD 0 1) (aj (aD 0 1) (aj (aD 0 1) (aj (aD 0 1) (aj (aD 0 1) (aj (aD 0 1) (aj (aD 0 1) (aj (aD 0 1) (aj (aD 0 1) (aj (aD 0 1) (aj (aD 0 1) (aj (aD 0 1) (aj (aD 0 1) (aj (aD 0 1) (aj (aD 0 1) (aj (aD 0 1) (aj (aD 0 1) (aj (aD 0 1) (aj (aD 0 1) (aj (aD 0 1) (aj (aD 0 1) (aj (aD 0 1) (aj (aD 0 1) (aj (aD 0 1) (aj (aD 0 1) (aj (aD 0 1) (am [.v 0 1] bk)))))))))))))))))))))))))))))))))))))) (ag 0 (mO hK hL3 hL6 h))
  ·
   exact ak 260 h267 (ag 6 (aY (hL3 h)))
theorem zq (hK:KnOk K) (hL3:dW M w0 r v2 v7 v9 m3 L3) (m:Nat):H19_6 M w0 r v2 v7 v9 v112 v115 m3 m (j4 K n v2 v7 v9 v112 v115 L3 m):=by
  induction m with
 | zero=>intro v126 v127 v128 v129 h; cases h
 | succ m ih=>intro v126 v127 v128 v129 h; have h:q9 K n v2 v7 v9 v112 v115 L3 (j4 K n v2 v7 v9 v112 v115 L3 m) v126 v127 v128 v129=some r:=h; exact aR (y7 hK hL3 ih h)
theorem zF (hK:KnOk K) (hL3:dW M w0 r v2 v7 v9 m3 L3) (hL5:H19_5 M w0 r v2 v7 v9 v78 v80 v104 m3 m5 L5) (h:rm K n v2 v7 v9 v78 v80 v104 L3 L5 v112 v113 v114 v115=some r):VE (cH M w0) (q19 M w0 r) [aA p19_8,gO M w0 r m3 m5,.b 8,aA fI,.b 5,cc M w0 r m3,.b 4,aA b8] .normal (s19_l13 v2 v7 v9 v78 v80 v104 v112 v113 v114 v115):=by
  unfold rm at h
  refine ac (ks':=[aA p19_34,aA p19_35,aA p19_36,gO M w0 r m3 m5,.b 8,aA fI,.b 5,cc M w0 r m3,.b 4,aA b8]) 2 (ai 2 (ap (br aF v9) (ae ?_)))
  rcases ao h with ⟨h231,h⟩ | ⟨h231,h⟩
  ·
   refine ak 193 h231 (ac (ks':=[aA p19_37,aA p19_38,aA p19_39,.b 9,aA lu,gO M w0 r m3 m5,.b 8,aA fI,.b 5,cc M w0 r m3,.b 4,aA b8]) 6 (ai 2 ?_))
   obtain ⟨h232,h⟩:=aq h
   refine ap (bK 100 1 bR h232) (ap (aJ 4 0 bR bR (aH h232).2 (fun _=>rfl)) (ae ?_))
   rcases ao h with ⟨h233,h⟩ | ⟨h233,h⟩
   ·
    exact ak 199 h233 (ag 4 (wg hK hL3 hL5 h))
   ·
    refine ak 199 h233 (ac (ks':=[aA p19_40,aA p19_41,.b 9,aA lu,gO M w0 r m3 m5,.b 8,aA fI,.b 5,cc M w0 r m3,.b 4,aA b8]) 3 (bL [1,5,6,7,10,11,18,19,20,21] [] [36,44,100,189,1186] ?_))
    obtain ⟨h234,h⟩:=aq h
    obtain ⟨h235,h⟩:=aq h
    obtain ⟨h236,h⟩:=aq h
    refine bm 1 (nu 200 [.ref 44,iI v113,.ref 36,iI v113,.eptr 36 5 (v113.toNat) 0,.eptr 36 5 (v113.toNat) 0,iI ((gD v9 v113).Base),.ref 1186,iI v113,.eptr 1186 1 (v113.toNat) 0,iI (gD v104 v113),iI (w64 (((gD v9 v113).Base) - (gD v104 v113))),.eptr 44 1 (v113.toNat) 0]) [] [] [strS 44 ⟨3,1,lm (eInt .i64) (List.set v114 v113.toNat (w64 (((gD v9 v113).Base) - (gD v104 v113))))⟩] (am (vz 4) (d_v (aN 36 5 aF (L:=v9) h234) (am [.v 0 1] (d_v (aJ 3 0 aF aF (aH h234).2 (fun _=>rfl)) (am (vz 2) (d_v (aN 1186 1 (eInt .i64) (L:=v104) h235) (d_v (aJ 3 0 (eInt .i64) (eInt .i64) (aH h235).2 (fun _=>rfl)) (am [.v 0 1] (d_v (aN 44 1 (eInt .i64) (L:=v114) h236) (aj (e_s (m:=0) (bV 44 3 1 0 (eInt .i64) (eInt .i64) (w64 (((gD v9 v113).Base) - (gD v104 v113))) (aH h236).2 (fun _=>rfl))) bk)))))))))) ?_
    obtain ⟨v116,h237,h⟩:=bind_some h
    have h237:=Option.some.inj h237
    refine aU (ks':=[aA p19_42,aA p19_21,.b 9,aA lu,gO M w0 r m3 m5,.b 8,aA fI,.b 5,cc M w0 r m3,.b 4,aA b8]) 3 ⟨[(1,iI v2),(5,.ref 36),(6,.ref 44),(7,.ref 100),(10,.bool (decide (v7<v2))),(11,iI v78),(18,.ref 1186),(19,iI v112),(20,.ref 189),(21,iI v113),(213,.bool (decide (v7<v2)))],[],[(36,⟨34,5,lm aF v9⟩),(44,⟨3,1,lm (eInt .i64) v116⟩),(100,⟨4,1,lm bR v80⟩),(189,⟨3,1,lm (eInt .i64) v115⟩),(1186,⟨3,1,lm (eInt .i64) v104⟩)],[36,44,100,189,1186]⟩ ?_ (by subst h237; kernel_rfl)
    rcases ao h with ⟨h238,h⟩ | ⟨h238,h⟩
    ·
     refine ak 213 h238 (ac (ks':=[aA p19_43,aA p19_21,.b 9,aA lu,gO M w0 r m3 m5,.b 8,aA fI,.b 5,cc M w0 r m3,.b 4,aA b8]) 1 (bL [1,5,6,7,10,11,18,19,20,21] [] [36,44,100,189,1186] ?_))
     obtain ⟨h239,h⟩:=aq h
     obtain ⟨h240,h⟩:=aq h
     obtain ⟨h241,h⟩:=aq h
     exact bm 1 (nu 214 [.ref 44,iI v113,.ref 36,iI v113,.eptr 36 5 (v113.toNat) 0,.eptr 36 5 (v113.toNat) 0,iI ((gD v9 v113).Base),.ref 1186,iI v113,.eptr 1186 1 (v113.toNat) 0,iI (gD v104 v113),iI (w64 (((gD v9 v113).Base)+(gD v104 v113))),.eptr 44 1 (v113.toNat) 0]) [] [] [strS 44 ⟨3,1,lm (eInt .i64) (List.set v116 v113.toNat (w64 (((gD v9 v113).Base)+(gD v104 v113))))⟩] (am (vz 4) (d_v (aN 36 5 aF (L:=v9) h239) (am [.v 0 1] (d_v (aJ 3 0 aF aF (aH h239).2 (fun _=>rfl)) (am (vz 2) (d_v (aN 1186 1 (eInt .i64) (L:=v104) h240) (d_v (aJ 3 0 (eInt .i64) (eInt .i64) (aH h240).2 (fun _=>rfl)) (am [.v 0 1] (d_v (aN 44 1 (eInt .i64) (L:=v116) h241) (aj (e_s (m:=0) (bV 44 3 1 0 (eInt .i64) (eInt .i64) (w64 (((gD v9 v113).Base)+(gD v104 v113))) (aH h241).2 (fun _=>rfl))) bk)))))))))) (ag 0 (xP hK hL3 hL5 h))
    ·
     exact ak 213 h238 (ag 2 (xP hK hL3 hL5 h))
  ·
   exact ak 193 h231 (ag 8 (bE (p:=p19_44) n (zq hK hL3 n h)))
theorem zf (hK:KnOk K) (hL3:dW M w0 r v2 v7 v9 m3 L3) (m:Nat):H19_5 M w0 r v2 v7 v9 v78 v80 v104 m3 m (mn K n v2 v7 v9 v78 v80 v104 L3 m):=by
  induction m with
 | zero=>intro v112 v113 v114 v115 h; cases h
 | succ m ih=>intro v112 v113 v114 v115 h; have h:rm K n v2 v7 v9 v78 v80 v104 L3 (mn K n v2 v7 v9 v78 v80 v104 L3 m) v112 v113 v114 v115=some r:=h; exact aR (zF hK hL3 ih h)
theorem xb (hK:KnOk K) (hL3:dW M w0 r v2 v7 v9 m3 L3) (h:jk K n v2 v7 v9 v78 v79 v80 v93 L3 v103=some r):VE (cH M w0) (q19 M w0 r) [aA p19_45,.b 5,cc M w0 r m3,.b 4,aA b8] .normal (s19_j10 v2 v7 v9 v78 v79 v80 v93 v103):=by
  unfold jk at h
  refine ac (ks':=[aA p19_46,aA p19_47,.b 5,cc M w0 r m3,.b 4,aA b8]) 1 (ai 2 (c9 110 ?_))
  obtain ⟨v104,h210,h⟩:=bind_some h
  refine cv 1186 (zR hK h210) (df 31) (ae (ac (ks':=[aA p19_48,aA p19_49,.b 5,cc M w0 r m3,.b 4,aA b8]) 3 (ai 1 (ap (br aF v9) ?_))))
  obtain ⟨h211,h⟩:=aq h
  exact fL (eInt .i64) (0:Int) 22 (.tmp 188) (.tmp 188) 189 (e:=3) (sz:=1) (zc:=[iI 0]) (kd:=.i64) (kd':=.i64) h211 (ae (ag 4 (bE (p:=p19_50) n (zf hK hL3 n h))))
theorem vG (hK:KnOk K) (hL3:dW M w0 r v2 v7 v9 m3 L3) (h:sB K n v2 v7 v9 v78 v79 v80 v91 v93 L3 v102=some r):VE (cH M w0) (q19 M w0 r) [aA p19_51,.b 5,cc M w0 r m3,.b 4,aA b8] .normal (s19_j9 v2 v7 v9 v78 v79 v80 v91 v93 v102):=by
  unfold sB at h
  refine ac (ks':=[aA p19_52,aA p19_45,.b 5,cc M w0 r m3,.b 4,aA b8]) 5 ?_
  rcases ao h with ⟨h209,h⟩ | ⟨h209,h⟩
  ·
   exact ak 179 h209 (ag 2 (xb hK hL3 h))
  ·
   exact ak 179 h209 (ag 2 (xb hK hL3 h))
theorem AJ (hK:KnOk K) (hL3:dW M w0 r v2 v7 v9 m3 L3) (hL4:H19_4 M w0 r v2 v7 v9 v78 v79 v80 m3 m4 L4) (h:sa K n v2 v7 v9 v78 v79 v80 L3 L4 v90 v91 v92 v93=some r):VE (cH M w0) (q19 M w0 r) [aA p19_10,fR M w0 r m3 m4,.b 6,aA eN,.b 5,cc M w0 r m3,.b 4,aA b8] .normal (s19_l8 v2 v7 v9 v78 v79 v80 v90 v91 v92 v93):=by
  unfold sa at h
  refine ac (ks':=[aA p19_53,aA p19_54,aA p19_55,fR M w0 r m3 m4,.b 6,aA eN,.b 5,cc M w0 r m3,.b 4,aA b8]) 2 (ai 2 (ap (br aF v9) (ae ?_)))
  rcases ao h with ⟨h192,h⟩ | ⟨h192,h⟩
  ·
   refine ak 114 h192 (ac (ks':=[aA p19_56,aA p19_57,aA p19_58,.b 7,aA hJ,fR M w0 r m3 m4,.b 6,aA eN,.b 5,cc M w0 r m3,.b 4,aA b8]) 6 (ai 2 ?_))
   obtain ⟨h193,h⟩:=aq h
   refine ap (bK 100 1 bR h193) (ap (aJ 4 0 bR bR (aH h193).2 (fun _=>rfl)) (ae ?_))
   rcases ao h with ⟨h194,h⟩ | ⟨h194,h⟩
   ·
    refine ak 120 h194 (ac (ks':=[aA p19_59,aA p19_60,aA p19_58,.b 7,aA hJ,fR M w0 r m3 m4,.b 6,aA eN,.b 5,cc M w0 r m3,.b 4,aA b8]) 2 (ai 3 ?_))
    obtain ⟨h195,h⟩:=aq h
    exact ap (bK 44 1 (eInt .i64) h195) (ap (aJ 3 0 (eInt .i64) (eInt .i64) (aH h195).2 (fun _=>rfl)) (ae (ag 3 (vn hK hL3 hL4 h))))
   ·
    refine ak 120 h194 (ac (ks':=[aA p19_61,aA p19_62,.b 7,aA hJ,fR M w0 r m3 m4,.b 6,aA eN,.b 5,cc M w0 r m3,.b 4,aA b8]) 3 (ai 3 ?_))
    obtain ⟨h196,h⟩:=aq h
    refine ap (bK 36 5 aF h196) (aO 5 1 (ap (aJ 3 0 aF aF (aH h196).2 (fun _=>rfl)) (ae ?_)))
    obtain ⟨v94,h197,h⟩:=bind_some h
    have h197:=Option.some.inj h197
    refine aU (ks':=[aA p19_63,aA p19_64,.b 7,aA hJ,fR M w0 r m3 m4,.b 6,aA eN,.b 5,cc M w0 r m3,.b 4,aA b8]) 1 ⟨[(1,iI v2),(5,.ref 36),(6,.ref 44),(7,.ref 100),(10,.bool (decide (v7<v2))),(11,iI v78),(14,iI v94),(15,iI v91),(16,.ref 110),(17,iI v92)],[],[(36,⟨34,5,lm aF v9⟩),(44,⟨3,1,lm (eInt .i64) v79⟩),(100,⟨4,1,lm bR v80⟩),(110,⟨3,1,lm (eInt .i64) v93⟩)],[36,44,100,110]⟩ ?_ (by subst h197; kernel_rfl)
    obtain ⟨h198,h⟩:=aq h
    obtain ⟨h199,h⟩:=aq h
    obtain ⟨h200,h⟩:=aq h
    refine bm 1 (nu 134 [.ref 110,iI v92,.ref 36,iI v92,.eptr 36 5 (v92.toNat) 0,.eptr 36 5 (v92.toNat) 0,iI ((gD v9 v92).Base),.ref 36,iI v92,.eptr 36 5 (v92.toNat) 0,.eptr 36 5 (v92.toNat) 2,iI ((gD v9 v92).Shrink),iI (w64 (((gD v9 v92).Base)*((gD v9 v92).Shrink))),iI (w64 (Int.tdiv (w64 (((gD v9 v92).Base)*((gD v9 v92).Shrink))) 1000)),.eptr 110 1 (v92.toNat) 0]) [] [] [strS 110 ⟨3,1,lm (eInt .i64) (List.set v93 v92.toNat (w64 (Int.tdiv (w64 (((gD v9 v92).Base)*((gD v9 v92).Shrink))) 1000)))⟩] (am (vz 4) (d_v (aN 36 5 aF (L:=v9) h198) (am [.v 0 1] (d_v (aJ 3 0 aF aF (aH h199).2 (fun _=>rfl)) (am (vz 2) (d_v (aN 36 5 aF (L:=v9) h199) (am [.v 0 1] (d_v (aJ 3 2 aF aF (aH h199).2 (fun _=>rfl)) (am (vz 2) (d_v (aN 110 1 (eInt .i64) (L:=v93) h200) (aj (e_s (m:=0) (bV 110 3 1 0 (eInt .i64) (eInt .i64) (w64 (Int.tdiv (w64 (((gD v9 v92).Base)*((gD v9 v92).Shrink))) 1000)) (aH h200).2 (fun _=>rfl))) bk))))))))))) ?_
    obtain ⟨v95,h201,h⟩:=bind_some h
    have h201:=Option.some.inj h201
    refine aU (ks':=[aA p19_65,.b 7,aA hJ,fR M w0 r m3 m4,.b 6,aA eN,.b 5,cc M w0 r m3,.b 4,aA b8]) 2 ⟨[(1,iI v2),(5,.ref 36),(6,.ref 44),(7,.ref 100),(10,.bool (decide (v7<v2))),(11,iI v78),(14,iI v94),(15,iI v91),(16,.ref 110),(17,iI v92),(149,.bool (decide (v7<v2)))],[],[(36,⟨34,5,lm aF v9⟩),(44,⟨3,1,lm (eInt .i64) v79⟩),(100,⟨4,1,lm bR v80⟩),(110,⟨3,1,lm (eInt .i64) v95⟩)],[36,44,100,110]⟩ ?_ (by subst h201; kernel_rfl)
    rcases ao h with ⟨h202,h⟩ | ⟨h202,h⟩
    ·
     refine ak 149 h202 (ac (ks':=[aA p19_66,aA p19_67,.b 7,aA hJ,fR M w0 r m3 m4,.b 6,aA eN,.b 5,cc M w0 r m3,.b 4,aA b8]) 2 (ai 4 ?_))
     obtain ⟨h203,h⟩:=aq h
     refine ap (bK 36 5 aF h203) (aO 6 1 (ap (aJ 3 1 aF aF (aH h203).2 (fun _=>rfl)) ?_))
     obtain ⟨h204,h⟩:=aq h
     refine ap (bK 110 1 (eInt .i64) h204) (ap (bV 110 3 1 0 (eInt .i64) (eInt .i64) ((gD v9 v92).Grow) (aH h204).2 (fun _=>rfl)) (ae ?_))
     obtain ⟨v96,h205,h⟩:=bind_some h
     have h205:=Option.some.inj h205
     refine aU (ks':=[aA p19_67,.b 7,aA hJ,fR M w0 r m3 m4,.b 6,aA eN,.b 5,cc M w0 r m3,.b 4,aA b8]) 0 ⟨[(1,iI v2),(5,.ref 36),(6,.ref 44),(7,.ref 100),(10,.bool (decide (v7<v2))),(11,iI v78),(14,iI v94),(15,iI v91),(16,.ref 110),(17,iI v92)],[],[(36,⟨34,5,lm aF v9⟩),(44,⟨3,1,lm (eInt .i64) v79⟩),(100,⟨4,1,lm bR v80⟩),(110,⟨3,1,lm (eInt .i64) v96⟩)],[36,44,100,110]⟩ ?_ (by subst h205; kernel_rfl)
     refine ai 3 ?_
     obtain ⟨h206,h⟩:=aq h
     exact ap (bK 36 5 aF h206) (aO 5 1 (ap (aJ 3 1 aF aF (aH h206).2 (fun _=>rfl)) (ae (ag 0 (xh hK hL3 hL4 h)))))
    ·
     refine ak 149 h202 (ac (ks':=[aA p19_68,.b 7,aA hJ,fR M w0 r m3 m4,.b 6,aA eN,.b 5,cc M w0 r m3,.b 4,aA b8]) 1 (ai 3 ?_))
     obtain ⟨h207,h⟩:=aq h
     exact ap (bK 36 5 aF h207) (aO 5 1 (ap (aJ 3 2 aF aF (aH h207).2 (fun _=>rfl)) (ae (ag 0 (xh hK hL3 hL4 h)))))
  ·
   refine ak 114 h192 (ac (ks':=[aA p19_69,aA p19_51,.b 5,cc M w0 r m3,.b 4,aA b8]) 8 ?_)
   rcases ao h with ⟨h208,h⟩ | ⟨h208,h⟩
   ·
    exact ak 173 h208 (ag 2 (vG hK hL3 h))
   ·
    exact ak 173 h208 (ag 2 (vG hK hL3 h))
theorem yQ (hK:KnOk K) (hL3:dW M w0 r v2 v7 v9 m3 L3) (m:Nat):H19_4 M w0 r v2 v7 v9 v78 v79 v80 m3 m (nL K n v2 v7 v9 v78 v79 v80 L3 m):=by
  induction m with
 | zero=>intro v90 v91 v92 v93 h; cases h
 | succ m ih=>intro v90 v91 v92 v93 h; have h:sa K n v2 v7 v9 v78 v79 v80 L3 (nL K n v2 v7 v9 v78 v79 v80 L3 m) v90 v91 v92 v93=some r:=h; exact aR (AJ hK hL3 ih h)
theorem zW (hK:KnOk K) (hL3:dW M w0 r v2 v7 v9 m3 L3) (h:qt K n v2 v7 v9 L3 v78 v79 v80=some r):VE (cH M w0) (q19 M w0 r) [aA p19_1,cc M w0 r m3,.b 4,aA b8] .normal (s19_l17 v2 v7 v9 v78 v79 v80):=by
  unfold qt at h
  refine ac (ks':=[aA p19_70,aA p19_71,cc M w0 r m3,.b 4,aA b8]) 3 ?_
  rcases ao h with ⟨h173,h⟩ | ⟨h173,h⟩
  ·
   refine ak 106 h173 (ac (ks':=[aA p19_72,aA p19_73,.b 5,cc M w0 r m3,.b 4,aA b8]) 8 (ai 1 (ap (br aF v9) ?_)))
   obtain ⟨h174,h⟩:=aq h
   exact fL (eInt .i64) (0:Int) 22 (.tmp 109) (.tmp 109) 110 (e:=3) (sz:=1) (zc:=[iI 0]) (kd:=.i64) (kd':=.i64) h174 (ae (ag 4 (bE (p:=p19_74) n (yQ hK hL3 n h))))
  ·
   refine ak 106 h173 (aM 8 ?_)
   cases h
   exact cP
theorem Al (hK:KnOk K) (m:Nat):dW M w0 r v2 v7 v9 m (go K n v2 v7 v9 m):=by
  induction m with
 | zero=>intro v78 v79 v80 h; cases h
 | succ m ih=>intro v78 v79 v80 h; have h:qt K n v2 v7 v9 (go K n v2 v7 v9 m) v78 v79 v80=some r:=h; exact aR (zW hK ih h)
theorem Df (hK:KnOk K) (hL2:H19_2 M w0 r v2 v7 v9 v10 m2 L2) (h:qH K n v2 v7 v9 v10 L2 v19 v20 v21=some r):VE (cH M w0) (q19 M w0 r) [aA p19_3,iH M w0 r m2,.b 2,aA ft] .normal (s19_l5 v2 v7 v9 v10 v19 v20 v21):=by
  unfold qH at h
  refine ac (ks':=[aA p19_75,aA p19_76,aA p19_77,iH M w0 r m2,.b 2,aA ft]) 2 (ai 2 (ap (br aF v9) (ae ?_)))
  rcases ao h with ⟨h49,h⟩ | ⟨h49,h⟩
  ·
   refine ak 57 h49 (ac (ks':=[aA p19_78,aA p19_16,.b 3,aA kZ,iH M w0 r m2,.b 2,aA ft]) 5 (bL [1,5,6,7,10,11,12] [] [36,44,100] ?_))
   obtain ⟨h50,h⟩:=aq h
   rcases ao h with ⟨h51,h⟩ | ⟨h51,h⟩
   ·
    exact bm 1 (nu 60 [.ref 36,iI v20,.eptr 36 5 (v20.toNat) 0,.eptr 36 5 (v20.toNat) 2,iI ((gD v9 v20).Shrink),.bool (((gD v9 v20).Shrink) == 0),.bool true,.tup [],.tup [],.tup [],.tup [],.tup [],.tup [],.tup [],.tup [],.tup [],.tup [],.bool true]) [] [] [stp Try.prog 315 Try.f19 p19_78 18] (am (vz 2) (d_v (aN 36 5 aF (L:=v9) h50) (am [.v 0 1] (d_v (aJ 3 2 aF aF (aH h50).2 (fun _=>rfl)) (am [.v 0 1] (aj (e_b 0 66 (e:=(((gD v9 v20).Shrink) == 0)) (b:=true) h51) (aj (aD 0 1) (aj (aD 0 1) (aj (aD 0 1) (aj (aD 0 1) (aj (aD 0 1) (aj (aD 0 1) (aj (aD 0 1) (aj (aD 0 1) (aj (aD 0 1) (aj (aD 0 1) (am [.v 0 1] (aj (e_d 0) bk)))))))))))))))))) (ag 0 (xi hK hL2 h))
   ·
    obtain ⟨h52,h⟩:=aq h
    obtain ⟨h53,h⟩:=aq h
    exact bm 1 (nu 60 [.ref 36,iI v20,.eptr 36 5 (v20.toNat) 0,.eptr 36 5 (v20.toNat) 2,iI ((gD v9 v20).Shrink),.bool (((gD v9 v20).Shrink) == 0),.bool false,.ref 36,iI v20,.eptr 36 5 (v20.toNat) 0,.eptr 36 5 (v20.toNat) 0,iI ((gD v9 v20).Base),.ref 44,iI v20,.eptr 44 1 (v20.toNat) 0,iI (gD v10 v20),.bool (decide (((gD v9 v20).Base)<(gD v10 v20))),.bool (decide (((gD v9 v20).Base)<(gD v10 v20)))]) [] [] [stp Try.prog 315 Try.f19 p19_78 18] (am (vz 2) (d_v (aN 36 5 aF (L:=v9) h50) (am [.v 0 1] (d_v (aJ 3 2 aF aF (aH h52).2 (fun _=>rfl)) (am [.v 0 1] (aj (e_b 0 66 (e:=(((gD v9 v20).Shrink) == 0)) (b:=false) h51) (am (vz 2) (d_v (aN 36 5 aF (L:=v9) h52) (am [.v 0 1] (d_v (aJ 3 0 aF aF (aH h52).2 (fun _=>rfl)) (am (vz 2) (d_v (aN 44 1 (eInt .i64) (L:=v10) h53) (d_v (aJ 3 0 (eInt .i64) (eInt .i64) (aH h53).2 (fun _=>rfl)) (am (vz 2) (aj (e_d 0) bk))))))))))))))) (ag 0 (xi hK hL2 h))
  ·
   exact ak 57 h49 (ag 7 (bE (p:=p19_79) n (Al hK n h)))
theorem Bt (hK:KnOk K) (m:Nat):H19_2 M w0 r v2 v7 v9 v10 m (lS K n v2 v7 v9 v10 m):=by
  induction m with
 | zero=>intro v19 v20 v21 h; cases h
 | succ m ih=>intro v19 v20 v21 h; have h:qH K n v2 v7 v9 v10 (lS K n v2 v7 v9 v10 m) v19 v20 v21=some r:=h; exact aR (Df hK ih h)
theorem BG (hK:KnOk K) (hL1:H19_1 M w0 r v1 v2 m1 L1) (h:qM K n v1 v2 L1 v7 v8 v9 v10=some r):VE (cH M w0) (q19 M w0 r) [aA p19_5,k19_1 M w0 r m1,.b 0,aA mt] .normal (s19_l1 v1 v2 v7 v8 v9 v10):=by
  unfold qM at h
  refine ac (ks':=[aA p19_80,aA p19_81,aA p19_82,k19_1 M w0 r m1,.b 0,aA mt]) 2 (ai 2 (ap (br aF v1) (ae ?_)))
  rcases ao h with ⟨h17,h⟩ | ⟨h17,h⟩
  ·
   refine ak 26 h17 (ac (ks':=[aA p19_83,aA p19_84,.b 1,aA p19_85,k19_1 M w0 r m1,.b 0,aA mt]) 5 (ai 3 ?_))
   obtain ⟨h18,h⟩:=aq h
   refine ap (bF aF aF h18 (jv) (fun _=>rfl)) (aO 5 1 ?_)
   obtain ⟨v11,h19,h⟩:=bind_some h
   refine aC (vq hK h19) (aO 7 1 ?_)
   obtain ⟨h20,h⟩:=aq h
   refine ap (cb 36 36 34 5 aF (rfl) (jv) h20) (ae (ac (ks':=[aA p19_86,aA p19_87,.b 1,aA p19_85,k19_1 M w0 r m1,.b 0,aA mt]) 1 (ai 3 ?_)))
   obtain ⟨h21,h⟩:=aq h
   refine ap (bF aF aF h21 (jv) (fun _=>rfl)) (aO 5 1 ?_)
   obtain ⟨v12,h22,h⟩:=bind_some h
   refine aC (uS hK h22) (aO 7 1 ?_)
   obtain ⟨h23,h⟩:=aq h
   refine ap (cb 44 44 3 1 (eInt .i64) (rfl) (fun _=>rfl) h23) (ae (ai 3 ?_))
   obtain ⟨h24,h⟩:=aq h
   exact ap (bK 44 1 (eInt .i64) h24) (ap (aJ 3 0 (eInt .i64) (eInt .i64) (aH h24).2 (fun _=>rfl)) (ae (ag 2 (aY (hL1 h)))))
  ·
   exact ak 26 h17 (ac (ks':=[aA p19_88,.b 2,aA ft]) 13 (cw 100 7 4 1 (ag 0 (bE (p:=p19_88) n (Bt hK n h)))))
theorem Am (hK:KnOk K) (m:Nat):H19_1 M w0 r v1 v2 m (pN K n v1 v2 m):=by
  induction m with
 | zero=>intro v7 v8 v9 v10 h; cases h
 | succ m ih=>intro v7 v8 v9 v10 h; have h:qM K n v1 v2 (pN K n v1 v2 m) v7 v8 v9 v10=some r:=h; exact aR (BG hK ih h)
theorem vf (hK:KnOk K) (h:iW K n v1 v2=some r):ACalls Try.prog 19 [.sl (lm aF v1),iI v2] (fun v s=>v = .ref 44∧look 44 s.r=some ⟨3,1,lm (eInt .i64) r⟩):=by
  refine bj (cat Try.f19 []) Try.func19 Try.ntmps19 fun M w0=>(bb ⟨[(0,.sl (lm aF v1)),(1,iI v2)],[],[],[]⟩ ?_)
  unfold iW at h
  exact ac (ks':=[aA p19_89,.b 0,aA mt]) 14 (cw 36 5 34 5 (cw 44 6 3 1 (ag 0 (bE (p:=p19_89) n (Am hK n h)))))
end
def jb:=pth 0 11111
def p56_1:=pth 0 11110100
def p56_2:=pth 0 1111010011
def p56_3:=pth 0 1111010000
def p56_4:=pth 0 1111010001
def p56_5:=pth 0 111101001
def p56_6:=pth 0 111101001000
def p56_7:=pth 0 111101001001
def p56_8:=pth 0 11110100100100
def p56_9:=pth 0 11110100100101
def p56_10:=pth 0 1111010
noncomputable section
abbrev cx56 (M:Nat→Prop) (w0:Base):Cx:=⟨Try.prog,42,M,w0⟩
abbrev q56 (M:Nat→Prop) (w0:Base) (r:(List aa)×Int):=bodyPost Try.prog Try.f56 (RetQ M w0 (fun v s=>v = .tup [.ref 35,iI r.2]∧look 35 s.r=some ⟨67,67,lm au r.1⟩))
abbrev cZ (p:List Nat):Kont:=.c (cat Try.f56 p)
abbrev nU (M:Nat→Prop) (w0:Base) (r:(List aa)×Int) (m1:Nat):Kont:=kl (cx56 M w0) (q56 M w0 r) [.b 0,cZ jb] (cat Try.f56 p56_1) m1
def s56_j1 (v1:List ab) (v2:aE) (v3 v11 v14:Int) (v15:List aa):AS:=⟨[(0,.sl (lm aB v1)),(2,iI v3),(4,.ptr 4 0),(8,.ref 35),(9,iI v14),(10,iI v11)],[(4,aL v2)],[(35,⟨67,67,lm au v15⟩)],[4,35]⟩
def s56_l2 (v1:List ab) (v2:aE) (v3 v10 v11:Int) (v12:List aa):AS:=⟨[(0,.sl (lm aB v1)),(2,iI v3),(4,.ptr 4 0),(8,.ref 35),(9,iI v10),(10,iI v11)],[(4,aL v2)],[(35,⟨67,67,lm au v12⟩)],[4,35]⟩
abbrev H56_1 (M:Nat→Prop) (w0:Base) (r:(List aa)×Int) (v1:List ab) (v2:aE) (v3:Int) (m1:Nat) (L1:Int→Int→(List aa)→Option ((List aa)×Int)):Prop:=∀ {v10 v11:Int} {v12:List aa},L1 v10 v11 v12=some r→LP (cx56 M w0) (q56 M w0 r) [.b 0,cZ jb] (cat Try.f56 p56_1) m1 (s56_l2 v1 v2 v3 v10 v11 v12)
variable {K:Kn} {n:Nat} {M:Nat→Prop} {w0:Base} {r:(List aa)×Int} {v1:List ab} {v2:aE} {v3 v10 v11:Int} {v12:List aa} {v14:Int} {v15:List aa} {m1:Nat} {L1:Int→Int→(List aa)→Option ((List aa)×Int)}
theorem xu (hK:KnOk K) (hL1:H56_1 M w0 r v1 v2 v3 m1 L1) (h:l6 K n v1 v2 v3 v11 L1 v14 v15=some r):VE (cx56 M w0) (q56 M w0 r) [.b 1,cZ p56_2,nU M w0 r m1,.b 0,cZ jb] .normal (s56_j1 v1 v2 v3 v11 v14 v15):=by
  unfold l6 at h
  exact ag 2 (aY (hL1 h))
theorem B0 (hK:KnOk K) (hL1:H56_1 M w0 r v1 v2 v3 m1 L1) (h:kp K n v1 v2 v3 L1 v10 v11 v12=some r):VE (cx56 M w0) (q56 M w0 r) [cZ p56_1,nU M w0 r m1,.b 0,cZ jb] .normal (s56_l2 v1 v2 v3 v10 v11 v12):=by
  unfold kp at h
  refine ac (ks':=[cZ p56_3,cZ p56_4,cZ p56_5,nU M w0 r m1,.b 0,cZ jb]) 2 (ai 2 (ap (br aB v1) (ae ?_)))
  rcases ao h with ⟨h13,h⟩ | ⟨h13,h⟩
  ·
   refine ak 14 h13 (ac (ks':=[cZ p56_6,cZ p56_7,.b 1,cZ p56_2,nU M w0 r m1,.b 0,cZ jb]) 5 (ai 2 ?_))
   obtain ⟨h14,h⟩:=aq h
   refine ap (bF aB ax h14 (cj) (b9)) (ae ?_)
   obtain ⟨v13,h15,h⟩:=bind_some h
   have h15:=Option.some.inj h15
   refine aU (ks':=[cZ p56_7,.b 1,cZ p56_2,nU M w0 r m1,.b 0,cZ jb]) 0 ⟨[(0,.sl (lm aB v1)),(2,iI v3),(4,.ptr 4 0),(8,.ref 35),(9,iI v10),(10,iI v11),(22,.bool v13)],[(4,aL v2)],[(35,⟨67,67,lm au v12⟩)],[4,35]⟩ ?_ (by subst h15; kernel_rfl)
   rcases ao h with ⟨h16,h⟩ | ⟨h16,h⟩
   ·
    refine ak 22 h16 (ac (ks':=[cZ p56_8,cZ p56_9,.b 1,cZ p56_2,nU M w0 r m1,.b 0,cZ jb]) 2 (bL [0,2,4,8,9,10] [4] [35] ?_))
    obtain ⟨h17,h⟩:=aq h
    obtain ⟨h18,h⟩:=aq h
    exact bm 2 (nu 23 [.ref 35,iI v10,iI v3,.ptr 4 38,iI v2.LineHeight,.sl (lm aB v1),iI v11,.cptr (ax (gD v1 v11)),.cptr (List.drop 55 (ax (gD v1 v11))),.str ((gD v1 v11).Text),.agg (List.set (az ({ bv with Kind:=2,Y:=v10,W:=v3,H:=v2.LineHeight,Text:=(gD v1 v11).Text }:aa)) 66 (.nils)),.sl (lm au [({ bv with Kind:=2,Y:=v10,W:=v3,H:=v2.LineHeight,Text:=(gD v1 v11).Text }:aa)])]) [] [] [appS 35 35 ⟨67,67,lm au (v12++[({ bv with Kind:=2,Y:=v10,W:=v3,H:=v2.LineHeight,Text:=(gD v1 v11).Text }:aa)])⟩,stp Try.prog 42 Try.f56 p56_8 13] (am [.v 0 1,.v 0 2,.v 0 2,.v 0 2,.v 0 2,.v 0 2,.v 0 2] (aj (k_v (lo:=0) (k:=2) (bP ⟨(by kernel_rfl),(bQ (bF aB ax h17 (cj) (b9)) (by kernel_rfl))⟩ (bP ⟨(by kernel_rfl),(bQ (bF aB ax h17 (cj) (b9)) (by kernel_rfl))⟩ cF))) (am [.v 0 2,.v 0 2,.v 0 2] (d_v (dN au ([({ bv with Kind:=2,Y:=v10,W:=v3,H:=v2.LineHeight,Text:=(gD v1 v11).Text }:aa)]:List aa) (new:=[az ({ bv with Kind:=2,Y:=v10,W:=v3,H:=v2.LineHeight,Text:=(gD v1 v11).Text }:aa)]) (by simp only [List.map_cons,List.map_nil,cp])) (aj (e_s (m:=0) (cb 35 35 67 67 au (rfl) (dR) h18)) (aj (e_d 1) bk)))))) (ag 1 (xu hK hL1 h))
   ·
    exact ak 22 h16 (ag 2 (xu hK hL1 h))
  ·
   refine ak 14 h13 (aM 8 ?_)
   cases h
   exact eH
theorem B4 (hK:KnOk K) (m:Nat):H56_1 M w0 r v1 v2 v3 m (lE K n v1 v2 v3 m):=by
  induction m with
 | zero=>intro v10 v11 v12 h; cases h
 | succ m ih=>intro v10 v11 v12 h; have h:kp K n v1 v2 v3 (lE K n v1 v2 v3 m) v10 v11 v12=some r:=h; exact aR (B0 hK ih h)
theorem wU (hK:KnOk K) (h:iC K n v1 v2 v3=some r):ACalls Try.prog 56 [.sl (lm aB v1),.agg (aL v2),iI v3] (fun v s=>v = .tup [.ref 35,iI r.2]∧look 35 s.r=some ⟨67,67,lm au r.1⟩):=by
  refine bj (cat Try.f56 []) Try.func56 Try.ntmps56 fun M w0=>(bb ⟨[(0,.sl (lm aB v1)),(1,.agg (aL v2)),(2,iI v3)],[],[],[]⟩ ?_)
  unfold iC at h
  exact ac (ks':=[cZ p56_10,.b 0,cZ jb]) 10 (cw 35 8 67 67 (ag 0 (bE (p:=p56_10) n (B4 hK n h))))
end
def p58_0:=pth 0 1110100
def p58_1:=pth 0 111010011
def p58_2:=pth 0 111010000
def p58_3:=pth 0 111010001
def p58_4:=pth 0 11101001
def p58_5:=pth 0 11101001000
def p58_6:=pth 0 11101001001
def p58_7:=pth 0 111010010010
def p58_8:=pth 0 111010
noncomputable section
abbrev cx58 (M:Nat→Prop) (w0:Base):Cx:=⟨Try.prog,27,M,w0⟩
abbrev q58 (M:Nat→Prop) (w0:Base) (r:List ab):=bodyPost Try.prog Try.f58 (RetQ M w0 (fun v s=>v = .ref 25∧look 25 s.r=some ⟨50,59,lm aB r⟩))
abbrev dn (p:List Nat):Kont:=.c (cat Try.f58 p)
abbrev k58_1 (M:Nat→Prop) (w0:Base) (r:List ab) (m1:Nat):Kont:=kl (cx58 M w0) (q58 M w0 r) [.b 0,dn [1,1,1]] (cat Try.f58 p58_0) m1
def s58_j1 (v1:ab) (v8:Int) (v11:List ab):AS:=⟨[(1,.ptr 1 0),(3,.ref 25),(4,iI v8)],[(1,ax v1)],[(25,⟨50,59,lm aB v11⟩)],[1,25]⟩
def s58_l2 (v1:ab) (v8:Int) (v9:List ab):AS:=⟨[(1,.ptr 1 0),(3,.ref 25),(4,iI v8)],[(1,ax v1)],[(25,⟨50,59,lm aB v9⟩)],[1,25]⟩
abbrev H58_1 (M:Nat→Prop) (w0:Base) (r:List ab) (v1:ab) (m1:Nat) (L1:Int→(List ab)→Option (List ab)):Prop:=∀ {v8:Int} {v9:List ab},L1 v8 v9=some r→LP (cx58 M w0) (q58 M w0 r) [.b 0,dn [1,1,1]] (cat Try.f58 p58_0) m1 (s58_l2 v1 v8 v9)
variable {K:Kn} {n:Nat} {M:Nat→Prop} {w0:Base} {r:List ab} {v1:ab} {v8:Int} {v9 v11:List ab} {m1:Nat} {L1:Int→(List ab)→Option (List ab)}
theorem vA (hK:KnOk K) (hL1:H58_1 M w0 r v1 m1 L1) (h:jY K n v1 v8 L1 v11=some r):VE (cx58 M w0) (q58 M w0 r) [.b 1,dn p58_1,k58_1 M w0 r m1,.b 0,dn [1,1,1]] .normal (s58_j1 v1 v8 v11):=by
  unfold jY at h
  exact ag 2 (aY (hL1 h))
theorem Bj (hK:KnOk K) (hL1:H58_1 M w0 r v1 m1 L1) (h:lv K n v1 L1 v8 v9=some r):VE (cx58 M w0) (q58 M w0 r) [dn p58_0,k58_1 M w0 r m1,.b 0,dn [1,1,1]] .normal (s58_l2 v1 v8 v9):=by
  unfold lv at h
  refine ac (ks':=[dn p58_2,dn p58_3,dn p58_4,k58_1 M w0 r m1,.b 0,dn [1,1,1]]) 2 (ai 3 (ap (br aB v1.Kids) (ae ?_)))
  rcases ao h with ⟨h15,h⟩ | ⟨h15,h⟩
  ·
   refine ak 9 h15 (ac (ks':=[dn p58_5,dn p58_6,.b 1,dn p58_1,k58_1 M w0 r m1,.b 0,dn [1,1,1]]) 5 (ai 3 ?_))
   obtain ⟨h16,h⟩:=aq h
   refine ap (bF aB ax h16 (cj) (b9)) (aO 5 1 ?_)
   obtain ⟨v10,h17,h⟩:=bind_some h
   refine aC (wk hK h17) (ae ?_)
   rcases ao h with ⟨h18,h⟩ | ⟨h18,h⟩
   ·
    refine ak 17 h18 (ac (ks':=[dn p58_7,.b 1,dn p58_1,k58_1 M w0 r m1,.b 0,dn [1,1,1]]) 1 (ai 4 ?_))
    obtain ⟨h19,h⟩:=aq h
    refine ap (bF aB ax h19 (cj) (b9)) (aO 6 1 (ap (dN aB ([(gD v1.Kids v8)]:List ab) (new:=[ax (gD v1.Kids v8)]) (by simp only [List.map_cons,List.map_nil,b9])) ?_))
    obtain ⟨h20,h⟩:=aq h
    exact ap (cb 25 25 50 59 aB (rfl) (cj) h20) (ae (ag 0 (vA hK hL1 h)))
   ·
    exact ak 17 h18 (ag 2 (vA hK hL1 h))
  ·
   refine ak 9 h15 (aM 8 ?_)
   cases h
   exact cP
theorem BB (hK:KnOk K) (m:Nat):H58_1 M w0 r v1 m (kG K n v1 m):=by
  induction m with
 | zero=>intro v8 v9 h; cases h
 | succ m ih=>intro v8 v9 h; have h:lv K n v1 (kG K n v1 m) v8 v9=some r:=h; exact aR (Bj hK ih h)
theorem u0 (hK:KnOk K) (h:iQ K n v1=some r):ACalls Try.prog 58 [.agg (ax v1)] (fun v s=>v = .ref 25∧look 25 s.r=some ⟨50,59,lm aB r⟩):=by
  refine bj (cat Try.f58 []) Try.func58 Try.ntmps58 fun M w0=>(bb ⟨[(0,.agg (ax v1))],[],[],[]⟩ ?_)
  unfold iQ at h
  exact ac (ks':=[dn p58_8,.b 0,dn [1,1,1]]) 8 (cw 25 3 50 59 (ag 0 (bE (p:=p58_8) n (BB hK n h))))
end
def p72_0:=pth 5 1
def p72_1:=pth 0 1111101
def p72_2:=pth 0 111110100
def p72_3:=pth 0 111110101
noncomputable section
abbrev cx72 (M:Nat→Prop) (w0:Base):Cx:=⟨Try.prog,45,M,w0⟩
abbrev q72 (M:Nat→Prop) (w0:Base) (r:aa):=bodyPost Try.prog Try.f72 (RetQ M w0 (fun v _=>v = .agg (az r)))
def s72_j1 (v1:aa) (v3:Int×Bool) (v5:Int):AS:=⟨[(2,.ptr 2 0),(4,.ptr 4 0)],[(2,az ({ v1 with X:=(w64 (v1.X+v3.1)),Y:=v5 }:aa)),(4,List.set (az bv) 66 (.nils))],[],[2,4]⟩
variable {K:Kn} {n:Nat} {M:Nat→Prop} {w0:Base} {r v1:aa} {v2:Int} {v3:Int×Bool} {v5:Int} 
abbrev iB (p:List Nat):Kont:=.c (cat Try.f72 p)
theorem wZ (hK:KnOk K) (h:lq K n v1 v3 v5=some r):VE (cx72 M w0) (q72 M w0 r) [iB p72_0] .normal (s72_j1 v1 v3 v5):=by
  unfold lq at h
  refine aM 3 ?_
  cases h
  exact bu
theorem xT (hK:KnOk K) (h:jf K n v1 v2=some r):ACalls Try.prog 72 [.agg (az v1),iI v2] (fun v _=>v = .agg (az r)):=by
  refine bj (cat Try.f72 []) Try.func72 Try.ntmps72 fun M w0=>(bb ⟨[(0,.agg (az v1)),(1,iI v2)],[],[],[]⟩ ?_)
  unfold jf at h
  refine ac (ks':=[iB [1,0,1],iB [1,1]]) 5 ?_
  rcases ao h with ⟨h1,h⟩ | ⟨h1,h⟩
  ·
   refine ak 12 h1 (aM 5 ?_)
   cases h
   exact bu
  ·
   refine ak 12 h1 (ac (ks':=[iB [1,1,0],iB [1,1,1]]) 3 (ai 4 ?_))
   obtain ⟨v3,h2,h⟩:=bind_some h
   refine aC (d4 hK h2) (ae (ac (ks':=[iB p72_1,iB p72_0]) 5 ?_))
   rcases ao h with ⟨h3,h⟩ | ⟨h3,h⟩
   ·
    refine ak 31 h3 (ac (ks':=[iB p72_2,iB p72_3,iB p72_0]) 2 (ai 3 ?_))
    obtain ⟨v4,h4,h⟩:=bind_some h
    exact aC (d4 hK h4) (ae (ag 1 (wZ hK h)))
   ·
    exact ak 31 h3 (ag 2 (wZ hK h))
end
noncomputable section
variable {K:Kn} {n:Nat} {M:Nat→Prop} {w0:Base} {r:Int×Bool} {v1:aQ} 
abbrev cF83 (p:List Nat):Kont:=.c (cat Try.f83 p)
theorem yu (hK:KnOk K) (h:i8 K n v1=some r):ACalls Try.prog 83 [.agg (cE v1)] (fun v _=>v = .tup [iI r.1,.bool r.2]):=by
  refine bj (cat Try.f83 []) Try.func83 Try.ntmps83 fun M w0=>(bb ⟨[(0,.agg (cE v1))],[],[],[]⟩ ?_)
  unfold i8 at h
  refine ac (ks':=[cF83 [1,0,1],cF83 [1,1]]) 5 ?_
  rcases ao h with ⟨h1,h⟩ | ⟨h1,h⟩
  ·
   refine ak 6 h1 (aM 5 ?_)
   cases h
   exact dv
  ·
   refine ak 6 h1 (ac (ks':=[cF83 [1,1,0],cF83 [1,1,1]]) 3 (ai 2 ?_))
   obtain ⟨v2,h2,h⟩:=bind_some h
   refine aC (uw hK h2) (ae (aM 1 ?_))
   cases h
   exact dv
end
noncomputable section
variable {K:Kn} {n:Nat} {M:Nat→Prop} {w0:Base} {r:Int} {v1:ah} 
theorem lj (hK:KnOk K) (h:dr K n v1=some r):ACalls Try.prog 92 [.agg (bH v1)] (fun v _=>v=iI r):=by
  refine bj (cat Try.f92 []) Try.func92 Try.ntmps92 fun M w0=>(bb ⟨[(0,.agg (bH v1))],[],[],[]⟩ ?_)
  unfold dr at h
  refine aM 5 ?_
  cases h
  exact bu
end
def p101_0:=pth 0 1110100
def p101_1:=pth 0 111010000
def p101_2:=pth 0 111010001
def p101_3:=pth 0 11101001
def p101_4:=pth 0 11101001000
def p101_5:=pth 0 11101001001
def p101_6:=pth 0 111010011
def p101_7:=pth 0 111010
noncomputable section
abbrev cx101 (M:Nat→Prop) (w0:Base):Cx:=⟨Try.prog,19,M,w0⟩
abbrev q101 (M:Nat→Prop) (w0:Base) (r:Bool):=bodyPost Try.prog Try.f101 (RetQ M w0 (fun v _=>v = .bool r))
abbrev dx (p:List Nat):Kont:=.c (cat Try.f101 p)
abbrev k101_1 (M:Nat→Prop) (w0:Base) (r:Bool) (m1:Nat):Kont:=kl (cx101 M w0) (q101 M w0 r) [.b 0,dx [1,1,1]] (cat Try.f101 p101_0) m1
def s101_l1 (v2:List ab) (v4:Int):AS:=⟨[(3,.ref 1006),(4,iI v4)],[],[(1006,⟨50,59,lm aB v2⟩)],[1006]⟩
abbrev H101_1 (M:Nat→Prop) (w0:Base) (r:Bool) (v2:List ab) (m1:Nat) (L1:Int→Option Bool):Prop:=∀ {v4:Int},L1 v4=some r→LP (cx101 M w0) (q101 M w0 r) [.b 0,dx [1,1,1]] (cat Try.f101 p101_0) m1 (s101_l1 v2 v4)
variable {K:Kn} {n:Nat} {M:Nat→Prop} {w0:Base} {r:Bool} {v1:ab} {v2:List ab} {v4:Int} {m1:Nat} {L1:Int→Option Bool}
theorem CG (hK:KnOk K) (hL1:H101_1 M w0 r v2 m1 L1) (h:lY K n v2 L1 v4=some r):VE (cx101 M w0) (q101 M w0 r) [dx p101_0,k101_1 M w0 r m1,.b 0,dx [1,1,1]] .normal (s101_l1 v2 v4):=by
  unfold lY at h
  refine ac (ks':=[dx p101_1,dx p101_2,dx p101_3,k101_1 M w0 r m1,.b 0,dx [1,1,1]]) 2 (ai 2 (ap (br aB v2) (ae ?_)))
  rcases ao h with ⟨h6,h⟩ | ⟨h6,h⟩
  ·
   refine ak 10 h6 (ac (ks':=[dx p101_4,dx p101_5,.b 1,dx p101_6,k101_1 M w0 r m1,.b 0,dx [1,1,1]]) 5 (ai 2 ?_))
   obtain ⟨h7,h⟩:=aq h
   refine ap (bK 1006 59 aB h7) (aO 4 1 (ap (aJ 3 0 aB ax (aH h7).2 (b9)) (ae ?_)))
   obtain ⟨v5,h8,h⟩:=bind_some h
   have h8:=Option.some.inj h8
   refine aU (ks':=[dx p101_5,.b 1,dx p101_6,k101_1 M w0 r m1,.b 0,dx [1,1,1]]) 0 ⟨[(3,.ref 1006),(4,iI v4),(18,.bool v5)],[],[(1006,⟨50,59,lm aB v2⟩)],[1006]⟩ ?_ (by subst h8; kernel_rfl)
   rcases ao h with ⟨h9,h⟩ | ⟨h9,h⟩
   ·
    refine ak 18 h9 (aM 9 ?_)
    cases h
    exact bu
   ·
    exact ak 18 h9 (ag 4 (aY (hL1 h)))
  ·
   refine ak 10 h6 (aM 8 ?_)
   cases h
   exact bu
theorem Bz (hK:KnOk K) (m:Nat):H101_1 M w0 r v2 m (lw K n v2 m):=by
  induction m with
 | zero=>intro v4 h; cases h
 | succ m ih=>intro v4 h; have h:lY K n v2 (lw K n v2 m) v4=some r:=h; exact aR (CG hK ih h)
theorem vY (hK:KnOk K) (h:jM K n v1=some r):ACalls Try.prog 101 [.agg (ax v1)] (fun v _=>v = .bool r):=by
  refine bj (cat Try.f101 []) Try.func101 Try.ntmps101 fun M w0=>(bb ⟨[(0,.agg (ax v1))],[],[],[]⟩ ?_)
  unfold jM at h
  refine ac (ks':=[dx [1,0],dx [1,1]]) 3 (ai 1 ?_)
  obtain ⟨v2,h1,h⟩:=bind_some h
  exact cv 1006 (u0 hK h1) (df 25) (ae (ag 4 (bE (p:=p101_7) n (Bz hK n h))))
end
noncomputable section
variable {K:Kn} {n:Nat} {M:Nat→Prop} {w0:Base} {r v1 v2:ah} 
theorem ra (hK:KnOk K) (h:fG K n v1 v2=some r):ACalls Try.prog 113 [.agg (bH v1),.agg (bH v2)] (fun v _=>v = .agg (bH r)):=by
  refine bj (cat Try.f113 []) Try.func113 Try.ntmps113 fun M w0=>(bb ⟨[(0,.agg (bH v1)),(1,.agg (bH v2))],[],[],[]⟩ ?_)
  unfold fG at h
  refine aM 5 ?_
  cases h
  exact bu
end
def eV:=pth 0 11111
def p112_1:=pth 0 11110100
def p112_2:=pth 0 1111010010011111
def iV:=pth 0 1111010011
def p112_4:=pth 0 1111010010011110101
def p112_5:=pth 0 111101001001111
def p112_6:=pth 0 11110100100111101
def p112_7:=pth 0 11110100100111101001
def p112_8:=pth 5 1
def p112_9:=pth 0 1111010000
def p112_10:=pth 0 1111010001
def p112_11:=pth 0 111101001
def p112_12:=pth 0 111101001000
def p112_13:=pth 0 111101001001
def p112_14:=pth 0 1111010010010
def p112_15:=pth 0 1111010010011
def p112_16:=pth 0 1111010010011101
def p112_17:=pth 0 11110100100111010
def p112_18:=pth 0 1111101
def p112_19:=pth 0 1111010
noncomputable section
abbrev mB (M:Nat→Prop) (w0:Base):Cx:=⟨Try.prog,62,M,w0⟩
abbrev m8 (M:Nat→Prop) (w0:Base) (r:bZ):=bodyPost Try.prog Try.f112 (RetQ M w0 (fun v s=>v = .agg (List.set (cN ({ r with List:=[] }:bZ)) 0 (.ref 53))∧look 53 s.r=some ⟨67,67,lm au r.List⟩))
abbrev bX (p:List Nat):Kont:=.c (cat Try.f112 p)
abbrev gC (M:Nat→Prop) (w0:Base) (r:bZ) (m1:Nat):Kont:=kl (mB M w0) (m8 M w0 r) [.b 0,bX eV] (cat Try.f112 p112_1) m1
def s112_j3 (v1:List aa) (v16:Int) (v21:List aa) (v24 v26:Int) (v27:ah) (v28:Bool) (v29:ah):AS:=⟨[(0,.sl (lm au v1)),(2,.ptr 2 0),(3,.ptr 3 0),(4,.ptr 4 0),(5,iI v16),(6,.ptr 6 0)],[(2,List.set (cN mE) 0 (.nils)),(3,List.set (cN (⟨[],v26,v27,cR,v28⟩:bZ)) 0 (.ref 53)),(4,bH v29),(6,az ({ (gD v1 v16) with Y:=v24 }:aa))],[(53,⟨67,67,lm au v21⟩)],[2,3,4,6,53]⟩
def s112_j2 (v1:List aa) (v16 v17:Int) (v19:Bool) (v21:List aa) (v22:ah) (v24:Int) (v25:ah):AS:=⟨[(0,.sl (lm au v1)),(2,.ptr 2 0),(3,.ptr 3 0),(4,.ptr 4 0),(5,iI v16),(6,.ptr 6 0)],[(2,List.set (cN mE) 0 (.nils)),(3,List.set (cN (⟨[],v17,v25,cR,v19⟩:bZ)) 0 (.ref 53)),(4,bH v22),(6,az ({ (gD v1 v16) with Y:=v24 }:aa))],[(53,⟨67,67,lm au v21⟩)],[2,3,4,6,53]⟩
def s112_j1 (v1:List aa) (v16 v17:Int) (v18:ah) (v19:Bool) (v21:List aa) (v22:ah) (v24:Int):AS:=⟨[(0,.sl (lm au v1)),(2,.ptr 2 0),(3,.ptr 3 0),(4,.ptr 4 0),(5,iI v16),(6,.ptr 6 0)],[(2,List.set (cN mE) 0 (.nils)),(3,List.set (cN (⟨[],v17,v18,cR,v19⟩:bZ)) 0 (.ref 53)),(4,bH v22),(6,az ({ (gD v1 v16) with Y:=v24 }:aa))],[(53,⟨67,67,lm au v21⟩)],[2,3,4,6,53]⟩
def s112_j5 (v17:Int) (v19:Bool) (v20:ah) (v21:List aa) (v30:ah):AS:=⟨[(2,.ptr 2 0),(3,.ptr 3 0),(4,.ptr 4 0)],[(2,List.set (cN mE) 0 (.nils)),(3,List.set (cN (⟨[],v17,v30,cR,v19⟩:bZ)) 0 (.ref 53)),(4,bH v20)],[(53,⟨67,67,lm au v21⟩)],[2,3,4,53]⟩
def s112_l4 (v1:List aa) (v16 v17:Int) (v18:ah) (v19:Bool) (v20:ah) (v21:List aa):AS:=⟨[(0,.sl (lm au v1)),(2,.ptr 2 0),(3,.ptr 3 0),(4,.ptr 4 0),(5,iI v16)],[(2,List.set (cN mE) 0 (.nils)),(3,List.set (cN (⟨[],v17,v18,cR,v19⟩:bZ)) 0 (.ref 53)),(4,bH v20)],[(53,⟨67,67,lm au v21⟩)],[2,3,4,53]⟩
abbrev rz (M:Nat→Prop) (w0:Base) (r:bZ) (v1:List aa) (m1:Nat) (L1:Int→Int→ah→Bool→ah→(List aa)→Option bZ):Prop:=∀ {v16 v17:Int} {v18:ah} {v19:Bool} {v20:ah} {v21:List aa},L1 v16 v17 v18 v19 v20 v21=some r→LP (mB M w0) (m8 M w0 r) [.b 0,bX eV] (cat Try.f112 p112_1) m1 (s112_l4 v1 v16 v17 v18 v19 v20 v21)
variable {K:Kn} {n:Nat} {M:Nat→Prop} {w0:Base} {r:bZ} {v1:List aa} {v16 v17:Int} {v18:ah} {v19:Bool} {v20:ah} {v21:List aa} {v22:ah} {v24:Int} {v25:ah} {v26:Int} {v27:ah} {v28:Bool} {v29 v30:ah} {m1:Nat} {L1:Int→Int→ah→Bool→ah→(List aa)→Option bZ}
theorem w4 (hK:KnOk K) (hL1:rz M w0 r v1 m1 L1) (h:ke K n v1 v16 v21 v24 L1 v26 v27 v28 v29=some r):VE (mB M w0) (m8 M w0 r) [bX p112_2,.b 1,bX iV,gC M w0 r m1,.b 0,bX eV] .normal (s112_j3 v1 v16 v21 v24 v26 v27 v28 v29):=by
  unfold ke at h
  refine ai 3 (ap (dN au ([({ (gD v1 v16) with Y:=v24 }:aa)]:List aa) (new:=[az ({ (gD v1 v16) with Y:=v24 }:aa)]) (by simp only [List.map_cons,List.map_nil,cp])) ?_)
  obtain ⟨h22,h⟩:=aq h
  exact ap (cb 53 53 67 67 au (rfl) (dR) h22) (ae (ag 2 (aY (hL1 h))))
theorem xC (hK:KnOk K) (hL1:rz M w0 r v1 m1 L1) (h:li K n v1 v16 v17 v19 v21 v22 v24 L1 v25=some r):VE (mB M w0) (m8 M w0 r) [bX p112_4,bX p112_2,.b 1,bX iV,gC M w0 r m1,.b 0,bX eV] .normal (s112_j2 v1 v16 v17 v19 v21 v22 v24 v25):=by
  unfold li at h
  exact ag 5 (w4 hK hL1 h)
theorem vo (hK:KnOk K) (hL1:rz M w0 r v1 m1 L1) (h:lk K n v1 v16 v17 v18 v19 v21 v22 L1 v24=some r):VE (mB M w0) (m8 M w0 r) [bX p112_5,.b 1,bX iV,gC M w0 r m1,.b 0,bX eV] .normal (s112_j1 v1 v16 v17 v18 v19 v21 v22 v24):=by
  unfold lk at h
  refine ac (ks':=[bX p112_6,bX p112_2,.b 1,bX iV,gC M w0 r m1,.b 0,bX eV]) 3 ?_
  rcases ao h with ⟨h20,h⟩ | ⟨h20,h⟩
  ·
   refine ak 35 h20 (ac (ks':=[bX p112_7,bX p112_4,bX p112_2,.b 1,bX iV,gC M w0 r m1,.b 0,bX eV]) 4 ?_)
   rcases ao h with ⟨h21,h⟩ | ⟨h21,h⟩
   ·
    exact ak 37 h21 (ag 2 (xC hK hL1 h))
   ·
    exact ak 37 h21 (ag 2 (xC hK hL1 h))
  ·
   exact ak 35 h20 (ag 2 (w4 hK hL1 h))
theorem w6 (hK:KnOk K) (h:j6 K n v17 v19 v20 v21 v30=some r):VE (mB M w0) (m8 M w0 r) [bX p112_8] .normal (s112_j5 v17 v19 v20 v21 v30):=by
  unfold j6 at h
  refine aM 5 ?_
  cases h
  exact cP
theorem y0 (hK:KnOk K) (hL1:rz M w0 r v1 m1 L1) (h:kC K n v1 L1 v16 v17 v18 v19 v20 v21=some r):VE (mB M w0) (m8 M w0 r) [bX p112_1,gC M w0 r m1,.b 0,bX eV] .normal (s112_l4 v1 v16 v17 v18 v19 v20 v21):=by
  unfold kC at h
  refine ac (ks':=[bX p112_9,bX p112_10,bX p112_11,gC M w0 r m1,.b 0,bX eV]) 2 (ai 2 (ap (br au v1) (ae ?_)))
  rcases ao h with ⟨h15,h⟩ | ⟨h15,h⟩
  ·
   refine ak 12 h15 (ac (ks':=[bX p112_12,bX p112_13,.b 1,bX iV,gC M w0 r m1,.b 0,bX eV]) 5 (ai 2 ?_))
   obtain ⟨h16,h⟩:=aq h
   refine ap (bF au az h16 (dR) (cp)) (ae (ac (ks':=[bX p112_14,bX p112_15,.b 1,bX iV,gC M w0 r m1,.b 0,bX eV]) 1 (ai 3 ?_)))
   obtain ⟨v22,h17,h⟩:=bind_some h
   refine aC (ra hK h17) (ae (ac (ks':=[bX p112_16,bX p112_5,.b 1,bX iV,gC M w0 r m1,.b 0,bX eV]) 5 ?_))
   rcases ao h with ⟨h18,h⟩ | ⟨h18,h⟩
   ·
    refine ak 26 h18 (ac (ks':=[bX p112_17,bX p112_5,.b 1,bX iV,gC M w0 r m1,.b 0,bX eV]) 1 (bL [0,2,3,4,5,6] [2,3,4,6] [53] ?_))
    obtain ⟨v23,h19,h⟩:=bind_some h
    exact bm 1 (nu 27 [.ptr 3 1,iI v17,.agg (bH v22),iI v23,iI (w64 (v17+v23)),.ptr 6 3]) [] [] [stp Try.prog 62 Try.f112 p112_17 6] (am (vz 3) (aj (e_c 0 1 30 (lj hK h19)) (am (vz 2) (aj (e_d 0) bk)))) (ag 0 (vo hK hL1 h))
   ·
    exact ak 26 h18 (ag 2 (vo hK hL1 h))
  ·
   refine ak 12 h15 (ac (ks':=[bX p112_18,bX p112_8]) 8 ?_)
   rcases ao h with ⟨h23,h⟩ | ⟨h23,h⟩
   ·
    exact ak 56 h23 (ag 2 (w6 hK h))
   ·
    exact ak 56 h23 (ag 2 (w6 hK h))
theorem Dm (hK:KnOk K) (m:Nat):rz M w0 r v1 m (ky K n v1 m):=by
  induction m with
 | zero=>intro v16 v17 v18 v19 v20 v21 h; cases h
 | succ m ih=>intro v16 v17 v18 v19 v20 v21 h; have h:kC K n v1 (ky K n v1 m) v16 v17 v18 v19 v20 v21=some r:=h; exact aR (y0 hK ih h)
theorem y3 (hK:KnOk K) (h:lR K n v1=some r):ACalls Try.prog 112 [.sl (lm au v1)] (fun v s=>v = .agg (List.set (cN ({ r with List:=[] }:bZ)) 0 (.ref 53))∧look 53 s.r=some ⟨67,67,lm au r.List⟩):=by
  refine bj (cat Try.f112 []) Try.func112 Try.ntmps112 fun M w0=>(bb ⟨[(0,.sl (lm au v1))],[],[],[]⟩ ?_)
  unfold lR at h
  exact ac (ks':=[bX p112_19,.b 0,bX eV]) 10 (ve_wo 53 3 0 67 67 (ag 0 (bE (p:=p112_19) n (Dm hK n h))))
end
end Go.Proofs.Ytlpndemhnpajiaa

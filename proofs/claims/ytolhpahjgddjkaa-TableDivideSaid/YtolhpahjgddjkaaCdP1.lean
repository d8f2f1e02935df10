/- The runs of the functions that TableDivide reaches do what their plain forms say, part 1. Made by a program. -/
import Derived.Test.YtolhpahjgddjkaaCdGk
import Derived.Test.YtolhpahjgddjkaaCdP0
namespace Go.Proofs.Ytolhpahjgddjkaa
open Go.RowKit
set_option maxRecDepth 20000
set_option linter.all false
set_option linter.unusedVariables false
set_option linter.unusedSimpArgs false
def p13_0:=pth 7 101011
def dz:=pth 8 1
def p13_2:=pth 7 101010100
def p13_3:=pth 12 1
def p13_4:=pth 11 10100
def dY:=pth 10 1
def p13_6:=pth 9 10100
def cc:=pth 6 1
def p13_8:=pth 5 10100
def p13_9:=pth 5 1010010011111
def ey:=pth 5 1010011
def p13_11:=pth 5 10100100111110
def p13_12:=pth 5 10100100111111
def p13_13:=pth 5 101001001111110
def p13_14:=pth 5 101001001111111
def p13_15:=pth 7 10101010000
def p13_16:=pth 7 10101010001
def p13_17:=pth 7 1010101001
def p13_18:=pth 7 101010100100
def p13_19:=pth 7 10101010011
def p13_20:=pth 11 1010000
def p13_21:=pth 11 1010001
def p13_22:=pth 11 101001
def p13_23:=pth 11 10100100
def p13_24:=pth 11 1010011
def p13_25:=pth 9 1010001
def p13_26:=pth 9 101001
def p13_27:=pth 9 10100100
def p13_28:=pth 9 1010011
def p13_29:=pth 10 10
def p13_30:=pth 11 1
def p13_31:=pth 11 1010
def p13_32:=pth 9 1010000
def p13_33:=pth 5 1010000
def p13_34:=pth 5 1010001
def p13_35:=pth 5 101001
def p13_36:=pth 5 101001000
def p13_37:=pth 5 101001001
def p13_38:=pth 5 1010010010
def p13_39:=pth 5 1010010011
def p13_40:=pth 5 1010010011110
def p13_41:=pth 6 101
def p13_42:=pth 7 1
def p13_43:=pth 7 101
def p13_44:=pth 7 10100
def p13_45:=pth 7 10101
def p13_46:=pth 7 10101010
def p13_47:=pth 8 10
def p13_48:=pth 9 1
def p13_49:=pth 9 1010
def p13_50:=pth 5 1010
noncomputable section
abbrev bO (M:Nat→Prop) (w0:Base):Cx:=⟨Try.prog,133,M,w0⟩
abbrev q13 (M:Nat→Prop) (w0:Base) (r:List Int):=bodyPost Try.prog Try.f13 (RetQ M w0 (fun v s=>v = .ref 2008∧look 2008 s.r=some ⟨3,1,lm (eInt .i64) r⟩))
abbrev ao (p:List Nat):Kont:=.c (cat Try.f13 p)
abbrev k13_2 (M:Nat→Prop) (w0:Base) (r:List Int) (m2:Nat):Kont:=kl (bO M w0) (q13 M w0 r) [.b 2,ao p13_0,ao dz] (cat Try.f13 p13_2) m2
abbrev k13_4 (M:Nat→Prop) (w0:Base) (r:List Int) (m4:Nat):Kont:=kl (bO M w0) (q13 M w0 r) [.b 6,ao p13_3] (cat Try.f13 p13_4) m4
abbrev k13_3 (M:Nat→Prop) (w0:Base) (r:List Int) (m3:Nat):Kont:=kl (bO M w0) (q13 M w0 r) [.b 4,ao dY] (cat Try.f13 p13_6) m3
abbrev cU (M:Nat→Prop) (w0:Base) (r:List Int) (m1:Nat):Kont:=kl (bO M w0) (q13 M w0 r) [.b 0,ao cc] (cat Try.f13 p13_8) m1
def s13_j1 (v1:List aw) (v2 v8 v9 v11:Int) (v12 v13 v14:List Int) (v15 v16:Int) (v17:Bool):AS:=⟨[(0,.sl (lm aB v1)),(1,iI v2),(5,iI (w64 (v8+v15))),(6,iI (w64 (v9+(max v16 v15)))),(7,.bool v17),(8,.ref 2008),(9,.ref 2009),(10,.ref 2010),(11,iI v11),(12,iI v15),(13,iI (max v16 v15))],[],[(2008,⟨3,1,lm (eInt .i64) v12⟩),(2009,⟨3,1,lm (eInt .i64) v13⟩),(2010,⟨3,1,lm (eInt .i64) v14⟩)],[2008,2009,2010]⟩
def s13_l3 (v19:List Int) (v20:Int) (v21:List Int):AS:=⟨[(8,.ref 2008),(14,.ref 1077),(15,iI v20)],[],[(1077,⟨3,1,lm (eInt .i64) v19⟩),(2008,⟨3,1,lm (eInt .i64) v21⟩)],[1077,2008]⟩
def s13_l6 (v27:List Int) (v28:Int) (v29:List Int):AS:=⟨[(10,.ref 2010),(18,.ref 1115),(19,iI v28)],[],[(1115,⟨3,1,lm (eInt .i64) v27⟩),(2010,⟨3,1,lm (eInt .i64) v29⟩)],[1115,2010]⟩
def s13_j4 (v2 v9:Int) (v10:Bool) (v14:List Int) (v23:Int) (v24:List Int) (v25:Bool):AS:=⟨[(1,iI v2),(6,iI v9),(7,.bool v10),(10,.ref 2010),(16,.ref 95),(17,iI v23),(104,.bool v25)],[],[(95,⟨3,1,lm (eInt .i64) v24⟩),(2010,⟨3,1,lm (eInt .i64) v14⟩)],[95,2010]⟩
def s13_l5 (v2 v9:Int) (v10:Bool) (v14:List Int) (v23:Int) (v24:List Int):AS:=⟨[(1,iI v2),(6,iI v9),(7,.bool v10),(10,.ref 2010),(16,.ref 95),(17,iI v23)],[],[(95,⟨3,1,lm (eInt .i64) v24⟩),(2010,⟨3,1,lm (eInt .i64) v14⟩)],[95,2010]⟩
def s13_l2 (v1:List aw) (v2 v8 v9:Int) (v10:Bool) (v11:Int) (v12 v13 v14:List Int):AS:=⟨[(0,.sl (lm aB v1)),(1,iI v2),(5,iI v8),(6,iI v9),(7,.bool v10),(8,.ref 2008),(9,.ref 2009),(10,.ref 2010),(11,iI v11)],[],[(2008,⟨3,1,lm (eInt .i64) v12⟩),(2009,⟨3,1,lm (eInt .i64) v13⟩),(2010,⟨3,1,lm (eInt .i64) v14⟩)],[2008,2009,2010]⟩
abbrev H13_1 (M:Nat→Prop) (w0:Base) (r:List Int) (v1:List aw) (v2:Int) (m1:Nat) (L1:Int→Int→Bool→Int→(List Int)→(List Int)→(List Int)→Option (List Int)):Prop:=∀ {v8 v9:Int} {v10:Bool} {v11:Int} {v12 v13 v14:List Int},L1 v8 v9 v10 v11 v12 v13 v14=some r→LP (bO M w0) (q13 M w0 r) [.b 0,ao cc] (cat Try.f13 p13_8) m1 (s13_l2 v1 v2 v8 v9 v10 v11 v12 v13 v14)
abbrev H13_2 (M:Nat→Prop) (w0:Base) (r v19:List Int) (m2:Nat) (L2:Int→(List Int)→Option (List Int)):Prop:=∀ {v20:Int} {v21:List Int},L2 v20 v21=some r→LP (bO M w0) (q13 M w0 r) [.b 2,ao p13_0,ao dz] (cat Try.f13 p13_2) m2 (s13_l3 v19 v20 v21)
abbrev H13_3 (M:Nat→Prop) (w0:Base) (r:List Int) (v2 v9:Int) (v10:Bool) (v14:List Int) (m3:Nat) (L3:Int→(List Int)→Option (List Int)):Prop:=∀ {v23:Int} {v24:List Int},L3 v23 v24=some r→LP (bO M w0) (q13 M w0 r) [.b 4,ao dY] (cat Try.f13 p13_6) m3 (s13_l5 v2 v9 v10 v14 v23 v24)
abbrev H13_4 (M:Nat→Prop) (w0:Base) (r v27:List Int) (m4:Nat) (L4:Int→(List Int)→Option (List Int)):Prop:=∀ {v28:Int} {v29:List Int},L4 v28 v29=some r→LP (bO M w0) (q13 M w0 r) [.b 6,ao p13_3] (cat Try.f13 p13_4) m4 (s13_l6 v27 v28 v29)
variable {K:Kn} {n:Nat} {M:Nat→Prop} {w0:Base} {r:List Int} {v1:List aw} {v2 v8 v9:Int} {v10:Bool} {v11:Int} {v12 v13 v14:List Int} {v15 v16:Int} {v17:Bool} {v19:List Int} {v20:Int} {v21:List Int} {v23:Int} {v24:List Int} {v25:Bool} {v27:List Int} {v28:Int} {v29:List Int} {m1:Nat} {L1:Int→Int→Bool→Int→(List Int)→(List Int)→(List Int)→Option (List Int)} {m2:Nat} {L2:Int→(List Int)→Option (List Int)} {m3:Nat} {L3:Int→(List Int)→Option (List Int)} {m4:Nat} {L4:Int→(List Int)→Option (List Int)}
theorem jG (hK:KnOk K) (hL1:H13_1 M w0 r v1 v2 m1 L1) (h:dT K n v1 v2 v8 v9 v11 v12 v13 v14 v15 v16 L1 v17=some r):VE (bO M w0) (q13 M w0 r) [ao p13_9,.b 1,ao ey,cU M w0 r m1,.b 0,ao cc] .normal (s13_j1 v1 v2 v8 v9 v11 v12 v13 v14 v15 v16 v17):=by
  unfold dT at h
  refine ab (ks':=[ao p13_11,ao p13_12,.b 1,ao ey,cU M w0 r m1,.b 0,ao cc]) 1 (ah 3 ?_)
  obtain ⟨h24,h⟩:=ai h
  refine aj (y_app 54 2008 3 1 (eInt .i64) (rfl) (fun _=>rfl) h24) (af (ab (ks':=[ao p13_13,ao p13_14,.b 1,ao ey,cU M w0 r m1,.b 0,ao cc]) 1 (ah 5 ?_)))
  obtain ⟨h25,h⟩:=ai h
  refine aj (y_app 60 2009 3 1 (eInt .i64) (rfl) (fun _=>rfl) h25) (af (ah 3 ?_))
  obtain ⟨h26,h⟩:=ai h
  exact aj (y_app 64 2010 3 1 (eInt .i64) (rfl) (fun _=>rfl) h26) (af (ag 2 (aN (hL1 h))))
theorem ku (hK:KnOk K) (hL2:H13_2 M w0 r v19 m2 L2) (h:fU K n v19 L2 v20 v21=some r):VE (bO M w0) (q13 M w0 r) [ao p13_2,k13_2 M w0 r m2,.b 2,ao p13_0,ao dz] .normal (s13_l3 v19 v20 v21):=by
  unfold fU at h
  refine ab (ks':=[ao p13_15,ao p13_16,ao p13_17,k13_2 M w0 r m2,.b 2,ao p13_0,ao dz]) 2 (ah 2 (aj (aH (eInt .i64) v21) (af ?_)))
  rcases am h with ⟨h35,h⟩ | ⟨h35,h⟩
  ·
   refine ae 81 h35 (ab (ks':=[ao p13_18,.b 3,ao p13_19,k13_2 M w0 r m2,.b 2,ao p13_0,ao dz]) 4 (bv [8,14,15] [] [1077,2008] ?_))
   obtain ⟨h36,h⟩:=ai h
   obtain ⟨h37,h⟩:=ai h
   obtain ⟨h38,h⟩:=ai h
   exact bl 1 (nu 84 [.ref 2008,iI v20,.eptr 2008 1 (v20.toNat) 0,iI (gD v21 v20),.ref 1077,iI v20,.eptr 1077 1 (v20.toNat) 0,iI (gD v19 v20),iI (w64 ((gD v21 v20)+(gD v19 v20))),.eptr 2008 1 (v20.toNat) 0]) [] [] [strS 2008 ⟨3,1,lm (eInt .i64) (List.set v21 v20.toNat (w64 ((gD v21 v20)+(gD v19 v20))))⟩] (az (vz 2) (d_v (aC 2008 1 (eInt .i64) (L:=v21) h36) (d_v (aE 3 0 (eInt .i64) (eInt .i64) (au h38).2 (fun _=>rfl)) (az (vz 2) (d_v (aC 1077 1 (eInt .i64) (L:=v19) h37) (d_v (aE 3 0 (eInt .i64) (eInt .i64) (au h37).2 (fun _=>rfl)) (az [.v 0 1] (d_v (aC 2008 1 (eInt .i64) (L:=v21) h38) (ax (e_s (m:=0) (bf 2008 3 1 0 (eInt .i64) (eInt .i64) (w64 ((gD v21 v20)+(gD v19 v20))) (au h38).2 (fun _=>rfl))) bm))))))))) (ag 2 (aN (hL2 h)))
  ·
   refine ae 81 h35 (aG 9 ?_)
   cases h
   exact b8
theorem j0 (hK:KnOk K) (m:Nat):H13_2 M w0 r v19 m (dN K n v19 m):=by
  induction m with
 | zero=>intro v20 v21 h; cases h
 | succ m ih=>intro v20 v21 h; have h:fU K n v19 (dN K n v19 m) v20 v21=some r:=h; exact aM (ku hK ih h)
theorem kb (hK:KnOk K) (hL4:H13_4 M w0 r v27 m4 L4) (h:gf K n v27 L4 v28 v29=some r):VE (bO M w0) (q13 M w0 r) [ao p13_4,k13_4 M w0 r m4,.b 6,ao p13_3] .normal (s13_l6 v27 v28 v29):=by
  unfold gf at h
  refine ab (ks':=[ao p13_20,ao p13_21,ao p13_22,k13_4 M w0 r m4,.b 6,ao p13_3]) 2 (ah 2 (aj (aH (eInt .i64) v29) (af ?_)))
  rcases am h with ⟨h52,h⟩ | ⟨h52,h⟩
  ·
   refine ae 119 h52 (ab (ks':=[ao p13_23,.b 7,ao p13_24,k13_4 M w0 r m4,.b 6,ao p13_3]) 4 (bv [10,18,19] [] [1115,2010] ?_))
   obtain ⟨h53,h⟩:=ai h
   obtain ⟨h54,h⟩:=ai h
   obtain ⟨h55,h⟩:=ai h
   exact bl 1 (nu 122 [.ref 2010,iI v28,.eptr 2010 1 (v28.toNat) 0,iI (gD v29 v28),.ref 1115,iI v28,.eptr 1115 1 (v28.toNat) 0,iI (gD v27 v28),iI (w64 ((gD v29 v28)+(gD v27 v28))),.eptr 2010 1 (v28.toNat) 0]) [] [] [strS 2010 ⟨3,1,lm (eInt .i64) (List.set v29 v28.toNat (w64 ((gD v29 v28)+(gD v27 v28))))⟩] (az (vz 2) (d_v (aC 2010 1 (eInt .i64) (L:=v29) h53) (d_v (aE 3 0 (eInt .i64) (eInt .i64) (au h55).2 (fun _=>rfl)) (az (vz 2) (d_v (aC 1115 1 (eInt .i64) (L:=v27) h54) (d_v (aE 3 0 (eInt .i64) (eInt .i64) (au h54).2 (fun _=>rfl)) (az [.v 0 1] (d_v (aC 2010 1 (eInt .i64) (L:=v29) h55) (ax (e_s (m:=0) (bf 2010 3 1 0 (eInt .i64) (eInt .i64) (w64 ((gD v29 v28)+(gD v27 v28))) (au h55).2 (fun _=>rfl))) bm))))))))) (ag 2 (aN (hL4 h)))
  ·
   refine ae 119 h52 (aG 8 (ve_m 2010 2008 ?_))
   cases h
   exact b8
theorem kI (hK:KnOk K) (m:Nat):H13_4 M w0 r v27 m (cS K n v27 m):=by
  induction m with
 | zero=>intro v28 v29 h; cases h
 | succ m ih=>intro v28 v29 h; have h:gf K n v27 (cS K n v27 m) v28 v29=some r:=h; exact aM (kb hK ih h)
theorem jE (hK:KnOk K) (hL3:H13_3 M w0 r v2 v9 v10 v14 m3 L3) (h:eO K n v2 v9 v10 v14 v23 v24 L3 v25=some r):VE (bO M w0) (q13 M w0 r) [ao p13_25,ao p13_26,k13_3 M w0 r m3,.b 4,ao dY] .normal (s13_j4 v2 v9 v10 v14 v23 v24 v25):=by
  unfold eO at h
  rcases am h with ⟨h44,h⟩ | ⟨h44,h⟩
  ·
   refine ae 104 h44 (ab (ks':=[ao p13_27,.b 5,ao p13_28,k13_3 M w0 r m3,.b 4,ao dY]) 4 (ah 2 ?_))
   obtain ⟨h45,h⟩:=ai h
   exact aj (aY 95 1 (eInt .i64) h45) (aj (bf 95 3 1 0 (eInt .i64) (eInt .i64) 1 (au h45).2 (fun _=>rfl)) (af (ag 2 (aN (hL3 h)))))
  ·
   refine ae 104 h44 (ab (ks':=[ao p13_29,ao p13_30]) 6 (ah 3 ?_))
   obtain ⟨v26,h46,h⟩:=bind_some h
   refine bh (ia hK h46) (aP 5 1 ?_)
   obtain ⟨v27,h47,h⟩:=bind_some h
   exact ot_lxo 1115 (jH hK h47) (gQ _ _ (sc_int _)) (by kernel_rfl:callArgsLx _ _=some (30,[iI v26,.sl (lm (eInt .i64) v24)],[iI v26,.ref 95])) (hE (q:=[]) (by kernel_rfl) trivial) (af (ag 4 (aL (p:=p13_31) n (kI hK n h))))
theorem kA (hK:KnOk K) (hL3:H13_3 M w0 r v2 v9 v10 v14 m3 L3) (h:fX K n v2 v9 v10 v14 L3 v23 v24=some r):VE (bO M w0) (q13 M w0 r) [ao p13_6,k13_3 M w0 r m3,.b 4,ao dY] .normal (s13_l5 v2 v9 v10 v14 v23 v24):=by
  unfold fX at h
  refine ab (ks':=[ao p13_32,ao p13_25,ao p13_26,k13_3 M w0 r m3,.b 4,ao dY]) 2 (ah 2 ?_)
  rcases am h with ⟨h43,h⟩ | ⟨h43,h⟩
  ·
   exact aX 99 h43 (aP 4 2 (aj (aH (eInt .i64) v24) (af (ag 0 (jE hK hL3 h)))))
  ·
   exact aX 99 h43 (af (ag 0 (jE hK hL3 h)))
theorem kS (hK:KnOk K) (m:Nat):H13_3 M w0 r v2 v9 v10 v14 m (fc K n v2 v9 v10 v14 m):=by
  induction m with
 | zero=>intro v23 v24 h; cases h
 | succ m ih=>intro v23 v24 h; have h:fX K n v2 v9 v10 v14 (fc K n v2 v9 v10 v14 m) v23 v24=some r:=h; exact aM (kA hK ih h)
theorem jX (hK:KnOk K) (hL1:H13_1 M w0 r v1 v2 m1 L1) (h:gc K n v1 v2 L1 v8 v9 v10 v11 v12 v13 v14=some r):VE (bO M w0) (q13 M w0 r) [ao p13_8,cU M w0 r m1,.b 0,ao cc] .normal (s13_l2 v1 v2 v8 v9 v10 v11 v12 v13 v14):=by
  unfold gc at h
  refine ab (ks':=[ao p13_33,ao p13_34,ao p13_35,cU M w0 r m1,.b 0,ao cc]) 2 (ah 2 (aj (aH aB v1) (af ?_)))
  rcases am h with ⟨h18,h⟩ | ⟨h18,h⟩
  ·
   refine ae 23 h18 (ab (ks':=[ao p13_36,ao p13_37,.b 1,ao ey,cU M w0 r m1,.b 0,ao cc]) 5 (ah 2 ?_))
   obtain ⟨h19,h⟩:=ai h
   refine aj (bG aB aB h19 (gn) (fun _=>rfl)) (aP 5 2 ?_)
   obtain ⟨v15,h20,h⟩:=bind_some h
   refine bh (ia hK h20) (af (ab (ks':=[ao p13_38,ao p13_39,.b 1,ao ey,cU M w0 r m1,.b 0,ao cc]) 1 (ah 2 ?_)))
   obtain ⟨h21,h⟩:=ai h
   refine aj (bG aB aB h21 (gn) (fun _=>rfl)) (aP 5 2 ?_)
   obtain ⟨v16,h22,h⟩:=bind_some h
   refine bh (ia hK h22) (af (ab (ks':=[ao p13_40,ao p13_9,.b 1,ao ey,cU M w0 r m1,.b 0,ao cc]) 5 (ah 2 ?_)))
   rcases am h with ⟨h23,h⟩ | ⟨h23,h⟩
   ·
    exact aX 47 h23 (af (ag 0 (jG hK hL1 h)))
   ·
    exact aX 47 h23 (af (ag 0 (jG hK hL1 h)))
  ·
   refine ae 23 h18 (ab (ks':=[ao p13_41,ao p13_42]) 8 ?_)
   rcases am h with ⟨h27,h⟩ | ⟨h27,h⟩
   ·
    refine ae 67 h27 (aG 5 ?_)
    cases h
    exact b8
   ·
    refine ae 67 h27 (ab (ks':=[ao p13_43,ao dz]) 5 ?_)
    rcases am h with ⟨h28,h⟩ | ⟨h28,h⟩
    ·
     refine ae 71 h28 (ab (ks':=[ao p13_44,ao p13_45,ao dz]) 2 (ah 3 ?_))
     obtain ⟨v18,h29,h⟩:=bind_some h
     refine bh (ia hK h29) (aP 5 1 ?_)
     obtain ⟨v19,h30,h⟩:=bind_some h
     exact ot_lxo 1077 (jH hK h30) (gQ _ _ (sc_int _)) (by kernel_rfl:callArgsLx _ _=some (30,[iI v18,.sl (lm (eInt .i64) v13)],[iI v18,.ref 2009])) (hE (q:=[]) (by kernel_rfl) trivial) (af (ag 4 (aL (p:=p13_46) n (j0 hK n h))))
    ·
     refine ae 71 h28 (ab (ks':=[ao p13_47,ao p13_48]) 3 (ah 0 (ot_bs 33 95 (e:=3) (sz:=1) (aP 2 1 ?_))))
     obtain ⟨h39,h⟩:=ai h
     exact aj (y_apx 97 95 3 1 (eInt .i64) (L:=([]:List Int)) (M:=v14) h39) (af (ag 4 (aL (p:=p13_49) n (kS hK n h))))
theorem jP (hK:KnOk K) (m:Nat):H13_1 M w0 r v1 v2 m (dI K n v1 v2 m):=by
  induction m with
 | zero=>intro v8 v9 v10 v11 v12 v13 v14 h; cases h
 | succ m ih=>intro v8 v9 v10 v11 v12 v13 v14 h; have h:gc K n v1 v2 (dI K n v1 v2 m) v8 v9 v10 v11 v12 v13 v14=some r:=h; exact aM (jX hK ih h)
theorem ly (hK:KnOk K) (h:f8 K n v1 v2=some r):ACalls Try.prog 13 [.sl (lm aB v1),iI v2] (fun v s=>v = .ref 2008∧look 2008 s.r=some ⟨3,1,lm (eInt .i64) r⟩):=by
  refine bj (cat Try.f13 []) Try.func13 Try.ntmps13 fun M w0=>(aU ⟨[(0,.sl (lm aB v1)),(1,iI v2)],[],[],[]⟩ ?_)
  unfold f8 at h
  exact ab (ks':=[ao p13_50,.b 0,ao cc]) 14 (bv [0,1,5,6,7,8,9,10,11] [] [] (ve_w 2008 8 3 1 (ve_w 2009 9 3 1 (ve_w 2010 10 3 1 (ag 0 (aL (p:=p13_50) n (jP hK n h)))))))
end
noncomputable section
variable {K:Kn} {n:Nat} {M:Nat→Prop} {w0:Base} {r v1:Int} 
theorem gP (hK:KnOk K) (h:dq K n v1=some r):ACalls Try.prog 14 [iI v1] (fun v _=>v=iI r):=by
  refine bj (cat Try.f14 []) Try.func14 Try.ntmps14 fun M w0=>(aU ⟨[(0,iI v1)],[],[],[]⟩ ?_)
  unfold dq at h
  refine aG 5 ?_
  cases h
  exact aZ
end
def c8:=pth 8 1
def p4_1:=pth 7 10100
def b7:=pth 7 1
def p4_3:=pth 6 10100
def p4_4:=pth 6 1010011001111111
def p4_5:=pth 6 10100111
def p4_6:=pth 7 10100110011
def p4_7:=pth 7 10100111
def p4_8:=pth 8 101
def p4_9:=pth 9 1
def p4_10:=pth 7 1010010
def p4_11:=pth 7 1010011
def p4_12:=pth 7 1010011000
def p4_13:=pth 7 1010011001
def p4_14:=pth 7 10100110010
def p4_15:=pth 8 100
def p4_16:=pth 6 1010010
def p4_17:=pth 6 1010011
def p4_18:=pth 6 1010011000
def p4_19:=pth 6 1010011001
def p4_20:=pth 6 10100110010
def p4_21:=pth 6 10100110011
def p4_22:=pth 6 101001100110
def p4_23:=pth 6 101001100111
def p4_24:=pth 6 101001100111110
def p4_25:=pth 6 101001100111111
def p4_26:=pth 6 1010011001111110
def p4_27:=pth 7 100
def p4_28:=pth 7 101
def p4_29:=pth 7 1010
def p4_30:=pth 0 11100
def p4_31:=pth 0 11101
def p4_32:=pth 0 11110
def p4_33:=pth 0 11111
def p4_34:=pth 0 1111100
def p4_35:=pth 0 1111101
def p4_36:=pth 5 1
def p4_37:=pth 6 100
def p4_38:=pth 6 101
def p4_39:=pth 6 1010
noncomputable section
abbrev cx4 (M:Nat→Prop) (w0:Base):Cx:=⟨Try.prog,114,M,w0⟩
abbrev q4 (M:Nat→Prop) (w0:Base) (r:Bool):=bodyPost Try.prog Try.f4 (RetQ M w0 (fun v _=>v = .bool r))
abbrev cF4 (p:List Nat):Kont:=.c (cat Try.f4 p)
abbrev k4_2 (M:Nat→Prop) (w0:Base) (r:Bool) (m2:Nat):Kont:=kl (cx4 M w0) (q4 M w0 r) [.b 2,cF4 c8] (cat Try.f4 p4_1) m2
abbrev cY (M:Nat→Prop) (w0:Base) (r:Bool) (m1:Nat):Kont:=kl (cx4 M w0) (q4 M w0 r) [.b 0,cF4 b7] (cat Try.f4 p4_3) m1
def s4_j1 (v1:List aw) (v2:Int) (v4 v5:List Int) (v10 v11 v13 v14 v15 v16:Int) (v17:Bool):AS:=⟨[(0,.sl (lm aB v1)),(1,iI v2),(5,.ref 1023),(6,.ref 1026),(7,iI (w64 (v10+v14))),(8,iI (w64 (v11+(max v15 v14)))),(9,iI v16),(32,.sl (lm aB v1)),(33,iI (v1.length:Int)),(34,iI v13),(75,.bool v17)],[],[(1023,⟨3,1,lm (eInt .i64) v4⟩),(1026,⟨3,1,lm (eInt .i64) v5⟩)],[1023,1026]⟩
def s4_j3 (v1:List aw) (v2:Int) (v4:List Int) (v10 v11 v12 v21:Int) (v24:Bool):AS:=⟨[(0,.sl (lm aB v1)),(1,iI v2),(5,.ref 1023),(7,iI v10),(8,iI v11),(9,iI v12),(77,.sl (lm aB v1)),(78,iI (v1.length:Int)),(79,iI v21),(100,.bool v24)],[],[(1023,⟨3,1,lm (eInt .i64) v4⟩)],[1023]⟩
def s4_j5 (v2 v10 v12:Int) (v25:Bool):AS:=⟨[(1,iI v2),(7,iI v10),(9,iI v12),(108,.bool v25)],[],[],[]⟩
def s4_l4 (v1:List aw) (v2:Int) (v4:List Int) (v10 v11 v12 v21:Int):AS:=⟨[(0,.sl (lm aB v1)),(1,iI v2),(5,.ref 1023),(7,iI v10),(8,iI v11),(9,iI v12),(77,.sl (lm aB v1)),(78,iI (v1.length:Int)),(79,iI v21)],[],[(1023,⟨3,1,lm (eInt .i64) v4⟩)],[1023]⟩
def s4_l2 (v1:List aw) (v2:Int) (v4 v5:List Int) (v10 v11 v12 v13:Int):AS:=⟨[(0,.sl (lm aB v1)),(1,iI v2),(5,.ref 1023),(6,.ref 1026),(7,iI v10),(8,iI v11),(9,iI v12),(32,.sl (lm aB v1)),(33,iI (v1.length:Int)),(34,iI v13)],[],[(1023,⟨3,1,lm (eInt .i64) v4⟩),(1026,⟨3,1,lm (eInt .i64) v5⟩)],[1023,1026]⟩
abbrev H4_1 (M:Nat→Prop) (w0:Base) (r:Bool) (v1:List aw) (v2:Int) (v4 v5:List Int) (m1:Nat) (L1:Int→Int→Int→Int→Option Bool):Prop:=∀ {v10 v11 v12 v13:Int},L1 v10 v11 v12 v13=some r→LP (cx4 M w0) (q4 M w0 r) [.b 0,cF4 b7] (cat Try.f4 p4_3) m1 (s4_l2 v1 v2 v4 v5 v10 v11 v12 v13)
abbrev H4_2 (M:Nat→Prop) (w0:Base) (r:Bool) (v1:List aw) (v2:Int) (v4:List Int) (v10 v11 v12:Int) (m2:Nat) (L2:Int→Option Bool):Prop:=∀ {v21:Int},L2 v21=some r→LP (cx4 M w0) (q4 M w0 r) [.b 2,cF4 c8] (cat Try.f4 p4_1) m2 (s4_l4 v1 v2 v4 v10 v11 v12 v21)
variable {K:Kn} {n:Nat} {M:Nat→Prop} {w0:Base} {r:Bool} {v1:List aw} {v2:Int} {v4 v5:List Int} {v10 v11 v12 v13 v14 v15 v16:Int} {v17:Bool} {v21:Int} {v24 v25:Bool} {m1:Nat} {L1:Int→Int→Int→Int→Option Bool} {m2:Nat} {L2:Int→Option Bool}
theorem jC (hK:KnOk K) (hL1:H4_1 M w0 r v1 v2 v4 v5 m1 L1) (h:fH K n v1 v2 v4 v5 v10 v11 v13 v14 v15 v16 L1 v17=some r):VE (cx4 M w0) (q4 M w0 r) [cF4 p4_4,.b 1,cF4 p4_5,cY M w0 r m1,.b 0,cF4 b7] .normal (s4_j1 v1 v2 v4 v5 v10 v11 v13 v14 v15 v16 v17):=by
  unfold fH at h
  rcases am h with ⟨h28,h⟩ | ⟨h28,h⟩
  ·
   refine ae 75 h28 (aG 9 ?_)
   cases h
   exact aZ
  ·
   exact ae 75 h28 (ag 4 (aN (hL1 h)))
theorem je (hK:KnOk K) (hL2:H4_2 M w0 r v1 v2 v4 v10 v11 v12 m2 L2) (h:eD K n v1 v2 v4 v10 v11 v12 v21 L2 v24=some r):VE (cx4 M w0) (q4 M w0 r) [cF4 p4_6,.b 3,cF4 p4_7,k4_2 M w0 r m2,.b 2,cF4 c8] .normal (s4_j3 v1 v2 v4 v10 v11 v12 v21 v24):=by
  unfold eD at h
  rcases am h with ⟨h42,h⟩ | ⟨h42,h⟩
  ·
   refine ae 100 h42 (aG 9 ?_)
   cases h
   exact aZ
  ·
   exact ae 100 h42 (ag 4 (aN (hL2 h)))
theorem ju (hK:KnOk K) (h:gy K n v2 v10 v12 v25=some r):VE (cx4 M w0) (q4 M w0 r) [cF4 p4_8,cF4 p4_9] .normal (s4_j5 v2 v10 v12 v25):=by
  unfold gy at h
  rcases am h with ⟨h44,h⟩ | ⟨h44,h⟩
  ·
   refine ae 108 h44 (aG 5 ?_)
   cases h
   exact aZ
  ·
   refine ae 108 h44 (aG 5 ?_)
   cases h
   exact aZ
theorem ld (hK:KnOk K) (hL2:H4_2 M w0 r v1 v2 v4 v10 v11 v12 m2 L2) (h:fZ K n v1 v2 v4 v10 v11 v12 L2 v21=some r):VE (cx4 M w0) (q4 M w0 r) [cF4 p4_1,k4_2 M w0 r m2,.b 2,cF4 c8] .normal (s4_l4 v1 v2 v4 v10 v11 v12 v21):=by
  unfold fZ at h
  refine ab (ks':=[cF4 p4_10,cF4 p4_11,k4_2 M w0 r m2,.b 2,cF4 c8]) 3 ?_
  rcases am h with ⟨h36,h⟩ | ⟨h36,h⟩
  ·
   refine ae 80 h36 (ab (ks':=[cF4 p4_12,cF4 p4_13,.b 3,cF4 p4_7,k4_2 M w0 r m2,.b 2,cF4 c8]) 5 (ah 1 ?_))
   obtain ⟨h37,h⟩:=ai h
   refine aj (bG aB aB h37 (gn) (fun _=>rfl)) (af (ab (ks':=[cF4 p4_14,cF4 p4_6,.b 3,cF4 p4_7,k4_2 M w0 r m2,.b 2,cF4 c8]) 1 (bv [0,1,5,7,8,9,14,15,77,78,79] [15] [1023] ?_)))
   rcases am h with ⟨h38,h⟩ | ⟨h38,h⟩
   ·
    obtain ⟨h39,h⟩:=ai h
    obtain ⟨v22,h40,h⟩:=bind_some h
    obtain ⟨v23,h41,h⟩:=bind_some h
    exact bl 0 (nu 84 [iI v2,iI v11,.bool (decide (v2≤v11)),.bool true,.ref 1023,iI v21,.eptr 1023 1 (v21.toNat) 0,iI (gD v4 v21),.ptr 15 1,iI ((gD v1 v21).Most),iI v22,.ptr 15 0,iI ((gD v1 v21).Least),iI v23,iI (max v22 v23),.bool (decide ((gD v4 v21)>(max v22 v23))),.bool (decide ((gD v4 v21)>(max v22 v23)))]) [] [] [] (az (vz 3) (ax (e_b 0 87 (e:=(decide (v2≤v11))) (b:=true) h38) (az (vz 2) (d_v (aC 1023 1 (eInt .i64) (L:=v4) h39) (d_v (aE 3 0 (eInt .i64) (eInt .i64) (au h39).2 (fun _=>rfl)) (az (vz 2) (ax (e_c 0 1 94 (gP hK h40)) (az (vz 2) (ax (e_c 0 1 97 (gP hK h41)) (az (vz 3) bm)))))))))) (ag 0 (je hK hL2 h))
   ·
    exact bl 0 (nu 84 [iI v2,iI v11,.bool (decide (v2≤v11)),.bool false,.tup [],.tup [],.tup [],.tup [],.tup [],.tup [],.tup [],.tup [],.tup [],.tup [],.tup [],.tup [],.bool false]) [] [] [] (az (vz 3) (ax (e_b 0 87 (e:=(decide (v2≤v11))) (b:=false) h38) (ax (aR 0 1) (ax (aR 0 1) (ax (aR 0 1) (ax (aR 0 1) (ax (aR 0 1) (ax (aR 0 1) (ax (aR 0 1) (ax (aR 0 1) (ax (aR 0 1) (ax (aR 0 1) (ax (aR 0 1) (ax (aR 0 1) (az [.v 0 1] bm))))))))))))))) (ag 0 (je hK hL2 h))
  ·
   refine ae 80 h36 (ab (ks':=[cF4 p4_15,cF4 p4_8,cF4 p4_9]) 7 (ah 1 (aj (aH aB v1) (aP 4 2 ?_))))
   rcases am h with ⟨h43,h⟩ | ⟨h43,h⟩
   ·
    exact aX 105 h43 (af (ag 0 (ju hK h)))
   ·
    exact aX 105 h43 (af (ag 0 (ju hK h)))
theorem kM (hK:KnOk K) (m:Nat):H4_2 M w0 r v1 v2 v4 v10 v11 v12 m (dv K n v1 v2 v4 v10 v11 v12 m):=by
  induction m with
 | zero=>intro v21 h; cases h
 | succ m ih=>intro v21 h; have h:fZ K n v1 v2 v4 v10 v11 v12 (dv K n v1 v2 v4 v10 v11 v12 m) v21=some r:=h; exact aM (ld hK ih h)
theorem kx (hK:KnOk K) (hL1:H4_1 M w0 r v1 v2 v4 v5 m1 L1) (h:gz K n v1 v2 v4 v5 L1 v10 v11 v12 v13=some r):VE (cx4 M w0) (q4 M w0 r) [cF4 p4_3,cY M w0 r m1,.b 0,cF4 b7] .normal (s4_l2 v1 v2 v4 v5 v10 v11 v12 v13):=by
  unfold gz at h
  refine ab (ks':=[cF4 p4_16,cF4 p4_17,cY M w0 r m1,.b 0,cF4 b7]) 3 ?_
  rcases am h with ⟨h18,h⟩ | ⟨h18,h⟩
  ·
   refine ae 35 h18 (ab (ks':=[cF4 p4_18,cF4 p4_19,.b 1,cF4 p4_5,cY M w0 r m1,.b 0,cF4 b7]) 5 (ah 1 ?_))
   obtain ⟨h19,h⟩:=ai h
   refine aj (bG aB aB h19 (gn) (fun _=>rfl)) (af (ab (ks':=[cF4 p4_20,cF4 p4_21,.b 1,cF4 p4_5,cY M w0 r m1,.b 0,cF4 b7]) 1 (ah 2 ?_)))
   obtain ⟨v14,h20,h⟩:=bind_some h
   refine bh (gP hK h20) (af (ab (ks':=[cF4 p4_22,cF4 p4_23,.b 1,cF4 p4_5,cY M w0 r m1,.b 0,cF4 b7]) 1 (ah 2 ?_)))
   obtain ⟨v15,h21,h⟩:=bind_some h
   refine bh (gP hK h21) (af (ab (ks':=[cF4 p4_24,cF4 p4_25,.b 1,cF4 p4_5,cY M w0 r m1,.b 0,cF4 b7]) 5 (ah 3 ?_)))
   obtain ⟨h22,h⟩:=ai h
   refine aj (aY 1023 1 (eInt .i64) h22) (aj (aE 3 0 (eInt .i64) (eInt .i64) (au h22).2 (fun _=>rfl)) (af ?_))
   obtain ⟨v16,h23,h⟩:=bind_some h
   have h23:=Option.some.inj h23
   refine aV (ks':=[cF4 p4_26,cF4 p4_4,.b 1,cF4 p4_5,cY M w0 r m1,.b 0,cF4 b7]) 1 ⟨[(0,.sl (lm aB v1)),(1,iI v2),(5,.ref 1023),(6,.ref 1026),(7,iI (w64 (v10+v14))),(8,iI (w64 (v11+(max v15 v14)))),(9,iI v16),(10,iI v13),(12,iI v14),(32,.sl (lm aB v1)),(33,iI (v1.length:Int)),(34,iI v13)],[],[(1023,⟨3,1,lm (eInt .i64) v4⟩),(1026,⟨3,1,lm (eInt .i64) v5⟩)],[1023,1026]⟩ ?_ (by subst h23; kernel_rfl)
   obtain ⟨h24,h⟩:=ai h
   obtain ⟨h25,h⟩:=ai h
   rcases am h with ⟨h26,h⟩ | ⟨h26,h⟩
   ·
    exact bl 0 (nu 59 [.ref 1023,iI v13,.eptr 1023 1 (v13.toNat) 0,iI (gD v4 v13),.ref 1026,iI v13,.eptr 1026 1 (v13.toNat) 0,iI (gD v5 v13),.bool ((gD v4 v13) != (gD v5 v13)),.bool true,.tup [],.tup [],.tup [],.tup [],.tup [],.tup [],.bool true]) [] [] [] (az (vz 2) (d_v (aC 1023 1 (eInt .i64) (L:=v4) h24) (d_v (aE 3 0 (eInt .i64) (eInt .i64) (au h24).2 (fun _=>rfl)) (az (vz 2) (d_v (aC 1026 1 (eInt .i64) (L:=v5) h25) (d_v (aE 3 0 (eInt .i64) (eInt .i64) (au h25).2 (fun _=>rfl)) (az [.v 0 1] (ax (e_b 0 68 (e:=((gD v4 v13) != (gD v5 v13))) (b:=true) h26) (ax (aR 0 1) (ax (aR 0 1) (ax (aR 0 1) (ax (aR 0 1) (ax (aR 0 1) (ax (aR 0 1) (az [.v 0 1] bm))))))))))))))) (ag 0 (jC hK hL1 h))
   ·
    obtain ⟨h27,h⟩:=ai h
    exact bl 0 (nu 59 [.ref 1023,iI v13,.eptr 1023 1 (v13.toNat) 0,iI (gD v4 v13),.ref 1026,iI v13,.eptr 1026 1 (v13.toNat) 0,iI (gD v5 v13),.bool ((gD v4 v13) != (gD v5 v13)),.bool false,.ref 1023,iI v13,.eptr 1023 1 (v13.toNat) 0,iI (gD v4 v13),iI v14,.bool (decide ((gD v4 v13)<v14)),.bool (decide ((gD v4 v13)<v14))]) [] [] [] (az (vz 2) (d_v (aC 1023 1 (eInt .i64) (L:=v4) h24) (d_v (aE 3 0 (eInt .i64) (eInt .i64) (au h27).2 (fun _=>rfl)) (az (vz 2) (d_v (aC 1026 1 (eInt .i64) (L:=v5) h25) (d_v (aE 3 0 (eInt .i64) (eInt .i64) (au h25).2 (fun _=>rfl)) (az [.v 0 1] (ax (e_b 0 68 (e:=((gD v4 v13) != (gD v5 v13))) (b:=false) h26) (az (vz 2) (d_v (aC 1023 1 (eInt .i64) (L:=v4) h27) (d_v (aE 3 0 (eInt .i64) (eInt .i64) (au h27).2 (fun _=>rfl)) (az (vz 3) bm)))))))))))) (ag 0 (jC hK hL1 h))
  ·
   exact ae 35 h18 (ab (ks':=[cF4 p4_27,cF4 p4_28,cF4 c8]) 7 (ah 1 (aj (aH aB v1) (af (ag 1 (aL (p:=p4_29) n (kM hK n h)))))))
theorem kX (hK:KnOk K) (m:Nat):H4_1 M w0 r v1 v2 v4 v5 m (eH K n v1 v2 v4 v5 m):=by
  induction m with
 | zero=>intro v10 v11 v12 v13 h; cases h
 | succ m ih=>intro v10 v11 v12 v13 h; have h:gz K n v1 v2 v4 v5 (eH K n v1 v2 v4 v5 m) v10 v11 v12 v13=some r:=h; exact aM (kx hK ih h)
theorem kq (hK:KnOk K) (h:ig K n v1 v2=some r):ACalls Try.prog 4 [.sl (lm aB v1),iI v2] (fun v _=>v = .bool r):=by
  refine bj (cat Try.f4 []) Try.func4 Try.ntmps4 fun M w0=>(aU ⟨[(0,.sl (lm aB v1)),(1,iI v2)],[],[],[]⟩ ?_)
  unfold ig at h
  refine ab (ks':=[cF4 [1,0,0],cF4 [1,0,1],cF4 [1,1]]) 4 (ah 0 ?_)
  obtain ⟨v3,h1,h⟩:=bind_some h
  refine bh (g_law20_fit_ok hK h1) (af ?_)
  rcases am h with ⟨h2,h⟩ | ⟨h2,h⟩
  ·
   refine ae 17 h2 (aG 5 ?_)
   cases h
   exact aZ
  ·
   refine ae 17 h2 (ab (ks':=[cF4 p4_30,cF4 p4_31,cF4 [1,1,1]]) 4 (ah 1 (aj (aH aB v1) (af ?_))))
   rcases am h with ⟨h3,h⟩ | ⟨h3,h⟩
   ·
    refine ae 20 h3 (aG 5 ?_)
    cases h
    exact aZ
   ·
    refine ae 20 h3 (ab (ks':=[cF4 p4_32,cF4 p4_33]) 3 (ah 2 ?_))
    obtain ⟨v4,h4,h⟩:=bind_some h
    refine eb 1023 (jn hK h4) (fb 17) (aP 5 2 ?_)
    obtain ⟨v5,h5,h⟩:=bind_some h
    refine eb 1026 (ly hK h5) (fb 2008) (af (ab (ks':=[cF4 p4_34,cF4 p4_35,cF4 p4_36]) 2 (ah 1 (aj (aH (eInt .i64) v4) (aP 3 1 (aj (aH aB v1) (af ?_)))))))
    rcases am h with ⟨h6,h⟩ | ⟨h6,h⟩
    ·
     refine ae 31 h6 (aG 5 ?_)
     cases h
     exact aZ
    ·
     exact ae 31 h6 (ab (ks':=[cF4 p4_37,cF4 p4_38,cF4 b7]) 6 (ah 1 (aj (aH aB v1) (af (ag 1 (aL (p:=p4_39) n (kX hK n h)))))))
end
noncomputable section
variable {K:Kn} {n:Nat} {M:Nat→Prop} {w0:Base} {r:Bool} {v1:Int} 
theorem kG (hK:KnOk K) (h:iA K n v1=some r):ACalls Try.prog 62 [iI v1] (fun v _=>v = .bool r):=by
  refine bj (cat Try.f62 []) Try.func62 Try.ntmps62 fun M w0=>(aU ⟨[(0,iI v1)],[],[],[]⟩ ?_)
  unfold iA at h
  refine aG 5 ?_
  cases h
  exact aZ
end
end Go.Proofs.Ytolhpahjgddjkaa

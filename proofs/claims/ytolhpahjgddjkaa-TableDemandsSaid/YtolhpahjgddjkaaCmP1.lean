/- The runs of the functions that TableDemands reaches do what their plain forms say, part 1. Made by a program. -/
import Derived.Test.YtolhpahjgddjkaaCmGk
import Derived.Test.YtolhpahjgddjkaaCmP0
namespace Go.Proofs.Ytolhpahjgddjkaa
open Go.RowKit
set_option maxRecDepth 20000
set_option linter.all false
set_option linter.unusedVariables false
set_option linter.unusedSimpArgs false
def fK:=pth 6 1
def p18_1:=pth 5 10100
def aQ:=pth 5 1
def p18_3:=pth 0 111110100
def aZ:=pth 0 111110100111
def p18_5:=pth 0 111110100110011111111100
def dK:=pth 0 111110100110011111111
def p18_7:=pth 0 11111010011001111111010100
def dU:=pth 0 11111010011001111111
def p18_9:=pth 0 1111101001100111111010100
def ex:=pth 0 1111101001100111111
def p18_11:=pth 0 1111101001100111110100
def p18_12:=pth 0 11111010011001111111110010
def p18_13:=pth 0 11111010011001111111110011
def p18_14:=pth 0 11111010011001111111110011001
def p18_15:=pth 0 111110100110011111111100111
def p18_16:=pth 0 1111101001100111111110
def p18_17:=pth 0 1111101001100111111111
def p18_18:=pth 0 11111010011001111111110
def p18_19:=pth 0 1111101001100111111101010010
def p18_20:=pth 0 1111101001100111111101010011
def p18_21:=pth 0 1111101001100111111101010011000
def p18_22:=pth 0 1111101001100111111101010011001
def p18_23:=pth 0 11111010011001111111010100111
def p18_24:=pth 0 1111101001100111111101
def p18_25:=pth 0 111110100110011111110100
def p18_26:=pth 0 111110100110011111110101
def p18_27:=pth 0 1111101001100111111101010
def p18_28:=pth 0 111110100110011111101010010
def p18_29:=pth 0 111110100110011111101010011
def p18_30:=pth 0 111110100110011111101010011000
def p18_31:=pth 0 111110100110011111101010011001
def p18_32:=pth 0 1111101001100111111010100111
def p18_33:=pth 0 111110100110011111010010
def p18_34:=pth 0 111110100110011111010011
def p18_35:=pth 0 111110100110011111010011000
def p18_36:=pth 0 111110100110011111010011001
def p18_37:=pth 0 1111101001100111110100111
def p18_38:=pth 0 1111101001100111110100110010
def p18_39:=pth 0 1111101001100111110100110011
def p18_40:=pth 0 111110100110011111101
def p18_41:=pth 0 11111010011001111110100
def p18_42:=pth 0 11111010011001111110101
def p18_43:=pth 0 111110100110011111101010
def p18_44:=pth 5 1010010
def p18_45:=pth 5 1010011
def p18_46:=pth 5 1010011001
def p18_47:=pth 5 10100111
def p18_48:=pth 0 11111010010
def p18_49:=pth 0 11111010011
def p18_50:=pth 0 11111010011000
def p18_51:=pth 0 11111010011001
def p18_52:=pth 0 111110100110010
def p18_53:=pth 0 111110100110011
def p18_54:=pth 0 1111101001100110
def p18_55:=pth 0 1111101001100111
def p18_56:=pth 0 111110100110011101
def p18_57:=pth 0 11111010011001111
def p18_58:=pth 0 11111010011001110100
def p18_59:=pth 0 11111010011001110101
def p18_60:=pth 0 111110100110011110
def p18_61:=pth 0 111110100110011111
def p18_62:=pth 0 11111010011001111100
def p18_63:=pth 0 11111010011001111101
def p18_64:=pth 0 111110100110011111010
def p18_65:=pth 5 100
def p18_66:=pth 5 101
def p18_67:=pth 5 1010
def p18_68:=pth 0 11110
def p18_69:=pth 0 11111
def p18_70:=pth 0 1111100
def p18_71:=pth 0 1111101
def p18_72:=pth 0 11111010
noncomputable section
abbrev bF (M:Nat→Prop) (w0:Base):Cx:=⟨Try.prog,204,M,w0⟩
abbrev q18 (M:Nat→Prop) (w0:Base) (r:List aa):=bodyPost Try.prog Try.f18 (RetQ M w0 (fun v s=>v = .ref 27∧look 27 s.r=some ⟨36,2,lm ag r⟩))
abbrev ai (p:List Nat):Kont:=.c (cat Try.f18 p)
abbrev k18_6 (M:Nat→Prop) (w0:Base) (r:List aa) (m6:Nat):Kont:=kl (bF M w0) (q18 M w0 r) [.b 10,ai fK] (cat Try.f18 p18_1) m6
abbrev aV (M:Nat→Prop) (w0:Base) (r:List aa) (m1:Nat):Kont:=kl (bF M w0) (q18 M w0 r) [.b 0,ai aQ] (cat Try.f18 p18_3) m1
abbrev k18_5 (M:Nat→Prop) (w0:Base) (r:List aa) (m1 m5:Nat):Kont:=kl (bF M w0) (q18 M w0 r) [.b 8,.b 1,ai aZ,aV M w0 r m1,.b 0,ai aQ] (cat Try.f18 p18_5) m5
abbrev k18_4 (M:Nat→Prop) (w0:Base) (r:List aa) (m1 m4:Nat):Kont:=kl (bF M w0) (q18 M w0 r) [.b 6,ai dK,.b 1,ai aZ,aV M w0 r m1,.b 0,ai aQ] (cat Try.f18 p18_7) m4
abbrev k18_3 (M:Nat→Prop) (w0:Base) (r:List aa) (m1 m3:Nat):Kont:=kl (bF M w0) (q18 M w0 r) [.b 4,ai dU,.b 1,ai aZ,aV M w0 r m1,.b 0,ai aQ] (cat Try.f18 p18_9) m3
abbrev k18_2 (M:Nat→Prop) (w0:Base) (r:List aa) (m1 m2:Nat):Kont:=kl (bF M w0) (q18 M w0 r) [.b 2,ai ex,.b 1,ai aZ,aV M w0 r m1,.b 0,ai aQ] (cat Try.f18 p18_11) m2
def s18_j7 (v1:List ab) (v2:List aa) (v5:List Int) (v33:Int) (v61:List aa):AS:=⟨[(0,.sl (lm am v1)),(1,.sl (lm ag v2)),(7,.ref 27),(33,.ref 1033),(34,iI (v5.length:Int)),(35,iI v33)],[],[(27,⟨36,2,lm ag v61⟩),(1033,⟨3,1,lm (eInt .i64) v5⟩)],[27,1033]⟩
def s18_l6 (v1:List ab) (v2:List aa) (v5:List Int) (v33:Int) (v37:ab) (v51 v55:List Int) (v58 v59:Int) (v60:List aa):AS:=⟨[(0,.sl (lm am v1)),(1,.sl (lm ag v2)),(7,.ref 27),(13,.sref 27 2 ((v37.Col).toNat) (((w64 (v37.Col+v37.Cols))).toNat - (v37.Col).toNat)),(14,.ref 87),(15,.ref 90),(33,.ref 1033),(34,iI (v5.length:Int)),(35,iI v33),(164,iI v58),(165,iI v59)],[],[(27,⟨36,2,lm ag v60⟩),(87,⟨3,1,lm (eInt .i64) v51⟩),(90,⟨3,1,lm (eInt .i64) v55⟩),(1033,⟨3,1,lm (eInt .i64) v5⟩)],[27,87,90,1033]⟩
def s18_j5 (v1:List ab) (v2:List aa) (v5:List Int) (v33:Int) (v34:List aa) (v37:ab) (v51 v55:List Int):AS:=⟨[(0,.sl (lm am v1)),(1,.sl (lm ag v2)),(7,.ref 27),(13,.sref 27 2 ((v37.Col).toNat) (((w64 (v37.Col+v37.Cols))).toNat - (v37.Col).toNat)),(14,.ref 87),(15,.ref 90),(33,.ref 1033),(34,iI (v5.length:Int)),(35,iI v33)],[],[(27,⟨36,2,lm ag v34⟩),(87,⟨3,1,lm (eInt .i64) v51⟩),(90,⟨3,1,lm (eInt .i64) v55⟩),(1033,⟨3,1,lm (eInt .i64) v5⟩)],[27,87,90,1033]⟩
def s18_l4 (v1:List ab) (v2:List aa) (v5:List Int) (v33:Int) (v34:List aa) (v37:ab) (v51 v52:List Int) (v53:Int) (v54:List Int):AS:=⟨[(0,.sl (lm am v1)),(1,.sl (lm ag v2)),(7,.ref 27),(13,.sref 27 2 ((v37.Col).toNat) (((w64 (v37.Col+v37.Cols))).toNat - (v37.Col).toNat)),(14,.ref 87),(15,.ref 90),(33,.ref 1033),(34,iI (v5.length:Int)),(35,iI v33),(148,.ref 1148),(149,iI (v52.length:Int)),(150,iI v53)],[],[(27,⟨36,2,lm ag v34⟩),(87,⟨3,1,lm (eInt .i64) v51⟩),(90,⟨3,1,lm (eInt .i64) v54⟩),(1033,⟨3,1,lm (eInt .i64) v5⟩),(1148,⟨3,1,lm (eInt .i64) v52⟩)],[27,87,90,1033,1148]⟩
def s18_j3 (v1:List ab) (v2:List aa) (v5:List Int) (v33:Int) (v34:List aa) (v37:ab) (v43 v44:Int) (v46 v51:List Int):AS:=⟨[(0,.sl (lm am v1)),(1,.sl (lm ag v2)),(7,.ref 27),(12,.ptr 12 0),(13,.sref 27 2 ((v37.Col).toNat) (((w64 (v37.Col+v37.Cols))).toNat - (v37.Col).toNat)),(14,.ref 87),(15,.ref 90),(33,.ref 1033),(34,iI (v5.length:Int)),(35,iI v33)],[(12,ag (⟨v43,v44⟩:aa))],[(27,⟨36,2,lm ag v34⟩),(87,⟨3,1,lm (eInt .i64) v51⟩),(90,⟨3,1,lm (eInt .i64) v46⟩),(1033,⟨3,1,lm (eInt .i64) v5⟩)],[12,27,87,90,1033]⟩
def s18_l2 (v1:List ab) (v2:List aa) (v5:List Int) (v33:Int) (v34:List aa) (v37:ab) (v43 v44:Int) (v46 v48:List Int) (v49:Int) (v50:List Int):AS:=⟨[(0,.sl (lm am v1)),(1,.sl (lm ag v2)),(7,.ref 27),(12,.ptr 12 0),(13,.sref 27 2 ((v37.Col).toNat) (((w64 (v37.Col+v37.Cols))).toNat - (v37.Col).toNat)),(14,.ref 87),(15,.ref 90),(33,.ref 1033),(34,iI (v5.length:Int)),(35,iI v33),(127,.ref 1127),(128,iI (v48.length:Int)),(129,iI v49)],[(12,ag (⟨v43,v44⟩:aa))],[(27,⟨36,2,lm ag v34⟩),(87,⟨3,1,lm (eInt .i64) v50⟩),(90,⟨3,1,lm (eInt .i64) v46⟩),(1033,⟨3,1,lm (eInt .i64) v5⟩),(1127,⟨3,1,lm (eInt .i64) v48⟩)],[12,27,87,90,1033,1127]⟩
def s18_l1 (v1:List ab) (v2:List aa) (v5:List Int) (v33:Int) (v34:List aa) (v37:ab) (v41 v42 v43 v44:Int) (v45 v46:List Int):AS:=⟨[(0,.sl (lm am v1)),(1,.sl (lm ag v2)),(7,.ref 27),(12,.ptr 12 0),(13,.sref 27 2 ((v37.Col).toNat) (((w64 (v37.Col+v37.Cols))).toNat - (v37.Col).toNat)),(14,.ref 87),(15,.ref 90),(33,.ref 1033),(34,iI (v5.length:Int)),(35,iI v33),(91,.sref 27 2 ((v37.Col).toNat) (((w64 (v37.Col+v37.Cols))).toNat - (v37.Col).toNat)),(92,iI v41),(93,iI v42)],[(12,ag (⟨v43,v44⟩:aa))],[(27,⟨36,2,lm ag v34⟩),(87,⟨3,1,lm (eInt .i64) v45⟩),(90,⟨3,1,lm (eInt .i64) v46⟩),(1033,⟨3,1,lm (eInt .i64) v5⟩)],[12,27,87,90,1033]⟩
def s18_l9 (v34:List aa) (v62:Int) (v63:List aa):AS:=⟨[(7,.ref 27),(183,iI (v34.length:Int)),(184,iI v62)],[],[(27,⟨36,2,lm ag v63⟩)],[27]⟩
def s18_l8 (v1:List ab) (v2:List aa) (v5:List Int) (v33:Int) (v34:List aa):AS:=⟨[(0,.sl (lm am v1)),(1,.sl (lm ag v2)),(7,.ref 27),(33,.ref 1033),(34,iI (v5.length:Int)),(35,iI v33)],[],[(27,⟨36,2,lm ag v34⟩),(1033,⟨3,1,lm (eInt .i64) v5⟩)],[27,1033]⟩
abbrev cq (M:Nat→Prop) (w0:Base) (r:List aa) (v1:List ab) (v2:List aa) (v5:List Int) (m1:Nat) (L1:Int→(List aa)→Option (List aa)):Prop:=∀ {v33:Int} {v34:(List aa)},L1 v33 v34=some r→LP (bF M w0) (q18 M w0 r) [.b 0,ai aQ] (cat Try.f18 p18_3) m1 (s18_l8 v1 v2 v5 v33 v34)
abbrev H18_2 (M:Nat→Prop) (w0:Base) (r:List aa) (v1:List ab) (v2:List aa) (v5:List Int) (v33:Int) (v34:List aa) (v37:ab) (m1 m2:Nat) (L2:Int→Int→Int→Int→(List Int)→(List Int)→Option (List aa)):Prop:=∀ {v41:Int} {v42:Int} {v43:Int} {v44:Int} {v45:(List Int)} {v46:(List Int)},L2 v41 v42 v43 v44 v45 v46=some r→LP (bF M w0) (q18 M w0 r) [.b 2,ai ex,.b 1,ai aZ,aV M w0 r m1,.b 0,ai aQ] (cat Try.f18 p18_11) m2 (s18_l1 v1 v2 v5 v33 v34 v37 v41 v42 v43 v44 v45 v46)
abbrev H18_3 (M:Nat→Prop) (w0:Base) (r:List aa) (v1:List ab) (v2:List aa) (v5:List Int) (v33:Int) (v34:List aa) (v37:ab) (v43 v44:Int) (v46 v48:List Int) (m1 m3:Nat) (L3:Int→(List Int)→Option (List aa)):Prop:=∀ {v49:Int} {v50:(List Int)},L3 v49 v50=some r→LP (bF M w0) (q18 M w0 r) [.b 4,ai dU,.b 1,ai aZ,aV M w0 r m1,.b 0,ai aQ] (cat Try.f18 p18_9) m3 (s18_l2 v1 v2 v5 v33 v34 v37 v43 v44 v46 v48 v49 v50)
abbrev H18_4 (M:Nat→Prop) (w0:Base) (r:List aa) (v1:List ab) (v2:List aa) (v5:List Int) (v33:Int) (v34:List aa) (v37:ab) (v51 v52:List Int) (m1 m4:Nat) (L4:Int→(List Int)→Option (List aa)):Prop:=∀ {v53:Int} {v54:(List Int)},L4 v53 v54=some r→LP (bF M w0) (q18 M w0 r) [.b 6,ai dK,.b 1,ai aZ,aV M w0 r m1,.b 0,ai aQ] (cat Try.f18 p18_7) m4 (s18_l4 v1 v2 v5 v33 v34 v37 v51 v52 v53 v54)
abbrev H18_5 (M:Nat→Prop) (w0:Base) (r:List aa) (v1:List ab) (v2:List aa) (v5:List Int) (v33:Int) (v37:ab) (v51 v55:List Int) (m1 m5:Nat) (L5:Int→Int→(List aa)→Option (List aa)):Prop:=∀ {v58:Int} {v59:Int} {v60:(List aa)},L5 v58 v59 v60=some r→LP (bF M w0) (q18 M w0 r) [.b 8,.b 1,ai aZ,aV M w0 r m1,.b 0,ai aQ] (cat Try.f18 p18_5) m5 (s18_l6 v1 v2 v5 v33 v37 v51 v55 v58 v59 v60)
abbrev H18_6 (M:Nat→Prop) (w0:Base) (r v34:List aa) (m6:Nat) (L6:Int→(List aa)→Option (List aa)):Prop:=∀ {v62:Int} {v63:(List aa)},L6 v62 v63=some r→LP (bF M w0) (q18 M w0 r) [.b 10,ai fK] (cat Try.f18 p18_1) m6 (s18_l9 v34 v62 v63)
variable {K:Kn} {n:Nat} {M:Nat→Prop} {w0:Base} {r:List aa} {v1:List ab} {v2:List aa} {v3:Int} {v5:List Int} {v33:Int} {v34:List aa} {v37:ab} {v41 v42 v43 v44:Int} {v45 v46 v48:List Int} {v49:Int} {v50 v51 v52:List Int} {v53:Int} {v54 v55:List Int} {v58 v59:Int} {v60 v61:List aa} {v62:Int} {v63:List aa} {m1:Nat} {L1:Int→(List aa)→Option (List aa)} {m2:Nat} {L2:Int→Int→Int→Int→(List Int)→(List Int)→Option (List aa)} {m3:Nat} {L3:Int→(List Int)→Option (List aa)} {m4:Nat} {L4:Int→(List Int)→Option (List aa)} {m5:Nat} {L5:Int→Int→(List aa)→Option (List aa)} {m6:Nat} {L6:Int→(List aa)→Option (List aa)}
theorem lY (hK:KnOk K) (hL1:cq M w0 r v1 v2 v5 m1 L1) (h:iG K n v1 v2 v5 v33 L1 v61=some r):VE (bF M w0) (q18 M w0 r) [ai aZ,aV M w0 r m1,.b 0,ai aQ] .normal (s18_j7 v1 v2 v5 v33 v61):=by
  unfold iG at h
  exact af 1 (aI (hL1 h))
theorem oi (hK:KnOk K) (hL1:cq M w0 r v1 v2 v5 m1 L1) (hL5:H18_5 M w0 r v1 v2 v5 v33 v37 v51 v55 m1 m5 L5) (h:ic K n v1 v2 v5 v33 v37 v51 v55 L1 L5 v58 v59 v60=some r):VE (bF M w0) (q18 M w0 r) [ai p18_5,k18_5 M w0 r m1 m5,.b 8,.b 1,ai aZ,aV M w0 r m1,.b 0,ai aQ] .normal (s18_l6 v1 v2 v5 v33 v37 v51 v55 v58 v59 v60):=by
  unfold ic at h
  refine ae (ks':=[ai p18_12,ai p18_13,k18_5 M w0 r m1 m5,.b 8,.b 1,ai aZ,aV M w0 r m1,.b 0,ai aQ]) 3 ?_
  rcases aq h with ⟨h123,h⟩ | ⟨h123,h⟩
  ·
   refine ah 166 h123 (ae (ks':=[ai p18_14,.b 9,ai p18_15,k18_5 M w0 r m1 m5,.b 8,.b 1,ai aZ,aV M w0 r m1,.b 0,ai aQ]) 6 (bu [0,1,7,13,14,15,22,33,34,35,164,165] [] [27,87,90,1033] ?_))
   obtain ⟨h124,h⟩:=ak h
   obtain ⟨h125,h⟩:=ak h
   obtain ⟨h126,h⟩:=ak h
   obtain ⟨h127,h⟩:=ak h
   exact bt 1 (nu 168 [.sref 27 2 ((v37.Col).toNat) (((w64 (v37.Col+v37.Cols))).toNat - (v37.Col).toNat),iI v59,.ref 87,iI v59,.eptr 87 1 (v59.toNat) 0,iI (gD v51 v59),.ref 90,iI v59,.eptr 90 1 (v59.toNat) 0,iI (gD v55 v59),.agg (ag (⟨(gD v51 v59),(gD v55 v59)⟩:aa)),.eptr 27 2 ((v37.Col).toNat+v59.toNat) 0]) [] [] [strS 27 ⟨36,2,lm ag (List.set v60 ((v37.Col).toNat+v59.toNat) (⟨(gD v51 v59),(gD v55 v59)⟩:aa))⟩] (ax (vz 4) (d_v (aD 87 1 (eInt .i64) (L:=v51) h124) (d_v (aG 3 0 (eInt .i64) (eInt .i64) (ay h124).2 (fun _=>rfl)) (ax (vz 2) (d_v (aD 90 1 (eInt .i64) (L:=v55) h125) (d_v (aG 3 0 (eInt .i64) (eInt .i64) (ay h125).2 (fun _=>rfl)) (ax [.v 0 1] (d_v (y_ixv 27 2 (off:=(v37.Col).toNat) h126) (av (e_s (m:=0) (bi 27 36 2 0 ag ag (⟨(gD v51 v59),(gD v55 v59)⟩:aa) (of_decide_eq_true h127) (fun _=>rfl))) bq))))))))) (af 2 (aI (hL5 h)))
  ·
   exact ah 166 h123 (af 6 (lY hK hL1 h))
theorem ng (hK:KnOk K) (hL1:cq M w0 r v1 v2 v5 m1 L1) (m:Nat):H18_5 M w0 r v1 v2 v5 v33 v37 v51 v55 m1 m (go K n v1 v2 v5 v33 v37 v51 v55 L1 m):=by
  induction m with
 | zero=>intro v58 v59 v60 h; cases h
 | succ m ih=>intro v58 v59 v60 h; have h:ic K n v1 v2 v5 v33 v37 v51 v55 L1 (go K n v1 v2 v5 v33 v37 v51 v55 L1 m) v58 v59 v60=some r:=h; exact aL (oi hK hL1 ih h)
theorem lR (hK:KnOk K) (hL1:cq M w0 r v1 v2 v5 m1 L1) (h:eN K n v1 v2 v5 v33 v34 v37 v51 L1 v55=some r):VE (bF M w0) (q18 M w0 r) [ai dK,.b 1,ai aZ,aV M w0 r m1,.b 0,ai aQ] .normal (s18_j5 v1 v2 v5 v33 v34 v37 v51 v55):=by
  unfold eN at h
  exact ae (ks':=[ai p18_16,ai p18_17,.b 1,ai aZ,aV M w0 r m1,.b 0,ai aQ]) 1 (ap 1 (ao (y_lnv (m:=(((w64 (v37.Col+v37.Cols))).toNat - (v37.Col).toNat))) (aj (af 1 (aM (p:=p18_18) n (ng hK hL1 n h))))))
theorem mt (hK:KnOk K) (hL1:cq M w0 r v1 v2 v5 m1 L1) (hL4:H18_4 M w0 r v1 v2 v5 v33 v34 v37 v51 v52 m1 m4 L4) (h:iA K n v1 v2 v5 v33 v34 v37 v51 v52 L1 L4 v53 v54=some r):VE (bF M w0) (q18 M w0 r) [ai p18_7,k18_4 M w0 r m1 m4,.b 6,ai dK,.b 1,ai aZ,aV M w0 r m1,.b 0,ai aQ] .normal (s18_l4 v1 v2 v5 v33 v34 v37 v51 v52 v53 v54):=by
  unfold iA at h
  refine ae (ks':=[ai p18_19,ai p18_20,k18_4 M w0 r m1 m4,.b 6,ai dK,.b 1,ai aZ,aV M w0 r m1,.b 0,ai aQ]) 3 ?_
  rcases aq h with ⟨h112,h⟩ | ⟨h112,h⟩
  ·
   refine ah 151 h112 (ae (ks':=[ai p18_21,ai p18_22,.b 7,ai p18_23,k18_4 M w0 r m1 m4,.b 6,ai dK,.b 1,ai aZ,aV M w0 r m1,.b 0,ai aQ]) 5 (ap 1 ?_))
   obtain ⟨h113,h⟩:=ak h
   refine ao (bf 1148 1 (eInt .i64) h113) (ao (aG 3 0 (eInt .i64) (eInt .i64) (ay h113).2 (fun _=>rfl)) (aj (ap 2 ?_)))
   obtain ⟨h114,h⟩:=ak h
   refine ao (bf 90 1 (eInt .i64) h114) (ao (aG 3 0 (eInt .i64) (eInt .i64) (ay h114).2 (fun _=>rfl)) (aH 6 2 ?_))
   obtain ⟨h115,h⟩:=ak h
   exact ao (bf 90 1 (eInt .i64) h115) (ao (bi 90 3 1 0 (eInt .i64) (eInt .i64) (w64 ((gD v54 v53)+(gD v52 v53))) (ay h115).2 (fun _=>rfl)) (aj (af 2 (aI (hL4 h)))))
  ·
   exact ah 151 h112 (af 5 (lR hK hL1 h))
theorem mR (hK:KnOk K) (hL1:cq M w0 r v1 v2 v5 m1 L1) (m:Nat):H18_4 M w0 r v1 v2 v5 v33 v34 v37 v51 v52 m1 m (gn K n v1 v2 v5 v33 v34 v37 v51 v52 L1 m):=by
  induction m with
 | zero=>intro v53 v54 h; cases h
 | succ m ih=>intro v53 v54 h; have h:iA K n v1 v2 v5 v33 v34 v37 v51 v52 L1 (gn K n v1 v2 v5 v33 v34 v37 v51 v52 L1 m) v53 v54=some r:=h; exact aL (mt hK hL1 ih h)
theorem lx (hK:KnOk K) (hL1:cq M w0 r v1 v2 v5 m1 L1) (h:dG K n v1 v2 v5 v33 v34 v37 v43 v44 v46 L1 v51=some r):VE (bF M w0) (q18 M w0 r) [ai dU,.b 1,ai aZ,aV M w0 r m1,.b 0,ai aQ] .normal (s18_j3 v1 v2 v5 v33 v34 v37 v43 v44 v46 v51):=by
  unfold dG at h
  refine ae (ks':=[ai p18_24,ai dK,.b 1,ai aZ,aV M w0 r m1,.b 0,ai aQ]) 3 ?_
  rcases aq h with ⟨h106,h⟩ | ⟨h106,h⟩
  ·
   refine ah 144 h106 (ae (ks':=[ai p18_25,ai p18_26,ai dK,.b 1,ai aZ,aV M w0 r m1,.b 0,ai aQ]) 2 (ap 3 ?_))
   obtain ⟨v52,h107,h⟩:=bind_some h
   exact ot_lxo 1148 (kL hK h107) (dV _ _ (dR _)) (by kernel_rfl:callArgsLx _ _=some (28,[iI v44,.sl (lm (eInt .i64) v51)],[iI v44,.ref 87])) (ke (q:=[]) (by kernel_rfl) trivial) (ao (aK (eInt .i64) v52) (aj (af 1 (aM (p:=p18_27) n (mR hK hL1 n h)))))
  ·
   exact ah 144 h106 (af 2 (lR hK hL1 h))
theorem ou (hK:KnOk K) (hL1:cq M w0 r v1 v2 v5 m1 L1) (hL3:H18_3 M w0 r v1 v2 v5 v33 v34 v37 v43 v44 v46 v48 m1 m3 L3) (h:jd K n v1 v2 v5 v33 v34 v37 v43 v44 v46 v48 L1 L3 v49 v50=some r):VE (bF M w0) (q18 M w0 r) [ai p18_9,k18_3 M w0 r m1 m3,.b 4,ai dU,.b 1,ai aZ,aV M w0 r m1,.b 0,ai aQ] .normal (s18_l2 v1 v2 v5 v33 v34 v37 v43 v44 v46 v48 v49 v50):=by
  unfold jd at h
  refine ae (ks':=[ai p18_28,ai p18_29,k18_3 M w0 r m1 m3,.b 4,ai dU,.b 1,ai aZ,aV M w0 r m1,.b 0,ai aQ]) 3 ?_
  rcases aq h with ⟨h102,h⟩ | ⟨h102,h⟩
  ·
   refine ah 130 h102 (ae (ks':=[ai p18_30,ai p18_31,.b 5,ai p18_32,k18_3 M w0 r m1 m3,.b 4,ai dU,.b 1,ai aZ,aV M w0 r m1,.b 0,ai aQ]) 5 (ap 1 ?_))
   obtain ⟨h103,h⟩:=ak h
   refine ao (bf 1127 1 (eInt .i64) h103) (ao (aG 3 0 (eInt .i64) (eInt .i64) (ay h103).2 (fun _=>rfl)) (aj (ap 2 ?_)))
   obtain ⟨h104,h⟩:=ak h
   refine ao (bf 87 1 (eInt .i64) h104) (ao (aG 3 0 (eInt .i64) (eInt .i64) (ay h104).2 (fun _=>rfl)) (aH 6 2 ?_))
   obtain ⟨h105,h⟩:=ak h
   exact ao (bf 87 1 (eInt .i64) h105) (ao (bi 87 3 1 0 (eInt .i64) (eInt .i64) (w64 ((gD v50 v49)+(gD v48 v49))) (ay h105).2 (fun _=>rfl)) (aj (af 2 (aI (hL3 h)))))
  ·
   exact ah 130 h102 (af 5 (lx hK hL1 h))
theorem ox (hK:KnOk K) (hL1:cq M w0 r v1 v2 v5 m1 L1) (m:Nat):H18_3 M w0 r v1 v2 v5 v33 v34 v37 v43 v44 v46 v48 m1 m (fR K n v1 v2 v5 v33 v34 v37 v43 v44 v46 v48 L1 m):=by
  induction m with
 | zero=>intro v49 v50 h; cases h
 | succ m ih=>intro v49 v50 h; have h:jd K n v1 v2 v5 v33 v34 v37 v43 v44 v46 v48 L1 (fR K n v1 v2 v5 v33 v34 v37 v43 v44 v46 v48 L1 m) v49 v50=some r:=h; exact aL (ou hK hL1 ih h)
theorem nE (hK:KnOk K) (hL1:cq M w0 r v1 v2 v5 m1 L1) (hL2:H18_2 M w0 r v1 v2 v5 v33 v34 v37 m1 m2 L2) (h:iZ K n v1 v2 v5 v33 v34 v37 L1 L2 v41 v42 v43 v44 v45 v46=some r):VE (bF M w0) (q18 M w0 r) [ai p18_11,k18_2 M w0 r m1 m2,.b 2,ai ex,.b 1,ai aZ,aV M w0 r m1,.b 0,ai aQ] .normal (s18_l1 v1 v2 v5 v33 v34 v37 v41 v42 v43 v44 v45 v46):=by
  unfold iZ at h
  refine ae (ks':=[ai p18_33,ai p18_34,k18_2 M w0 r m1 m2,.b 2,ai ex,.b 1,ai aZ,aV M w0 r m1,.b 0,ai aQ]) 3 ?_
  rcases aq h with ⟨h90,h⟩ | ⟨h90,h⟩
  ·
   refine ah 94 h90 (ae (ks':=[ai p18_35,ai p18_36,.b 3,ai p18_37,k18_2 M w0 r m1 m2,.b 2,ai ex,.b 1,ai aZ,aV M w0 r m1,.b 0,ai aQ]) 5 (ap 1 ?_))
   obtain ⟨h91,h⟩:=ak h
   refine ao (y_ixv 27 2 (off:=(v37.Col).toNat) h91) ?_
   obtain ⟨h92,h⟩:=ak h
   refine ao (aG 36 0 ag ag (of_decide_eq_true h92) (fun _=>rfl)) (aj ?_)
   obtain ⟨v47,h93,h⟩:=bind_some h
   have h93:=Option.some.inj h93
   refine bd (ks':=[ai p18_38,ai p18_39,.b 3,ai p18_37,k18_2 M w0 r m1 m2,.b 2,ai ex,.b 1,ai aZ,aV M w0 r m1,.b 0,ai aQ]) 1 ⟨[(0,.sl (lm am v1)),(1,.sl (lm ag v2)),(7,.ref 27),(12,.ptr 12 0),(13,.sref 27 2 ((v37.Col).toNat) (((w64 (v37.Col+v37.Cols))).toNat - (v37.Col).toNat)),(14,.ref 87),(15,.ref 90),(16,iI v42),(17,.ptr 17 0),(33,.ref 1033),(34,iI (v5.length:Int)),(35,iI v33),(91,.sref 27 2 ((v37.Col).toNat) (((w64 (v37.Col+v37.Cols))).toNat - (v37.Col).toNat)),(92,iI v41),(93,iI v42)],[(12,ag (⟨v43,v44⟩:aa)),(17,ag v47)],[(27,⟨36,2,lm ag v34⟩),(87,⟨3,1,lm (eInt .i64) v45⟩),(90,⟨3,1,lm (eInt .i64) v46⟩),(1033,⟨3,1,lm (eInt .i64) v5⟩)],[12,17,27,87,90,1033]⟩ ?_ (by subst h93; kernel_rfl)
   obtain ⟨h94,h⟩:=ak h
   obtain ⟨h95,h⟩:=ak h
   exact bt 2 (nu 98 [.ref 87,iI v42,.ref 90,iI v42,.ptr 17 0,iI v47.Least,.ptr 17 1,iI v47.Most,.eptr 87 1 (v42.toNat) 0,.eptr 90 1 (v42.toNat) 0]) [] [] [strS 87 ⟨3,1,lm (eInt .i64) (List.set v45 v42.toNat v47.Least)⟩,strS 90 ⟨3,1,lm (eInt .i64) (List.set v46 v42.toNat v47.Most)⟩] (ax [.v 0 1,.v 0 1,.v 0 2,.v 0 2,.v 0 1,.v 0 1,.v 0 2,.v 0 2] (d_v (aD 87 1 (eInt .i64) (L:=v45) h94) (av (e_s (m:=0) (bi 87 3 1 0 (eInt .i64) (eInt .i64) v47.Least (ay h94).2 (fun _=>rfl))) (av (e_v (lo:=1) (aD 90 1 (eInt .i64) (L:=v46) h95)) (av (e_s (m:=1) (bi 90 3 1 0 (eInt .i64) (eInt .i64) v47.Most (ay h95).2 (fun _=>rfl))) bq))))) (af 5 (aI (hL2 h)))
  ·
   refine ah 94 h90 (ae (ks':=[ai p18_40,ai dU,.b 1,ai aZ,aV M w0 r m1,.b 0,ai aQ]) 8 ?_)
   rcases aq h with ⟨h96,h⟩ | ⟨h96,h⟩
   ·
    refine ah 123 h96 (ae (ks':=[ai p18_41,ai p18_42,ai dU,.b 1,ai aZ,aV M w0 r m1,.b 0,ai aQ]) 2 (ap 3 ?_))
    obtain ⟨v48,h97,h⟩:=bind_some h
    exact ot_lxo 1127 (kL hK h97) (dV _ _ (dR _)) (by kernel_rfl:callArgsLx _ _=some (28,[iI v43,.sl (lm (eInt .i64) v46)],[iI v43,.ref 90])) (ke (q:=[]) (by kernel_rfl) trivial) (ao (aK (eInt .i64) v48) (aj (af 1 (aM (p:=p18_43) n (ox hK hL1 n h)))))
   ·
    exact ah 123 h96 (af 2 (lx hK hL1 h))
theorem mN (hK:KnOk K) (hL1:cq M w0 r v1 v2 v5 m1 L1) (m:Nat):H18_2 M w0 r v1 v2 v5 v33 v34 v37 m1 m (fu K n v1 v2 v5 v33 v34 v37 L1 m):=by
  induction m with
 | zero=>intro v41 v42 v43 v44 v45 v46 h; cases h
 | succ m ih=>intro v41 v42 v43 v44 v45 v46 h; have h:iZ K n v1 v2 v5 v33 v34 v37 L1 (fu K n v1 v2 v5 v33 v34 v37 L1 m) v41 v42 v43 v44 v45 v46=some r:=h; exact aL (nE hK hL1 ih h)
theorem oH (hK:KnOk K) (hL6:H18_6 M w0 r v34 m6 L6) (h:iq K n v34 L6 v62 v63=some r):VE (bF M w0) (q18 M w0 r) [ai p18_1,k18_6 M w0 r m6,.b 10,ai fK] .normal (s18_l9 v34 v62 v63):=by
  unfold iq at h
  refine ae (ks':=[ai p18_44,ai p18_45,k18_6 M w0 r m6,.b 10,ai fK]) 3 ?_
  rcases aq h with ⟨h132,h⟩ | ⟨h132,h⟩
  ·
   refine ah 185 h132 (ae (ks':=[ai p18_46,.b 11,ai p18_47,k18_6 M w0 r m6,.b 10,ai fK]) 6 (bu [7,23,183,184] [] [27] ?_))
   obtain ⟨h133,h⟩:=ak h
   obtain ⟨h134,h⟩:=ak h
   obtain ⟨h135,h⟩:=ak h
   exact bt 1 (nu 187 [.ref 27,iI v62,.ref 27,iI v62,.eptr 27 2 (v62.toNat) 0,.eptr 27 2 (v62.toNat) 1,iI ((gD v63 v62).Most),.ref 27,iI v62,.eptr 27 2 (v62.toNat) 0,.eptr 27 2 (v62.toNat) 0,iI ((gD v63 v62).Least),iI (max ((gD v63 v62).Most) ((gD v63 v62).Least)),.eptr 27 2 (v62.toNat) 0,.eptr 27 2 (v62.toNat) 1]) [] [] [strS 27 ⟨36,2,lm ag (List.set v63 v62.toNat ({ (gD v63 v62) with Most:=(max ((gD v63 v62).Most) ((gD v63 v62).Least)) }:aa))⟩] (ax (vz 4) (d_v (aD 27 2 ag (L:=v63) h133) (ax [.v 0 1] (d_v (aG 3 1 ag ag (ay h135).2 (fun _=>rfl)) (ax (vz 2) (d_v (aD 27 2 ag (L:=v63) h134) (ax [.v 0 1] (d_v (aG 3 0 ag ag (ay h135).2 (fun _=>rfl)) (ax [.v 0 1] (av (k_v (lo:=0) (k:=2) (bn ⟨(by kernel_rfl),(bp (aD 27 2 ag (L:=v63) h135) (by kernel_rfl))⟩ (bn ⟨(by kernel_rfl),(bp (aD 27 2 ag (L:=(List.set v63 v62.toNat ({ (gD v63 v62) with Most:=(max ((gD v63 v62).Most) ((gD v63 v62).Least)) }:aa))) h135) (by kernel_rfl))⟩ bU))) (ax [.v 0 1] (av (e_s (m:=0) (bi 27 36 2 1 ag ag ({ (gD v63 v62) with Most:=(max ((gD v63 v62).Most) ((gD v63 v62).Least)) }:aa) (ay h135).2 (fun _=>rfl))) bq)))))))))))) (af 2 (aI (hL6 h)))
  ·
   refine ah 185 h132 (aJ 8 ?_)
   cases h
   exact cG
theorem nW (hK:KnOk K) (m:Nat):H18_6 M w0 r v34 m (gx K n v34 m):=by
  induction m with
 | zero=>intro v62 v63 h; cases h
 | succ m ih=>intro v62 v63 h; have h:iq K n v34 (gx K n v34 m) v62 v63=some r:=h; exact aL (oH hK ih h)
theorem nk (hK:KnOk K) (hL1:cq M w0 r v1 v2 v5 m1 L1) (h:jo K n v1 v2 v5 L1 v33 v34=some r):VE (bF M w0) (q18 M w0 r) [ai p18_3,aV M w0 r m1,.b 0,ai aQ] .normal (s18_l8 v1 v2 v5 v33 v34):=by
  unfold jo at h
  refine ae (ks':=[ai p18_48,ai p18_49,aV M w0 r m1,.b 0,ai aQ]) 3 ?_
  rcases aq h with ⟨h66,h⟩ | ⟨h66,h⟩
  ·
   refine ah 36 h66 (ae (ks':=[ai p18_50,ai p18_51,.b 1,ai aZ,aV M w0 r m1,.b 0,ai aQ]) 5 (ap 0 ?_))
   obtain ⟨h67,h⟩:=ak h
   refine ao (bf 1033 1 (eInt .i64) h67) (ao (aG 3 0 (eInt .i64) (eInt .i64) (ay h67).2 (fun _=>rfl)) (aj (ae (ks':=[ai p18_52,ai p18_53,.b 1,ai aZ,aV M w0 r m1,.b 0,ai aQ]) 1 (bu [0,1,7,10,33,34,35] [] [27,1033] ?_))))
   obtain ⟨h68,h⟩:=ak h
   obtain ⟨h69,h⟩:=ak h
   obtain ⟨v35,h70,h⟩:=bind_some h
   obtain ⟨h71,h⟩:=ak h
   obtain ⟨v36,h72,h⟩:=bind_some h
   refine bt 2 (nu 39 [.sl (lm am v1),iI (gD v5 v33),.cptr (am (gD v1 ((gD v5 v33)))),.agg (am (gD v1 ((gD v5 v33)))),.sl (lm ag v2),iI (gD v5 v33),.cptr (ag (gD v2 ((gD v5 v33)))),.cptr (List.drop 0 (ag (gD v2 ((gD v5 v33))))),iI ((gD v2 ((gD v5 v33))).Least),iI v35,.sl (lm ag v2),iI (gD v5 v33),.cptr (ag (gD v2 ((gD v5 v33)))),.cptr (List.drop 1 (ag (gD v2 ((gD v5 v33))))),iI ((gD v2 ((gD v5 v33))).Most),iI v36,.agg (ag (⟨v35,v36⟩:aa))]++nu 11 [.ptr 11 0,.ptr 12 0]) [(11,am kz),(12,ag ct)] [] [stp Try.prog 204 Try.f18 p18_52 19,stp Try.prog 204 Try.f18 p18_52 20] (ax (vz 2) (d_v (bh am am h68 (c8) (fun _=>rfl)) (ax [.v 0 1,.v 0 2,.v 0 2] (av (k_v (lo:=0) (k:=2) (bn ⟨(by kernel_rfl),(bp (bh ag ag h69 (ce) (fun _=>rfl)) (by kernel_rfl))⟩ (bn ⟨(by kernel_rfl),(bp (bh ag ag h69 (ce) (fun _=>rfl)) (by kernel_rfl))⟩ bU))) (ax [.v 0 2,.v 0 2] (av (e_c 0 2 48 (fQ hK h70)) (ax [.v 0 2,.v 0 2] (av (k_v (lo:=0) (k:=2) (bn ⟨(by kernel_rfl),(bp (bh ag ag h71 (ce) (fun _=>rfl)) (by kernel_rfl))⟩ (bn ⟨(by kernel_rfl),(bp (bh ag ag h71 (ce) (fun _=>rfl)) (by kernel_rfl))⟩ bU))) (ax [.v 0 2,.v 0 2] (av (e_c 0 1 54 (fQ hK h72)) (ax [.v 0 2] (av (e_a 0 1 30 11 (am kz)) (av (e_a 0 1 36 12 (ag ct)) (av (e_d 0) (av (e_d 1) bq))))))))))))))) ?_
   obtain ⟨v37,h73,h⟩:=bind_some h
   have h73:=Option.some.inj h73
   refine bd (ks':=[ai p18_54,ai p18_55,.b 1,ai aZ,aV M w0 r m1,.b 0,ai aQ]) 1 ⟨[(0,.sl (lm am v1)),(1,.sl (lm ag v2)),(7,.ref 27),(11,.ptr 11 0),(12,.ptr 12 0),(33,.ref 1033),(34,iI (v5.length:Int)),(35,iI v33)],[(11,am v37),(12,ag (⟨v35,v36⟩:aa))],[(27,⟨36,2,lm ag v34⟩),(1033,⟨3,1,lm (eInt .i64) v5⟩)],[11,12,27,1033]⟩ ?_ (by subst h73; kernel_rfl)
   refine ap 8 ?_
   obtain ⟨h74,h⟩:=ak h
   refine ao (lf ag v34 v37.Col (w64 (v37.Col+v37.Cols)) 32 (.tmp 56) (some (.tmp 58)) (some (.tmp 63)) 64 (id:=27) (e:=36) (sz:=2) (et:=36) (by kernel_rfl) (by kernel_rfl) (by kernel_rfl) (by kernel_rfl) (by kernel_rfl) (by kernel_rfl) (by kernel_rfl) (fun k hk=>by subst hk; kernel_rfl) h74) (aj (ae (ks':=[ai p18_56,ai p18_57,.b 1,ai aZ,aV M w0 r m1,.b 0,ai aQ]) 3 ?_))
   rcases aq h with ⟨h75,h⟩ | ⟨h75,h⟩
   ·
    refine ah 67 h75 (ae (ks':=[ai p18_58,ai p18_59,ai p18_57,.b 1,ai aZ,aV M w0 r m1,.b 0,ai aQ]) 2 (bu [0,1,7,12,13,33,34,35] [12] [27,1033] ?_))
    obtain ⟨h76,h⟩:=ak h
    obtain ⟨h77,h⟩:=ak h
    obtain ⟨h78,h⟩:=ak h
    obtain ⟨h79,h⟩:=ak h
    exact bt 1 (nu 68 [.sref 27 2 ((v37.Col).toNat) (((w64 (v37.Col+v37.Cols))).toNat - (v37.Col).toNat),.sref 27 2 ((v37.Col).toNat) (((w64 (v37.Col+v37.Cols))).toNat - (v37.Col).toNat),.eptr 27 2 ((v37.Col).toNat+(0:Int).toNat) 0,.eptr 27 2 ((v37.Col).toNat+(0:Int).toNat) 0,iI ((List.getD v34 ((v37.Col).toNat+(0:Int).toNat) default).Least),.ptr 12 0,iI v35,iI (max ((List.getD v34 ((v37.Col).toNat+(0:Int).toNat) default).Least) v35),.sref 27 2 ((v37.Col).toNat) (((w64 (v37.Col+v37.Cols))).toNat - (v37.Col).toNat),.eptr 27 2 ((v37.Col).toNat+(0:Int).toNat) 0,.eptr 27 2 ((v37.Col).toNat+(0:Int).toNat) 1,iI ((List.getD v34 ((v37.Col).toNat+(0:Int).toNat) default).Most),.ptr 12 1,iI v36,iI (max ((List.getD v34 ((v37.Col).toNat+(0:Int).toNat) default).Most) v36),.agg (ag (⟨(max ((List.getD v34 ((v37.Col).toNat+(0:Int).toNat) default).Least) v35),(max ((List.getD v34 ((v37.Col).toNat+(0:Int).toNat) default).Most) v36)⟩:aa)),.eptr 27 2 ((v37.Col).toNat+(0:Int).toNat) 0]) [] [] [strS 27 ⟨36,2,lm ag (List.set v34 ((v37.Col).toNat+(0:Int).toNat) (⟨(max ((List.getD v34 ((v37.Col).toNat+(0:Int).toNat) default).Least) v35),(max ((List.getD v34 ((v37.Col).toNat+(0:Int).toNat) default).Most) v36)⟩:aa))⟩] (ax (vz 2) (d_v (y_ixv 27 2 (off:=(v37.Col).toNat) h76) (ax [.v 0 1] (d_v (aG 3 0 ag ag (of_decide_eq_true h77) (fun _=>rfl)) (ax (vz 4) (d_v (y_ixv 27 2 (off:=(v37.Col).toNat) h78) (ax [.v 0 1] (d_v (aG 3 1 ag ag (of_decide_eq_true h77) (fun _=>rfl)) (ax (vz 4) (d_v (y_ixv 27 2 (off:=(v37.Col).toNat) h79) (av (e_s (m:=0) (bi 27 36 2 0 ag ag (⟨(max ((List.getD v34 ((v37.Col).toNat+(0:Int).toNat) default).Least) v35),(max ((List.getD v34 ((v37.Col).toNat+(0:Int).toNat) default).Most) v36)⟩:aa) (of_decide_eq_true h77) (fun _=>rfl))) bq))))))))))) (af 3 (lY hK hL1 h))
   ·
    refine ah 67 h75 (ae (ks':=[ai p18_60,ai p18_61,.b 1,ai aZ,aV M w0 r m1,.b 0,ai aQ]) 3 (bu [0,1,7,11,12,13,33,34,35] [11,12] [27,1033] ?_))
    obtain ⟨h80,h⟩:=ak h
    obtain ⟨h81,h⟩:=ak h
    exact bt 2 (nu 85 [.ptr 11 3,iI v37.Cols,.ref 87,.ptr 11 3,iI v37.Cols,.ref 90]) [] [(87,⟨3,1,lm (eInt .i64) (List.replicate (v37.Cols).toNat (0:Int))⟩),(90,⟨3,1,lm (eInt .i64) (List.replicate (v37.Cols).toNat (0:Int))⟩)] [stp Try.prog 204 Try.f18 p18_60 6,stp Try.prog 204 Try.f18 p18_60 7] (ax (vz 2) (av (e_m (eInt .i64) (0:Int) 0 1 33 (.tmp 86) (.tmp 86) 87 3 1 8 v37.Cols .i64 .i64 [iI 0] h80) (ax [.v 0 2,.v 0 2] (av (e_m (eInt .i64) (0:Int) 0 2 33 (.tmp 89) (.tmp 89) 90 3 1 8 v37.Cols .i64 .i64 [iI 0] h81) (av (e_d 0) (av (e_d 1) bq)))))) (ae (ks':=[ai p18_62,ai p18_63,ai ex,.b 1,ai aZ,aV M w0 r m1,.b 0,ai aQ]) 2 (ap 1 (ao (y_lnv (m:=(((w64 (v37.Col+v37.Cols))).toNat - (v37.Col).toNat))) (aj (af 1 (aM (p:=p18_64) n (mN hK hL1 n h)))))))
  ·
   exact ah 36 h66 (ae (ks':=[ai p18_65,ai p18_66,ai fK]) 7 (ap 1 (ao (aK ag v34) (aj (af 1 (aM (p:=p18_67) n (nW hK n h)))))))
theorem mL (hK:KnOk K) (m:Nat):cq M w0 r v1 v2 v5 m (eM K n v1 v2 v5 m):=by
  induction m with
 | zero=>intro v33 v34 h; cases h
 | succ m ih=>intro v33 v34 h; have h:jo K n v1 v2 v5 (eM K n v1 v2 v5 m) v33 v34=some r:=h; exact aL (nk hK ih h)
theorem my (hK:KnOk K) (h:hH K n v1 v2 v3=some r):ACalls Try.prog 18 [.sl (lm am v1),.sl (lm ag v2),iI v3] (fun v s=>v = .ref 27∧look 27 s.r=some ⟨36,2,lm ag r⟩):=by
  refine br (cat Try.f18 []) Try.func18 Try.ntmps18 fun M w0=>(aY ⟨[(0,.sl (lm am v1)),(1,.sl (lm ag v2)),(2,iI v3)],[],[],[]⟩ ?_)
  unfold hH at h
  refine ae (ks':=[ai [1,1,0],ai [1,1,1]]) 5 (ap 1 ?_)
  obtain ⟨h1,h⟩:=ak h
  refine cm ag (ct:aa) 32 (.tmp 26) (.tmp 26) 27 (e:=36) (sz:=2) (zc:=ag ct) (kd:=.i64) (kd':=.i64) h1 (aj ?_)
  obtain ⟨v4,h2,h⟩:=bind_some h
  have h2:=Option.some.inj h2
  refine bd (ks':=[ai p18_68,ai p18_69]) 1 ⟨[(0,.sl (lm am v1)),(1,.sl (lm ag v2)),(5,.ptr 5 0),(7,.ref 27)],[(5,[iI (max v3 0)])],[(27,⟨36,2,lm ag v4⟩)],[5,27]⟩ ?_ (by subst h2; kernel_rfl)
  refine ap 0 (ot_fo 5 5 ([iI (max v3 0)]) (ot_mf 36 #[(.tmp 5)] [.cptr ([iI (max v3 0)])] (aj (ae (ks':=[ai p18_70,ai p18_71,ai aQ]) 2 (ap 2 (ao (aK ag v2) (aH 4 1 ?_)))))))
  obtain ⟨v5,h3,h⟩:=bind_some h
  exact d5 1033 (mW hK h3) (d4 50) (ao (aK (eInt .i64) v5) (aj (af 1 (aM (p:=p18_72) n (mL hK n h)))))
end
noncomputable section
variable {K:Kn} {n:Nat} {M:Nat→Prop} {w0:Base} {r v1:Int} 
theorem km (hK:KnOk K) (h:eS K n v1=some r):ACalls Try.prog 29 [iI v1] (fun v _=>v=iI r):=by
  refine br (cat Try.f29 []) Try.func29 Try.ntmps29 fun M w0=>(aY ⟨[(0,iI v1)],[],[],[]⟩ ?_)
  unfold eS at h
  refine aJ 5 ?_
  cases h
  exact bo
end
noncomputable section
abbrev cx35 (M:Nat→Prop) (w0:Base):Cx:=⟨Try.prog,25,M,w0⟩
abbrev q35 (M:Nat→Prop) (w0:Base) (r:Bool):=bodyPost Try.prog Try.f35 (RetQ M w0 (fun v _=>v = .bool r))
def s35_j1 (v4:Bool):AS:=⟨[(6,.bool v4)],[],[],[]⟩
variable {K:Kn} {n:Nat} {M:Nat→Prop} {w0:Base} {r:Bool} {v1 v2 v3:Int} {v4:Bool} 
abbrev cF35 (p:List Nat):Kont:=.c (cat Try.f35 p)
theorem j5 (hK:KnOk K) (h:ey K n v4=some r):VE (cx35 M w0) (q35 M w0 r) [cF35 [1,1]] .normal (s35_j1 v4):=by
  unfold ey at h
  refine aJ 1 ?_
  cases h
  exact bo
theorem nf (hK:KnOk K) (h:g9 K n v1 v2 v3=some r):ACalls Try.prog 35 [iI v1,iI v2,iI v3] (fun v _=>v = .bool r):=by
  refine br (cat Try.f35 []) Try.func35 Try.ntmps35 fun M w0=>(aY ⟨[(0,iI v1),(1,iI v2),(2,iI v3)],[],[],[]⟩ ?_)
  unfold g9 at h
  refine ae (ks':=[cF35 [1,0],cF35 [1,1]]) 3 (ap 3 ?_)
  rcases aq h with ⟨h1,h⟩ | ⟨h1,h⟩
  ·
   refine aE 9 h1 (aH 7 4 ?_)
   rcases aq h with ⟨h2,h⟩ | ⟨h2,h⟩
   ·
    refine aE 13 h2 (aH 12 5 ?_)
    rcases aq h with ⟨h3,h⟩ | ⟨h3,h⟩
    ·
     exact aE 18 h3 (aj (af 0 (j5 hK h)))
    ·
     exact aE 18 h3 (aj (af 0 (j5 hK h)))
   ·
    exact aE 13 h2 (aj (af 0 (j5 hK h)))
  ·
   exact aE 9 h1 (aj (af 0 (j5 hK h)))
end
noncomputable section
variable {K:Kn} {n:Nat} {M:Nat→Prop} {w0:Base} {r v1 v2:Int} 
theorem lg (hK:KnOk K) (h:dY K n v1 v2=some r):ACalls Try.prog 64 [iI v1,iI v2] (fun v _=>v=iI r):=by
  refine br (cat Try.f64 []) Try.func64 Try.ntmps64 fun M w0=>(aY ⟨[(0,iI v1),(1,iI v2)],[],[],[]⟩ ?_)
  unfold dY at h
  refine aJ 5 ?_
  cases h
  exact bo
end
def cj:=pth 10 1
def p30_1:=pth 9 1000
def dz:=pth 9 1
def p30_3:=pth 8 10100
def p30_4:=pth 0 11111
def p30_5:=pth 0 11110100
def eT:=pth 9 10001011
def p30_7:=pth 9 10001010100
def p30_8:=pth 9 1000101010011
def p30_9:=pth 9 1000101010000
def p30_10:=pth 9 1000101010001
def p30_11:=pth 9 100010101001
def p30_12:=pth 9 100010101001000
def p30_13:=pth 9 100010101001001
def p30_14:=pth 9 100010110
def p30_15:=pth 9 100010111
def p30_16:=pth 9 1000101110
def p30_17:=pth 9 1000101111
def p30_18:=pth 9 100001
def p30_19:=pth 9 10001
def p30_20:=pth 9 1000101010
def p30_21:=pth 8 1010000
def p30_22:=pth 8 1010001
def p30_23:=pth 8 101001
def p30_24:=pth 8 101001000
def p30_25:=pth 8 101001001
def p30_26:=pth 8 1010011
def p30_27:=pth 8 1010010010
def p30_28:=pth 8 1010010011
def p30_29:=pth 8 10100100110
def p30_30:=pth 8 10100100111
def p30_31:=pth 9 100
def p30_32:=pth 0 1111010000
def p30_33:=pth 0 1111010001
def p30_34:=pth 0 111101001
def p30_35:=pth 0 11110100100
def p30_36:=pth 0 1111010011
def p30_37:=pth 0 111110
def p30_38:=pth 5 1
def p30_39:=pth 5 10
def p30_40:=pth 6 1
def p30_41:=pth 6 101
def p30_42:=pth 7 1
def p30_43:=pth 8 1010
def p30_44:=pth 0 1111010
noncomputable section
abbrev cp (M:Nat→Prop) (w0:Base):Cx:=⟨Try.prog,100,M,w0⟩
abbrev q30 (M:Nat→Prop) (w0:Base) (r:List Int):=bodyPost Try.prog Try.f30 (RetQ M w0 (fun v s=>v = .ref 31∧look 31 s.r=some ⟨3,1,lm (eInt .i64) r⟩))
abbrev aA (p:List Nat):Kont:=.c (cat Try.f30 p)
abbrev cE (M:Nat→Prop) (w0:Base) (r:List Int) (m3:Nat):Kont:=kl (cp M w0) (q30 M w0 r) [.b 4,aA cj] (cat Try.f30 p30_1) m3
abbrev fY (M:Nat→Prop) (w0:Base) (r:List Int) (m2:Nat):Kont:=kl (cp M w0) (q30 M w0 r) [.b 2,aA dz] (cat Try.f30 p30_3) m2
abbrev k30_1 (M:Nat→Prop) (w0:Base) (r:List Int) (m1:Nat):Kont:=kl (cp M w0) (q30 M w0 r) [.b 0,aA p30_4] (cat Try.f30 p30_5) m1
abbrev k30_4 (M:Nat→Prop) (w0:Base) (r:List Int) (m3 m4:Nat):Kont:=kl (cp M w0) (q30 M w0 r) [.b 6,aA eT,.b 5,cE M w0 r m3,.b 4,aA cj] (cat Try.f30 p30_7) m4
def s30_j3 (v27:Int) (v28 v29:List Int) (v33 v35:Int):AS:=⟨[(7,.ref 31),(8,.ref 34),(9,iI v27),(12,iI v35),(13,iI v33)],[],[(31,⟨3,1,lm (eInt .i64) v28⟩),(34,⟨3,1,lm (eInt .i64) v29⟩)],[31,34]⟩
def s30_l4 (v27:Int) (v28 v29:List Int) (v32 v33:Int):AS:=⟨[(7,.ref 31),(8,.ref 34),(9,iI v27),(12,iI v32),(13,iI v33)],[],[(31,⟨3,1,lm (eInt .i64) v28⟩),(34,⟨3,1,lm (eInt .i64) v29⟩)],[31,34]⟩
def s30_l5 (v27:Int) (v28 v29:List Int):AS:=⟨[(7,.ref 31),(8,.ref 34),(9,iI v27)],[],[(31,⟨3,1,lm (eInt .i64) v28⟩),(34,⟨3,1,lm (eInt .i64) v29⟩)],[31,34]⟩
def s30_l2 (v2:List Int) (v3 v5 v13 v14:Int) (v15 v16:List Int):AS:=⟨[(0,iI v3),(1,.sl (lm (eInt .i64) v2)),(5,iI v5),(7,.ref 31),(8,.ref 34),(9,iI v13),(10,iI v14)],[],[(31,⟨3,1,lm (eInt .i64) v15⟩),(34,⟨3,1,lm (eInt .i64) v16⟩)],[31,34]⟩
def s30_l1 (v2:List Int) (v3 v5 v6:Int):AS:=⟨[(0,iI v3),(1,.sl (lm (eInt .i64) v2)),(5,iI v5),(6,iI v6)],[],[],[]⟩
abbrev H30_1 (M:Nat→Prop) (w0:Base) (r v2:List Int) (v3:Int) (m1:Nat) (L1:Int→Int→Option (List Int)):Prop:=∀ {v5:Int} {v6:Int},L1 v5 v6=some r→LP (cp M w0) (q30 M w0 r) [.b 0,aA p30_4] (cat Try.f30 p30_5) m1 (s30_l1 v2 v3 v5 v6)
abbrev H30_2 (M:Nat→Prop) (w0:Base) (r v2:List Int) (v3 v5:Int) (m2:Nat) (L2:Int→Int→(List Int)→(List Int)→Option (List Int)):Prop:=∀ {v13:Int} {v14:Int} {v15:(List Int)} {v16:(List Int)},L2 v13 v14 v15 v16=some r→LP (cp M w0) (q30 M w0 r) [.b 2,aA dz] (cat Try.f30 p30_3) m2 (s30_l2 v2 v3 v5 v13 v14 v15 v16)
abbrev H30_3 (M:Nat→Prop) (w0:Base) (r:List Int) (m3:Nat) (L3:Int→(List Int)→(List Int)→Option (List Int)):Prop:=∀ {v27:Int} {v28:(List Int)} {v29:(List Int)},L3 v27 v28 v29=some r→LP (cp M w0) (q30 M w0 r) [.b 4,aA cj] (cat Try.f30 p30_1) m3 (s30_l5 v27 v28 v29)
abbrev H30_4 (M:Nat→Prop) (w0:Base) (r:List Int) (v27:Int) (v28 v29:List Int) (m3 m4:Nat) (L4:Int→Int→Option (List Int)):Prop:=∀ {v32:Int} {v33:Int},L4 v32 v33=some r→LP (cp M w0) (q30 M w0 r) [.b 6,aA eT,.b 5,cE M w0 r m3,.b 4,aA cj] (cat Try.f30 p30_7) m4 (s30_l4 v27 v28 v29 v32 v33)
variable {K:Kn} {n:Nat} {M:Nat→Prop} {w0:Base} {r:List Int} {v1:Int} {v2:List Int} {v3 v5 v6 v13 v14:Int} {v15 v16:List Int} {v27:Int} {v28 v29:List Int} {v32 v33 v35:Int} {m1:Nat} {L1:Int→Int→Option (List Int)} {m2:Nat} {L2:Int→Int→(List Int)→(List Int)→Option (List Int)} {m3:Nat} {L3:Int→(List Int)→(List Int)→Option (List Int)} {m4:Nat} {L4:Int→Int→Option (List Int)}
theorem lO (hK:KnOk K) (hL3:H30_3 M w0 r m3 L3) (hL4:H30_4 M w0 r v27 v28 v29 m3 m4 L4) (h:gX K n v27 v28 v29 v33 L3 L4 v35=some r):VE (cp M w0) (q30 M w0 r) [.b 7,aA p30_8,k30_4 M w0 r m3 m4,.b 6,aA eT,.b 5,cE M w0 r m3,.b 4,aA cj] .normal (s30_j3 v27 v28 v29 v33 v35):=by
  unfold gX at h
  exact af 2 (aI (hL4 h))
theorem nZ (hK:KnOk K) (hL3:H30_3 M w0 r m3 L3) (hL4:H30_4 M w0 r v27 v28 v29 m3 m4 L4) (h:hE K n v27 v28 v29 L3 L4 v32 v33=some r):VE (cp M w0) (q30 M w0 r) [aA p30_7,k30_4 M w0 r m3 m4,.b 6,aA eT,.b 5,cE M w0 r m3,.b 4,aA cj] .normal (s30_l4 v27 v28 v29 v32 v33):=by
  unfold hE at h
  refine ae (ks':=[aA p30_9,aA p30_10,aA p30_11,k30_4 M w0 r m3 m4,.b 6,aA eT,.b 5,cE M w0 r m3,.b 4,aA cj]) 2 (ap 2 (ao (aK (eInt .i64) v29) (aj ?_)))
  rcases aq h with ⟨h54,h⟩ | ⟨h54,h⟩
  ·
   refine ah 75 h54 (ae (ks':=[aA p30_12,aA p30_13,.b 7,aA p30_8,k30_4 M w0 r m3 m4,.b 6,aA eT,.b 5,cE M w0 r m3,.b 4,aA cj]) 5 (bu [7,8,9,12,13] [] [31,34] ?_))
   obtain ⟨h55,h⟩:=ak h
   obtain ⟨h56,h⟩:=ak h
   refine bt 0 (nu 78 [.ref 34,iI v33,.eptr 34 1 (v33.toNat) 0,iI (gD v29 v33),.ref 34,iI v32,.eptr 34 1 (v32.toNat) 0,iI (gD v29 v32),.bool (decide ((gD v29 v33)>(gD v29 v32)))]) [] [] [] (ax (vz 2) (d_v (aD 34 1 (eInt .i64) (L:=v29) h55) (d_v (aG 3 0 (eInt .i64) (eInt .i64) (ay h55).2 (fun _=>rfl)) (ax (vz 2) (d_v (aD 34 1 (eInt .i64) (L:=v29) h56) (d_v (aG 3 0 (eInt .i64) (eInt .i64) (ay h56).2 (fun _=>rfl)) (ax [.v 0 1] bq))))))) ?_
   obtain ⟨v34,h57,h⟩:=bind_some h
   have h57:=Option.some.inj h57
   refine bd (ks':=[aA p30_13,.b 7,aA p30_8,k30_4 M w0 r m3 m4,.b 6,aA eT,.b 5,cE M w0 r m3,.b 4,aA cj]) 0 ⟨[(7,.ref 31),(8,.ref 34),(9,iI v27),(12,iI v32),(13,iI v33),(86,.bool v34)],[],[(31,⟨3,1,lm (eInt .i64) v28⟩),(34,⟨3,1,lm (eInt .i64) v29⟩)],[31,34]⟩ ?_ (by subst h57; kernel_rfl)
   rcases aq h with ⟨h58,h⟩ | ⟨h58,h⟩
   ·
    exact ah 86 h58 (af 2 (lO hK hL3 hL4 h))
   ·
    exact ah 86 h58 (af 2 (lO hK hL3 hL4 h))
  ·
   refine ah 75 h54 (ae (ks':=[aA p30_14,aA p30_15,.b 5,cE M w0 r m3,.b 4,aA cj]) 6 (ap 2 ?_))
   obtain ⟨h59,h⟩:=ak h
   refine ao (bf 31 1 (eInt .i64) h59) (ao (aG 3 0 (eInt .i64) (eInt .i64) (ay h59).2 (fun _=>rfl)) (aH 5 1 ?_))
   obtain ⟨h60,h⟩:=ak h
   refine ao (bf 31 1 (eInt .i64) h60) (ao (bi 31 3 1 0 (eInt .i64) (eInt .i64) (w64 ((gD v28 v32)+1)) (ay h60).2 (fun _=>rfl)) (aj ?_))
   obtain ⟨v36,h61,h⟩:=bind_some h
   have h61:=Option.some.inj h61
   refine bd (ks':=[aA p30_16,aA p30_17,.b 5,cE M w0 r m3,.b 4,aA cj]) 1 ⟨[(7,.ref 31),(8,.ref 34),(9,iI v27),(12,iI v32)],[],[(31,⟨3,1,lm (eInt .i64) v36⟩),(34,⟨3,1,lm (eInt .i64) v29⟩)],[31,34]⟩ ?_ (by subst h61; kernel_rfl)
   refine ap 2 ?_
   obtain ⟨h62,h⟩:=ak h
   exact ao (bf 34 1 (eInt .i64) h62) (ao (bi 34 3 1 0 (eInt .i64) (eInt .i64) (-1) (ay h62).2 (fun _=>rfl)) (aj (af 2 (aI (hL3 h)))))
theorem mz (hK:KnOk K) (hL3:H30_3 M w0 r m3 L3) (m:Nat):H30_4 M w0 r v27 v28 v29 m3 m (gi K n v27 v28 v29 L3 m):=by
  induction m with
 | zero=>intro v32 v33 h; cases h
 | succ m ih=>intro v32 v33 h; have h:hE K n v27 v28 v29 L3 (gi K n v27 v28 v29 L3 m) v32 v33=some r:=h; exact aL (nZ hK hL3 ih h)
theorem mQ (hK:KnOk K) (hL3:H30_3 M w0 r m3 L3) (h:ia K n L3 v27 v28 v29=some r):VE (cp M w0) (q30 M w0 r) [aA p30_1,cE M w0 r m3,.b 4,aA cj] .normal (s30_l5 v27 v28 v29):=by
  unfold ia at h
  refine ae (ks':=[aA p30_18,aA p30_19,cE M w0 r m3,.b 4,aA cj]) 3 ?_
  rcases aq h with ⟨h48,h⟩ | ⟨h48,h⟩
  ·
   exact ah 71 h48 (af 9 (aM (p:=p30_20) n (mz hK hL3 n h)))
  ·
   refine ah 71 h48 (aJ 8 ?_)
   cases h
   exact cG
theorem ni (hK:KnOk K) (m:Nat):H30_3 M w0 r m (dv K n m):=by
  induction m with
 | zero=>intro v27 v28 v29 h; cases h
 | succ m ih=>intro v27 v28 v29 h; have h:ia K n (dv K n m) v27 v28 v29=some r:=h; exact aL (mQ hK ih h)
theorem nS (hK:KnOk K) (hL2:H30_2 M w0 r v2 v3 v5 m2 L2) (h:ip K n v2 v3 v5 L2 v13 v14 v15 v16=some r):VE (cp M w0) (q30 M w0 r) [aA p30_3,fY M w0 r m2,.b 2,aA dz] .normal (s30_l2 v2 v3 v5 v13 v14 v15 v16):=by
  unfold ip at h
  refine ae (ks':=[aA p30_21,aA p30_22,aA p30_23,fY M w0 r m2,.b 2,aA dz]) 2 (ap 2 (ao (aK (eInt .i64) v2) (aj ?_)))
  rcases aq h with ⟨h23,h⟩ | ⟨h23,h⟩
  ·
   refine ah 42 h23 (ae (ks':=[aA p30_24,aA p30_25,.b 3,aA p30_26,fY M w0 r m2,.b 2,aA dz]) 5 (ap 3 ?_))
   obtain ⟨h24,h⟩:=ak h
   refine ao (bh (eInt .i64) (eInt .i64) h24 (fun _=>rfl) (fun _=>rfl)) (aH 5 1 ?_)
   obtain ⟨v17,h25,h⟩:=bind_some h
   refine bI (lg hK h25) (aj (ae (ks':=[aA p30_27,aA p30_28,.b 3,aA p30_26,fY M w0 r m2,.b 2,aA dz]) 1 (ap 4 ?_)))
   obtain ⟨h26,h⟩:=ak h
   refine ao (y_quo .i64 (w64 (v3*v17)) h26) ?_
   obtain ⟨h27,h⟩:=ak h
   refine ao (bf 31 1 (eInt .i64) h27) (ao (bi 31 3 1 0 (eInt .i64) (eInt .i64) (w64 (Int.tdiv (w64 (v3*v17)) v5)) (ay h27).2 (fun _=>rfl)) (aj ?_))
   obtain ⟨v18,h28,h⟩:=bind_some h
   have h28:=Option.some.inj h28
   refine bd (ks':=[aA p30_29,aA p30_30,.b 3,aA p30_26,fY M w0 r m2,.b 2,aA dz]) 1 ⟨[(0,iI v3),(1,.sl (lm (eInt .i64) v2)),(5,iI v5),(7,.ref 31),(8,.ref 34),(9,iI v13),(10,iI v14),(11,iI (w64 (v3*v17)))],[],[(31,⟨3,1,lm (eInt .i64) v18⟩),(34,⟨3,1,lm (eInt .i64) v16⟩)],[31,34]⟩ ?_ (by subst h28; kernel_rfl)
   refine ap 4 ?_
   obtain ⟨h29,h⟩:=ak h
   refine ao (y_rem .i64 (w64 (v3*v17)) h29) ?_
   obtain ⟨h30,h⟩:=ak h
   refine ao (bf 34 1 (eInt .i64) h30) (ao (bi 34 3 1 0 (eInt .i64) (eInt .i64) (Int.tmod (w64 (v3*v17)) v5) (ay h30).2 (fun _=>rfl)) (aj ?_))
   obtain ⟨v19,h31,h⟩:=bind_some h
   have h31:=Option.some.inj h31
   refine bd (ks':=[aA p30_30,.b 3,aA p30_26,fY M w0 r m2,.b 2,aA dz]) 0 ⟨[(0,iI v3),(1,.sl (lm (eInt .i64) v2)),(5,iI v5),(7,.ref 31),(8,.ref 34),(9,iI v13),(10,iI v14)],[],[(31,⟨3,1,lm (eInt .i64) v18⟩),(34,⟨3,1,lm (eInt .i64) v19⟩)],[31,34]⟩ ?_ (by subst h31; kernel_rfl)
   refine ap 3 ?_
   obtain ⟨h32,h⟩:=ak h
   exact ao (bf 31 1 (eInt .i64) h32) (ao (aG 3 0 (eInt .i64) (eInt .i64) (ay h32).2 (fun _=>rfl)) (aj (af 2 (aI (hL2 h)))))
  ·
   exact ah 42 h23 (af 7 (aM (p:=p30_31) n (ni hK n h)))
theorem m0 (hK:KnOk K) (m:Nat):H30_2 M w0 r v2 v3 v5 m (e9 K n v2 v3 v5 m):=by
  induction m with
 | zero=>intro v13 v14 v15 v16 h; cases h
 | succ m ih=>intro v13 v14 v15 v16 h; have h:ip K n v2 v3 v5 (e9 K n v2 v3 v5 m) v13 v14 v15 v16=some r:=h; exact aL (nS hK ih h)
theorem mY (hK:KnOk K) (hL1:H30_1 M w0 r v2 v3 m1 L1) (h:js K n v2 v3 L1 v5 v6=some r):VE (cp M w0) (q30 M w0 r) [aA p30_5,k30_1 M w0 r m1,.b 0,aA p30_4] .normal (s30_l1 v2 v3 v5 v6):=by
  unfold js at h
  refine ae (ks':=[aA p30_32,aA p30_33,aA p30_34,k30_1 M w0 r m1,.b 0,aA p30_4]) 2 (ap 2 (ao (aK (eInt .i64) v2) (aj ?_)))
  rcases aq h with ⟨h5,h⟩ | ⟨h5,h⟩
  ·
   refine ah 19 h5 (ae (ks':=[aA p30_35,.b 1,aA p30_36,k30_1 M w0 r m1,.b 0,aA p30_4]) 4 (ap 3 ?_))
   obtain ⟨h6,h⟩:=ak h
   refine ao (bh (eInt .i64) (eInt .i64) h6 (fun _=>rfl) (fun _=>rfl)) (aH 5 1 ?_)
   obtain ⟨v7,h7,h⟩:=bind_some h
   exact bI (lg hK h7) (aj (af 2 (aI (hL1 h))))
  ·
   refine ah 19 h5 (ae (ks':=[aA p30_37,aA p30_38]) 6 (ap 1 (ao (aK (eInt .i64) v2) ?_)))
   obtain ⟨h8,h⟩:=ak h
   refine cm (eInt .i64) (0:Int) 33 (.tmp 30) (.tmp 30) 31 (e:=3) (sz:=1) (zc:=[iI 0]) (kd:=.i64) (kd':=.i64) h8 (aj ?_)
   obtain ⟨v8,h9,h⟩:=bind_some h
   have h9:=Option.some.inj h9
   refine bd (ks':=[aA p30_39,aA p30_40]) 1 ⟨[(0,iI v3),(1,.sl (lm (eInt .i64) v2)),(5,iI v5),(7,.ref 31)],[],[(31,⟨3,1,lm (eInt .i64) v8⟩)],[31]⟩ ?_ (by subst h9; kernel_rfl)
   refine ap 1 (ao (aK (eInt .i64) v2) ?_)
   obtain ⟨h10,h⟩:=ak h
   refine cm (eInt .i64) (0:Int) 33 (.tmp 33) (.tmp 33) 34 (e:=3) (sz:=1) (zc:=[iI 0]) (kd:=.i64) (kd':=.i64) h10 (aj ?_)
   obtain ⟨v9,h11,h⟩:=bind_some h
   have h11:=Option.some.inj h11
   refine bd (ks':=[aA p30_41,aA p30_42]) 3 ⟨[(0,iI v3),(1,.sl (lm (eInt .i64) v2)),(5,iI v5),(7,.ref 31),(8,.ref 34),(36,.bool (v5 == 0))],[],[(31,⟨3,1,lm (eInt .i64) v8⟩),(34,⟨3,1,lm (eInt .i64) v9⟩)],[31,34]⟩ ?_ (by subst h11; kernel_rfl)
   rcases aq h with ⟨h12,h⟩ | ⟨h12,h⟩
   ·
    refine ah 36 h12 (aJ 5 ?_)
    cases h
    exact cG
   ·
    exact ah 36 h12 (af 8 (aM (p:=p30_43) n (m0 hK n h)))
theorem nJ (hK:KnOk K) (m:Nat):H30_1 M w0 r v2 v3 m (gk K n v2 v3 m):=by
  induction m with
 | zero=>intro v5 v6 h; cases h
 | succ m ih=>intro v5 v6 h; have h:js K n v2 v3 (gk K n v2 v3 m) v5 v6=some r:=h; exact aL (mY hK ih h)
theorem mZ (hK:KnOk K) (h:gK K n v1 v2=some r):ACalls Try.prog 30 [iI v1,.sl (lm (eInt .i64) v2)] (fun v s=>v = .ref 31∧look 31 s.r=some ⟨3,1,lm (eInt .i64) r⟩):=by
  refine br (cat Try.f30 []) Try.func30 Try.ntmps30 fun M w0=>(aY ⟨[(0,iI v1),(1,.sl (lm (eInt .i64) v2))],[],[],[]⟩ ?_)
  unfold gK at h
  refine ae (ks':=[aA [1,0],aA [1,1]]) 3 (ap 1 ?_)
  obtain ⟨v3,h1,h⟩:=bind_some h
  exact bI (lg hK h1) (aj (af 6 (aM (p:=p30_44) n (nJ hK n h))))
end
def p38_0:=pth 8 100
def dX:=pth 6 1
def p38_2:=pth 5 10100
def p38_3:=pth 0 1110100
def p38_4:=pth 0 111010011
def p38_5:=pth 5 1010010011
def p38_6:=pth 5 1010011
def p38_7:=pth 8 10001
def p38_8:=pth 8 1001
def p38_9:=pth 8 100100
def p38_10:=pth 8 10011
def p38_11:=pth 5 1010001
def p38_12:=pth 5 101001
def p38_13:=pth 5 101001000
def p38_14:=pth 5 101001001
def p38_15:=pth 5 10100100101
def p38_16:=pth 6 10
def p38_17:=pth 7 1
def p38_18:=pth 8 10
def p38_19:=pth 0 111010001
def p38_20:=pth 0 11101001
def p38_21:=pth 0 11101001000
def p38_22:=pth 0 11101001001
def p38_23:=pth 0 111010010010
def p38_24:=pth 0 111010010011
def p38_25:=pth 0 111101
def p38_26:=pth 0 11111
def p38_27:=pth 5 1010
def p38_28:=pth 0 111010
noncomputable section
abbrev cH (M:Nat→Prop) (w0:Base):Cx:=⟨Try.prog,76,M,w0⟩
abbrev q38 (M:Nat→Prop) (w0:Base) (r:List Int):=bodyPost Try.prog Try.f38 (RetQ M w0 (fun v s=>v = .tup []∧look 0 s.r=some ⟨3,1,lm (eInt .i64) r⟩))
abbrev k38_3 (M:Nat→Prop) (w0:Base) (r:List Int) (m3:Nat):Kont:=kl (cH M w0) (q38 M w0 r) [.b 4] (cat Try.f38 p38_0) m3
abbrev aO (p:List Nat):Kont:=.c (cat Try.f38 p)
abbrev k38_2 (M:Nat→Prop) (w0:Base) (r:List Int) (m2:Nat):Kont:=kl (cH M w0) (q38 M w0 r) [.b 2,aO dX] (cat Try.f38 p38_2) m2
abbrev k38_1 (M:Nat→Prop) (w0:Base) (r:List Int) (m1:Nat):Kont:=kl (cH M w0) (q38 M w0 r) [.b 0,aO [1,1,1]] (cat Try.f38 p38_3) m1
def s38_j1 (v1:List Int) (v2 v3:Int) (v5:List Int) (v10 v11:Int) (v12:Bool):AS:=⟨[(0,.ref 0),(1,iI v2),(2,iI v3),(4,.sl (lm (eInt .i64) v5)),(10,iI v11),(11,.bool v12),(12,iI v10)],[],[(0,⟨3,1,lm (eInt .i64) v1⟩)],[0,1000000,0]⟩
def s38_j3 (v1:List Int) (v2 v3:Int) (v5:List Int) (v8:Int) (v9:Bool) (v15:Int) (v16:List Int) (v17:Int):AS:=⟨[(0,.ref 0),(1,iI v2),(2,iI v3),(4,.sl (lm (eInt .i64) v5)),(10,iI v8),(11,.bool v9),(13,.ref 55),(14,iI v15),(15,iI v17)],[],[(0,⟨3,1,lm (eInt .i64) v1⟩),(55,⟨3,1,lm (eInt .i64) v16⟩)],[0,55,1000000,0]⟩
def s38_l5 (v2 v3:Int) (v18:List Int) (v19:Int) (v20:List Int):AS:=⟨[(0,.ref 0),(1,iI v2),(2,iI v3),(13,.ref 1058),(16,iI v19)],[],[(0,⟨3,1,lm (eInt .i64) v20⟩),(1058,⟨3,1,lm (eInt .i64) v18⟩)],[0,1058,1000000,0]⟩
def s38_l4 (v1:List Int) (v2 v3:Int) (v5:List Int) (v8:Int) (v9:Bool) (v15:Int) (v16:List Int):AS:=⟨[(0,.ref 0),(1,iI v2),(2,iI v3),(4,.sl (lm (eInt .i64) v5)),(10,iI v8),(11,.bool v9),(13,.ref 55),(14,iI v15)],[],[(0,⟨3,1,lm (eInt .i64) v1⟩),(55,⟨3,1,lm (eInt .i64) v16⟩)],[0,55,1000000,0]⟩
def s38_l2 (v1:List Int) (v2 v3:Int) (v5:List Int) (v8:Int) (v9:Bool) (v10:Int):AS:=⟨[(0,.ref 0),(1,iI v2),(2,iI v3),(4,.sl (lm (eInt .i64) v5)),(10,iI v8),(11,.bool v9),(12,iI v10)],[],[(0,⟨3,1,lm (eInt .i64) v1⟩)],[0,1000000,0]⟩
abbrev H38_1 (M:Nat→Prop) (w0:Base) (r v1:List Int) (v2 v3:Int) (v5:List Int) (m1:Nat) (L1:Int→Bool→Int→Option (List Int)):Prop:=∀ {v8:Int} {v9:Bool} {v10:Int},L1 v8 v9 v10=some r→LP (cH M w0) (q38 M w0 r) [.b 0,aO [1,1,1]] (cat Try.f38 p38_3) m1 (s38_l2 v1 v2 v3 v5 v8 v9 v10)
abbrev H38_2 (M:Nat→Prop) (w0:Base) (r v1:List Int) (v2 v3:Int) (v5:List Int) (v8:Int) (v9:Bool) (m2:Nat) (L2:Int→(List Int)→Option (List Int)):Prop:=∀ {v15:Int} {v16:(List Int)},L2 v15 v16=some r→LP (cH M w0) (q38 M w0 r) [.b 2,aO dX] (cat Try.f38 p38_2) m2 (s38_l4 v1 v2 v3 v5 v8 v9 v15 v16)
abbrev H38_3 (M:Nat→Prop) (w0:Base) (r:List Int) (v2 v3:Int) (v18:List Int) (m3:Nat) (L3:Int→(List Int)→Option (List Int)):Prop:=∀ {v19:Int} {v20:(List Int)},L3 v19 v20=some r→LP (cH M w0) (q38 M w0 r) [.b 4] (cat Try.f38 p38_0) m3 (s38_l5 v2 v3 v18 v19 v20)
variable {K:Kn} {n:Nat} {M:Nat→Prop} {w0:Base} {r v1:List Int} {v2 v3 v4:Int} {v5:List Int} {v8:Int} {v9:Bool} {v10 v11:Int} {v12:Bool} {v15:Int} {v16:List Int} {v17:Int} {v18:List Int} {v19:Int} {v20:List Int} {m1:Nat} {L1:Int→Bool→Int→Option (List Int)} {m2:Nat} {L2:Int→(List Int)→Option (List Int)} {m3:Nat} {L3:Int→(List Int)→Option (List Int)}
theorem lM (hK:KnOk K) (hL1:H38_1 M w0 r v1 v2 v3 v5 m1 L1) (h:jm K n v1 v2 v3 v5 v10 v11 L1 v12=some r):VE (cH M w0) (q38 M w0 r) [.b 1,aO p38_4,k38_1 M w0 r m1,.b 0,aO [1,1,1]] .normal (s38_j1 v1 v2 v3 v5 v10 v11 v12):=by
  unfold jm at h
  exact af 2 (aI (hL1 h))
theorem lS (hK:KnOk K) (hL2:H38_2 M w0 r v1 v2 v3 v5 v8 v9 m2 L2) (h:gf K n v1 v2 v3 v5 v8 v9 v15 v16 L2 v17=some r):VE (cH M w0) (q38 M w0 r) [aO p38_5,.b 3,aO p38_6,k38_2 M w0 r m2,.b 2,aO dX] .normal (s38_j3 v1 v2 v3 v5 v8 v9 v15 v16 v17):=by
  unfold gf at h
  refine ap 3 ?_
  obtain ⟨h23,h⟩:=ak h
  exact ao (y_app 55 55 3 1 (eInt .i64) (rfl) (fun _=>rfl) h23) (aj (af 2 (aI (hL2 h))))
theorem oA (hK:KnOk K) (hL3:H38_3 M w0 r v2 v3 v18 m3 L3) (h:iD K n v2 v3 v18 L3 v19 v20=some r):VE (cH M w0) (q38 M w0 r) [aO p38_0,k38_3 M w0 r m3,.b 4] .normal (s38_l5 v2 v3 v18 v19 v20):=by
  unfold iD at h
  refine ae (ks':=[aO p38_7,aO p38_8,k38_3 M w0 r m3,.b 4]) 3 ?_
  rcases aq h with ⟨h29,h⟩ | ⟨h29,h⟩
  ·
   refine ah 61 h29 (ae (ks':=[aO p38_9,.b 5,aO p38_10,k38_3 M w0 r m3,.b 4]) 4 (bu [0,1,2,13,16] [] [0,1058] ?_))
   obtain ⟨h30,h⟩:=ak h
   obtain ⟨h31,h⟩:=ak h
   obtain ⟨h32,h⟩:=ak h
   exact bt 1 (nu 64 [.ref 0,iI v2,iI v19,iI (w64 (v2+v19)),.eptr 0 1 (((w64 (v2+v19))).toNat) 0,iI (gD v20 ((w64 (v2+v19)))),.ref 1058,iI v19,.eptr 1058 1 (v19.toNat) 0,iI (gD v18 v19),iI (w64 ((gD v20 ((w64 (v2+v19))))+(gD v18 v19))),.eptr 0 1 (((w64 (v2+v19))).toNat) 0]) [] [] [strS 0 ⟨3,1,lm (eInt .i64) (List.set v20 ((w64 (v2+v19))).toNat (w64 ((gD v20 ((w64 (v2+v19))))+(gD v18 v19))))⟩] (ax (vz 4) (d_v (aD 0 1 (eInt .i64) (L:=v20) h30) (d_v (aG 3 0 (eInt .i64) (eInt .i64) (ay h32).2 (fun _=>rfl)) (ax (vz 2) (d_v (aD 1058 1 (eInt .i64) (L:=v18) h31) (d_v (aG 3 0 (eInt .i64) (eInt .i64) (ay h31).2 (fun _=>rfl)) (ax [.v 0 1] (d_v (aD 0 1 (eInt .i64) (L:=v20) h32) (av (e_s (m:=0) (bi 0 3 1 0 (eInt .i64) (eInt .i64) (w64 ((gD v20 ((w64 (v2+v19))))+(gD v18 v19))) (ay h32).2 (fun _=>rfl))) bq))))))))) (af 2 (aI (hL3 h)))
  ·
   refine ah 61 h29 (ae (ks':=[]) 5 (eR ?_))
   cases h
   exact cI
theorem oo (hK:KnOk K) (m:Nat):H38_3 M w0 r v2 v3 v18 m (fB K n v2 v3 v18 m):=by
  induction m with
 | zero=>intro v19 v20 h; cases h
 | succ m ih=>intro v19 v20 h; have h:iD K n v2 v3 v18 (fB K n v2 v3 v18 m) v19 v20=some r:=h; exact aL (oA hK ih h)
theorem mo (hK:KnOk K) (hL2:H38_2 M w0 r v1 v2 v3 v5 v8 v9 m2 L2) (h:iw K n v1 v2 v3 v5 v8 v9 L2 v15 v16=some r):VE (cH M w0) (q38 M w0 r) [aO p38_2,k38_2 M w0 r m2,.b 2,aO dX] .normal (s38_l4 v1 v2 v3 v5 v8 v9 v15 v16):=by
  unfold iw at h
  refine ae (ks':=[aO p38_11,aO p38_12,k38_2 M w0 r m2,.b 2,aO dX]) 3 ?_
  rcases aq h with ⟨h20,h⟩ | ⟨h20,h⟩
  ·
   refine ah 44 h20 (ae (ks':=[aO p38_13,aO p38_14,.b 3,aO p38_6,k38_2 M w0 r m2,.b 2,aO dX]) 5 (ap 2 ?_))
   obtain ⟨h21,h⟩:=ak h
   refine ao (bh (eInt .i64) (eInt .i64) h21 (fun _=>rfl) (fun _=>rfl)) (aj (ae (ks':=[aO p38_15,aO p38_5,.b 3,aO p38_6,k38_2 M w0 r m2,.b 2,aO dX]) 3 ?_))
   rcases aq h with ⟨h22,h⟩ | ⟨h22,h⟩
   ·
    exact ah 51 h22 (af 2 (lS hK hL2 h))
   ·
    exact ah 51 h22 (af 2 (lS hK hL2 h))
  ·
   refine ah 44 h20 (ae (ks':=[aO p38_16,aO p38_17]) 6 (ap 2 (ot_f 55 ?_)))
   obtain ⟨v18,h24,h⟩:=bind_some h
   exact d5 1058 (mZ hK h24) (d4 31) (aj (af 3 (aM (p:=p38_18) n (oo hK n h))))
theorem nb (hK:KnOk K) (m:Nat):H38_2 M w0 r v1 v2 v3 v5 v8 v9 m (d8 K n v1 v2 v3 v5 v8 v9 m):=by
  induction m with
 | zero=>intro v15 v16 h; cases h
 | succ m ih=>intro v15 v16 h; have h:iw K n v1 v2 v3 v5 v8 v9 (d8 K n v1 v2 v3 v5 v8 v9 m) v15 v16=some r:=h; exact aL (mo hK ih h)
theorem ms (hK:KnOk K) (hL1:H38_1 M w0 r v1 v2 v3 v5 m1 L1) (h:jb K n v1 v2 v3 v5 L1 v8 v9 v10=some r):VE (cH M w0) (q38 M w0 r) [aO p38_3,k38_1 M w0 r m1,.b 0,aO [1,1,1]] .normal (s38_l2 v1 v2 v3 v5 v8 v9 v10):=by
  unfold jb at h
  refine ae (ks':=[aO p38_19,aO p38_20,k38_1 M w0 r m1,.b 0,aO [1,1,1]]) 3 ?_
  rcases aq h with ⟨h6,h⟩ | ⟨h6,h⟩
  ·
   refine ah 23 h6 (ae (ks':=[aO p38_21,aO p38_22,.b 1,aO p38_4,k38_1 M w0 r m1,.b 0,aO [1,1,1]]) 5 (ap 3 ?_))
   obtain ⟨h7,h⟩:=ak h
   refine ao (bf 0 1 (eInt .i64) h7) (ao (aG 3 0 (eInt .i64) (eInt .i64) (ay h7).2 (fun _=>rfl)) (aj ?_))
   obtain ⟨v11,h8,h⟩:=bind_some h
   have h8:=Option.some.inj h8
   refine bd (ks':=[aO p38_23,aO p38_24,.b 1,aO p38_4,k38_1 M w0 r m1,.b 0,aO [1,1,1]]) 1 ⟨[(0,.ref 0),(1,iI v2),(2,iI v3),(4,.sl (lm (eInt .i64) v5)),(10,iI v11),(11,.bool v9),(12,iI v10)],[],[(0,⟨3,1,lm (eInt .i64) v1⟩)],[0,1000000,0]⟩ ?_ (by subst h8; kernel_rfl)
   refine ap 2 ?_
   obtain ⟨h9,h⟩:=ak h
   refine ao (bh (eInt .i64) (eInt .i64) h9 (fun _=>rfl) (fun _=>rfl)) (aj ?_)
   rcases aq h with ⟨h10,h⟩ | ⟨h10,h⟩
   ·
    exact ah 36 h10 (af 2 (lM hK hL1 h))
   ·
    exact ah 36 h10 (af 2 (lM hK hL1 h))
  ·
   refine ah 23 h6 (ae (ks':=[aO p38_25,aO p38_26]) 8 ?_)
   rcases aq h with ⟨h11,h⟩ | ⟨h11,h⟩
   ·
    refine ah 38 h11 (aJ 3 ?_)
    cases h
    exact cI
   ·
    exact ah 38 h11 (ae (ks':=[aO p38_27,.b 2,aO dX]) 8 (bu [0,1,2,4,10,11,13,14] [] [0] (ve_w 55 13 3 1 (af 0 (aM (p:=p38_27) n (nb hK n h))))))
theorem mU (hK:KnOk K) (m:Nat):H38_1 M w0 r v1 v2 v3 v5 m (gg K n v1 v2 v3 v5 m):=by
  induction m with
 | zero=>intro v8 v9 v10 h; cases h
 | succ m ih=>intro v8 v9 v10 h; have h:jb K n v1 v2 v3 v5 (gg K n v1 v2 v3 v5 m) v8 v9 v10=some r:=h; exact aL (ms hK ih h)
theorem lv (hK:KnOk K) (h:jf K n v1 v2 v3 v4 v5=some r):AIO Try.prog 38 [.ref 0,iI v2,iI v3,iI v4,.sl (lm (eInt .i64) v5)] 0 ⟨3,1,lm (eInt .i64) v1⟩ (fun v s=>v = .tup []∧look 0 s.r=some ⟨3,1,lm (eInt .i64) r⟩):=by
  refine eX (c:=cat Try.f38 []) Try.func38 (by kernel_rfl) _ Try.ntmps38 (of_decide_eq_true (by kernel_rfl)) fun M w0=>(aY ⟨[(0,.ref 0),(1,iI v2),(2,iI v3),(3,iI v4),(4,.sl (lm (eInt .i64) v5))],[],[(0,⟨3,1,lm (eInt .i64) v1⟩)],[0,1000000]⟩ ?_)
  unfold jf at h
  exact af 8 (aM (p:=p38_28) n (mU hK n h))
end
def gt:=pth 7 1
def p19_1:=pth 6 10100
def bO:=pth 5 1
def p19_3:=pth 0 111110100
def cr:=pth 0 11111010011
def p19_5:=pth 0 111110100100100
def dF:=pth 0 11111010010010011
def p19_7:=pth 0 111110100100100100101
def p19_8:=pth 0 11111010010010010011
def p19_9:=pth 0 1111101001001001001101
def p19_10:=pth 0 111110100100100100111
def p19_11:=pth 0 111110100100100100110100
def p19_12:=pth 0 111110100100100100110101
def p19_13:=pth 0 1111101001001001001101010
def p19_14:=pth 0 1111101001001001001101011
def p19_15:=pth 0 1111101001001001001110
def p19_16:=pth 0 1111101001001001001111
def p19_17:=pth 0 11111010010010001
def p19_18:=pth 0 1111101001001001
def p19_19:=pth 0 1111101001001001000
def p19_20:=pth 0 1111101001001001001
def p19_21:=pth 0 111110100100100100100
def p19_22:=pth 0 11111010010010000
def p19_23:=pth 6 1010001
def p19_24:=pth 6 101001
def p19_25:=pth 6 10100100
def p19_26:=pth 6 1010011
def p19_27:=pth 0 11111010001
def p19_28:=pth 0 1111101001
def p19_29:=pth 0 11111010010010
def p19_30:=pth 6 1010
def p19_31:=pth 0 11110
def p19_32:=pth 0 11111
def p19_33:=pth 0 11111010
noncomputable section
abbrev cy (M:Nat→Prop) (w0:Base):Cx:=⟨Try.prog,145,M,w0⟩
abbrev q19 (M:Nat→Prop) (w0:Base) (r:List aa):=bodyPost Try.prog Try.f19 (RetQ M w0 (fun v s=>v = .ref 2012∧look 2012 s.r=some ⟨36,2,lm ag r⟩))
abbrev az (p:List Nat):Kont:=.c (cat Try.f19 p)
abbrev k19_3 (M:Nat→Prop) (w0:Base) (r:List aa) (m3:Nat):Kont:=kl (cy M w0) (q19 M w0 r) [.b 4,az gt] (cat Try.f19 p19_1) m3
abbrev b9 (M:Nat→Prop) (w0:Base) (r:List aa) (m1:Nat):Kont:=kl (cy M w0) (q19 M w0 r) [.b 0,az bO] (cat Try.f19 p19_3) m1
abbrev cK (M:Nat→Prop) (w0:Base) (r:List aa) (m1 m2:Nat):Kont:=kl (cy M w0) (q19 M w0 r) [.b 2,.b 1,az cr,b9 M w0 r m1,.b 0,az bO] (cat Try.f19 p19_5) m2
def s19_j3 (v1:List ab) (v2:List aa) (v3 v25 v40:Int) (v53 v54:List Int):AS:=⟨[(0,.sl (lm am v1)),(1,.sl (lm ag v2)),(2,iI (max v3 0)),(7,.ref 17),(8,.ref 19),(9,iI v25),(10,iI v40)],[],[(17,⟨3,1,lm (eInt .i64) v53⟩),(19,⟨3,1,lm (eInt .i64) v54⟩)],[17,19]⟩
def s19_j2 (v1:List ab) (v2:List aa) (v3 v25 v40:Int) (v41 v42:List Int) (v45:Bool):AS:=⟨[(0,.sl (lm am v1)),(1,.sl (lm ag v2)),(2,iI (max v3 0)),(7,.ref 17),(8,.ref 19),(9,iI v25),(10,iI v40),(11,.ptr 11 0),(63,.bool v45)],[(11,am (gD v1 v40))],[(17,⟨3,1,lm (eInt .i64) v41⟩),(19,⟨3,1,lm (eInt .i64) v42⟩)],[11,17,19]⟩
def s19_j1 (v1:List ab) (v2:List aa) (v3 v25 v40:Int) (v41 v42:List Int) (v43:Bool):AS:=⟨[(0,.sl (lm am v1)),(1,.sl (lm ag v2)),(2,iI (max v3 0)),(7,.ref 17),(8,.ref 19),(9,iI v25),(10,iI v40),(34,.bool v43)],[],[(17,⟨3,1,lm (eInt .i64) v41⟩),(19,⟨3,1,lm (eInt .i64) v42⟩)],[17,19]⟩
def s19_l4 (v1:List ab) (v2:List aa) (v3 v25 v40:Int) (v41 v42:List Int):AS:=⟨[(0,.sl (lm am v1)),(1,.sl (lm ag v2)),(2,iI (max v3 0)),(7,.ref 17),(8,.ref 19),(9,iI v25),(10,iI v40)],[],[(17,⟨3,1,lm (eInt .i64) v41⟩),(19,⟨3,1,lm (eInt .i64) v42⟩)],[17,19]⟩
def s19_l6 (v3:Int) (v26 v27:List Int) (v55:Int) (v56:List aa):AS:=⟨[(2,iI (max v3 0)),(7,.ref 17),(8,.ref 19),(12,.ref 2012),(13,iI v55)],[],[(17,⟨3,1,lm (eInt .i64) v26⟩),(19,⟨3,1,lm (eInt .i64) v27⟩),(2012,⟨36,2,lm ag v56⟩)],[17,19,2012]⟩
def s19_l5 (v1:List ab) (v2:List aa) (v3 v25:Int) (v26 v27:List Int):AS:=⟨[(0,.sl (lm am v1)),(1,.sl (lm ag v2)),(2,iI (max v3 0)),(7,.ref 17),(8,.ref 19),(9,iI v25)],[],[(17,⟨3,1,lm (eInt .i64) v26⟩),(19,⟨3,1,lm (eInt .i64) v27⟩)],[17,19]⟩
abbrev eI (M:Nat→Prop) (w0:Base) (r:List aa) (v1:List ab) (v2:List aa) (v3:Int) (m1:Nat) (L1:Int→(List Int)→(List Int)→Option (List aa)):Prop:=∀ {v25:Int} {v26:(List Int)} {v27:(List Int)},L1 v25 v26 v27=some r→LP (cy M w0) (q19 M w0 r) [.b 0,az bO] (cat Try.f19 p19_3) m1 (s19_l5 v1 v2 v3 v25 v26 v27)
abbrev H19_2 (M:Nat→Prop) (w0:Base) (r:List aa) (v1:List ab) (v2:List aa) (v3 v25:Int) (m1 m2:Nat) (L2:Int→(List Int)→(List Int)→Option (List aa)):Prop:=∀ {v40:Int} {v41:(List Int)} {v42:(List Int)},L2 v40 v41 v42=some r→LP (cy M w0) (q19 M w0 r) [.b 2,.b 1,az cr,b9 M w0 r m1,.b 0,az bO] (cat Try.f19 p19_5) m2 (s19_l4 v1 v2 v3 v25 v40 v41 v42)
abbrev H19_3 (M:Nat→Prop) (w0:Base) (r:List aa) (v3:Int) (v26 v27:List Int) (m3:Nat) (L3:Int→(List aa)→Option (List aa)):Prop:=∀ {v55:Int} {v56:(List aa)},L3 v55 v56=some r→LP (cy M w0) (q19 M w0 r) [.b 4,az gt] (cat Try.f19 p19_1) m3 (s19_l6 v3 v26 v27 v55 v56)
variable {K:Kn} {n:Nat} {M:Nat→Prop} {w0:Base} {r:List aa} {v1:List ab} {v2:List aa} {v3 v25:Int} {v26 v27:List Int} {v40:Int} {v41 v42:List Int} {v43 v45:Bool} {v53 v54:List Int} {v55:Int} {v56:List aa} {m1:Nat} {L1:Int→(List Int)→(List Int)→Option (List aa)} {m2:Nat} {L2:Int→(List Int)→(List Int)→Option (List aa)} {m3:Nat} {L3:Int→(List aa)→Option (List aa)}
theorem kw (hK:KnOk K) (hL1:eI M w0 r v1 v2 v3 m1 L1) (hL2:H19_2 M w0 r v1 v2 v3 v25 m1 m2 L2) (h:ff K n v1 v2 v3 v25 v40 L1 L2 v53 v54=some r):VE (cy M w0) (q19 M w0 r) [az dF,cK M w0 r m1 m2,.b 2,.b 1,az cr,b9 M w0 r m1,.b 0,az bO] .normal (s19_j3 v1 v2 v3 v25 v40 v53 v54):=by
  unfold ff at h
  exact af 1 (aI (hL2 h))
theorem jV (hK:KnOk K) (hL1:eI M w0 r v1 v2 v3 m1 L1) (hL2:H19_2 M w0 r v1 v2 v3 v25 m1 m2 L2) (h:dr K n v1 v2 v3 v25 v40 v41 v42 L1 L2 v45=some r):VE (cy M w0) (q19 M w0 r) [az p19_7,az p19_8,.b 3,az dF,cK M w0 r m1 m2,.b 2,.b 1,az cr,b9 M w0 r m1,.b 0,az bO] .normal (s19_j2 v1 v2 v3 v25 v40 v41 v42 v45):=by
  unfold dr at h
  rcases aq h with ⟨h72,h⟩ | ⟨h72,h⟩
  ·
   exact ah 63 h72 (af 4 (kw hK hL1 hL2 h))
  ·
   refine ah 63 h72 (ae (ks':=[az p19_9,az p19_10,.b 3,az dF,cK M w0 r m1 m2,.b 2,.b 1,az cr,b9 M w0 r m1,.b 0,az bO]) 5 ?_)
   rcases aq h with ⟨h73,h⟩ | ⟨h73,h⟩
   ·
    refine ah 65 h73 (ae (ks':=[az p19_11,az p19_12,az p19_10,.b 3,az dF,cK M w0 r m1 m2,.b 2,.b 1,az cr,b9 M w0 r m1,.b 0,az bO]) 2 (bu [0,1,2,7,8,9,10,11] [11] [17,19] ?_))
    obtain ⟨h74,h⟩:=ak h
    obtain ⟨h75,h⟩:=ak h
    obtain ⟨v46,h76,h⟩:=bind_some h
    obtain ⟨h77,h⟩:=ak h
    refine bt 1 (nu 66 [.ref 17,.ptr 11 1,iI ((gD v1 v40).Col),.ref 17,.ptr 11 1,iI ((gD v1 v40).Col),.eptr 17 1 (((gD v1 v40).Col).toNat) 0,iI (gD v41 ((gD v1 v40).Col)),.sl (lm ag v2),iI v40,.cptr (ag (gD v2 v40)),.cptr (List.drop 0 (ag (gD v2 v40))),iI ((gD v2 v40).Least),iI v46,iI (max (gD v41 ((gD v1 v40).Col)) v46),.eptr 17 1 (((gD v1 v40).Col).toNat) 0]) [] [] [strS 17 ⟨3,1,lm (eInt .i64) (List.set v41 ((gD v1 v40).Col).toNat (max (gD v41 ((gD v1 v40).Col)) v46))⟩] (ax (vz 6) (d_v (aD 17 1 (eInt .i64) (L:=v41) h74) (d_v (aG 3 0 (eInt .i64) (eInt .i64) (ay h77).2 (fun _=>rfl)) (ax (vz 2) (d_v (bh ag ag h75 (ce) (fun _=>rfl)) (ax (vz 2) (av (e_c 0 1 79 (km hK h76)) (ax [.v 0 1] (d_v (aD 17 1 (eInt .i64) (L:=v41) h77) (av (e_s (m:=0) (bi 17 3 1 0 (eInt .i64) (eInt .i64) (max (gD v41 ((gD v1 v40).Col)) v46) (ay h77).2 (fun _=>rfl))) bq)))))))))) ?_
    obtain ⟨v47,h78,h⟩:=bind_some h
    have h78:=Option.some.inj h78
    refine bd (ks':=[az p19_13,az p19_14,az p19_10,.b 3,az dF,cK M w0 r m1 m2,.b 2,.b 1,az cr,b9 M w0 r m1,.b 0,az bO]) 1 ⟨[(0,.sl (lm am v1)),(1,.sl (lm ag v2)),(2,iI (max v3 0)),(7,.ref 17),(8,.ref 19),(9,iI v25),(10,iI v40),(11,.ptr 11 0)],[(11,am (gD v1 v40))],[(17,⟨3,1,lm (eInt .i64) v47⟩),(19,⟨3,1,lm (eInt .i64) v42⟩)],[11,17,19]⟩ ?_ (by subst h78; kernel_rfl)
    obtain ⟨h79,h⟩:=ak h
    obtain ⟨h80,h⟩:=ak h
    obtain ⟨v48,h81,h⟩:=bind_some h
    obtain ⟨h82,h⟩:=ak h
    exact bt 1 (nu 82 [.ref 19,.ptr 11 1,iI ((gD v1 v40).Col),.ref 19,.ptr 11 1,iI ((gD v1 v40).Col),.eptr 19 1 (((gD v1 v40).Col).toNat) 0,iI (gD v42 ((gD v1 v40).Col)),.sl (lm ag v2),iI v40,.cptr (ag (gD v2 v40)),.cptr (List.drop 1 (ag (gD v2 v40))),iI ((gD v2 v40).Most),iI v48,iI (max (gD v42 ((gD v1 v40).Col)) v48),.eptr 19 1 (((gD v1 v40).Col).toNat) 0]) [] [] [strS 19 ⟨3,1,lm (eInt .i64) (List.set v42 ((gD v1 v40).Col).toNat (max (gD v42 ((gD v1 v40).Col)) v48))⟩] (ax (vz 6) (d_v (aD 19 1 (eInt .i64) (L:=v42) h79) (d_v (aG 3 0 (eInt .i64) (eInt .i64) (ay h82).2 (fun _=>rfl)) (ax (vz 2) (d_v (bh ag ag h80 (ce) (fun _=>rfl)) (ax (vz 2) (av (e_c 0 1 95 (km hK h81)) (ax [.v 0 1] (d_v (aD 19 1 (eInt .i64) (L:=v42) h82) (av (e_s (m:=0) (bi 19 3 1 0 (eInt .i64) (eInt .i64) (max (gD v42 ((gD v1 v40).Col)) v48) (ay h82).2 (fun _=>rfl))) bq)))))))))) (af 3 (kw hK hL1 hL2 h))
   ·
    refine ah 65 h73 (ae (ks':=[az p19_15,az p19_16,.b 3,az dF,cK M w0 r m1 m2,.b 2,.b 1,az cr,b9 M w0 r m1,.b 0,az bO]) 3 (bu [0,1,2,7,8,9,10,11] [11] [17,19] ?_))
    obtain ⟨h83,h⟩:=ak h
    obtain ⟨v49,h84,h⟩:=bind_some h
    refine ve_dz 11 0 [(98,.ref 17),(99,.ptr 11 1),(100,iI ((gD v1 v40).Col)),(101,iI v25),(102,.sl (lm ag v2)),(103,iI v40),(104,.cptr (ag (gD v2 v40))),(105,.cptr (List.drop 0 (ag (gD v2 v40)))),(106,iI ((gD v2 v40).Least)),(107,iI v49),(108,.ref 19)] [] [] [] (ax (vz 6) (d_v (bh ag ag h83 (ce) (fun _=>rfl)) (ax (vz 2) (av (e_c 0 1 107 (km hK h84)) (ax [.v 0 1] (d_nz)))))) ?_
    obtain ⟨v50,h85,h⟩:=bind_some h
    refine ot_ix 17 0 (lv hK h85) (dV _ _ (dR _)) (dV _ _ (dR _)) (aj (bu [0,1,2,7,8,9,10,11] [11] [17,19] ?_))
    obtain ⟨h86,h⟩:=ak h
    obtain ⟨v51,h87,h⟩:=bind_some h
    refine ve_dz 11 0 [(110,.ref 19),(111,.ptr 11 1),(112,iI ((gD v1 v40).Col)),(113,iI v25),(114,.sl (lm ag v2)),(115,iI v40),(116,.cptr (ag (gD v2 v40))),(117,.cptr (List.drop 1 (ag (gD v2 v40)))),(118,iI ((gD v2 v40).Most)),(119,iI v51),(120,.ref 17)] [] [] [] (ax (vz 6) (d_v (bh ag ag h86 (ce) (fun _=>rfl)) (ax (vz 2) (av (e_c 0 1 119 (km hK h87)) (ax [.v 0 1] (d_nz)))))) ?_
    obtain ⟨v52,h88,h⟩:=bind_some h
    exact ot_ix 19 0 (lv hK h88) (dV _ _ (dR _)) (dV _ _ (dR _)) (aj (af 1 (kw hK hL1 hL2 h)))
theorem lB (hK:KnOk K) (hL1:eI M w0 r v1 v2 v3 m1 L1) (hL2:H19_2 M w0 r v1 v2 v3 v25 m1 m2 L2) (h:eO K n v1 v2 v3 v25 v40 v41 v42 L1 L2 v43=some r):VE (cy M w0) (q19 M w0 r) [az p19_17,az p19_18,cK M w0 r m1 m2,.b 2,.b 1,az cr,b9 M w0 r m1,.b 0,az bO] .normal (s19_j1 v1 v2 v3 v25 v40 v41 v42 v43):=by
  unfold eO at h
  rcases aq h with ⟨h66,h⟩ | ⟨h66,h⟩
  ·
   refine ah 34 h66 (ae (ks':=[az p19_19,az p19_20,.b 3,az dF,cK M w0 r m1 m2,.b 2,.b 1,az cr,b9 M w0 r m1,.b 0,az bO]) 5 (ap 2 ?_))
   obtain ⟨h67,h⟩:=ak h
   refine ao (bh am am h67 (c8) (fun _=>rfl)) (aj (ae (ks':=[az p19_21,az p19_7,az p19_8,.b 3,az dF,cK M w0 r m1 m2,.b 2,.b 1,az cr,b9 M w0 r m1,.b 0,az bO]) 2 (ap 5 ?_)))
   rcases aq h with ⟨h68,h⟩ | ⟨h68,h⟩
   ·
    exact aE 45 h68 (aj (af 0 (jV hK hL1 hL2 h)))
   ·
    refine aE 45 h68 (aH 10 5 ?_)
    rcases aq h with ⟨h69,h⟩ | ⟨h69,h⟩
    ·
     exact aE 50 h69 (aj (af 0 (jV hK hL1 hL2 h)))
    ·
     refine aE 50 h69 (aH 15 5 ?_)
     rcases aq h with ⟨h70,h⟩ | ⟨h70,h⟩
     ·
      exact aE 55 h70 (aj (af 0 (jV hK hL1 hL2 h)))
     ·
      refine aE 55 h70 (aH 20 5 ?_)
      obtain ⟨v44,h71,h⟩:=bind_some h
      exact bI (nf hK h71) (aj (af 0 (jV hK hL1 hL2 h)))
  ·
   exact ah 34 h66 (af 7 (aI (hL1 h)))
theorem nP (hK:KnOk K) (hL1:eI M w0 r v1 v2 v3 m1 L1) (hL2:H19_2 M w0 r v1 v2 v3 v25 m1 m2 L2) (h:g8 K n v1 v2 v3 v25 L1 L2 v40 v41 v42=some r):VE (cy M w0) (q19 M w0 r) [az p19_5,cK M w0 r m1 m2,.b 2,.b 1,az cr,b9 M w0 r m1,.b 0,az bO] .normal (s19_l4 v1 v2 v3 v25 v40 v41 v42):=by
  unfold g8 at h
  refine ae (ks':=[az p19_22,az p19_17,az p19_18,cK M w0 r m1 m2,.b 2,.b 1,az cr,b9 M w0 r m1,.b 0,az bO]) 2 (ap 2 (ao (aK am v1) (aH 5 2 ?_)))
  rcases aq h with ⟨h65,h⟩ | ⟨h65,h⟩
  ·
   exact aE 29 h65 (aH 7 2 (ao (aK ag v2) (aj (af 0 (lB hK hL1 hL2 h)))))
  ·
   exact aE 29 h65 (aj (af 0 (lB hK hL1 hL2 h)))
theorem mS (hK:KnOk K) (hL1:eI M w0 r v1 v2 v3 m1 L1) (m:Nat):H19_2 M w0 r v1 v2 v3 v25 m1 m (dx K n v1 v2 v3 v25 L1 m):=by
  induction m with
 | zero=>intro v40 v41 v42 h; cases h
 | succ m ih=>intro v40 v41 v42 h; have h:g8 K n v1 v2 v3 v25 L1 (dx K n v1 v2 v3 v25 L1 m) v40 v41 v42=some r:=h; exact aL (nP hK hL1 ih h)
theorem mD (hK:KnOk K) (hL3:H19_3 M w0 r v3 v26 v27 m3 L3) (h:gE K n v3 v26 v27 L3 v55 v56=some r):VE (cy M w0) (q19 M w0 r) [az p19_1,k19_3 M w0 r m3,.b 4,az gt] .normal (s19_l6 v3 v26 v27 v55 v56):=by
  unfold gE at h
  refine ae (ks':=[az p19_23,az p19_24,k19_3 M w0 r m3,.b 4,az gt]) 3 ?_
  rcases aq h with ⟨h99,h⟩ | ⟨h99,h⟩
  ·
   refine ah 124 h99 (ae (ks':=[az p19_25,.b 5,az p19_26,k19_3 M w0 r m3,.b 4,az gt]) 4 (bu [2,7,8,12,13] [] [17,19,2012] ?_))
   obtain ⟨h100,h⟩:=ak h
   obtain ⟨h101,h⟩:=ak h
   obtain ⟨h102,h⟩:=ak h
   obtain ⟨h103,h⟩:=ak h
   exact bt 2 (nu 127 [.ref 2012,.ref 17,iI v55,.eptr 17 1 (v55.toNat) 0,iI (gD v26 v55),.ref 19,iI v55,.eptr 19 1 (v55.toNat) 0,iI (gD v27 v55),.ref 17,iI v55,.eptr 17 1 (v55.toNat) 0,iI (gD v26 v55),iI (max (gD v27 v55) (gD v26 v55)),.agg (ag (⟨(gD v26 v55),(max (gD v27 v55) (gD v26 v55))⟩:aa)),.sl (lm ag [(⟨(gD v26 v55),(max (gD v27 v55) (gD v26 v55))⟩:aa)])]) [] [] [appS 143 2012 ⟨36,2,lm ag (v56++[(⟨(gD v26 v55),(max (gD v27 v55) (gD v26 v55))⟩:aa)])⟩,stp Try.prog 145 Try.f19 p19_25 17] (ax [.v 0 1,.v 0 2,.v 0 2] (av (k_v (lo:=0) (k:=2) (bn ⟨(by kernel_rfl),(bp (aD 17 1 (eInt .i64) (L:=v26) h100) (by kernel_rfl))⟩ (bn ⟨(by kernel_rfl),(bp (aD 17 1 (eInt .i64) (L:=v26) h100) (by kernel_rfl))⟩ bU))) (av (k_v (lo:=0) (k:=2) (bn ⟨(by kernel_rfl),(bp (aG 3 0 (eInt .i64) (eInt .i64) (ay h102).2 (fun _=>rfl)) (by kernel_rfl))⟩ (bn ⟨(by kernel_rfl),(bp (aG 3 0 (eInt .i64) (eInt .i64) (ay h102).2 (fun _=>rfl)) (by kernel_rfl))⟩ bU))) (ax [.v 0 2,.v 0 2] (av (k_v (lo:=0) (k:=2) (bn ⟨(by kernel_rfl),(bp (aD 19 1 (eInt .i64) (L:=v27) h101) (by kernel_rfl))⟩ (bn ⟨(by kernel_rfl),(bp (aD 19 1 (eInt .i64) (L:=v27) h101) (by kernel_rfl))⟩ bU))) (av (k_v (lo:=0) (k:=2) (bn ⟨(by kernel_rfl),(bp (aG 3 0 (eInt .i64) (eInt .i64) (ay h101).2 (fun _=>rfl)) (by kernel_rfl))⟩ (bn ⟨(by kernel_rfl),(bp (aG 3 0 (eInt .i64) (eInt .i64) (ay h101).2 (fun _=>rfl)) (by kernel_rfl))⟩ bU))) (ax [.v 0 2,.v 0 2] (av (k_v (lo:=0) (k:=2) (bn ⟨(by kernel_rfl),(bp (aD 17 1 (eInt .i64) (L:=v26) h102) (by kernel_rfl))⟩ (bn ⟨(by kernel_rfl),(bp (aD 17 1 (eInt .i64) (L:=v26) h102) (by kernel_rfl))⟩ bU))) (av (k_v (lo:=0) (k:=2) (bn ⟨(by kernel_rfl),(bp (aG 3 0 (eInt .i64) (eInt .i64) (ay h102).2 (fun _=>rfl)) (by kernel_rfl))⟩ (bn ⟨(by kernel_rfl),(bp (aG 3 0 (eInt .i64) (eInt .i64) (ay h102).2 (fun _=>rfl)) (by kernel_rfl))⟩ bU))) (ax [.v 0 2,.v 0 2,.v 0 1] (av (e_s (m:=0) (y_app 143 2012 36 2 ag (rfl) (ce) h103)) (av (e_d 1) bq)))))))))))) (af 2 (aI (hL3 h)))
  ·
   refine ah 124 h99 (aJ 8 ?_)
   cases h
   exact cG
theorem nG (hK:KnOk K) (m:Nat):H19_3 M w0 r v3 v26 v27 m (gh K n v3 v26 v27 m):=by
  induction m with
 | zero=>intro v55 v56 h; cases h
 | succ m ih=>intro v55 v56 h; have h:gE K n v3 v26 v27 (gh K n v3 v26 v27 m) v55 v56=some r:=h; exact aL (mD hK ih h)
theorem ow (hK:KnOk K) (hL1:eI M w0 r v1 v2 v3 m1 L1) (h:g6 K n v1 v2 v3 L1 v25 v26 v27=some r):VE (cy M w0) (q19 M w0 r) [az p19_3,b9 M w0 r m1,.b 0,az bO] .normal (s19_l5 v1 v2 v3 v25 v26 v27):=by
  unfold g6 at h
  refine ae (ks':=[az p19_27,az p19_28,b9 M w0 r m1,.b 0,az bO]) 3 ?_
  rcases aq h with ⟨h40,h⟩ | ⟨h40,h⟩
  ·
   exact ah 22 h40 (af 7 (aM (p:=p19_29) n (mS hK hL1 n h)))
  ·
   exact ah 22 h40 (ae (ks':=[az p19_30,.b 4,az gt]) 11 (bu [2,7,8,12,13] [] [17,19] (ve_w 2012 12 36 2 (af 0 (aM (p:=p19_30) n (nG hK n h))))))
theorem mM (hK:KnOk K) (m:Nat):eI M w0 r v1 v2 v3 m (eg K n v1 v2 v3 m):=by
  induction m with
 | zero=>intro v25 v26 v27 h; cases h
 | succ m ih=>intro v25 v26 v27 h; have h:g6 K n v1 v2 v3 (eg K n v1 v2 v3 m) v25 v26 v27=some r:=h; exact aL (ow hK ih h)
theorem nc (hK:KnOk K) (h:gR K n v1 v2 v3=some r):ACalls Try.prog 19 [.sl (lm am v1),.sl (lm ag v2),iI v3] (fun v s=>v = .ref 2012∧look 2012 s.r=some ⟨36,2,lm ag r⟩):=by
  refine br (cat Try.f19 []) Try.func19 Try.ntmps19 fun M w0=>(aY ⟨[(0,.sl (lm am v1)),(1,.sl (lm ag v2)),(2,iI v3)],[],[],[]⟩ ?_)
  unfold gR at h
  refine ae (ks':=[az [1,1,0],az [1,1,1]]) 5 (ap 1 ?_)
  obtain ⟨h1,h⟩:=ak h
  refine cm (eInt .i64) (0:Int) 33 (.tmp 16) (.tmp 16) 17 (e:=3) (sz:=1) (zc:=[iI 0]) (kd:=.i64) (kd':=.i64) h1 (aj ?_)
  obtain ⟨v4,h2,h⟩:=bind_some h
  have h2:=Option.some.inj h2
  refine bd (ks':=[az p19_31,az p19_32]) 1 ⟨[(0,.sl (lm am v1)),(1,.sl (lm ag v2)),(2,iI (max v3 0)),(7,.ref 17)],[],[(17,⟨3,1,lm (eInt .i64) v4⟩)],[17]⟩ ?_ (by subst h2; kernel_rfl)
  refine ap 1 ?_
  obtain ⟨h3,h⟩:=ak h
  exact cm (eInt .i64) (0:Int) 33 (.tmp 18) (.tmp 18) 19 (e:=3) (sz:=1) (zc:=[iI 0]) (kd:=.i64) (kd':=.i64) h3 (aj (af 4 (aM (p:=p19_33) n (mM hK n h))))
end
def bM:=pth 7 1
def p6_1:=pth 6 10100
def dM:=pth 6 1
def p6_3:=pth 5 10100
def p6_4:=pth 6 1010011001111
def cB:=pth 6 10100111
def p6_6:=pth 6 1010011001110100
def p6_7:=pth 5 10100110011
def p6_8:=pth 5 10100111
def p6_9:=pth 6 10100110011111
def p6_10:=pth 6 101001100111010010
def p6_11:=pth 6 101001100111010011
def p6_12:=pth 6 101001100111010011000
def p6_13:=pth 6 101001100111010011001
def p6_14:=pth 6 1010011001110100111
def p6_15:=pth 6 10100110011110
def p6_16:=pth 6 101001100101
def p6_17:=pth 6 10100110011
def p6_18:=pth 6 10100110011100
def p6_19:=pth 6 10100110011101
def p6_20:=pth 6 101001100111010
def p6_21:=pth 6 1010010
def p6_22:=pth 6 1010011
def p6_23:=pth 6 1010011000
def p6_24:=pth 6 1010011001
def p6_25:=pth 6 101001100100
def p6_26:=pth 5 1010010
def p6_27:=pth 5 1010011
def p6_28:=pth 5 1010011000
def p6_29:=pth 5 1010011001
def p6_30:=pth 5 10100110010
def p6_31:=pth 6 100
def p6_32:=pth 6 101
def p6_33:=pth 6 1010
def p6_34:=pth 0 11100
def p6_35:=pth 0 11101
def p6_36:=pth 0 11110
def p6_37:=pth 0 11111
def p6_38:=pth 0 1111100
def p6_39:=pth 0 1111101
def p6_40:=pth 5 1
def p6_41:=pth 5 100
def p6_42:=pth 5 101
def p6_43:=pth 5 1010
noncomputable section
abbrev cx6 (M:Nat→Prop) (w0:Base):Cx:=⟨Try.prog,145,M,w0⟩
abbrev q6 (M:Nat→Prop) (w0:Base) (r:Bool):=bodyPost Try.prog Try.f6 (RetQ M w0 (fun v _=>v = .bool r))
abbrev cF6 (p:List Nat):Kont:=.c (cat Try.f6 p)
abbrev cd (M:Nat→Prop) (w0:Base) (r:Bool) (m2:Nat):Kont:=kl (cx6 M w0) (q6 M w0 r) [.b 2,cF6 bM] (cat Try.f6 p6_1) m2
abbrev k6_1 (M:Nat→Prop) (w0:Base) (r:Bool) (m1:Nat):Kont:=kl (cx6 M w0) (q6 M w0 r) [.b 0,cF6 dM] (cat Try.f6 p6_3) m1
abbrev k6_3 (M:Nat→Prop) (w0:Base) (r:Bool) (m2 m3:Nat):Kont:=kl (cx6 M w0) (q6 M w0 r) [.b 4,cF6 p6_4,.b 3,cF6 cB,cd M w0 r m2,.b 2,cF6 bM] (cat Try.f6 p6_6) m3
def s6_j1 (v1:List ab) (v2 v6 v7:List aa) (v9:Int) (v10:Bool):AS:=⟨[(0,.sl (lm am v1)),(1,.sl (lm ag v2)),(7,.ref 1026),(8,.ref 1030),(36,.ref 1026),(37,iI (v6.length:Int)),(38,iI v9),(60,.bool v10)],[],[(1026,⟨36,2,lm ag v6⟩),(1030,⟨36,2,lm ag v7⟩)],[1026,1030]⟩
def s6_j6 (v1:List ab) (v2 v6:List aa) (v35:Int):AS:=⟨[(1,.sl (lm ag v2)),(7,.sl (lm ag v6)),(62,.sl (lm am v1)),(63,iI (v1.length:Int)),(64,iI v35)],[],[],[]⟩
def s6_j5 (v1:List ab) (v2 v6:List aa) (v35:Int) (v47:Bool):AS:=⟨[(1,.sl (lm ag v2)),(7,.sl (lm ag v6)),(62,.sl (lm am v1)),(63,iI (v1.length:Int)),(64,iI v35),(143,.bool v47)],[],[],[]⟩
def s6_l4 (v1:List ab) (v2 v6:List aa) (v35 v40 v41:Int) (v42:List aa) (v43 v44:Int):AS:=⟨[(1,.sl (lm ag v2)),(7,.sl (lm ag v6)),(11,iI v35),(13,iI v40),(14,iI v41),(62,.sl (lm am v1)),(63,iI (v1.length:Int)),(64,iI v35),(111,.sl (lm ag v42)),(112,iI v43),(113,iI v44)],[],[],[]⟩
def s6_j3 (v1:List ab) (v2 v6:List aa) (v35:Int) (v36:Bool):AS:=⟨[(1,.sl (lm ag v2)),(7,.sl (lm ag v6)),(11,iI v35),(12,.ptr 12 0),(62,.sl (lm am v1)),(63,iI (v1.length:Int)),(64,iI v35),(102,.bool v36)],[(12,am (gD v1 v35))],[],[12]⟩
def s6_l7 (v1:List ab) (v2 v6:List aa) (v35:Int):AS:=⟨[(1,.sl (lm ag v2)),(7,.sl (lm ag v6)),(62,.sl (lm am v1)),(63,iI (v1.length:Int)),(64,iI v35)],[],[],[]⟩
def s6_l2 (v1:List ab) (v2 v6 v7:List aa) (v9:Int):AS:=⟨[(0,.sl (lm am v1)),(1,.sl (lm ag v2)),(7,.ref 1026),(8,.ref 1030),(36,.ref 1026),(37,iI (v6.length:Int)),(38,iI v9)],[],[(1026,⟨36,2,lm ag v6⟩),(1030,⟨36,2,lm ag v7⟩)],[1026,1030]⟩
abbrev H6_1 (M:Nat→Prop) (w0:Base) (r:Bool) (v1:List ab) (v2 v6 v7:List aa) (m1:Nat) (L1:Int→Option Bool):Prop:=∀ {v9:Int},L1 v9=some r→LP (cx6 M w0) (q6 M w0 r) [.b 0,cF6 dM] (cat Try.f6 p6_3) m1 (s6_l2 v1 v2 v6 v7 v9)
abbrev fa (M:Nat→Prop) (w0:Base) (r:Bool) (v1:List ab) (v2 v6:List aa) (m2:Nat) (L2:Int→Option Bool):Prop:=∀ {v35:Int},L2 v35=some r→LP (cx6 M w0) (q6 M w0 r) [.b 2,cF6 bM] (cat Try.f6 p6_1) m2 (s6_l7 v1 v2 v6 v35)
abbrev H6_3 (M:Nat→Prop) (w0:Base) (r:Bool) (v1:List ab) (v2 v6:List aa) (v35:Int) (m2 m3:Nat) (L3:Int→Int→(List aa)→Int→Int→Option Bool):Prop:=∀ {v40:Int} {v41:Int} {v42:(List aa)} {v43:Int} {v44:Int},L3 v40 v41 v42 v43 v44=some r→LP (cx6 M w0) (q6 M w0 r) [.b 4,cF6 p6_4,.b 3,cF6 cB,cd M w0 r m2,.b 2,cF6 bM] (cat Try.f6 p6_6) m3 (s6_l4 v1 v2 v6 v35 v40 v41 v42 v43 v44)
variable {K:Kn} {n:Nat} {M:Nat→Prop} {w0:Base} {r:Bool} {v1:List ab} {v2:List aa} {v3:Int} {v6 v7:List aa} {v9:Int} {v10:Bool} {v35:Int} {v36:Bool} {v40 v41:Int} {v42:List aa} {v43 v44:Int} {v47:Bool} {m1:Nat} {L1:Int→Option Bool} {m2:Nat} {L2:Int→Option Bool} {m3:Nat} {L3:Int→Int→(List aa)→Int→Int→Option Bool}
theorem kH (hK:KnOk K) (hL1:H6_1 M w0 r v1 v2 v6 v7 m1 L1) (h:fD K n v1 v2 v6 v7 v9 L1 v10=some r):VE (cx6 M w0) (q6 M w0 r) [cF6 p6_7,.b 1,cF6 p6_8,k6_1 M w0 r m1,.b 0,cF6 dM] .normal (s6_j1 v1 v2 v6 v7 v9 v10):=by
  unfold fD at h
  rcases aq h with ⟨h19,h⟩ | ⟨h19,h⟩
  ·
   refine ah 60 h19 (aJ 9 ?_)
   cases h
   exact bo
  ·
   exact ah 60 h19 (af 4 (aI (hL1 h)))
theorem lz (hK:KnOk K) (hL2:fa M w0 r v1 v2 v6 m2 L2) (h:fh K n v1 v2 v6 v35 L2=some r):VE (cx6 M w0) (q6 M w0 r) [cF6 cB,cd M w0 r m2,.b 2,cF6 bM] .normal (s6_j6 v1 v2 v6 v35):=by
  unfold fh at h
  exact af 1 (aI (hL2 h))
theorem l6 (hK:KnOk K) (hL2:fa M w0 r v1 v2 v6 m2 L2) (h:jc K n v1 v2 v6 v35 L2 v47=some r):VE (cx6 M w0) (q6 M w0 r) [cF6 p6_9,.b 3,cF6 cB,cd M w0 r m2,.b 2,cF6 bM] .normal (s6_j5 v1 v2 v6 v35 v47):=by
  unfold jc at h
  rcases aq h with ⟨h85,h⟩ | ⟨h85,h⟩
  ·
   refine ah 143 h85 (aJ 9 ?_)
   cases h
   exact bo
  ·
   exact ah 143 h85 (af 3 (lz hK hL2 h))
theorem oL (hK:KnOk K) (hL2:fa M w0 r v1 v2 v6 m2 L2) (hL3:H6_3 M w0 r v1 v2 v6 v35 m2 m3 L3) (h:hJ K n v1 v2 v6 v35 L2 L3 v40 v41 v42 v43 v44=some r):VE (cx6 M w0) (q6 M w0 r) [cF6 p6_6,k6_3 M w0 r m2 m3,.b 4,cF6 p6_4,.b 3,cF6 cB,cd M w0 r m2,.b 2,cF6 bM] .normal (s6_l4 v1 v2 v6 v35 v40 v41 v42 v43 v44):=by
  unfold hJ at h
  refine ae (ks':=[cF6 p6_10,cF6 p6_11,k6_3 M w0 r m2 m3,.b 4,cF6 p6_4,.b 3,cF6 cB,cd M w0 r m2,.b 2,cF6 bM]) 3 ?_
  rcases aq h with ⟨h78,h⟩ | ⟨h78,h⟩
  ·
   refine ah 114 h78 (ae (ks':=[cF6 p6_12,cF6 p6_13,.b 5,cF6 p6_14,k6_3 M w0 r m2 m3,.b 4,cF6 p6_4,.b 3,cF6 cB,cd M w0 r m2,.b 2,cF6 bM]) 5 (ap 0 ?_))
   obtain ⟨h79,h⟩:=ak h
   exact ao (bh ag ag h79 (ce) (fun _=>rfl)) (aj (af 5 (aI (hL3 h))))
  ·
   refine ah 114 h78 (ae (ks':=[cF6 p6_15,cF6 p6_9,.b 3,cF6 cB,cd M w0 r m2,.b 2,cF6 bM]) 6 (ap 3 ?_))
   obtain ⟨h80,h⟩:=ak h
   refine ao (bh ag ag h80 (ce) (fun _=>rfl)) (aH 6 2 ?_)
   obtain ⟨v45,h81,h⟩:=bind_some h
   refine bI (mj hK h81) (aH 9 2 ?_)
   rcases aq h with ⟨h82,h⟩ | ⟨h82,h⟩
   ·
    exact aE 134 h82 (aj (af 0 (l6 hK hL2 h)))
   ·
    refine aE 134 h82 (aH 12 3 ?_)
    obtain ⟨h83,h⟩:=ak h
    refine ao (bh ag ag h83 (ce) (fun _=>rfl)) (aH 15 2 ?_)
    obtain ⟨v46,h84,h⟩:=bind_some h
    exact bI (mj hK h84) (aj (af 0 (l6 hK hL2 h)))
theorem oa (hK:KnOk K) (hL2:fa M w0 r v1 v2 v6 m2 L2) (m:Nat):H6_3 M w0 r v1 v2 v6 v35 m2 m (fm K n v1 v2 v6 v35 L2 m):=by
  induction m with
 | zero=>intro v40 v41 v42 v43 v44 h; cases h
 | succ m ih=>intro v40 v41 v42 v43 v44 h; have h:hJ K n v1 v2 v6 v35 L2 (fm K n v1 v2 v6 v35 L2 m) v40 v41 v42 v43 v44=some r:=h; exact aL (oL hK hL2 ih h)
theorem fl (hK:KnOk K) (hL2:fa M w0 r v1 v2 v6 m2 L2) (h:cM K n v1 v2 v6 v35 L2 v36=some r):VE (cx6 M w0) (q6 M w0 r) [cF6 p6_16,cF6 p6_17,.b 3,cF6 cB,cd M w0 r m2,.b 2,cF6 bM] .normal (s6_j3 v1 v2 v6 v35 v36):=by
  unfold cM at h
  rcases aq h with ⟨h71,h⟩ | ⟨h71,h⟩
  ·
   exact ah 102 h71 (af 4 (lz hK hL2 h))
  ·
   refine ah 102 h71 (ae (ks':=[cF6 p6_18,cF6 p6_19,cF6 p6_4,.b 3,cF6 cB,cd M w0 r m2,.b 2,cF6 bM]) 6 (ap 8 ?_))
   obtain ⟨h72,h⟩:=ak h
   exact ao (lJ ag v6 ((gD v1 v35).Col) (w64 (((gD v1 v35).Col)+((gD v1 v35).Cols))) 32 (.tmp 103) (some (.tmp 105)) (some (.tmp 110)) 111 (e:=36) (sz:=2) (by kernel_rfl) (by kernel_rfl) (by kernel_rfl) (by kernel_rfl) (by kernel_rfl) (by kernel_rfl) (ce) (fun k hk=>by subst hk; kernel_rfl) h72) (ao (aK ag (List.drop (((gD v1 v35).Col)).toNat (List.take ((w64 (((gD v1 v35).Col)+((gD v1 v35).Cols)))).toNat v6))) (aj (af 1 (aM (p:=p6_20) n (oa hK hL2 n h)))))
theorem nh (hK:KnOk K) (hL2:fa M w0 r v1 v2 v6 m2 L2) (h:gB K n v1 v2 v6 L2 v35=some r):VE (cx6 M w0) (q6 M w0 r) [cF6 p6_1,cd M w0 r m2,.b 2,cF6 bM] .normal (s6_l7 v1 v2 v6 v35):=by
  unfold gB at h
  refine ae (ks':=[cF6 p6_21,cF6 p6_22,cd M w0 r m2,.b 2,cF6 bM]) 3 ?_
  rcases aq h with ⟨h64,h⟩ | ⟨h64,h⟩
  ·
   refine ah 65 h64 (ae (ks':=[cF6 p6_23,cF6 p6_24,.b 3,cF6 cB,cd M w0 r m2,.b 2,cF6 bM]) 5 (ap 1 ?_))
   obtain ⟨h65,h⟩:=ak h
   refine ao (bh am am h65 (c8) (fun _=>rfl)) (aj (ae (ks':=[cF6 p6_25,cF6 p6_16,cF6 p6_17,.b 3,cF6 cB,cd M w0 r m2,.b 2,cF6 bM]) 2 (ap 2 (ao (aK ag v2) (aH 5 2 ?_)))))
   rcases aq h with ⟨h66,h⟩ | ⟨h66,h⟩
   ·
    exact aE 73 h66 (aj (af 0 (fl hK hL2 h)))
   ·
    refine aE 73 h66 (aH 10 5 ?_)
    rcases aq h with ⟨h67,h⟩ | ⟨h67,h⟩
    ·
     exact aE 78 h67 (aj (af 0 (fl hK hL2 h)))
    ·
     refine aE 78 h67 (aH 15 5 ?_)
     rcases aq h with ⟨h68,h⟩ | ⟨h68,h⟩
     ·
      exact aE 83 h68 (aj (af 0 (fl hK hL2 h)))
     ·
      refine aE 83 h68 (aH 20 5 ?_)
      rcases aq h with ⟨h69,h⟩ | ⟨h69,h⟩
      ·
       exact aE 88 h69 (aj (af 0 (fl hK hL2 h)))
      ·
       refine aE 88 h69 (aH 25 5 ?_)
       rcases aq h with ⟨h70,h⟩ | ⟨h70,h⟩
       ·
        exact aE 93 h70 (aj (af 0 (fl hK hL2 h)))
       ·
        exact aE 93 h70 (aH 31 6 (ao (aK ag v6) (aj (af 0 (fl hK hL2 h)))))
  ·
   refine ah 65 h64 (aJ 8 ?_)
   cases h
   exact bo
theorem n7 (hK:KnOk K) (m:Nat):fa M w0 r v1 v2 v6 m (dj K n v1 v2 v6 m):=by
  induction m with
 | zero=>intro v35 h; cases h
 | succ m ih=>intro v35 h; have h:gB K n v1 v2 v6 (dj K n v1 v2 v6 m) v35=some r:=h; exact aL (nh hK ih h)
theorem n8 (hK:KnOk K) (hL1:H6_1 M w0 r v1 v2 v6 v7 m1 L1) (h:iE K n v1 v2 v6 v7 L1 v9=some r):VE (cx6 M w0) (q6 M w0 r) [cF6 p6_3,k6_1 M w0 r m1,.b 0,cF6 dM] .normal (s6_l2 v1 v2 v6 v7 v9):=by
  unfold iE at h
  refine ae (ks':=[cF6 p6_26,cF6 p6_27,k6_1 M w0 r m1,.b 0,cF6 dM]) 3 ?_
  rcases aq h with ⟨h14,h⟩ | ⟨h14,h⟩
  ·
   refine ah 39 h14 (ae (ks':=[cF6 p6_28,cF6 p6_29,.b 1,cF6 p6_8,k6_1 M w0 r m1,.b 0,cF6 dM]) 5 (ap 1 ?_))
   obtain ⟨h15,h⟩:=ak h
   refine ao (bf 1026 2 ag h15) (ao (aG 36 0 ag ag (ay h15).2 (fun _=>rfl)) (aj (ae (ks':=[cF6 p6_30,cF6 p6_7,.b 1,cF6 p6_8,k6_1 M w0 r m1,.b 0,cF6 dM]) 1 (bu [0,1,7,8,9,10,36,37,38] [10] [1026,1030] ?_))))
   obtain ⟨h16,h⟩:=ak h
   rcases aq h with ⟨h17,h⟩ | ⟨h17,h⟩
   ·
    exact bt 0 (nu 43 [.agg (ag (gD v6 v9)),.ref 1030,iI v9,.eptr 1030 2 (v9.toNat) 0,.agg (ag (gD v7 v9)),.bool (!(df (gD v6 v9) (gD v7 v9))),.bool true,.tup [],.tup [],.tup [],.bool true,.bool true,.tup [],.tup [],.tup [],.tup [],.tup [],.bool true]) [] [] [] (ax (vz 3) (d_v (aD 1030 2 ag (L:=v7) h16) (d_v (aG 36 0 ag ag (ay h16).2 (fun _=>rfl)) (ax [.v 0 1] (av (e_b 0 49 (e:=(!(df (gD v6 v9) (gD v7 v9)))) (b:=true) h17) (av (bA 0 1) (av (bA 0 1) (av (bA 0 1) (ax (vz 2) (av (bA 0 1) (av (bA 0 1) (av (bA 0 1) (av (bA 0 1) (av (bA 0 1) (ax [.v 0 1] bq))))))))))))))) (af 0 (kH hK hL1 h))
   ·
    rcases aq h with ⟨h18,h⟩ | ⟨h18,h⟩
    ·
     exact bt 0 (nu 43 [.agg (ag (gD v6 v9)),.ref 1030,iI v9,.eptr 1030 2 (v9.toNat) 0,.agg (ag (gD v7 v9)),.bool (!(df (gD v6 v9) (gD v7 v9))),.bool false,.ptr 10 0,iI ((gD v6 v9).Least),.bool (decide (((gD v6 v9).Least)<0)),.bool (decide (((gD v6 v9).Least)<0)),.bool true,.tup [],.tup [],.tup [],.tup [],.tup [],.bool true]) [] [] [] (ax (vz 3) (d_v (aD 1030 2 ag (L:=v7) h16) (d_v (aG 36 0 ag ag (ay h16).2 (fun _=>rfl)) (ax [.v 0 1] (av (e_b 0 49 (e:=(!(df (gD v6 v9) (gD v7 v9)))) (b:=false) h17) (ax (vz 4) (av (e_b 0 54 (e:=(decide (((gD v6 v9).Least)<0))) (b:=true) h18) (av (bA 0 1) (av (bA 0 1) (av (bA 0 1) (av (bA 0 1) (av (bA 0 1) (ax [.v 0 1] bq))))))))))))) (af 0 (kH hK hL1 h))
    ·
     exact bt 0 (nu 43 [.agg (ag (gD v6 v9)),.ref 1030,iI v9,.eptr 1030 2 (v9.toNat) 0,.agg (ag (gD v7 v9)),.bool (!(df (gD v6 v9) (gD v7 v9))),.bool false,.ptr 10 0,iI ((gD v6 v9).Least),.bool (decide (((gD v6 v9).Least)<0)),.bool (decide (((gD v6 v9).Least)<0)),.bool false,.ptr 10 1,iI ((gD v6 v9).Most),.ptr 10 0,iI ((gD v6 v9).Least),.bool (decide (((gD v6 v9).Most)<((gD v6 v9).Least))),.bool (decide (((gD v6 v9).Most)<((gD v6 v9).Least)))]) [] [] [] (ax (vz 3) (d_v (aD 1030 2 ag (L:=v7) h16) (d_v (aG 36 0 ag ag (ay h16).2 (fun _=>rfl)) (ax [.v 0 1] (av (e_b 0 49 (e:=(!(df (gD v6 v9) (gD v7 v9)))) (b:=false) h17) (ax (vz 4) (av (e_b 0 54 (e:=(decide (((gD v6 v9).Least)<0))) (b:=false) h18) (ax (vz 6) bq)))))))) (af 0 (kH hK hL1 h))
  ·
   exact ah 39 h14 (ae (ks':=[cF6 p6_31,cF6 p6_32,cF6 bM]) 7 (ap 1 (ao (aK am v1) (aj (ae (ks':=[cF6 p6_33,.b 2,cF6 bM]) 1 (ve_f 1026 (af 0 (aM (p:=p6_33) n (n7 hK n h)))))))))
theorem nt (hK:KnOk K) (m:Nat):H6_1 M w0 r v1 v2 v6 v7 m (fz K n v1 v2 v6 v7 m):=by
  induction m with
 | zero=>intro v9 h; cases h
 | succ m ih=>intro v9 h; have h:iE K n v1 v2 v6 v7 (fz K n v1 v2 v6 v7 m) v9=some r:=h; exact aL (n8 hK ih h)
theorem m7 (hK:KnOk K) (h:kj K n v1 v2 v3=some r):ACalls Try.prog 6 [.sl (lm am v1),.sl (lm ag v2),iI v3] (fun v _=>v = .bool r):=by
  refine br (cat Try.f6 []) Try.func6 Try.ntmps6 fun M w0=>(aY ⟨[(0,.sl (lm am v1)),(1,.sl (lm ag v2)),(2,iI v3)],[],[],[]⟩ ?_)
  unfold kj at h
  refine ae (ks':=[cF6 [1,0,0],cF6 [1,0,1],cF6 [1,1]]) 4 (ap 0 ?_)
  obtain ⟨v4,h1,h⟩:=bind_some h
  refine bI (g_law20_fit_ok hK h1) (aj ?_)
  rcases aq h with ⟨h2,h⟩ | ⟨h2,h⟩
  ·
   refine ah 18 h2 (aJ 5 ?_)
   cases h
   exact bo
  ·
   refine ah 18 h2 (ae (ks':=[cF6 p6_34,cF6 p6_35,cF6 [1,1,1]]) 4 (ap 2 ?_))
   obtain ⟨v5,h3,h⟩:=bind_some h
   refine bI (g_law20_few_ok hK h3) (aj ?_)
   rcases aq h with ⟨h4,h⟩ | ⟨h4,h⟩
   ·
    refine ah 22 h4 (aJ 5 ?_)
    cases h
    exact bo
   ·
    refine ah 22 h4 (ae (ks':=[cF6 p6_36,cF6 p6_37]) 3 (ap 3 ?_))
    obtain ⟨v6,h5,h⟩:=bind_some h
    refine d5 1026 (my hK h5) (d4 27) (aH 7 3 ?_)
    obtain ⟨v7,h6,h⟩:=bind_some h
    refine d5 1030 (nc hK h6) (d4 2012) (aj (ae (ks':=[cF6 p6_38,cF6 p6_39,cF6 p6_40]) 2 (ap 1 (ao (aK ag v6) (aH 3 1 (ao (aK ag v7) (aj ?_)))))))
    rcases aq h with ⟨h7,h⟩ | ⟨h7,h⟩
    ·
     refine ah 35 h7 (aJ 5 ?_)
     cases h
     exact bo
    ·
     exact ah 35 h7 (ae (ks':=[cF6 p6_41,cF6 p6_42,cF6 dM]) 4 (ap 1 (ao (aK ag v6) (aj (af 1 (aM (p:=p6_43) n (nt hK n h)))))))
end
noncomputable section
variable {K:Kn} {n:Nat} {M:Nat→Prop} {w0:Base} {r:Int} {v1:ab} 
theorem mq (hK:KnOk K) (h:ku K n v1=some r):ACalls Try.prog 37 [.agg (am v1)] (fun v _=>v=iI r):=by
  refine br (cat Try.f37 []) Try.func37 Try.ntmps37 fun M w0=>(aY ⟨[(0,.agg (am v1))],[],[],[]⟩ ?_)
  unfold ku at h
  refine aJ 5 ?_
  cases h
  exact bo
end
noncomputable section
variable {K:Kn} {n:Nat} {M:Nat→Prop} {w0:Base} {r:Bool} {v1:Int} 
theorem oe (hK:KnOk K) (h:kW K n v1=some r):ACalls Try.prog 62 [iI v1] (fun v _=>v = .bool r):=by
  refine br (cat Try.f62 []) Try.func62 Try.ntmps62 fun M w0=>(aY ⟨[(0,iI v1)],[],[],[]⟩ ?_)
  unfold kW at h
  refine aJ 5 ?_
  cases h
  exact bo
end
end Go.Proofs.Ytolhpahjgddjkaa

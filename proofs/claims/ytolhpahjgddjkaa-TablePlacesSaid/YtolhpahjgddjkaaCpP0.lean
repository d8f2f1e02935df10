/- The runs of the functions that TablePlaces reaches do what their plain forms say, part 0. Made by a program. -/
import Derived.Test.YtolhpahjgddjkaaCpGk
namespace Go.Proofs.Ytolhpahjgddjkaa
open Go.RowKit
set_option maxRecDepth 20000
set_option linter.all false
set_option linter.unusedVariables false
set_option linter.unusedSimpArgs false
def p10_0:=pth 0 1110100
def bj:=pth 0 1110100110011111
def aH:=pth 0 1110100111
def p10_3:=pth 0 1110100110011110100
def bL:=pth 0 111010011001111
def p10_5:=pth 0 111010011001110100
def p10_6:=pth 0 111010011001110100110011
def cP:=pth 0 111010011001110100111
def p10_8:=pth 0 11101001100111010011001000
def bJ:=pth 0 1110100110011110100111
def p10_10:=pth 0 111010011001111010011001100
def cr:=pth 0 11101001100111101001100110011
def p10_12:=pth 0 1110100110011110100110011001001100
def p10_13:=pth 0 1110100110011101001100100000
def p10_14:=pth 0 1110100110011101001100100001
def p10_15:=pth 0 111010011001110100110010001
def p10_16:=pth 0 1110100110011101001100110
def p10_17:=pth 0 1110100110011101001100111
def p10_18:=pth 0 11101001100111010011001110
def p10_19:=pth 0 11101001100111010011001111
def p10_20:=pth 0 111010011001111010011001100100110001
def p10_21:=pth 0 11101001100111101001100110010011001
def p10_22:=pth 0 1110100110011110100110011001001100100
def p10_23:=pth 0 111010011001111010011001100100110011
def p10_24:=pth 0 1110100110011110100110011001001
def p10_25:=pth 0 111010011001111010011001100100110
def p10_26:=pth 0 11101001100111101001100110001
def p10_27:=pth 0 1110100110011110100110011001
def p10_28:=pth 0 11101001100111101001100110010000
def p10_29:=pth 0 11101001100111101001100110010001
def p10_30:=pth 0 111010011001111010011001100100010
def p10_31:=pth 0 111010011001111010010
def p10_32:=pth 0 111010011001111010011
def p10_33:=pth 0 111010011001111010011000
def p10_34:=pth 0 111010011001111010011001
def p10_35:=pth 0 11101001100111101001100110
def p10_36:=pth 0 11101001100111010010
def p10_37:=pth 0 11101001100111010011
def p10_38:=pth 0 11101001100111010011000
def p10_39:=pth 0 11101001100111010011001
def p10_40:=pth 0 1110100110011101001100100
def p10_41:=pth 0 11101001100111100
def p10_42:=pth 0 11101001100111101
def p10_43:=pth 0 111010011001111010
def p10_44:=pth 0 111010010
def p10_45:=pth 0 111010011
def p10_46:=pth 0 111010011000
def p10_47:=pth 0 111010011001
def p10_48:=pth 0 1110100110011100
def p10_49:=pth 0 1110100110011101
def p10_50:=pth 0 11101001100111010
def p10_51:=pth 0 11100
def p10_52:=pth 0 11101
def p10_53:=pth 0 111010
noncomputable section
abbrev bl (M:Nat→Prop) (w0:Base):Cx:=⟨Try.prog,116,M,w0⟩
abbrev q10 (M:Nat→Prop) (w0:Base) (r:(List (List aa))×Int):=bodyPost Try.prog Try.f10 (RetQ M w0 (fun v s=>v = .tup [.ref 112,iI r.2]∧look 112 s.r=some ⟨28,1,lm (eSl ab) r.1⟩))
abbrev ae (p:List Nat):Kont:=.c (cat Try.f10 p)
abbrev aF (M:Nat→Prop) (w0:Base) (r:(List (List aa))×Int) (m1:Nat):Kont:=kl (bl M w0) (q10 M w0 r) [.b 0,ae [1,1,1]] (cat Try.f10 p10_0) m1
abbrev bu (M:Nat→Prop) (w0:Base) (r:(List (List aa))×Int) (m1 m4:Nat):Kont:=kl (bl M w0) (q10 M w0 r) [.b 6,ae bj,.b 1,ae aH,aF M w0 r m1,.b 0,ae [1,1,1]] (cat Try.f10 p10_3) m4
abbrev cd (M:Nat→Prop) (w0:Base) (r:(List (List aa))×Int) (m1 m2:Nat):Kont:=kl (bl M w0) (q10 M w0 r) [.b 2,ae bL,.b 1,ae aH,aF M w0 r m1,.b 0,ae [1,1,1]] (cat Try.f10 p10_5) m2
abbrev k10_3 (M:Nat→Prop) (w0:Base) (r:(List (List aa))×Int) (m2 m1 m3:Nat):Kont:=kl (bl M w0) (q10 M w0 r) [.b 4,ae p10_6,.b 3,ae cP,cd M w0 r m1 m2,.b 2,ae bL,.b 1,ae aH,aF M w0 r m1,.b 0,ae [1,1,1]] (cat Try.f10 p10_8) m3
abbrev bX (M:Nat→Prop) (w0:Base) (r:(List (List aa))×Int) (m4 m1 m5:Nat):Kont:=kl (bl M w0) (q10 M w0 r) [.b 8,.b 7,ae bJ,bu M w0 r m1 m4,.b 6,ae bj,.b 1,ae aH,aF M w0 r m1,.b 0,ae [1,1,1]] (cat Try.f10 p10_10) m5
abbrev k10_6 (M:Nat→Prop) (w0:Base) (r:(List (List aa))×Int) (m5 m4 m1 m6:Nat):Kont:=kl (bl M w0) (q10 M w0 r) [.b 10,.b 9,ae cr,bX M w0 r m4 m1 m5,.b 8,.b 7,ae bJ,bu M w0 r m1 m4,.b 6,ae bj,.b 1,ae aH,aF M w0 r m1,.b 0,ae [1,1,1]] (cat Try.f10 p10_12) m6
def s10_l1 (v1:List (List (V2 Int))) (v122:Int) (v123:List (List aa)) (v124:List TMp) (v139 v141 v142:Int) (v143:List aa) (v146:Int) (v147:V2 Int):AS:=⟨[(0,.sl (lm (eSl (eV2 (eInt .i64))) v1)),(2,.ref 112),(3,iI v139),(4,.ref 500018),(5,iI v122),(7,.ref 58),(8,iI v146),(10,.ptr 10 0),(19,.sl (lm (eSl (eV2 (eInt .i64))) v1)),(20,iI (v1.length:Int)),(21,iI v122),(26,.sl (lm (eV2 (eInt .i64)) (gD v1 v122))),(27,iI v141),(28,iI v142)],[(10,(eV2 (eInt .i64)) v147)],[(58,⟨30,4,lm ab v143⟩),(112,⟨28,1,lm (eSl ab) v123⟩),(500018,⟨75,1,lm eOmp v124⟩)],[10,58,112,500018]⟩
def s10_l4 (v1:List (List (V2 Int))) (v122:Int) (v123:List (List aa)) (v139:Int) (v143:List aa) (v166 v175 v181:Int) (v182:List TMp):AS:=⟨[(0,.sl (lm (eSl (eV2 (eInt .i64))) v1)),(2,.ref 112),(3,iI v139),(4,.ref 500018),(5,iI v122),(7,.ref 58),(13,.ptr 13 0),(14,iI v175),(15,iI v181),(19,.sl (lm (eSl (eV2 (eInt .i64))) v1)),(20,iI (v1.length:Int)),(21,iI v122),(67,.ref 58),(68,iI (v143.length:Int)),(69,iI v166)],[(13,ab (gD v143 v166))],[(58,⟨30,4,lm ab v143⟩),(112,⟨28,1,lm (eSl ab) v123⟩),(500018,⟨75,1,lm eOmp v182⟩)],[13,58,112,500018]⟩
def s10_j3 (v1:List (List (V2 Int))) (v122:Int) (v123:List (List aa)) (v139:Int) (v143:List aa) (v166 v175:Int) (v179:List TMp):AS:=⟨[(0,.sl (lm (eSl (eV2 (eInt .i64))) v1)),(2,.ref 112),(3,iI v139),(4,.ref 500018),(5,iI v122),(7,.ref 58),(13,.ptr 13 0),(14,iI v175),(19,.sl (lm (eSl (eV2 (eInt .i64))) v1)),(20,iI (v1.length:Int)),(21,iI v122),(67,.ref 58),(68,iI (v143.length:Int)),(69,iI v166)],[(13,ab (gD v143 v166))],[(58,⟨30,4,lm ab v143⟩),(112,⟨28,1,lm (eSl ab) v123⟩),(500018,⟨75,1,lm eOmp v179⟩)],[13,58,112,500018]⟩
def s10_l5 (v1:List (List (V2 Int))) (v122:Int) (v123:List (List aa)) (v139:Int) (v143:List aa) (v166 v175:Int) (v176:List TMp):AS:=⟨[(0,.sl (lm (eSl (eV2 (eInt .i64))) v1)),(2,.ref 112),(3,iI v139),(4,.ref 500018),(5,iI v122),(7,.ref 58),(13,.ptr 13 0),(14,iI v175),(19,.sl (lm (eSl (eV2 (eInt .i64))) v1)),(20,iI (v1.length:Int)),(21,iI v122),(67,.ref 58),(68,iI (v143.length:Int)),(69,iI v166)],[(13,ab (gD v143 v166))],[(58,⟨30,4,lm ab v143⟩),(112,⟨28,1,lm (eSl ab) v123⟩),(500018,⟨75,1,lm eOmp v176⟩)],[13,58,112,500018]⟩
def s10_l6 (v1:List (List (V2 Int))) (v122:Int) (v123:List (List aa)) (v139:Int) (v143:List aa) (v166:Int) (v167:List TMp):AS:=⟨[(0,.sl (lm (eSl (eV2 (eInt .i64))) v1)),(2,.ref 112),(3,iI v139),(4,.ref 500018),(5,iI v122),(7,.ref 58),(19,.sl (lm (eSl (eV2 (eInt .i64))) v1)),(20,iI (v1.length:Int)),(21,iI v122),(67,.ref 58),(68,iI (v143.length:Int)),(69,iI v166)],[],[(58,⟨30,4,lm ab v143⟩),(112,⟨28,1,lm (eSl ab) v123⟩),(500018,⟨75,1,lm eOmp v167⟩)],[58,112,500018]⟩
def s10_l2 (v1:List (List (V2 Int))) (v122:Int) (v123:List (List aa)) (v124:List TMp) (v139 v140 v141 v142:Int) (v143:List aa):AS:=⟨[(0,.sl (lm (eSl (eV2 (eInt .i64))) v1)),(2,.ref 112),(3,iI v139),(4,.ref 500018),(5,iI v122),(7,.ref 58),(8,iI v140),(19,.sl (lm (eSl (eV2 (eInt .i64))) v1)),(20,iI (v1.length:Int)),(21,iI v122),(26,.sl (lm (eV2 (eInt .i64)) (gD v1 v122))),(27,iI v141),(28,iI v142)],[],[(58,⟨30,4,lm ab v143⟩),(112,⟨28,1,lm (eSl ab) v123⟩),(500018,⟨75,1,lm eOmp v124⟩)],[58,112,500018]⟩
def s10_l7 (v1:List (List (V2 Int))) (v121 v122:Int) (v123:List (List aa)) (v124:List TMp):AS:=⟨[(0,.sl (lm (eSl (eV2 (eInt .i64))) v1)),(2,.ref 112),(3,iI v121),(4,.ref 500018),(19,.sl (lm (eSl (eV2 (eInt .i64))) v1)),(20,iI (v1.length:Int)),(21,iI v122)],[],[(112,⟨28,1,lm (eSl ab) v123⟩),(500018,⟨75,1,lm eOmp v124⟩)],[112,500018]⟩
abbrev bO (M:Nat→Prop) (w0:Base) (r:(List (List aa))×Int) (v1:List (List (V2 Int))) (m1:Nat) (L1:Int→Int→(List (List aa))→(List TMp)→Option ((List (List aa))×Int)):Prop:=∀ {v121:Int} {v122:Int} {v123:(List (List aa))} {v124:(List TMp)},L1 v121 v122 v123 v124=some r→LP (bl M w0) (q10 M w0 r) [.b 0,ae [1,1,1]] (cat Try.f10 p10_0) m1 (s10_l7 v1 v121 v122 v123 v124)
abbrev H10_2 (M:Nat→Prop) (w0:Base) (r:(List (List aa))×Int) (v1:List (List (V2 Int))) (v122:Int) (v123:List (List aa)) (v124:List TMp) (m1 m2:Nat) (L2:Int→Int→Int→Int→(List aa)→Option ((List (List aa))×Int)):Prop:=∀ {v139:Int} {v140:Int} {v141:Int} {v142:Int} {v143:(List aa)},L2 v139 v140 v141 v142 v143=some r→LP (bl M w0) (q10 M w0 r) [.b 2,ae bL,.b 1,ae aH,aF M w0 r m1,.b 0,ae [1,1,1]] (cat Try.f10 p10_5) m2 (s10_l2 v1 v122 v123 v124 v139 v140 v141 v142 v143)
abbrev H10_3 (M:Nat→Prop) (w0:Base) (r:(List (List aa))×Int) (v1:List (List (V2 Int))) (v122:Int) (v123:List (List aa)) (v124:List TMp) (v139 v141 v142:Int) (v143:List aa) (m2 m1 m3:Nat) (L3:Int→(V2 Int)→Option ((List (List aa))×Int)):Prop:=∀ {v146:Int} {v147:(V2 Int)},L3 v146 v147=some r→LP (bl M w0) (q10 M w0 r) [.b 4,ae p10_6,.b 3,ae cP,cd M w0 r m1 m2,.b 2,ae bL,.b 1,ae aH,aF M w0 r m1,.b 0,ae [1,1,1]] (cat Try.f10 p10_8) m3 (s10_l1 v1 v122 v123 v124 v139 v141 v142 v143 v146 v147)
abbrev db (M:Nat→Prop) (w0:Base) (r:(List (List aa))×Int) (v1:List (List (V2 Int))) (v122:Int) (v123:List (List aa)) (v139:Int) (v143:List aa) (m1 m4:Nat) (L4:Int→(List TMp)→Option ((List (List aa))×Int)):Prop:=∀ {v166:Int} {v167:(List TMp)},L4 v166 v167=some r→LP (bl M w0) (q10 M w0 r) [.b 6,ae bj,.b 1,ae aH,aF M w0 r m1,.b 0,ae [1,1,1]] (cat Try.f10 p10_3) m4 (s10_l6 v1 v122 v123 v139 v143 v166 v167)
abbrev H10_5 (M:Nat→Prop) (w0:Base) (r:(List (List aa))×Int) (v1:List (List (V2 Int))) (v122:Int) (v123:List (List aa)) (v139:Int) (v143:List aa) (v166:Int) (m4 m1 m5:Nat) (L5:Int→(List TMp)→Option ((List (List aa))×Int)):Prop:=∀ {v175:Int} {v176:(List TMp)},L5 v175 v176=some r→LP (bl M w0) (q10 M w0 r) [.b 8,.b 7,ae bJ,bu M w0 r m1 m4,.b 6,ae bj,.b 1,ae aH,aF M w0 r m1,.b 0,ae [1,1,1]] (cat Try.f10 p10_10) m5 (s10_l5 v1 v122 v123 v139 v143 v166 v175 v176)
abbrev H10_6 (M:Nat→Prop) (w0:Base) (r:(List (List aa))×Int) (v1:List (List (V2 Int))) (v122:Int) (v123:List (List aa)) (v139:Int) (v143:List aa) (v166 v175:Int) (m5 m4 m1 m6:Nat) (L6:Int→(List TMp)→Option ((List (List aa))×Int)):Prop:=∀ {v181:Int} {v182:(List TMp)},L6 v181 v182=some r→LP (bl M w0) (q10 M w0 r) [.b 10,.b 9,ae cr,bX M w0 r m4 m1 m5,.b 8,.b 7,ae bJ,bu M w0 r m1 m4,.b 6,ae bj,.b 1,ae aH,aF M w0 r m1,.b 0,ae [1,1,1]] (cat Try.f10 p10_12) m6 (s10_l4 v1 v122 v123 v139 v143 v166 v175 v181 v182)
variable {K:Kn} {n:Nat} {M:Nat→Prop} {w0:Base} {r:(List (List aa))×Int} {v1:List (List (V2 Int))} {v121 v122:Int} {v123:List (List aa)} {v124:List TMp} {v139 v140 v141 v142:Int} {v143:List aa} {v146:Int} {v147:V2 Int} {v166:Int} {v167:List TMp} {v175:Int} {v176 v179:List TMp} {v181:Int} {v182:List TMp} {m1:Nat} {L1:Int→Int→(List (List aa))→(List TMp)→Option ((List (List aa))×Int)} {m2:Nat} {L2:Int→Int→Int→Int→(List aa)→Option ((List (List aa))×Int)} {m3:Nat} {L3:Int→(V2 Int)→Option ((List (List aa))×Int)} {m4:Nat} {L4:Int→(List TMp)→Option ((List (List aa))×Int)} {m5:Nat} {L5:Int→(List TMp)→Option ((List (List aa))×Int)} {m6:Nat} {L6:Int→(List TMp)→Option ((List (List aa))×Int)}
theorem j6 (hK:KnOk K) (hL1:bO M w0 r v1 m1 L1) (hL2:H10_2 M w0 r v1 v122 v123 v124 m1 m2 L2) (hL3:H10_3 M w0 r v1 v122 v123 v124 v139 v141 v142 v143 m2 m1 m3 L3) (h:dh K n v1 v122 v123 v124 v139 v141 v142 v143 L1 L2 L3 v146 v147=some r):VE (bl M w0) (q10 M w0 r) [ae p10_8,k10_3 M w0 r m2 m1 m3,.b 4,ae p10_6,.b 3,ae cP,cd M w0 r m1 m2,.b 2,ae bL,.b 1,ae aH,aF M w0 r m1,.b 0,ae [1,1,1]] .normal (s10_l1 v1 v122 v123 v124 v139 v141 v142 v143 v146 v147):=by
  unfold dh at h
  refine ag (ks':=[ae p10_13,ae p10_14,ae p10_15,k10_3 M w0 r m2 m1 m3,.b 4,ae p10_6,.b 3,ae cP,cd M w0 r m1 m2,.b 2,ae bL,.b 1,ae aH,aF M w0 r m1,.b 0,ae [1,1,1]]) 2 (ao 2 ?_)
  obtain ⟨h231,h⟩:=aq h
  refine ap (bd 500018 1 eOmp h231) (ot_ldm (L:=v124) (id:=500018) (et:=75) (T:=75) (x:=(.tmp 34)) (decide_eq_true (ay h231).2) (aL 5 1 (ot_lk (L:=v124) (id:=500018) (et:=75) (T:=75) (x:=(.tmp 35)) (y:=(.tmp 36)) (n:=v146) (decide_eq_true (ay h231).2) (ak ?_))))
  obtain ⟨v148,h232,h⟩:=bind_some h
  have h232:=Option.some.inj h232
  refine aQ (ks':=[ae p10_14,ae p10_15,k10_3 M w0 r m2 m1 m3,.b 4,ae p10_6,.b 3,ae cP,cd M w0 r m1 m2,.b 2,ae bL,.b 1,ae aH,aF M w0 r m1,.b 0,ae [1,1,1]]) 0 ⟨[(0,.sl (lm (eSl (eV2 (eInt .i64))) v1)),(2,.ref 112),(3,iI v139),(4,.ref 500018),(5,iI v122),(7,.ref 58),(8,iI v146),(10,.ptr 10 0),(19,.sl (lm (eSl (eV2 (eInt .i64))) v1)),(20,iI (v1.length:Int)),(21,iI v122),(26,.sl (lm (eV2 (eInt .i64)) (gD v1 v122))),(27,iI v141),(28,iI v142),(37,.bool v148)],[(10,(eV2 (eInt .i64)) v147)],[(58,⟨30,4,lm ab v143⟩),(112,⟨28,1,lm (eSl ab) v123⟩),(500018,⟨75,1,lm eOmp v124⟩)],[10,58,112,500018]⟩ ?_ (by subst h232; kernel_rfl)
  rcases au h with ⟨h233,h⟩ | ⟨h233,h⟩
  ·
   exact ai 37 h233 (aj 5 (aJ (hL3 h)))
  ·
   refine ai 37 h233 (ag (ks':=[ae p10_16,ae p10_17,.b 3,ae cP,cd M w0 r m1 m2,.b 2,ae bL,.b 1,ae aH,aF M w0 r m1,.b 0,ae [1,1,1]]) 6 (ao 6 (ap (aA (eSl (eV2 (eInt .i64))) v1) (ak ?_))))
   obtain ⟨v149,h234,h⟩:=bind_some h
   have h234:=Option.some.inj h234
   refine aQ (ks':=[ae p10_18,ae p10_19,.b 3,ae cP,cd M w0 r m1 m2,.b 2,ae bL,.b 1,ae aH,aF M w0 r m1,.b 0,ae [1,1,1]]) 1 ⟨[(0,.sl (lm (eSl (eV2 (eInt .i64))) v1)),(2,.ref 112),(3,iI v139),(4,.ref 500018),(5,iI v122),(7,.ref 58),(8,iI v146),(11,.ptr 11 0),(19,.sl (lm (eSl (eV2 (eInt .i64))) v1)),(20,iI (v1.length:Int)),(21,iI v122),(26,.sl (lm (eV2 (eInt .i64)) (gD v1 v122))),(27,iI v141),(28,iI v142)],[(11,ab (⟨v122,v146,v149,(min (max v147.a1 1) 100)⟩:aa))],[(58,⟨30,4,lm ab v143⟩),(112,⟨28,1,lm (eSl ab) v123⟩),(500018,⟨75,1,lm eOmp v124⟩)],[11,58,112,500018]⟩ ?_ (by subst h234; kernel_rfl)
   refine ao 3 ?_
   obtain ⟨h235,h⟩:=aq h
   exact ap (dU 58 58 30 4 ab (rfl) (bK) h235) (ak (aj 5 (aJ (hL2 h))))
theorem jq (hK:KnOk K) (hL1:bO M w0 r v1 m1 L1) (hL2:H10_2 M w0 r v1 v122 v123 v124 m1 m2 L2) (m:Nat):H10_3 M w0 r v1 v122 v123 v124 v139 v141 v142 v143 m2 m1 m (cC K n v1 v122 v123 v124 v139 v141 v142 v143 L1 L2 m):=by
  induction m with
 | zero=>intro v146 v147 h; cases h
 | succ m ih=>intro v146 v147 h; have h:dh K n v1 v122 v123 v124 v139 v141 v142 v143 L1 L2 (cC K n v1 v122 v123 v124 v139 v141 v142 v143 L1 L2 m) v146 v147=some r:=h; exact aK (j6 hK hL1 hL2 ih h)
theorem jv (hK:KnOk K) (hL1:bO M w0 r v1 m1 L1) (hL4:db M w0 r v1 v122 v123 v139 v143 m1 m4 L4) (hL5:H10_5 M w0 r v1 v122 v123 v139 v143 v166 m4 m1 m5 L5) (hL6:H10_6 M w0 r v1 v122 v123 v139 v143 v166 v175 m5 m4 m1 m6 L6) (h:ec K n v1 v122 v123 v139 v143 v166 v175 L1 L4 L5 L6 v181 v182=some r):VE (bl M w0) (q10 M w0 r) [ae p10_12,k10_6 M w0 r m5 m4 m1 m6,.b 10,.b 9,ae cr,bX M w0 r m4 m1 m5,.b 8,.b 7,ae bJ,bu M w0 r m1 m4,.b 6,ae bj,.b 1,ae aH,aF M w0 r m1,.b 0,ae [1,1,1]] .normal (s10_l4 v1 v122 v123 v139 v143 v166 v175 v181 v182):=by
  unfold ec at h
  obtain ⟨v183,h292,h⟩:=bind_some h
  have h292:=Option.some.inj h292
  refine aQ (ks':=[ae p10_20,ae p10_21,k10_6 M w0 r m5 m4 m1 m6,.b 10,.b 9,ae cr,bX M w0 r m4 m1 m5,.b 8,.b 7,ae bJ,bu M w0 r m1 m4,.b 6,ae bj,.b 1,ae aH,aF M w0 r m1,.b 0,ae [1,1,1]]) 3 ⟨[(0,.sl (lm (eSl (eV2 (eInt .i64))) v1)),(2,.ref 112),(3,iI v139),(4,.ref 500018),(5,iI v122),(7,.ref 58),(13,.ptr 13 0),(14,iI v175),(15,iI v181),(19,.sl (lm (eSl (eV2 (eInt .i64))) v1)),(20,iI (v1.length:Int)),(21,iI v122),(67,.ref 58),(68,iI (v143.length:Int)),(69,iI v166),(100,.bool v183)],[(13,ab (gD v143 v166))],[(58,⟨30,4,lm ab v143⟩),(112,⟨28,1,lm (eSl ab) v123⟩),(500018,⟨75,1,lm eOmp v182⟩)],[13,58,112,500018]⟩ ?_ (by subst h292; kernel_rfl)
  rcases au h with ⟨h293,h⟩ | ⟨h293,h⟩
  ·
   refine ai 100 h293 (ag (ks':=[ae p10_22,.b 11,ae p10_23,k10_6 M w0 r m5 m4 m1 m6,.b 10,.b 9,ae cr,bX M w0 r m4 m1 m5,.b 8,.b 7,ae bJ,bu M w0 r m1 m4,.b 6,ae bj,.b 1,ae aH,aF M w0 r m1,.b 0,ae [1,1,1]]) 4 (ao 2 ?_))
   obtain ⟨h294,h⟩:=aq h
   refine ap (bd 500018 1 eOmp h294) (ot_ldm (L:=v182) (id:=500018) (et:=75) (T:=75) (x:=(.tmp 105)) (decide_eq_true (ay h294).2) (aL 5 1 ?_))
   obtain ⟨h295,h⟩:=aq h
   exact ot_mup (L:=v182) (id:=500018) (et:=75) (T:=75) (x:=(.tmp 106)) (y:=(.tmp 107)) (z:=(.const (.bool true))) (n:=v181) (b:=true) (decide_eq_true (ay h294).2) h295 (ak (aj 2 (aJ (hL6 h))))
  ·
   exact ai 100 h293 (aj 7 (aJ (hL5 h)))
theorem jF (hK:KnOk K) (hL1:bO M w0 r v1 m1 L1) (hL4:db M w0 r v1 v122 v123 v139 v143 m1 m4 L4) (hL5:H10_5 M w0 r v1 v122 v123 v139 v143 v166 m4 m1 m5 L5) (m:Nat):H10_6 M w0 r v1 v122 v123 v139 v143 v166 v175 m5 m4 m1 m (dg K n v1 v122 v123 v139 v143 v166 v175 L1 L4 L5 m):=by
  induction m with
 | zero=>intro v181 v182 h; cases h
 | succ m ih=>intro v181 v182 h; have h:ec K n v1 v122 v123 v139 v143 v166 v175 L1 L4 L5 (dg K n v1 v122 v123 v139 v143 v166 v175 L1 L4 L5 m) v181 v182=some r:=h; exact aK (jv hK hL1 hL4 hL5 ih h)
theorem ig (hK:KnOk K) (hL1:bO M w0 r v1 m1 L1) (hL4:db M w0 r v1 v122 v123 v139 v143 m1 m4 L4) (hL5:H10_5 M w0 r v1 v122 v123 v139 v143 v166 m4 m1 m5 L5) (h:dz K n v1 v122 v123 v139 v143 v166 v175 L1 L4 L5 v179=some r):VE (bl M w0) (q10 M w0 r) [ae p10_24,.b 9,ae cr,bX M w0 r m4 m1 m5,.b 8,.b 7,ae bJ,bu M w0 r m1 m4,.b 6,ae bj,.b 1,ae aH,aF M w0 r m1,.b 0,ae [1,1,1]] .normal (s10_j3 v1 v122 v123 v139 v143 v166 v175 v179):=by
  unfold dz at h
  exact aj 3 (aI (p:=p10_25) n (jF hK hL1 hL4 hL5 n h))
theorem j7 (hK:KnOk K) (hL1:bO M w0 r v1 m1 L1) (hL4:db M w0 r v1 v122 v123 v139 v143 m1 m4 L4) (hL5:H10_5 M w0 r v1 v122 v123 v139 v143 v166 m4 m1 m5 L5) (h:ee K n v1 v122 v123 v139 v143 v166 L1 L4 L5 v175 v176=some r):VE (bl M w0) (q10 M w0 r) [ae p10_10,bX M w0 r m4 m1 m5,.b 8,.b 7,ae bJ,bu M w0 r m1 m4,.b 6,ae bj,.b 1,ae aH,aF M w0 r m1,.b 0,ae [1,1,1]] .normal (s10_l5 v1 v122 v123 v139 v143 v166 v175 v176):=by
  unfold ee at h
  obtain ⟨v177,h282,h⟩:=bind_some h
  have h282:=Option.some.inj h282
  refine aQ (ks':=[ae p10_26,ae p10_27,bX M w0 r m4 m1 m5,.b 8,.b 7,ae bJ,bu M w0 r m1 m4,.b 6,ae bj,.b 1,ae aH,aF M w0 r m1,.b 0,ae [1,1,1]]) 3 ⟨[(0,.sl (lm (eSl (eV2 (eInt .i64))) v1)),(2,.ref 112),(3,iI v139),(4,.ref 500018),(5,iI v122),(7,.ref 58),(13,.ptr 13 0),(14,iI v175),(19,.sl (lm (eSl (eV2 (eInt .i64))) v1)),(20,iI (v1.length:Int)),(21,iI v122),(67,.ref 58),(68,iI (v143.length:Int)),(69,iI v166),(80,.bool v177)],[(13,ab (gD v143 v166))],[(58,⟨30,4,lm ab v143⟩),(112,⟨28,1,lm (eSl ab) v123⟩),(500018,⟨75,1,lm eOmp v176⟩)],[13,58,112,500018]⟩ ?_ (by subst h282; kernel_rfl)
  rcases au h with ⟨h283,h⟩ | ⟨h283,h⟩
  ·
   refine ai 80 h283 (ag (ks':=[ae p10_28,ae p10_29,ae p10_24,.b 9,ae cr,bX M w0 r m4 m1 m5,.b 8,.b 7,ae bJ,bu M w0 r m1 m4,.b 6,ae bj,.b 1,ae aH,aF M w0 r m1,.b 0,ae [1,1,1]]) 6 (ao 2 ?_))
   obtain ⟨h284,h⟩:=aq h
   refine ap (bd 500018 1 eOmp h284) (ot_ldm (L:=v176) (id:=500018) (et:=75) (T:=75) (x:=(.tmp 85)) (decide_eq_true (ay h284).2) (ot_mnil true (L:=v176) (id:=500018) (op:=.eql) (et:=75) (T:=75) (T':=75) (x:=(.tmp 86)) (y:=(.const (.map none))) (decide_eq_true (ay h284).2) (ak ?_)))
   obtain ⟨v178,h285,h⟩:=bind_some h
   have h285:=Option.some.inj h285
   refine aQ (ks':=[ae p10_29,ae p10_24,.b 9,ae cr,bX M w0 r m4 m1 m5,.b 8,.b 7,ae bJ,bu M w0 r m1 m4,.b 6,ae bj,.b 1,ae aH,aF M w0 r m1,.b 0,ae [1,1,1]]) 0 ⟨[(0,.sl (lm (eSl (eV2 (eInt .i64))) v1)),(2,.ref 112),(3,iI v139),(4,.ref 500018),(5,iI v122),(7,.ref 58),(13,.ptr 13 0),(14,iI v175),(19,.sl (lm (eSl (eV2 (eInt .i64))) v1)),(20,iI (v1.length:Int)),(21,iI v122),(67,.ref 58),(68,iI (v143.length:Int)),(69,iI v166),(87,.bool v178)],[(13,ab (gD v143 v166))],[(58,⟨30,4,lm ab v143⟩),(112,⟨28,1,lm (eSl ab) v123⟩),(500018,⟨75,1,lm eOmp v176⟩)],[13,58,112,500018]⟩ ?_ (by subst h285; kernel_rfl)
   rcases au h with ⟨h286,h⟩ | ⟨h286,h⟩
   ·
    refine ai 87 h286 (ag (ks':=[ae p10_30,ae p10_24,.b 9,ae cr,bX M w0 r m4 m1 m5,.b 8,.b 7,ae bJ,bu M w0 r m1 m4,.b 6,ae bj,.b 1,ae aH,aF M w0 r m1,.b 0,ae [1,1,1]]) 1 (ao 2 ?_))
    obtain ⟨h287,h⟩:=aq h
    exact ot_mms (L:=v176) (id:=500018) (d1:=90) (d2:=91) (et:=75) (T:=75) (T1:=74) (T2:=75) (x:=(.tmp 88)) (y:=(.tmp 89)) (j:=v175) h287 (ak (aj 0 (ig hK hL1 hL4 hL5 h)))
   ·
    exact ai 87 h286 (aj 2 (ig hK hL1 hL4 hL5 h))
  ·
   exact ai 80 h283 (aj 7 (aJ (hL4 h)))
theorem jT (hK:KnOk K) (hL1:bO M w0 r v1 m1 L1) (hL4:db M w0 r v1 v122 v123 v139 v143 m1 m4 L4) (m:Nat):H10_5 M w0 r v1 v122 v123 v139 v143 v166 m4 m1 m (cy K n v1 v122 v123 v139 v143 v166 L1 L4 m):=by
  induction m with
 | zero=>intro v175 v176 h; cases h
 | succ m ih=>intro v175 v176 h; have h:ee K n v1 v122 v123 v139 v143 v166 L1 L4 (cy K n v1 v122 v123 v139 v143 v166 L1 L4 m) v175 v176=some r:=h; exact aK (j7 hK hL1 hL4 ih h)
theorem ju (hK:KnOk K) (hL1:bO M w0 r v1 m1 L1) (hL4:db M w0 r v1 v122 v123 v139 v143 m1 m4 L4) (h:d5 K n v1 v122 v123 v139 v143 L1 L4 v166 v167=some r):VE (bl M w0) (q10 M w0 r) [ae p10_3,bu M w0 r m1 m4,.b 6,ae bj,.b 1,ae aH,aF M w0 r m1,.b 0,ae [1,1,1]] .normal (s10_l6 v1 v122 v123 v139 v143 v166 v167):=by
  unfold d5 at h
  refine ag (ks':=[ae p10_31,ae p10_32,bu M w0 r m1 m4,.b 6,ae bj,.b 1,ae aH,aF M w0 r m1,.b 0,ae [1,1,1]]) 3 ?_
  rcases au h with ⟨h266,h⟩ | ⟨h266,h⟩
  ·
   refine ai 70 h266 (ag (ks':=[ae p10_33,ae p10_34,.b 7,ae bJ,bu M w0 r m1 m4,.b 6,ae bj,.b 1,ae aH,aF M w0 r m1,.b 0,ae [1,1,1]]) 5 (ao 0 ?_))
   obtain ⟨h267,h⟩:=aq h
   exact ap (bd 58 4 ab h267) (ap (aD 30 0 ab ab (ay h267).2 (fun _=>rfl)) (ak (aj 3 (aI (p:=p10_35) n (jT hK hL1 hL4 n h)))))
  ·
   refine ai 70 h266 (ag (ks':=[ae bj,.b 1,ae aH,aF M w0 r m1,.b 0,ae [1,1,1]]) 5 (ao 2 (ot_f 58 (aL 3 1 ?_))))
   obtain ⟨h296,h⟩:=aq h
   exact ap (dU 112 112 28 1 (eSl ab) (rfl) (fun _=>rfl) h296) (ak (aj 2 (aJ (hL1 h))))
theorem iX (hK:KnOk K) (hL1:bO M w0 r v1 m1 L1) (m:Nat):db M w0 r v1 v122 v123 v139 v143 m1 m (cA K n v1 v122 v123 v139 v143 L1 m):=by
  induction m with
 | zero=>intro v166 v167 h; cases h
 | succ m ih=>intro v166 v167 h; have h:d5 K n v1 v122 v123 v139 v143 L1 (cA K n v1 v122 v123 v139 v143 L1 m) v166 v167=some r:=h; exact aK (ju hK hL1 ih h)
theorem jr (hK:KnOk K) (hL1:bO M w0 r v1 m1 L1) (hL2:H10_2 M w0 r v1 v122 v123 v124 m1 m2 L2) (h:eh K n v1 v122 v123 v124 L1 L2 v139 v140 v141 v142 v143=some r):VE (bl M w0) (q10 M w0 r) [ae p10_5,cd M w0 r m1 m2,.b 2,ae bL,.b 1,ae aH,aF M w0 r m1,.b 0,ae [1,1,1]] .normal (s10_l2 v1 v122 v123 v124 v139 v140 v141 v142 v143):=by
  unfold eh at h
  refine ag (ks':=[ae p10_36,ae p10_37,cd M w0 r m1 m2,.b 2,ae bL,.b 1,ae aH,aF M w0 r m1,.b 0,ae [1,1,1]]) 3 ?_
  rcases au h with ⟨h225,h⟩ | ⟨h225,h⟩
  ·
   refine ai 29 h225 (ag (ks':=[ae p10_38,ae p10_39,.b 3,ae cP,cd M w0 r m1 m2,.b 2,ae bL,.b 1,ae aH,aF M w0 r m1,.b 0,ae [1,1,1]]) 5 (ao 0 ?_))
   obtain ⟨h226,h⟩:=aq h
   exact ap (aV (eV2 (eInt .i64)) (eV2 (eInt .i64)) (sz:=2) h226 (fun _=>rfl) (fun _=>rfl)) (ak (aj 2 (aI (p:=p10_40) n (jq hK hL1 hL2 n h))))
  ·
   exact ai 29 h225 (ag (ks':=[ae p10_41,ae p10_42,ae bj,.b 1,ae aH,aF M w0 r m1,.b 0,ae [1,1,1]]) 7 (ao 1 (ap (aA ab v143) (ak (aj 1 (aI (p:=p10_43) n (iX hK hL1 n h)))))))
theorem jH (hK:KnOk K) (hL1:bO M w0 r v1 m1 L1) (m:Nat):H10_2 M w0 r v1 v122 v123 v124 m1 m (cR K n v1 v122 v123 v124 L1 m):=by
  induction m with
 | zero=>intro v139 v140 v141 v142 v143 h; cases h
 | succ m ih=>intro v139 v140 v141 v142 v143 h; have h:eh K n v1 v122 v123 v124 L1 (cR K n v1 v122 v123 v124 L1 m) v139 v140 v141 v142 v143=some r:=h; exact aK (jr hK hL1 ih h)
theorem jl (hK:KnOk K) (hL1:bO M w0 r v1 m1 L1) (h:eB K n v1 L1 v121 v122 v123 v124=some r):VE (bl M w0) (q10 M w0 r) [ae p10_0,aF M w0 r m1,.b 0,ae [1,1,1]] .normal (s10_l7 v1 v121 v122 v123 v124):=by
  unfold eB at h
  refine ag (ks':=[ae p10_44,ae p10_45,aF M w0 r m1,.b 0,ae [1,1,1]]) 3 ?_
  rcases au h with ⟨h199,h⟩ | ⟨h199,h⟩
  ·
   refine ai 22 h199 (ag (ks':=[ae p10_46,ae p10_47,.b 1,ae aH,aF M w0 r m1,.b 0,ae [1,1,1]]) 5 (ao 1 ?_))
   obtain ⟨h200,h⟩:=aq h
   exact ap (aV (eSl (eV2 (eInt .i64))) (eSl (eV2 (eInt .i64))) h200 (fun _=>rfl) (fun _=>rfl)) (ak (ag (ks':=[ae p10_48,ae p10_49,ae bL,.b 1,ae aH,aF M w0 r m1,.b 0,ae [1,1,1]]) 6 (ao 1 (ap (aA (eV2 (eInt .i64)) (gD v1 v122)) (ak (ag (ks':=[ae p10_50,.b 2,ae bL,.b 1,ae aH,aF M w0 r m1,.b 0,ae [1,1,1]]) 1 (bG [0,2,3,4,5,7,8,19,20,21,26,27,28] [] [112,500018] (ve_w 58 7 30 4 (aj 0 (aI (p:=p10_50) n (jH hK hL1 n h)))))))))))
  ·
   refine ai 22 h199 (aG 8 ?_)
   cases h
   exact ci
theorem jL (hK:KnOk K) (m:Nat):bO M w0 r v1 m (cJ K n v1 m):=by
  induction m with
 | zero=>intro v121 v122 v123 v124 h; cases h
 | succ m ih=>intro v121 v122 v123 v124 h; have h:eB K n v1 (cJ K n v1 m) v121 v122 v123 v124=some r:=h; exact aK (jl hK ih h)
theorem ip (hK:KnOk K) (h:dP K n v1=some r):ACalls Try.prog 10 [.sl (lm (eSl (eV2 (eInt .i64))) v1)] (fun v s=>v = .tup [.ref 112,iI r.2]∧look 112 s.r=some ⟨28,1,lm (eSl ab) r.1⟩):=by
  refine bn (cat Try.f10 []) Try.func10 Try.ntmps10 fun M w0=>(aU ⟨[(0,.sl (lm (eSl (eV2 (eInt .i64))) v1))],[],[],[]⟩ ?_)
  unfold dP at h
  refine ag (ks':=[ae [1,0],ae [1,1]]) 3 (ao 1 (ap (aA (eSl (eV2 (eInt .i64))) v1) ?_))
  obtain ⟨h1,h⟩:=aq h
  refine cH eNilm (none:TMp) 74 (.tmp 17) (.tmp 17) 18 (e:=75) (sz:=1) (zc:=[.nilm]) (kd:=.i64) (kd':=.i64) h1 (ot_m 18 500018 (ot_om 500018 ((v1.length:Int)).toNat 75 (ak ?_)))
  obtain ⟨v2,h2,h⟩:=bind_some h
  have h2:=Option.some.inj h2
  refine aQ (ks':=[ae p10_51,ae p10_52,ae [1,1,1]]) 2 ⟨[(0,.sl (lm (eSl (eV2 (eInt .i64))) v1)),(2,.nils),(3,iI 0),(4,.ref 500018)],[],[(500018,⟨75,1,lm eOmp v2⟩)],[500018]⟩ ?_ (by subst h2; kernel_rfl)
  exact ao 1 (ap (aA (eSl (eV2 (eInt .i64))) v1) (ak (ag (ks':=[ae p10_53,.b 0,ae [1,1,1]]) 1 (bG [0,2,3,4,19,20,21] [] [500018] (ve_w 112 2 28 1 (aj 0 (aI (p:=p10_53) n (jL hK n h))))))))
end
noncomputable section
variable {K:Kn} {n:Nat} {M:Nat→Prop} {w0:Base} {r v1:Int} 
theorem f8 (hK:KnOk K) (h:dB K n v1=some r):ACalls Try.prog 26 [iI v1] (fun v _=>v=iI r):=by
  refine bn (cat Try.f26 []) Try.func26 Try.ntmps26 fun M w0=>(aU ⟨[(0,iI v1)],[],[],[]⟩ ?_)
  unfold dB at h
  refine aG 5 ?_
  cases h
  exact aX
end
noncomputable section
variable {K:Kn} {n:Nat} {M:Nat→Prop} {w0:Base} {r v1 v2:Int} 
theorem gj (hK:KnOk K) (h:ex K n v1 v2=some r):ACalls Try.prog 57 [iI v1,iI v2] (fun v _=>v=iI r):=by
  refine bn (cat Try.f57 []) Try.func57 Try.ntmps57 fun M w0=>(aU ⟨[(0,iI v1),(1,iI v2)],[],[],[]⟩ ?_)
  unfold ex at h
  refine aG 5 ?_
  cases h
  exact aX
end
def dj:=pth 0 110011
def p80_1:=pth 0 1100100100
def p80_2:=pth 0 110010010001
def p80_3:=pth 0 11001001001
def p80_4:=pth 0 1100100100100
def p80_5:=pth 0 110010010011
def p80_6:=pth 0 110010010000
def p80_7:=pth 0 110001
def p80_8:=pth 0 11001
def p80_9:=pth 0 110010010
noncomputable section
abbrev da (M:Nat→Prop) (w0:Base):Cx:=⟨Try.prog,53,M,w0⟩
abbrev q80 (M:Nat→Prop) (w0:Base) (r:List Int):=bodyPost Try.prog Try.f80 (RetQ M w0 (fun v s=>v = .tup []∧look 0 s.r=some ⟨3,1,lm (eInt .i64) r⟩))
abbrev cI (M:Nat→Prop) (w0:Base) (r:List Int) (m1:Nat):Kont:=kl (da M w0) (q80 M w0 r) [.b 0] (cat Try.f80 [1,0,0]) m1
abbrev bp (p:List Nat):Kont:=.c (cat Try.f80 p)
abbrev k80_2 (M:Nat→Prop) (w0:Base) (r:List Int) (m1 m2:Nat):Kont:=kl (da M w0) (q80 M w0 r) [.b 2,.b 1,bp dj,cI M w0 r m1,.b 0] (cat Try.f80 p80_1) m2
def s80_j1 (v2 v3:Int) (v4:Fv) (v11 v15:Int) (v16:List Int) (v18:Bool):AS:=⟨[(0,.ref 0),(1,iI v2),(2,iI v3),(3,.fn v4.id v4.caps),(8,iI v11),(9,iI v15),(34,.bool v18)],[],[(0,⟨3,1,lm (eInt .i64) v16⟩)],[0,1000000,0]⟩
def s80_l2 (v2 v3:Int) (v4:Fv) (v11 v15:Int) (v16:List Int):AS:=⟨[(0,.ref 0),(1,iI v2),(2,iI v3),(3,.fn v4.id v4.caps),(8,iI v11),(9,iI v15)],[],[(0,⟨3,1,lm (eInt .i64) v16⟩)],[0,1000000,0]⟩
def s80_l3 (v2 v3:Int) (v4:Fv) (v11:Int) (v12:List Int):AS:=⟨[(0,.ref 0),(1,iI v2),(2,iI v3),(3,.fn v4.id v4.caps),(8,iI v11)],[],[(0,⟨3,1,lm (eInt .i64) v12⟩)],[0,1000000,0]⟩
abbrev H80_1 (M:Nat→Prop) (w0:Base) (r:List Int) (v2 v3:Int) (v4:Fv) (m1:Nat) (L1:Int→(List Int)→Option (List Int)):Prop:=∀ {v11:Int} {v12:(List Int)},L1 v11 v12=some r→LP (da M w0) (q80 M w0 r) [.b 0] (cat Try.f80 [1,0,0]) m1 (s80_l3 v2 v3 v4 v11 v12)
abbrev H80_2 (M:Nat→Prop) (w0:Base) (r:List Int) (v2 v3:Int) (v4:Fv) (v11:Int) (m1 m2:Nat) (L2:Int→(List Int)→Option (List Int)):Prop:=∀ {v15:Int} {v16:(List Int)},L2 v15 v16=some r→LP (da M w0) (q80 M w0 r) [.b 2,.b 1,bp dj,cI M w0 r m1,.b 0] (cat Try.f80 p80_1) m2 (s80_l2 v2 v3 v4 v11 v15 v16)
variable {K:Kn} {n:Nat} {M:Nat→Prop} {w0:Base} {r v1:List Int} {v2 v3:Int} {v4:Fv} {v11:Int} {v12:List Int} {v15:Int} {v16:List Int} {v18:Bool} {m1:Nat} {L1:Int→(List Int)→Option (List Int)} {m2:Nat} {L2:Int→(List Int)→Option (List Int)}
theorem hF (hK:KnOk K) (hL1:H80_1 M w0 r v2 v3 v4 m1 L1) (hL2:H80_2 M w0 r v2 v3 v4 v11 m1 m2 L2) (h:fU K n v2 v3 v4 v11 v15 v16 L1 L2 v18=some r):VE (da M w0) (q80 M w0 r) [bp p80_2,bp p80_3,k80_2 M w0 r m1 m2,.b 2,.b 1,bp dj,cI M w0 r m1,.b 0] .normal (s80_j1 v2 v3 v4 v11 v15 v16 v18):=by
  unfold fU at h
  rcases au h with ⟨h34,h⟩ | ⟨h34,h⟩
  ·
   refine ai 34 h34 (ag (ks':=[bp p80_4,.b 3,bp p80_5,k80_2 M w0 r m1 m2,.b 2,.b 1,bp dj,cI M w0 r m1,.b 0]) 4 (bG [0,1,2,3,8,9] [] [0] ?_))
   obtain ⟨h35,h⟩:=aq h
   obtain ⟨h36,h⟩:=aq h
   obtain ⟨h37,h⟩:=aq h
   obtain ⟨h38,h⟩:=aq h
   exact bk 2 (nu 37 [.ref 0,iI v15,.ref 0,iI v15,iI (w64 (v15 - 1)),.ref 0,iI v15,iI (w64 (v15 - 1)),.eptr 0 1 (((w64 (v15 - 1))).toNat) 0,iI (gD v16 ((w64 (v15 - 1)))),.ref 0,iI v15,.eptr 0 1 (v15.toNat) 0,iI (gD v16 v15),.eptr 0 1 (v15.toNat) 0,.eptr 0 1 (((w64 (v15 - 1))).toNat) 0]) [] [] [strS 0 ⟨3,1,lm (eInt .i64) (List.set v16 v15.toNat (gD v16 ((w64 (v15 - 1)))))⟩,strS 0 ⟨3,1,lm (eInt .i64) (List.set (List.set v16 v15.toNat (gD v16 ((w64 (v15 - 1))))) ((w64 (v15 - 1))).toNat (gD v16 v15))⟩] (av [.v 0 1,.v 0 1,.v 0 2,.v 0 2,.v 0 2,.v 0 1,.v 0 1,.v 0 1] (d_v (aB 0 1 (eInt .i64) (L:=v16) h35) (d_v (aD 3 0 (eInt .i64) (eInt .i64) (ay h35).2 (fun _=>rfl)) (av [.v 0 2,.v 0 2] (ac (k_v (lo:=0) (k:=2) (bV ⟨(by kernel_rfl),(b7 (aB 0 1 (eInt .i64) (L:=v16) h36) (by kernel_rfl))⟩ (bV ⟨(by kernel_rfl),(b7 (aB 0 1 (eInt .i64) (L:=(List.set v16 v15.toNat (gD v16 ((w64 (v15 - 1)))))) h36) (by kernel_rfl))⟩ de))) (d_v (aD 3 0 (eInt .i64) (eInt .i64) (ay h37).2 (fun _=>rfl)) (d_v (aB 0 1 (eInt .i64) (L:=v16) h37) (ac (e_s (m:=0) (bx 0 3 1 0 (eInt .i64) (eInt .i64) (gD v16 ((w64 (v15 - 1)))) (ay h37).2 (fun _=>rfl))) (ac (e_v (lo:=1) (aB 0 1 (eInt .i64) (L:=(List.set v16 v15.toNat (gD v16 ((w64 (v15 - 1)))))) h38)) (ac (e_s (m:=1) (bx 0 3 1 0 (eInt .i64) (eInt .i64) (gD v16 v15) (ay h38).2 (fun _=>rfl))) bh)))))))))) (aj 2 (aJ (hL2 h)))
  ·
   exact ai 34 h34 (aj 7 (aJ (hL1 h)))
theorem jI (hK:KnOk K) (hL1:H80_1 M w0 r v2 v3 v4 m1 L1) (hL2:H80_2 M w0 r v2 v3 v4 v11 m1 m2 L2) (h:fS K n v2 v3 v4 v11 L1 L2 v15 v16=some r):VE (da M w0) (q80 M w0 r) [bp p80_1,k80_2 M w0 r m1 m2,.b 2,.b 1,bp dj,cI M w0 r m1,.b 0] .normal (s80_l2 v2 v3 v4 v11 v15 v16):=by
  unfold fS at h
  refine ag (ks':=[bp p80_6,bp p80_2,bp p80_3,k80_2 M w0 r m1 m2,.b 2,.b 1,bp dj,cI M w0 r m1,.b 0]) 2 (bG [0,1,2,3,8,9] [] [0] ?_)
  rcases au h with ⟨h30,h⟩ | ⟨h30,h⟩
  ·
   obtain ⟨h31,h⟩:=aq h
   obtain ⟨h32,h⟩:=aq h
   obtain ⟨v17,h33,h⟩:=bind_some h
   exact bk 0 (nu 18 [iI v15,iI v2,.bool (decide (v15>v2)),.bool true,.fn v4.id v4.caps,.ref 0,iI v15,.eptr 0 1 (v15.toNat) 0,iI (gD v16 v15),.ref 0,iI v15,iI (w64 (v15 - 1)),.eptr 0 1 (((w64 (v15 - 1))).toNat) 0,iI (gD v16 ((w64 (v15 - 1)))),iI v17,.bool (decide (v17<0)),.bool (decide (v17<0))]) [] [] [] (av (vz 3) (ac (e_b 0 21 (e:=(decide (v15>v2))) (b:=true) h30) (av (vz 3) (d_v (aB 0 1 (eInt .i64) (L:=v16) h31) (d_v (aD 3 0 (eInt .i64) (eInt .i64) (ay h31).2 (fun _=>rfl)) (av (vz 3) (d_v (aB 0 1 (eInt .i64) (L:=v16) h32) (d_v (aD 3 0 (eInt .i64) (eInt .i64) (ay h32).2 (fun _=>rfl)) (ac (e_c 0 1 32 (hK.bH h33).2 (hK.bH h33).1) (av (vz 2) bh)))))))))) (aj 0 (hF hK hL1 hL2 h))
  ·
   exact bk 0 (nu 18 [iI v15,iI v2,.bool (decide (v15>v2)),.bool false,.tup [],.tup [],.tup [],.tup [],.tup [],.tup [],.tup [],.tup [],.tup [],.tup [],.tup [],.tup [],.bool false]) [] [] [] (av (vz 3) (ac (e_b 0 21 (e:=(decide (v15>v2))) (b:=false) h30) (ac (af 0 1) (ac (af 0 1) (ac (af 0 1) (ac (af 0 1) (ac (af 0 1) (ac (af 0 1) (ac (af 0 1) (ac (af 0 1) (ac (af 0 1) (ac (af 0 1) (ac (af 0 1) (ac (af 0 1) (av [.v 0 1] bh))))))))))))))) (aj 0 (hF hK hL1 hL2 h))
theorem jN (hK:KnOk K) (hL1:H80_1 M w0 r v2 v3 v4 m1 L1) (m:Nat):H80_2 M w0 r v2 v3 v4 v11 m1 m (fJ K n v2 v3 v4 v11 L1 m):=by
  induction m with
 | zero=>intro v15 v16 h; cases h
 | succ m ih=>intro v15 v16 h; have h:fS K n v2 v3 v4 v11 L1 (fJ K n v2 v3 v4 v11 L1 m) v15 v16=some r:=h; exact aK (jI hK hL1 ih h)
theorem jE (hK:KnOk K) (hL1:H80_1 M w0 r v2 v3 v4 m1 L1) (h:fk K n v2 v3 v4 L1 v11 v12=some r):VE (da M w0) (q80 M w0 r) [bp [1,0,0],cI M w0 r m1,.b 0] .normal (s80_l3 v2 v3 v4 v11 v12):=by
  unfold fk at h
  refine ag (ks':=[bp p80_7,bp p80_8,cI M w0 r m1,.b 0]) 3 ?_
  rcases au h with ⟨h20,h⟩ | ⟨h20,h⟩
  ·
   exact ai 14 h20 (aj 7 (aI (p:=p80_9) n (jN hK hL1 n h)))
  ·
   refine ai 14 h20 (ag (ks':=[]) 5 (dC ?_))
   cases h
   exact ci
theorem jR (hK:KnOk K) (m:Nat):H80_1 M w0 r v2 v3 v4 m (fm K n v2 v3 v4 m):=by
  induction m with
 | zero=>intro v11 v12 h; cases h
 | succ m ih=>intro v11 v12 h; have h:fk K n v2 v3 v4 (fm K n v2 v3 v4 m) v11 v12=some r:=h; exact aK (jE hK ih h)
theorem gZ (hK:KnOk K) (h:fN K n v1 v2 v3 v4=some r):AIO Try.prog 80 [.ref 0,iI v2,iI v3,.fn v4.id v4.caps] 0 ⟨3,1,lm (eInt .i64) v1⟩ (fun v s=>v = .tup []∧look 0 s.r=some ⟨3,1,lm (eInt .i64) r⟩):=by
  refine dr (c:=cat Try.f80 []) Try.func80 (by kernel_rfl) _ Try.ntmps80 (of_decide_eq_true (by kernel_rfl)) fun M w0=>(aU ⟨[(0,.ref 0),(1,iI v2),(2,iI v3),(3,.fn v4.id v4.caps)],[],[(0,⟨3,1,lm (eInt .i64) v1⟩)],[0,1000000]⟩ ?_)
  unfold fN at h
  exact aj 3 (aI (p:=[1,0]) n (jR hK n h))
end
def p95_0:=pth 0 110001
def p95_1:=pth 0 11001
def p95_2:=pth 0 1100100
def p95_3:=pth 0 110011
noncomputable section
abbrev cx95 (M:Nat→Prop) (w0:Base):Cx:=⟨Try.prog,38,M,w0⟩
abbrev q95 (M:Nat→Prop) (w0:Base) (r:List Int):=bodyPost Try.prog Try.f95 (RetQ M w0 (fun v s=>v = .tup []∧look 0 s.r=some ⟨3,1,lm (eInt .i64) r⟩))
abbrev k95_1 (M:Nat→Prop) (w0:Base) (r:List Int) (m1:Nat):Kont:=kl (cx95 M w0) (q95 M w0 r) [.b 0] (cat Try.f95 [1,0,0]) m1
def s95_l1 (v2 v3 v4 v6:Int) (v7:List Int):AS:=⟨[(0,.ref 0),(1,iI v2),(2,iI v3),(3,iI v4),(10,iI v6)],[],[(0,⟨3,1,lm (eInt .i64) v7⟩)],[0,1000000,0]⟩
abbrev H95_1 (M:Nat→Prop) (w0:Base) (r:List Int) (v2 v3 v4:Int) (m1:Nat) (L1:Int→(List Int)→Option (List Int)):Prop:=∀ {v6:Int} {v7:(List Int)},L1 v6 v7=some r→LP (cx95 M w0) (q95 M w0 r) [.b 0] (cat Try.f95 [1,0,0]) m1 (s95_l1 v2 v3 v4 v6 v7)
variable {K:Kn} {n:Nat} {M:Nat→Prop} {w0:Base} {r v1:List Int} {v2 v3 v4:Int} {v5:Fv} {v6:Int} {v7:List Int} {m1:Nat} {L1:Int→(List Int)→Option (List Int)}
abbrev cF95 (p:List Nat):Kont:=.c (cat Try.f95 p)
theorem iY (hK:KnOk K) (hL1:H95_1 M w0 r v2 v3 v4 m1 L1) (h:eK K n v2 v3 v4 L1 v6 v7=some r):VE (cx95 M w0) (q95 M w0 r) [cF95 [1,0,0],k95_1 M w0 r m1,.b 0] .normal (s95_l1 v2 v3 v4 v6 v7):=by
  unfold eK at h
  refine ag (ks':=[cF95 p95_0,cF95 p95_1,k95_1 M w0 r m1,.b 0]) 3 ?_
  rcases au h with ⟨h6,h⟩ | ⟨h6,h⟩
  ·
   refine ai 13 h6 (ag (ks':=[cF95 p95_2,.b 1,cF95 p95_3,k95_1 M w0 r m1,.b 0]) 4 (bG [0,1,2,3,10] [] [0] ?_))
   obtain ⟨h7,h⟩:=aq h
   obtain ⟨h8,h⟩:=aq h
   obtain ⟨h9,h⟩:=aq h
   obtain ⟨h10,h⟩:=aq h
   exact bk 2 (nu 16 [.ref 0,iI v2,iI v6,iI (w64 (v2+v6)),.ref 0,iI v3,iI v6,iI (w64 (v3+v6)),.ref 0,iI v3,iI v6,iI (w64 (v3+v6)),.eptr 0 1 (((w64 (v3+v6))).toNat) 0,iI (gD v7 ((w64 (v3+v6)))),.ref 0,iI v2,iI v6,iI (w64 (v2+v6)),.eptr 0 1 (((w64 (v2+v6))).toNat) 0,iI (gD v7 ((w64 (v2+v6)))),.eptr 0 1 (((w64 (v2+v6))).toNat) 0,.eptr 0 1 (((w64 (v3+v6))).toNat) 0]) [] [] [strS 0 ⟨3,1,lm (eInt .i64) (List.set v7 ((w64 (v2+v6))).toNat (gD v7 ((w64 (v3+v6)))))⟩,strS 0 ⟨3,1,lm (eInt .i64) (List.set (List.set v7 ((w64 (v2+v6))).toNat (gD v7 ((w64 (v3+v6))))) ((w64 (v3+v6))).toNat (gD v7 ((w64 (v2+v6)))))⟩] (av [.v 0 1,.v 0 1,.v 0 1,.v 0 1,.v 0 2,.v 0 2,.v 0 2,.v 0 2,.v 0 1,.v 0 1,.v 0 1,.v 0 1] (d_v (aB 0 1 (eInt .i64) (L:=v7) h7) (d_v (aD 3 0 (eInt .i64) (eInt .i64) (ay h7).2 (fun _=>rfl)) (av [.v 0 2,.v 0 2,.v 0 2,.v 0 2] (ac (k_v (lo:=0) (k:=2) (bV ⟨(by kernel_rfl),(b7 (aB 0 1 (eInt .i64) (L:=v7) h8) (by kernel_rfl))⟩ (bV ⟨(by kernel_rfl),(b7 (aB 0 1 (eInt .i64) (L:=(List.set v7 ((w64 (v2+v6))).toNat (gD v7 ((w64 (v3+v6)))))) h8) (by kernel_rfl))⟩ de))) (d_v (aD 3 0 (eInt .i64) (eInt .i64) (ay h9).2 (fun _=>rfl)) (d_v (aB 0 1 (eInt .i64) (L:=v7) h9) (ac (e_s (m:=0) (bx 0 3 1 0 (eInt .i64) (eInt .i64) (gD v7 ((w64 (v3+v6)))) (ay h9).2 (fun _=>rfl))) (ac (e_v (lo:=1) (aB 0 1 (eInt .i64) (L:=(List.set v7 ((w64 (v2+v6))).toNat (gD v7 ((w64 (v3+v6)))))) h10)) (ac (e_s (m:=1) (bx 0 3 1 0 (eInt .i64) (eInt .i64) (gD v7 ((w64 (v2+v6)))) (ay h10).2 (fun _=>rfl))) bh)))))))))) (aj 2 (aJ (hL1 h)))
  ·
   refine ai 13 h6 (ag (ks':=[]) 5 (dC ?_))
   cases h
   exact ci
theorem jD (hK:KnOk K) (m:Nat):H95_1 M w0 r v2 v3 v4 m (fB K n v2 v3 v4 m):=by
  induction m with
 | zero=>intro v6 v7 h; cases h
 | succ m ih=>intro v6 v7 h; have h:eK K n v2 v3 v4 (fB K n v2 v3 v4 m) v6 v7=some r:=h; exact aK (iY hK ih h)
theorem gd (hK:KnOk K) (h:dX K n v1 v2 v3 v4 v5=some r):AIO Try.prog 95 [.ref 0,iI v2,iI v3,iI v4,.fn v5.id v5.caps] 0 ⟨3,1,lm (eInt .i64) v1⟩ (fun v s=>v = .tup []∧look 0 s.r=some ⟨3,1,lm (eInt .i64) r⟩):=by
  refine dr (c:=cat Try.f95 []) Try.func95 (by kernel_rfl) _ Try.ntmps95 (of_decide_eq_true (by kernel_rfl)) fun M w0=>(aU ⟨[(0,.ref 0),(1,iI v2),(2,iI v3),(3,iI v4),(4,.fn v5.id v5.caps)],[],[(0,⟨3,1,lm (eInt .i64) v1⟩)],[0,1000000]⟩ ?_)
  unfold dX at h
  exact aj 3 (aI (p:=[1,0]) n (jD hK n h))
end
def p92_0:=pth 0 111000
def p92_1:=pth 0 11100001
def p92_2:=pth 0 1110001
def p92_3:=pth 0 111000101
def p92_4:=pth 0 11100010100
def p92_5:=pth 0 11100010101
def p92_6:=pth 0 11100010110
def p92_7:=pth 0 11100010111
def p92_8:=pth 0 11100
noncomputable section
abbrev cx92 (M:Nat→Prop) (w0:Base):Cx:=⟨Try.prog,58,M,w0⟩
abbrev q92 (M:Nat→Prop) (w0:Base) (r:List Int):=bodyPost Try.prog Try.f92 (RetQ M w0 (fun v s=>v = .tup []∧look 0 s.r=some ⟨3,1,lm (eInt .i64) r⟩))
abbrev bq (p:List Nat):Kont:=.c (cat Try.f92 p)
abbrev dm (M:Nat→Prop) (w0:Base) (r:List Int) (m1:Nat):Kont:=kl (cx92 M w0) (q92 M w0 r) [.b 0,bq [1,1,1]] (cat Try.f92 p92_0) m1
def s92_j1 (v3:Int) (v5:Fv) (v16 v17:Int) (v18:List Int):AS:=⟨[(0,.ref 0),(2,iI v3),(4,.fn v5.id v5.caps),(10,iI v16),(11,iI v17)],[],[(0,⟨3,1,lm (eInt .i64) v18⟩)],[0,1000000,0]⟩
def s92_l2 (v3:Int) (v5:Fv) (v11 v12:Int) (v13:List Int):AS:=⟨[(0,.ref 0),(2,iI v3),(4,.fn v5.id v5.caps),(10,iI v11),(11,iI v12)],[],[(0,⟨3,1,lm (eInt .i64) v13⟩)],[0,1000000,0]⟩
abbrev H92_1 (M:Nat→Prop) (w0:Base) (r:List Int) (v3:Int) (v5:Fv) (m1:Nat) (L1:Int→Int→(List Int)→Option (List Int)):Prop:=∀ {v11:Int} {v12:Int} {v13:(List Int)},L1 v11 v12 v13=some r→LP (cx92 M w0) (q92 M w0 r) [.b 0,bq [1,1,1]] (cat Try.f92 p92_0) m1 (s92_l2 v3 v5 v11 v12 v13)
variable {K:Kn} {n:Nat} {M:Nat→Prop} {w0:Base} {r v1:List Int} {v2 v3 v4:Int} {v5:Fv} {v11 v12:Int} {v13:List Int} {v16 v17:Int} {v18:List Int} {m1:Nat} {L1:Int→Int→(List Int)→Option (List Int)}
theorem ix (hK:KnOk K) (hL1:H92_1 M w0 r v3 v5 m1 L1) (h:eF K n v3 v5 L1 v16 v17 v18=some r):VE (cx92 M w0) (q92 M w0 r) [.b 1,dm M w0 r m1,.b 0,bq [1,1,1]] .normal (s92_j1 v3 v5 v16 v17 v18):=by
  unfold eF at h
  exact aj 1 (aJ (hL1 h))
theorem jy (hK:KnOk K) (hL1:H92_1 M w0 r v3 v5 m1 L1) (h:eV K n v3 v5 L1 v11 v12 v13=some r):VE (cx92 M w0) (q92 M w0 r) [bq p92_0,dm M w0 r m1,.b 0,bq [1,1,1]] .normal (s92_l2 v3 v5 v11 v12 v13):=by
  unfold eV at h
  refine ag (ks':=[bq p92_1,bq p92_2,dm M w0 r m1,.b 0,bq [1,1,1]]) 3 ?_
  rcases au h with ⟨h5,h⟩ | ⟨h5,h⟩
  ·
   refine ai 20 h5 (ag (ks':=[bq p92_3,.b 1,dm M w0 r m1,.b 0,bq [1,1,1]]) 5 ?_)
   rcases au h with ⟨h6,h⟩ | ⟨h6,h⟩
   ·
    refine ai 23 h6 (ag (ks':=[bq p92_4,bq p92_5,.b 1,dm M w0 r m1,.b 0,bq [1,1,1]]) 2 (ao 7 ?_))
    obtain ⟨v14,h7,h⟩:=bind_some h
    exact bW 0 0 (gd hK h7) (ak (aj 1 (ix hK hL1 h)))
   ·
    refine ai 23 h6 (ag (ks':=[bq p92_6,bq p92_7,.b 1,dm M w0 r m1,.b 0,bq [1,1,1]]) 2 (ao 11 ?_))
    obtain ⟨v15,h8,h⟩:=bind_some h
    exact bW 0 0 (gd hK h8) (ak (aj 1 (ix hK hL1 h)))
  ·
   refine ai 20 h5 (ag (ks':=[bq [1,1,1]]) 5 (ao 7 ?_))
   obtain ⟨v19,h9,h⟩:=bind_some h
   refine bW 0 0 (gd hK h9) (ak (dC ?_))
   cases h
   exact ci
theorem jb (hK:KnOk K) (m:Nat):H92_1 M w0 r v3 v5 m (eX K n v3 v5 m):=by
  induction m with
 | zero=>intro v11 v12 v13 h; cases h
 | succ m ih=>intro v11 v12 v13 h; have h:eV K n v3 v5 (eX K n v3 v5 m) v11 v12 v13=some r:=h; exact aK (jy hK ih h)
theorem jd (hK:KnOk K) (h:gN K n v1 v2 v3 v4 v5=some r):AIO Try.prog 92 [.ref 0,iI v2,iI v3,iI v4,.fn v5.id v5.caps] 0 ⟨3,1,lm (eInt .i64) v1⟩ (fun v s=>v = .tup []∧look 0 s.r=some ⟨3,1,lm (eInt .i64) r⟩):=by
  refine dr (c:=cat Try.f92 []) Try.func92 (by kernel_rfl) _ Try.ntmps92 (of_decide_eq_true (by kernel_rfl)) fun M w0=>(aU ⟨[(0,.ref 0),(1,iI v2),(2,iI v3),(3,iI v4),(4,.fn v5.id v5.caps)],[],[(0,⟨3,1,lm (eInt .i64) v1⟩)],[0,1000000]⟩ ?_)
  unfold gN at h
  exact aj 6 (aI (p:=p92_8) n (jb hK n h))
end
def p81_0:=pth 0 10101111
def p81_1:=pth 0 10101110100
def dl:=pth 0 1010111
def p81_3:=pth 0 101011000
def p81_4:=pth 0 110101111
def p81_5:=pth 0 110101110100
def dt:=pth 0 11010111
def p81_7:=pth 0 1101011000
def dT:=pth 8 1
def p81_9:=pth 7 1000
def p81_10:=pth 0 1010111010001
def p81_11:=pth 0 101011101001
def p81_12:=pth 0 10101110100100
def p81_13:=pth 0 1010111010011
def p81_14:=pth 0 10101100001
def p81_15:=pth 0 1010110001
def p81_16:=pth 0 1010110001010
def p81_17:=pth 0 1010110001011
def p81_18:=pth 0 1010111010
def p81_19:=pth 0 11010111010001
def p81_20:=pth 0 1101011101001
def p81_21:=pth 0 110101110100100
def p81_22:=pth 0 11010111010011
def p81_23:=pth 0 110101100001
def p81_24:=pth 0 11010110001
def p81_25:=pth 0 11010110001010
def p81_26:=pth 0 11010110001011
def p81_27:=pth 0 11010111010
def p81_28:=pth 12 1
def p81_29:=pth 12 10
def p81_30:=pth 11 1
def p81_31:=pth 11 10
def p81_32:=pth 10 101
def p81_33:=pth 10 1010
def p81_34:=pth 10 1
def p81_35:=pth 10 100
def p81_36:=pth 9 101
def p81_37:=pth 9 1010
def p81_38:=pth 7 100001
def p81_39:=pth 7 10001
def p81_40:=pth 7 10001010
def p81_41:=pth 7 10001011
def p81_42:=pth 9 100
def p81_43:=pth 6 1
def p81_44:=pth 7 100
def p81_45:=pth 0 10101100
def p81_46:=pth 0 110101100
def p81_47:=pth 5 101
noncomputable section
abbrev aW (M:Nat→Prop) (w0:Base):Cx:=⟨Try.prog,220,M,w0⟩
abbrev q81 (M:Nat→Prop) (w0:Base) (r:List Int):=bodyPost Try.prog Try.f81 (RetQ M w0 (fun v s=>v = .tup []∧look 0 s.r=some ⟨3,1,lm (eInt .i64) r⟩))
abbrev am (p:List Nat):Kont:=.c (cat Try.f81 p)
abbrev k81_2 (M:Nat→Prop) (w0:Base) (r:List Int) (m2:Nat):Kont:=kl (aW M w0) (q81 M w0 r) [.b 2,am p81_0,am [1]] (cat Try.f81 p81_1) m2
abbrev k81_1 (M:Nat→Prop) (w0:Base) (r:List Int) (m1:Nat):Kont:=kl (aW M w0) (q81 M w0 r) [.b 0,am dl,am [1]] (cat Try.f81 p81_3) m1
abbrev k81_4 (M:Nat→Prop) (w0:Base) (r:List Int) (m4:Nat):Kont:=kl (aW M w0) (q81 M w0 r) [.b 6,am p81_4,am [1,1]] (cat Try.f81 p81_5) m4
abbrev k81_3 (M:Nat→Prop) (w0:Base) (r:List Int) (m3:Nat):Kont:=kl (aW M w0) (q81 M w0 r) [.b 4,am dt,am [1,1]] (cat Try.f81 p81_7) m3
abbrev k81_5 (M:Nat→Prop) (w0:Base) (r:List Int) (m5:Nat):Kont:=kl (aW M w0) (q81 M w0 r) [.b 8,am dT] (cat Try.f81 p81_9) m5
def s81_j1 (v1:List Int) (v2:Int) (v5:Fv) (v14 v15:Int):AS:=⟨[(0,.ref 0),(1,iI v2),(4,.fn v5.id v5.caps),(10,iI v14),(11,iI v15)],[],[(0,⟨3,1,lm (eInt .i64) v1⟩)],[0,1000000,0]⟩
def s81_l3 (v10 v16:Int) (v17:List Int):AS:=⟨[(0,.ref 0),(10,iI v10),(13,iI v16)],[],[(0,⟨3,1,lm (eInt .i64) v17⟩)],[0,1000000,0]⟩
def s81_l2 (v1:List Int) (v2:Int) (v5:Fv) (v10 v11:Int):AS:=⟨[(0,.ref 0),(1,iI v2),(4,.fn v5.id v5.caps),(10,iI v10),(11,iI v11)],[],[(0,⟨3,1,lm (eInt .i64) v1⟩)],[0,1000000,0]⟩
def s81_j4 (v1:List Int) (v3:Int) (v5:Fv) (v26 v27:Int):AS:=⟨[(0,.ref 0),(2,iI v3),(4,.fn v5.id v5.caps),(14,iI v26),(15,iI v27)],[],[(0,⟨3,1,lm (eInt .i64) v1⟩)],[0,1000000,0]⟩
def s81_l6 (v22 v28:Int) (v29:List Int):AS:=⟨[(0,.ref 0),(14,iI v22),(17,iI v28)],[],[(0,⟨3,1,lm (eInt .i64) v29⟩)],[0,1000000,0]⟩
def s81_l5 (v1:List Int) (v3:Int) (v5:Fv) (v22 v23:Int):AS:=⟨[(0,.ref 0),(2,iI v3),(4,.fn v5.id v5.caps),(14,iI v22),(15,iI v23)],[],[(0,⟨3,1,lm (eInt .i64) v1⟩)],[0,1000000,0]⟩
def s81_j8 (v1:List Int) (v2 v3 v4:Int) (v5:Fv) (v30 v31 v43 v44:Int):AS:=⟨[(0,.ref 0),(1,iI v2),(2,iI v3),(3,iI v4),(4,.fn v5.id v5.caps),(18,iI v30),(19,iI v31),(20,iI v43),(21,iI v44),(22,iI (w64 (v31 - 1)))],[],[(0,⟨3,1,lm (eInt .i64) v1⟩)],[0,1000000,0]⟩
def s81_j15 (v53:List Int):AS:=⟨[],[],[(0,⟨3,1,lm (eInt .i64) v53⟩)],[0,1000000,0]⟩
def s81_j14 (v4:Int) (v5:Fv) (v30 v31 v39:Int) (v50:List Int) (v51:Bool):AS:=⟨[(0,.ref 0),(3,iI v4),(4,.fn v5.id v5.caps),(18,iI v30),(24,iI (w64 (v31 - v39))),(213,.bool v51)],[],[(0,⟨3,1,lm (eInt .i64) v50⟩)],[0,1000000,0]⟩
def s81_j13 (v4:Int) (v5:Fv) (v30 v31 v39:Int) (v50:List Int):AS:=⟨[(0,.ref 0),(3,iI v4),(4,.fn v5.id v5.caps),(18,iI v30),(24,iI (w64 (v31 - v39)))],[],[(0,⟨3,1,lm (eInt .i64) v50⟩)],[0,1000000,0]⟩
def s81_j12 (v2 v4:Int) (v5:Fv) (v30 v31 v39:Int) (v47:List Int) (v48:Bool):AS:=⟨[(0,.ref 0),(1,iI v2),(3,iI v4),(4,.fn v5.id v5.caps),(18,iI v30),(20,iI v39),(24,iI (w64 (v31 - v39))),(199,.bool v48)],[],[(0,⟨3,1,lm (eInt .i64) v47⟩)],[0,1000000,0]⟩
def s81_j11 (v2 v4:Int) (v5:Fv) (v30 v31 v39:Int) (v47:List Int):AS:=⟨[(0,.ref 0),(1,iI v2),(3,iI v4),(4,.fn v5.id v5.caps),(18,iI v30),(20,iI v39),(24,iI (w64 (v31 - v39)))],[],[(0,⟨3,1,lm (eInt .i64) v47⟩)],[0,1000000,0]⟩
def s81_j10 (v1:List Int) (v2 v3 v4:Int) (v5:Fv) (v30 v31 v39:Int) (v45:Bool):AS:=⟨[(0,.ref 0),(1,iI v2),(2,iI v3),(3,iI v4),(4,.fn v5.id v5.caps),(18,iI v30),(20,iI v39),(24,iI (w64 (v31 - v39))),(185,.bool v45)],[],[(0,⟨3,1,lm (eInt .i64) v1⟩)],[0,1000000,0]⟩
def s81_l9 (v1:List Int) (v2 v3 v4:Int) (v5:Fv) (v30 v31 v39 v40:Int):AS:=⟨[(0,.ref 0),(1,iI v2),(2,iI v3),(3,iI v4),(4,.fn v5.id v5.caps),(18,iI v30),(19,iI v31),(20,iI v39),(21,iI v40),(22,iI (w64 (v31 - 1)))],[],[(0,⟨3,1,lm (eInt .i64) v1⟩)],[0,1000000,0]⟩
def s81_j7 (v1:List Int) (v2 v3 v4:Int) (v5:Fv) (v30 v31 v33 v34:Int):AS:=⟨[(0,.ref 0),(1,iI v2),(2,iI v3),(3,iI v4),(4,.fn v5.id v5.caps),(18,iI v30),(19,iI v31),(20,iI v33),(21,iI v34)],[],[(0,⟨3,1,lm (eInt .i64) v1⟩)],[0,1000000,0]⟩
abbrev H81_1 (M:Nat→Prop) (w0:Base) (r v1:List Int) (v2:Int) (v5:Fv) (m1:Nat) (L1:Int→Int→Option (List Int)):Prop:=∀ {v10:Int} {v11:Int},L1 v10 v11=some r→LP (aW M w0) (q81 M w0 r) [.b 0,am dl,am [1]] (cat Try.f81 p81_3) m1 (s81_l2 v1 v2 v5 v10 v11)
abbrev H81_2 (M:Nat→Prop) (w0:Base) (r:List Int) (v10:Int) (m2:Nat) (L2:Int→(List Int)→Option (List Int)):Prop:=∀ {v16:Int} {v17:(List Int)},L2 v16 v17=some r→LP (aW M w0) (q81 M w0 r) [.b 2,am p81_0,am [1]] (cat Try.f81 p81_1) m2 (s81_l3 v10 v16 v17)
abbrev H81_3 (M:Nat→Prop) (w0:Base) (r v1:List Int) (v3:Int) (v5:Fv) (m3:Nat) (L3:Int→Int→Option (List Int)):Prop:=∀ {v22:Int} {v23:Int},L3 v22 v23=some r→LP (aW M w0) (q81 M w0 r) [.b 4,am dt,am [1,1]] (cat Try.f81 p81_7) m3 (s81_l5 v1 v3 v5 v22 v23)
abbrev H81_4 (M:Nat→Prop) (w0:Base) (r:List Int) (v22:Int) (m4:Nat) (L4:Int→(List Int)→Option (List Int)):Prop:=∀ {v28:Int} {v29:(List Int)},L4 v28 v29=some r→LP (aW M w0) (q81 M w0 r) [.b 6,am p81_4,am [1,1]] (cat Try.f81 p81_5) m4 (s81_l6 v22 v28 v29)
abbrev H81_5 (M:Nat→Prop) (w0:Base) (r v1:List Int) (v2 v3 v4:Int) (v5:Fv) (v30 v31:Int) (m5:Nat) (L5:Int→Int→Option (List Int)):Prop:=∀ {v39:Int} {v40:Int},L5 v39 v40=some r→LP (aW M w0) (q81 M w0 r) [.b 8,am dT] (cat Try.f81 p81_9) m5 (s81_l9 v1 v2 v3 v4 v5 v30 v31 v39 v40)
variable {K:Kn} {n:Nat} {M:Nat→Prop} {w0:Base} {r v1:List Int} {v2 v3 v4:Int} {v5:Fv} {v10 v11 v14 v15 v16:Int} {v17:List Int} {v22 v23 v26 v27 v28:Int} {v29:List Int} {v30 v31 v33 v34 v39 v40 v43 v44:Int} {v45:Bool} {v47:List Int} {v48:Bool} {v50:List Int} {v51:Bool} {v53:List Int} {m1:Nat} {L1:Int→Int→Option (List Int)} {m2:Nat} {L2:Int→(List Int)→Option (List Int)} {m3:Nat} {L3:Int→Int→Option (List Int)} {m4:Nat} {L4:Int→(List Int)→Option (List Int)} {m5:Nat} {L5:Int→Int→Option (List Int)}
theorem g8 (hK:KnOk K) (hL1:H81_1 M w0 r v1 v2 v5 m1 L1) (h:fj K n v1 v2 v5 L1 v14 v15=some r):VE (aW M w0) (q81 M w0 r) [.b 1,k81_1 M w0 r m1,.b 0,am dl,am [1]] .normal (s81_j1 v1 v2 v5 v14 v15):=by
  unfold fj at h
  exact aj 1 (aJ (hL1 h))
theorem j2 (hK:KnOk K) (hL2:H81_2 M w0 r v10 m2 L2) (h:fX K n v10 L2 v16 v17=some r):VE (aW M w0) (q81 M w0 r) [am p81_1,k81_2 M w0 r m2,.b 2,am p81_0,am [1]] .normal (s81_l3 v10 v16 v17):=by
  unfold fX at h
  refine ag (ks':=[am p81_10,am p81_11,k81_2 M w0 r m2,.b 2,am p81_0,am [1]]) 3 ?_
  rcases au h with ⟨h19,h⟩ | ⟨h19,h⟩
  ·
   refine ai 58 h19 (ag (ks':=[am p81_12,.b 3,am p81_13,k81_2 M w0 r m2,.b 2,am p81_0,am [1]]) 4 (bG [0,10,13] [] [0] ?_))
   obtain ⟨h20,h⟩:=aq h
   obtain ⟨h21,h⟩:=aq h
   obtain ⟨h22,h⟩:=aq h
   obtain ⟨h23,h⟩:=aq h
   exact bk 2 (nu 61 [.ref 0,iI v16,.ref 0,iI v16,iI (w64 (v16+1)),.ref 0,iI v16,iI (w64 (v16+1)),.eptr 0 1 (((w64 (v16+1))).toNat) 0,iI (gD v17 ((w64 (v16+1)))),.ref 0,iI v16,.eptr 0 1 (v16.toNat) 0,iI (gD v17 v16),.eptr 0 1 (v16.toNat) 0,.eptr 0 1 (((w64 (v16+1))).toNat) 0]) [] [] [strS 0 ⟨3,1,lm (eInt .i64) (List.set v17 v16.toNat (gD v17 ((w64 (v16+1)))))⟩,strS 0 ⟨3,1,lm (eInt .i64) (List.set (List.set v17 v16.toNat (gD v17 ((w64 (v16+1))))) ((w64 (v16+1))).toNat (gD v17 v16))⟩] (av [.v 0 1,.v 0 1,.v 0 2,.v 0 2,.v 0 2,.v 0 1,.v 0 1,.v 0 1] (d_v (aB 0 1 (eInt .i64) (L:=v17) h20) (d_v (aD 3 0 (eInt .i64) (eInt .i64) (ay h20).2 (fun _=>rfl)) (av [.v 0 2,.v 0 2] (ac (k_v (lo:=0) (k:=2) (bV ⟨(by kernel_rfl),(b7 (aB 0 1 (eInt .i64) (L:=v17) h21) (by kernel_rfl))⟩ (bV ⟨(by kernel_rfl),(b7 (aB 0 1 (eInt .i64) (L:=(List.set v17 v16.toNat (gD v17 ((w64 (v16+1)))))) h21) (by kernel_rfl))⟩ de))) (d_v (aD 3 0 (eInt .i64) (eInt .i64) (ay h22).2 (fun _=>rfl)) (d_v (aB 0 1 (eInt .i64) (L:=v17) h22) (ac (e_s (m:=0) (bx 0 3 1 0 (eInt .i64) (eInt .i64) (gD v17 ((w64 (v16+1)))) (ay h22).2 (fun _=>rfl))) (ac (e_v (lo:=1) (aB 0 1 (eInt .i64) (L:=(List.set v17 v16.toNat (gD v17 ((w64 (v16+1)))))) h23)) (ac (e_s (m:=1) (bx 0 3 1 0 (eInt .i64) (eInt .i64) (gD v17 v16) (ay h23).2 (fun _=>rfl))) bh)))))))))) (aj 2 (aJ (hL2 h)))
  ·
   refine ai 58 h19 (aG 7 ?_)
   cases h
   exact ci
theorem jg (hK:KnOk K) (m:Nat):H81_2 M w0 r v10 m (eW K n v10 m):=by
  induction m with
 | zero=>intro v16 v17 h; cases h
 | succ m ih=>intro v16 v17 h; have h:fX K n v10 (eW K n v10 m) v16 v17=some r:=h; exact aK (j2 hK ih h)
theorem js (hK:KnOk K) (hL1:H81_1 M w0 r v1 v2 v5 m1 L1) (h:fQ K n v1 v2 v5 L1 v10 v11=some r):VE (aW M w0) (q81 M w0 r) [am p81_3,k81_1 M w0 r m1,.b 0,am dl,am [1]] .normal (s81_l2 v1 v2 v5 v10 v11):=by
  unfold fQ at h
  refine ag (ks':=[am p81_14,am p81_15,k81_1 M w0 r m1,.b 0,am dl,am [1]]) 3 ?_
  rcases au h with ⟨h8,h⟩ | ⟨h8,h⟩
  ·
   refine ai 33 h8 ?_
   obtain ⟨v12,h9,h⟩:=bind_some h
   have h9:=Option.some.inj h9
   refine aQ (ks':=[am p81_16,am p81_17,.b 1,k81_1 M w0 r m1,.b 0,am dl,am [1]]) 6 ⟨[(0,.ref 0),(1,iI v2),(4,.fn v5.id v5.caps),(10,iI v10),(11,iI v11),(12,iI v12)],[],[(0,⟨3,1,lm (eInt .i64) v1⟩)],[0,1000000,0]⟩ ?_ (by subst h9; kernel_rfl)
   obtain ⟨h10,h⟩:=aq h
   obtain ⟨h11,h⟩:=aq h
   obtain ⟨v13,h12,h⟩:=bind_some h
   refine bk 0 (nu 40 [.fn v5.id v5.caps,.ref 0,iI v12,.eptr 0 1 (v12.toNat) 0,iI (gD v1 v12),.ref 0,iI v2,.eptr 0 1 (v2.toNat) 0,iI (gD v1 v2),iI v13,.bool (decide (v13<0))]) [] [] [] (av (vz 3) (d_v (aB 0 1 (eInt .i64) (L:=v1) h10) (d_v (aD 3 0 (eInt .i64) (eInt .i64) (ay h10).2 (fun _=>rfl)) (av (vz 2) (d_v (aB 0 1 (eInt .i64) (L:=v1) h11) (d_v (aD 3 0 (eInt .i64) (eInt .i64) (ay h11).2 (fun _=>rfl)) (ac (e_c 0 1 49 (hK.bH h12).2 (hK.bH h12).1) (av [.v 0 1] bh)))))))) ?_
   rcases au h with ⟨h13,h⟩ | ⟨h13,h⟩
   ·
    exact ai 50 h13 (aj 2 (g8 hK hL1 h))
   ·
    exact ai 50 h13 (aj 2 (g8 hK hL1 h))
  ·
   exact ai 33 h8 (aj 9 (aI (p:=p81_18) n (jg hK n h)))
theorem iK (hK:KnOk K) (m:Nat):H81_1 M w0 r v1 v2 v5 m (eH K n v1 v2 v5 m):=by
  induction m with
 | zero=>intro v10 v11 h; cases h
 | succ m ih=>intro v10 v11 h; have h:fQ K n v1 v2 v5 (eH K n v1 v2 v5 m) v10 v11=some r:=h; exact aK (js hK ih h)
theorem g6 (hK:KnOk K) (hL3:H81_3 M w0 r v1 v3 v5 m3 L3) (h:fv K n v1 v3 v5 L3 v26 v27=some r):VE (aW M w0) (q81 M w0 r) [.b 5,k81_3 M w0 r m3,.b 4,am dt,am [1,1]] .normal (s81_j4 v1 v3 v5 v26 v27):=by
  unfold fv at h
  exact aj 1 (aJ (hL3 h))
theorem iZ (hK:KnOk K) (hL4:H81_4 M w0 r v22 m4 L4) (h:fe K n v22 L4 v28 v29=some r):VE (aW M w0) (q81 M w0 r) [am p81_5,k81_4 M w0 r m4,.b 6,am p81_4,am [1,1]] .normal (s81_l6 v22 v28 v29):=by
  unfold fe at h
  refine ag (ks':=[am p81_19,am p81_20,k81_4 M w0 r m4,.b 6,am p81_4,am [1,1]]) 3 ?_
  rcases au h with ⟨h42,h⟩ | ⟨h42,h⟩
  ·
   refine ai 110 h42 (ag (ks':=[am p81_21,.b 7,am p81_22,k81_4 M w0 r m4,.b 6,am p81_4,am [1,1]]) 4 (bG [0,14,17] [] [0] ?_))
   obtain ⟨h43,h⟩:=aq h
   obtain ⟨h44,h⟩:=aq h
   obtain ⟨h45,h⟩:=aq h
   obtain ⟨h46,h⟩:=aq h
   exact bk 2 (nu 113 [.ref 0,iI v28,.ref 0,iI v28,iI (w64 (v28 - 1)),.ref 0,iI v28,iI (w64 (v28 - 1)),.eptr 0 1 (((w64 (v28 - 1))).toNat) 0,iI (gD v29 ((w64 (v28 - 1)))),.ref 0,iI v28,.eptr 0 1 (v28.toNat) 0,iI (gD v29 v28),.eptr 0 1 (v28.toNat) 0,.eptr 0 1 (((w64 (v28 - 1))).toNat) 0]) [] [] [strS 0 ⟨3,1,lm (eInt .i64) (List.set v29 v28.toNat (gD v29 ((w64 (v28 - 1)))))⟩,strS 0 ⟨3,1,lm (eInt .i64) (List.set (List.set v29 v28.toNat (gD v29 ((w64 (v28 - 1))))) ((w64 (v28 - 1))).toNat (gD v29 v28))⟩] (av [.v 0 1,.v 0 1,.v 0 2,.v 0 2,.v 0 2,.v 0 1,.v 0 1,.v 0 1] (d_v (aB 0 1 (eInt .i64) (L:=v29) h43) (d_v (aD 3 0 (eInt .i64) (eInt .i64) (ay h43).2 (fun _=>rfl)) (av [.v 0 2,.v 0 2] (ac (k_v (lo:=0) (k:=2) (bV ⟨(by kernel_rfl),(b7 (aB 0 1 (eInt .i64) (L:=v29) h44) (by kernel_rfl))⟩ (bV ⟨(by kernel_rfl),(b7 (aB 0 1 (eInt .i64) (L:=(List.set v29 v28.toNat (gD v29 ((w64 (v28 - 1)))))) h44) (by kernel_rfl))⟩ de))) (d_v (aD 3 0 (eInt .i64) (eInt .i64) (ay h45).2 (fun _=>rfl)) (d_v (aB 0 1 (eInt .i64) (L:=v29) h45) (ac (e_s (m:=0) (bx 0 3 1 0 (eInt .i64) (eInt .i64) (gD v29 ((w64 (v28 - 1)))) (ay h45).2 (fun _=>rfl))) (ac (e_v (lo:=1) (aB 0 1 (eInt .i64) (L:=(List.set v29 v28.toNat (gD v29 ((w64 (v28 - 1)))))) h46)) (ac (e_s (m:=1) (bx 0 3 1 0 (eInt .i64) (eInt .i64) (gD v29 v28) (ay h46).2 (fun _=>rfl))) bh)))))))))) (aj 2 (aJ (hL4 h)))
  ·
   refine ai 110 h42 (aG 7 ?_)
   cases h
   exact ci
theorem iA (hK:KnOk K) (m:Nat):H81_4 M w0 r v22 m (eT K n v22 m):=by
  induction m with
 | zero=>intro v28 v29 h; cases h
 | succ m ih=>intro v28 v29 h; have h:fe K n v22 (eT K n v22 m) v28 v29=some r:=h; exact aK (iZ hK ih h)
theorem jG (hK:KnOk K) (hL3:H81_3 M w0 r v1 v3 v5 m3 L3) (h:ga K n v1 v3 v5 L3 v22 v23=some r):VE (aW M w0) (q81 M w0 r) [am p81_7,k81_3 M w0 r m3,.b 4,am dt,am [1,1]] .normal (s81_l5 v1 v3 v5 v22 v23):=by
  unfold ga at h
  refine ag (ks':=[am p81_23,am p81_24,k81_3 M w0 r m3,.b 4,am dt,am [1,1]]) 3 ?_
  rcases au h with ⟨h31,h⟩ | ⟨h31,h⟩
  ·
   refine ai 85 h31 ?_
   obtain ⟨v24,h32,h⟩:=bind_some h
   have h32:=Option.some.inj h32
   refine aQ (ks':=[am p81_25,am p81_26,.b 5,k81_3 M w0 r m3,.b 4,am dt,am [1,1]]) 6 ⟨[(0,.ref 0),(2,iI v3),(4,.fn v5.id v5.caps),(14,iI v22),(15,iI v23),(16,iI v24)],[],[(0,⟨3,1,lm (eInt .i64) v1⟩)],[0,1000000,0]⟩ ?_ (by subst h32; kernel_rfl)
   obtain ⟨h33,h⟩:=aq h
   obtain ⟨h34,h⟩:=aq h
   obtain ⟨v25,h35,h⟩:=bind_some h
   refine bk 0 (nu 92 [.fn v5.id v5.caps,.ref 0,iI v3,.eptr 0 1 (v3.toNat) 0,iI (gD v1 v3),.ref 0,iI v24,.eptr 0 1 (v24.toNat) 0,iI (gD v1 v24),iI v25,.bool (decide (v25<0)),.bool (!(decide (v25<0)))]) [] [] [] (av (vz 3) (d_v (aB 0 1 (eInt .i64) (L:=v1) h33) (d_v (aD 3 0 (eInt .i64) (eInt .i64) (ay h33).2 (fun _=>rfl)) (av (vz 2) (d_v (aB 0 1 (eInt .i64) (L:=v1) h34) (d_v (aD 3 0 (eInt .i64) (eInt .i64) (ay h34).2 (fun _=>rfl)) (ac (e_c 0 1 101 (hK.bH h35).2 (hK.bH h35).1) (av (vz 2) bh)))))))) ?_
   rcases au h with ⟨h36,h⟩ | ⟨h36,h⟩
   ·
    exact ai 103 h36 (aj 2 (g6 hK hL3 h))
   ·
    exact ai 103 h36 (aj 2 (g6 hK hL3 h))
  ·
   exact ai 85 h31 (aj 9 (aI (p:=p81_27) n (iA hK n h)))
theorem j3 (hK:KnOk K) (m:Nat):H81_3 M w0 r v1 v3 v5 m (fq K n v1 v3 v5 m):=by
  induction m with
 | zero=>intro v22 v23 h; cases h
 | succ m ih=>intro v22 v23 h; have h:ga K n v1 v3 v5 (fq K n v1 v3 v5 m) v22 v23=some r:=h; exact aK (jG hK ih h)
theorem ia (hK:KnOk K) (hL5:H81_5 M w0 r v1 v2 v3 v4 v5 v30 v31 m5 L5) (h:ff K n v1 v2 v3 v4 v5 v30 v31 L5 v43 v44=some r):VE (aW M w0) (q81 M w0 r) [.b 9,k81_5 M w0 r m5,.b 8,am dT] .normal (s81_j8 v1 v2 v3 v4 v5 v30 v31 v43 v44):=by
  unfold ff at h
  exact aj 1 (aJ (hL5 h))
theorem gY (hK:KnOk K) (h:eS K n v53=some r):VE (aW M w0) (q81 M w0 r) [] .normal (s81_j15 v53):=by
  unfold eS at h
  refine dC ?_
  cases h
  exact ci
theorem hH (hK:KnOk K) (h:fG K n v4 v5 v30 v31 v39 v50 v51=some r):VE (aW M w0) (q81 M w0 r) [am p81_28] .normal (s81_j14 v4 v5 v30 v31 v39 v50 v51):=by
  unfold fG at h
  rcases au h with ⟨h70,h⟩ | ⟨h70,h⟩
  ·
   refine ai 213 h70 (ag (ks':=[am p81_29]) 1 (ao 5 ?_))
   obtain ⟨v52,h71,h⟩:=bind_some h
   exact bW 0 0 (hK.dn h71) (ak (aj 0 (gY hK h)))
  ·
   exact ai 213 h70 (aj 2 (gY hK h))
theorem ic (hK:KnOk K) (h:fA K n v4 v5 v30 v31 v39 v50=some r):VE (aW M w0) (q81 M w0 r) [am p81_30] .normal (s81_j13 v4 v5 v30 v31 v39 v50):=by
  unfold fA at h
  refine ag (ks':=[am p81_31,am p81_28]) 1 (ao 4 ?_)
  rcases au h with ⟨h69,h⟩ | ⟨h69,h⟩
  ·
   exact aM 209 h69 (ak (aj 0 (hH hK h)))
  ·
   exact aM 209 h69 (ak (aj 0 (hH hK h)))
theorem il (hK:KnOk K) (h:fE K n v2 v4 v5 v30 v31 v39 v47 v48=some r):VE (aW M w0) (q81 M w0 r) [am p81_32,am p81_30] .normal (s81_j12 v2 v4 v5 v30 v31 v39 v47 v48):=by
  unfold fE at h
  rcases au h with ⟨h67,h⟩ | ⟨h67,h⟩
  ·
   refine ai 199 h67 (ag (ks':=[am p81_33,am p81_30]) 1 (ao 5 ?_))
   obtain ⟨v49,h68,h⟩:=bind_some h
   exact bW 0 0 (hK.dn h68) (ak (aj 0 (ic hK h)))
  ·
   exact ai 199 h67 (aj 2 (ic hK h))
theorem ij (hK:KnOk K) (h:fF K n v2 v4 v5 v30 v31 v39 v47=some r):VE (aW M w0) (q81 M w0 r) [am p81_34] .normal (s81_j11 v2 v4 v5 v30 v31 v39 v47):=by
  unfold fF at h
  refine ag (ks':=[am p81_35,am p81_32,am p81_30]) 2 (ao 4 ?_)
  rcases au h with ⟨h66,h⟩ | ⟨h66,h⟩
  ·
   exact aM 195 h66 (ak (aj 0 (il hK h)))
  ·
   exact aM 195 h66 (ak (aj 0 (il hK h)))
theorem im (hK:KnOk K) (h:e7 K n v1 v2 v3 v4 v5 v30 v31 v39 v45=some r):VE (aW M w0) (q81 M w0 r) [am p81_36,am p81_34] .normal (s81_j10 v1 v2 v3 v4 v5 v30 v31 v39 v45):=by
  unfold e7 at h
  rcases au h with ⟨h64,h⟩ | ⟨h64,h⟩
  ·
   refine ai 185 h64 (ag (ks':=[am p81_37,am p81_34]) 1 (ao 5 ?_))
   obtain ⟨v46,h65,h⟩:=bind_some h
   exact bW 0 0 (jd hK h65) (ak (aj 0 (ij hK h)))
  ·
   exact ai 185 h64 (aj 2 (ij hK h))
theorem iQ (hK:KnOk K) (hL5:H81_5 M w0 r v1 v2 v3 v4 v5 v30 v31 m5 L5) (h:e9 K n v1 v2 v3 v4 v5 v30 v31 L5 v39 v40=some r):VE (aW M w0) (q81 M w0 r) [am p81_9,k81_5 M w0 r m5,.b 8,am dT] .normal (s81_l9 v1 v2 v3 v4 v5 v30 v31 v39 v40):=by
  unfold e9 at h
  refine ag (ks':=[am p81_38,am p81_39,k81_5 M w0 r m5,.b 8,am dT]) 3 ?_
  rcases au h with ⟨h57,h⟩ | ⟨h57,h⟩
  ·
   refine ai 151 h57 ?_
   obtain ⟨v41,h58,h⟩:=bind_some h
   have h58:=Option.some.inj h58
   refine aQ (ks':=[am p81_40,am p81_41,.b 9,k81_5 M w0 r m5,.b 8,am dT]) 6 ⟨[(0,.ref 0),(1,iI v2),(2,iI v3),(3,iI v4),(4,.fn v5.id v5.caps),(18,iI v30),(19,iI v31),(20,iI v39),(21,iI v40),(22,iI (w64 (v31 - 1))),(23,iI v41)],[],[(0,⟨3,1,lm (eInt .i64) v1⟩)],[0,1000000,0]⟩ ?_ (by subst h58; kernel_rfl)
   obtain ⟨h59,h⟩:=aq h
   obtain ⟨h60,h⟩:=aq h
   obtain ⟨v42,h61,h⟩:=bind_some h
   refine bk 0 (nu 158 [.fn v5.id v5.caps,.ref 0,iI (w64 (v31 - 1)),iI v41,iI (w64 ((w64 (v31 - 1)) - v41)),.eptr 0 1 (((w64 ((w64 (v31 - 1)) - v41))).toNat) 0,iI (gD v1 ((w64 ((w64 (v31 - 1)) - v41)))),.ref 0,iI v41,.eptr 0 1 (v41.toNat) 0,iI (gD v1 v41),iI v42,.bool (decide (v42<0)),.bool (!(decide (v42<0)))]) [] [] [] (av (vz 5) (d_v (aB 0 1 (eInt .i64) (L:=v1) h59) (d_v (aD 3 0 (eInt .i64) (eInt .i64) (ay h59).2 (fun _=>rfl)) (av (vz 2) (d_v (aB 0 1 (eInt .i64) (L:=v1) h60) (d_v (aD 3 0 (eInt .i64) (eInt .i64) (ay h60).2 (fun _=>rfl)) (ac (e_c 0 1 169 (hK.bH h61).2 (hK.bH h61).1) (av (vz 2) bh)))))))) ?_
   rcases au h with ⟨h62,h⟩ | ⟨h62,h⟩
   ·
    exact ai 171 h62 (aj 2 (ia hK hL5 h))
   ·
    exact ai 171 h62 (aj 2 (ia hK hL5 h))
  ·
   refine ai 151 h57 (ag (ks':=[am p81_42,am p81_36,am p81_34]) 9 (ao 4 ?_))
   rcases au h with ⟨h63,h⟩ | ⟨h63,h⟩
   ·
    exact aM 181 h63 (ak (aj 0 (im hK h)))
   ·
    exact aM 181 h63 (ak (aj 0 (im hK h)))
theorem j4 (hK:KnOk K) (m:Nat):H81_5 M w0 r v1 v2 v3 v4 v5 v30 v31 m (fP K n v1 v2 v3 v4 v5 v30 v31 m):=by
  induction m with
 | zero=>intro v39 v40 h; cases h
 | succ m ih=>intro v39 v40 h; have h:e9 K n v1 v2 v3 v4 v5 v30 v31 (fP K n v1 v2 v3 v4 v5 v30 v31 m) v39 v40=some r:=h; exact aK (iQ hK ih h)
theorem ib (hK:KnOk K) (h:fV K n v1 v2 v3 v4 v5 v30 v31 v33 v34=some r):VE (aW M w0) (q81 M w0 r) [am p81_43] .normal (s81_j7 v1 v2 v3 v4 v5 v30 v31 v33 v34):=by
  unfold fV at h
  exact aj 4 (aI (p:=p81_44) n (j4 hK n h))
theorem go (hK:KnOk K) (h:dW K n v1 v2 v3 v4 v5=some r):AIO Try.prog 81 [.ref 0,iI v2,iI v3,iI v4,.fn v5.id v5.caps] 0 ⟨3,1,lm (eInt .i64) v1⟩ (fun v s=>v = .tup []∧look 0 s.r=some ⟨3,1,lm (eInt .i64) r⟩):=by
  refine dr (c:=cat Try.f81 []) Try.func81 (by kernel_rfl) _ Try.ntmps81 (of_decide_eq_true (by kernel_rfl)) fun M w0=>(aU ⟨[(0,.ref 0),(1,iI v2),(2,iI v3),(3,iI v4),(4,.fn v5.id v5.caps)],[],[(0,⟨3,1,lm (eInt .i64) v1⟩)],[0,1000000]⟩ ?_)
  unfold dW at h
  refine ag (ks':=[am [0,1],am [1]]) 3 ?_
  rcases au h with ⟨h1,h⟩ | ⟨h1,h⟩
  ·
   exact ai 28 h1 (aj 7 (aI (p:=p81_45) n (iK hK n h)))
  ·
   refine ai 28 h1 (ag (ks':=[am [1,0,1],am [1,1]]) 5 ?_)
   rcases au h with ⟨h24,h⟩ | ⟨h24,h⟩
   ·
    exact ai 80 h24 (aj 7 (aI (p:=p81_46) n (j3 hK n h)))
   ·
    refine ai 80 h24 ?_
    obtain ⟨v30,h47,h⟩:=bind_some h
    have h47:=Option.some.inj h47
    obtain ⟨v31,h48,h⟩:=bind_some h
    have h48:=Option.some.inj h48
    obtain ⟨v32,h49,h⟩:=bind_some h
    have h49:=Option.some.inj h49
    refine aQ (ks':=[am p81_47,am p81_43]) 11 ⟨[(0,.ref 0),(1,iI v2),(2,iI v3),(3,iI v4),(4,.fn v5.id v5.caps),(18,iI v30),(19,iI v31),(140,.bool v32)],[],[(0,⟨3,1,lm (eInt .i64) v1⟩)],[0,1000000,0]⟩ ?_ (by subst h49; subst h48; subst h47; kernel_rfl)
    rcases au h with ⟨h50,h⟩ | ⟨h50,h⟩
    ·
     exact ai 140 h50 (aj 4 (ib hK h))
    ·
     exact ai 140 h50 (aj 4 (ib hK h))
end
def p73_0:=pth 0 1111100
def p73_1:=pth 0 111000
def p73_2:=pth 0 11111001011
def p73_3:=pth 0 1111100101000
def p73_4:=pth 0 111110010111
def p73_5:=pth 0 111110010100001
def p73_6:=pth 0 11111001010001
def p73_7:=pth 0 1111100101000100
def p73_8:=pth 0 1111100101000101
def p73_9:=pth 0 11111001011011
def p73_10:=pth 0 111110010110110
def p73_11:=pth 0 111110001
def p73_12:=pth 0 11111001
def p73_13:=pth 0 111110010100
def p73_14:=pth 0 11100001
def p73_15:=pth 0 1110001
def p73_16:=pth 0 111000100
def p73_17:=pth 0 111000101
def p73_18:=pth 0 11110
def p73_19:=pth 0 11111
def p73_20:=pth 0 111110
def p73_21:=pth 0 11100
noncomputable section
abbrev cf (M:Nat→Prop) (w0:Base):Cx:=⟨Try.prog,63,M,w0⟩
abbrev q73 (M:Nat→Prop) (w0:Base) (r:List Int):=bodyPost Try.prog Try.f73 (RetQ M w0 (fun v s=>v = .tup []∧look 0 s.r=some ⟨3,1,lm (eInt .i64) r⟩))
abbrev ce (M:Nat→Prop) (w0:Base) (r:List Int) (m2:Nat):Kont:=kl (cf M w0) (q73 M w0 r) [.b 2] (cat Try.f73 p73_0) m2
abbrev aO (p:List Nat):Kont:=.c (cat Try.f73 p)
abbrev k73_1 (M:Nat→Prop) (w0:Base) (r:List Int) (m1:Nat):Kont:=kl (cf M w0) (q73 M w0 r) [.b 0,aO [1,1,1]] (cat Try.f73 p73_1) m1
abbrev k73_3 (M:Nat→Prop) (w0:Base) (r:List Int) (m2 m3:Nat):Kont:=kl (cf M w0) (q73 M w0 r) [.b 4,aO p73_2,.b 3,ce M w0 r m2,.b 2] (cat Try.f73 p73_3) m3
def s73_j3 (v2:Int) (v3:Fv) (v17:Int) (v25:List Int):AS:=⟨[(0,.ref 0),(1,iI v2),(2,.fn v3.id v3.caps),(6,iI v17)],[],[(0,⟨3,1,lm (eInt .i64) v25⟩)],[0,1000000,0]⟩
def s73_l2 (v2:Int) (v3:Fv) (v17 v20 v21:Int) (v22:List Int):AS:=⟨[(0,.ref 0),(1,iI v2),(2,.fn v3.id v3.caps),(6,iI v17),(7,iI v20),(8,iI v21)],[],[(0,⟨3,1,lm (eInt .i64) v22⟩)],[0,1000000,0]⟩
def s73_l4 (v2:Int) (v3:Fv) (v17:Int) (v18:List Int):AS:=⟨[(0,.ref 0),(1,iI v2),(2,.fn v3.id v3.caps),(6,iI v17)],[],[(0,⟨3,1,lm (eInt .i64) v18⟩)],[0,1000000,0]⟩
def s73_l1 (v2:Int) (v3:Fv) (v5 v6:Int) (v7:List Int):AS:=⟨[(0,.ref 0),(1,iI v2),(2,.fn v3.id v3.caps),(6,iI 20),(7,iI v5),(8,iI v6)],[],[(0,⟨3,1,lm (eInt .i64) v7⟩)],[0,1000000,0]⟩
abbrev H73_1 (M:Nat→Prop) (w0:Base) (r:List Int) (v2:Int) (v3:Fv) (m1:Nat) (L1:Int→Int→(List Int)→Option (List Int)):Prop:=∀ {v5:Int} {v6:Int} {v7:(List Int)},L1 v5 v6 v7=some r→LP (cf M w0) (q73 M w0 r) [.b 0,aO [1,1,1]] (cat Try.f73 p73_1) m1 (s73_l1 v2 v3 v5 v6 v7)
abbrev H73_2 (M:Nat→Prop) (w0:Base) (r:List Int) (v2:Int) (v3:Fv) (m2:Nat) (L2:Int→(List Int)→Option (List Int)):Prop:=∀ {v17:Int} {v18:(List Int)},L2 v17 v18=some r→LP (cf M w0) (q73 M w0 r) [.b 2] (cat Try.f73 p73_0) m2 (s73_l4 v2 v3 v17 v18)
abbrev H73_3 (M:Nat→Prop) (w0:Base) (r:List Int) (v2:Int) (v3:Fv) (v17:Int) (m2 m3:Nat) (L3:Int→Int→(List Int)→Option (List Int)):Prop:=∀ {v20:Int} {v21:Int} {v22:(List Int)},L3 v20 v21 v22=some r→LP (cf M w0) (q73 M w0 r) [.b 4,aO p73_2,.b 3,ce M w0 r m2,.b 2] (cat Try.f73 p73_3) m3 (s73_l2 v2 v3 v17 v20 v21 v22)
variable {K:Kn} {n:Nat} {M:Nat→Prop} {w0:Base} {r v1:List Int} {v2:Int} {v3:Fv} {v5 v6:Int} {v7:List Int} {v17:Int} {v18:List Int} {v20 v21:Int} {v22 v25:List Int} {m1:Nat} {L1:Int→Int→(List Int)→Option (List Int)} {m2:Nat} {L2:Int→(List Int)→Option (List Int)} {m3:Nat} {L3:Int→Int→(List Int)→Option (List Int)}
theorem g9 (hK:KnOk K) (hL2:H73_2 M w0 r v2 v3 m2 L2) (h:fC K n v2 v3 v17 L2 v25=some r):VE (cf M w0) (q73 M w0 r) [aO p73_4,.b 3,ce M w0 r m2,.b 2] .normal (s73_j3 v2 v3 v17 v25):=by
  unfold fC at h
  exact aj 2 (aJ (hL2 h))
theorem jO (hK:KnOk K) (hL2:H73_2 M w0 r v2 v3 m2 L2) (hL3:H73_3 M w0 r v2 v3 v17 m2 m3 L3) (h:fO K n v2 v3 v17 L2 L3 v20 v21 v22=some r):VE (cf M w0) (q73 M w0 r) [aO p73_3,k73_3 M w0 r m2 m3,.b 4,aO p73_2,.b 3,ce M w0 r m2,.b 2] .normal (s73_l2 v2 v3 v17 v20 v21 v22):=by
  unfold fO at h
  refine ag (ks':=[aO p73_5,aO p73_6,k73_3 M w0 r m2 m3,.b 4,aO p73_2,.b 3,ce M w0 r m2,.b 2]) 3 ?_
  rcases au h with ⟨h16,h⟩ | ⟨h16,h⟩
  ·
   refine ai 35 h16 (ag (ks':=[aO p73_7,aO p73_8,.b 5,k73_3 M w0 r m2 m3,.b 4,aO p73_2,.b 3,ce M w0 r m2,.b 2]) 4 (ao 7 ?_))
   obtain ⟨v23,h17,h⟩:=bind_some h
   exact bW 0 0 (go hK h17) (ak (aj 4 (aJ (hL3 h))))
  ·
   refine ai 35 h16 (ag (ks':=[aO p73_9,aO p73_4,.b 3,ce M w0 r m2,.b 2]) 10 ?_)
   rcases au h with ⟨h18,h⟩ | ⟨h18,h⟩
   ·
    refine ai 54 h18 (ag (ks':=[aO p73_10,aO p73_4,.b 3,ce M w0 r m2,.b 2]) 1 (ao 5 ?_))
    obtain ⟨v24,h19,h⟩:=bind_some h
    exact bW 0 0 (go hK h19) (ak (aj 0 (g9 hK hL2 h)))
   ·
    exact ai 54 h18 (aj 2 (g9 hK hL2 h))
theorem j1 (hK:KnOk K) (hL2:H73_2 M w0 r v2 v3 m2 L2) (m:Nat):H73_3 M w0 r v2 v3 v17 m2 m (eP K n v2 v3 v17 L2 m):=by
  induction m with
 | zero=>intro v20 v21 v22 h; cases h
 | succ m ih=>intro v20 v21 v22 h; have h:fO K n v2 v3 v17 L2 (eP K n v2 v3 v17 L2 m) v20 v21 v22=some r:=h; exact aK (jO hK hL2 ih h)
theorem iG (hK:KnOk K) (hL2:H73_2 M w0 r v2 v3 m2 L2) (h:fT K n v2 v3 L2 v17 v18=some r):VE (cf M w0) (q73 M w0 r) [aO p73_0,ce M w0 r m2,.b 2] .normal (s73_l4 v2 v3 v17 v18):=by
  unfold fT at h
  refine ag (ks':=[aO p73_11,aO p73_12,ce M w0 r m2,.b 2]) 3 ?_
  rcases au h with ⟨h13,h⟩ | ⟨h13,h⟩
  ·
   exact ai 30 h13 (aj 7 (aI (p:=p73_13) n (j1 hK hL2 n h)))
  ·
   refine ai 30 h13 (ag (ks':=[]) 5 (dC ?_))
   cases h
   exact ci
theorem jf (hK:KnOk K) (m:Nat):H73_2 M w0 r v2 v3 m (fK K n v2 v3 m):=by
  induction m with
 | zero=>intro v17 v18 h; cases h
 | succ m ih=>intro v17 v18 h; have h:fT K n v2 v3 (fK K n v2 v3 m) v17 v18=some r:=h; exact aK (iG hK ih h)
theorem j5 (hK:KnOk K) (hL1:H73_1 M w0 r v2 v3 m1 L1) (h:fH K n v2 v3 L1 v5 v6 v7=some r):VE (cf M w0) (q73 M w0 r) [aO p73_1,k73_1 M w0 r m1,.b 0,aO [1,1,1]] .normal (s73_l1 v2 v3 v5 v6 v7):=by
  unfold fH at h
  refine ag (ks':=[aO p73_14,aO p73_15,k73_1 M w0 r m1,.b 0,aO [1,1,1]]) 3 ?_
  rcases au h with ⟨h3,h⟩ | ⟨h3,h⟩
  ·
   refine ai 13 h3 (ag (ks':=[aO p73_16,aO p73_17,.b 1,k73_1 M w0 r m1,.b 0,aO [1,1,1]]) 4 (ao 4 ?_))
   obtain ⟨v8,h4,h⟩:=bind_some h
   exact bW 0 0 (gZ hK h4) (ak (aj 4 (aJ (hL1 h))))
  ·
   refine ai 13 h3 (ag (ks':=[aO p73_18,aO p73_19]) 6 (ao 4 ?_))
   obtain ⟨v9,h5,h⟩:=bind_some h
   exact bW 0 0 (gZ hK h5) (ak (aj 1 (aI (p:=p73_20) n (jf hK n h))))
theorem i7 (hK:KnOk K) (m:Nat):H73_1 M w0 r v2 v3 m (eU K n v2 v3 m):=by
  induction m with
 | zero=>intro v5 v6 v7 h; cases h
 | succ m ih=>intro v5 v6 v7 h; have h:fH K n v2 v3 (eU K n v2 v3 m) v5 v6 v7=some r:=h; exact aK (j5 hK ih h)
theorem iV (hK:KnOk K) (h:gK K n v1 v2 v3=some r):AIO Try.prog 73 [.ref 0,iI v2,.fn v3.id v3.caps] 0 ⟨3,1,lm (eInt .i64) v1⟩ (fun v s=>v = .tup []∧look 0 s.r=some ⟨3,1,lm (eInt .i64) r⟩):=by
  refine dr (c:=cat Try.f73 []) Try.func73 (by kernel_rfl) _ Try.ntmps73 (of_decide_eq_true (by kernel_rfl)) fun M w0=>(aU ⟨[(0,.ref 0),(1,iI v2),(2,.fn v3.id v3.caps)],[],[(0,⟨3,1,lm (eInt .i64) v1⟩)],[0,1000000]⟩ ?_)
  unfold gK at h
  exact aj 6 (aI (p:=p73_21) n (i7 hK n h))
end
noncomputable section
variable {K:Kn} {n:Nat} {M:Nat→Prop} {w0:Base} {r v1:List Int} {v2:Fv} 
theorem iS (hK:KnOk K) (h:gk K n v1 v2=some r):AIO Try.prog 58 [.ref 0,.fn v2.id v2.caps] 0 ⟨3,1,lm (eInt .i64) v1⟩ (fun v s=>v = .tup []∧look 0 s.r=some ⟨3,1,lm (eInt .i64) r⟩):=by
  refine dr (c:=cat Try.f58 []) Try.func58 (by kernel_rfl) _ Try.ntmps58 (of_decide_eq_true (by kernel_rfl)) fun M w0=>(aU ⟨[(0,.ref 0),(1,.fn v2.id v2.caps)],[],[(0,⟨3,1,lm (eInt .i64) v1⟩)],[0,1000000]⟩ ?_)
  unfold gk at h
  refine ao 2 (ap (aA (eInt .i64) v1) (aL 4 1 ?_))
  obtain ⟨v3,h1,h⟩:=bind_some h
  refine bW 0 0 (iV hK h1) (ak (dC ?_))
  cases h
  exact ci
end
noncomputable section
variable {K:Kn} {n:Nat} {M:Nat→Prop} {w0:Base} {r:Bool} {v1:Int} 
theorem iu (hK:KnOk K) (h:fZ K n v1=some r):ACalls Try.prog 74 [iI v1] (fun v _=>v = .bool r):=by
  refine bn (cat Try.f74 []) Try.func74 Try.ntmps74 fun M w0=>(aU ⟨[(0,iI v1)],[],[],[]⟩ ?_)
  unfold fZ at h
  refine aG 5 ?_
  cases h
  exact aX
end
def p60_0:=pth 0 111101
def p60_1:=pth 0 11111
def p60_2:=pth 0 111101001
def p60_3:=pth 0 11110101
def p60_4:=pth 0 1111101
def p60_5:=pth 5 1
def p60_6:=pth 5 101
def p60_7:=pth 6 1
def p60_8:=pth 6 101
def p60_9:=pth 7 1
noncomputable section
variable {K:Kn} {n:Nat} {M:Nat→Prop} {w0:Base} {r v1 v2:Int} 
abbrev bD (p:List Nat):Kont:=.c (cat Try.f60 p)
theorem jU (hK:KnOk K) (h:gi K n v1 v2=some r):ACalls Try.prog 60 [iI v1,iI v2] (fun v _=>v=iI r):=by
  refine bn (cat Try.f60 []) Try.func60 Try.ntmps60 fun M w0=>(aU ⟨[(0,iI v1),(1,iI v2)],[],[],[]⟩ ?_)
  unfold gi at h
  refine ag (ks':=[bD [1,0],bD [1,1]]) 3 (ao 1 ?_)
  obtain ⟨v3,h1,h⟩:=bind_some h
  refine bM (iu hK h1) (ak (ag (ks':=[bD [1,1,0],bD [1,1,1]]) 1 (ao 1 ?_)))
  obtain ⟨v4,h2,h⟩:=bind_some h
  refine bM (iu hK h2) (ak (ag (ks':=[bD p60_0,bD p60_1]) 3 ?_))
  rcases au h with ⟨h3,h⟩ | ⟨h3,h⟩
  ·
   refine ai 11 h3 (ag (ks':=[bD p60_2,bD p60_3,bD p60_1]) 4 ?_)
   rcases au h with ⟨h4,h⟩ | ⟨h4,h⟩
   ·
    refine ai 12 h4 (aG 6 ?_)
    cases h
    exact aX
   ·
    refine ai 12 h4 (aG 6 ?_)
    cases h
    exact aX
  ·
   refine ai 11 h3 (ag (ks':=[bD p60_4,bD p60_5]) 5 ?_)
   rcases au h with ⟨h5,h⟩ | ⟨h5,h⟩
   ·
    refine ai 13 h5 (aG 5 ?_)
    cases h
    exact aX
   ·
    refine ai 13 h5 (ag (ks':=[bD p60_6,bD p60_7]) 5 ?_)
    rcases au h with ⟨h6,h⟩ | ⟨h6,h⟩
    ·
     refine ai 16 h6 (aG 5 ?_)
     cases h
     exact aX
    ·
     refine ai 16 h6 (ag (ks':=[bD p60_8,bD p60_9]) 5 ?_)
     rcases au h with ⟨h7,h⟩ | ⟨h7,h⟩
     ·
      refine ai 19 h7 (aG 5 ?_)
      cases h
      exact aX
     ·
      refine ai 19 h7 (aG 5 ?_)
      cases h
      exact aX
end
noncomputable section
variable {K:Kn} {n:Nat} {M:Nat→Prop} {w0:Base} {r v1 v2:Int} {v3:List Int} 
abbrev cF59 (p:List Nat):Kont:=.c (cat Try.f59 p)
theorem iD (hK:KnOk K) (h:ge K n v1 v2 v3=some r):ACalls Try.prog 59 [iI v1,iI v2,.cptr ([.sl (lm (eInt .i64) v3)])] (fun v _=>v=iI r):=by
  refine bn (cat Try.f59 []) Try.func59 Try.ntmps59 fun M w0=>(aU ⟨[(0,iI v1),(1,iI v2),(2,.cptr ([.sl (lm (eInt .i64) v3)]))],[],[],[]⟩ ?_)
  unfold ge at h
  refine ag (ks':=[cF59 [1,0],cF59 [1,1]]) 3 (bG [0,1,2] [] [] ?_)
  obtain ⟨h1,h⟩:=aq h
  obtain ⟨h2,h⟩:=aq h
  obtain ⟨v4,h3,h⟩:=bind_some h
  refine bk 1 (nu 6 [.sl (lm (eInt .i64) v3),iI v2,.cptr ([iI (gD v3 v2)]),iI (gD v3 v2),.sl (lm (eInt .i64) v3),iI v1,.cptr ([iI (gD v3 v1)]),iI (gD v3 v1),iI v4]) [] [] [stp Try.prog 15 Try.f59 [1,0] 9] (av (vz 2) (d_v (aV (eInt .i64) (eInt .i64) h1 (fun _=>rfl) (fun _=>rfl)) (av (vz 3) (d_v (aV (eInt .i64) (eInt .i64) h2 (fun _=>rfl) (fun _=>rfl)) (av [.v 0 1] (ac (e_c 0 1 14 (jU hK h3)) (ac (e_d 0) bh))))))) (aG 1 ?_)
  cases h
  exact aX
end
def dp:=pth 12 1
def p27_1:=pth 11 10100
def cm:=pth 10 1
def p27_3:=pth 9 10100
def du:=pth 7 1
def p27_5:=pth 6 10100
def p27_6:=pth 11 1010010
def p27_7:=pth 11 1010011
def p27_8:=pth 11 1010011000
def p27_9:=pth 11 1010011001
def p27_10:=pth 11 10100111
def p27_11:=pth 9 1010010
def p27_12:=pth 9 1010011
def p27_13:=pth 9 1010011000
def p27_14:=pth 9 1010011001
def p27_15:=pth 9 10100111
def p27_16:=pth 9 10100110010
def p27_17:=pth 9 10100110011
def p27_18:=pth 9 101001100110
def p27_19:=pth 9 101001100111
def p27_20:=pth 10 10
def p27_21:=pth 11 1
def p27_22:=pth 11 100
def p27_23:=pth 11 101
def p27_24:=pth 11 1010
def p27_25:=pth 6 1010010
def p27_26:=pth 6 1010011
def p27_27:=pth 6 1010011000
def p27_28:=pth 6 1010011001
def p27_29:=pth 6 10100111
def p27_30:=pth 7 101
def p27_31:=pth 8 1
def p27_32:=pth 9 100
def p27_33:=pth 9 101
def p27_34:=pth 9 1010
def p27_35:=pth 0 11110
def p27_36:=pth 0 11111
def p27_37:=pth 0 111110
def p27_38:=pth 5 1
def p27_39:=pth 6 100
def p27_40:=pth 6 101
def p27_41:=pth 6 1010
noncomputable section
abbrev cp (M:Nat→Prop) (w0:Base):Cx:=⟨Try.prog,96,M,w0⟩
abbrev q27 (M:Nat→Prop) (w0:Base) (r:List Int):=bodyPost Try.prog Try.f27 (RetQ M w0 (fun v s=>v = .ref 21∧look 21 s.r=some ⟨3,1,lm (eInt .i64) r⟩))
abbrev ax (p:List Nat):Kont:=.c (cat Try.f27 p)
abbrev k27_3 (M:Nat→Prop) (w0:Base) (r:List Int) (m3:Nat):Kont:=kl (cp M w0) (q27 M w0 r) [.b 4,ax dp] (cat Try.f27 p27_1) m3
abbrev dw (M:Nat→Prop) (w0:Base) (r:List Int) (m2:Nat):Kont:=kl (cp M w0) (q27 M w0 r) [.b 2,ax cm] (cat Try.f27 p27_3) m2
abbrev k27_1 (M:Nat→Prop) (w0:Base) (r:List Int) (m1:Nat):Kont:=kl (cp M w0) (q27 M w0 r) [.b 0,ax du] (cat Try.f27 p27_5) m1
def s27_l3 (v26:List Int) (v27 v28:Int) (v29:List Int):AS:=⟨[(5,.ref 21),(82,.sl (lm (eInt .i64) v26)),(83,iI v27),(84,iI v28)],[],[(21,⟨3,1,lm (eInt .i64) v29⟩)],[21]⟩
def s27_l2 (v2:List Int) (v3 v8 v14 v15:Int) (v16 v17 v18:List Int):AS:=⟨[(0,iI v3),(5,.ref 21),(6,.ptr 6 0),(7,.ref 27),(8,iI v8),(11,iI v14),(43,.sl (lm (eInt .i64) v2)),(44,iI (v2.length:Int)),(45,iI v15)],[(6,[.ref 24])],[(21,⟨3,1,lm (eInt .i64) v16⟩),(24,⟨3,1,lm (eInt .i64) v17⟩),(27,⟨3,1,lm (eInt .i64) v18⟩)],[6,21,24,27]⟩
def s27_l1 (v2:List Int) (v3:Int) (v4 v5 v6:List Int) (v8 v9:Int):AS:=⟨[(0,iI v3),(1,.sl (lm (eInt .i64) v2)),(5,.ref 21),(6,.ptr 6 0),(7,.ref 27),(8,iI v8),(28,.sl (lm (eInt .i64) v2)),(29,iI (v2.length:Int)),(30,iI v9)],[(6,[.ref 24])],[(21,⟨3,1,lm (eInt .i64) v4⟩),(24,⟨3,1,lm (eInt .i64) v5⟩),(27,⟨3,1,lm (eInt .i64) v6⟩)],[6,21,24,27]⟩
abbrev H27_1 (M:Nat→Prop) (w0:Base) (r v2:List Int) (v3:Int) (v4 v5 v6:List Int) (m1:Nat) (L1:Int→Int→Option (List Int)):Prop:=∀ {v8:Int} {v9:Int},L1 v8 v9=some r→LP (cp M w0) (q27 M w0 r) [.b 0,ax du] (cat Try.f27 p27_5) m1 (s27_l1 v2 v3 v4 v5 v6 v8 v9)
abbrev H27_2 (M:Nat→Prop) (w0:Base) (r v2:List Int) (v3 v8:Int) (m2:Nat) (L2:Int→Int→(List Int)→(List Int)→(List Int)→Option (List Int)):Prop:=∀ {v14:Int} {v15:Int} {v16:(List Int)} {v17:(List Int)} {v18:(List Int)},L2 v14 v15 v16 v17 v18=some r→LP (cp M w0) (q27 M w0 r) [.b 2,ax cm] (cat Try.f27 p27_3) m2 (s27_l2 v2 v3 v8 v14 v15 v16 v17 v18)
abbrev H27_3 (M:Nat→Prop) (w0:Base) (r:List Int) (m3:Nat) (L3:(List Int)→Int→Int→(List Int)→Option (List Int)):Prop:=∀ {v26:(List Int)} {v27:Int} {v28:Int} {v29:(List Int)},L3 v26 v27 v28 v29=some r→LP (cp M w0) (q27 M w0 r) [.b 4,ax dp] (cat Try.f27 p27_1) m3 (s27_l3 v26 v27 v28 v29)
variable {K:Kn} {n:Nat} {M:Nat→Prop} {w0:Base} {r:List Int} {v1:Int} {v2:List Int} {v3:Int} {v4 v5 v6:List Int} {v8 v9 v14 v15:Int} {v16 v17 v18 v26:List Int} {v27 v28:Int} {v29:List Int} {m1:Nat} {L1:Int→Int→Option (List Int)} {m2:Nat} {L2:Int→Int→(List Int)→(List Int)→(List Int)→Option (List Int)} {m3:Nat} {L3:(List Int)→Int→Int→(List Int)→Option (List Int)}
theorem jX (hK:KnOk K) (hL3:H27_3 M w0 r m3 L3) (h:fI K n L3 v26 v27 v28 v29=some r):VE (cp M w0) (q27 M w0 r) [ax p27_1,k27_3 M w0 r m3,.b 4,ax dp] .normal (s27_l3 v26 v27 v28 v29):=by
  unfold fI at h
  refine ag (ks':=[ax p27_6,ax p27_7,k27_3 M w0 r m3,.b 4,ax dp]) 3 ?_
  rcases au h with ⟨h46,h⟩ | ⟨h46,h⟩
  ·
   refine ai 85 h46 (ag (ks':=[ax p27_8,ax p27_9,.b 5,ax p27_10,k27_3 M w0 r m3,.b 4,ax dp]) 5 (ao 0 ?_))
   obtain ⟨h47,h⟩:=aq h
   refine ap (aV (eInt .i64) (eInt .i64) h47 (fun _=>rfl) (fun _=>rfl)) (ak (ao 2 ?_))
   obtain ⟨h48,h⟩:=aq h
   refine ap (bd 21 1 (eInt .i64) h48) (ap (aD 3 0 (eInt .i64) (eInt .i64) (ay h48).2 (fun _=>rfl)) (aL 5 1 ?_))
   obtain ⟨h49,h⟩:=aq h
   exact ap (bd 21 1 (eInt .i64) h49) (ap (bx 21 3 1 0 (eInt .i64) (eInt .i64) (w64 ((gD v29 ((gD v26 v28)))+1)) (ay h49).2 (fun _=>rfl)) (ak (aj 2 (aJ (hL3 h)))))
  ·
   refine ai 85 h46 (aG 8 ?_)
   cases h
   exact dS
theorem jk (hK:KnOk K) (m:Nat):H27_3 M w0 r m (fd K n m):=by
  induction m with
 | zero=>intro v26 v27 v28 v29 h; cases h
 | succ m ih=>intro v26 v27 v28 v29 h; have h:fI K n (fd K n m) v26 v27 v28 v29=some r:=h; exact aK (jX hK ih h)
theorem jp (hK:KnOk K) (hL2:H27_2 M w0 r v2 v3 v8 m2 L2) (h:fu K n v2 v3 v8 L2 v14 v15 v16 v17 v18=some r):VE (cp M w0) (q27 M w0 r) [ax p27_3,dw M w0 r m2,.b 2,ax cm] .normal (s27_l2 v2 v3 v8 v14 v15 v16 v17 v18):=by
  unfold fu at h
  refine ag (ks':=[ax p27_11,ax p27_12,dw M w0 r m2,.b 2,ax cm]) 3 ?_
  rcases au h with ⟨h26,h⟩ | ⟨h26,h⟩
  ·
   refine ai 46 h26 (ag (ks':=[ax p27_13,ax p27_14,.b 3,ax p27_15,dw M w0 r m2,.b 2,ax cm]) 5 (ao 1 ?_))
   obtain ⟨h27,h⟩:=aq h
   refine ap (aV (eInt .i64) (eInt .i64) h27 (fun _=>rfl) (fun _=>rfl)) (ak (ag (ks':=[ax p27_16,ax p27_17,.b 3,ax p27_15,dw M w0 r m2,.b 2,ax cm]) 1 (ao 2 ?_)))
   obtain ⟨v19,h28,h⟩:=bind_some h
   refine bM (gj hK h28) (ak (ag (ks':=[ax p27_18,ax p27_19,.b 3,ax p27_15,dw M w0 r m2,.b 2,ax cm]) 1 (bG [0,5,6,7,8,11,12,14,43,44,45] [6] [21,24,27] ?_)))
   obtain ⟨h29,h⟩:=aq h
   obtain ⟨h30,h⟩:=aq h
   obtain ⟨h31,h⟩:=aq h
   obtain ⟨h32,h⟩:=aq h
   obtain ⟨h33,h⟩:=aq h
   refine bk 3 (nu 54 [.ref 21,iI v15,.ref 24,iI v15,.ref 27,iI v15,iI (w64 (v3*v19)),iI v8,iI (w64 (Int.tdiv (w64 (v3*v19)) v8)),iI (w64 (v3*v19)),iI v8,iI (Int.tmod (w64 (v3*v19)) v8),iI v15,.eptr 21 1 (v15.toNat) 0,.eptr 24 1 (v15.toNat) 0,.eptr 27 1 (v15.toNat) 0]) [] [] [strS 21 ⟨3,1,lm (eInt .i64) (List.set v16 v15.toNat (w64 (Int.tdiv (w64 (v3*v19)) v8)))⟩,strS 24 ⟨3,1,lm (eInt .i64) (List.set v17 v15.toNat (Int.tmod (w64 (v3*v19)) v8))⟩,strS 27 ⟨3,1,lm (eInt .i64) (List.set v18 v15.toNat v15)⟩] (av [.v 0 1,.v 0 1,.v 0 2,.v 0 2,.v 0 3,.v 0 3,.v 0 1,.v 0 1] (d_v (y_quo .i64 (w64 (v3*v19)) h29) (av [.v 0 2,.v 0 2] (ac (k_v (lo:=0) (k:=2) (bV ⟨(by kernel_rfl),(b7 (y_rem .i64 (w64 (v3*v19)) h30) (by kernel_rfl))⟩ (bV ⟨(by kernel_rfl),(b7 (y_rem .i64 (w64 (v3*v19)) h30) (by kernel_rfl))⟩ de))) (av [.v 0 3] (d_v (aB 21 1 (eInt .i64) (L:=v16) h31) (ac (e_s (m:=0) (bx 21 3 1 0 (eInt .i64) (eInt .i64) (w64 (Int.tdiv (w64 (v3*v19)) v8)) (ay h31).2 (fun _=>rfl))) (ac (e_v (lo:=1) (aB 24 1 (eInt .i64) (L:=v17) h32)) (ac (e_s (m:=1) (bx 24 3 1 0 (eInt .i64) (eInt .i64) (Int.tmod (w64 (v3*v19)) v8) (ay h32).2 (fun _=>rfl))) (ac (e_v (lo:=2) (aB 27 1 (eInt .i64) (L:=v18) h33)) (ac (e_s (m:=2) (bx 27 3 1 0 (eInt .i64) (eInt .i64) v15 (ay h33).2 (fun _=>rfl))) bh))))))))))) ?_
   obtain ⟨v20,h34,h⟩:=bind_some h
   have h34:=Option.some.inj h34
   obtain ⟨v21,h35,h⟩:=bind_some h
   have h35:=Option.some.inj h35
   refine aQ (ks':=[ax p27_19,.b 3,ax p27_15,dw M w0 r m2,.b 2,ax cm]) 0 ⟨[(0,iI v3),(5,.ref 21),(6,.ptr 6 0),(7,.ref 27),(8,iI v8),(11,iI v14),(12,iI v15),(43,.sl (lm (eInt .i64) v2)),(44,iI (v2.length:Int)),(45,iI v15)],[(6,[.ref 24])],[(21,⟨3,1,lm (eInt .i64) v20⟩),(24,⟨3,1,lm (eInt .i64) v21⟩),(27,⟨3,1,lm (eInt .i64) (List.set v18 v15.toNat v15)⟩)],[6,21,24,27]⟩ ?_ (by subst h35; subst h34; kernel_rfl)
   refine ao 3 ?_
   obtain ⟨h36,h⟩:=aq h
   exact ap (bd 21 1 (eInt .i64) h36) (ap (aD 3 0 (eInt .i64) (eInt .i64) (ay h36).2 (fun _=>rfl)) (ak (aj 2 (aJ (hL2 h)))))
  ·
   refine ai 46 h26 (ag (ks':=[ax p27_20,ax p27_21]) 6 (ao 1 (ot_f 24 (ot_fo 6 6 ([.sl (lm (eInt .i64) v17)]) (ot_mf 59 #[(.tmp 6)] [.cptr ([.sl (lm (eInt .i64) v17)])] ?_)))))
   obtain ⟨v22,h37,h⟩:=bind_some h
   refine bW 27 0 (iS hK h37) (ak (ag (ks':=[ax p27_22,ax p27_23,ax dp]) 2 (ao 2 (ot_f 27 ?_))))
   obtain ⟨h38,h⟩:=aq h
   exact ap (aop_slice_sl (eInt .i64) v22 (0:Int) v14 33 (.tmp 80) none (some (.tmp 81)) 82 (e:=3) (sz:=1) (by kernel_rfl) (by kernel_rfl) (by kernel_rfl) (by kernel_rfl) (by kernel_rfl) (by kernel_rfl) (fun _=>rfl) (fun k hk=>by subst hk; kernel_rfl) h38) (ap (aA (eInt .i64) (List.drop ((0:Int)).toNat (List.take v14.toNat v22))) (ak (aj 1 (aI (p:=p27_24) n (jk hK n h)))))
theorem iT (hK:KnOk K) (m:Nat):H27_2 M w0 r v2 v3 v8 m (eG K n v2 v3 v8 m):=by
  induction m with
 | zero=>intro v14 v15 v16 v17 v18 h; cases h
 | succ m ih=>intro v14 v15 v16 v17 v18 h; have h:fu K n v2 v3 v8 (eG K n v2 v3 v8 m) v14 v15 v16 v17 v18=some r:=h; exact aK (jp hK ih h)
theorem jz (hK:KnOk K) (hL1:H27_1 M w0 r v2 v3 v4 v5 v6 m1 L1) (h:eO K n v2 v3 v4 v5 v6 L1 v8 v9=some r):VE (cp M w0) (q27 M w0 r) [ax p27_5,k27_1 M w0 r m1,.b 0,ax du] .normal (s27_l1 v2 v3 v4 v5 v6 v8 v9):=by
  unfold eO at h
  refine ag (ks':=[ax p27_25,ax p27_26,k27_1 M w0 r m1,.b 0,ax du]) 3 ?_
  rcases au h with ⟨h11,h⟩ | ⟨h11,h⟩
  ·
   refine ai 31 h11 (ag (ks':=[ax p27_27,ax p27_28,.b 1,ax p27_29,k27_1 M w0 r m1,.b 0,ax du]) 5 (ao 0 ?_))
   obtain ⟨h12,h⟩:=aq h
   refine ap (aV (eInt .i64) (eInt .i64) h12 (fun _=>rfl) (fun _=>rfl)) (ak (ao 2 ?_))
   obtain ⟨v10,h13,h⟩:=bind_some h
   exact bM (gj hK h13) (ak (aj 2 (aJ (hL1 h))))
  ·
   refine ai 31 h11 (ag (ks':=[ax p27_30,ax p27_31]) 8 ?_)
   rcases au h with ⟨h14,h⟩ | ⟨h14,h⟩
   ·
    refine ai 40 h14 (aG 5 ?_)
    cases h
    exact dS
   ·
    exact ai 40 h14 (ag (ks':=[ax p27_32,ax p27_33,ax cm]) 6 (ao 1 (ap (aA (eInt .i64) v2) (ak (aj 1 (aI (p:=p27_34) n (iT hK n h)))))))
theorem iC (hK:KnOk K) (m:Nat):H27_1 M w0 r v2 v3 v4 v5 v6 m (eZ K n v2 v3 v4 v5 v6 m):=by
  induction m with
 | zero=>intro v8 v9 h; cases h
 | succ m ih=>intro v8 v9 h; have h:eO K n v2 v3 v4 v5 v6 (eZ K n v2 v3 v4 v5 v6 m) v8 v9=some r:=h; exact aK (jz hK ih h)
theorem iq (hK:KnOk K) (h:fY K n v1 v2=some r):ACalls Try.prog 27 [iI v1,.sl (lm (eInt .i64) v2)] (fun v s=>v = .ref 21∧look 21 s.r=some ⟨3,1,lm (eInt .i64) r⟩):=by
  refine bn (cat Try.f27 []) Try.func27 Try.ntmps27 fun M w0=>(aU ⟨[(0,iI v1),(1,.sl (lm (eInt .i64) v2))],[],[],[]⟩ ?_)
  unfold fY at h
  refine ag (ks':=[ax [1,0],ax [1,1]]) 3 (ao 1 ?_)
  obtain ⟨v3,h1,h⟩:=bind_some h
  refine bM (gj hK h1) (ak (ag (ks':=[ax [1,1,0],ax [1,1,1]]) 1 (ao 1 (ap (aA (eInt .i64) v2) ?_))))
  obtain ⟨h2,h⟩:=aq h
  refine cH (eInt .i64) (0:Int) 33 (.tmp 20) (.tmp 20) 21 (e:=3) (sz:=1) (zc:=[iI 0]) (kd:=.i64) (kd':=.i64) h2 (ak ?_)
  obtain ⟨v4,h3,h⟩:=bind_some h
  have h3:=Option.some.inj h3
  refine aQ (ks':=[ax p27_35,ax p27_36]) 1 ⟨[(0,iI v3),(1,.sl (lm (eInt .i64) v2)),(5,.ref 21)],[],[(21,⟨3,1,lm (eInt .i64) v4⟩)],[21]⟩ ?_ (by subst h3; kernel_rfl)
  refine ao 1 (ap (aA (eInt .i64) v2) ?_)
  obtain ⟨h4,h⟩:=aq h
  refine cH (eInt .i64) (0:Int) 33 (.tmp 23) (.tmp 23) 24 (e:=3) (sz:=1) (zc:=[iI 0]) (kd:=.i64) (kd':=.i64) h4 (ak ?_)
  obtain ⟨v5,h5,h⟩:=bind_some h
  have h5:=Option.some.inj h5
  refine aQ (ks':=[ax p27_37,ax p27_38]) 1 ⟨[(0,iI v3),(1,.sl (lm (eInt .i64) v2)),(5,.ref 21),(6,.ptr 6 0)],[(6,[.ref 24])],[(21,⟨3,1,lm (eInt .i64) v4⟩),(24,⟨3,1,lm (eInt .i64) v5⟩)],[6,21,24]⟩ ?_ (by subst h5; kernel_rfl)
  refine ao 1 (ap (aA (eInt .i64) v2) ?_)
  obtain ⟨h6,h⟩:=aq h
  refine cH (eInt .i64) (0:Int) 33 (.tmp 26) (.tmp 26) 27 (e:=3) (sz:=1) (zc:=[iI 0]) (kd:=.i64) (kd':=.i64) h6 (ak ?_)
  obtain ⟨v6,h7,h⟩:=bind_some h
  have h7:=Option.some.inj h7
  refine aQ (ks':=[ax p27_39,ax p27_40,ax du]) 4 ⟨[(0,iI v3),(1,.sl (lm (eInt .i64) v2)),(5,.ref 21),(6,.ptr 6 0),(7,.ref 27),(8,iI 0)],[(6,[.ref 24])],[(21,⟨3,1,lm (eInt .i64) v4⟩),(24,⟨3,1,lm (eInt .i64) v5⟩),(27,⟨3,1,lm (eInt .i64) v6⟩)],[6,21,24,27]⟩ ?_ (by subst h7; kernel_rfl)
  exact ao 1 (ap (aA (eInt .i64) v2) (ak (aj 1 (aI (p:=p27_41) n (iC hK n h)))))
end
def p75_0:=pth 0 110100
def p75_1:=pth 0 11010010
def p75_2:=pth 0 11010011
def p75_3:=pth 0 110100110010
def p75_4:=pth 0 110100110011
def p75_5:=pth 0 110100111
def p75_6:=pth 0 11010
noncomputable section
abbrev cx75 (M:Nat→Prop) (w0:Base):Cx:=⟨Try.prog,19,M,w0⟩
abbrev q75 (M:Nat→Prop) (w0:Base) (r:Int):=bodyPost Try.prog Try.f75 (RetQ M w0 (fun v _=>v=iI r))
abbrev bN (p:List Nat):Kont:=.c (cat Try.f75 p)
abbrev k75_1 (M:Nat→Prop) (w0:Base) (r:Int) (m1:Nat):Kont:=kl (cx75 M w0) (q75 M w0 r) [.b 0,bN [1,1]] (cat Try.f75 p75_0) m1
def s75_l1 (v1:List Int) (v2:Fv) (v4:Int):AS:=⟨[(0,.sl (lm (eInt .i64) v1)),(1,.fn v2.id v2.caps),(7,iI (v1.length:Int)),(8,iI v4)],[],[],[]⟩
abbrev H75_1 (M:Nat→Prop) (w0:Base) (r:Int) (v1:List Int) (v2:Fv) (m1:Nat) (L1:Int→Option Int):Prop:=∀ {v4:Int},L1 v4=some r→LP (cx75 M w0) (q75 M w0 r) [.b 0,bN [1,1]] (cat Try.f75 p75_0) m1 (s75_l1 v1 v2 v4)
variable {K:Kn} {n:Nat} {M:Nat→Prop} {w0:Base} {r:Int} {v1:List Int} {v2:Fv} {v4:Int} {m1:Nat} {L1:Int→Option Int}
theorem jo (hK:KnOk K) (hL1:H75_1 M w0 r v1 v2 m1 L1) (h:fh K n v1 v2 L1 v4=some r):VE (cx75 M w0) (q75 M w0 r) [bN p75_0,k75_1 M w0 r m1,.b 0,bN [1,1]] .normal (s75_l1 v1 v2 v4):=by
  unfold fh at h
  refine ag (ks':=[bN p75_1,bN p75_2,k75_1 M w0 r m1,.b 0,bN [1,1]]) 3 ?_
  rcases au h with ⟨h5,h⟩ | ⟨h5,h⟩
  ·
   refine ai 9 h5 (ag (ks':=[bN p75_3,bN p75_4,.b 1,bN p75_5,k75_1 M w0 r m1,.b 0,bN [1,1]]) 7 (ao 3 ?_))
   obtain ⟨h6,h⟩:=aq h
   refine ap (aV (eInt .i64) (eInt .i64) h6 (fun _=>rfl) (fun _=>rfl)) (aL 5 1 ?_)
   obtain ⟨v5,h7,h⟩:=bind_some h
   refine ot_cd (hK.eN h7) (ak ?_)
   rcases au h with ⟨h8,h⟩ | ⟨h8,h⟩
   ·
    refine ai 16 h8 (aG 9 ?_)
    cases h
    exact aX
   ·
    exact ai 16 h8 (aj 4 (aJ (hL1 h)))
  ·
   refine ai 9 h5 (aG 8 ?_)
   cases h
   exact aX
theorem jP (hK:KnOk K) (m:Nat):H75_1 M w0 r v1 v2 m (fp K n v1 v2 m):=by
  induction m with
 | zero=>intro v4 h; cases h
 | succ m ih=>intro v4 h; have h:fh K n v1 v2 (fp K n v1 v2 m) v4=some r:=h; exact aK (jo hK ih h)
theorem jZ (hK:KnOk K) (h:gz K n v1 v2=some r):ACalls Try.prog 75 [.sl (lm (eInt .i64) v1),.fn v2.id v2.caps] (fun v _=>v=iI r):=by
  refine bn (cat Try.f75 []) Try.func75 Try.ntmps75 fun M w0=>(aU ⟨[(0,.sl (lm (eInt .i64) v1)),(1,.fn v2.id v2.caps)],[],[],[]⟩ ?_)
  unfold gz at h
  exact ag (ks':=[bN [1,0,0],bN [1,0,1],bN [1,1]]) 4 (ao 1 (ap (aA (eInt .i64) v1) (ak (aj 1 (aI (p:=p75_6) n (jP hK n h))))))
end
noncomputable section
variable {K:Kn} {n:Nat} {M:Nat→Prop} {w0:Base} {r:Bool} {v1:List Int} {v2:Fv} 
abbrev cF61 (p:List Nat):Kont:=.c (cat Try.f61 p)
theorem jh (hK:KnOk K) (h:gl K n v1 v2=some r):ACalls Try.prog 61 [.sl (lm (eInt .i64) v1),.fn v2.id v2.caps] (fun v _=>v = .bool r):=by
  refine bn (cat Try.f61 []) Try.func61 Try.ntmps61 fun M w0=>(aU ⟨[(0,.sl (lm (eInt .i64) v1)),(1,.fn v2.id v2.caps)],[],[],[]⟩ ?_)
  unfold gl at h
  refine ag (ks':=[cF61 [1,0],cF61 [1,1]]) 3 (ao 2 ?_)
  obtain ⟨v3,h1,h⟩:=bind_some h
  refine bM (jZ hK h1) (ak (aG 1 ?_))
  cases h
  exact aX
end
noncomputable section
variable {K:Kn} {n:Nat} {M:Nat→Prop} {w0:Base} {r:Int×Int} {v1 v2:Int} 
theorem g_bits_Mul64_ok (hK:KnOk K) (h:gE K n v1 v2=some r):ACalls Try.prog 83 [.int .u64 v1,.int .u64 v2] (fun v _=>v = .tup [.int .u64 r.1,.int .u64 r.2]):=by
  refine bn (cat Try.f83 []) Try.func83 Try.ntmps83 fun M w0=>(aU ⟨[(0,.int .u64 v1),(1,.int .u64 v2)],[],[],[]⟩ ?_)
  unfold gE at h
  refine aG 25 ?_
  cases h
  exact ve_dt
end
noncomputable section
variable {K:Kn} {n:Nat} {M:Nat→Prop} {w0:Base} {r:Int×Int} {v1 v2:Int} 
abbrev cF76 (p:List Nat):Kont:=.c (cat Try.f76 p)
theorem g_bits_Mul_ok (hK:KnOk K) (h:gu K n v1 v2=some r):ACalls Try.prog 76 [.int .u64 v1,.int .u64 v2] (fun v _=>v = .tup [.int .u64 r.1,.int .u64 r.2]):=by
  refine bn (cat Try.f76 []) Try.func76 Try.ntmps76 fun M w0=>(aU ⟨[(0,.int .u64 v1),(1,.int .u64 v2)],[],[],[]⟩ ?_)
  unfold gu at h
  refine ag (ks':=[cF76 [1,1,0],cF76 [1,1,1]]) 6 (ao 2 ?_)
  obtain ⟨v3,h1,h⟩:=bind_some h
  refine bM (g_bits_Mul64_ok hK h1) (ak (aG 3 ?_))
  cases h
  exact ve_dt
end
def p63_0:=pth 7 1
def p63_1:=pth 6 1000
def p63_2:=pth 6 100000
def p63_3:=pth 6 100001
def p63_4:=pth 6 10001
def p63_5:=pth 6 100010
def p63_6:=pth 0 111101
def p63_7:=pth 0 11111
def p63_8:=pth 0 111110
def p63_9:=pth 5 1
def p63_10:=pth 5 10
def p63_11:=pth 6 1
def p63_12:=pth 6 100
def p63_13:=pth 0 111100
noncomputable section
abbrev cx63 (M:Nat→Prop) (w0:Base):Cx:=⟨Try.prog,48,M,w0⟩
abbrev q63 (M:Nat→Prop) (w0:Base) (r:List Int):=bodyPost Try.prog Try.f63 (RetQ M w0 (fun v s=>v = .ref 30∧look 30 s.r=some ⟨3,1,lm (eInt .i64) r⟩))
abbrev aZ (p:List Nat):Kont:=.c (cat Try.f63 p)
abbrev k63_1 (M:Nat→Prop) (w0:Base) (r:List Int) (m1:Nat):Kont:=kl (cx63 M w0) (q63 M w0 r) [.b 0,aZ p63_0] (cat Try.f63 p63_1) m1
def s63_l2 (v7:Int) (v8:List Int):AS:=⟨[(7,.ref 30),(8,iI v7)],[],[(30,⟨3,1,lm (eInt .i64) v8⟩)],[30]⟩
def s63_j1 (v1:List Int) (v3:Int×Int) (v4:Bool):AS:=⟨[(0,.sl (lm (eInt .i64) v1)),(6,.int .u64 v3.2),(26,.bool v4)],[],[],[]⟩
abbrev H63_1 (M:Nat→Prop) (w0:Base) (r:List Int) (m1:Nat) (L1:Int→(List Int)→Option (List Int)):Prop:=∀ {v7:Int} {v8:(List Int)},L1 v7 v8=some r→LP (cx63 M w0) (q63 M w0 r) [.b 0,aZ p63_0] (cat Try.f63 p63_1) m1 (s63_l2 v7 v8)
variable {K:Kn} {n:Nat} {M:Nat→Prop} {w0:Base} {r v1:List Int} {v2:Int} {v3:Int×Int} {v4:Bool} {v7:Int} {v8:List Int} {m1:Nat} {L1:Int→(List Int)→Option (List Int)}
theorem je (hK:KnOk K) (hL1:H63_1 M w0 r m1 L1) (h:fl K n L1 v7 v8=some r):VE (cx63 M w0) (q63 M w0 r) [aZ p63_1,k63_1 M w0 r m1,.b 0,aZ p63_0] .normal (s63_l2 v7 v8):=by
  unfold fl at h
  refine ag (ks':=[aZ p63_2,aZ p63_3,aZ p63_4,k63_1 M w0 r m1,.b 0,aZ p63_0]) 2 (ao 2 (ap (aA (eInt .i64) v8) (ak ?_)))
  rcases au h with ⟨h13,h⟩ | ⟨h13,h⟩
  ·
   refine ai 37 h13 (ag (ks':=[aZ p63_5,.b 1,k63_1 M w0 r m1,.b 0,aZ p63_0]) 3 (bG [7,8] [] [30] ?_))
   obtain ⟨h14,h⟩:=aq h
   obtain ⟨h15,h⟩:=aq h
   obtain ⟨h16,h⟩:=aq h
   exact bk 2 (nu 38 [iI v7,.ref 30,iI v7,.sref 30 1 (v7.toNat) (((v8.length:Int)).toNat - v7.toNat),.ref 30,iI v7,.sref 30 1 ((0:Int).toNat) (v7.toNat - (0:Int).toNat)]++nu 46 [iI (w64 (v7+((min (v7.toNat - (0:Int).toNat) (((v8.length:Int)).toNat - v7.toNat):Nat):Int)))]) [] [] [cpF 30 (some 45) ⟨3,1,lm (eInt .i64) (cpy v8 (v7.toNat) (((v8.length:Int)).toNat - v7.toNat) v8 ((0:Int).toNat) (v7.toNat - (0:Int).toNat))⟩ (iI ((min (v7.toNat - (0:Int).toNat) (((v8.length:Int)).toNat - v7.toNat):Nat):Int)),stp Try.prog 48 Try.f63 p63_5 9] (av [.v 0 2,.v 0 2,.v 0 2] (d_v (gX (eInt .i64) v8 v7 (v8.length:Int) 33 (.tmp 39) (some (.tmp 40)) none 41 (id:=30) (e:=3) (sz:=1) (et:=3) (by kernel_rfl) (by kernel_rfl) (by kernel_rfl) (by kernel_rfl) (by kernel_rfl) (by kernel_rfl) (by kernel_rfl) (fun k hk=>by subst hk; kernel_rfl) h14) (av [.v 0 2,.v 0 2] (d_v (gX (eInt .i64) v8 (0:Int) v7 33 (.tmp 42) none (some (.tmp 43)) 44 (id:=30) (e:=3) (sz:=1) (et:=3) (by kernel_rfl) (by kernel_rfl) (by kernel_rfl) (by kernel_rfl) (by kernel_rfl) (by kernel_rfl) (by kernel_rfl) (fun k hk=>by subst hk; kernel_rfl) h15) (ac (e_s (m:=0) (y_cp (eInt .i64) 30 3 (L:=v8) (S:=v8) (od:=(some (v7.toNat,(((v8.length:Int)).toNat - v7.toNat)))) (os:=(some ((0:Int).toNat,(v7.toNat - (0:Int).toNat)))) (v7.toNat) (((v8.length:Int)).toNat - v7.toNat) ((0:Int).toNat) (v7.toNat - (0:Int).toNat) (fun _=>rfl) h16)) (av [.v 1 1] (ac (e_d 1) bh))))))) (aj 1 (aJ (hL1 h)))
  ·
   refine ai 37 h13 (aG 8 ?_)
   cases h
   exact dS
theorem iP (hK:KnOk K) (m:Nat):H63_1 M w0 r m (fg K n m):=by
  induction m with
 | zero=>intro v7 v8 h; cases h
 | succ m ih=>intro v7 v8 h; have h:fl K n (fg K n m) v7 v8=some r:=h; exact aK (je hK ih h)
theorem hJ (hK:KnOk K) (h:fr K n v1 v3 v4=some r):VE (cx63 M w0) (q63 M w0 r) [aZ p63_6,aZ p63_7] .normal (s63_j1 v1 v3 v4):=by
  unfold fr at h
  rcases au h with ⟨h4,h⟩ | ⟨h4,h⟩
  ·
   refine ai 26 h4 ?_
   cases h
  ·
   refine ai 26 h4 (ag (ks':=[aZ p63_8,aZ p63_9]) 3 (ao 2 ?_))
   obtain ⟨h5,h⟩:=aq h
   refine cH (eInt .i64) (0:Int) 33 (.tmp 29) (.tmp 29) 30 (e:=3) (sz:=1) (zc:=[iI 0]) (kd:=.i64) (kd':=.i64) h5 (ak ?_)
   obtain ⟨v5,h6,h⟩:=bind_some h
   have h6:=Option.some.inj h6
   refine aQ (ks':=[aZ p63_10,aZ p63_11]) 1 ⟨[(0,.sl (lm (eInt .i64) v1)),(7,.ref 30)],[],[(30,⟨3,1,lm (eInt .i64) v5⟩)],[30]⟩ ?_ (by subst h6; kernel_rfl)
   refine ao 2 ?_
   obtain ⟨h7,h⟩:=aq h
   exact ap (y_cp (eInt .i64) 30 3 (L:=v5) (S:=v1) (od:=none) (os:=none) 0 v5.length 0 v1.length (fun _=>rfl) h7) (ak (aj 2 (aI (p:=p63_12) n (iP hK n h))))
theorem jQ (hK:KnOk K) (h:gw K n v1 v2=some r):ACalls Try.prog 63 [.sl (lm (eInt .i64) v1),iI v2] (fun v s=>v = .ref 30∧look 30 s.r=some ⟨3,1,lm (eInt .i64) r⟩):=by
  refine bn (cat Try.f63 []) Try.func63 Try.ntmps63 fun M w0=>(aU ⟨[(0,.sl (lm (eInt .i64) v1)),(1,iI v2)],[],[],[]⟩ ?_)
  unfold gw at h
  refine ag (ks':=[aZ [1,0,1],aZ [1,1]]) 5 ?_
  rcases au h with ⟨h1,h⟩ | ⟨h1,h⟩
  ·
   refine ai 10 h1 ?_
   cases h
  ·
   refine ai 10 h1 (ag (ks':=[aZ [1,1,0],aZ [1,1,1]]) 3 (ao 1 (ap (aA (eInt .i64) v1) (aL 5 3 ?_))))
   obtain ⟨v3,h2,h⟩:=bind_some h
   refine bM (g_bits_Mul_ok hK h2) (ak (ag (ks':=[aZ p63_13,aZ p63_6,aZ p63_7]) 2 (ao 3 ?_)))
   rcases au h with ⟨h3,h⟩ | ⟨h3,h⟩
   ·
    exact aM 23 h3 (ak (aj 0 (hJ hK h)))
   ·
    exact aM 23 h3 (ak (aj 0 (hJ hK h)))
end
def p28_0:=pth 0 11010
noncomputable section
abbrev cx28 (M:Nat→Prop) (w0:Base):Cx:=⟨Try.prog,15,M,w0⟩
abbrev q28 (M:Nat→Prop) (w0:Base) (r:List Int):=bodyPost Try.prog Try.f28 (RetQ M w0 (fun v s=>v = .ref 1014∧look 1014 s.r=some ⟨3,1,lm (eInt .i64) r⟩))
def s28_j1 (v1:Int) (v5:List Int):AS:=⟨[(0,iI v1),(1,.sl (lm (eInt .i64) v5))],[],[],[]⟩
variable {K:Kn} {n:Nat} {M:Nat→Prop} {w0:Base} {r:List Int} {v1:Int} {v2 v5:List Int} 
abbrev cu (p:List Nat):Kont:=.c (cat Try.f28 p)
theorem hP (hK:KnOk K) (h:fD K n v1 v5=some r):VE (cx28 M w0) (q28 M w0 r) [cu [1,1]] .normal (s28_j1 v1 v5):=by
  unfold fD at h
  refine ag (ks':=[cu [1,1,0],cu [1,1,1]]) 1 (ao 2 ?_)
  obtain ⟨v6,h4,h⟩:=bind_some h
  refine dR 1014 (iq hK h4) (eJ 21) (ak (aG 1 ?_))
  cases h
  exact dS
theorem iE (hK:KnOk K) (h:gf K n v1 v2=some r):ACalls Try.prog 28 [iI v1,.sl (lm (eInt .i64) v2)] (fun v s=>v = .ref 1014∧look 1014 s.r=some ⟨3,1,lm (eInt .i64) r⟩):=by
  refine bn (cat Try.f28 []) Try.func28 Try.ntmps28 fun M w0=>(aU ⟨[(0,iI v1),(1,.sl (lm (eInt .i64) v2))],[],[],[]⟩ ?_)
  unfold gf at h
  refine ag (ks':=[cu [1,0,0],cu [1,0,1],cu [1,1]]) 4 (ao 1 ?_)
  obtain ⟨v3,h1,h⟩:=bind_some h
  refine bM (jh hK h1) (ak ?_)
  rcases au h with ⟨h2,h⟩ | ⟨h2,h⟩
  ·
   refine ai 7 h2 (ag (ks':=[cu p28_0,cu [1,1]]) 1 (ao 2 (ap (aA (eInt .i64) v2) ?_)))
   obtain ⟨v4,h3,h⟩:=bind_some h
   exact dR 1011 (jQ hK h3) (eJ 30) (ak (ve_f 1011 (aj 0 (hP hK h))))
  ·
   exact ai 7 h2 (aj 2 (hP hK h))
end
def dN:=pth 9 1
def p12_1:=pth 8 10100
def b6:=pth 6 1
def p12_3:=pth 5 10100
def p12_4:=pth 8 1010010
def p12_5:=pth 8 1010011
def p12_6:=pth 8 1010011000
def p12_7:=pth 8 1010011001
def p12_8:=pth 8 10100111
def p12_9:=pth 8 1
def p12_10:=pth 8 100
def p12_11:=pth 8 101
def p12_12:=pth 8 1010
def p12_13:=pth 5 1010010
def p12_14:=pth 5 1010011
def p12_15:=pth 5 1010011000
def p12_16:=pth 5 1010011001
def df:=pth 5 10100111
def p12_18:=pth 5 10100110010
def p12_19:=pth 5 10100110011
def p12_20:=pth 5 101001100110
def p12_21:=pth 5 101001100111
def p12_22:=pth 5 1010011001110
def p12_23:=pth 5 1010011001111
def p12_24:=pth 5 10100110011110
def p12_25:=pth 5 10100110011111
def p12_26:=pth 7 1001
def p12_27:=pth 7 100111
def p12_28:=pth 7 1001110
def p12_29:=pth 7 10011111
def p12_30:=pth 0 11110
def p12_31:=pth 0 11111
def p12_32:=pth 5 100
def p12_33:=pth 5 101
def p12_34:=pth 5 1010
noncomputable section
abbrev cY (M:Nat→Prop) (w0:Base):Cx:=⟨Try.prog,111,M,w0⟩
abbrev q12 (M:Nat→Prop) (w0:Base) (r:List Int):=bodyPost Try.prog Try.f12 (RetQ M w0 (fun v s=>v = .ref 17∧look 17 s.r=some ⟨3,1,lm (eInt .i64) r⟩))
abbrev az (p:List Nat):Kont:=.c (cat Try.f12 p)
abbrev k12_2 (M:Nat→Prop) (w0:Base) (r:List Int) (m2:Nat):Kont:=kl (cY M w0) (q12 M w0 r) [.b 3,az dN] (cat Try.f12 p12_1) m2
abbrev cw (M:Nat→Prop) (w0:Base) (r:List Int) (m1:Nat):Kont:=kl (cY M w0) (q12 M w0 r) [.b 0,az b6] (cat Try.f12 p12_3) m1
def s12_l3 (v27:List Int) (v28:Int) (v29:List Int):AS:=⟨[(5,.ref 17),(95,.ref 1094),(96,iI (v27.length:Int)),(97,iI v28)],[],[(17,⟨3,1,lm (eInt .i64) v29⟩),(1094,⟨3,1,lm (eInt .i64) v27⟩)],[17,1094]⟩
def s12_j2 (v26 v27:List Int):AS:=⟨[(5,.ref 17),(12,.ref 1094)],[],[(17,⟨3,1,lm (eInt .i64) v26⟩),(1094,⟨3,1,lm (eInt .i64) v27⟩)],[17,1094]⟩
def s12_l1 (v1:List bS) (v2 v11 v12 v13:Int) (v14 v15 v16:List Int):AS:=⟨[(1,iI v2),(5,.ref 17),(6,.ref 20),(7,.ref 23),(8,iI v11),(9,iI v12),(24,.sl (lm bv v1)),(25,iI (v1.length:Int)),(26,iI v13)],[],[(17,⟨3,1,lm (eInt .i64) v14⟩),(20,⟨3,1,lm (eInt .i64) v15⟩),(23,⟨3,1,lm (eInt .i64) v16⟩)],[17,20,23]⟩
abbrev H12_1 (M:Nat→Prop) (w0:Base) (r:List Int) (v1:List bS) (v2:Int) (m1:Nat) (L1:Int→Int→Int→(List Int)→(List Int)→(List Int)→Option (List Int)):Prop:=∀ {v11:Int} {v12:Int} {v13:Int} {v14:(List Int)} {v15:(List Int)} {v16:(List Int)},L1 v11 v12 v13 v14 v15 v16=some r→LP (cY M w0) (q12 M w0 r) [.b 0,az b6] (cat Try.f12 p12_3) m1 (s12_l1 v1 v2 v11 v12 v13 v14 v15 v16)
abbrev H12_2 (M:Nat→Prop) (w0:Base) (r v27:List Int) (m2:Nat) (L2:Int→(List Int)→Option (List Int)):Prop:=∀ {v28:Int} {v29:(List Int)},L2 v28 v29=some r→LP (cY M w0) (q12 M w0 r) [.b 3,az dN] (cat Try.f12 p12_1) m2 (s12_l3 v27 v28 v29)
variable {K:Kn} {n:Nat} {M:Nat→Prop} {w0:Base} {r:List Int} {v1:List bS} {v2 v11 v12 v13:Int} {v14 v15 v16 v26 v27:List Int} {v28:Int} {v29:List Int} {m1:Nat} {L1:Int→Int→Int→(List Int)→(List Int)→(List Int)→Option (List Int)} {m2:Nat} {L2:Int→(List Int)→Option (List Int)}
theorem iR (hK:KnOk K) (hL2:H12_2 M w0 r v27 m2 L2) (h:gc K n v27 L2 v28 v29=some r):VE (cY M w0) (q12 M w0 r) [az p12_1,k12_2 M w0 r m2,.b 3,az dN] .normal (s12_l3 v27 v28 v29):=by
  unfold gc at h
  refine ag (ks':=[az p12_4,az p12_5,k12_2 M w0 r m2,.b 3,az dN]) 3 ?_
  rcases au h with ⟨h47,h⟩ | ⟨h47,h⟩
  ·
   refine ai 98 h47 (ag (ks':=[az p12_6,az p12_7,.b 4,az p12_8,k12_2 M w0 r m2,.b 3,az dN]) 5 (ao 1 ?_))
   obtain ⟨h48,h⟩:=aq h
   refine ap (bd 1094 1 (eInt .i64) h48) (ap (aD 3 0 (eInt .i64) (eInt .i64) (ay h48).2 (fun _=>rfl)) (ak (ao 2 ?_)))
   obtain ⟨h49,h⟩:=aq h
   refine ap (bd 17 1 (eInt .i64) h49) (ap (aD 3 0 (eInt .i64) (eInt .i64) (ay h49).2 (fun _=>rfl)) (aL 6 2 ?_))
   obtain ⟨h50,h⟩:=aq h
   exact ap (bd 17 1 (eInt .i64) h50) (ap (bx 17 3 1 0 (eInt .i64) (eInt .i64) (w64 ((gD v29 v28)+(gD v27 v28))) (ay h50).2 (fun _=>rfl)) (ak (aj 2 (aJ (hL2 h)))))
  ·
   refine ai 98 h47 (aG 8 ?_)
   cases h
   exact dS
theorem jM (hK:KnOk K) (m:Nat):H12_2 M w0 r v27 m (fc K n v27 m):=by
  induction m with
 | zero=>intro v28 v29 h; cases h
 | succ m ih=>intro v28 v29 h; have h:gc K n v27 (fc K n v27 m) v28 v29=some r:=h; exact aK (iR hK ih h)
theorem iv (hK:KnOk K) (h:fz K n v26 v27=some r):VE (cY M w0) (q12 M w0 r) [.b 2,az p12_9] .normal (s12_j2 v26 v27):=by
  unfold fz at h
  exact ag (ks':=[az p12_10,az p12_11,az dN]) 3 (ao 1 (ap (aA (eInt .i64) v27) (ak (aj 1 (aI (p:=p12_12) n (jM hK n h))))))
theorem jx (hK:KnOk K) (hL1:H12_1 M w0 r v1 v2 m1 L1) (h:eR K n v1 v2 L1 v11 v12 v13 v14 v15 v16=some r):VE (cY M w0) (q12 M w0 r) [az p12_3,cw M w0 r m1,.b 0,az b6] .normal (s12_l1 v1 v2 v11 v12 v13 v14 v15 v16):=by
  unfold eR at h
  refine ag (ks':=[az p12_13,az p12_14,cw M w0 r m1,.b 0,az b6]) 3 ?_
  rcases au h with ⟨h22,h⟩ | ⟨h22,h⟩
  ·
   refine ai 27 h22 (ag (ks':=[az p12_15,az p12_16,.b 1,az df,cw M w0 r m1,.b 0,az b6]) 5 (ao 1 ?_))
   obtain ⟨h23,h⟩:=aq h
   refine ap (aV bv bv h23 (iB) (fun _=>rfl)) (ak (ag (ks':=[az p12_18,az p12_19,.b 1,az df,cw M w0 r m1,.b 0,az b6]) 1 (ao 4 ?_)))
   obtain ⟨v17,h24,h⟩:=bind_some h
   refine bM (f8 hK h24) ?_
   obtain ⟨h25,h⟩:=aq h
   refine ap (bd 17 1 (eInt .i64) h25) (ap (bx 17 3 1 0 (eInt .i64) (eInt .i64) v17 (ay h25).2 (fun _=>rfl)) (ak (ag (ks':=[az p12_20,az p12_21,.b 1,az df,cw M w0 r m1,.b 0,az b6]) 1 (bG [1,5,6,7,8,9,10,11,24,25,26] [11] [17,20,23] ?_))))
   obtain ⟨v18,h26,h⟩:=bind_some h
   obtain ⟨h27,h⟩:=aq h
   obtain ⟨h28,h⟩:=aq h
   refine bk 1 (nu 37 [.ref 20,iI v13,.ptr 11 1,iI ((gD v1 v13).Most),iI v18,.ref 17,iI v13,.eptr 17 1 (v13.toNat) 0,iI (gD (List.set v14 v13.toNat v17) v13),iI (max v18 (gD (List.set v14 v13.toNat v17) v13)),.eptr 20 1 (v13.toNat) 0]) [] [] [strS 20 ⟨3,1,lm (eInt .i64) (List.set v15 v13.toNat (max v18 (gD (List.set v14 v13.toNat v17) v13)))⟩] (av (vz 4) (ac (e_c 0 1 41 (f8 hK h26)) (av (vz 2) (d_v (aB 17 1 (eInt .i64) (L:=(List.set v14 v13.toNat v17)) h27) (d_v (aD 3 0 (eInt .i64) (eInt .i64) (ay h27).2 (fun _=>rfl)) (av [.v 0 1] (d_v (aB 20 1 (eInt .i64) (L:=v15) h28) (ac (e_s (m:=0) (bx 20 3 1 0 (eInt .i64) (eInt .i64) (max v18 (gD (List.set v14 v13.toNat v17) v13)) (ay h28).2 (fun _=>rfl))) bh)))))))) ?_
   obtain ⟨v19,h29,h⟩:=bind_some h
   have h29:=Option.some.inj h29
   refine aQ (ks':=[az p12_22,az p12_23,.b 1,az df,cw M w0 r m1,.b 0,az b6]) 1 ⟨[(1,iI v2),(5,.ref 17),(6,.ref 20),(7,.ref 23),(8,iI v11),(9,iI v12),(10,iI v13),(24,.sl (lm bv v1)),(25,iI (v1.length:Int)),(26,iI v13)],[],[(17,⟨3,1,lm (eInt .i64) (List.set v14 v13.toNat v17)⟩),(20,⟨3,1,lm (eInt .i64) v19⟩),(23,⟨3,1,lm (eInt .i64) v16⟩)],[17,20,23]⟩ ?_ (by subst h29; kernel_rfl)
   obtain ⟨h30,h⟩:=aq h
   obtain ⟨h31,h⟩:=aq h
   obtain ⟨h32,h⟩:=aq h
   refine bk 1 (nu 48 [.ref 23,iI v13,.ref 20,iI v13,.eptr 20 1 (v13.toNat) 0,iI (gD v19 v13),.ref 17,iI v13,.eptr 17 1 (v13.toNat) 0,iI (gD (List.set v14 v13.toNat v17) v13),iI (w64 ((gD v19 v13) - (gD (List.set v14 v13.toNat v17) v13))),.eptr 23 1 (v13.toNat) 0]) [] [] [strS 23 ⟨3,1,lm (eInt .i64) (List.set v16 v13.toNat (w64 ((gD v19 v13) - (gD (List.set v14 v13.toNat v17) v13))))⟩] (av (vz 4) (d_v (aB 20 1 (eInt .i64) (L:=v19) h30) (d_v (aD 3 0 (eInt .i64) (eInt .i64) (ay h30).2 (fun _=>rfl)) (av (vz 2) (d_v (aB 17 1 (eInt .i64) (L:=(List.set v14 v13.toNat v17)) h31) (d_v (aD 3 0 (eInt .i64) (eInt .i64) (ay h31).2 (fun _=>rfl)) (av [.v 0 1] (d_v (aB 23 1 (eInt .i64) (L:=v16) h32) (ac (e_s (m:=0) (bx 23 3 1 0 (eInt .i64) (eInt .i64) (w64 ((gD v19 v13) - (gD (List.set v14 v13.toNat v17) v13))) (ay h32).2 (fun _=>rfl))) bh))))))))) ?_
   obtain ⟨v20,h33,h⟩:=bind_some h
   have h33:=Option.some.inj h33
   refine aQ (ks':=[az p12_24,az p12_25,.b 1,az df,cw M w0 r m1,.b 0,az b6]) 1 ⟨[(1,iI v2),(5,.ref 17),(6,.ref 20),(7,.ref 23),(8,iI v11),(9,iI v12),(10,iI v13),(24,.sl (lm bv v1)),(25,iI (v1.length:Int)),(26,iI v13)],[],[(17,⟨3,1,lm (eInt .i64) (List.set v14 v13.toNat v17)⟩),(20,⟨3,1,lm (eInt .i64) v19⟩),(23,⟨3,1,lm (eInt .i64) v20⟩)],[17,20,23]⟩ ?_ (by subst h33; kernel_rfl)
   refine ao 3 ?_
   obtain ⟨h34,h⟩:=aq h
   refine ap (bd 17 1 (eInt .i64) h34) (ap (aD 3 0 (eInt .i64) (eInt .i64) (ay h34).2 (fun _=>rfl)) (ak ?_))
   obtain ⟨v21,h35,h⟩:=bind_some h
   have h35:=Option.some.inj h35
   refine aQ (ks':=[az p12_25,.b 1,az df,cw M w0 r m1,.b 0,az b6]) 0 ⟨[(1,iI v2),(5,.ref 17),(6,.ref 20),(7,.ref 23),(8,iI v21),(9,iI v12),(10,iI v13),(24,.sl (lm bv v1)),(25,iI (v1.length:Int)),(26,iI v13)],[],[(17,⟨3,1,lm (eInt .i64) (List.set v14 v13.toNat v17)⟩),(20,⟨3,1,lm (eInt .i64) v19⟩),(23,⟨3,1,lm (eInt .i64) v20⟩)],[17,20,23]⟩ ?_ (by subst h35; kernel_rfl)
   refine ao 3 ?_
   obtain ⟨h36,h⟩:=aq h
   exact ap (bd 20 1 (eInt .i64) h36) (ap (aD 3 0 (eInt .i64) (eInt .i64) (ay h36).2 (fun _=>rfl)) (ak (aj 2 (aJ (hL1 h)))))
  ·
   refine ai 27 h22 (ag (ks':=[az p12_26,.b 2,az p12_9]) 11 ?_)
   rcases au h with ⟨h37,h⟩ | ⟨h37,h⟩
   ·
    refine ai 80 h37 (aG 6 ?_)
    cases h
    exact dS
   ·
    refine ai 80 h37 (ag (ks':=[az p12_27,.b 2,az p12_9]) 3 ?_)
    rcases au h with ⟨h38,h⟩ | ⟨h38,h⟩
    ·
     refine ai 85 h38 (ag (ks':=[az p12_28,.b 2,az p12_9]) 1 (ao 3 ?_))
     obtain ⟨v22,h39,h⟩:=bind_some h
     refine bM (f8 hK h39) (aL 5 1 ?_)
     obtain ⟨v23,h40,h⟩:=bind_some h
     exact ot_lxo 1094 (iq hK h40) (scal_map _ _ (sc_int _)) (by kernel_rfl:callArgsLx _ _=some (27,[iI v22,.sl (lm (eInt .i64) v16)],[iI v22,.ref 23])) (srOk_of (q:=[]) (by kernel_rfl) trivial) (ak (aj 0 (iv hK h)))
    ·
     refine ai 85 h38 (ag (ks':=[az p12_29,.b 2,az p12_9]) 3 (ao 3 ?_))
     obtain ⟨v24,h41,h⟩:=bind_some h
     refine bM (f8 hK h41) (aL 5 1 ?_)
     obtain ⟨v25,h42,h⟩:=bind_some h
     exact ot_lxo 1079 (iE hK h42) (scal_map _ _ (sc_int _)) (by kernel_rfl:callArgsLx _ _=some (28,[iI v24,.sl (lm (eInt .i64) v15)],[iI v24,.ref 20])) (srOk_of (q:=[]) (by kernel_rfl) trivial) (ak (bG [5,12] [] [20,1079] (ve_m 20 17 (ve_m 1079 1094 (aj 0 (iv hK h))))))
theorem jt (hK:KnOk K) (m:Nat):H12_1 M w0 r v1 v2 m (fM K n v1 v2 m):=by
  induction m with
 | zero=>intro v11 v12 v13 v14 v15 v16 h; cases h
 | succ m ih=>intro v11 v12 v13 v14 v15 v16 h; have h:eR K n v1 v2 (fM K n v1 v2 m) v11 v12 v13 v14 v15 v16=some r:=h; exact aK (jx hK ih h)
theorem iJ (hK:KnOk K) (h:gM K n v1 v2=some r):ACalls Try.prog 12 [.sl (lm bv v1),iI v2] (fun v s=>v = .ref 17∧look 17 s.r=some ⟨3,1,lm (eInt .i64) r⟩):=by
  refine bn (cat Try.f12 []) Try.func12 Try.ntmps12 fun M w0=>(aU ⟨[(0,.sl (lm bv v1)),(1,iI v2)],[],[],[]⟩ ?_)
  unfold gM at h
  refine ag (ks':=[az [1,0],az [1,1]]) 3 (ao 1 (ap (aA bv v1) ?_))
  obtain ⟨h1,h⟩:=aq h
  refine cH (eInt .i64) (0:Int) 33 (.tmp 16) (.tmp 16) 17 (e:=3) (sz:=1) (zc:=[iI 0]) (kd:=.i64) (kd':=.i64) h1 (ak ?_)
  obtain ⟨v3,h2,h⟩:=bind_some h
  have h2:=Option.some.inj h2
  refine aQ (ks':=[az [1,1,0],az [1,1,1]]) 1 ⟨[(0,.sl (lm bv v1)),(1,iI v2),(5,.ref 17)],[],[(17,⟨3,1,lm (eInt .i64) v3⟩)],[17]⟩ ?_ (by subst h2; kernel_rfl)
  refine ao 1 (ap (aA bv v1) ?_)
  obtain ⟨h3,h⟩:=aq h
  refine cH (eInt .i64) (0:Int) 33 (.tmp 19) (.tmp 19) 20 (e:=3) (sz:=1) (zc:=[iI 0]) (kd:=.i64) (kd':=.i64) h3 (ak ?_)
  obtain ⟨v4,h4,h⟩:=bind_some h
  have h4:=Option.some.inj h4
  refine aQ (ks':=[az p12_30,az p12_31]) 1 ⟨[(0,.sl (lm bv v1)),(1,iI v2),(5,.ref 17),(6,.ref 20)],[],[(17,⟨3,1,lm (eInt .i64) v3⟩),(20,⟨3,1,lm (eInt .i64) v4⟩)],[17,20]⟩ ?_ (by subst h4; kernel_rfl)
  refine ao 1 (ap (aA bv v1) ?_)
  obtain ⟨h5,h⟩:=aq h
  refine cH (eInt .i64) (0:Int) 33 (.tmp 22) (.tmp 22) 23 (e:=3) (sz:=1) (zc:=[iI 0]) (kd:=.i64) (kd':=.i64) h5 (ak ?_)
  obtain ⟨v5,h6,h⟩:=bind_some h
  have h6:=Option.some.inj h6
  refine aQ (ks':=[az p12_32,az p12_33,az b6]) 4 ⟨[(0,.sl (lm bv v1)),(1,iI v2),(5,.ref 17),(6,.ref 20),(7,.ref 23),(8,iI 0),(9,iI 0)],[],[(17,⟨3,1,lm (eInt .i64) v3⟩),(20,⟨3,1,lm (eInt .i64) v4⟩),(23,⟨3,1,lm (eInt .i64) v5⟩)],[17,20,23]⟩ ?_ (by subst h6; kernel_rfl)
  exact ao 1 (ap (aA bv v1) (ak (aj 1 (aI (p:=p12_34) n (jt hK n h)))))
end
def p9_0:=pth 0 11111
def p9_1:=pth 0 11110
noncomputable section
abbrev cx9 (M:Nat→Prop) (w0:Base):Cx:=⟨Try.prog,58,M,w0⟩
abbrev q9 (M:Nat→Prop) (w0:Base) (r:Bool):=bodyPost Try.prog Try.f9 (RetQ M w0 (fun v _=>v = .bool r))
def s9_j1 (v3:Bool):AS:=⟨[(0,.bool v3)],[],[],[]⟩
variable {K:Kn} {n:Nat} {M:Nat→Prop} {w0:Base} {r v3:Bool} 
abbrev cF9 (p:List Nat):Kont:=.c (cat Try.f9 p)
theorem cW (hK:KnOk K) (h:co K n v3=some r):VE (cx9 M w0) (q9 M w0 r) [cF9 p9_0] .normal (s9_j1 v3):=by
  unfold co at h
  refine aG 1 ?_
  cases h
  exact aX
theorem g_law20_fit_ok (hK:KnOk K) (h:er K n=some r):ACalls Try.prog 9 [] (fun v _=>v = .bool r):=by
  refine bn (cat Try.f9 []) Try.func9 Try.ntmps9 fun M w0=>(aU ⟨[],[],[],[]⟩ ?_)
  unfold er at h
  refine ag (ks':=[cF9 [1,0],cF9 [1,1]]) 3 (ao 6 ?_)
  obtain ⟨v1,h1,h⟩:=bind_some h
  refine dR 1011 (ip hK h1) (one_tup (i:=0) rfl) (ak (ag (ks':=[cF9 [1,1,0],cF9 [1,1,1]]) 1 (ao 3 ?_)))
  obtain ⟨v2,h2,h⟩:=bind_some h
  refine dR 1017 (iJ hK h2) (eJ 17) (ak (ag (ks':=[cF9 p9_1,cF9 p9_0]) 1 (ao 3 ?_)))
  rcases au h with ⟨h3,h⟩ | ⟨h3,h⟩
  ·
   refine aM 20 h3 (aL 4 1 (ap (aA (eSl ab) v1.1) (aL 8 3 ?_)))
   rcases au h with ⟨h4,h⟩ | ⟨h4,h⟩
   ·
    refine aM 25 h4 (aL 9 1 ?_)
    obtain ⟨h5,h⟩:=aq h
    refine ap (bd 1011 1 (eSl ab) h5) (ap (aD 28 0 (eSl ab) (eSl ab) (ay h5).2 (fun _=>rfl)) (ap (aA ab (gD v1.1 (1:Int))) (aL 15 3 ?_)))
    rcases au h with ⟨h6,h⟩ | ⟨h6,h⟩
    ·
     refine aM 32 h6 (aL 16 1 ?_)
     obtain ⟨h7,h⟩:=aq h
     refine ap (bd 1011 1 (eSl ab) h7) (ap (aD 28 0 (eSl ab) (eSl ab) (ay h7).2 (fun _=>rfl)) ?_)
     obtain ⟨h8,h⟩:=aq h
     refine ap (aV ab ab h8 (bK) (fun _=>rfl)) (aL 24 5 ?_)
     rcases au h with ⟨h9,h⟩ | ⟨h9,h⟩
     ·
      refine aM 41 h9 (aL 25 1 (ap (aA (eInt .i64) v2) (aL 29 3 ?_)))
      rcases au h with ⟨h10,h⟩ | ⟨h10,h⟩
      ·
       refine aM 46 h10 (aL 30 1 ?_)
       obtain ⟨h11,h⟩:=aq h
       refine ap (bd 1017 1 (eInt .i64) h11) (ap (aD 3 0 (eInt .i64) (eInt .i64) (ay h11).2 (fun _=>rfl)) (aL 35 3 ?_))
       rcases au h with ⟨h12,h⟩ | ⟨h12,h⟩
       ·
        refine aM 52 h12 (aL 36 1 ?_)
        obtain ⟨h13,h⟩:=aq h
        exact ap (bd 1017 1 (eInt .i64) h13) (ap (aD 3 0 (eInt .i64) (eInt .i64) (ay h13).2 (fun _=>rfl)) (ak (aj 0 (cW hK h))))
       ·
        exact aM 52 h12 (ak (aj 0 (cW hK h)))
      ·
       exact aM 46 h10 (ak (aj 0 (cW hK h)))
     ·
      exact aM 41 h9 (ak (aj 0 (cW hK h)))
    ·
     exact aM 32 h6 (ak (aj 0 (cW hK h)))
   ·
    exact aM 25 h4 (ak (aj 0 (cW hK h)))
  ·
   exact aM 20 h3 (ak (aj 0 (cW hK h)))
end
noncomputable section
abbrev cx25 (M:Nat→Prop) (w0:Base):Cx:=⟨Try.prog,35,M,w0⟩
abbrev q25 (M:Nat→Prop) (w0:Base) (r:Bool):=bodyPost Try.prog Try.f25 (RetQ M w0 (fun v _=>v = .bool r))
def s25_j1 (v4:Bool):AS:=⟨[(6,.bool v4)],[],[],[]⟩
variable {K:Kn} {n:Nat} {M:Nat→Prop} {w0:Base} {r:Bool} {v1:aa} {v2 v3:Int} {v4:Bool} 
abbrev cF25 (p:List Nat):Kont:=.c (cat Try.f25 p)
theorem fy (hK:KnOk K) (h:cS K n v4=some r):VE (cx25 M w0) (q25 M w0 r) [cF25 [1,1]] .normal (s25_j1 v4):=by
  unfold cS at h
  refine aG 1 ?_
  cases h
  exact aX
theorem jc (hK:KnOk K) (h:d7 K n v1 v2 v3=some r):ACalls Try.prog 25 [.agg (ab v1),iI v2,iI v3] (fun v _=>v = .bool r):=by
  refine bn (cat Try.f25 []) Try.func25 Try.ntmps25 fun M w0=>(aU ⟨[(0,.agg (ab v1)),(1,iI v2),(2,iI v3)],[],[],[]⟩ ?_)
  unfold d7 at h
  refine ag (ks':=[cF25 [1,0],cF25 [1,1]]) 3 (ao 5 ?_)
  rcases au h with ⟨h1,h⟩ | ⟨h1,h⟩
  ·
   refine aM 11 h1 (aL 14 9 ?_)
   rcases au h with ⟨h2,h⟩ | ⟨h2,h⟩
   ·
    refine aM 20 h2 (aL 20 6 ?_)
    rcases au h with ⟨h3,h⟩ | ⟨h3,h⟩
    ·
     exact aM 26 h3 (ak (aj 0 (fy hK h)))
    ·
     exact aM 26 h3 (ak (aj 0 (fy hK h)))
   ·
    exact aM 20 h2 (ak (aj 0 (fy hK h)))
  ·
   exact aM 11 h1 (ak (aj 0 (fy hK h)))
end
end Go.Proofs.Ytolhpahjgddjkaa

/- The runs of the functions that TableCells reaches do what their plain forms say, part 0. Made by a program. -/
import Derived.Test.YtolhpahjgddjkaaCcGk
namespace Go.Proofs.Ytolhpahjgddjkaa
open Go.RowKit
set_option maxRecDepth 20000
set_option linter.all false
set_option linter.unusedVariables false
set_option linter.unusedSimpArgs false
def p10_0:=pth 0 1110100
def c8:=pth 0 1110100110011111
def ci:=pth 0 1110100111
def p10_3:=pth 0 1110100110011110100
def d8:=pth 0 111010011001111
def p10_5:=pth 0 111010011001110100
def p10_6:=pth 0 111010011001110100110011
def il:=pth 0 111010011001110100111
def p10_8:=pth 0 11101001100111010011001000
def dY:=pth 0 1110100110011110100111
def p10_10:=pth 0 111010011001111010011001100
def gr:=pth 0 11101001100111101001100110011
def p10_12:=pth 0 1110100110011110100110011001001100
def p10_13:=pth 0 1110100110011101001100100000
def p10_14:=pth 0 1110100110011101001100100001
def p10_15:=pth 0 111010011001110100110010001
def p10_16:=pth 0 1110100110011101001100110
def p10_17:=pth 0 1110100110011101001100111
def p10_18:=pth 0 11101001100111010011001110
def p10_19:=pth 0 11101001100111010011001111
def p10_20:=pth 0 111010011001111010011001100100110001
def p10_21:=pth 0 11101001100111101001100110010011001
def p10_22:=pth 0 1110100110011110100110011001001100100
def p10_23:=pth 0 111010011001111010011001100100110011
def p10_24:=pth 0 1110100110011110100110011001001
def p10_25:=pth 0 111010011001111010011001100100110
def p10_26:=pth 0 11101001100111101001100110001
def p10_27:=pth 0 1110100110011110100110011001
def p10_28:=pth 0 11101001100111101001100110010000
def p10_29:=pth 0 11101001100111101001100110010001
def p10_30:=pth 0 111010011001111010011001100100010
def p10_31:=pth 0 111010011001111010010
def p10_32:=pth 0 111010011001111010011
def p10_33:=pth 0 111010011001111010011000
def p10_34:=pth 0 111010011001111010011001
def p10_35:=pth 0 11101001100111101001100110
def p10_36:=pth 0 11101001100111010010
def p10_37:=pth 0 11101001100111010011
def p10_38:=pth 0 11101001100111010011000
def p10_39:=pth 0 11101001100111010011001
def p10_40:=pth 0 1110100110011101001100100
def p10_41:=pth 0 11101001100111100
def p10_42:=pth 0 11101001100111101
def p10_43:=pth 0 111010011001111010
def p10_44:=pth 0 111010010
def p10_45:=pth 0 111010011
def p10_46:=pth 0 111010011000
def p10_47:=pth 0 111010011001
def p10_48:=pth 0 1110100110011100
def p10_49:=pth 0 1110100110011101
def p10_50:=pth 0 11101001100111010
def p10_51:=pth 0 11100
def p10_52:=pth 0 11101
def p10_53:=pth 0 111010
noncomputable section
abbrev dh (M:Nat→Prop) (w0:Base):Cx:=⟨Try.prog,116,M,w0⟩
abbrev q10 (M:Nat→Prop) (w0:Base) (r:(List (List ae))×Int):=bodyPost Try.prog Try.f10 (RetQ M w0 (fun v s=>v = .tup [.ref 112,iI r.2]∧look 112 s.r=some ⟨28,1,lm (eSl aC) r.1⟩))
abbrev ay (p:List Nat):Kont:=.c (cat Try.f10 p)
abbrev cd (M:Nat→Prop) (w0:Base) (r:(List (List ae))×Int) (m1:Nat):Kont:=kl (dh M w0) (q10 M w0 r) [.b 0,ay [1,1,1]] (cat Try.f10 p10_0) m1
abbrev dG (M:Nat→Prop) (w0:Base) (r:(List (List ae))×Int) (m1 m4:Nat):Kont:=kl (dh M w0) (q10 M w0 r) [.b 6,ay c8,.b 1,ay ci,cd M w0 r m1,.b 0,ay [1,1,1]] (cat Try.f10 p10_3) m4
abbrev fP (M:Nat→Prop) (w0:Base) (r:(List (List ae))×Int) (m1 m2:Nat):Kont:=kl (dh M w0) (q10 M w0 r) [.b 2,ay d8,.b 1,ay ci,cd M w0 r m1,.b 0,ay [1,1,1]] (cat Try.f10 p10_5) m2
abbrev k10_3 (M:Nat→Prop) (w0:Base) (r:(List (List ae))×Int) (m2 m1 m3:Nat):Kont:=kl (dh M w0) (q10 M w0 r) [.b 4,ay p10_6,.b 3,ay il,fP M w0 r m1 m2,.b 2,ay d8,.b 1,ay ci,cd M w0 r m1,.b 0,ay [1,1,1]] (cat Try.f10 p10_8) m3
abbrev fi (M:Nat→Prop) (w0:Base) (r:(List (List ae))×Int) (m4 m1 m5:Nat):Kont:=kl (dh M w0) (q10 M w0 r) [.b 8,.b 7,ay dY,dG M w0 r m1 m4,.b 6,ay c8,.b 1,ay ci,cd M w0 r m1,.b 0,ay [1,1,1]] (cat Try.f10 p10_10) m5
abbrev k10_6 (M:Nat→Prop) (w0:Base) (r:(List (List ae))×Int) (m5 m4 m1 m6:Nat):Kont:=kl (dh M w0) (q10 M w0 r) [.b 10,.b 9,ay gr,fi M w0 r m4 m1 m5,.b 8,.b 7,ay dY,dG M w0 r m1 m4,.b 6,ay c8,.b 1,ay ci,cd M w0 r m1,.b 0,ay [1,1,1]] (cat Try.f10 p10_12) m6
def s10_l1 (v1:List (List (V2 Int))) (v122:Int) (v123:List (List ae)) (v124:List TMp) (v139 v141 v142:Int) (v143:List ae) (v146:Int) (v147:V2 Int):AS:=⟨[(0,.sl (lm (eSl (eV2 (eInt .i64))) v1)),(2,.ref 112),(3,iI v139),(4,.ref 500018),(5,iI v122),(7,.ref 58),(8,iI v146),(10,.ptr 10 0),(19,.sl (lm (eSl (eV2 (eInt .i64))) v1)),(20,iI (v1.length:Int)),(21,iI v122),(26,.sl (lm (eV2 (eInt .i64)) (gD v1 v122))),(27,iI v141),(28,iI v142)],[(10,(eV2 (eInt .i64)) v147)],[(58,⟨30,4,lm aC v143⟩),(112,⟨28,1,lm (eSl aC) v123⟩),(500018,⟨75,1,lm eOmp v124⟩)],[10,58,112,500018]⟩
def s10_l4 (v1:List (List (V2 Int))) (v122:Int) (v123:List (List ae)) (v139:Int) (v143:List ae) (v166 v175 v181:Int) (v182:List TMp):AS:=⟨[(0,.sl (lm (eSl (eV2 (eInt .i64))) v1)),(2,.ref 112),(3,iI v139),(4,.ref 500018),(5,iI v122),(7,.ref 58),(13,.ptr 13 0),(14,iI v175),(15,iI v181),(19,.sl (lm (eSl (eV2 (eInt .i64))) v1)),(20,iI (v1.length:Int)),(21,iI v122),(67,.ref 58),(68,iI (v143.length:Int)),(69,iI v166)],[(13,aC (gD v143 v166))],[(58,⟨30,4,lm aC v143⟩),(112,⟨28,1,lm (eSl aC) v123⟩),(500018,⟨75,1,lm eOmp v182⟩)],[13,58,112,500018]⟩
def s10_j3 (v1:List (List (V2 Int))) (v122:Int) (v123:List (List ae)) (v139:Int) (v143:List ae) (v166 v175:Int) (v179:List TMp):AS:=⟨[(0,.sl (lm (eSl (eV2 (eInt .i64))) v1)),(2,.ref 112),(3,iI v139),(4,.ref 500018),(5,iI v122),(7,.ref 58),(13,.ptr 13 0),(14,iI v175),(19,.sl (lm (eSl (eV2 (eInt .i64))) v1)),(20,iI (v1.length:Int)),(21,iI v122),(67,.ref 58),(68,iI (v143.length:Int)),(69,iI v166)],[(13,aC (gD v143 v166))],[(58,⟨30,4,lm aC v143⟩),(112,⟨28,1,lm (eSl aC) v123⟩),(500018,⟨75,1,lm eOmp v179⟩)],[13,58,112,500018]⟩
def s10_l5 (v1:List (List (V2 Int))) (v122:Int) (v123:List (List ae)) (v139:Int) (v143:List ae) (v166 v175:Int) (v176:List TMp):AS:=⟨[(0,.sl (lm (eSl (eV2 (eInt .i64))) v1)),(2,.ref 112),(3,iI v139),(4,.ref 500018),(5,iI v122),(7,.ref 58),(13,.ptr 13 0),(14,iI v175),(19,.sl (lm (eSl (eV2 (eInt .i64))) v1)),(20,iI (v1.length:Int)),(21,iI v122),(67,.ref 58),(68,iI (v143.length:Int)),(69,iI v166)],[(13,aC (gD v143 v166))],[(58,⟨30,4,lm aC v143⟩),(112,⟨28,1,lm (eSl aC) v123⟩),(500018,⟨75,1,lm eOmp v176⟩)],[13,58,112,500018]⟩
def s10_l6 (v1:List (List (V2 Int))) (v122:Int) (v123:List (List ae)) (v139:Int) (v143:List ae) (v166:Int) (v167:List TMp):AS:=⟨[(0,.sl (lm (eSl (eV2 (eInt .i64))) v1)),(2,.ref 112),(3,iI v139),(4,.ref 500018),(5,iI v122),(7,.ref 58),(19,.sl (lm (eSl (eV2 (eInt .i64))) v1)),(20,iI (v1.length:Int)),(21,iI v122),(67,.ref 58),(68,iI (v143.length:Int)),(69,iI v166)],[],[(58,⟨30,4,lm aC v143⟩),(112,⟨28,1,lm (eSl aC) v123⟩),(500018,⟨75,1,lm eOmp v167⟩)],[58,112,500018]⟩
def s10_l2 (v1:List (List (V2 Int))) (v122:Int) (v123:List (List ae)) (v124:List TMp) (v139 v140 v141 v142:Int) (v143:List ae):AS:=⟨[(0,.sl (lm (eSl (eV2 (eInt .i64))) v1)),(2,.ref 112),(3,iI v139),(4,.ref 500018),(5,iI v122),(7,.ref 58),(8,iI v140),(19,.sl (lm (eSl (eV2 (eInt .i64))) v1)),(20,iI (v1.length:Int)),(21,iI v122),(26,.sl (lm (eV2 (eInt .i64)) (gD v1 v122))),(27,iI v141),(28,iI v142)],[],[(58,⟨30,4,lm aC v143⟩),(112,⟨28,1,lm (eSl aC) v123⟩),(500018,⟨75,1,lm eOmp v124⟩)],[58,112,500018]⟩
def s10_l7 (v1:List (List (V2 Int))) (v121 v122:Int) (v123:List (List ae)) (v124:List TMp):AS:=⟨[(0,.sl (lm (eSl (eV2 (eInt .i64))) v1)),(2,.ref 112),(3,iI v121),(4,.ref 500018),(19,.sl (lm (eSl (eV2 (eInt .i64))) v1)),(20,iI (v1.length:Int)),(21,iI v122)],[],[(112,⟨28,1,lm (eSl aC) v123⟩),(500018,⟨75,1,lm eOmp v124⟩)],[112,500018]⟩
abbrev eg (M:Nat→Prop) (w0:Base) (r:(List (List ae))×Int) (v1:List (List (V2 Int))) (m1:Nat) (L1:Int→Int→(List (List ae))→(List TMp)→Option ((List (List ae))×Int)):Prop:=∀ {v121:Int} {v122:Int} {v123:(List (List ae))} {v124:(List TMp)},L1 v121 v122 v123 v124=some r→LP (dh M w0) (q10 M w0 r) [.b 0,ay [1,1,1]] (cat Try.f10 p10_0) m1 (s10_l7 v1 v121 v122 v123 v124)
abbrev H10_2 (M:Nat→Prop) (w0:Base) (r:(List (List ae))×Int) (v1:List (List (V2 Int))) (v122:Int) (v123:List (List ae)) (v124:List TMp) (m1 m2:Nat) (L2:Int→Int→Int→Int→(List ae)→Option ((List (List ae))×Int)):Prop:=∀ {v139:Int} {v140:Int} {v141:Int} {v142:Int} {v143:(List ae)},L2 v139 v140 v141 v142 v143=some r→LP (dh M w0) (q10 M w0 r) [.b 2,ay d8,.b 1,ay ci,cd M w0 r m1,.b 0,ay [1,1,1]] (cat Try.f10 p10_5) m2 (s10_l2 v1 v122 v123 v124 v139 v140 v141 v142 v143)
abbrev H10_3 (M:Nat→Prop) (w0:Base) (r:(List (List ae))×Int) (v1:List (List (V2 Int))) (v122:Int) (v123:List (List ae)) (v124:List TMp) (v139 v141 v142:Int) (v143:List ae) (m2 m1 m3:Nat) (L3:Int→(V2 Int)→Option ((List (List ae))×Int)):Prop:=∀ {v146:Int} {v147:(V2 Int)},L3 v146 v147=some r→LP (dh M w0) (q10 M w0 r) [.b 4,ay p10_6,.b 3,ay il,fP M w0 r m1 m2,.b 2,ay d8,.b 1,ay ci,cd M w0 r m1,.b 0,ay [1,1,1]] (cat Try.f10 p10_8) m3 (s10_l1 v1 v122 v123 v124 v139 v141 v142 v143 v146 v147)
abbrev jr (M:Nat→Prop) (w0:Base) (r:(List (List ae))×Int) (v1:List (List (V2 Int))) (v122:Int) (v123:List (List ae)) (v139:Int) (v143:List ae) (m1 m4:Nat) (L4:Int→(List TMp)→Option ((List (List ae))×Int)):Prop:=∀ {v166:Int} {v167:(List TMp)},L4 v166 v167=some r→LP (dh M w0) (q10 M w0 r) [.b 6,ay c8,.b 1,ay ci,cd M w0 r m1,.b 0,ay [1,1,1]] (cat Try.f10 p10_3) m4 (s10_l6 v1 v122 v123 v139 v143 v166 v167)
abbrev H10_5 (M:Nat→Prop) (w0:Base) (r:(List (List ae))×Int) (v1:List (List (V2 Int))) (v122:Int) (v123:List (List ae)) (v139:Int) (v143:List ae) (v166:Int) (m4 m1 m5:Nat) (L5:Int→(List TMp)→Option ((List (List ae))×Int)):Prop:=∀ {v175:Int} {v176:(List TMp)},L5 v175 v176=some r→LP (dh M w0) (q10 M w0 r) [.b 8,.b 7,ay dY,dG M w0 r m1 m4,.b 6,ay c8,.b 1,ay ci,cd M w0 r m1,.b 0,ay [1,1,1]] (cat Try.f10 p10_10) m5 (s10_l5 v1 v122 v123 v139 v143 v166 v175 v176)
abbrev H10_6 (M:Nat→Prop) (w0:Base) (r:(List (List ae))×Int) (v1:List (List (V2 Int))) (v122:Int) (v123:List (List ae)) (v139:Int) (v143:List ae) (v166 v175:Int) (m5 m4 m1 m6:Nat) (L6:Int→(List TMp)→Option ((List (List ae))×Int)):Prop:=∀ {v181:Int} {v182:(List TMp)},L6 v181 v182=some r→LP (dh M w0) (q10 M w0 r) [.b 10,.b 9,ay gr,fi M w0 r m4 m1 m5,.b 8,.b 7,ay dY,dG M w0 r m1 m4,.b 6,ay c8,.b 1,ay ci,cd M w0 r m1,.b 0,ay [1,1,1]] (cat Try.f10 p10_12) m6 (s10_l4 v1 v122 v123 v139 v143 v166 v175 v181 v182)
variable {K:Kn} {n:Nat} {M:Nat→Prop} {w0:Base} {r:(List (List ae))×Int} {v1:List (List (V2 Int))} {v121 v122:Int} {v123:List (List ae)} {v124:List TMp} {v139 v140 v141 v142:Int} {v143:List ae} {v146:Int} {v147:V2 Int} {v166:Int} {v167:List TMp} {v175:Int} {v176 v179:List TMp} {v181:Int} {v182:List TMp} {m1:Nat} {L1:Int→Int→(List (List ae))→(List TMp)→Option ((List (List ae))×Int)} {m2:Nat} {L2:Int→Int→Int→Int→(List ae)→Option ((List (List ae))×Int)} {m3:Nat} {L3:Int→(V2 Int)→Option ((List (List ae))×Int)} {m4:Nat} {L4:Int→(List TMp)→Option ((List (List ae))×Int)} {m5:Nat} {L5:Int→(List TMp)→Option ((List (List ae))×Int)} {m6:Nat} {L6:Int→(List TMp)→Option ((List (List ae))×Int)}
theorem vT (hK:KnOk K) (hL1:eg M w0 r v1 m1 L1) (hL2:H10_2 M w0 r v1 v122 v123 v124 m1 m2 L2) (hL3:H10_3 M w0 r v1 v122 v123 v124 v139 v141 v142 v143 m2 m1 m3 L3) (h:mJ K n v1 v122 v123 v124 v139 v141 v142 v143 L1 L2 L3 v146 v147=some r):VE (dh M w0) (q10 M w0 r) [ay p10_8,k10_3 M w0 r m2 m1 m3,.b 4,ay p10_6,.b 3,ay il,fP M w0 r m1 m2,.b 2,ay d8,.b 1,ay ci,cd M w0 r m1,.b 0,ay [1,1,1]] .normal (s10_l1 v1 v122 v123 v124 v139 v141 v142 v143 v146 v147):=by
  unfold mJ at h
  refine ac (ks':=[ay p10_13,ay p10_14,ay p10_15,k10_3 M w0 r m2 m1 m3,.b 4,ay p10_6,.b 3,ay il,fP M w0 r m1 m2,.b 2,ay d8,.b 1,ay ci,cd M w0 r m1,.b 0,ay [1,1,1]]) 2 (ai 2 ?_)
  obtain ⟨h231,h⟩:=av h
  refine aq (bM 500018 1 eOmp h231) (ot_ldm (L:=v124) (id:=500018) (et:=75) (T:=75) (x:=(.tmp 34)) (decide_eq_true (aI h231).2) (aV 5 1 (ot_lk (L:=v124) (id:=500018) (et:=75) (T:=75) (x:=(.tmp 35)) (y:=(.tmp 36)) (n:=v146) (decide_eq_true (aI h231).2) (ag ?_))))
  obtain ⟨v148,h232,h⟩:=bind_some h
  have h232:=Option.some.inj h232
  refine bq (ks':=[ay p10_14,ay p10_15,k10_3 M w0 r m2 m1 m3,.b 4,ay p10_6,.b 3,ay il,fP M w0 r m1 m2,.b 2,ay d8,.b 1,ay ci,cd M w0 r m1,.b 0,ay [1,1,1]]) 0 ⟨[(0,.sl (lm (eSl (eV2 (eInt .i64))) v1)),(2,.ref 112),(3,iI v139),(4,.ref 500018),(5,iI v122),(7,.ref 58),(8,iI v146),(10,.ptr 10 0),(19,.sl (lm (eSl (eV2 (eInt .i64))) v1)),(20,iI (v1.length:Int)),(21,iI v122),(26,.sl (lm (eV2 (eInt .i64)) (gD v1 v122))),(27,iI v141),(28,iI v142),(37,.bool v148)],[(10,(eV2 (eInt .i64)) v147)],[(58,⟨30,4,lm aC v143⟩),(112,⟨28,1,lm (eSl aC) v123⟩),(500018,⟨75,1,lm eOmp v124⟩)],[10,58,112,500018]⟩ ?_ (by subst h232; kernel_rfl)
  rcases au h with ⟨h233,h⟩ | ⟨h233,h⟩
  ·
   exact ak 37 h233 (ah 5 (aY (hL3 h)))
  ·
   refine ak 37 h233 (ac (ks':=[ay p10_16,ay p10_17,.b 3,ay il,fP M w0 r m1 m2,.b 2,ay d8,.b 1,ay ci,cd M w0 r m1,.b 0,ay [1,1,1]]) 6 (ai 6 (aq (aZ (eSl (eV2 (eInt .i64))) v1) (ag ?_))))
   obtain ⟨v149,h234,h⟩:=bind_some h
   have h234:=Option.some.inj h234
   refine bq (ks':=[ay p10_18,ay p10_19,.b 3,ay il,fP M w0 r m1 m2,.b 2,ay d8,.b 1,ay ci,cd M w0 r m1,.b 0,ay [1,1,1]]) 1 ⟨[(0,.sl (lm (eSl (eV2 (eInt .i64))) v1)),(2,.ref 112),(3,iI v139),(4,.ref 500018),(5,iI v122),(7,.ref 58),(8,iI v146),(11,.ptr 11 0),(19,.sl (lm (eSl (eV2 (eInt .i64))) v1)),(20,iI (v1.length:Int)),(21,iI v122),(26,.sl (lm (eV2 (eInt .i64)) (gD v1 v122))),(27,iI v141),(28,iI v142)],[(11,aC (⟨v122,v146,v149,(min (max v147.a1 1) 100)⟩:ae))],[(58,⟨30,4,lm aC v143⟩),(112,⟨28,1,lm (eSl aC) v123⟩),(500018,⟨75,1,lm eOmp v124⟩)],[11,58,112,500018]⟩ ?_ (by subst h234; kernel_rfl)
   refine ai 3 ?_
   obtain ⟨h235,h⟩:=av h
   exact aq (cE 58 58 30 4 aC (rfl) (fx) h235) (ag (ah 5 (aY (hL2 h))))
theorem vc (hK:KnOk K) (hL1:eg M w0 r v1 m1 L1) (hL2:H10_2 M w0 r v1 v122 v123 v124 m1 m2 L2) (m:Nat):H10_3 M w0 r v1 v122 v123 v124 v139 v141 v142 v143 m2 m1 m (im K n v1 v122 v123 v124 v139 v141 v142 v143 L1 L2 m):=by
  induction m with
 | zero=>intro v146 v147 h; cases h
 | succ m ih=>intro v146 v147 h; have h:mJ K n v1 v122 v123 v124 v139 v141 v142 v143 L1 L2 (im K n v1 v122 v123 v124 v139 v141 v142 v143 L1 L2 m) v146 v147=some r:=h; exact aW (vT hK hL1 hL2 ih h)
theorem wi (hK:KnOk K) (hL1:eg M w0 r v1 m1 L1) (hL4:jr M w0 r v1 v122 v123 v139 v143 m1 m4 L4) (hL5:H10_5 M w0 r v1 v122 v123 v139 v143 v166 m4 m1 m5 L5) (hL6:H10_6 M w0 r v1 v122 v123 v139 v143 v166 v175 m5 m4 m1 m6 L6) (h:oF K n v1 v122 v123 v139 v143 v166 v175 L1 L4 L5 L6 v181 v182=some r):VE (dh M w0) (q10 M w0 r) [ay p10_12,k10_6 M w0 r m5 m4 m1 m6,.b 10,.b 9,ay gr,fi M w0 r m4 m1 m5,.b 8,.b 7,ay dY,dG M w0 r m1 m4,.b 6,ay c8,.b 1,ay ci,cd M w0 r m1,.b 0,ay [1,1,1]] .normal (s10_l4 v1 v122 v123 v139 v143 v166 v175 v181 v182):=by
  unfold oF at h
  obtain ⟨v183,h292,h⟩:=bind_some h
  have h292:=Option.some.inj h292
  refine bq (ks':=[ay p10_20,ay p10_21,k10_6 M w0 r m5 m4 m1 m6,.b 10,.b 9,ay gr,fi M w0 r m4 m1 m5,.b 8,.b 7,ay dY,dG M w0 r m1 m4,.b 6,ay c8,.b 1,ay ci,cd M w0 r m1,.b 0,ay [1,1,1]]) 3 ⟨[(0,.sl (lm (eSl (eV2 (eInt .i64))) v1)),(2,.ref 112),(3,iI v139),(4,.ref 500018),(5,iI v122),(7,.ref 58),(13,.ptr 13 0),(14,iI v175),(15,iI v181),(19,.sl (lm (eSl (eV2 (eInt .i64))) v1)),(20,iI (v1.length:Int)),(21,iI v122),(67,.ref 58),(68,iI (v143.length:Int)),(69,iI v166),(100,.bool v183)],[(13,aC (gD v143 v166))],[(58,⟨30,4,lm aC v143⟩),(112,⟨28,1,lm (eSl aC) v123⟩),(500018,⟨75,1,lm eOmp v182⟩)],[13,58,112,500018]⟩ ?_ (by subst h292; kernel_rfl)
  rcases au h with ⟨h293,h⟩ | ⟨h293,h⟩
  ·
   refine ak 100 h293 (ac (ks':=[ay p10_22,.b 11,ay p10_23,k10_6 M w0 r m5 m4 m1 m6,.b 10,.b 9,ay gr,fi M w0 r m4 m1 m5,.b 8,.b 7,ay dY,dG M w0 r m1 m4,.b 6,ay c8,.b 1,ay ci,cd M w0 r m1,.b 0,ay [1,1,1]]) 4 (ai 2 ?_))
   obtain ⟨h294,h⟩:=av h
   refine aq (bM 500018 1 eOmp h294) (ot_ldm (L:=v182) (id:=500018) (et:=75) (T:=75) (x:=(.tmp 105)) (decide_eq_true (aI h294).2) (aV 5 1 ?_))
   obtain ⟨h295,h⟩:=av h
   exact ot_mup (L:=v182) (id:=500018) (et:=75) (T:=75) (x:=(.tmp 106)) (y:=(.tmp 107)) (z:=(.const (.bool true))) (n:=v181) (b:=true) (decide_eq_true (aI h294).2) h295 (ag (ah 2 (aY (hL6 h))))
  ·
   exact ak 100 h293 (ah 7 (aY (hL5 h)))
theorem wN (hK:KnOk K) (hL1:eg M w0 r v1 m1 L1) (hL4:jr M w0 r v1 v122 v123 v139 v143 m1 m4 L4) (hL5:H10_5 M w0 r v1 v122 v123 v139 v143 v166 m4 m1 m5 L5) (m:Nat):H10_6 M w0 r v1 v122 v123 v139 v143 v166 v175 m5 m4 m1 m (kn K n v1 v122 v123 v139 v143 v166 v175 L1 L4 L5 m):=by
  induction m with
 | zero=>intro v181 v182 h; cases h
 | succ m ih=>intro v181 v182 h; have h:oF K n v1 v122 v123 v139 v143 v166 v175 L1 L4 L5 (kn K n v1 v122 v123 v139 v143 v166 v175 L1 L4 L5 m) v181 v182=some r:=h; exact aW (wi hK hL1 hL4 hL5 ih h)
theorem uj (hK:KnOk K) (hL1:eg M w0 r v1 m1 L1) (hL4:jr M w0 r v1 v122 v123 v139 v143 m1 m4 L4) (hL5:H10_5 M w0 r v1 v122 v123 v139 v143 v166 m4 m1 m5 L5) (h:mI K n v1 v122 v123 v139 v143 v166 v175 L1 L4 L5 v179=some r):VE (dh M w0) (q10 M w0 r) [ay p10_24,.b 9,ay gr,fi M w0 r m4 m1 m5,.b 8,.b 7,ay dY,dG M w0 r m1 m4,.b 6,ay c8,.b 1,ay ci,cd M w0 r m1,.b 0,ay [1,1,1]] .normal (s10_j3 v1 v122 v123 v139 v143 v166 v175 v179):=by
  unfold mI at h
  exact ah 3 (bz (p:=p10_25) n (wN hK hL1 hL4 hL5 n h))
theorem vQ (hK:KnOk K) (hL1:eg M w0 r v1 m1 L1) (hL4:jr M w0 r v1 v122 v123 v139 v143 m1 m4 L4) (hL5:H10_5 M w0 r v1 v122 v123 v139 v143 v166 m4 m1 m5 L5) (h:pq K n v1 v122 v123 v139 v143 v166 L1 L4 L5 v175 v176=some r):VE (dh M w0) (q10 M w0 r) [ay p10_10,fi M w0 r m4 m1 m5,.b 8,.b 7,ay dY,dG M w0 r m1 m4,.b 6,ay c8,.b 1,ay ci,cd M w0 r m1,.b 0,ay [1,1,1]] .normal (s10_l5 v1 v122 v123 v139 v143 v166 v175 v176):=by
  unfold pq at h
  obtain ⟨v177,h282,h⟩:=bind_some h
  have h282:=Option.some.inj h282
  refine bq (ks':=[ay p10_26,ay p10_27,fi M w0 r m4 m1 m5,.b 8,.b 7,ay dY,dG M w0 r m1 m4,.b 6,ay c8,.b 1,ay ci,cd M w0 r m1,.b 0,ay [1,1,1]]) 3 ⟨[(0,.sl (lm (eSl (eV2 (eInt .i64))) v1)),(2,.ref 112),(3,iI v139),(4,.ref 500018),(5,iI v122),(7,.ref 58),(13,.ptr 13 0),(14,iI v175),(19,.sl (lm (eSl (eV2 (eInt .i64))) v1)),(20,iI (v1.length:Int)),(21,iI v122),(67,.ref 58),(68,iI (v143.length:Int)),(69,iI v166),(80,.bool v177)],[(13,aC (gD v143 v166))],[(58,⟨30,4,lm aC v143⟩),(112,⟨28,1,lm (eSl aC) v123⟩),(500018,⟨75,1,lm eOmp v176⟩)],[13,58,112,500018]⟩ ?_ (by subst h282; kernel_rfl)
  rcases au h with ⟨h283,h⟩ | ⟨h283,h⟩
  ·
   refine ak 80 h283 (ac (ks':=[ay p10_28,ay p10_29,ay p10_24,.b 9,ay gr,fi M w0 r m4 m1 m5,.b 8,.b 7,ay dY,dG M w0 r m1 m4,.b 6,ay c8,.b 1,ay ci,cd M w0 r m1,.b 0,ay [1,1,1]]) 6 (ai 2 ?_))
   obtain ⟨h284,h⟩:=av h
   refine aq (bM 500018 1 eOmp h284) (ot_ldm (L:=v176) (id:=500018) (et:=75) (T:=75) (x:=(.tmp 85)) (decide_eq_true (aI h284).2) (ot_mnil true (L:=v176) (id:=500018) (op:=.eql) (et:=75) (T:=75) (T':=75) (x:=(.tmp 86)) (y:=(.const (.map none))) (decide_eq_true (aI h284).2) (ag ?_)))
   obtain ⟨v178,h285,h⟩:=bind_some h
   have h285:=Option.some.inj h285
   refine bq (ks':=[ay p10_29,ay p10_24,.b 9,ay gr,fi M w0 r m4 m1 m5,.b 8,.b 7,ay dY,dG M w0 r m1 m4,.b 6,ay c8,.b 1,ay ci,cd M w0 r m1,.b 0,ay [1,1,1]]) 0 ⟨[(0,.sl (lm (eSl (eV2 (eInt .i64))) v1)),(2,.ref 112),(3,iI v139),(4,.ref 500018),(5,iI v122),(7,.ref 58),(13,.ptr 13 0),(14,iI v175),(19,.sl (lm (eSl (eV2 (eInt .i64))) v1)),(20,iI (v1.length:Int)),(21,iI v122),(67,.ref 58),(68,iI (v143.length:Int)),(69,iI v166),(87,.bool v178)],[(13,aC (gD v143 v166))],[(58,⟨30,4,lm aC v143⟩),(112,⟨28,1,lm (eSl aC) v123⟩),(500018,⟨75,1,lm eOmp v176⟩)],[13,58,112,500018]⟩ ?_ (by subst h285; kernel_rfl)
   rcases au h with ⟨h286,h⟩ | ⟨h286,h⟩
   ·
    refine ak 87 h286 (ac (ks':=[ay p10_30,ay p10_24,.b 9,ay gr,fi M w0 r m4 m1 m5,.b 8,.b 7,ay dY,dG M w0 r m1 m4,.b 6,ay c8,.b 1,ay ci,cd M w0 r m1,.b 0,ay [1,1,1]]) 1 (ai 2 ?_))
    obtain ⟨h287,h⟩:=av h
    exact ot_mms (L:=v176) (id:=500018) (d1:=90) (d2:=91) (et:=75) (T:=75) (T1:=74) (T2:=75) (x:=(.tmp 88)) (y:=(.tmp 89)) (j:=v175) h287 (ag (ah 0 (uj hK hL1 hL4 hL5 h)))
   ·
    exact ak 87 h286 (ah 2 (uj hK hL1 hL4 hL5 h))
  ·
   exact ak 80 h283 (ah 7 (aY (hL4 h)))
theorem xf (hK:KnOk K) (hL1:eg M w0 r v1 m1 L1) (hL4:jr M w0 r v1 v122 v123 v139 v143 m1 m4 L4) (m:Nat):H10_5 M w0 r v1 v122 v123 v139 v143 v166 m4 m1 m (ii K n v1 v122 v123 v139 v143 v166 L1 L4 m):=by
  induction m with
 | zero=>intro v175 v176 h; cases h
 | succ m ih=>intro v175 v176 h; have h:pq K n v1 v122 v123 v139 v143 v166 L1 L4 (ii K n v1 v122 v123 v139 v143 v166 L1 L4 m) v175 v176=some r:=h; exact aW (vQ hK hL1 hL4 ih h)
theorem uL (hK:KnOk K) (hL1:eg M w0 r v1 m1 L1) (hL4:jr M w0 r v1 v122 v123 v139 v143 m1 m4 L4) (h:ou K n v1 v122 v123 v139 v143 L1 L4 v166 v167=some r):VE (dh M w0) (q10 M w0 r) [ay p10_3,dG M w0 r m1 m4,.b 6,ay c8,.b 1,ay ci,cd M w0 r m1,.b 0,ay [1,1,1]] .normal (s10_l6 v1 v122 v123 v139 v143 v166 v167):=by
  unfold ou at h
  refine ac (ks':=[ay p10_31,ay p10_32,dG M w0 r m1 m4,.b 6,ay c8,.b 1,ay ci,cd M w0 r m1,.b 0,ay [1,1,1]]) 3 ?_
  rcases au h with ⟨h266,h⟩ | ⟨h266,h⟩
  ·
   refine ak 70 h266 (ac (ks':=[ay p10_33,ay p10_34,.b 7,ay dY,dG M w0 r m1 m4,.b 6,ay c8,.b 1,ay ci,cd M w0 r m1,.b 0,ay [1,1,1]]) 5 (ai 0 ?_))
   obtain ⟨h267,h⟩:=av h
   exact aq (bM 58 4 aC h267) (aq (bj 30 0 aC aC (aI h267).2 (fun _=>rfl)) (ag (ah 3 (bz (p:=p10_35) n (xf hK hL1 hL4 n h)))))
  ·
   refine ak 70 h266 (ac (ks':=[ay c8,.b 1,ay ci,cd M w0 r m1,.b 0,ay [1,1,1]]) 5 (ai 2 (dV 58 (aV 3 1 ?_))))
   obtain ⟨h296,h⟩:=av h
   exact aq (cE 112 112 28 1 (eSl aC) (rfl) (fun _=>rfl) h296) (ag (ah 2 (aY (hL1 h))))
theorem vG (hK:KnOk K) (hL1:eg M w0 r v1 m1 L1) (m:Nat):jr M w0 r v1 v122 v123 v139 v143 m1 m (ig K n v1 v122 v123 v139 v143 L1 m):=by
  induction m with
 | zero=>intro v166 v167 h; cases h
 | succ m ih=>intro v166 v167 h; have h:ou K n v1 v122 v123 v139 v143 L1 (ig K n v1 v122 v123 v139 v143 L1 m) v166 v167=some r:=h; exact aW (uL hK hL1 ih h)
theorem uK (hK:KnOk K) (hL1:eg M w0 r v1 m1 L1) (hL2:H10_2 M w0 r v1 v122 v123 v124 m1 m2 L2) (h:nC K n v1 v122 v123 v124 L1 L2 v139 v140 v141 v142 v143=some r):VE (dh M w0) (q10 M w0 r) [ay p10_5,fP M w0 r m1 m2,.b 2,ay d8,.b 1,ay ci,cd M w0 r m1,.b 0,ay [1,1,1]] .normal (s10_l2 v1 v122 v123 v124 v139 v140 v141 v142 v143):=by
  unfold nC at h
  refine ac (ks':=[ay p10_36,ay p10_37,fP M w0 r m1 m2,.b 2,ay d8,.b 1,ay ci,cd M w0 r m1,.b 0,ay [1,1,1]]) 3 ?_
  rcases au h with ⟨h225,h⟩ | ⟨h225,h⟩
  ·
   refine ak 29 h225 (ac (ks':=[ay p10_38,ay p10_39,.b 3,ay il,fP M w0 r m1 m2,.b 2,ay d8,.b 1,ay ci,cd M w0 r m1,.b 0,ay [1,1,1]]) 5 (ai 0 ?_))
   obtain ⟨h226,h⟩:=av h
   exact aq (bL (eV2 (eInt .i64)) (eV2 (eInt .i64)) (sz:=2) h226 (fun _=>rfl) (fun _=>rfl)) (ag (ah 2 (bz (p:=p10_40) n (vc hK hL1 hL2 n h))))
  ·
   exact ak 29 h225 (ac (ks':=[ay p10_41,ay p10_42,ay c8,.b 1,ay ci,cd M w0 r m1,.b 0,ay [1,1,1]]) 7 (ai 1 (aq (aZ aC v143) (ag (ah 1 (bz (p:=p10_43) n (vG hK hL1 n h)))))))
theorem wt (hK:KnOk K) (hL1:eg M w0 r v1 m1 L1) (m:Nat):H10_2 M w0 r v1 v122 v123 v124 m1 m (jq K n v1 v122 v123 v124 L1 m):=by
  induction m with
 | zero=>intro v139 v140 v141 v142 v143 h; cases h
 | succ m ih=>intro v139 v140 v141 v142 v143 h; have h:nC K n v1 v122 v123 v124 L1 (jq K n v1 v122 v123 v124 L1 m) v139 v140 v141 v142 v143=some r:=h; exact aW (uK hK hL1 ih h)
theorem uP (hK:KnOk K) (hL1:eg M w0 r v1 m1 L1) (h:ov K n v1 L1 v121 v122 v123 v124=some r):VE (dh M w0) (q10 M w0 r) [ay p10_0,cd M w0 r m1,.b 0,ay [1,1,1]] .normal (s10_l7 v1 v121 v122 v123 v124):=by
  unfold ov at h
  refine ac (ks':=[ay p10_44,ay p10_45,cd M w0 r m1,.b 0,ay [1,1,1]]) 3 ?_
  rcases au h with ⟨h199,h⟩ | ⟨h199,h⟩
  ·
   refine ak 22 h199 (ac (ks':=[ay p10_46,ay p10_47,.b 1,ay ci,cd M w0 r m1,.b 0,ay [1,1,1]]) 5 (ai 1 ?_))
   obtain ⟨h200,h⟩:=av h
   exact aq (bL (eSl (eV2 (eInt .i64))) (eSl (eV2 (eInt .i64))) h200 (fun _=>rfl) (fun _=>rfl)) (ag (ac (ks':=[ay p10_48,ay p10_49,ay d8,.b 1,ay ci,cd M w0 r m1,.b 0,ay [1,1,1]]) 6 (ai 1 (aq (aZ (eV2 (eInt .i64)) (gD v1 v122)) (ag (ac (ks':=[ay p10_50,.b 2,ay d8,.b 1,ay ci,cd M w0 r m1,.b 0,ay [1,1,1]]) 1 (bt [0,2,3,4,5,7,8,19,20,21,26,27,28] [] [112,500018] (dF 58 7 30 4 (ah 0 (bz (p:=p10_50) n (wt hK hL1 n h)))))))))))
  ·
   refine ak 22 h199 (aQ 8 ?_)
   cases h
   exact eI
theorem vy (hK:KnOk K) (m:Nat):eg M w0 r v1 m (iv K n v1 m):=by
  induction m with
 | zero=>intro v121 v122 v123 v124 h; cases h
 | succ m ih=>intro v121 v122 v123 v124 h; have h:ov K n v1 (iv K n v1 m) v121 v122 v123 v124=some r:=h; exact aW (uP hK ih h)
theorem sE (hK:KnOk K) (h:jn K n v1=some r):ACalls Try.prog 10 [.sl (lm (eSl (eV2 (eInt .i64))) v1)] (fun v s=>v = .tup [.ref 112,iI r.2]∧look 112 s.r=some ⟨28,1,lm (eSl aC) r.1⟩):=by
  refine bo (cat Try.f10 []) Try.func10 Try.ntmps10 fun M w0=>(bg ⟨[(0,.sl (lm (eSl (eV2 (eInt .i64))) v1))],[],[],[]⟩ ?_)
  unfold jn at h
  refine ac (ks':=[ay [1,0],ay [1,1]]) 3 (ai 1 (aq (aZ (eSl (eV2 (eInt .i64))) v1) ?_))
  obtain ⟨h1,h⟩:=av h
  refine fV eNilm (none:TMp) 74 (.tmp 17) (.tmp 17) 18 (e:=75) (sz:=1) (zc:=[.nilm]) (kd:=.i64) (kd':=.i64) h1 (ot_m 18 500018 (ot_om 500018 ((v1.length:Int)).toNat 75 (ag ?_)))
  obtain ⟨v2,h2,h⟩:=bind_some h
  have h2:=Option.some.inj h2
  refine bq (ks':=[ay p10_51,ay p10_52,ay [1,1,1]]) 2 ⟨[(0,.sl (lm (eSl (eV2 (eInt .i64))) v1)),(2,.nils),(3,iI 0),(4,.ref 500018)],[],[(500018,⟨75,1,lm eOmp v2⟩)],[500018]⟩ ?_ (by subst h2; kernel_rfl)
  exact ai 1 (aq (aZ (eSl (eV2 (eInt .i64))) v1) (ag (ac (ks':=[ay p10_53,.b 0,ay [1,1,1]]) 1 (bt [0,2,3,4,19,20,21] [] [500018] (dF 112 2 28 1 (ah 0 (bz (p:=p10_53) n (vy hK n h))))))))
end
noncomputable section
variable {K:Kn} {n:Nat} {M:Nat→Prop} {w0:Base} {r v1:Int} 
theorem iu (hK:KnOk K) (h:fl K n v1=some r):ACalls Try.prog 26 [iI v1] (fun v _=>v=iI r):=by
  refine bo (cat Try.f26 []) Try.func26 Try.ntmps26 fun M w0=>(bg ⟨[(0,iI v1)],[],[],[]⟩ ?_)
  unfold fl at h
  refine aQ 5 ?_
  cases h
  exact bF
end
noncomputable section
variable {K:Kn} {n:Nat} {M:Nat→Prop} {w0:Base} {r v1 v2:Int} 
theorem rG (hK:KnOk K) (h:iM K n v1 v2=some r):ACalls Try.prog 57 [iI v1,iI v2] (fun v _=>v=iI r):=by
  refine bo (cat Try.f57 []) Try.func57 Try.ntmps57 fun M w0=>(bg ⟨[(0,iI v1),(1,iI v2)],[],[],[]⟩ ?_)
  unfold iM at h
  refine aQ 5 ?_
  cases h
  exact bF
end
def mq:=pth 0 110011
def p80_1:=pth 0 1100100100
def p80_2:=pth 0 110010010001
def p80_3:=pth 0 11001001001
def p80_4:=pth 0 1100100100100
def p80_5:=pth 0 110010010011
def p80_6:=pth 0 110010010000
def p80_7:=pth 0 110001
def p80_8:=pth 0 11001
def p80_9:=pth 0 110010010
noncomputable section
abbrev jA (M:Nat→Prop) (w0:Base):Cx:=⟨Try.prog,53,M,w0⟩
abbrev q80 (M:Nat→Prop) (w0:Base) (r:List Int):=bodyPost Try.prog Try.f80 (RetQ M w0 (fun v s=>v = .tup []∧look 0 s.r=some ⟨3,1,lm (eInt .i64) r⟩))
abbrev ic (M:Nat→Prop) (w0:Base) (r:List Int) (m1:Nat):Kont:=kl (jA M w0) (q80 M w0 r) [.b 0] (cat Try.f80 [1,0,0]) m1
abbrev dC (p:List Nat):Kont:=.c (cat Try.f80 p)
abbrev k80_2 (M:Nat→Prop) (w0:Base) (r:List Int) (m1 m2:Nat):Kont:=kl (jA M w0) (q80 M w0 r) [.b 2,.b 1,dC mq,ic M w0 r m1,.b 0] (cat Try.f80 p80_1) m2
def s80_j1 (v2 v3:Int) (v4:Fv) (v11 v15:Int) (v16:List Int) (v18:Bool):AS:=⟨[(0,.ref 0),(1,iI v2),(2,iI v3),(3,.fn v4.id v4.caps),(8,iI v11),(9,iI v15),(34,.bool v18)],[],[(0,⟨3,1,lm (eInt .i64) v16⟩)],[0,1000000,0]⟩
def s80_l2 (v2 v3:Int) (v4:Fv) (v11 v15:Int) (v16:List Int):AS:=⟨[(0,.ref 0),(1,iI v2),(2,iI v3),(3,.fn v4.id v4.caps),(8,iI v11),(9,iI v15)],[],[(0,⟨3,1,lm (eInt .i64) v16⟩)],[0,1000000,0]⟩
def s80_l3 (v2 v3:Int) (v4:Fv) (v11:Int) (v12:List Int):AS:=⟨[(0,.ref 0),(1,iI v2),(2,iI v3),(3,.fn v4.id v4.caps),(8,iI v11)],[],[(0,⟨3,1,lm (eInt .i64) v12⟩)],[0,1000000,0]⟩
abbrev H80_1 (M:Nat→Prop) (w0:Base) (r:List Int) (v2 v3:Int) (v4:Fv) (m1:Nat) (L1:Int→(List Int)→Option (List Int)):Prop:=∀ {v11:Int} {v12:(List Int)},L1 v11 v12=some r→LP (jA M w0) (q80 M w0 r) [.b 0] (cat Try.f80 [1,0,0]) m1 (s80_l3 v2 v3 v4 v11 v12)
abbrev H80_2 (M:Nat→Prop) (w0:Base) (r:List Int) (v2 v3:Int) (v4:Fv) (v11:Int) (m1 m2:Nat) (L2:Int→(List Int)→Option (List Int)):Prop:=∀ {v15:Int} {v16:(List Int)},L2 v15 v16=some r→LP (jA M w0) (q80 M w0 r) [.b 2,.b 1,dC mq,ic M w0 r m1,.b 0] (cat Try.f80 p80_1) m2 (s80_l2 v2 v3 v4 v11 v15 v16)
variable {K:Kn} {n:Nat} {M:Nat→Prop} {w0:Base} {r v1:List Int} {v2 v3:Int} {v4:Fv} {v11:Int} {v12:List Int} {v15:Int} {v16:List Int} {v18:Bool} {m1:Nat} {L1:Int→(List Int)→Option (List Int)} {m2:Nat} {L2:Int→(List Int)→Option (List Int)}
theorem tO (hK:KnOk K) (hL1:H80_1 M w0 r v2 v3 v4 m1 L1) (hL2:H80_2 M w0 r v2 v3 v4 v11 m1 m2 L2) (h:kq K n v2 v3 v4 v11 v15 v16 L1 L2 v18=some r):VE (jA M w0) (q80 M w0 r) [dC p80_2,dC p80_3,k80_2 M w0 r m1 m2,.b 2,.b 1,dC mq,ic M w0 r m1,.b 0] .normal (s80_j1 v2 v3 v4 v11 v15 v16 v18):=by
  unfold kq at h
  rcases au h with ⟨h34,h⟩ | ⟨h34,h⟩
  ·
   refine ak 34 h34 (ac (ks':=[dC p80_4,.b 3,dC p80_5,k80_2 M w0 r m1 m2,.b 2,.b 1,dC mq,ic M w0 r m1,.b 0]) 4 (bt [0,1,2,3,8,9] [] [0] ?_))
   obtain ⟨h35,h⟩:=av h
   obtain ⟨h36,h⟩:=av h
   obtain ⟨h37,h⟩:=av h
   obtain ⟨h38,h⟩:=av h
   exact bE 2 (nu 37 [.ref 0,iI v15,.ref 0,iI v15,iI (w64 (v15 - 1)),.ref 0,iI v15,iI (w64 (v15 - 1)),.eptr 0 1 (((w64 (v15 - 1))).toNat) 0,iI (gD v16 ((w64 (v15 - 1)))),.ref 0,iI v15,.eptr 0 1 (v15.toNat) 0,iI (gD v16 v15),.eptr 0 1 (v15.toNat) 0,.eptr 0 1 (((w64 (v15 - 1))).toNat) 0]) [] [] [strS 0 ⟨3,1,lm (eInt .i64) (List.set v16 v15.toNat (gD v16 ((w64 (v15 - 1)))))⟩,strS 0 ⟨3,1,lm (eInt .i64) (List.set (List.set v16 v15.toNat (gD v16 ((w64 (v15 - 1))))) ((w64 (v15 - 1))).toNat (gD v16 v15))⟩] (az [.v 0 1,.v 0 1,.v 0 2,.v 0 2,.v 0 2,.v 0 1,.v 0 1,.v 0 1] (d_v (bv 0 1 (eInt .i64) (L:=v16) h35) (d_v (bj 3 0 (eInt .i64) (eInt .i64) (aI h35).2 (fun _=>rfl)) (az [.v 0 2,.v 0 2] (aj (k_v (lo:=0) (k:=2) (bW ⟨(by kernel_rfl),(cc (bv 0 1 (eInt .i64) (L:=v16) h36) (by kernel_rfl))⟩ (bW ⟨(by kernel_rfl),(cc (bv 0 1 (eInt .i64) (L:=(List.set v16 v15.toNat (gD v16 ((w64 (v15 - 1)))))) h36) (by kernel_rfl))⟩ dd))) (d_v (bj 3 0 (eInt .i64) (eInt .i64) (aI h37).2 (fun _=>rfl)) (d_v (bv 0 1 (eInt .i64) (L:=v16) h37) (aj (e_s (m:=0) (cq 0 3 1 0 (eInt .i64) (eInt .i64) (gD v16 ((w64 (v15 - 1)))) (aI h37).2 (fun _=>rfl))) (aj (e_v (lo:=1) (bv 0 1 (eInt .i64) (L:=(List.set v16 v15.toNat (gD v16 ((w64 (v15 - 1)))))) h38)) (aj (e_s (m:=1) (cq 0 3 1 0 (eInt .i64) (eInt .i64) (gD v16 v15) (aI h38).2 (fun _=>rfl))) bC)))))))))) (ah 2 (aY (hL2 h)))
  ·
   exact ak 34 h34 (ah 7 (aY (hL1 h)))
theorem xc (hK:KnOk K) (hL1:H80_1 M w0 r v2 v3 v4 m1 L1) (hL2:H80_2 M w0 r v2 v3 v4 v11 m1 m2 L2) (h:pn K n v2 v3 v4 v11 L1 L2 v15 v16=some r):VE (jA M w0) (q80 M w0 r) [dC p80_1,k80_2 M w0 r m1 m2,.b 2,.b 1,dC mq,ic M w0 r m1,.b 0] .normal (s80_l2 v2 v3 v4 v11 v15 v16):=by
  unfold pn at h
  refine ac (ks':=[dC p80_6,dC p80_2,dC p80_3,k80_2 M w0 r m1 m2,.b 2,.b 1,dC mq,ic M w0 r m1,.b 0]) 2 (bt [0,1,2,3,8,9] [] [0] ?_)
  rcases au h with ⟨h30,h⟩ | ⟨h30,h⟩
  ·
   obtain ⟨h31,h⟩:=av h
   obtain ⟨h32,h⟩:=av h
   obtain ⟨v17,h33,h⟩:=bind_some h
   exact bE 0 (nu 18 [iI v15,iI v2,.bool (decide (v15>v2)),.bool true,.fn v4.id v4.caps,.ref 0,iI v15,.eptr 0 1 (v15.toNat) 0,iI (gD v16 v15),.ref 0,iI v15,iI (w64 (v15 - 1)),.eptr 0 1 (((w64 (v15 - 1))).toNat) 0,iI (gD v16 ((w64 (v15 - 1)))),iI v17,.bool (decide (v17<0)),.bool (decide (v17<0))]) [] [] [] (az (vz 3) (aj (e_b 0 21 (e:=(decide (v15>v2))) (b:=true) h30) (az (vz 3) (d_v (bv 0 1 (eInt .i64) (L:=v16) h31) (d_v (bj 3 0 (eInt .i64) (eInt .i64) (aI h31).2 (fun _=>rfl)) (az (vz 3) (d_v (bv 0 1 (eInt .i64) (L:=v16) h32) (d_v (bj 3 0 (eInt .i64) (eInt .i64) (aI h32).2 (fun _=>rfl)) (aj (e_c 0 1 32 (hK.dP h33).2 (hK.dP h33).1) (az (vz 2) bC)))))))))) (ah 0 (tO hK hL1 hL2 h))
  ·
   exact bE 0 (nu 18 [iI v15,iI v2,.bool (decide (v15>v2)),.bool false,.tup [],.tup [],.tup [],.tup [],.tup [],.tup [],.tup [],.tup [],.tup [],.tup [],.tup [],.tup [],.bool false]) [] [] [] (az (vz 3) (aj (e_b 0 21 (e:=(decide (v15>v2))) (b:=false) h30) (aj (aH 0 1) (aj (aH 0 1) (aj (aH 0 1) (aj (aH 0 1) (aj (aH 0 1) (aj (aH 0 1) (aj (aH 0 1) (aj (aH 0 1) (aj (aH 0 1) (aj (aH 0 1) (aj (aH 0 1) (aj (aH 0 1) (az [.v 0 1] bC))))))))))))))) (ah 0 (tO hK hL1 hL2 h))
theorem vB (hK:KnOk K) (hL1:H80_1 M w0 r v2 v3 v4 m1 L1) (m:Nat):H80_2 M w0 r v2 v3 v4 v11 m1 m (jZ K n v2 v3 v4 v11 L1 m):=by
  induction m with
 | zero=>intro v15 v16 h; cases h
 | succ m ih=>intro v15 v16 h; have h:pn K n v2 v3 v4 v11 L1 (jZ K n v2 v3 v4 v11 L1 m) v15 v16=some r:=h; exact aW (xc hK hL1 ih h)
theorem vo (hK:KnOk K) (hL1:H80_1 M w0 r v2 v3 v4 m1 L1) (h:kA K n v2 v3 v4 L1 v11 v12=some r):VE (jA M w0) (q80 M w0 r) [dC [1,0,0],ic M w0 r m1,.b 0] .normal (s80_l3 v2 v3 v4 v11 v12):=by
  unfold kA at h
  refine ac (ks':=[dC p80_7,dC p80_8,ic M w0 r m1,.b 0]) 3 ?_
  rcases au h with ⟨h20,h⟩ | ⟨h20,h⟩
  ·
   exact ak 14 h20 (ah 7 (bz (p:=p80_9) n (vB hK hL1 n h)))
  ·
   refine ak 14 h20 (ac (ks':=[]) 5 (j4 ?_))
   cases h
   exact eI
theorem uF (hK:KnOk K) (m:Nat):H80_1 M w0 r v2 v3 v4 m (gZ K n v2 v3 v4 m):=by
  induction m with
 | zero=>intro v11 v12 h; cases h
 | succ m ih=>intro v11 v12 h; have h:kA K n v2 v3 v4 (gZ K n v2 v3 v4 m) v11 v12=some r:=h; exact aW (vo hK ih h)
theorem tz (hK:KnOk K) (h:l7 K n v1 v2 v3 v4=some r):AIO Try.prog 80 [.ref 0,iI v2,iI v3,.fn v4.id v4.caps] 0 ⟨3,1,lm (eInt .i64) v1⟩ (fun v s=>v = .tup []∧look 0 s.r=some ⟨3,1,lm (eInt .i64) r⟩):=by
  refine j7 (c:=cat Try.f80 []) Try.func80 (by kernel_rfl) _ Try.ntmps80 (of_decide_eq_true (by kernel_rfl)) fun M w0=>(bg ⟨[(0,.ref 0),(1,iI v2),(2,iI v3),(3,.fn v4.id v4.caps)],[],[(0,⟨3,1,lm (eInt .i64) v1⟩)],[0,1000000]⟩ ?_)
  unfold l7 at h
  exact ah 3 (bz (p:=[1,0]) n (uF hK n h))
end
def p95_0:=pth 0 110001
def p95_1:=pth 0 11001
def p95_2:=pth 0 1100100
def p95_3:=pth 0 110011
noncomputable section
abbrev cx95 (M:Nat→Prop) (w0:Base):Cx:=⟨Try.prog,38,M,w0⟩
abbrev q95 (M:Nat→Prop) (w0:Base) (r:List Int):=bodyPost Try.prog Try.f95 (RetQ M w0 (fun v s=>v = .tup []∧look 0 s.r=some ⟨3,1,lm (eInt .i64) r⟩))
abbrev k95_1 (M:Nat→Prop) (w0:Base) (r:List Int) (m1:Nat):Kont:=kl (cx95 M w0) (q95 M w0 r) [.b 0] (cat Try.f95 [1,0,0]) m1
def s95_l1 (v2 v3 v4 v6:Int) (v7:List Int):AS:=⟨[(0,.ref 0),(1,iI v2),(2,iI v3),(3,iI v4),(10,iI v6)],[],[(0,⟨3,1,lm (eInt .i64) v7⟩)],[0,1000000,0]⟩
abbrev H95_1 (M:Nat→Prop) (w0:Base) (r:List Int) (v2 v3 v4:Int) (m1:Nat) (L1:Int→(List Int)→Option (List Int)):Prop:=∀ {v6:Int} {v7:(List Int)},L1 v6 v7=some r→LP (cx95 M w0) (q95 M w0 r) [.b 0] (cat Try.f95 [1,0,0]) m1 (s95_l1 v2 v3 v4 v6 v7)
variable {K:Kn} {n:Nat} {M:Nat→Prop} {w0:Base} {r v1:List Int} {v2 v3 v4:Int} {v5:Fv} {v6:Int} {v7:List Int} {m1:Nat} {L1:Int→(List Int)→Option (List Int)}
abbrev cF95 (p:List Nat):Kont:=.c (cat Try.f95 p)
theorem vq (hK:KnOk K) (hL1:H95_1 M w0 r v2 v3 v4 m1 L1) (h:oI K n v2 v3 v4 L1 v6 v7=some r):VE (cx95 M w0) (q95 M w0 r) [cF95 [1,0,0],k95_1 M w0 r m1,.b 0] .normal (s95_l1 v2 v3 v4 v6 v7):=by
  unfold oI at h
  refine ac (ks':=[cF95 p95_0,cF95 p95_1,k95_1 M w0 r m1,.b 0]) 3 ?_
  rcases au h with ⟨h6,h⟩ | ⟨h6,h⟩
  ·
   refine ak 13 h6 (ac (ks':=[cF95 p95_2,.b 1,cF95 p95_3,k95_1 M w0 r m1,.b 0]) 4 (bt [0,1,2,3,10] [] [0] ?_))
   obtain ⟨h7,h⟩:=av h
   obtain ⟨h8,h⟩:=av h
   obtain ⟨h9,h⟩:=av h
   obtain ⟨h10,h⟩:=av h
   exact bE 2 (nu 16 [.ref 0,iI v2,iI v6,iI (w64 (v2+v6)),.ref 0,iI v3,iI v6,iI (w64 (v3+v6)),.ref 0,iI v3,iI v6,iI (w64 (v3+v6)),.eptr 0 1 (((w64 (v3+v6))).toNat) 0,iI (gD v7 ((w64 (v3+v6)))),.ref 0,iI v2,iI v6,iI (w64 (v2+v6)),.eptr 0 1 (((w64 (v2+v6))).toNat) 0,iI (gD v7 ((w64 (v2+v6)))),.eptr 0 1 (((w64 (v2+v6))).toNat) 0,.eptr 0 1 (((w64 (v3+v6))).toNat) 0]) [] [] [strS 0 ⟨3,1,lm (eInt .i64) (List.set v7 ((w64 (v2+v6))).toNat (gD v7 ((w64 (v3+v6)))))⟩,strS 0 ⟨3,1,lm (eInt .i64) (List.set (List.set v7 ((w64 (v2+v6))).toNat (gD v7 ((w64 (v3+v6))))) ((w64 (v3+v6))).toNat (gD v7 ((w64 (v2+v6)))))⟩] (az [.v 0 1,.v 0 1,.v 0 1,.v 0 1,.v 0 2,.v 0 2,.v 0 2,.v 0 2,.v 0 1,.v 0 1,.v 0 1,.v 0 1] (d_v (bv 0 1 (eInt .i64) (L:=v7) h7) (d_v (bj 3 0 (eInt .i64) (eInt .i64) (aI h7).2 (fun _=>rfl)) (az [.v 0 2,.v 0 2,.v 0 2,.v 0 2] (aj (k_v (lo:=0) (k:=2) (bW ⟨(by kernel_rfl),(cc (bv 0 1 (eInt .i64) (L:=v7) h8) (by kernel_rfl))⟩ (bW ⟨(by kernel_rfl),(cc (bv 0 1 (eInt .i64) (L:=(List.set v7 ((w64 (v2+v6))).toNat (gD v7 ((w64 (v3+v6)))))) h8) (by kernel_rfl))⟩ dd))) (d_v (bj 3 0 (eInt .i64) (eInt .i64) (aI h9).2 (fun _=>rfl)) (d_v (bv 0 1 (eInt .i64) (L:=v7) h9) (aj (e_s (m:=0) (cq 0 3 1 0 (eInt .i64) (eInt .i64) (gD v7 ((w64 (v3+v6)))) (aI h9).2 (fun _=>rfl))) (aj (e_v (lo:=1) (bv 0 1 (eInt .i64) (L:=(List.set v7 ((w64 (v2+v6))).toNat (gD v7 ((w64 (v3+v6)))))) h10)) (aj (e_s (m:=1) (cq 0 3 1 0 (eInt .i64) (eInt .i64) (gD v7 ((w64 (v2+v6)))) (aI h10).2 (fun _=>rfl))) bC)))))))))) (ah 2 (aY (hL1 h)))
  ·
   refine ak 13 h6 (ac (ks':=[]) 5 (j4 ?_))
   cases h
   exact eI
theorem xt (hK:KnOk K) (m:Nat):H95_1 M w0 r v2 v3 v4 m (lY K n v2 v3 v4 m):=by
  induction m with
 | zero=>intro v6 v7 h; cases h
 | succ m ih=>intro v6 v7 h; have h:oI K n v2 v3 v4 (lY K n v2 v3 v4 m) v6 v7=some r:=h; exact aW (vq hK ih h)
theorem sf (hK:KnOk K) (h:jS K n v1 v2 v3 v4 v5=some r):AIO Try.prog 95 [.ref 0,iI v2,iI v3,iI v4,.fn v5.id v5.caps] 0 ⟨3,1,lm (eInt .i64) v1⟩ (fun v s=>v = .tup []∧look 0 s.r=some ⟨3,1,lm (eInt .i64) r⟩):=by
  refine j7 (c:=cat Try.f95 []) Try.func95 (by kernel_rfl) _ Try.ntmps95 (of_decide_eq_true (by kernel_rfl)) fun M w0=>(bg ⟨[(0,.ref 0),(1,iI v2),(2,iI v3),(3,iI v4),(4,.fn v5.id v5.caps)],[],[(0,⟨3,1,lm (eInt .i64) v1⟩)],[0,1000000]⟩ ?_)
  unfold jS at h
  exact ah 3 (bz (p:=[1,0]) n (xt hK n h))
end
def p92_0:=pth 0 111000
def p92_1:=pth 0 11100001
def p92_2:=pth 0 1110001
def p92_3:=pth 0 111000101
def p92_4:=pth 0 11100010100
def p92_5:=pth 0 11100010101
def p92_6:=pth 0 11100010110
def p92_7:=pth 0 11100010111
def p92_8:=pth 0 11100
noncomputable section
abbrev cx92 (M:Nat→Prop) (w0:Base):Cx:=⟨Try.prog,58,M,w0⟩
abbrev q92 (M:Nat→Prop) (w0:Base) (r:List Int):=bodyPost Try.prog Try.f92 (RetQ M w0 (fun v s=>v = .tup []∧look 0 s.r=some ⟨3,1,lm (eInt .i64) r⟩))
abbrev dr (p:List Nat):Kont:=.c (cat Try.f92 p)
abbrev lu (M:Nat→Prop) (w0:Base) (r:List Int) (m1:Nat):Kont:=kl (cx92 M w0) (q92 M w0 r) [.b 0,dr [1,1,1]] (cat Try.f92 p92_0) m1
def s92_j1 (v3:Int) (v5:Fv) (v16 v17:Int) (v18:List Int):AS:=⟨[(0,.ref 0),(2,iI v3),(4,.fn v5.id v5.caps),(10,iI v16),(11,iI v17)],[],[(0,⟨3,1,lm (eInt .i64) v18⟩)],[0,1000000,0]⟩
def s92_l2 (v3:Int) (v5:Fv) (v11 v12:Int) (v13:List Int):AS:=⟨[(0,.ref 0),(2,iI v3),(4,.fn v5.id v5.caps),(10,iI v11),(11,iI v12)],[],[(0,⟨3,1,lm (eInt .i64) v13⟩)],[0,1000000,0]⟩
abbrev H92_1 (M:Nat→Prop) (w0:Base) (r:List Int) (v3:Int) (v5:Fv) (m1:Nat) (L1:Int→Int→(List Int)→Option (List Int)):Prop:=∀ {v11:Int} {v12:Int} {v13:(List Int)},L1 v11 v12 v13=some r→LP (cx92 M w0) (q92 M w0 r) [.b 0,dr [1,1,1]] (cat Try.f92 p92_0) m1 (s92_l2 v3 v5 v11 v12 v13)
variable {K:Kn} {n:Nat} {M:Nat→Prop} {w0:Base} {r v1:List Int} {v2 v3 v4:Int} {v5:Fv} {v11 v12:Int} {v13:List Int} {v16 v17:Int} {v18:List Int} {m1:Nat} {L1:Int→Int→(List Int)→Option (List Int)}
theorem s9 (hK:KnOk K) (hL1:H92_1 M w0 r v3 v5 m1 L1) (h:mH K n v3 v5 L1 v16 v17 v18=some r):VE (cx92 M w0) (q92 M w0 r) [.b 1,lu M w0 r m1,.b 0,dr [1,1,1]] .normal (s92_j1 v3 v5 v16 v17 v18):=by
  unfold mH at h
  exact ah 1 (aY (hL1 h))
theorem ve (hK:KnOk K) (hL1:H92_1 M w0 r v3 v5 m1 L1) (h:nk K n v3 v5 L1 v11 v12 v13=some r):VE (cx92 M w0) (q92 M w0 r) [dr p92_0,lu M w0 r m1,.b 0,dr [1,1,1]] .normal (s92_l2 v3 v5 v11 v12 v13):=by
  unfold nk at h
  refine ac (ks':=[dr p92_1,dr p92_2,lu M w0 r m1,.b 0,dr [1,1,1]]) 3 ?_
  rcases au h with ⟨h5,h⟩ | ⟨h5,h⟩
  ·
   refine ak 20 h5 (ac (ks':=[dr p92_3,.b 1,lu M w0 r m1,.b 0,dr [1,1,1]]) 5 ?_)
   rcases au h with ⟨h6,h⟩ | ⟨h6,h⟩
   ·
    refine ak 23 h6 (ac (ks':=[dr p92_4,dr p92_5,.b 1,lu M w0 r m1,.b 0,dr [1,1,1]]) 2 (ai 7 ?_))
    obtain ⟨v14,h7,h⟩:=bind_some h
    exact eh 0 0 (sf hK h7) (ag (ah 1 (s9 hK hL1 h)))
   ·
    refine ak 23 h6 (ac (ks':=[dr p92_6,dr p92_7,.b 1,lu M w0 r m1,.b 0,dr [1,1,1]]) 2 (ai 11 ?_))
    obtain ⟨v15,h8,h⟩:=bind_some h
    exact eh 0 0 (sf hK h8) (ag (ah 1 (s9 hK hL1 h)))
  ·
   refine ak 20 h5 (ac (ks':=[dr [1,1,1]]) 5 (ai 7 ?_))
   obtain ⟨v19,h9,h⟩:=bind_some h
   refine eh 0 0 (sf hK h9) (ag (j4 ?_))
   cases h
   exact eI
theorem wK (hK:KnOk K) (m:Nat):H92_1 M w0 r v3 v5 m (km K n v3 v5 m):=by
  induction m with
 | zero=>intro v11 v12 v13 h; cases h
 | succ m ih=>intro v11 v12 v13 h; have h:nk K n v3 v5 (km K n v3 v5 m) v11 v12 v13=some r:=h; exact aW (ve hK ih h)
theorem w9 (hK:KnOk K) (h:ob K n v1 v2 v3 v4 v5=some r):AIO Try.prog 92 [.ref 0,iI v2,iI v3,iI v4,.fn v5.id v5.caps] 0 ⟨3,1,lm (eInt .i64) v1⟩ (fun v s=>v = .tup []∧look 0 s.r=some ⟨3,1,lm (eInt .i64) r⟩):=by
  refine j7 (c:=cat Try.f92 []) Try.func92 (by kernel_rfl) _ Try.ntmps92 (of_decide_eq_true (by kernel_rfl)) fun M w0=>(bg ⟨[(0,.ref 0),(1,iI v2),(2,iI v3),(3,iI v4),(4,.fn v5.id v5.caps)],[],[(0,⟨3,1,lm (eInt .i64) v1⟩)],[0,1000000]⟩ ?_)
  unfold ob at h
  exact ah 6 (bz (p:=p92_8) n (wK hK n h))
end
def p81_0:=pth 0 10101111
def p81_1:=pth 0 10101110100
def kZ:=pth 0 1010111
def p81_3:=pth 0 101011000
def p81_4:=pth 0 110101111
def p81_5:=pth 0 110101110100
def lX:=pth 0 11010111
def p81_7:=pth 0 1101011000
def mn:=pth 8 1
def p81_9:=pth 7 1000
def p81_10:=pth 0 1010111010001
def p81_11:=pth 0 101011101001
def p81_12:=pth 0 10101110100100
def p81_13:=pth 0 1010111010011
def p81_14:=pth 0 10101100001
def p81_15:=pth 0 1010110001
def p81_16:=pth 0 1010110001010
def p81_17:=pth 0 1010110001011
def p81_18:=pth 0 1010111010
def p81_19:=pth 0 11010111010001
def p81_20:=pth 0 1101011101001
def p81_21:=pth 0 110101110100100
def p81_22:=pth 0 11010111010011
def p81_23:=pth 0 110101100001
def p81_24:=pth 0 11010110001
def p81_25:=pth 0 11010110001010
def p81_26:=pth 0 11010110001011
def p81_27:=pth 0 11010111010
def p81_28:=pth 12 1
def p81_29:=pth 12 10
def p81_30:=pth 11 1
def p81_31:=pth 11 10
def p81_32:=pth 10 101
def p81_33:=pth 10 1010
def p81_34:=pth 10 1
def p81_35:=pth 10 100
def p81_36:=pth 9 101
def p81_37:=pth 9 1010
def p81_38:=pth 7 100001
def p81_39:=pth 7 10001
def p81_40:=pth 7 10001010
def p81_41:=pth 7 10001011
def p81_42:=pth 9 100
def p81_43:=pth 6 1
def p81_44:=pth 7 100
def p81_45:=pth 0 10101100
def p81_46:=pth 0 110101100
def p81_47:=pth 5 101
noncomputable section
abbrev cG (M:Nat→Prop) (w0:Base):Cx:=⟨Try.prog,220,M,w0⟩
abbrev q81 (M:Nat→Prop) (w0:Base) (r:List Int):=bodyPost Try.prog Try.f81 (RetQ M w0 (fun v s=>v = .tup []∧look 0 s.r=some ⟨3,1,lm (eInt .i64) r⟩))
abbrev aN (p:List Nat):Kont:=.c (cat Try.f81 p)
abbrev k81_2 (M:Nat→Prop) (w0:Base) (r:List Int) (m2:Nat):Kont:=kl (cG M w0) (q81 M w0 r) [.b 2,aN p81_0,aN [1]] (cat Try.f81 p81_1) m2
abbrev k81_1 (M:Nat→Prop) (w0:Base) (r:List Int) (m1:Nat):Kont:=kl (cG M w0) (q81 M w0 r) [.b 0,aN kZ,aN [1]] (cat Try.f81 p81_3) m1
abbrev k81_4 (M:Nat→Prop) (w0:Base) (r:List Int) (m4:Nat):Kont:=kl (cG M w0) (q81 M w0 r) [.b 6,aN p81_4,aN [1,1]] (cat Try.f81 p81_5) m4
abbrev k81_3 (M:Nat→Prop) (w0:Base) (r:List Int) (m3:Nat):Kont:=kl (cG M w0) (q81 M w0 r) [.b 4,aN lX,aN [1,1]] (cat Try.f81 p81_7) m3
abbrev k81_5 (M:Nat→Prop) (w0:Base) (r:List Int) (m5:Nat):Kont:=kl (cG M w0) (q81 M w0 r) [.b 8,aN mn] (cat Try.f81 p81_9) m5
def s81_j1 (v1:List Int) (v2:Int) (v5:Fv) (v14 v15:Int):AS:=⟨[(0,.ref 0),(1,iI v2),(4,.fn v5.id v5.caps),(10,iI v14),(11,iI v15)],[],[(0,⟨3,1,lm (eInt .i64) v1⟩)],[0,1000000,0]⟩
def s81_l3 (v10 v16:Int) (v17:List Int):AS:=⟨[(0,.ref 0),(10,iI v10),(13,iI v16)],[],[(0,⟨3,1,lm (eInt .i64) v17⟩)],[0,1000000,0]⟩
def s81_l2 (v1:List Int) (v2:Int) (v5:Fv) (v10 v11:Int):AS:=⟨[(0,.ref 0),(1,iI v2),(4,.fn v5.id v5.caps),(10,iI v10),(11,iI v11)],[],[(0,⟨3,1,lm (eInt .i64) v1⟩)],[0,1000000,0]⟩
def s81_j4 (v1:List Int) (v3:Int) (v5:Fv) (v26 v27:Int):AS:=⟨[(0,.ref 0),(2,iI v3),(4,.fn v5.id v5.caps),(14,iI v26),(15,iI v27)],[],[(0,⟨3,1,lm (eInt .i64) v1⟩)],[0,1000000,0]⟩
def s81_l6 (v22 v28:Int) (v29:List Int):AS:=⟨[(0,.ref 0),(14,iI v22),(17,iI v28)],[],[(0,⟨3,1,lm (eInt .i64) v29⟩)],[0,1000000,0]⟩
def s81_l5 (v1:List Int) (v3:Int) (v5:Fv) (v22 v23:Int):AS:=⟨[(0,.ref 0),(2,iI v3),(4,.fn v5.id v5.caps),(14,iI v22),(15,iI v23)],[],[(0,⟨3,1,lm (eInt .i64) v1⟩)],[0,1000000,0]⟩
def s81_j8 (v1:List Int) (v2 v3 v4:Int) (v5:Fv) (v30 v31 v43 v44:Int):AS:=⟨[(0,.ref 0),(1,iI v2),(2,iI v3),(3,iI v4),(4,.fn v5.id v5.caps),(18,iI v30),(19,iI v31),(20,iI v43),(21,iI v44),(22,iI (w64 (v31 - 1)))],[],[(0,⟨3,1,lm (eInt .i64) v1⟩)],[0,1000000,0]⟩
def s81_j15 (v53:List Int):AS:=⟨[],[],[(0,⟨3,1,lm (eInt .i64) v53⟩)],[0,1000000,0]⟩
def s81_j14 (v4:Int) (v5:Fv) (v30 v31 v39:Int) (v50:List Int) (v51:Bool):AS:=⟨[(0,.ref 0),(3,iI v4),(4,.fn v5.id v5.caps),(18,iI v30),(24,iI (w64 (v31 - v39))),(213,.bool v51)],[],[(0,⟨3,1,lm (eInt .i64) v50⟩)],[0,1000000,0]⟩
def s81_j13 (v4:Int) (v5:Fv) (v30 v31 v39:Int) (v50:List Int):AS:=⟨[(0,.ref 0),(3,iI v4),(4,.fn v5.id v5.caps),(18,iI v30),(24,iI (w64 (v31 - v39)))],[],[(0,⟨3,1,lm (eInt .i64) v50⟩)],[0,1000000,0]⟩
def s81_j12 (v2 v4:Int) (v5:Fv) (v30 v31 v39:Int) (v47:List Int) (v48:Bool):AS:=⟨[(0,.ref 0),(1,iI v2),(3,iI v4),(4,.fn v5.id v5.caps),(18,iI v30),(20,iI v39),(24,iI (w64 (v31 - v39))),(199,.bool v48)],[],[(0,⟨3,1,lm (eInt .i64) v47⟩)],[0,1000000,0]⟩
def s81_j11 (v2 v4:Int) (v5:Fv) (v30 v31 v39:Int) (v47:List Int):AS:=⟨[(0,.ref 0),(1,iI v2),(3,iI v4),(4,.fn v5.id v5.caps),(18,iI v30),(20,iI v39),(24,iI (w64 (v31 - v39)))],[],[(0,⟨3,1,lm (eInt .i64) v47⟩)],[0,1000000,0]⟩
def s81_j10 (v1:List Int) (v2 v3 v4:Int) (v5:Fv) (v30 v31 v39:Int) (v45:Bool):AS:=⟨[(0,.ref 0),(1,iI v2),(2,iI v3),(3,iI v4),(4,.fn v5.id v5.caps),(18,iI v30),(20,iI v39),(24,iI (w64 (v31 - v39))),(185,.bool v45)],[],[(0,⟨3,1,lm (eInt .i64) v1⟩)],[0,1000000,0]⟩
def s81_l9 (v1:List Int) (v2 v3 v4:Int) (v5:Fv) (v30 v31 v39 v40:Int):AS:=⟨[(0,.ref 0),(1,iI v2),(2,iI v3),(3,iI v4),(4,.fn v5.id v5.caps),(18,iI v30),(19,iI v31),(20,iI v39),(21,iI v40),(22,iI (w64 (v31 - 1)))],[],[(0,⟨3,1,lm (eInt .i64) v1⟩)],[0,1000000,0]⟩
def s81_j7 (v1:List Int) (v2 v3 v4:Int) (v5:Fv) (v30 v31 v33 v34:Int):AS:=⟨[(0,.ref 0),(1,iI v2),(2,iI v3),(3,iI v4),(4,.fn v5.id v5.caps),(18,iI v30),(19,iI v31),(20,iI v33),(21,iI v34)],[],[(0,⟨3,1,lm (eInt .i64) v1⟩)],[0,1000000,0]⟩
abbrev H81_1 (M:Nat→Prop) (w0:Base) (r v1:List Int) (v2:Int) (v5:Fv) (m1:Nat) (L1:Int→Int→Option (List Int)):Prop:=∀ {v10:Int} {v11:Int},L1 v10 v11=some r→LP (cG M w0) (q81 M w0 r) [.b 0,aN kZ,aN [1]] (cat Try.f81 p81_3) m1 (s81_l2 v1 v2 v5 v10 v11)
abbrev H81_2 (M:Nat→Prop) (w0:Base) (r:List Int) (v10:Int) (m2:Nat) (L2:Int→(List Int)→Option (List Int)):Prop:=∀ {v16:Int} {v17:(List Int)},L2 v16 v17=some r→LP (cG M w0) (q81 M w0 r) [.b 2,aN p81_0,aN [1]] (cat Try.f81 p81_1) m2 (s81_l3 v10 v16 v17)
abbrev H81_3 (M:Nat→Prop) (w0:Base) (r v1:List Int) (v3:Int) (v5:Fv) (m3:Nat) (L3:Int→Int→Option (List Int)):Prop:=∀ {v22:Int} {v23:Int},L3 v22 v23=some r→LP (cG M w0) (q81 M w0 r) [.b 4,aN lX,aN [1,1]] (cat Try.f81 p81_7) m3 (s81_l5 v1 v3 v5 v22 v23)
abbrev H81_4 (M:Nat→Prop) (w0:Base) (r:List Int) (v22:Int) (m4:Nat) (L4:Int→(List Int)→Option (List Int)):Prop:=∀ {v28:Int} {v29:(List Int)},L4 v28 v29=some r→LP (cG M w0) (q81 M w0 r) [.b 6,aN p81_4,aN [1,1]] (cat Try.f81 p81_5) m4 (s81_l6 v22 v28 v29)
abbrev H81_5 (M:Nat→Prop) (w0:Base) (r v1:List Int) (v2 v3 v4:Int) (v5:Fv) (v30 v31:Int) (m5:Nat) (L5:Int→Int→Option (List Int)):Prop:=∀ {v39:Int} {v40:Int},L5 v39 v40=some r→LP (cG M w0) (q81 M w0 r) [.b 8,aN mn] (cat Try.f81 p81_9) m5 (s81_l9 v1 v2 v3 v4 v5 v30 v31 v39 v40)
variable {K:Kn} {n:Nat} {M:Nat→Prop} {w0:Base} {r v1:List Int} {v2 v3 v4:Int} {v5:Fv} {v10 v11 v14 v15 v16:Int} {v17:List Int} {v22 v23 v26 v27 v28:Int} {v29:List Int} {v30 v31 v33 v34 v39 v40 v43 v44:Int} {v45:Bool} {v47:List Int} {v48:Bool} {v50:List Int} {v51:Bool} {v53:List Int} {m1:Nat} {L1:Int→Int→Option (List Int)} {m2:Nat} {L2:Int→(List Int)→Option (List Int)} {m3:Nat} {L3:Int→Int→Option (List Int)} {m4:Nat} {L4:Int→(List Int)→Option (List Int)} {m5:Nat} {L5:Int→Int→Option (List Int)}
theorem tN (hK:KnOk K) (hL1:H81_1 M w0 r v1 v2 v5 m1 L1) (h:ot K n v1 v2 v5 L1 v14 v15=some r):VE (cG M w0) (q81 M w0 r) [.b 1,k81_1 M w0 r m1,.b 0,aN kZ,aN [1]] .normal (s81_j1 v1 v2 v5 v14 v15):=by
  unfold ot at h
  exact ah 1 (aY (hL1 h))
theorem vm (hK:KnOk K) (hL2:H81_2 M w0 r v10 m2 L2) (h:oJ K n v10 L2 v16 v17=some r):VE (cG M w0) (q81 M w0 r) [aN p81_1,k81_2 M w0 r m2,.b 2,aN p81_0,aN [1]] .normal (s81_l3 v10 v16 v17):=by
  unfold oJ at h
  refine ac (ks':=[aN p81_10,aN p81_11,k81_2 M w0 r m2,.b 2,aN p81_0,aN [1]]) 3 ?_
  rcases au h with ⟨h19,h⟩ | ⟨h19,h⟩
  ·
   refine ak 58 h19 (ac (ks':=[aN p81_12,.b 3,aN p81_13,k81_2 M w0 r m2,.b 2,aN p81_0,aN [1]]) 4 (bt [0,10,13] [] [0] ?_))
   obtain ⟨h20,h⟩:=av h
   obtain ⟨h21,h⟩:=av h
   obtain ⟨h22,h⟩:=av h
   obtain ⟨h23,h⟩:=av h
   exact bE 2 (nu 61 [.ref 0,iI v16,.ref 0,iI v16,iI (w64 (v16+1)),.ref 0,iI v16,iI (w64 (v16+1)),.eptr 0 1 (((w64 (v16+1))).toNat) 0,iI (gD v17 ((w64 (v16+1)))),.ref 0,iI v16,.eptr 0 1 (v16.toNat) 0,iI (gD v17 v16),.eptr 0 1 (v16.toNat) 0,.eptr 0 1 (((w64 (v16+1))).toNat) 0]) [] [] [strS 0 ⟨3,1,lm (eInt .i64) (List.set v17 v16.toNat (gD v17 ((w64 (v16+1)))))⟩,strS 0 ⟨3,1,lm (eInt .i64) (List.set (List.set v17 v16.toNat (gD v17 ((w64 (v16+1))))) ((w64 (v16+1))).toNat (gD v17 v16))⟩] (az [.v 0 1,.v 0 1,.v 0 2,.v 0 2,.v 0 2,.v 0 1,.v 0 1,.v 0 1] (d_v (bv 0 1 (eInt .i64) (L:=v17) h20) (d_v (bj 3 0 (eInt .i64) (eInt .i64) (aI h20).2 (fun _=>rfl)) (az [.v 0 2,.v 0 2] (aj (k_v (lo:=0) (k:=2) (bW ⟨(by kernel_rfl),(cc (bv 0 1 (eInt .i64) (L:=v17) h21) (by kernel_rfl))⟩ (bW ⟨(by kernel_rfl),(cc (bv 0 1 (eInt .i64) (L:=(List.set v17 v16.toNat (gD v17 ((w64 (v16+1)))))) h21) (by kernel_rfl))⟩ dd))) (d_v (bj 3 0 (eInt .i64) (eInt .i64) (aI h22).2 (fun _=>rfl)) (d_v (bv 0 1 (eInt .i64) (L:=v17) h22) (aj (e_s (m:=0) (cq 0 3 1 0 (eInt .i64) (eInt .i64) (gD v17 ((w64 (v16+1)))) (aI h22).2 (fun _=>rfl))) (aj (e_v (lo:=1) (bv 0 1 (eInt .i64) (L:=(List.set v17 v16.toNat (gD v17 ((w64 (v16+1)))))) h23)) (aj (e_s (m:=1) (cq 0 3 1 0 (eInt .i64) (eInt .i64) (gD v17 v16) (aI h23).2 (fun _=>rfl))) bC)))))))))) (ah 2 (aY (hL2 h)))
  ·
   refine ak 58 h19 (aQ 7 ?_)
   cases h
   exact eI
theorem wT (hK:KnOk K) (m:Nat):H81_2 M w0 r v10 m (jb K n v10 m):=by
  induction m with
 | zero=>intro v16 v17 h; cases h
 | succ m ih=>intro v16 v17 h; have h:oJ K n v10 (jb K n v10 m) v16 v17=some r:=h; exact aW (vm hK ih h)
theorem vD (hK:KnOk K) (hL1:H81_1 M w0 r v1 v2 v5 m1 L1) (h:nI K n v1 v2 v5 L1 v10 v11=some r):VE (cG M w0) (q81 M w0 r) [aN p81_3,k81_1 M w0 r m1,.b 0,aN kZ,aN [1]] .normal (s81_l2 v1 v2 v5 v10 v11):=by
  unfold nI at h
  refine ac (ks':=[aN p81_14,aN p81_15,k81_1 M w0 r m1,.b 0,aN kZ,aN [1]]) 3 ?_
  rcases au h with ⟨h8,h⟩ | ⟨h8,h⟩
  ·
   refine ak 33 h8 ?_
   obtain ⟨v12,h9,h⟩:=bind_some h
   have h9:=Option.some.inj h9
   refine bq (ks':=[aN p81_16,aN p81_17,.b 1,k81_1 M w0 r m1,.b 0,aN kZ,aN [1]]) 6 ⟨[(0,.ref 0),(1,iI v2),(4,.fn v5.id v5.caps),(10,iI v10),(11,iI v11),(12,iI v12)],[],[(0,⟨3,1,lm (eInt .i64) v1⟩)],[0,1000000,0]⟩ ?_ (by subst h9; kernel_rfl)
   obtain ⟨h10,h⟩:=av h
   obtain ⟨h11,h⟩:=av h
   obtain ⟨v13,h12,h⟩:=bind_some h
   refine bE 0 (nu 40 [.fn v5.id v5.caps,.ref 0,iI v12,.eptr 0 1 (v12.toNat) 0,iI (gD v1 v12),.ref 0,iI v2,.eptr 0 1 (v2.toNat) 0,iI (gD v1 v2),iI v13,.bool (decide (v13<0))]) [] [] [] (az (vz 3) (d_v (bv 0 1 (eInt .i64) (L:=v1) h10) (d_v (bj 3 0 (eInt .i64) (eInt .i64) (aI h10).2 (fun _=>rfl)) (az (vz 2) (d_v (bv 0 1 (eInt .i64) (L:=v1) h11) (d_v (bj 3 0 (eInt .i64) (eInt .i64) (aI h11).2 (fun _=>rfl)) (aj (e_c 0 1 49 (hK.dP h12).2 (hK.dP h12).1) (az [.v 0 1] bC)))))))) ?_
   rcases au h with ⟨h13,h⟩ | ⟨h13,h⟩
   ·
    exact ak 50 h13 (ah 2 (tN hK hL1 h))
   ·
    exact ak 50 h13 (ah 2 (tN hK hL1 h))
  ·
   exact ak 33 h8 (ah 9 (bz (p:=p81_18) n (wT hK n h)))
theorem vY (hK:KnOk K) (m:Nat):H81_1 M w0 r v1 v2 v5 m (ln K n v1 v2 v5 m):=by
  induction m with
 | zero=>intro v10 v11 h; cases h
 | succ m ih=>intro v10 v11 h; have h:nI K n v1 v2 v5 (ln K n v1 v2 v5 m) v10 v11=some r:=h; exact aW (vD hK ih h)
theorem tp (hK:KnOk K) (hL3:H81_3 M w0 r v1 v3 v5 m3 L3) (h:nU K n v1 v3 v5 L3 v26 v27=some r):VE (cG M w0) (q81 M w0 r) [.b 5,k81_3 M w0 r m3,.b 4,aN lX,aN [1,1]] .normal (s81_j4 v1 v3 v5 v26 v27):=by
  unfold nU at h
  exact ah 1 (aY (hL3 h))
theorem wa (hK:KnOk K) (hL4:H81_4 M w0 r v22 m4 L4) (h:nW K n v22 L4 v28 v29=some r):VE (cG M w0) (q81 M w0 r) [aN p81_5,k81_4 M w0 r m4,.b 6,aN p81_4,aN [1,1]] .normal (s81_l6 v22 v28 v29):=by
  unfold nW at h
  refine ac (ks':=[aN p81_19,aN p81_20,k81_4 M w0 r m4,.b 6,aN p81_4,aN [1,1]]) 3 ?_
  rcases au h with ⟨h42,h⟩ | ⟨h42,h⟩
  ·
   refine ak 110 h42 (ac (ks':=[aN p81_21,.b 7,aN p81_22,k81_4 M w0 r m4,.b 6,aN p81_4,aN [1,1]]) 4 (bt [0,14,17] [] [0] ?_))
   obtain ⟨h43,h⟩:=av h
   obtain ⟨h44,h⟩:=av h
   obtain ⟨h45,h⟩:=av h
   obtain ⟨h46,h⟩:=av h
   exact bE 2 (nu 113 [.ref 0,iI v28,.ref 0,iI v28,iI (w64 (v28 - 1)),.ref 0,iI v28,iI (w64 (v28 - 1)),.eptr 0 1 (((w64 (v28 - 1))).toNat) 0,iI (gD v29 ((w64 (v28 - 1)))),.ref 0,iI v28,.eptr 0 1 (v28.toNat) 0,iI (gD v29 v28),.eptr 0 1 (v28.toNat) 0,.eptr 0 1 (((w64 (v28 - 1))).toNat) 0]) [] [] [strS 0 ⟨3,1,lm (eInt .i64) (List.set v29 v28.toNat (gD v29 ((w64 (v28 - 1)))))⟩,strS 0 ⟨3,1,lm (eInt .i64) (List.set (List.set v29 v28.toNat (gD v29 ((w64 (v28 - 1))))) ((w64 (v28 - 1))).toNat (gD v29 v28))⟩] (az [.v 0 1,.v 0 1,.v 0 2,.v 0 2,.v 0 2,.v 0 1,.v 0 1,.v 0 1] (d_v (bv 0 1 (eInt .i64) (L:=v29) h43) (d_v (bj 3 0 (eInt .i64) (eInt .i64) (aI h43).2 (fun _=>rfl)) (az [.v 0 2,.v 0 2] (aj (k_v (lo:=0) (k:=2) (bW ⟨(by kernel_rfl),(cc (bv 0 1 (eInt .i64) (L:=v29) h44) (by kernel_rfl))⟩ (bW ⟨(by kernel_rfl),(cc (bv 0 1 (eInt .i64) (L:=(List.set v29 v28.toNat (gD v29 ((w64 (v28 - 1)))))) h44) (by kernel_rfl))⟩ dd))) (d_v (bj 3 0 (eInt .i64) (eInt .i64) (aI h45).2 (fun _=>rfl)) (d_v (bv 0 1 (eInt .i64) (L:=v29) h45) (aj (e_s (m:=0) (cq 0 3 1 0 (eInt .i64) (eInt .i64) (gD v29 ((w64 (v28 - 1)))) (aI h45).2 (fun _=>rfl))) (aj (e_v (lo:=1) (bv 0 1 (eInt .i64) (L:=(List.set v29 v28.toNat (gD v29 ((w64 (v28 - 1)))))) h46)) (aj (e_s (m:=1) (cq 0 3 1 0 (eInt .i64) (eInt .i64) (gD v29 v28) (aI h46).2 (fun _=>rfl))) bC)))))))))) (ah 2 (aY (hL4 h)))
  ·
   refine ak 110 h42 (aQ 7 ?_)
   cases h
   exact eI
theorem wM (hK:KnOk K) (m:Nat):H81_4 M w0 r v22 m (jh K n v22 m):=by
  induction m with
 | zero=>intro v28 v29 h; cases h
 | succ m ih=>intro v28 v29 h; have h:nW K n v22 (jh K n v22 m) v28 v29=some r:=h; exact aW (wa hK ih h)
theorem w3 (hK:KnOk K) (hL3:H81_3 M w0 r v1 v3 v5 m3 L3) (h:pk K n v1 v3 v5 L3 v22 v23=some r):VE (cG M w0) (q81 M w0 r) [aN p81_7,k81_3 M w0 r m3,.b 4,aN lX,aN [1,1]] .normal (s81_l5 v1 v3 v5 v22 v23):=by
  unfold pk at h
  refine ac (ks':=[aN p81_23,aN p81_24,k81_3 M w0 r m3,.b 4,aN lX,aN [1,1]]) 3 ?_
  rcases au h with ⟨h31,h⟩ | ⟨h31,h⟩
  ·
   refine ak 85 h31 ?_
   obtain ⟨v24,h32,h⟩:=bind_some h
   have h32:=Option.some.inj h32
   refine bq (ks':=[aN p81_25,aN p81_26,.b 5,k81_3 M w0 r m3,.b 4,aN lX,aN [1,1]]) 6 ⟨[(0,.ref 0),(2,iI v3),(4,.fn v5.id v5.caps),(14,iI v22),(15,iI v23),(16,iI v24)],[],[(0,⟨3,1,lm (eInt .i64) v1⟩)],[0,1000000,0]⟩ ?_ (by subst h32; kernel_rfl)
   obtain ⟨h33,h⟩:=av h
   obtain ⟨h34,h⟩:=av h
   obtain ⟨v25,h35,h⟩:=bind_some h
   refine bE 0 (nu 92 [.fn v5.id v5.caps,.ref 0,iI v3,.eptr 0 1 (v3.toNat) 0,iI (gD v1 v3),.ref 0,iI v24,.eptr 0 1 (v24.toNat) 0,iI (gD v1 v24),iI v25,.bool (decide (v25<0)),.bool (!(decide (v25<0)))]) [] [] [] (az (vz 3) (d_v (bv 0 1 (eInt .i64) (L:=v1) h33) (d_v (bj 3 0 (eInt .i64) (eInt .i64) (aI h33).2 (fun _=>rfl)) (az (vz 2) (d_v (bv 0 1 (eInt .i64) (L:=v1) h34) (d_v (bj 3 0 (eInt .i64) (eInt .i64) (aI h34).2 (fun _=>rfl)) (aj (e_c 0 1 101 (hK.dP h35).2 (hK.dP h35).1) (az (vz 2) bC)))))))) ?_
   rcases au h with ⟨h36,h⟩ | ⟨h36,h⟩
   ·
    exact ak 103 h36 (ah 2 (tp hK hL3 h))
   ·
    exact ak 103 h36 (ah 2 (tp hK hL3 h))
  ·
   exact ak 85 h31 (ah 9 (bz (p:=p81_27) n (wM hK n h)))
theorem w7 (hK:KnOk K) (m:Nat):H81_3 M w0 r v1 v3 v5 m (kQ K n v1 v3 v5 m):=by
  induction m with
 | zero=>intro v22 v23 h; cases h
 | succ m ih=>intro v22 v23 h; have h:pk K n v1 v3 v5 (kQ K n v1 v3 v5 m) v22 v23=some r:=h; exact aW (w3 hK ih h)
theorem t6 (hK:KnOk K) (hL5:H81_5 M w0 r v1 v2 v3 v4 v5 v30 v31 m5 L5) (h:pC K n v1 v2 v3 v4 v5 v30 v31 L5 v43 v44=some r):VE (cG M w0) (q81 M w0 r) [.b 9,k81_5 M w0 r m5,.b 8,aN mn] .normal (s81_j8 v1 v2 v3 v4 v5 v30 v31 v43 v44):=by
  unfold pC at h
  exact ah 1 (aY (hL5 h))
theorem ul (hK:KnOk K) (h:n7 K n v53=some r):VE (cG M w0) (q81 M w0 r) [] .normal (s81_j15 v53):=by
  unfold n7 at h
  refine j4 ?_
  cases h
  exact eI
theorem tV (hK:KnOk K) (h:kj K n v4 v5 v30 v31 v39 v50 v51=some r):VE (cG M w0) (q81 M w0 r) [aN p81_28] .normal (s81_j14 v4 v5 v30 v31 v39 v50 v51):=by
  unfold kj at h
  rcases au h with ⟨h70,h⟩ | ⟨h70,h⟩
  ·
   refine ak 213 h70 (ac (ks':=[aN p81_29]) 1 (ai 5 ?_))
   obtain ⟨v52,h71,h⟩:=bind_some h
   exact eh 0 0 (hK.fT h71) (ag (ah 0 (ul hK h)))
  ·
   exact ak 213 h70 (ah 2 (ul hK h))
theorem tr (hK:KnOk K) (h:gi K n v4 v5 v30 v31 v39 v50=some r):VE (cG M w0) (q81 M w0 r) [aN p81_30] .normal (s81_j13 v4 v5 v30 v31 v39 v50):=by
  unfold gi at h
  refine ac (ks':=[aN p81_31,aN p81_28]) 1 (ai 4 ?_)
  rcases au h with ⟨h69,h⟩ | ⟨h69,h⟩
  ·
   exact aL 209 h69 (ag (ah 0 (tV hK h)))
  ·
   exact aL 209 h69 (ag (ah 0 (tV hK h)))
theorem s6 (hK:KnOk K) (h:mr K n v2 v4 v5 v30 v31 v39 v47 v48=some r):VE (cG M w0) (q81 M w0 r) [aN p81_32,aN p81_30] .normal (s81_j12 v2 v4 v5 v30 v31 v39 v47 v48):=by
  unfold mr at h
  rcases au h with ⟨h67,h⟩ | ⟨h67,h⟩
  ·
   refine ak 199 h67 (ac (ks':=[aN p81_33,aN p81_30]) 1 (ai 5 ?_))
   obtain ⟨v49,h68,h⟩:=bind_some h
   exact eh 0 0 (hK.fT h68) (ag (ah 0 (tr hK h)))
  ·
   exact ak 199 h67 (ah 2 (tr hK h))
theorem tU (hK:KnOk K) (h:jB K n v2 v4 v5 v30 v31 v39 v47=some r):VE (cG M w0) (q81 M w0 r) [aN p81_34] .normal (s81_j11 v2 v4 v5 v30 v31 v39 v47):=by
  unfold jB at h
  refine ac (ks':=[aN p81_35,aN p81_32,aN p81_30]) 2 (ai 4 ?_)
  rcases au h with ⟨h66,h⟩ | ⟨h66,h⟩
  ·
   exact aL 195 h66 (ag (ah 0 (s6 hK h)))
  ·
   exact aL 195 h66 (ag (ah 0 (s6 hK h)))
theorem sU (hK:KnOk K) (h:eJ K n v1 v2 v3 v4 v5 v30 v31 v39 v45=some r):VE (cG M w0) (q81 M w0 r) [aN p81_36,aN p81_34] .normal (s81_j10 v1 v2 v3 v4 v5 v30 v31 v39 v45):=by
  unfold eJ at h
  rcases au h with ⟨h64,h⟩ | ⟨h64,h⟩
  ·
   refine ak 185 h64 (ac (ks':=[aN p81_37,aN p81_34]) 1 (ai 5 ?_))
   obtain ⟨v46,h65,h⟩:=bind_some h
   exact eh 0 0 (w9 hK h65) (ag (ah 0 (tU hK h)))
  ·
   exact ak 185 h64 (ah 2 (tU hK h))
theorem vk (hK:KnOk K) (hL5:H81_5 M w0 r v1 v2 v3 v4 v5 v30 v31 m5 L5) (h:o8 K n v1 v2 v3 v4 v5 v30 v31 L5 v39 v40=some r):VE (cG M w0) (q81 M w0 r) [aN p81_9,k81_5 M w0 r m5,.b 8,aN mn] .normal (s81_l9 v1 v2 v3 v4 v5 v30 v31 v39 v40):=by
  unfold o8 at h
  refine ac (ks':=[aN p81_38,aN p81_39,k81_5 M w0 r m5,.b 8,aN mn]) 3 ?_
  rcases au h with ⟨h57,h⟩ | ⟨h57,h⟩
  ·
   refine ak 151 h57 ?_
   obtain ⟨v41,h58,h⟩:=bind_some h
   have h58:=Option.some.inj h58
   refine bq (ks':=[aN p81_40,aN p81_41,.b 9,k81_5 M w0 r m5,.b 8,aN mn]) 6 ⟨[(0,.ref 0),(1,iI v2),(2,iI v3),(3,iI v4),(4,.fn v5.id v5.caps),(18,iI v30),(19,iI v31),(20,iI v39),(21,iI v40),(22,iI (w64 (v31 - 1))),(23,iI v41)],[],[(0,⟨3,1,lm (eInt .i64) v1⟩)],[0,1000000,0]⟩ ?_ (by subst h58; kernel_rfl)
   obtain ⟨h59,h⟩:=av h
   obtain ⟨h60,h⟩:=av h
   obtain ⟨v42,h61,h⟩:=bind_some h
   refine bE 0 (nu 158 [.fn v5.id v5.caps,.ref 0,iI (w64 (v31 - 1)),iI v41,iI (w64 ((w64 (v31 - 1)) - v41)),.eptr 0 1 (((w64 ((w64 (v31 - 1)) - v41))).toNat) 0,iI (gD v1 ((w64 ((w64 (v31 - 1)) - v41)))),.ref 0,iI v41,.eptr 0 1 (v41.toNat) 0,iI (gD v1 v41),iI v42,.bool (decide (v42<0)),.bool (!(decide (v42<0)))]) [] [] [] (az (vz 5) (d_v (bv 0 1 (eInt .i64) (L:=v1) h59) (d_v (bj 3 0 (eInt .i64) (eInt .i64) (aI h59).2 (fun _=>rfl)) (az (vz 2) (d_v (bv 0 1 (eInt .i64) (L:=v1) h60) (d_v (bj 3 0 (eInt .i64) (eInt .i64) (aI h60).2 (fun _=>rfl)) (aj (e_c 0 1 169 (hK.dP h61).2 (hK.dP h61).1) (az (vz 2) bC)))))))) ?_
   rcases au h with ⟨h62,h⟩ | ⟨h62,h⟩
   ·
    exact ak 171 h62 (ah 2 (t6 hK hL5 h))
   ·
    exact ak 171 h62 (ah 2 (t6 hK hL5 h))
  ·
   refine ak 151 h57 (ac (ks':=[aN p81_42,aN p81_36,aN p81_34]) 9 (ai 4 ?_))
   rcases au h with ⟨h63,h⟩ | ⟨h63,h⟩
   ·
    exact aL 181 h63 (ag (ah 0 (sU hK h)))
   ·
    exact aL 181 h63 (ag (ah 0 (sU hK h)))
theorem xo (hK:KnOk K) (m:Nat):H81_5 M w0 r v1 v2 v3 v4 v5 v30 v31 m (iU K n v1 v2 v3 v4 v5 v30 v31 m):=by
  induction m with
 | zero=>intro v39 v40 h; cases h
 | succ m ih=>intro v39 v40 h; have h:o8 K n v1 v2 v3 v4 v5 v30 v31 (iU K n v1 v2 v3 v4 v5 v30 v31 m) v39 v40=some r:=h; exact aW (vk hK ih h)
theorem sF (hK:KnOk K) (h:lN K n v1 v2 v3 v4 v5 v30 v31 v33 v34=some r):VE (cG M w0) (q81 M w0 r) [aN p81_43] .normal (s81_j7 v1 v2 v3 v4 v5 v30 v31 v33 v34):=by
  unfold lN at h
  exact ah 4 (bz (p:=p81_44) n (xo hK n h))
theorem rA (hK:KnOk K) (h:fg K n v1 v2 v3 v4 v5=some r):AIO Try.prog 81 [.ref 0,iI v2,iI v3,iI v4,.fn v5.id v5.caps] 0 ⟨3,1,lm (eInt .i64) v1⟩ (fun v s=>v = .tup []∧look 0 s.r=some ⟨3,1,lm (eInt .i64) r⟩):=by
  refine j7 (c:=cat Try.f81 []) Try.func81 (by kernel_rfl) _ Try.ntmps81 (of_decide_eq_true (by kernel_rfl)) fun M w0=>(bg ⟨[(0,.ref 0),(1,iI v2),(2,iI v3),(3,iI v4),(4,.fn v5.id v5.caps)],[],[(0,⟨3,1,lm (eInt .i64) v1⟩)],[0,1000000]⟩ ?_)
  unfold fg at h
  refine ac (ks':=[aN [0,1],aN [1]]) 3 ?_
  rcases au h with ⟨h1,h⟩ | ⟨h1,h⟩
  ·
   exact ak 28 h1 (ah 7 (bz (p:=p81_45) n (vY hK n h)))
  ·
   refine ak 28 h1 (ac (ks':=[aN [1,0,1],aN [1,1]]) 5 ?_)
   rcases au h with ⟨h24,h⟩ | ⟨h24,h⟩
   ·
    exact ak 80 h24 (ah 7 (bz (p:=p81_46) n (w7 hK n h)))
   ·
    refine ak 80 h24 ?_
    obtain ⟨v30,h47,h⟩:=bind_some h
    have h47:=Option.some.inj h47
    obtain ⟨v31,h48,h⟩:=bind_some h
    have h48:=Option.some.inj h48
    obtain ⟨v32,h49,h⟩:=bind_some h
    have h49:=Option.some.inj h49
    refine bq (ks':=[aN p81_47,aN p81_43]) 11 ⟨[(0,.ref 0),(1,iI v2),(2,iI v3),(3,iI v4),(4,.fn v5.id v5.caps),(18,iI v30),(19,iI v31),(140,.bool v32)],[],[(0,⟨3,1,lm (eInt .i64) v1⟩)],[0,1000000,0]⟩ ?_ (by subst h49; subst h48; subst h47; kernel_rfl)
    rcases au h with ⟨h50,h⟩ | ⟨h50,h⟩
    ·
     exact ak 140 h50 (ah 4 (sF hK h))
    ·
     exact ak 140 h50 (ah 4 (sF hK h))
end
def p73_0:=pth 0 1111100
def p73_1:=pth 0 111000
def p73_2:=pth 0 11111001011
def p73_3:=pth 0 1111100101000
def p73_4:=pth 0 111110010111
def p73_5:=pth 0 111110010100001
def p73_6:=pth 0 11111001010001
def p73_7:=pth 0 1111100101000100
def p73_8:=pth 0 1111100101000101
def p73_9:=pth 0 11111001011011
def p73_10:=pth 0 111110010110110
def p73_11:=pth 0 111110001
def p73_12:=pth 0 11111001
def p73_13:=pth 0 111110010100
def p73_14:=pth 0 11100001
def p73_15:=pth 0 1110001
def p73_16:=pth 0 111000100
def p73_17:=pth 0 111000101
def p73_18:=pth 0 11110
def p73_19:=pth 0 11111
def p73_20:=pth 0 111110
def p73_21:=pth 0 11100
noncomputable section
abbrev fG (M:Nat→Prop) (w0:Base):Cx:=⟨Try.prog,63,M,w0⟩
abbrev q73 (M:Nat→Prop) (w0:Base) (r:List Int):=bodyPost Try.prog Try.f73 (RetQ M w0 (fun v s=>v = .tup []∧look 0 s.r=some ⟨3,1,lm (eInt .i64) r⟩))
abbrev fX (M:Nat→Prop) (w0:Base) (r:List Int) (m2:Nat):Kont:=kl (fG M w0) (q73 M w0 r) [.b 2] (cat Try.f73 p73_0) m2
abbrev cw (p:List Nat):Kont:=.c (cat Try.f73 p)
abbrev k73_1 (M:Nat→Prop) (w0:Base) (r:List Int) (m1:Nat):Kont:=kl (fG M w0) (q73 M w0 r) [.b 0,cw [1,1,1]] (cat Try.f73 p73_1) m1
abbrev k73_3 (M:Nat→Prop) (w0:Base) (r:List Int) (m2 m3:Nat):Kont:=kl (fG M w0) (q73 M w0 r) [.b 4,cw p73_2,.b 3,fX M w0 r m2,.b 2] (cat Try.f73 p73_3) m3
def s73_j3 (v2:Int) (v3:Fv) (v17:Int) (v25:List Int):AS:=⟨[(0,.ref 0),(1,iI v2),(2,.fn v3.id v3.caps),(6,iI v17)],[],[(0,⟨3,1,lm (eInt .i64) v25⟩)],[0,1000000,0]⟩
def s73_l2 (v2:Int) (v3:Fv) (v17 v20 v21:Int) (v22:List Int):AS:=⟨[(0,.ref 0),(1,iI v2),(2,.fn v3.id v3.caps),(6,iI v17),(7,iI v20),(8,iI v21)],[],[(0,⟨3,1,lm (eInt .i64) v22⟩)],[0,1000000,0]⟩
def s73_l4 (v2:Int) (v3:Fv) (v17:Int) (v18:List Int):AS:=⟨[(0,.ref 0),(1,iI v2),(2,.fn v3.id v3.caps),(6,iI v17)],[],[(0,⟨3,1,lm (eInt .i64) v18⟩)],[0,1000000,0]⟩
def s73_l1 (v2:Int) (v3:Fv) (v5 v6:Int) (v7:List Int):AS:=⟨[(0,.ref 0),(1,iI v2),(2,.fn v3.id v3.caps),(6,iI 20),(7,iI v5),(8,iI v6)],[],[(0,⟨3,1,lm (eInt .i64) v7⟩)],[0,1000000,0]⟩
abbrev H73_1 (M:Nat→Prop) (w0:Base) (r:List Int) (v2:Int) (v3:Fv) (m1:Nat) (L1:Int→Int→(List Int)→Option (List Int)):Prop:=∀ {v5:Int} {v6:Int} {v7:(List Int)},L1 v5 v6 v7=some r→LP (fG M w0) (q73 M w0 r) [.b 0,cw [1,1,1]] (cat Try.f73 p73_1) m1 (s73_l1 v2 v3 v5 v6 v7)
abbrev H73_2 (M:Nat→Prop) (w0:Base) (r:List Int) (v2:Int) (v3:Fv) (m2:Nat) (L2:Int→(List Int)→Option (List Int)):Prop:=∀ {v17:Int} {v18:(List Int)},L2 v17 v18=some r→LP (fG M w0) (q73 M w0 r) [.b 2] (cat Try.f73 p73_0) m2 (s73_l4 v2 v3 v17 v18)
abbrev H73_3 (M:Nat→Prop) (w0:Base) (r:List Int) (v2:Int) (v3:Fv) (v17:Int) (m2 m3:Nat) (L3:Int→Int→(List Int)→Option (List Int)):Prop:=∀ {v20:Int} {v21:Int} {v22:(List Int)},L3 v20 v21 v22=some r→LP (fG M w0) (q73 M w0 r) [.b 4,cw p73_2,.b 3,fX M w0 r m2,.b 2] (cat Try.f73 p73_3) m3 (s73_l2 v2 v3 v17 v20 v21 v22)
variable {K:Kn} {n:Nat} {M:Nat→Prop} {w0:Base} {r v1:List Int} {v2:Int} {v3:Fv} {v5 v6:Int} {v7:List Int} {v17:Int} {v18:List Int} {v20 v21:Int} {v22 v25:List Int} {m1:Nat} {L1:Int→Int→(List Int)→Option (List Int)} {m2:Nat} {L2:Int→(List Int)→Option (List Int)} {m3:Nat} {L3:Int→Int→(List Int)→Option (List Int)}
theorem t7 (hK:KnOk K) (hL2:H73_2 M w0 r v2 v3 m2 L2) (h:nD K n v2 v3 v17 L2 v25=some r):VE (fG M w0) (q73 M w0 r) [cw p73_4,.b 3,fX M w0 r m2,.b 2] .normal (s73_j3 v2 v3 v17 v25):=by
  unfold nD at h
  exact ah 2 (aY (hL2 h))
theorem wj (hK:KnOk K) (hL2:H73_2 M w0 r v2 v3 m2 L2) (hL3:H73_3 M w0 r v2 v3 v17 m2 m3 L3) (h:nt K n v2 v3 v17 L2 L3 v20 v21 v22=some r):VE (fG M w0) (q73 M w0 r) [cw p73_3,k73_3 M w0 r m2 m3,.b 4,cw p73_2,.b 3,fX M w0 r m2,.b 2] .normal (s73_l2 v2 v3 v17 v20 v21 v22):=by
  unfold nt at h
  refine ac (ks':=[cw p73_5,cw p73_6,k73_3 M w0 r m2 m3,.b 4,cw p73_2,.b 3,fX M w0 r m2,.b 2]) 3 ?_
  rcases au h with ⟨h16,h⟩ | ⟨h16,h⟩
  ·
   refine ak 35 h16 (ac (ks':=[cw p73_7,cw p73_8,.b 5,k73_3 M w0 r m2 m3,.b 4,cw p73_2,.b 3,fX M w0 r m2,.b 2]) 4 (ai 7 ?_))
   obtain ⟨v23,h17,h⟩:=bind_some h
   exact eh 0 0 (rA hK h17) (ag (ah 4 (aY (hL3 h))))
  ·
   refine ak 35 h16 (ac (ks':=[cw p73_9,cw p73_4,.b 3,fX M w0 r m2,.b 2]) 10 ?_)
   rcases au h with ⟨h18,h⟩ | ⟨h18,h⟩
   ·
    refine ak 54 h18 (ac (ks':=[cw p73_10,cw p73_4,.b 3,fX M w0 r m2,.b 2]) 1 (ai 5 ?_))
    obtain ⟨v24,h19,h⟩:=bind_some h
    exact eh 0 0 (rA hK h19) (ag (ah 0 (t7 hK hL2 h)))
   ·
    exact ak 54 h18 (ah 2 (t7 hK hL2 h))
theorem xD (hK:KnOk K) (hL2:H73_2 M w0 r v2 v3 m2 L2) (m:Nat):H73_3 M w0 r v2 v3 v17 m2 m (kv K n v2 v3 v17 L2 m):=by
  induction m with
 | zero=>intro v20 v21 v22 h; cases h
 | succ m ih=>intro v20 v21 v22 h; have h:nt K n v2 v3 v17 L2 (kv K n v2 v3 v17 L2 m) v20 v21 v22=some r:=h; exact aW (wj hK hL2 ih h)
theorem xr (hK:KnOk K) (hL2:H73_2 M w0 r v2 v3 m2 L2) (h:mY K n v2 v3 L2 v17 v18=some r):VE (fG M w0) (q73 M w0 r) [cw p73_0,fX M w0 r m2,.b 2] .normal (s73_l4 v2 v3 v17 v18):=by
  unfold mY at h
  refine ac (ks':=[cw p73_11,cw p73_12,fX M w0 r m2,.b 2]) 3 ?_
  rcases au h with ⟨h13,h⟩ | ⟨h13,h⟩
  ·
   exact ak 30 h13 (ah 7 (bz (p:=p73_13) n (xD hK hL2 n h)))
  ·
   refine ak 30 h13 (ac (ks':=[]) 5 (j4 ?_))
   cases h
   exact eI
theorem xE (hK:KnOk K) (m:Nat):H73_2 M w0 r v2 v3 m (ia K n v2 v3 m):=by
  induction m with
 | zero=>intro v17 v18 h; cases h
 | succ m ih=>intro v17 v18 h; have h:mY K n v2 v3 (ia K n v2 v3 m) v17 v18=some r:=h; exact aW (xr hK ih h)
theorem vf (hK:KnOk K) (hL1:H73_1 M w0 r v2 v3 m1 L1) (h:nQ K n v2 v3 L1 v5 v6 v7=some r):VE (fG M w0) (q73 M w0 r) [cw p73_1,k73_1 M w0 r m1,.b 0,cw [1,1,1]] .normal (s73_l1 v2 v3 v5 v6 v7):=by
  unfold nQ at h
  refine ac (ks':=[cw p73_14,cw p73_15,k73_1 M w0 r m1,.b 0,cw [1,1,1]]) 3 ?_
  rcases au h with ⟨h3,h⟩ | ⟨h3,h⟩
  ·
   refine ak 13 h3 (ac (ks':=[cw p73_16,cw p73_17,.b 1,k73_1 M w0 r m1,.b 0,cw [1,1,1]]) 4 (ai 4 ?_))
   obtain ⟨v8,h4,h⟩:=bind_some h
   exact eh 0 0 (tz hK h4) (ag (ah 4 (aY (hL1 h))))
  ·
   refine ak 13 h3 (ac (ks':=[cw p73_18,cw p73_19]) 6 (ai 4 ?_))
   obtain ⟨v9,h5,h⟩:=bind_some h
   exact eh 0 0 (tz hK h5) (ag (ah 1 (bz (p:=p73_20) n (xE hK n h))))
theorem uN (hK:KnOk K) (m:Nat):H73_1 M w0 r v2 v3 m (lj K n v2 v3 m):=by
  induction m with
 | zero=>intro v5 v6 v7 h; cases h
 | succ m ih=>intro v5 v6 v7 h; have h:nQ K n v2 v3 (lj K n v2 v3 m) v5 v6 v7=some r:=h; exact aW (vf hK ih h)
theorem xB (hK:KnOk K) (h:pZ K n v1 v2 v3=some r):AIO Try.prog 73 [.ref 0,iI v2,.fn v3.id v3.caps] 0 ⟨3,1,lm (eInt .i64) v1⟩ (fun v s=>v = .tup []∧look 0 s.r=some ⟨3,1,lm (eInt .i64) r⟩):=by
  refine j7 (c:=cat Try.f73 []) Try.func73 (by kernel_rfl) _ Try.ntmps73 (of_decide_eq_true (by kernel_rfl)) fun M w0=>(bg ⟨[(0,.ref 0),(1,iI v2),(2,.fn v3.id v3.caps)],[],[(0,⟨3,1,lm (eInt .i64) v1⟩)],[0,1000000]⟩ ?_)
  unfold pZ at h
  exact ah 6 (bz (p:=p73_21) n (uN hK n h))
end
noncomputable section
variable {K:Kn} {n:Nat} {M:Nat→Prop} {w0:Base} {r v1:List Int} {v2:Fv} 
theorem te (hK:KnOk K) (h:gh K n v1 v2=some r):AIO Try.prog 58 [.ref 0,.fn v2.id v2.caps] 0 ⟨3,1,lm (eInt .i64) v1⟩ (fun v s=>v = .tup []∧look 0 s.r=some ⟨3,1,lm (eInt .i64) r⟩):=by
  refine j7 (c:=cat Try.f58 []) Try.func58 (by kernel_rfl) _ Try.ntmps58 (of_decide_eq_true (by kernel_rfl)) fun M w0=>(bg ⟨[(0,.ref 0),(1,.fn v2.id v2.caps)],[],[(0,⟨3,1,lm (eInt .i64) v1⟩)],[0,1000000]⟩ ?_)
  unfold gh at h
  refine ai 2 (aq (aZ (eInt .i64) v1) (aV 4 1 ?_))
  obtain ⟨v3,h1,h⟩:=bind_some h
  refine eh 0 0 (xB hK h1) (ag (j4 ?_))
  cases h
  exact eI
end
noncomputable section
variable {K:Kn} {n:Nat} {M:Nat→Prop} {w0:Base} {r:Bool} {v1:Int} 
theorem tL (hK:KnOk K) (h:kR K n v1=some r):ACalls Try.prog 74 [iI v1] (fun v _=>v = .bool r):=by
  refine bo (cat Try.f74 []) Try.func74 Try.ntmps74 fun M w0=>(bg ⟨[(0,iI v1)],[],[],[]⟩ ?_)
  unfold kR at h
  refine aQ 5 ?_
  cases h
  exact bF
end
def p60_0:=pth 0 111101
def p60_1:=pth 0 11111
def p60_2:=pth 0 111101001
def p60_3:=pth 0 11110101
def p60_4:=pth 0 1111101
def p60_5:=pth 5 1
def p60_6:=pth 5 101
def p60_7:=pth 6 1
def p60_8:=pth 6 101
def p60_9:=pth 7 1
noncomputable section
variable {K:Kn} {n:Nat} {M:Nat→Prop} {w0:Base} {r v1 v2:Int} 
abbrev dR (p:List Nat):Kont:=.c (cat Try.f60 p)
theorem sV (hK:KnOk K) (h:j2 K n v1 v2=some r):ACalls Try.prog 60 [iI v1,iI v2] (fun v _=>v=iI r):=by
  refine bo (cat Try.f60 []) Try.func60 Try.ntmps60 fun M w0=>(bg ⟨[(0,iI v1),(1,iI v2)],[],[],[]⟩ ?_)
  unfold j2 at h
  refine ac (ks':=[dR [1,0],dR [1,1]]) 3 (ai 1 ?_)
  obtain ⟨v3,h1,h⟩:=bind_some h
  refine aR (tL hK h1) (ag (ac (ks':=[dR [1,1,0],dR [1,1,1]]) 1 (ai 1 ?_)))
  obtain ⟨v4,h2,h⟩:=bind_some h
  refine aR (tL hK h2) (ag (ac (ks':=[dR p60_0,dR p60_1]) 3 ?_))
  rcases au h with ⟨h3,h⟩ | ⟨h3,h⟩
  ·
   refine ak 11 h3 (ac (ks':=[dR p60_2,dR p60_3,dR p60_1]) 4 ?_)
   rcases au h with ⟨h4,h⟩ | ⟨h4,h⟩
   ·
    refine ak 12 h4 (aQ 6 ?_)
    cases h
    exact bF
   ·
    refine ak 12 h4 (aQ 6 ?_)
    cases h
    exact bF
  ·
   refine ak 11 h3 (ac (ks':=[dR p60_4,dR p60_5]) 5 ?_)
   rcases au h with ⟨h5,h⟩ | ⟨h5,h⟩
   ·
    refine ak 13 h5 (aQ 5 ?_)
    cases h
    exact bF
   ·
    refine ak 13 h5 (ac (ks':=[dR p60_6,dR p60_7]) 5 ?_)
    rcases au h with ⟨h6,h⟩ | ⟨h6,h⟩
    ·
     refine ak 16 h6 (aQ 5 ?_)
     cases h
     exact bF
    ·
     refine ak 16 h6 (ac (ks':=[dR p60_8,dR p60_9]) 5 ?_)
     rcases au h with ⟨h7,h⟩ | ⟨h7,h⟩
     ·
      refine ak 19 h7 (aQ 5 ?_)
      cases h
      exact bF
     ·
      refine ak 19 h7 (aQ 5 ?_)
      cases h
      exact bF
end
noncomputable section
variable {K:Kn} {n:Nat} {M:Nat→Prop} {w0:Base} {r v1 v2:Int} {v3:List Int} 
abbrev cF59 (p:List Nat):Kont:=.c (cat Try.f59 p)
theorem xd (hK:KnOk K) (h:mU K n v1 v2 v3=some r):ACalls Try.prog 59 [iI v1,iI v2,.cptr ([.sl (lm (eInt .i64) v3)])] (fun v _=>v=iI r):=by
  refine bo (cat Try.f59 []) Try.func59 Try.ntmps59 fun M w0=>(bg ⟨[(0,iI v1),(1,iI v2),(2,.cptr ([.sl (lm (eInt .i64) v3)]))],[],[],[]⟩ ?_)
  unfold mU at h
  refine ac (ks':=[cF59 [1,0],cF59 [1,1]]) 3 (bt [0,1,2] [] [] ?_)
  obtain ⟨h1,h⟩:=av h
  obtain ⟨h2,h⟩:=av h
  obtain ⟨v4,h3,h⟩:=bind_some h
  refine bE 1 (nu 6 [.sl (lm (eInt .i64) v3),iI v2,.cptr ([iI (gD v3 v2)]),iI (gD v3 v2),.sl (lm (eInt .i64) v3),iI v1,.cptr ([iI (gD v3 v1)]),iI (gD v3 v1),iI v4]) [] [] [stp Try.prog 15 Try.f59 [1,0] 9] (az (vz 2) (d_v (bL (eInt .i64) (eInt .i64) h1 (fun _=>rfl) (fun _=>rfl)) (az (vz 3) (d_v (bL (eInt .i64) (eInt .i64) h2 (fun _=>rfl) (fun _=>rfl)) (az [.v 0 1] (aj (e_c 0 1 14 (sV hK h3)) (aj (e_d 0) bC))))))) (aQ 1 ?_)
  cases h
  exact bF
end
def le:=pth 12 1
def p27_1:=pth 11 10100
def gy:=pth 10 1
def p27_3:=pth 9 10100
def lg:=pth 7 1
def p27_5:=pth 6 10100
def p27_6:=pth 11 1010010
def p27_7:=pth 11 1010011
def p27_8:=pth 11 1010011000
def p27_9:=pth 11 1010011001
def p27_10:=pth 11 10100111
def p27_11:=pth 9 1010010
def p27_12:=pth 9 1010011
def p27_13:=pth 9 1010011000
def p27_14:=pth 9 1010011001
def p27_15:=pth 9 10100111
def p27_16:=pth 9 10100110010
def p27_17:=pth 9 10100110011
def p27_18:=pth 9 101001100110
def p27_19:=pth 9 101001100111
def p27_20:=pth 10 10
def p27_21:=pth 11 1
def p27_22:=pth 11 100
def p27_23:=pth 11 101
def p27_24:=pth 11 1010
def p27_25:=pth 6 1010010
def p27_26:=pth 6 1010011
def p27_27:=pth 6 1010011000
def p27_28:=pth 6 1010011001
def p27_29:=pth 6 10100111
def p27_30:=pth 7 101
def p27_31:=pth 8 1
def p27_32:=pth 9 100
def p27_33:=pth 9 101
def p27_34:=pth 9 1010
def p27_35:=pth 0 11110
def p27_36:=pth 0 11111
def p27_37:=pth 0 111110
def p27_38:=pth 5 1
def p27_39:=pth 6 100
def p27_40:=pth 6 101
def p27_41:=pth 6 1010
noncomputable section
abbrev gG (M:Nat→Prop) (w0:Base):Cx:=⟨Try.prog,96,M,w0⟩
abbrev q27 (M:Nat→Prop) (w0:Base) (r:List Int):=bodyPost Try.prog Try.f27 (RetQ M w0 (fun v s=>v = .ref 21∧look 21 s.r=some ⟨3,1,lm (eInt .i64) r⟩))
abbrev br (p:List Nat):Kont:=.c (cat Try.f27 p)
abbrev k27_3 (M:Nat→Prop) (w0:Base) (r:List Int) (m3:Nat):Kont:=kl (gG M w0) (q27 M w0 r) [.b 4,br le] (cat Try.f27 p27_1) m3
abbrev jW (M:Nat→Prop) (w0:Base) (r:List Int) (m2:Nat):Kont:=kl (gG M w0) (q27 M w0 r) [.b 2,br gy] (cat Try.f27 p27_3) m2
abbrev k27_1 (M:Nat→Prop) (w0:Base) (r:List Int) (m1:Nat):Kont:=kl (gG M w0) (q27 M w0 r) [.b 0,br lg] (cat Try.f27 p27_5) m1
def s27_l3 (v26:List Int) (v27 v28:Int) (v29:List Int):AS:=⟨[(5,.ref 21),(82,.sl (lm (eInt .i64) v26)),(83,iI v27),(84,iI v28)],[],[(21,⟨3,1,lm (eInt .i64) v29⟩)],[21]⟩
def s27_l2 (v2:List Int) (v3 v8 v14 v15:Int) (v16 v17 v18:List Int):AS:=⟨[(0,iI v3),(5,.ref 21),(6,.ptr 6 0),(7,.ref 27),(8,iI v8),(11,iI v14),(43,.sl (lm (eInt .i64) v2)),(44,iI (v2.length:Int)),(45,iI v15)],[(6,[.ref 24])],[(21,⟨3,1,lm (eInt .i64) v16⟩),(24,⟨3,1,lm (eInt .i64) v17⟩),(27,⟨3,1,lm (eInt .i64) v18⟩)],[6,21,24,27]⟩
def s27_l1 (v2:List Int) (v3:Int) (v4 v5 v6:List Int) (v8 v9:Int):AS:=⟨[(0,iI v3),(1,.sl (lm (eInt .i64) v2)),(5,.ref 21),(6,.ptr 6 0),(7,.ref 27),(8,iI v8),(28,.sl (lm (eInt .i64) v2)),(29,iI (v2.length:Int)),(30,iI v9)],[(6,[.ref 24])],[(21,⟨3,1,lm (eInt .i64) v4⟩),(24,⟨3,1,lm (eInt .i64) v5⟩),(27,⟨3,1,lm (eInt .i64) v6⟩)],[6,21,24,27]⟩
abbrev H27_1 (M:Nat→Prop) (w0:Base) (r v2:List Int) (v3:Int) (v4 v5 v6:List Int) (m1:Nat) (L1:Int→Int→Option (List Int)):Prop:=∀ {v8:Int} {v9:Int},L1 v8 v9=some r→LP (gG M w0) (q27 M w0 r) [.b 0,br lg] (cat Try.f27 p27_5) m1 (s27_l1 v2 v3 v4 v5 v6 v8 v9)
abbrev H27_2 (M:Nat→Prop) (w0:Base) (r v2:List Int) (v3 v8:Int) (m2:Nat) (L2:Int→Int→(List Int)→(List Int)→(List Int)→Option (List Int)):Prop:=∀ {v14:Int} {v15:Int} {v16:(List Int)} {v17:(List Int)} {v18:(List Int)},L2 v14 v15 v16 v17 v18=some r→LP (gG M w0) (q27 M w0 r) [.b 2,br gy] (cat Try.f27 p27_3) m2 (s27_l2 v2 v3 v8 v14 v15 v16 v17 v18)
abbrev H27_3 (M:Nat→Prop) (w0:Base) (r:List Int) (m3:Nat) (L3:(List Int)→Int→Int→(List Int)→Option (List Int)):Prop:=∀ {v26:(List Int)} {v27:Int} {v28:Int} {v29:(List Int)},L3 v26 v27 v28 v29=some r→LP (gG M w0) (q27 M w0 r) [.b 4,br le] (cat Try.f27 p27_1) m3 (s27_l3 v26 v27 v28 v29)
variable {K:Kn} {n:Nat} {M:Nat→Prop} {w0:Base} {r:List Int} {v1:Int} {v2:List Int} {v3:Int} {v4 v5 v6:List Int} {v8 v9 v14 v15:Int} {v16 v17 v18 v26:List Int} {v27 v28:Int} {v29:List Int} {m1:Nat} {L1:Int→Int→Option (List Int)} {m2:Nat} {L2:Int→Int→(List Int)→(List Int)→(List Int)→Option (List Int)} {m3:Nat} {L3:(List Int)→Int→Int→(List Int)→Option (List Int)}
theorem wJ (hK:KnOk K) (hL3:H27_3 M w0 r m3 L3) (h:oi K n L3 v26 v27 v28 v29=some r):VE (gG M w0) (q27 M w0 r) [br p27_1,k27_3 M w0 r m3,.b 4,br le] .normal (s27_l3 v26 v27 v28 v29):=by
  unfold oi at h
  refine ac (ks':=[br p27_6,br p27_7,k27_3 M w0 r m3,.b 4,br le]) 3 ?_
  rcases au h with ⟨h46,h⟩ | ⟨h46,h⟩
  ·
   refine ak 85 h46 (ac (ks':=[br p27_8,br p27_9,.b 5,br p27_10,k27_3 M w0 r m3,.b 4,br le]) 5 (ai 0 ?_))
   obtain ⟨h47,h⟩:=av h
   refine aq (bL (eInt .i64) (eInt .i64) h47 (fun _=>rfl) (fun _=>rfl)) (ag (ai 2 ?_))
   obtain ⟨h48,h⟩:=av h
   refine aq (bM 21 1 (eInt .i64) h48) (aq (bj 3 0 (eInt .i64) (eInt .i64) (aI h48).2 (fun _=>rfl)) (aV 5 1 ?_))
   obtain ⟨h49,h⟩:=av h
   exact aq (bM 21 1 (eInt .i64) h49) (aq (cq 21 3 1 0 (eInt .i64) (eInt .i64) (w64 ((gD v29 ((gD v26 v28)))+1)) (aI h49).2 (fun _=>rfl)) (ag (ah 2 (aY (hL3 h)))))
  ·
   refine ak 85 h46 (aQ 8 ?_)
   cases h
   exact cO
theorem vL (hK:KnOk K) (m:Nat):H27_3 M w0 r m (iX K n m):=by
  induction m with
 | zero=>intro v26 v27 v28 v29 h; cases h
 | succ m ih=>intro v26 v27 v28 v29 h; have h:oi K n (iX K n m) v26 v27 v28 v29=some r:=h; exact aW (wJ hK ih h)
theorem uV (hK:KnOk K) (hL2:H27_2 M w0 r v2 v3 v8 m2 L2) (h:pK K n v2 v3 v8 L2 v14 v15 v16 v17 v18=some r):VE (gG M w0) (q27 M w0 r) [br p27_3,jW M w0 r m2,.b 2,br gy] .normal (s27_l2 v2 v3 v8 v14 v15 v16 v17 v18):=by
  unfold pK at h
  refine ac (ks':=[br p27_11,br p27_12,jW M w0 r m2,.b 2,br gy]) 3 ?_
  rcases au h with ⟨h26,h⟩ | ⟨h26,h⟩
  ·
   refine ak 46 h26 (ac (ks':=[br p27_13,br p27_14,.b 3,br p27_15,jW M w0 r m2,.b 2,br gy]) 5 (ai 1 ?_))
   obtain ⟨h27,h⟩:=av h
   refine aq (bL (eInt .i64) (eInt .i64) h27 (fun _=>rfl) (fun _=>rfl)) (ag (ac (ks':=[br p27_16,br p27_17,.b 3,br p27_15,jW M w0 r m2,.b 2,br gy]) 1 (ai 2 ?_)))
   obtain ⟨v19,h28,h⟩:=bind_some h
   refine aR (rG hK h28) (ag (ac (ks':=[br p27_18,br p27_19,.b 3,br p27_15,jW M w0 r m2,.b 2,br gy]) 1 (bt [0,5,6,7,8,11,12,14,43,44,45] [6] [21,24,27] ?_)))
   obtain ⟨h29,h⟩:=av h
   obtain ⟨h30,h⟩:=av h
   obtain ⟨h31,h⟩:=av h
   obtain ⟨h32,h⟩:=av h
   obtain ⟨h33,h⟩:=av h
   refine bE 3 (nu 54 [.ref 21,iI v15,.ref 24,iI v15,.ref 27,iI v15,iI (w64 (v3*v19)),iI v8,iI (w64 (Int.tdiv (w64 (v3*v19)) v8)),iI (w64 (v3*v19)),iI v8,iI (Int.tmod (w64 (v3*v19)) v8),iI v15,.eptr 21 1 (v15.toNat) 0,.eptr 24 1 (v15.toNat) 0,.eptr 27 1 (v15.toNat) 0]) [] [] [strS 21 ⟨3,1,lm (eInt .i64) (List.set v16 v15.toNat (w64 (Int.tdiv (w64 (v3*v19)) v8)))⟩,strS 24 ⟨3,1,lm (eInt .i64) (List.set v17 v15.toNat (Int.tmod (w64 (v3*v19)) v8))⟩,strS 27 ⟨3,1,lm (eInt .i64) (List.set v18 v15.toNat v15)⟩] (az [.v 0 1,.v 0 1,.v 0 2,.v 0 2,.v 0 3,.v 0 3,.v 0 1,.v 0 1] (d_v (y_quo .i64 (w64 (v3*v19)) h29) (az [.v 0 2,.v 0 2] (aj (k_v (lo:=0) (k:=2) (bW ⟨(by kernel_rfl),(cc (y_rem .i64 (w64 (v3*v19)) h30) (by kernel_rfl))⟩ (bW ⟨(by kernel_rfl),(cc (y_rem .i64 (w64 (v3*v19)) h30) (by kernel_rfl))⟩ dd))) (az [.v 0 3] (d_v (bv 21 1 (eInt .i64) (L:=v16) h31) (aj (e_s (m:=0) (cq 21 3 1 0 (eInt .i64) (eInt .i64) (w64 (Int.tdiv (w64 (v3*v19)) v8)) (aI h31).2 (fun _=>rfl))) (aj (e_v (lo:=1) (bv 24 1 (eInt .i64) (L:=v17) h32)) (aj (e_s (m:=1) (cq 24 3 1 0 (eInt .i64) (eInt .i64) (Int.tmod (w64 (v3*v19)) v8) (aI h32).2 (fun _=>rfl))) (aj (e_v (lo:=2) (bv 27 1 (eInt .i64) (L:=v18) h33)) (aj (e_s (m:=2) (cq 27 3 1 0 (eInt .i64) (eInt .i64) v15 (aI h33).2 (fun _=>rfl))) bC))))))))))) ?_
   obtain ⟨v20,h34,h⟩:=bind_some h
   have h34:=Option.some.inj h34
   obtain ⟨v21,h35,h⟩:=bind_some h
   have h35:=Option.some.inj h35
   refine bq (ks':=[br p27_19,.b 3,br p27_15,jW M w0 r m2,.b 2,br gy]) 0 ⟨[(0,iI v3),(5,.ref 21),(6,.ptr 6 0),(7,.ref 27),(8,iI v8),(11,iI v14),(12,iI v15),(43,.sl (lm (eInt .i64) v2)),(44,iI (v2.length:Int)),(45,iI v15)],[(6,[.ref 24])],[(21,⟨3,1,lm (eInt .i64) v20⟩),(24,⟨3,1,lm (eInt .i64) v21⟩),(27,⟨3,1,lm (eInt .i64) (List.set v18 v15.toNat v15)⟩)],[6,21,24,27]⟩ ?_ (by subst h35; subst h34; kernel_rfl)
   refine ai 3 ?_
   obtain ⟨h36,h⟩:=av h
   exact aq (bM 21 1 (eInt .i64) h36) (aq (bj 3 0 (eInt .i64) (eInt .i64) (aI h36).2 (fun _=>rfl)) (ag (ah 2 (aY (hL2 h)))))
  ·
   refine ak 46 h26 (ac (ks':=[br p27_20,br p27_21]) 6 (ai 1 (dV 24 (ot_fo 6 6 ([.sl (lm (eInt .i64) v17)]) (ot_mf 59 #[(.tmp 6)] [.cptr ([.sl (lm (eInt .i64) v17)])] ?_)))))
   obtain ⟨v22,h37,h⟩:=bind_some h
   refine eh 27 0 (te hK h37) (ag (ac (ks':=[br p27_22,br p27_23,br le]) 2 (ai 2 (dV 27 ?_))))
   obtain ⟨h38,h⟩:=av h
   exact aq (qT (eInt .i64) v22 (0:Int) v14 33 (.tmp 80) none (some (.tmp 81)) 82 (e:=3) (sz:=1) (by kernel_rfl) (by kernel_rfl) (by kernel_rfl) (by kernel_rfl) (by kernel_rfl) (by kernel_rfl) (fun _=>rfl) (fun k hk=>by subst hk; kernel_rfl) h38) (aq (aZ (eInt .i64) (List.drop ((0:Int)).toNat (List.take v14.toNat v22))) (ag (ah 1 (bz (p:=p27_24) n (vL hK n h)))))
theorem wD (hK:KnOk K) (m:Nat):H27_2 M w0 r v2 v3 v8 m (jc K n v2 v3 v8 m):=by
  induction m with
 | zero=>intro v14 v15 v16 v17 v18 h; cases h
 | succ m ih=>intro v14 v15 v16 v17 v18 h; have h:pK K n v2 v3 v8 (jc K n v2 v3 v8 m) v14 v15 v16 v17 v18=some r:=h; exact aW (uV hK ih h)
theorem wX (hK:KnOk K) (hL1:H27_1 M w0 r v2 v3 v4 v5 v6 m1 L1) (h:oE K n v2 v3 v4 v5 v6 L1 v8 v9=some r):VE (gG M w0) (q27 M w0 r) [br p27_5,k27_1 M w0 r m1,.b 0,br lg] .normal (s27_l1 v2 v3 v4 v5 v6 v8 v9):=by
  unfold oE at h
  refine ac (ks':=[br p27_25,br p27_26,k27_1 M w0 r m1,.b 0,br lg]) 3 ?_
  rcases au h with ⟨h11,h⟩ | ⟨h11,h⟩
  ·
   refine ak 31 h11 (ac (ks':=[br p27_27,br p27_28,.b 1,br p27_29,k27_1 M w0 r m1,.b 0,br lg]) 5 (ai 0 ?_))
   obtain ⟨h12,h⟩:=av h
   refine aq (bL (eInt .i64) (eInt .i64) h12 (fun _=>rfl) (fun _=>rfl)) (ag (ai 2 ?_))
   obtain ⟨v10,h13,h⟩:=bind_some h
   exact aR (rG hK h13) (ag (ah 2 (aY (hL1 h))))
  ·
   refine ak 31 h11 (ac (ks':=[br p27_30,br p27_31]) 8 ?_)
   rcases au h with ⟨h14,h⟩ | ⟨h14,h⟩
   ·
    refine ak 40 h14 (aQ 5 ?_)
    cases h
    exact cO
   ·
    exact ak 40 h14 (ac (ks':=[br p27_32,br p27_33,br gy]) 6 (ai 1 (aq (aZ (eInt .i64) v2) (ag (ah 1 (bz (p:=p27_34) n (wD hK n h)))))))
theorem vn (hK:KnOk K) (m:Nat):H27_1 M w0 r v2 v3 v4 v5 v6 m (kF K n v2 v3 v4 v5 v6 m):=by
  induction m with
 | zero=>intro v8 v9 h; cases h
 | succ m ih=>intro v8 v9 h; have h:oE K n v2 v3 v4 v5 v6 (kF K n v2 v3 v4 v5 v6 m) v8 v9=some r:=h; exact aW (wX hK ih h)
theorem sL (hK:KnOk K) (h:lM K n v1 v2=some r):ACalls Try.prog 27 [iI v1,.sl (lm (eInt .i64) v2)] (fun v s=>v = .ref 21∧look 21 s.r=some ⟨3,1,lm (eInt .i64) r⟩):=by
  refine bo (cat Try.f27 []) Try.func27 Try.ntmps27 fun M w0=>(bg ⟨[(0,iI v1),(1,.sl (lm (eInt .i64) v2))],[],[],[]⟩ ?_)
  unfold lM at h
  refine ac (ks':=[br [1,0],br [1,1]]) 3 (ai 1 ?_)
  obtain ⟨v3,h1,h⟩:=bind_some h
  refine aR (rG hK h1) (ag (ac (ks':=[br [1,1,0],br [1,1,1]]) 1 (ai 1 (aq (aZ (eInt .i64) v2) ?_))))
  obtain ⟨h2,h⟩:=av h
  refine fV (eInt .i64) (0:Int) 33 (.tmp 20) (.tmp 20) 21 (e:=3) (sz:=1) (zc:=[iI 0]) (kd:=.i64) (kd':=.i64) h2 (ag ?_)
  obtain ⟨v4,h3,h⟩:=bind_some h
  have h3:=Option.some.inj h3
  refine bq (ks':=[br p27_35,br p27_36]) 1 ⟨[(0,iI v3),(1,.sl (lm (eInt .i64) v2)),(5,.ref 21)],[],[(21,⟨3,1,lm (eInt .i64) v4⟩)],[21]⟩ ?_ (by subst h3; kernel_rfl)
  refine ai 1 (aq (aZ (eInt .i64) v2) ?_)
  obtain ⟨h4,h⟩:=av h
  refine fV (eInt .i64) (0:Int) 33 (.tmp 23) (.tmp 23) 24 (e:=3) (sz:=1) (zc:=[iI 0]) (kd:=.i64) (kd':=.i64) h4 (ag ?_)
  obtain ⟨v5,h5,h⟩:=bind_some h
  have h5:=Option.some.inj h5
  refine bq (ks':=[br p27_37,br p27_38]) 1 ⟨[(0,iI v3),(1,.sl (lm (eInt .i64) v2)),(5,.ref 21),(6,.ptr 6 0)],[(6,[.ref 24])],[(21,⟨3,1,lm (eInt .i64) v4⟩),(24,⟨3,1,lm (eInt .i64) v5⟩)],[6,21,24]⟩ ?_ (by subst h5; kernel_rfl)
  refine ai 1 (aq (aZ (eInt .i64) v2) ?_)
  obtain ⟨h6,h⟩:=av h
  refine fV (eInt .i64) (0:Int) 33 (.tmp 26) (.tmp 26) 27 (e:=3) (sz:=1) (zc:=[iI 0]) (kd:=.i64) (kd':=.i64) h6 (ag ?_)
  obtain ⟨v6,h7,h⟩:=bind_some h
  have h7:=Option.some.inj h7
  refine bq (ks':=[br p27_39,br p27_40,br lg]) 4 ⟨[(0,iI v3),(1,.sl (lm (eInt .i64) v2)),(5,.ref 21),(6,.ptr 6 0),(7,.ref 27),(8,iI 0)],[(6,[.ref 24])],[(21,⟨3,1,lm (eInt .i64) v4⟩),(24,⟨3,1,lm (eInt .i64) v5⟩),(27,⟨3,1,lm (eInt .i64) v6⟩)],[6,21,24,27]⟩ ?_ (by subst h7; kernel_rfl)
  exact ai 1 (aq (aZ (eInt .i64) v2) (ag (ah 1 (bz (p:=p27_41) n (vn hK n h)))))
end
def p75_0:=pth 0 110100
def p75_1:=pth 0 11010010
def p75_2:=pth 0 11010011
def p75_3:=pth 0 110100110010
def p75_4:=pth 0 110100110011
def p75_5:=pth 0 110100111
def p75_6:=pth 0 11010
noncomputable section
abbrev cx75 (M:Nat→Prop) (w0:Base):Cx:=⟨Try.prog,19,M,w0⟩
abbrev q75 (M:Nat→Prop) (w0:Base) (r:Int):=bodyPost Try.prog Try.f75 (RetQ M w0 (fun v _=>v=iI r))
abbrev d9 (p:List Nat):Kont:=.c (cat Try.f75 p)
abbrev k75_1 (M:Nat→Prop) (w0:Base) (r:Int) (m1:Nat):Kont:=kl (cx75 M w0) (q75 M w0 r) [.b 0,d9 [1,1]] (cat Try.f75 p75_0) m1
def s75_l1 (v1:List Int) (v2:Fv) (v4:Int):AS:=⟨[(0,.sl (lm (eInt .i64) v1)),(1,.fn v2.id v2.caps),(7,iI (v1.length:Int)),(8,iI v4)],[],[],[]⟩
abbrev H75_1 (M:Nat→Prop) (w0:Base) (r:Int) (v1:List Int) (v2:Fv) (m1:Nat) (L1:Int→Option Int):Prop:=∀ {v4:Int},L1 v4=some r→LP (cx75 M w0) (q75 M w0 r) [.b 0,d9 [1,1]] (cat Try.f75 p75_0) m1 (s75_l1 v1 v2 v4)
variable {K:Kn} {n:Nat} {M:Nat→Prop} {w0:Base} {r:Int} {v1:List Int} {v2:Fv} {v4:Int} {m1:Nat} {L1:Int→Option Int}
theorem wq (hK:KnOk K) (hL1:H75_1 M w0 r v1 v2 m1 L1) (h:nR K n v1 v2 L1 v4=some r):VE (cx75 M w0) (q75 M w0 r) [d9 p75_0,k75_1 M w0 r m1,.b 0,d9 [1,1]] .normal (s75_l1 v1 v2 v4):=by
  unfold nR at h
  refine ac (ks':=[d9 p75_1,d9 p75_2,k75_1 M w0 r m1,.b 0,d9 [1,1]]) 3 ?_
  rcases au h with ⟨h5,h⟩ | ⟨h5,h⟩
  ·
   refine ak 9 h5 (ac (ks':=[d9 p75_3,d9 p75_4,.b 1,d9 p75_5,k75_1 M w0 r m1,.b 0,d9 [1,1]]) 7 (ai 3 ?_))
   obtain ⟨h6,h⟩:=av h
   refine aq (bL (eInt .i64) (eInt .i64) h6 (fun _=>rfl) (fun _=>rfl)) (aV 5 1 ?_)
   obtain ⟨v5,h7,h⟩:=bind_some h
   refine i8 (hK.oA h7) (ag ?_)
   rcases au h with ⟨h8,h⟩ | ⟨h8,h⟩
   ·
    refine ak 16 h8 (aQ 9 ?_)
    cases h
    exact bF
   ·
    exact ak 16 h8 (ah 4 (aY (hL1 h)))
  ·
   refine ak 9 h5 (aQ 8 ?_)
   cases h
   exact bF
theorem wC (hK:KnOk K) (m:Nat):H75_1 M w0 r v1 v2 m (jY K n v1 v2 m):=by
  induction m with
 | zero=>intro v4 h; cases h
 | succ m ih=>intro v4 h; have h:nR K n v1 v2 (jY K n v1 v2 m) v4=some r:=h; exact aW (wq hK ih h)
theorem xC (hK:KnOk K) (h:qV K n v1 v2=some r):ACalls Try.prog 75 [.sl (lm (eInt .i64) v1),.fn v2.id v2.caps] (fun v _=>v=iI r):=by
  refine bo (cat Try.f75 []) Try.func75 Try.ntmps75 fun M w0=>(bg ⟨[(0,.sl (lm (eInt .i64) v1)),(1,.fn v2.id v2.caps)],[],[],[]⟩ ?_)
  unfold qV at h
  exact ac (ks':=[d9 [1,0,0],d9 [1,0,1],d9 [1,1]]) 4 (ai 1 (aq (aZ (eInt .i64) v1) (ag (ah 1 (bz (p:=p75_6) n (wC hK n h))))))
end
noncomputable section
variable {K:Kn} {n:Nat} {M:Nat→Prop} {w0:Base} {r:Bool} {v1:List Int} {v2:Fv} 
abbrev cF61 (p:List Nat):Kont:=.c (cat Try.f61 p)
theorem uT (hK:KnOk K) (h:oq K n v1 v2=some r):ACalls Try.prog 61 [.sl (lm (eInt .i64) v1),.fn v2.id v2.caps] (fun v _=>v = .bool r):=by
  refine bo (cat Try.f61 []) Try.func61 Try.ntmps61 fun M w0=>(bg ⟨[(0,.sl (lm (eInt .i64) v1)),(1,.fn v2.id v2.caps)],[],[],[]⟩ ?_)
  unfold oq at h
  refine ac (ks':=[cF61 [1,0],cF61 [1,1]]) 3 (ai 2 ?_)
  obtain ⟨v3,h1,h⟩:=bind_some h
  refine aR (xC hK h1) (ag (aQ 1 ?_))
  cases h
  exact bF
end
noncomputable section
variable {K:Kn} {n:Nat} {M:Nat→Prop} {w0:Base} {r:Int×Int} {v1 v2:Int} 
theorem g_bits_Mul64_ok (hK:KnOk K) (h:ra K n v1 v2=some r):ACalls Try.prog 83 [.int .u64 v1,.int .u64 v2] (fun v _=>v = .tup [.int .u64 r.1,.int .u64 r.2]):=by
  refine bo (cat Try.f83 []) Try.func83 Try.ntmps83 fun M w0=>(bg ⟨[(0,.int .u64 v1),(1,.int .u64 v2)],[],[],[]⟩ ?_)
  unfold ra at h
  refine aQ 25 ?_
  cases h
  exact dW
end
noncomputable section
variable {K:Kn} {n:Nat} {M:Nat→Prop} {w0:Base} {r:Int×Int} {v1 v2:Int} 
abbrev cF76 (p:List Nat):Kont:=.c (cat Try.f76 p)
theorem g_bits_Mul_ok (hK:KnOk K) (h:pJ K n v1 v2=some r):ACalls Try.prog 76 [.int .u64 v1,.int .u64 v2] (fun v _=>v = .tup [.int .u64 r.1,.int .u64 r.2]):=by
  refine bo (cat Try.f76 []) Try.func76 Try.ntmps76 fun M w0=>(bg ⟨[(0,.int .u64 v1),(1,.int .u64 v2)],[],[],[]⟩ ?_)
  unfold pJ at h
  refine ac (ks':=[cF76 [1,1,0],cF76 [1,1,1]]) 6 (ai 2 ?_)
  obtain ⟨v3,h1,h⟩:=bind_some h
  refine aR (g_bits_Mul64_ok hK h1) (ag (aQ 3 ?_))
  cases h
  exact dW
end
def p63_0:=pth 7 1
def p63_1:=pth 6 1000
def p63_2:=pth 6 100000
def p63_3:=pth 6 100001
def p63_4:=pth 6 10001
def p63_5:=pth 6 100010
def p63_6:=pth 0 111101
def p63_7:=pth 0 11111
def p63_8:=pth 0 111110
def p63_9:=pth 5 1
def p63_10:=pth 5 10
def p63_11:=pth 6 1
def p63_12:=pth 6 100
def p63_13:=pth 0 111100
noncomputable section
abbrev cx63 (M:Nat→Prop) (w0:Base):Cx:=⟨Try.prog,48,M,w0⟩
abbrev q63 (M:Nat→Prop) (w0:Base) (r:List Int):=bodyPost Try.prog Try.f63 (RetQ M w0 (fun v s=>v = .ref 30∧look 30 s.r=some ⟨3,1,lm (eInt .i64) r⟩))
abbrev cM (p:List Nat):Kont:=.c (cat Try.f63 p)
abbrev k63_1 (M:Nat→Prop) (w0:Base) (r:List Int) (m1:Nat):Kont:=kl (cx63 M w0) (q63 M w0 r) [.b 0,cM p63_0] (cat Try.f63 p63_1) m1
def s63_l2 (v7:Int) (v8:List Int):AS:=⟨[(7,.ref 30),(8,iI v7)],[],[(30,⟨3,1,lm (eInt .i64) v8⟩)],[30]⟩
def s63_j1 (v1:List Int) (v3:Int×Int) (v4:Bool):AS:=⟨[(0,.sl (lm (eInt .i64) v1)),(6,.int .u64 v3.2),(26,.bool v4)],[],[],[]⟩
abbrev H63_1 (M:Nat→Prop) (w0:Base) (r:List Int) (m1:Nat) (L1:Int→(List Int)→Option (List Int)):Prop:=∀ {v7:Int} {v8:(List Int)},L1 v7 v8=some r→LP (cx63 M w0) (q63 M w0 r) [.b 0,cM p63_0] (cat Try.f63 p63_1) m1 (s63_l2 v7 v8)
variable {K:Kn} {n:Nat} {M:Nat→Prop} {w0:Base} {r v1:List Int} {v2:Int} {v3:Int×Int} {v4:Bool} {v7:Int} {v8:List Int} {m1:Nat} {L1:Int→(List Int)→Option (List Int)}
theorem vP (hK:KnOk K) (hL1:H63_1 M w0 r m1 L1) (h:m9 K n L1 v7 v8=some r):VE (cx63 M w0) (q63 M w0 r) [cM p63_1,k63_1 M w0 r m1,.b 0,cM p63_0] .normal (s63_l2 v7 v8):=by
  unfold m9 at h
  refine ac (ks':=[cM p63_2,cM p63_3,cM p63_4,k63_1 M w0 r m1,.b 0,cM p63_0]) 2 (ai 2 (aq (aZ (eInt .i64) v8) (ag ?_)))
  rcases au h with ⟨h13,h⟩ | ⟨h13,h⟩
  ·
   refine ak 37 h13 (ac (ks':=[cM p63_5,.b 1,k63_1 M w0 r m1,.b 0,cM p63_0]) 3 (bt [7,8] [] [30] ?_))
   obtain ⟨h14,h⟩:=av h
   obtain ⟨h15,h⟩:=av h
   obtain ⟨h16,h⟩:=av h
   exact bE 2 (nu 38 [iI v7,.ref 30,iI v7,.sref 30 1 (v7.toNat) (((v8.length:Int)).toNat - v7.toNat),.ref 30,iI v7,.sref 30 1 ((0:Int).toNat) (v7.toNat - (0:Int).toNat)]++nu 46 [iI (w64 (v7+((min (v7.toNat - (0:Int).toNat) (((v8.length:Int)).toNat - v7.toNat):Nat):Int)))]) [] [] [cpF 30 (some 45) ⟨3,1,lm (eInt .i64) (cpy v8 (v7.toNat) (((v8.length:Int)).toNat - v7.toNat) v8 ((0:Int).toNat) (v7.toNat - (0:Int).toNat))⟩ (iI ((min (v7.toNat - (0:Int).toNat) (((v8.length:Int)).toNat - v7.toNat):Nat):Int)),stp Try.prog 48 Try.f63 p63_5 9] (az [.v 0 2,.v 0 2,.v 0 2] (d_v (qB (eInt .i64) v8 v7 (v8.length:Int) 33 (.tmp 39) (some (.tmp 40)) none 41 (id:=30) (e:=3) (sz:=1) (et:=3) (by kernel_rfl) (by kernel_rfl) (by kernel_rfl) (by kernel_rfl) (by kernel_rfl) (by kernel_rfl) (by kernel_rfl) (fun k hk=>by subst hk; kernel_rfl) h14) (az [.v 0 2,.v 0 2] (d_v (qB (eInt .i64) v8 (0:Int) v7 33 (.tmp 42) none (some (.tmp 43)) 44 (id:=30) (e:=3) (sz:=1) (et:=3) (by kernel_rfl) (by kernel_rfl) (by kernel_rfl) (by kernel_rfl) (by kernel_rfl) (by kernel_rfl) (by kernel_rfl) (fun k hk=>by subst hk; kernel_rfl) h15) (aj (e_s (m:=0) (y_cp (eInt .i64) 30 3 (L:=v8) (S:=v8) (od:=(some (v7.toNat,(((v8.length:Int)).toNat - v7.toNat)))) (os:=(some ((0:Int).toNat,(v7.toNat - (0:Int).toNat)))) (v7.toNat) (((v8.length:Int)).toNat - v7.toNat) ((0:Int).toNat) (v7.toNat - (0:Int).toNat) (fun _=>rfl) h16)) (az [.v 1 1] (aj (e_d 1) bC))))))) (ah 1 (aY (hL1 h)))
  ·
   refine ak 37 h13 (aQ 8 ?_)
   cases h
   exact cO
theorem uM (hK:KnOk K) (m:Nat):H63_1 M w0 r m (mc K n m):=by
  induction m with
 | zero=>intro v7 v8 h; cases h
 | succ m ih=>intro v7 v8 h; have h:m9 K n (mc K n m) v7 v8=some r:=h; exact aW (vP hK ih h)
theorem tx (hK:KnOk K) (h:nZ K n v1 v3 v4=some r):VE (cx63 M w0) (q63 M w0 r) [cM p63_6,cM p63_7] .normal (s63_j1 v1 v3 v4):=by
  unfold nZ at h
  rcases au h with ⟨h4,h⟩ | ⟨h4,h⟩
  ·
   refine ak 26 h4 ?_
   cases h
  ·
   refine ak 26 h4 (ac (ks':=[cM p63_8,cM p63_9]) 3 (ai 2 ?_))
   obtain ⟨h5,h⟩:=av h
   refine fV (eInt .i64) (0:Int) 33 (.tmp 29) (.tmp 29) 30 (e:=3) (sz:=1) (zc:=[iI 0]) (kd:=.i64) (kd':=.i64) h5 (ag ?_)
   obtain ⟨v5,h6,h⟩:=bind_some h
   have h6:=Option.some.inj h6
   refine bq (ks':=[cM p63_10,cM p63_11]) 1 ⟨[(0,.sl (lm (eInt .i64) v1)),(7,.ref 30)],[],[(30,⟨3,1,lm (eInt .i64) v5⟩)],[30]⟩ ?_ (by subst h6; kernel_rfl)
   refine ai 2 ?_
   obtain ⟨h7,h⟩:=av h
   exact aq (y_cp (eInt .i64) 30 3 (L:=v5) (S:=v1) (od:=none) (os:=none) 0 v5.length 0 v1.length (fun _=>rfl) h7) (ag (ah 2 (bz (p:=p63_12) n (uM hK n h))))
theorem vC (hK:KnOk K) (h:mN K n v1 v2=some r):ACalls Try.prog 63 [.sl (lm (eInt .i64) v1),iI v2] (fun v s=>v = .ref 30∧look 30 s.r=some ⟨3,1,lm (eInt .i64) r⟩):=by
  refine bo (cat Try.f63 []) Try.func63 Try.ntmps63 fun M w0=>(bg ⟨[(0,.sl (lm (eInt .i64) v1)),(1,iI v2)],[],[],[]⟩ ?_)
  unfold mN at h
  refine ac (ks':=[cM [1,0,1],cM [1,1]]) 5 ?_
  rcases au h with ⟨h1,h⟩ | ⟨h1,h⟩
  ·
   refine ak 10 h1 ?_
   cases h
  ·
   refine ak 10 h1 (ac (ks':=[cM [1,1,0],cM [1,1,1]]) 3 (ai 1 (aq (aZ (eInt .i64) v1) (aV 5 3 ?_))))
   obtain ⟨v3,h2,h⟩:=bind_some h
   refine aR (g_bits_Mul_ok hK h2) (ag (ac (ks':=[cM p63_13,cM p63_6,cM p63_7]) 2 (ai 3 ?_)))
   rcases au h with ⟨h3,h⟩ | ⟨h3,h⟩
   ·
    exact aL 23 h3 (ag (ah 0 (tx hK h)))
   ·
    exact aL 23 h3 (ag (ah 0 (tx hK h)))
end
def p28_0:=pth 0 11010
noncomputable section
abbrev cx28 (M:Nat→Prop) (w0:Base):Cx:=⟨Try.prog,15,M,w0⟩
abbrev q28 (M:Nat→Prop) (w0:Base) (r:List Int):=bodyPost Try.prog Try.f28 (RetQ M w0 (fun v s=>v = .ref 1014∧look 1014 s.r=some ⟨3,1,lm (eInt .i64) r⟩))
def s28_j1 (v1:Int) (v5:List Int):AS:=⟨[(0,iI v1),(1,.sl (lm (eInt .i64) v5))],[],[],[]⟩
variable {K:Kn} {n:Nat} {M:Nat→Prop} {w0:Base} {r:List Int} {v1:Int} {v2 v5:List Int} 
abbrev iC (p:List Nat):Kont:=.c (cat Try.f28 p)
theorem uk (hK:KnOk K) (h:pL K n v1 v5=some r):VE (cx28 M w0) (q28 M w0 r) [iC [1,1]] .normal (s28_j1 v1 v5):=by
  unfold pL at h
  refine ac (ks':=[iC [1,1,0],iC [1,1,1]]) 1 (ai 2 ?_)
  obtain ⟨v6,h4,h⟩:=bind_some h
  refine cZ 1014 (sL hK h4) (dQ 21) (ag (aQ 1 ?_))
  cases h
  exact cO
theorem sA (hK:KnOk K) (h:g8 K n v1 v2=some r):ACalls Try.prog 28 [iI v1,.sl (lm (eInt .i64) v2)] (fun v s=>v = .ref 1014∧look 1014 s.r=some ⟨3,1,lm (eInt .i64) r⟩):=by
  refine bo (cat Try.f28 []) Try.func28 Try.ntmps28 fun M w0=>(bg ⟨[(0,iI v1),(1,.sl (lm (eInt .i64) v2))],[],[],[]⟩ ?_)
  unfold g8 at h
  refine ac (ks':=[iC [1,0,0],iC [1,0,1],iC [1,1]]) 4 (ai 1 ?_)
  obtain ⟨v3,h1,h⟩:=bind_some h
  refine aR (uT hK h1) (ag ?_)
  rcases au h with ⟨h2,h⟩ | ⟨h2,h⟩
  ·
   refine ak 7 h2 (ac (ks':=[iC p28_0,iC [1,1]]) 1 (ai 2 (aq (aZ (eInt .i64) v2) ?_)))
   obtain ⟨v4,h3,h⟩:=bind_some h
   exact cZ 1011 (vC hK h3) (dQ 30) (ag (iJ 1011 (ah 0 (uk hK h))))
  ·
   exact ak 7 h2 (ah 2 (uk hK h))
end
def ms:=pth 9 1
def p12_1:=pth 8 10100
def fy:=pth 6 1
def p12_3:=pth 5 10100
def p12_4:=pth 8 1010010
def p12_5:=pth 8 1010011
def p12_6:=pth 8 1010011000
def p12_7:=pth 8 1010011001
def p12_8:=pth 8 10100111
def p12_9:=pth 8 1
def p12_10:=pth 8 100
def p12_11:=pth 8 101
def p12_12:=pth 8 1010
def p12_13:=pth 5 1010010
def p12_14:=pth 5 1010011
def p12_15:=pth 5 1010011000
def p12_16:=pth 5 1010011001
def kW:=pth 5 10100111
def p12_18:=pth 5 10100110010
def p12_19:=pth 5 10100110011
def p12_20:=pth 5 101001100110
def p12_21:=pth 5 101001100111
def p12_22:=pth 5 1010011001110
def p12_23:=pth 5 1010011001111
def p12_24:=pth 5 10100110011110
def p12_25:=pth 5 10100110011111
def p12_26:=pth 7 1001
def p12_27:=pth 7 100111
def p12_28:=pth 7 1001110
def p12_29:=pth 7 10011111
def p12_30:=pth 0 11110
def p12_31:=pth 0 11111
def p12_32:=pth 5 100
def p12_33:=pth 5 101
def p12_34:=pth 5 1010
noncomputable section
abbrev jP (M:Nat→Prop) (w0:Base):Cx:=⟨Try.prog,111,M,w0⟩
abbrev q12 (M:Nat→Prop) (w0:Base) (r:List Int):=bodyPost Try.prog Try.f12 (RetQ M w0 (fun v s=>v = .ref 17∧look 17 s.r=some ⟨3,1,lm (eInt .i64) r⟩))
abbrev bu (p:List Nat):Kont:=.c (cat Try.f12 p)
abbrev k12_2 (M:Nat→Prop) (w0:Base) (r:List Int) (m2:Nat):Kont:=kl (jP M w0) (q12 M w0 r) [.b 3,bu ms] (cat Try.f12 p12_1) m2
abbrev gU (M:Nat→Prop) (w0:Base) (r:List Int) (m1:Nat):Kont:=kl (jP M w0) (q12 M w0 r) [.b 0,bu fy] (cat Try.f12 p12_3) m1
def s12_l3 (v27:List Int) (v28:Int) (v29:List Int):AS:=⟨[(5,.ref 17),(95,.ref 1094),(96,iI (v27.length:Int)),(97,iI v28)],[],[(17,⟨3,1,lm (eInt .i64) v29⟩),(1094,⟨3,1,lm (eInt .i64) v27⟩)],[17,1094]⟩
def s12_j2 (v26 v27:List Int):AS:=⟨[(5,.ref 17),(12,.ref 1094)],[],[(17,⟨3,1,lm (eInt .i64) v26⟩),(1094,⟨3,1,lm (eInt .i64) v27⟩)],[17,1094]⟩
def s12_l1 (v1:List am) (v2 v11 v12 v13:Int) (v14 v15 v16:List Int):AS:=⟨[(1,iI v2),(5,.ref 17),(6,.ref 20),(7,.ref 23),(8,iI v11),(9,iI v12),(24,.sl (lm aM v1)),(25,iI (v1.length:Int)),(26,iI v13)],[],[(17,⟨3,1,lm (eInt .i64) v14⟩),(20,⟨3,1,lm (eInt .i64) v15⟩),(23,⟨3,1,lm (eInt .i64) v16⟩)],[17,20,23]⟩
abbrev H12_1 (M:Nat→Prop) (w0:Base) (r:List Int) (v1:List am) (v2:Int) (m1:Nat) (L1:Int→Int→Int→(List Int)→(List Int)→(List Int)→Option (List Int)):Prop:=∀ {v11:Int} {v12:Int} {v13:Int} {v14:(List Int)} {v15:(List Int)} {v16:(List Int)},L1 v11 v12 v13 v14 v15 v16=some r→LP (jP M w0) (q12 M w0 r) [.b 0,bu fy] (cat Try.f12 p12_3) m1 (s12_l1 v1 v2 v11 v12 v13 v14 v15 v16)
abbrev H12_2 (M:Nat→Prop) (w0:Base) (r v27:List Int) (m2:Nat) (L2:Int→(List Int)→Option (List Int)):Prop:=∀ {v28:Int} {v29:(List Int)},L2 v28 v29=some r→LP (jP M w0) (q12 M w0 r) [.b 3,bu ms] (cat Try.f12 p12_1) m2 (s12_l3 v27 v28 v29)
variable {K:Kn} {n:Nat} {M:Nat→Prop} {w0:Base} {r:List Int} {v1:List am} {v2 v11 v12 v13:Int} {v14 v15 v16 v26 v27:List Int} {v28:Int} {v29:List Int} {m1:Nat} {L1:Int→Int→Int→(List Int)→(List Int)→(List Int)→Option (List Int)} {m2:Nat} {L2:Int→(List Int)→Option (List Int)}
theorem xu (hK:KnOk K) (hL2:H12_2 M w0 r v27 m2 L2) (h:oC K n v27 L2 v28 v29=some r):VE (jP M w0) (q12 M w0 r) [bu p12_1,k12_2 M w0 r m2,.b 3,bu ms] .normal (s12_l3 v27 v28 v29):=by
  unfold oC at h
  refine ac (ks':=[bu p12_4,bu p12_5,k12_2 M w0 r m2,.b 3,bu ms]) 3 ?_
  rcases au h with ⟨h47,h⟩ | ⟨h47,h⟩
  ·
   refine ak 98 h47 (ac (ks':=[bu p12_6,bu p12_7,.b 4,bu p12_8,k12_2 M w0 r m2,.b 3,bu ms]) 5 (ai 1 ?_))
   obtain ⟨h48,h⟩:=av h
   refine aq (bM 1094 1 (eInt .i64) h48) (aq (bj 3 0 (eInt .i64) (eInt .i64) (aI h48).2 (fun _=>rfl)) (ag (ai 2 ?_)))
   obtain ⟨h49,h⟩:=av h
   refine aq (bM 17 1 (eInt .i64) h49) (aq (bj 3 0 (eInt .i64) (eInt .i64) (aI h49).2 (fun _=>rfl)) (aV 6 2 ?_))
   obtain ⟨h50,h⟩:=av h
   exact aq (bM 17 1 (eInt .i64) h50) (aq (cq 17 3 1 0 (eInt .i64) (eInt .i64) (w64 ((gD v29 v28)+(gD v27 v28))) (aI h50).2 (fun _=>rfl)) (ag (ah 2 (aY (hL2 h)))))
  ·
   refine ak 98 h47 (aQ 8 ?_)
   cases h
   exact cO
theorem wA (hK:KnOk K) (m:Nat):H12_2 M w0 r v27 m (lw K n v27 m):=by
  induction m with
 | zero=>intro v28 v29 h; cases h
 | succ m ih=>intro v28 v29 h; have h:oC K n v27 (lw K n v27 m) v28 v29=some r:=h; exact aW (xu hK ih h)
theorem sJ (hK:KnOk K) (h:ny K n v26 v27=some r):VE (jP M w0) (q12 M w0 r) [.b 2,bu p12_9] .normal (s12_j2 v26 v27):=by
  unfold ny at h
  exact ac (ks':=[bu p12_10,bu p12_11,bu ms]) 3 (ai 1 (aq (aZ (eInt .i64) v27) (ag (ah 1 (bz (p:=p12_12) n (wA hK n h))))))
theorem xh (hK:KnOk K) (hL1:H12_1 M w0 r v1 v2 m1 L1) (h:oM K n v1 v2 L1 v11 v12 v13 v14 v15 v16=some r):VE (jP M w0) (q12 M w0 r) [bu p12_3,gU M w0 r m1,.b 0,bu fy] .normal (s12_l1 v1 v2 v11 v12 v13 v14 v15 v16):=by
  unfold oM at h
  refine ac (ks':=[bu p12_13,bu p12_14,gU M w0 r m1,.b 0,bu fy]) 3 ?_
  rcases au h with ⟨h22,h⟩ | ⟨h22,h⟩
  ·
   refine ak 27 h22 (ac (ks':=[bu p12_15,bu p12_16,.b 1,bu kW,gU M w0 r m1,.b 0,bu fy]) 5 (ai 1 ?_))
   obtain ⟨h23,h⟩:=av h
   refine aq (bL aM aM h23 (iY) (fun _=>rfl)) (ag (ac (ks':=[bu p12_18,bu p12_19,.b 1,bu kW,gU M w0 r m1,.b 0,bu fy]) 1 (ai 4 ?_)))
   obtain ⟨v17,h24,h⟩:=bind_some h
   refine aR (iu hK h24) ?_
   obtain ⟨h25,h⟩:=av h
   refine aq (bM 17 1 (eInt .i64) h25) (aq (cq 17 3 1 0 (eInt .i64) (eInt .i64) v17 (aI h25).2 (fun _=>rfl)) (ag (ac (ks':=[bu p12_20,bu p12_21,.b 1,bu kW,gU M w0 r m1,.b 0,bu fy]) 1 (bt [1,5,6,7,8,9,10,11,24,25,26] [11] [17,20,23] ?_))))
   obtain ⟨v18,h26,h⟩:=bind_some h
   obtain ⟨h27,h⟩:=av h
   obtain ⟨h28,h⟩:=av h
   refine bE 1 (nu 37 [.ref 20,iI v13,.ptr 11 1,iI ((gD v1 v13).Most),iI v18,.ref 17,iI v13,.eptr 17 1 (v13.toNat) 0,iI (gD (List.set v14 v13.toNat v17) v13),iI (max v18 (gD (List.set v14 v13.toNat v17) v13)),.eptr 20 1 (v13.toNat) 0]) [] [] [strS 20 ⟨3,1,lm (eInt .i64) (List.set v15 v13.toNat (max v18 (gD (List.set v14 v13.toNat v17) v13)))⟩] (az (vz 4) (aj (e_c 0 1 41 (iu hK h26)) (az (vz 2) (d_v (bv 17 1 (eInt .i64) (L:=(List.set v14 v13.toNat v17)) h27) (d_v (bj 3 0 (eInt .i64) (eInt .i64) (aI h27).2 (fun _=>rfl)) (az [.v 0 1] (d_v (bv 20 1 (eInt .i64) (L:=v15) h28) (aj (e_s (m:=0) (cq 20 3 1 0 (eInt .i64) (eInt .i64) (max v18 (gD (List.set v14 v13.toNat v17) v13)) (aI h28).2 (fun _=>rfl))) bC)))))))) ?_
   obtain ⟨v19,h29,h⟩:=bind_some h
   have h29:=Option.some.inj h29
   refine bq (ks':=[bu p12_22,bu p12_23,.b 1,bu kW,gU M w0 r m1,.b 0,bu fy]) 1 ⟨[(1,iI v2),(5,.ref 17),(6,.ref 20),(7,.ref 23),(8,iI v11),(9,iI v12),(10,iI v13),(24,.sl (lm aM v1)),(25,iI (v1.length:Int)),(26,iI v13)],[],[(17,⟨3,1,lm (eInt .i64) (List.set v14 v13.toNat v17)⟩),(20,⟨3,1,lm (eInt .i64) v19⟩),(23,⟨3,1,lm (eInt .i64) v16⟩)],[17,20,23]⟩ ?_ (by subst h29; kernel_rfl)
   obtain ⟨h30,h⟩:=av h
   obtain ⟨h31,h⟩:=av h
   obtain ⟨h32,h⟩:=av h
   refine bE 1 (nu 48 [.ref 23,iI v13,.ref 20,iI v13,.eptr 20 1 (v13.toNat) 0,iI (gD v19 v13),.ref 17,iI v13,.eptr 17 1 (v13.toNat) 0,iI (gD (List.set v14 v13.toNat v17) v13),iI (w64 ((gD v19 v13) - (gD (List.set v14 v13.toNat v17) v13))),.eptr 23 1 (v13.toNat) 0]) [] [] [strS 23 ⟨3,1,lm (eInt .i64) (List.set v16 v13.toNat (w64 ((gD v19 v13) - (gD (List.set v14 v13.toNat v17) v13))))⟩] (az (vz 4) (d_v (bv 20 1 (eInt .i64) (L:=v19) h30) (d_v (bj 3 0 (eInt .i64) (eInt .i64) (aI h30).2 (fun _=>rfl)) (az (vz 2) (d_v (bv 17 1 (eInt .i64) (L:=(List.set v14 v13.toNat v17)) h31) (d_v (bj 3 0 (eInt .i64) (eInt .i64) (aI h31).2 (fun _=>rfl)) (az [.v 0 1] (d_v (bv 23 1 (eInt .i64) (L:=v16) h32) (aj (e_s (m:=0) (cq 23 3 1 0 (eInt .i64) (eInt .i64) (w64 ((gD v19 v13) - (gD (List.set v14 v13.toNat v17) v13))) (aI h32).2 (fun _=>rfl))) bC))))))))) ?_
   obtain ⟨v20,h33,h⟩:=bind_some h
   have h33:=Option.some.inj h33
   refine bq (ks':=[bu p12_24,bu p12_25,.b 1,bu kW,gU M w0 r m1,.b 0,bu fy]) 1 ⟨[(1,iI v2),(5,.ref 17),(6,.ref 20),(7,.ref 23),(8,iI v11),(9,iI v12),(10,iI v13),(24,.sl (lm aM v1)),(25,iI (v1.length:Int)),(26,iI v13)],[],[(17,⟨3,1,lm (eInt .i64) (List.set v14 v13.toNat v17)⟩),(20,⟨3,1,lm (eInt .i64) v19⟩),(23,⟨3,1,lm (eInt .i64) v20⟩)],[17,20,23]⟩ ?_ (by subst h33; kernel_rfl)
   refine ai 3 ?_
   obtain ⟨h34,h⟩:=av h
   refine aq (bM 17 1 (eInt .i64) h34) (aq (bj 3 0 (eInt .i64) (eInt .i64) (aI h34).2 (fun _=>rfl)) (ag ?_))
   obtain ⟨v21,h35,h⟩:=bind_some h
   have h35:=Option.some.inj h35
   refine bq (ks':=[bu p12_25,.b 1,bu kW,gU M w0 r m1,.b 0,bu fy]) 0 ⟨[(1,iI v2),(5,.ref 17),(6,.ref 20),(7,.ref 23),(8,iI v21),(9,iI v12),(10,iI v13),(24,.sl (lm aM v1)),(25,iI (v1.length:Int)),(26,iI v13)],[],[(17,⟨3,1,lm (eInt .i64) (List.set v14 v13.toNat v17)⟩),(20,⟨3,1,lm (eInt .i64) v19⟩),(23,⟨3,1,lm (eInt .i64) v20⟩)],[17,20,23]⟩ ?_ (by subst h35; kernel_rfl)
   refine ai 3 ?_
   obtain ⟨h36,h⟩:=av h
   exact aq (bM 20 1 (eInt .i64) h36) (aq (bj 3 0 (eInt .i64) (eInt .i64) (aI h36).2 (fun _=>rfl)) (ag (ah 2 (aY (hL1 h)))))
  ·
   refine ak 27 h22 (ac (ks':=[bu p12_26,.b 2,bu p12_9]) 11 ?_)
   rcases au h with ⟨h37,h⟩ | ⟨h37,h⟩
   ·
    refine ak 80 h37 (aQ 6 ?_)
    cases h
    exact cO
   ·
    refine ak 80 h37 (ac (ks':=[bu p12_27,.b 2,bu p12_9]) 3 ?_)
    rcases au h with ⟨h38,h⟩ | ⟨h38,h⟩
    ·
     refine ak 85 h38 (ac (ks':=[bu p12_28,.b 2,bu p12_9]) 1 (ai 3 ?_))
     obtain ⟨v22,h39,h⟩:=bind_some h
     refine aR (iu hK h39) (aV 5 1 ?_)
     obtain ⟨v23,h40,h⟩:=bind_some h
     exact ot_lxo 1094 (sL hK h40) (pX _ _ (sc_int _)) (by kernel_rfl:callArgsLx _ _=some (27,[iI v22,.sl (lm (eInt .i64) v16)],[iI v22,.ref 23])) (pm (q:=[]) (by kernel_rfl) trivial) (ag (ah 0 (sJ hK h)))
    ·
     refine ak 85 h38 (ac (ks':=[bu p12_29,.b 2,bu p12_9]) 3 (ai 3 ?_))
     obtain ⟨v24,h41,h⟩:=bind_some h
     refine aR (iu hK h41) (aV 5 1 ?_)
     obtain ⟨v25,h42,h⟩:=bind_some h
     exact ot_lxo 1079 (sA hK h42) (pX _ _ (sc_int _)) (by kernel_rfl:callArgsLx _ _=some (28,[iI v24,.sl (lm (eInt .i64) v15)],[iI v24,.ref 20])) (pm (q:=[]) (by kernel_rfl) trivial) (ag (bt [5,12] [] [20,1079] (ve_m 20 17 (ve_m 1079 1094 (ah 0 (sJ hK h))))))
theorem wh (hK:KnOk K) (m:Nat):H12_1 M w0 r v1 v2 m (lV K n v1 v2 m):=by
  induction m with
 | zero=>intro v11 v12 v13 v14 v15 v16 h; cases h
 | succ m ih=>intro v11 v12 v13 v14 v15 v16 h; have h:oM K n v1 v2 (lV K n v1 v2 m) v11 v12 v13 v14 v15 v16=some r:=h; exact aW (xh hK ih h)
theorem uv (hK:KnOk K) (h:kO K n v1 v2=some r):ACalls Try.prog 12 [.sl (lm aM v1),iI v2] (fun v s=>v = .ref 17∧look 17 s.r=some ⟨3,1,lm (eInt .i64) r⟩):=by
  refine bo (cat Try.f12 []) Try.func12 Try.ntmps12 fun M w0=>(bg ⟨[(0,.sl (lm aM v1)),(1,iI v2)],[],[],[]⟩ ?_)
  unfold kO at h
  refine ac (ks':=[bu [1,0],bu [1,1]]) 3 (ai 1 (aq (aZ aM v1) ?_))
  obtain ⟨h1,h⟩:=av h
  refine fV (eInt .i64) (0:Int) 33 (.tmp 16) (.tmp 16) 17 (e:=3) (sz:=1) (zc:=[iI 0]) (kd:=.i64) (kd':=.i64) h1 (ag ?_)
  obtain ⟨v3,h2,h⟩:=bind_some h
  have h2:=Option.some.inj h2
  refine bq (ks':=[bu [1,1,0],bu [1,1,1]]) 1 ⟨[(0,.sl (lm aM v1)),(1,iI v2),(5,.ref 17)],[],[(17,⟨3,1,lm (eInt .i64) v3⟩)],[17]⟩ ?_ (by subst h2; kernel_rfl)
  refine ai 1 (aq (aZ aM v1) ?_)
  obtain ⟨h3,h⟩:=av h
  refine fV (eInt .i64) (0:Int) 33 (.tmp 19) (.tmp 19) 20 (e:=3) (sz:=1) (zc:=[iI 0]) (kd:=.i64) (kd':=.i64) h3 (ag ?_)
  obtain ⟨v4,h4,h⟩:=bind_some h
  have h4:=Option.some.inj h4
  refine bq (ks':=[bu p12_30,bu p12_31]) 1 ⟨[(0,.sl (lm aM v1)),(1,iI v2),(5,.ref 17),(6,.ref 20)],[],[(17,⟨3,1,lm (eInt .i64) v3⟩),(20,⟨3,1,lm (eInt .i64) v4⟩)],[17,20]⟩ ?_ (by subst h4; kernel_rfl)
  refine ai 1 (aq (aZ aM v1) ?_)
  obtain ⟨h5,h⟩:=av h
  refine fV (eInt .i64) (0:Int) 33 (.tmp 22) (.tmp 22) 23 (e:=3) (sz:=1) (zc:=[iI 0]) (kd:=.i64) (kd':=.i64) h5 (ag ?_)
  obtain ⟨v5,h6,h⟩:=bind_some h
  have h6:=Option.some.inj h6
  refine bq (ks':=[bu p12_32,bu p12_33,bu fy]) 4 ⟨[(0,.sl (lm aM v1)),(1,iI v2),(5,.ref 17),(6,.ref 20),(7,.ref 23),(8,iI 0),(9,iI 0)],[],[(17,⟨3,1,lm (eInt .i64) v3⟩),(20,⟨3,1,lm (eInt .i64) v4⟩),(23,⟨3,1,lm (eInt .i64) v5⟩)],[17,20,23]⟩ ?_ (by subst h6; kernel_rfl)
  exact ai 1 (aq (aZ aM v1) (ag (ah 1 (bz (p:=p12_34) n (wh hK n h)))))
end
def p9_0:=pth 0 11111
def p9_1:=pth 0 11110
noncomputable section
abbrev cx9 (M:Nat→Prop) (w0:Base):Cx:=⟨Try.prog,58,M,w0⟩
abbrev q9 (M:Nat→Prop) (w0:Base) (r:Bool):=bodyPost Try.prog Try.f9 (RetQ M w0 (fun v _=>v = .bool r))
def s9_j1 (v3:Bool):AS:=⟨[(0,.bool v3)],[],[],[]⟩
variable {K:Kn} {n:Nat} {M:Nat→Prop} {w0:Base} {r v3:Bool} 
abbrev cF9 (p:List Nat):Kont:=.c (cat Try.f9 p)
theorem i7 (hK:KnOk K) (h:gj K n v3=some r):VE (cx9 M w0) (q9 M w0 r) [cF9 p9_0] .normal (s9_j1 v3):=by
  unfold gj at h
  refine aQ 1 ?_
  cases h
  exact bF
theorem g_law20_fit_ok (hK:KnOk K) (h:pd K n=some r):ACalls Try.prog 9 [] (fun v _=>v = .bool r):=by
  refine bo (cat Try.f9 []) Try.func9 Try.ntmps9 fun M w0=>(bg ⟨[],[],[],[]⟩ ?_)
  unfold pd at h
  refine ac (ks':=[cF9 [1,0],cF9 [1,1]]) 3 (ai 6 ?_)
  obtain ⟨v1,h1,h⟩:=bind_some h
  refine cZ 1011 (sE hK h1) (one_tup (i:=0) rfl) (ag (ac (ks':=[cF9 [1,1,0],cF9 [1,1,1]]) 1 (ai 3 ?_)))
  obtain ⟨v2,h2,h⟩:=bind_some h
  refine cZ 1017 (uv hK h2) (dQ 17) (ag (ac (ks':=[cF9 p9_1,cF9 p9_0]) 1 (ai 3 ?_)))
  rcases au h with ⟨h3,h⟩ | ⟨h3,h⟩
  ·
   refine aL 20 h3 (aV 4 1 (aq (aZ (eSl aC) v1.1) (aV 8 3 ?_)))
   rcases au h with ⟨h4,h⟩ | ⟨h4,h⟩
   ·
    refine aL 25 h4 (aV 9 1 ?_)
    obtain ⟨h5,h⟩:=av h
    refine aq (bM 1011 1 (eSl aC) h5) (aq (bj 28 0 (eSl aC) (eSl aC) (aI h5).2 (fun _=>rfl)) (aq (aZ aC (gD v1.1 (1:Int))) (aV 15 3 ?_)))
    rcases au h with ⟨h6,h⟩ | ⟨h6,h⟩
    ·
     refine aL 32 h6 (aV 16 1 ?_)
     obtain ⟨h7,h⟩:=av h
     refine aq (bM 1011 1 (eSl aC) h7) (aq (bj 28 0 (eSl aC) (eSl aC) (aI h7).2 (fun _=>rfl)) ?_)
     obtain ⟨h8,h⟩:=av h
     refine aq (bL aC aC h8 (fx) (fun _=>rfl)) (aV 24 5 ?_)
     rcases au h with ⟨h9,h⟩ | ⟨h9,h⟩
     ·
      refine aL 41 h9 (aV 25 1 (aq (aZ (eInt .i64) v2) (aV 29 3 ?_)))
      rcases au h with ⟨h10,h⟩ | ⟨h10,h⟩
      ·
       refine aL 46 h10 (aV 30 1 ?_)
       obtain ⟨h11,h⟩:=av h
       refine aq (bM 1017 1 (eInt .i64) h11) (aq (bj 3 0 (eInt .i64) (eInt .i64) (aI h11).2 (fun _=>rfl)) (aV 35 3 ?_))
       rcases au h with ⟨h12,h⟩ | ⟨h12,h⟩
       ·
        refine aL 52 h12 (aV 36 1 ?_)
        obtain ⟨h13,h⟩:=av h
        exact aq (bM 1017 1 (eInt .i64) h13) (aq (bj 3 0 (eInt .i64) (eInt .i64) (aI h13).2 (fun _=>rfl)) (ag (ah 0 (i7 hK h))))
       ·
        exact aL 52 h12 (ag (ah 0 (i7 hK h)))
      ·
       exact aL 46 h10 (ag (ah 0 (i7 hK h)))
     ·
      exact aL 41 h9 (ag (ah 0 (i7 hK h)))
    ·
     exact aL 32 h6 (ag (ah 0 (i7 hK h)))
   ·
    exact aL 25 h4 (ag (ah 0 (i7 hK h)))
  ·
   exact aL 20 h3 (ag (ah 0 (i7 hK h)))
end
noncomputable section
abbrev cx66 (M:Nat→Prop) (w0:Base):Cx:=⟨Try.prog,11,M,w0⟩
abbrev q66 (M:Nat→Prop) (w0:Base) (r:Bool):=bodyPost Try.prog Try.f66 (RetQ M w0 (fun v _=>v = .bool r))
def s66_j1 (v2:Bool):AS:=⟨[(2,.bool v2)],[],[],[]⟩
variable {K:Kn} {n:Nat} {M:Nat→Prop} {w0:Base} {r:Bool} {v1:cn} {v2:Bool} 
abbrev cF66 (p:List Nat):Kont:=.c (cat Try.f66 p)
theorem sS (hK:KnOk K) (h:pi K n v2=some r):VE (cx66 M w0) (q66 M w0 r) [cF66 [1,1]] .normal (s66_j1 v2):=by
  unfold pi at h
  refine aQ 1 ?_
  cases h
  exact bF
theorem dM (hK:KnOk K) (h:dg K n v1=some r):ACalls Try.prog 66 [.agg (iG v1)] (fun v _=>v = .bool r):=by
  refine bo (cat Try.f66 []) Try.func66 Try.ntmps66 fun M w0=>(bg ⟨[(0,.agg (iG v1))],[],[],[]⟩ ?_)
  unfold dg at h
  refine ac (ks':=[cF66 [1,0],cF66 [1,1]]) 3 (ai 4 ?_)
  rcases au h with ⟨h1,h⟩ | ⟨h1,h⟩
  ·
   exact aL 6 h1 (ag (ah 0 (sS hK h)))
  ·
   exact aL 6 h1 (ag (ah 0 (sS hK h)))
end
def p39_0:=pth 0 110100
def iw:=pth 0 110100100111001001
def g7:=pth 0 1101001001110011
def cD:=pth 0 11010011
def eG:=pth 0 11010010011100
def p39_5:=pth 0 110100100111001000
def p39_6:=pth 0 110100100101
def p39_7:=pth 0 11010010011
def p39_8:=pth 0 1101001001110
def p39_9:=pth 0 11010000
def p39_10:=pth 0 11010001
def p39_11:=pth 0 1101001
def p39_12:=pth 0 1101001000
def p39_13:=pth 0 1101001001
def p39_14:=pth 0 110100100100
def p39_15:=pth 0 11010
noncomputable section
abbrev da (M:Nat→Prop) (w0:Base):Cx:=⟨Try.prog,130,M,w0⟩
abbrev q39 (M:Nat→Prop) (w0:Base) (r:Bool):=bodyPost Try.prog Try.f39 (RetQ M w0 (fun v _=>v = .bool r))
abbrev aU (p:List Nat):Kont:=.c (cat Try.f39 p)
abbrev cu (M:Nat→Prop) (w0:Base) (r:Bool) (m1:Nat):Kont:=kl (da M w0) (q39 M w0 r) [.b 0,aU [1,1]] (cat Try.f39 p39_0) m1
def s39_j5 (v1:List bN) (v2 v23:Int) (v43:Bool):AS:=⟨[(0,.sl (lm bV v1)),(1,iI v2),(5,iI v23),(6,.ptr 6 0),(7,iI 3),(125,.bool v43)],[(6,aO ((gD v1 v23).Style))],[],[6]⟩
def s39_j4 (v1:List bN) (v2 v23:Int) (v40:Bool):AS:=⟨[(0,.sl (lm bV v1)),(1,iI v2),(5,iI v23),(6,.ptr 6 0),(7,iI 2),(125,.bool v40)],[(6,aO ((gD v1 v23).Style))],[],[6]⟩
def s39_j3 (v1:List bN) (v2 v23:Int) (v37:Bool):AS:=⟨[(0,.sl (lm bV v1)),(1,iI v2),(5,iI v23),(6,.ptr 6 0),(7,iI 1),(125,.bool v37)],[(6,aO ((gD v1 v23).Style))],[],[6]⟩
def s39_j2 (v1:List bN) (v2 v23:Int) (v34:Bool):AS:=⟨[(0,.sl (lm bV v1)),(1,iI v2),(5,iI v23),(6,.ptr 6 0),(7,iI 0),(125,.bool v34)],[(6,aO ((gD v1 v23).Style))],[],[6]⟩
def s39_j1 (v1:List bN) (v2 v23:Int) (v31:Bool):AS:=⟨[(0,.sl (lm bV v1)),(1,iI v2),(5,iI v23),(6,.ptr 6 0),(107,.bool v31)],[(6,aO ((gD v1 v23).Style))],[],[6]⟩
def s39_l6 (v1:List bN) (v2 v23:Int):AS:=⟨[(0,.sl (lm bV v1)),(1,iI v2),(5,iI v23)],[],[],[]⟩
abbrev jf (M:Nat→Prop) (w0:Base) (r:Bool) (v1:List bN) (v2:Int) (m1:Nat) (L1:Int→Option Bool):Prop:=∀ {v23:Int},L1 v23=some r→LP (da M w0) (q39 M w0 r) [.b 0,aU [1,1]] (cat Try.f39 p39_0) m1 (s39_l6 v1 v2 v23)
variable {K:Kn} {n:Nat} {M:Nat→Prop} {w0:Base} {r:Bool} {v1:List bN} {v2 v23:Int} {v31 v34 v37 v40 v43:Bool} {m1:Nat} {L1:Int→Option Bool}
theorem tR (hK:KnOk K) (hL1:jf M w0 r v1 v2 m1 L1) (h:ky K n v1 v2 v23 L1 v43=some r):VE (da M w0) (q39 M w0 r) [aU iw,.b 3,aU g7,kl (da M w0) (q39 M w0 r) [.b 2,.b 1,aU cD,cu M w0 r m1,.b 0,aU [1,1]] (cat Try.f39 eG) 36,.b 2,.b 1,aU cD,cu M w0 r m1,.b 0,aU [1,1]] .normal (s39_j5 v1 v2 v23 v43):=by
  unfold ky at h
  rcases au h with ⟨h84,h⟩ | ⟨h84,h⟩
  ·
   refine ak 125 h84 (aQ 13 ?_)
   cases h
   exact bF
  ·
   exact ak 125 h84 (bq (ks':=[kl (da M w0) (q39 M w0 r) [.b 2,.b 1,aU cD,cu M w0 r m1,.b 0,aU [1,1]] (cat Try.f39 eG) 36,.b 2,.b 1,aU cD,cu M w0 r m1,.b 0,aU [1,1]]) 4 ⟨[(0,.sl (lm bV v1)),(1,iI v2),(5,iI v23),(6,.ptr 6 0),(7,iI 4)],[(6,aO ((gD v1 v23).Style))],[],[6]⟩ (aY (aW (ah 10 (aY (hL1 h))))))
theorem sP (hK:KnOk K) (hL1:jf M w0 r v1 v2 m1 L1) (h:oH K n v1 v2 v23 L1 v40=some r):VE (da M w0) (q39 M w0 r) [aU iw,.b 3,aU g7,kl (da M w0) (q39 M w0 r) [.b 2,.b 1,aU cD,cu M w0 r m1,.b 0,aU [1,1]] (cat Try.f39 eG) 37,.b 2,.b 1,aU cD,cu M w0 r m1,.b 0,aU [1,1]] .normal (s39_j4 v1 v2 v23 v40):=by
  unfold oH at h
  rcases au h with ⟨h80,h⟩ | ⟨h80,h⟩
  ·
   refine ak 125 h80 (aQ 13 ?_)
   cases h
   exact bF
  ·
   refine ak 125 h80 (bq (ks':=[kl (da M w0) (q39 M w0 r) [.b 2,.b 1,aU cD,cu M w0 r m1,.b 0,aU [1,1]] (cat Try.f39 eG) 37,.b 2,.b 1,aU cD,cu M w0 r m1,.b 0,aU [1,1]]) 4 ⟨[(0,.sl (lm bV v1)),(1,iI v2),(5,iI v23),(6,.ptr 6 0),(7,iI 3)],[(6,aO ((gD v1 v23).Style))],[],[6]⟩ (aY (aW (ac (ks':=[aU p39_5,aU iw,.b 3,aU g7,kl (da M w0) (q39 M w0 r) [.b 2,.b 1,aU cD,cu M w0 r m1,.b 0,aU [1,1]] (cat Try.f39 eG) 36,.b 2,.b 1,aU cD,cu M w0 r m1,.b 0,aU [1,1]]) 8 (ai 4 ?_)))))
   obtain ⟨v41,h81,h⟩:=bind_some h
   refine aR (dM hK h81) (aV 7 2 ?_)
   rcases au h with ⟨h82,h⟩ | ⟨h82,h⟩
   ·
    exact aL 118 h82 (ag (ah 0 (tR hK hL1 h)))
   ·
    refine aL 118 h82 (aV 11 4 ?_)
    obtain ⟨v42,h83,h⟩:=bind_some h
    exact aR (dM hK h83) (ag (ah 0 (tR hK hL1 h)))
theorem tm (hK:KnOk K) (hL1:jf M w0 r v1 v2 m1 L1) (h:ow K n v1 v2 v23 L1 v37=some r):VE (da M w0) (q39 M w0 r) [aU iw,.b 3,aU g7,kl (da M w0) (q39 M w0 r) [.b 2,.b 1,aU cD,cu M w0 r m1,.b 0,aU [1,1]] (cat Try.f39 eG) 38,.b 2,.b 1,aU cD,cu M w0 r m1,.b 0,aU [1,1]] .normal (s39_j3 v1 v2 v23 v37):=by
  unfold ow at h
  rcases au h with ⟨h76,h⟩ | ⟨h76,h⟩
  ·
   refine ak 125 h76 (aQ 13 ?_)
   cases h
   exact bF
  ·
   refine ak 125 h76 (bq (ks':=[kl (da M w0) (q39 M w0 r) [.b 2,.b 1,aU cD,cu M w0 r m1,.b 0,aU [1,1]] (cat Try.f39 eG) 38,.b 2,.b 1,aU cD,cu M w0 r m1,.b 0,aU [1,1]]) 4 ⟨[(0,.sl (lm bV v1)),(1,iI v2),(5,iI v23),(6,.ptr 6 0),(7,iI 2)],[(6,aO ((gD v1 v23).Style))],[],[6]⟩ (aY (aW (ac (ks':=[aU p39_5,aU iw,.b 3,aU g7,kl (da M w0) (q39 M w0 r) [.b 2,.b 1,aU cD,cu M w0 r m1,.b 0,aU [1,1]] (cat Try.f39 eG) 37,.b 2,.b 1,aU cD,cu M w0 r m1,.b 0,aU [1,1]]) 8 (ai 4 ?_)))))
   obtain ⟨v38,h77,h⟩:=bind_some h
   refine aR (dM hK h77) (aV 7 2 ?_)
   rcases au h with ⟨h78,h⟩ | ⟨h78,h⟩
   ·
    exact aL 118 h78 (ag (ah 0 (sP hK hL1 h)))
   ·
    refine aL 118 h78 (aV 11 4 ?_)
    obtain ⟨v39,h79,h⟩:=bind_some h
    exact aR (dM hK h79) (ag (ah 0 (sP hK hL1 h)))
theorem sM (hK:KnOk K) (hL1:jf M w0 r v1 v2 m1 L1) (h:mS K n v1 v2 v23 L1 v34=some r):VE (da M w0) (q39 M w0 r) [aU iw,.b 3,aU g7,kl (da M w0) (q39 M w0 r) [.b 2,.b 1,aU cD,cu M w0 r m1,.b 0,aU [1,1]] (cat Try.f39 eG) 39,.b 2,.b 1,aU cD,cu M w0 r m1,.b 0,aU [1,1]] .normal (s39_j2 v1 v2 v23 v34):=by
  unfold mS at h
  rcases au h with ⟨h72,h⟩ | ⟨h72,h⟩
  ·
   refine ak 125 h72 (aQ 13 ?_)
   cases h
   exact bF
  ·
   refine ak 125 h72 (bq (ks':=[kl (da M w0) (q39 M w0 r) [.b 2,.b 1,aU cD,cu M w0 r m1,.b 0,aU [1,1]] (cat Try.f39 eG) 39,.b 2,.b 1,aU cD,cu M w0 r m1,.b 0,aU [1,1]]) 4 ⟨[(0,.sl (lm bV v1)),(1,iI v2),(5,iI v23),(6,.ptr 6 0),(7,iI 1)],[(6,aO ((gD v1 v23).Style))],[],[6]⟩ (aY (aW (ac (ks':=[aU p39_5,aU iw,.b 3,aU g7,kl (da M w0) (q39 M w0 r) [.b 2,.b 1,aU cD,cu M w0 r m1,.b 0,aU [1,1]] (cat Try.f39 eG) 38,.b 2,.b 1,aU cD,cu M w0 r m1,.b 0,aU [1,1]]) 8 (ai 4 ?_)))))
   obtain ⟨v35,h73,h⟩:=bind_some h
   refine aR (dM hK h73) (aV 7 2 ?_)
   rcases au h with ⟨h74,h⟩ | ⟨h74,h⟩
   ·
    exact aL 118 h74 (ag (ah 0 (tm hK hL1 h)))
   ·
    refine aL 118 h74 (aV 11 4 ?_)
    obtain ⟨v36,h75,h⟩:=bind_some h
    exact aR (dM hK h75) (ag (ah 0 (tm hK hL1 h)))
theorem dE (hK:KnOk K) (hL1:jf M w0 r v1 v2 m1 L1) (h:cU K n v1 v2 v23 L1 v31=some r):VE (da M w0) (q39 M w0 r) [aU p39_6,aU p39_7,.b 1,aU cD,cu M w0 r m1,.b 0,aU [1,1]] .normal (s39_j1 v1 v2 v23 v31):=by
  unfold cU at h
  rcases au h with ⟨h68,h⟩ | ⟨h68,h⟩
  ·
   refine ak 107 h68 (aQ 10 ?_)
   cases h
   exact bF
  ·
   refine ak 107 h68 (bq (ks':=[aU p39_8,.b 2,.b 1,aU cD,cu M w0 r m1,.b 0,aU [1,1]]) 5 ⟨[(0,.sl (lm bV v1)),(1,iI v2),(5,iI v23),(6,.ptr 6 0),(7,iI 0)],[(6,aO ((gD v1 v23).Style))],[],[6]⟩ (mL 40 (c:=cat Try.f39 eG) (by kernel_rfl) (aW (ac (ks':=[aU p39_5,aU iw,.b 3,aU g7,kl (da M w0) (q39 M w0 r) [.b 2,.b 1,aU cD,cu M w0 r m1,.b 0,aU [1,1]] (cat Try.f39 eG) 39,.b 2,.b 1,aU cD,cu M w0 r m1,.b 0,aU [1,1]]) 8 (ai 4 ?_)))))
   obtain ⟨v32,h69,h⟩:=bind_some h
   refine aR (dM hK h69) (aV 7 2 ?_)
   rcases au h with ⟨h70,h⟩ | ⟨h70,h⟩
   ·
    exact aL 118 h70 (ag (ah 0 (sM hK hL1 h)))
   ·
    refine aL 118 h70 (aV 11 4 ?_)
    obtain ⟨v33,h71,h⟩:=bind_some h
    exact aR (dM hK h71) (ag (ah 0 (sM hK hL1 h)))
theorem vr (hK:KnOk K) (hL1:jf M w0 r v1 v2 m1 L1) (h:gx K n v1 v2 L1 v23=some r):VE (da M w0) (q39 M w0 r) [aU p39_0,cu M w0 r m1,.b 0,aU [1,1]] .normal (s39_l6 v1 v2 v23):=by
  unfold gx at h
  refine ac (ks':=[aU p39_9,aU p39_10,aU p39_11,cu M w0 r m1,.b 0,aU [1,1]]) 2 (ai 2 (aq (aZ bV v1) (ag ?_)))
  rcases au h with ⟨h43,h⟩ | ⟨h43,h⟩
  ·
   refine ak 11 h43 (ac (ks':=[aU p39_12,aU p39_13,.b 1,aU cD,cu M w0 r m1,.b 0,aU [1,1]]) 5 (ai 2 ?_))
   obtain ⟨h44,h⟩:=av h
   refine aq (bL bV bV h44 (qR) (fun _=>rfl)) (ag (ac (ks':=[aU p39_14,aU p39_6,aU p39_7,.b 1,aU cD,cu M w0 r m1,.b 0,aU [1,1]]) 2 (ai 2 ?_)))
   obtain ⟨h45,h⟩:=av h
   refine aq (bL bV bV h45 (qR) (fun _=>rfl)) (aV 8 5 ?_)
   rcases au h with ⟨h46,h⟩ | ⟨h46,h⟩
   ·
    exact aL 26 h46 (ag (ah 0 (dE hK hL1 h)))
   ·
    refine aL 26 h46 (aV 10 2 ?_)
    obtain ⟨v24,h47,h⟩:=bind_some h
    refine aR (dM hK h47) (aV 14 3 ?_)
    rcases au h with ⟨h48,h⟩ | ⟨h48,h⟩
    ·
     exact aL 32 h48 (ag (ah 0 (dE hK hL1 h)))
    ·
     refine aL 32 h48 (aV 16 2 ?_)
     obtain ⟨v25,h49,h⟩:=bind_some h
     refine aR (dM hK h49) (aV 20 3 ?_)
     rcases au h with ⟨h50,h⟩ | ⟨h50,h⟩
     ·
      exact aL 38 h50 (ag (ah 0 (dE hK hL1 h)))
     ·
      refine aL 38 h50 (aV 22 2 ?_)
      obtain ⟨v26,h51,h⟩:=bind_some h
      refine aR (dM hK h51) (aV 26 3 ?_)
      rcases au h with ⟨h52,h⟩ | ⟨h52,h⟩
      ·
       exact aL 44 h52 (ag (ah 0 (dE hK hL1 h)))
      ·
       refine aL 44 h52 (aV 28 2 ?_)
       obtain ⟨v27,h53,h⟩:=bind_some h
       refine aR (dM hK h53) (aV 32 3 ?_)
       rcases au h with ⟨h54,h⟩ | ⟨h54,h⟩
       ·
        exact aL 50 h54 (ag (ah 0 (dE hK hL1 h)))
       ·
        refine aL 50 h54 (aV 34 2 ?_)
        obtain ⟨v28,h55,h⟩:=bind_some h
        refine aR (dM hK h55) (aV 38 3 ?_)
        rcases au h with ⟨h56,h⟩ | ⟨h56,h⟩
        ·
         exact aL 56 h56 (ag (ah 0 (dE hK hL1 h)))
        ·
         refine aL 56 h56 (aV 40 2 ?_)
         obtain ⟨v29,h57,h⟩:=bind_some h
         refine aR (dM hK h57) (aV 44 3 ?_)
         rcases au h with ⟨h58,h⟩ | ⟨h58,h⟩
         ·
          exact aL 62 h58 (ag (ah 0 (dE hK hL1 h)))
         ·
          refine aL 62 h58 (aV 46 2 ?_)
          obtain ⟨v30,h59,h⟩:=bind_some h
          refine aR (dM hK h59) (aV 50 3 ?_)
          rcases au h with ⟨h60,h⟩ | ⟨h60,h⟩
          ·
           exact aL 68 h60 (ag (ah 0 (dE hK hL1 h)))
          ·
           refine aL 68 h60 (aV 55 5 ?_)
           rcases au h with ⟨h61,h⟩ | ⟨h61,h⟩
           ·
            exact aL 73 h61 (ag (ah 0 (dE hK hL1 h)))
           ·
            refine aL 73 h61 (aV 60 5 ?_)
            rcases au h with ⟨h62,h⟩ | ⟨h62,h⟩
            ·
             exact aL 78 h62 (ag (ah 0 (dE hK hL1 h)))
            ·
             refine aL 78 h62 (aV 65 5 ?_)
             rcases au h with ⟨h63,h⟩ | ⟨h63,h⟩
             ·
              exact aL 83 h63 (ag (ah 0 (dE hK hL1 h)))
             ·
              refine aL 83 h63 (aV 70 5 ?_)
              rcases au h with ⟨h64,h⟩ | ⟨h64,h⟩
              ·
               exact aL 88 h64 (ag (ah 0 (dE hK hL1 h)))
              ·
               refine aL 88 h64 (aV 75 5 ?_)
               rcases au h with ⟨h65,h⟩ | ⟨h65,h⟩
               ·
                exact aL 93 h65 (ag (ah 0 (dE hK hL1 h)))
               ·
                refine aL 93 h65 (aV 80 5 ?_)
                rcases au h with ⟨h66,h⟩ | ⟨h66,h⟩
                ·
                 exact aL 98 h66 (ag (ah 0 (dE hK hL1 h)))
                ·
                 refine aL 98 h66 (aV 85 5 ?_)
                 rcases au h with ⟨h67,h⟩ | ⟨h67,h⟩
                 ·
                  exact aL 103 h67 (ag (ah 0 (dE hK hL1 h)))
                 ·
                  exact aL 103 h67 (ag (ah 0 (dE hK hL1 h)))
  ·
   refine ak 11 h43 (ac (ks':=[aU [1,1,0],aU [1,1,1]]) 6 (ai 1 (aq (aZ bV v1) (ag (aQ 1 ?_)))))
   cases h
   exact bF
theorem wR (hK:KnOk K) (m:Nat):jf M w0 r v1 v2 m (jj K n v1 v2 m):=by
  induction m with
 | zero=>intro v23 h; cases h
 | succ m ih=>intro v23 h; have h:gx K n v1 v2 (jj K n v1 v2 m) v23=some r:=h; exact aW (vr hK ih h)
theorem g_ref17_Few_ok (hK:KnOk K) (h:qp K n v1 v2=some r):ACalls Try.prog 39 [.sl (lm bV v1),iI v2] (fun v _=>v = .bool r):=by
  refine bo (cat Try.f39 []) Try.func39 Try.ntmps39 fun M w0=>(bg ⟨[(0,.sl (lm bV v1)),(1,iI v2)],[],[],[]⟩ ?_)
  unfold qp at h
  exact ah 6 (bz (p:=p39_15) n (wR hK n h))
end
noncomputable section
abbrev cx20 (M:Nat→Prop) (w0:Base):Cx:=⟨Try.prog,10,M,w0⟩
abbrev q20 (M:Nat→Prop) (w0:Base) (r:Bool):=bodyPost Try.prog Try.f20 (RetQ M w0 (fun v _=>v = .bool r))
def s20_j1 (v3:Bool):AS:=⟨[(2,.bool v3)],[],[],[]⟩
variable {K:Kn} {n:Nat} {M:Nat→Prop} {w0:Base} {r:Bool} {v1:List bN} {v3:Bool} 
abbrev cF20 (p:List Nat):Kont:=.c (cat Try.f20 p)
theorem tf (hK:KnOk K) (h:nK K n v3=some r):VE (cx20 M w0) (q20 M w0 r) [cF20 [1,1]] .normal (s20_j1 v3):=by
  unfold nK at h
  refine aQ 1 ?_
  cases h
  exact bF
theorem g_law20_fits_ok (hK:KnOk K) (h:oo K n v1=some r):ACalls Try.prog 20 [.sl (lm bV v1)] (fun v _=>v = .bool r):=by
  refine bo (cat Try.f20 []) Try.func20 Try.ntmps20 fun M w0=>(bg ⟨[(0,.sl (lm bV v1))],[],[],[]⟩ ?_)
  unfold oo at h
  refine ac (ks':=[cF20 [1,0],cF20 [1,1]]) 3 (ai 1 ?_)
  obtain ⟨v2,h1,h⟩:=bind_some h
  refine aR (g_ref17_Few_ok hK h1) (aV 3 1 ?_)
  rcases au h with ⟨h2,h⟩ | ⟨h2,h⟩
  ·
   exact aL 5 h2 (aV 4 1 (aq (aZ bV v1) (ag (ah 0 (tf hK h)))))
  ·
   exact aL 5 h2 (ag (ah 0 (tf hK h)))
end
end Go.Proofs.Ytolhpahjgddjkaa

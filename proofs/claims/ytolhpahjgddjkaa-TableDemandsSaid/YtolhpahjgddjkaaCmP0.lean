/- The runs of the functions that TableDemands reaches do what their plain forms say, part 0. Made by a program. -/
import Derived.Test.YtolhpahjgddjkaaCmGk
namespace Go.Proofs.Ytolhpahjgddjkaa
open Go.RowKit
set_option maxRecDepth 20000
set_option linter.all false
set_option linter.unusedVariables false
set_option linter.unusedSimpArgs false
def p10_0:=pth 0 1110100
def bG:=pth 0 1110100110011111
def bc:=pth 0 1110100111
def p10_3:=pth 0 1110100110011110100
def cf:=pth 0 111010011001111
def p10_5:=pth 0 111010011001110100
def p10_6:=pth 0 111010011001110100110011
def dH:=pth 0 111010011001110100111
def p10_8:=pth 0 11101001100111010011001000
def ch:=pth 0 1110100110011110100111
def p10_10:=pth 0 111010011001111010011001100
def dh:=pth 0 11101001100111101001100110011
def p10_12:=pth 0 1110100110011110100110011001001100
def p10_13:=pth 0 1110100110011101001100100000
def p10_14:=pth 0 1110100110011101001100100001
def p10_15:=pth 0 111010011001110100110010001
def p10_16:=pth 0 1110100110011101001100110
def p10_17:=pth 0 1110100110011101001100111
def p10_18:=pth 0 11101001100111010011001110
def p10_19:=pth 0 11101001100111010011001111
def p10_20:=pth 0 111010011001111010011001100100110001
def p10_21:=pth 0 11101001100111101001100110010011001
def p10_22:=pth 0 1110100110011110100110011001001100100
def p10_23:=pth 0 111010011001111010011001100100110011
def p10_24:=pth 0 1110100110011110100110011001001
def p10_25:=pth 0 111010011001111010011001100100110
def p10_26:=pth 0 11101001100111101001100110001
def p10_27:=pth 0 1110100110011110100110011001
def p10_28:=pth 0 11101001100111101001100110010000
def p10_29:=pth 0 11101001100111101001100110010001
def p10_30:=pth 0 111010011001111010011001100100010
def p10_31:=pth 0 111010011001111010010
def p10_32:=pth 0 111010011001111010011
def p10_33:=pth 0 111010011001111010011000
def p10_34:=pth 0 111010011001111010011001
def p10_35:=pth 0 11101001100111101001100110
def p10_36:=pth 0 11101001100111010010
def p10_37:=pth 0 11101001100111010011
def p10_38:=pth 0 11101001100111010011000
def p10_39:=pth 0 11101001100111010011001
def p10_40:=pth 0 1110100110011101001100100
def p10_41:=pth 0 11101001100111100
def p10_42:=pth 0 11101001100111101
def p10_43:=pth 0 111010011001111010
def p10_44:=pth 0 111010010
def p10_45:=pth 0 111010011
def p10_46:=pth 0 111010011000
def p10_47:=pth 0 111010011001
def p10_48:=pth 0 1110100110011100
def p10_49:=pth 0 1110100110011101
def p10_50:=pth 0 11101001100111010
def p10_51:=pth 0 11100
def p10_52:=pth 0 11101
def p10_53:=pth 0 111010
noncomputable section
abbrev bK (M:Nat→Prop) (w0:Base):Cx:=⟨Try.prog,116,M,w0⟩
abbrev q10 (M:Nat→Prop) (w0:Base) (r:(List (List ab))×Int):=bodyPost Try.prog Try.f10 (RetQ M w0 (fun v s=>v = .tup [.ref 112,iI r.2]∧look 112 s.r=some ⟨28,1,lm (eSl am) r.1⟩))
abbrev ac (p:List Nat):Kont:=.c (cat Try.f10 p)
abbrev aW (M:Nat→Prop) (w0:Base) (r:(List (List ab))×Int) (m1:Nat):Kont:=kl (bK M w0) (q10 M w0 r) [.b 0,ac [1,1,1]] (cat Try.f10 p10_0) m1
abbrev bW (M:Nat→Prop) (w0:Base) (r:(List (List ab))×Int) (m1 m4:Nat):Kont:=kl (bK M w0) (q10 M w0 r) [.b 6,ac bG,.b 1,ac bc,aW M w0 r m1,.b 0,ac [1,1,1]] (cat Try.f10 p10_3) m4
abbrev cW (M:Nat→Prop) (w0:Base) (r:(List (List ab))×Int) (m1 m2:Nat):Kont:=kl (bK M w0) (q10 M w0 r) [.b 2,ac cf,.b 1,ac bc,aW M w0 r m1,.b 0,ac [1,1,1]] (cat Try.f10 p10_5) m2
abbrev k10_3 (M:Nat→Prop) (w0:Base) (r:(List (List ab))×Int) (m2 m1 m3:Nat):Kont:=kl (bK M w0) (q10 M w0 r) [.b 4,ac p10_6,.b 3,ac dH,cW M w0 r m1 m2,.b 2,ac cf,.b 1,ac bc,aW M w0 r m1,.b 0,ac [1,1,1]] (cat Try.f10 p10_8) m3
abbrev cC (M:Nat→Prop) (w0:Base) (r:(List (List ab))×Int) (m4 m1 m5:Nat):Kont:=kl (bK M w0) (q10 M w0 r) [.b 8,.b 7,ac ch,bW M w0 r m1 m4,.b 6,ac bG,.b 1,ac bc,aW M w0 r m1,.b 0,ac [1,1,1]] (cat Try.f10 p10_10) m5
abbrev k10_6 (M:Nat→Prop) (w0:Base) (r:(List (List ab))×Int) (m5 m4 m1 m6:Nat):Kont:=kl (bK M w0) (q10 M w0 r) [.b 10,.b 9,ac dh,cC M w0 r m4 m1 m5,.b 8,.b 7,ac ch,bW M w0 r m1 m4,.b 6,ac bG,.b 1,ac bc,aW M w0 r m1,.b 0,ac [1,1,1]] (cat Try.f10 p10_12) m6
def s10_l1 (v1:List (List (V2 Int))) (v122:Int) (v123:List (List ab)) (v124:List TMp) (v139 v141 v142:Int) (v143:List ab) (v146:Int) (v147:V2 Int):AS:=⟨[(0,.sl (lm (eSl (eV2 (eInt .i64))) v1)),(2,.ref 112),(3,iI v139),(4,.ref 500018),(5,iI v122),(7,.ref 58),(8,iI v146),(10,.ptr 10 0),(19,.sl (lm (eSl (eV2 (eInt .i64))) v1)),(20,iI (v1.length:Int)),(21,iI v122),(26,.sl (lm (eV2 (eInt .i64)) (gD v1 v122))),(27,iI v141),(28,iI v142)],[(10,(eV2 (eInt .i64)) v147)],[(58,⟨30,4,lm am v143⟩),(112,⟨28,1,lm (eSl am) v123⟩),(500018,⟨75,1,lm eOmp v124⟩)],[10,58,112,500018]⟩
def s10_l4 (v1:List (List (V2 Int))) (v122:Int) (v123:List (List ab)) (v139:Int) (v143:List ab) (v166 v175 v181:Int) (v182:List TMp):AS:=⟨[(0,.sl (lm (eSl (eV2 (eInt .i64))) v1)),(2,.ref 112),(3,iI v139),(4,.ref 500018),(5,iI v122),(7,.ref 58),(13,.ptr 13 0),(14,iI v175),(15,iI v181),(19,.sl (lm (eSl (eV2 (eInt .i64))) v1)),(20,iI (v1.length:Int)),(21,iI v122),(67,.ref 58),(68,iI (v143.length:Int)),(69,iI v166)],[(13,am (gD v143 v166))],[(58,⟨30,4,lm am v143⟩),(112,⟨28,1,lm (eSl am) v123⟩),(500018,⟨75,1,lm eOmp v182⟩)],[13,58,112,500018]⟩
def s10_j3 (v1:List (List (V2 Int))) (v122:Int) (v123:List (List ab)) (v139:Int) (v143:List ab) (v166 v175:Int) (v179:List TMp):AS:=⟨[(0,.sl (lm (eSl (eV2 (eInt .i64))) v1)),(2,.ref 112),(3,iI v139),(4,.ref 500018),(5,iI v122),(7,.ref 58),(13,.ptr 13 0),(14,iI v175),(19,.sl (lm (eSl (eV2 (eInt .i64))) v1)),(20,iI (v1.length:Int)),(21,iI v122),(67,.ref 58),(68,iI (v143.length:Int)),(69,iI v166)],[(13,am (gD v143 v166))],[(58,⟨30,4,lm am v143⟩),(112,⟨28,1,lm (eSl am) v123⟩),(500018,⟨75,1,lm eOmp v179⟩)],[13,58,112,500018]⟩
def s10_l5 (v1:List (List (V2 Int))) (v122:Int) (v123:List (List ab)) (v139:Int) (v143:List ab) (v166 v175:Int) (v176:List TMp):AS:=⟨[(0,.sl (lm (eSl (eV2 (eInt .i64))) v1)),(2,.ref 112),(3,iI v139),(4,.ref 500018),(5,iI v122),(7,.ref 58),(13,.ptr 13 0),(14,iI v175),(19,.sl (lm (eSl (eV2 (eInt .i64))) v1)),(20,iI (v1.length:Int)),(21,iI v122),(67,.ref 58),(68,iI (v143.length:Int)),(69,iI v166)],[(13,am (gD v143 v166))],[(58,⟨30,4,lm am v143⟩),(112,⟨28,1,lm (eSl am) v123⟩),(500018,⟨75,1,lm eOmp v176⟩)],[13,58,112,500018]⟩
def s10_l6 (v1:List (List (V2 Int))) (v122:Int) (v123:List (List ab)) (v139:Int) (v143:List ab) (v166:Int) (v167:List TMp):AS:=⟨[(0,.sl (lm (eSl (eV2 (eInt .i64))) v1)),(2,.ref 112),(3,iI v139),(4,.ref 500018),(5,iI v122),(7,.ref 58),(19,.sl (lm (eSl (eV2 (eInt .i64))) v1)),(20,iI (v1.length:Int)),(21,iI v122),(67,.ref 58),(68,iI (v143.length:Int)),(69,iI v166)],[],[(58,⟨30,4,lm am v143⟩),(112,⟨28,1,lm (eSl am) v123⟩),(500018,⟨75,1,lm eOmp v167⟩)],[58,112,500018]⟩
def s10_l2 (v1:List (List (V2 Int))) (v122:Int) (v123:List (List ab)) (v124:List TMp) (v139 v140 v141 v142:Int) (v143:List ab):AS:=⟨[(0,.sl (lm (eSl (eV2 (eInt .i64))) v1)),(2,.ref 112),(3,iI v139),(4,.ref 500018),(5,iI v122),(7,.ref 58),(8,iI v140),(19,.sl (lm (eSl (eV2 (eInt .i64))) v1)),(20,iI (v1.length:Int)),(21,iI v122),(26,.sl (lm (eV2 (eInt .i64)) (gD v1 v122))),(27,iI v141),(28,iI v142)],[],[(58,⟨30,4,lm am v143⟩),(112,⟨28,1,lm (eSl am) v123⟩),(500018,⟨75,1,lm eOmp v124⟩)],[58,112,500018]⟩
def s10_l7 (v1:List (List (V2 Int))) (v121 v122:Int) (v123:List (List ab)) (v124:List TMp):AS:=⟨[(0,.sl (lm (eSl (eV2 (eInt .i64))) v1)),(2,.ref 112),(3,iI v121),(4,.ref 500018),(19,.sl (lm (eSl (eV2 (eInt .i64))) v1)),(20,iI (v1.length:Int)),(21,iI v122)],[],[(112,⟨28,1,lm (eSl am) v123⟩),(500018,⟨75,1,lm eOmp v124⟩)],[112,500018]⟩
abbrev cn (M:Nat→Prop) (w0:Base) (r:(List (List ab))×Int) (v1:List (List (V2 Int))) (m1:Nat) (L1:Int→Int→(List (List ab))→(List TMp)→Option ((List (List ab))×Int)):Prop:=∀ {v121:Int} {v122:Int} {v123:(List (List ab))} {v124:(List TMp)},L1 v121 v122 v123 v124=some r→LP (bK M w0) (q10 M w0 r) [.b 0,ac [1,1,1]] (cat Try.f10 p10_0) m1 (s10_l7 v1 v121 v122 v123 v124)
abbrev H10_2 (M:Nat→Prop) (w0:Base) (r:(List (List ab))×Int) (v1:List (List (V2 Int))) (v122:Int) (v123:List (List ab)) (v124:List TMp) (m1 m2:Nat) (L2:Int→Int→Int→Int→(List ab)→Option ((List (List ab))×Int)):Prop:=∀ {v139:Int} {v140:Int} {v141:Int} {v142:Int} {v143:(List ab)},L2 v139 v140 v141 v142 v143=some r→LP (bK M w0) (q10 M w0 r) [.b 2,ac cf,.b 1,ac bc,aW M w0 r m1,.b 0,ac [1,1,1]] (cat Try.f10 p10_5) m2 (s10_l2 v1 v122 v123 v124 v139 v140 v141 v142 v143)
abbrev H10_3 (M:Nat→Prop) (w0:Base) (r:(List (List ab))×Int) (v1:List (List (V2 Int))) (v122:Int) (v123:List (List ab)) (v124:List TMp) (v139 v141 v142:Int) (v143:List ab) (m2 m1 m3:Nat) (L3:Int→(V2 Int)→Option ((List (List ab))×Int)):Prop:=∀ {v146:Int} {v147:(V2 Int)},L3 v146 v147=some r→LP (bK M w0) (q10 M w0 r) [.b 4,ac p10_6,.b 3,ac dH,cW M w0 r m1 m2,.b 2,ac cf,.b 1,ac bc,aW M w0 r m1,.b 0,ac [1,1,1]] (cat Try.f10 p10_8) m3 (s10_l1 v1 v122 v123 v124 v139 v141 v142 v143 v146 v147)
abbrev eZ (M:Nat→Prop) (w0:Base) (r:(List (List ab))×Int) (v1:List (List (V2 Int))) (v122:Int) (v123:List (List ab)) (v139:Int) (v143:List ab) (m1 m4:Nat) (L4:Int→(List TMp)→Option ((List (List ab))×Int)):Prop:=∀ {v166:Int} {v167:(List TMp)},L4 v166 v167=some r→LP (bK M w0) (q10 M w0 r) [.b 6,ac bG,.b 1,ac bc,aW M w0 r m1,.b 0,ac [1,1,1]] (cat Try.f10 p10_3) m4 (s10_l6 v1 v122 v123 v139 v143 v166 v167)
abbrev H10_5 (M:Nat→Prop) (w0:Base) (r:(List (List ab))×Int) (v1:List (List (V2 Int))) (v122:Int) (v123:List (List ab)) (v139:Int) (v143:List ab) (v166:Int) (m4 m1 m5:Nat) (L5:Int→(List TMp)→Option ((List (List ab))×Int)):Prop:=∀ {v175:Int} {v176:(List TMp)},L5 v175 v176=some r→LP (bK M w0) (q10 M w0 r) [.b 8,.b 7,ac ch,bW M w0 r m1 m4,.b 6,ac bG,.b 1,ac bc,aW M w0 r m1,.b 0,ac [1,1,1]] (cat Try.f10 p10_10) m5 (s10_l5 v1 v122 v123 v139 v143 v166 v175 v176)
abbrev H10_6 (M:Nat→Prop) (w0:Base) (r:(List (List ab))×Int) (v1:List (List (V2 Int))) (v122:Int) (v123:List (List ab)) (v139:Int) (v143:List ab) (v166 v175:Int) (m5 m4 m1 m6:Nat) (L6:Int→(List TMp)→Option ((List (List ab))×Int)):Prop:=∀ {v181:Int} {v182:(List TMp)},L6 v181 v182=some r→LP (bK M w0) (q10 M w0 r) [.b 10,.b 9,ac dh,cC M w0 r m4 m1 m5,.b 8,.b 7,ac ch,bW M w0 r m1 m4,.b 6,ac bG,.b 1,ac bc,aW M w0 r m1,.b 0,ac [1,1,1]] (cat Try.f10 p10_12) m6 (s10_l4 v1 v122 v123 v139 v143 v166 v175 v181 v182)
variable {K:Kn} {n:Nat} {M:Nat→Prop} {w0:Base} {r:(List (List ab))×Int} {v1:List (List (V2 Int))} {v121 v122:Int} {v123:List (List ab)} {v124:List TMp} {v139 v140 v141 v142:Int} {v143:List ab} {v146:Int} {v147:V2 Int} {v166:Int} {v167:List TMp} {v175:Int} {v176 v179:List TMp} {v181:Int} {v182:List TMp} {m1:Nat} {L1:Int→Int→(List (List ab))→(List TMp)→Option ((List (List ab))×Int)} {m2:Nat} {L2:Int→Int→Int→Int→(List ab)→Option ((List (List ab))×Int)} {m3:Nat} {L3:Int→(V2 Int)→Option ((List (List ab))×Int)} {m4:Nat} {L4:Int→(List TMp)→Option ((List (List ab))×Int)} {m5:Nat} {L5:Int→(List TMp)→Option ((List (List ab))×Int)} {m6:Nat} {L6:Int→(List TMp)→Option ((List (List ab))×Int)}
theorem mn (hK:KnOk K) (hL1:cn M w0 r v1 m1 L1) (hL2:H10_2 M w0 r v1 v122 v123 v124 m1 m2 L2) (hL3:H10_3 M w0 r v1 v122 v123 v124 v139 v141 v142 v143 m2 m1 m3 L3) (h:kf K n v1 v122 v123 v124 v139 v141 v142 v143 L1 L2 L3 v146 v147=some r):VE (bK M w0) (q10 M w0 r) [ac p10_8,k10_3 M w0 r m2 m1 m3,.b 4,ac p10_6,.b 3,ac dH,cW M w0 r m1 m2,.b 2,ac cf,.b 1,ac bc,aW M w0 r m1,.b 0,ac [1,1,1]] .normal (s10_l1 v1 v122 v123 v124 v139 v141 v142 v143 v146 v147):=by
  unfold kf at h
  refine ae (ks':=[ac p10_13,ac p10_14,ac p10_15,k10_3 M w0 r m2 m1 m3,.b 4,ac p10_6,.b 3,ac dH,cW M w0 r m1 m2,.b 2,ac cf,.b 1,ac bc,aW M w0 r m1,.b 0,ac [1,1,1]]) 2 (ap 2 ?_)
  obtain ⟨h231,h⟩:=ak h
  refine ao (bf 500018 1 eOmp h231) (ot_ldm (L:=v124) (id:=500018) (et:=75) (T:=75) (x:=(.tmp 34)) (decide_eq_true (ay h231).2) (aH 5 1 (ot_lk (L:=v124) (id:=500018) (et:=75) (T:=75) (x:=(.tmp 35)) (y:=(.tmp 36)) (n:=v146) (decide_eq_true (ay h231).2) (aj ?_))))
  obtain ⟨v148,h232,h⟩:=bind_some h
  have h232:=Option.some.inj h232
  refine bd (ks':=[ac p10_14,ac p10_15,k10_3 M w0 r m2 m1 m3,.b 4,ac p10_6,.b 3,ac dH,cW M w0 r m1 m2,.b 2,ac cf,.b 1,ac bc,aW M w0 r m1,.b 0,ac [1,1,1]]) 0 ⟨[(0,.sl (lm (eSl (eV2 (eInt .i64))) v1)),(2,.ref 112),(3,iI v139),(4,.ref 500018),(5,iI v122),(7,.ref 58),(8,iI v146),(10,.ptr 10 0),(19,.sl (lm (eSl (eV2 (eInt .i64))) v1)),(20,iI (v1.length:Int)),(21,iI v122),(26,.sl (lm (eV2 (eInt .i64)) (gD v1 v122))),(27,iI v141),(28,iI v142),(37,.bool v148)],[(10,(eV2 (eInt .i64)) v147)],[(58,⟨30,4,lm am v143⟩),(112,⟨28,1,lm (eSl am) v123⟩),(500018,⟨75,1,lm eOmp v124⟩)],[10,58,112,500018]⟩ ?_ (by subst h232; kernel_rfl)
  rcases aq h with ⟨h233,h⟩ | ⟨h233,h⟩
  ·
   exact ah 37 h233 (af 5 (aI (hL3 h)))
  ·
   refine ah 37 h233 (ae (ks':=[ac p10_16,ac p10_17,.b 3,ac dH,cW M w0 r m1 m2,.b 2,ac cf,.b 1,ac bc,aW M w0 r m1,.b 0,ac [1,1,1]]) 6 (ap 6 (ao (aK (eSl (eV2 (eInt .i64))) v1) (aj ?_))))
   obtain ⟨v149,h234,h⟩:=bind_some h
   have h234:=Option.some.inj h234
   refine bd (ks':=[ac p10_18,ac p10_19,.b 3,ac dH,cW M w0 r m1 m2,.b 2,ac cf,.b 1,ac bc,aW M w0 r m1,.b 0,ac [1,1,1]]) 1 ⟨[(0,.sl (lm (eSl (eV2 (eInt .i64))) v1)),(2,.ref 112),(3,iI v139),(4,.ref 500018),(5,iI v122),(7,.ref 58),(8,iI v146),(11,.ptr 11 0),(19,.sl (lm (eSl (eV2 (eInt .i64))) v1)),(20,iI (v1.length:Int)),(21,iI v122),(26,.sl (lm (eV2 (eInt .i64)) (gD v1 v122))),(27,iI v141),(28,iI v142)],[(11,am (⟨v122,v146,v149,(min (max v147.a1 1) 100)⟩:ab))],[(58,⟨30,4,lm am v143⟩),(112,⟨28,1,lm (eSl am) v123⟩),(500018,⟨75,1,lm eOmp v124⟩)],[11,58,112,500018]⟩ ?_ (by subst h234; kernel_rfl)
   refine ap 3 ?_
   obtain ⟨h235,h⟩:=ak h
   exact ao (y_app 58 58 30 4 am (rfl) (c8) h235) (aj (af 5 (aI (hL2 h))))
theorem nD (hK:KnOk K) (hL1:cn M w0 r v1 m1 L1) (hL2:H10_2 M w0 r v1 v122 v123 v124 m1 m2 L2) (m:Nat):H10_3 M w0 r v1 v122 v123 v124 v139 v141 v142 v143 m2 m1 m (jI K n v1 v122 v123 v124 v139 v141 v142 v143 L1 L2 m):=by
  induction m with
 | zero=>intro v146 v147 h; cases h
 | succ m ih=>intro v146 v147 h; have h:kf K n v1 v122 v123 v124 v139 v141 v142 v143 L1 L2 (jI K n v1 v122 v123 v124 v139 v141 v142 v143 L1 L2 m) v146 v147=some r:=h; exact aL (mn hK hL1 hL2 ih h)
theorem nq (hK:KnOk K) (hL1:cn M w0 r v1 m1 L1) (hL4:eZ M w0 r v1 v122 v123 v139 v143 m1 m4 L4) (hL5:H10_5 M w0 r v1 v122 v123 v139 v143 v166 m4 m1 m5 L5) (hL6:H10_6 M w0 r v1 v122 v123 v139 v143 v166 v175 m5 m4 m1 m6 L6) (h:jy K n v1 v122 v123 v139 v143 v166 v175 L1 L4 L5 L6 v181 v182=some r):VE (bK M w0) (q10 M w0 r) [ac p10_12,k10_6 M w0 r m5 m4 m1 m6,.b 10,.b 9,ac dh,cC M w0 r m4 m1 m5,.b 8,.b 7,ac ch,bW M w0 r m1 m4,.b 6,ac bG,.b 1,ac bc,aW M w0 r m1,.b 0,ac [1,1,1]] .normal (s10_l4 v1 v122 v123 v139 v143 v166 v175 v181 v182):=by
  unfold jy at h
  obtain ⟨v183,h292,h⟩:=bind_some h
  have h292:=Option.some.inj h292
  refine bd (ks':=[ac p10_20,ac p10_21,k10_6 M w0 r m5 m4 m1 m6,.b 10,.b 9,ac dh,cC M w0 r m4 m1 m5,.b 8,.b 7,ac ch,bW M w0 r m1 m4,.b 6,ac bG,.b 1,ac bc,aW M w0 r m1,.b 0,ac [1,1,1]]) 3 ⟨[(0,.sl (lm (eSl (eV2 (eInt .i64))) v1)),(2,.ref 112),(3,iI v139),(4,.ref 500018),(5,iI v122),(7,.ref 58),(13,.ptr 13 0),(14,iI v175),(15,iI v181),(19,.sl (lm (eSl (eV2 (eInt .i64))) v1)),(20,iI (v1.length:Int)),(21,iI v122),(67,.ref 58),(68,iI (v143.length:Int)),(69,iI v166),(100,.bool v183)],[(13,am (gD v143 v166))],[(58,⟨30,4,lm am v143⟩),(112,⟨28,1,lm (eSl am) v123⟩),(500018,⟨75,1,lm eOmp v182⟩)],[13,58,112,500018]⟩ ?_ (by subst h292; kernel_rfl)
  rcases aq h with ⟨h293,h⟩ | ⟨h293,h⟩
  ·
   refine ah 100 h293 (ae (ks':=[ac p10_22,.b 11,ac p10_23,k10_6 M w0 r m5 m4 m1 m6,.b 10,.b 9,ac dh,cC M w0 r m4 m1 m5,.b 8,.b 7,ac ch,bW M w0 r m1 m4,.b 6,ac bG,.b 1,ac bc,aW M w0 r m1,.b 0,ac [1,1,1]]) 4 (ap 2 ?_))
   obtain ⟨h294,h⟩:=ak h
   refine ao (bf 500018 1 eOmp h294) (ot_ldm (L:=v182) (id:=500018) (et:=75) (T:=75) (x:=(.tmp 105)) (decide_eq_true (ay h294).2) (aH 5 1 ?_))
   obtain ⟨h295,h⟩:=ak h
   exact ot_mup (L:=v182) (id:=500018) (et:=75) (T:=75) (x:=(.tmp 106)) (y:=(.tmp 107)) (z:=(.const (.bool true))) (n:=v181) (b:=true) (decide_eq_true (ay h294).2) h295 (aj (af 2 (aI (hL6 h))))
  ·
   exact ah 100 h293 (af 7 (aI (hL5 h)))
theorem nH (hK:KnOk K) (hL1:cn M w0 r v1 m1 L1) (hL4:eZ M w0 r v1 v122 v123 v139 v143 m1 m4 L4) (hL5:H10_5 M w0 r v1 v122 v123 v139 v143 v166 m4 m1 m5 L5) (m:Nat):H10_6 M w0 r v1 v122 v123 v139 v143 v166 v175 m5 m4 m1 m (j7 K n v1 v122 v123 v139 v143 v166 v175 L1 L4 L5 m):=by
  induction m with
 | zero=>intro v181 v182 h; cases h
 | succ m ih=>intro v181 v182 h; have h:jy K n v1 v122 v123 v139 v143 v166 v175 L1 L4 L5 (j7 K n v1 v122 v123 v139 v143 v166 v175 L1 L4 L5 m) v181 v182=some r:=h; exact aL (nq hK hL1 hL4 hL5 ih h)
theorem lU (hK:KnOk K) (hL1:cn M w0 r v1 m1 L1) (hL4:eZ M w0 r v1 v122 v123 v139 v143 m1 m4 L4) (hL5:H10_5 M w0 r v1 v122 v123 v139 v143 v166 m4 m1 m5 L5) (h:jw K n v1 v122 v123 v139 v143 v166 v175 L1 L4 L5 v179=some r):VE (bK M w0) (q10 M w0 r) [ac p10_24,.b 9,ac dh,cC M w0 r m4 m1 m5,.b 8,.b 7,ac ch,bW M w0 r m1 m4,.b 6,ac bG,.b 1,ac bc,aW M w0 r m1,.b 0,ac [1,1,1]] .normal (s10_j3 v1 v122 v123 v139 v143 v166 v175 v179):=by
  unfold jw at h
  exact af 3 (aM (p:=p10_25) n (nH hK hL1 hL4 hL5 n h))
theorem mV (hK:KnOk K) (hL1:cn M w0 r v1 m1 L1) (hL4:eZ M w0 r v1 v122 v123 v139 v143 m1 m4 L4) (hL5:H10_5 M w0 r v1 v122 v123 v139 v143 v166 m4 m1 m5 L5) (h:jz K n v1 v122 v123 v139 v143 v166 L1 L4 L5 v175 v176=some r):VE (bK M w0) (q10 M w0 r) [ac p10_10,cC M w0 r m4 m1 m5,.b 8,.b 7,ac ch,bW M w0 r m1 m4,.b 6,ac bG,.b 1,ac bc,aW M w0 r m1,.b 0,ac [1,1,1]] .normal (s10_l5 v1 v122 v123 v139 v143 v166 v175 v176):=by
  unfold jz at h
  obtain ⟨v177,h282,h⟩:=bind_some h
  have h282:=Option.some.inj h282
  refine bd (ks':=[ac p10_26,ac p10_27,cC M w0 r m4 m1 m5,.b 8,.b 7,ac ch,bW M w0 r m1 m4,.b 6,ac bG,.b 1,ac bc,aW M w0 r m1,.b 0,ac [1,1,1]]) 3 ⟨[(0,.sl (lm (eSl (eV2 (eInt .i64))) v1)),(2,.ref 112),(3,iI v139),(4,.ref 500018),(5,iI v122),(7,.ref 58),(13,.ptr 13 0),(14,iI v175),(19,.sl (lm (eSl (eV2 (eInt .i64))) v1)),(20,iI (v1.length:Int)),(21,iI v122),(67,.ref 58),(68,iI (v143.length:Int)),(69,iI v166),(80,.bool v177)],[(13,am (gD v143 v166))],[(58,⟨30,4,lm am v143⟩),(112,⟨28,1,lm (eSl am) v123⟩),(500018,⟨75,1,lm eOmp v176⟩)],[13,58,112,500018]⟩ ?_ (by subst h282; kernel_rfl)
  rcases aq h with ⟨h283,h⟩ | ⟨h283,h⟩
  ·
   refine ah 80 h283 (ae (ks':=[ac p10_28,ac p10_29,ac p10_24,.b 9,ac dh,cC M w0 r m4 m1 m5,.b 8,.b 7,ac ch,bW M w0 r m1 m4,.b 6,ac bG,.b 1,ac bc,aW M w0 r m1,.b 0,ac [1,1,1]]) 6 (ap 2 ?_))
   obtain ⟨h284,h⟩:=ak h
   refine ao (bf 500018 1 eOmp h284) (ot_ldm (L:=v176) (id:=500018) (et:=75) (T:=75) (x:=(.tmp 85)) (decide_eq_true (ay h284).2) (ot_mnil true (L:=v176) (id:=500018) (op:=.eql) (et:=75) (T:=75) (T':=75) (x:=(.tmp 86)) (y:=(.const (.map none))) (decide_eq_true (ay h284).2) (aj ?_)))
   obtain ⟨v178,h285,h⟩:=bind_some h
   have h285:=Option.some.inj h285
   refine bd (ks':=[ac p10_29,ac p10_24,.b 9,ac dh,cC M w0 r m4 m1 m5,.b 8,.b 7,ac ch,bW M w0 r m1 m4,.b 6,ac bG,.b 1,ac bc,aW M w0 r m1,.b 0,ac [1,1,1]]) 0 ⟨[(0,.sl (lm (eSl (eV2 (eInt .i64))) v1)),(2,.ref 112),(3,iI v139),(4,.ref 500018),(5,iI v122),(7,.ref 58),(13,.ptr 13 0),(14,iI v175),(19,.sl (lm (eSl (eV2 (eInt .i64))) v1)),(20,iI (v1.length:Int)),(21,iI v122),(67,.ref 58),(68,iI (v143.length:Int)),(69,iI v166),(87,.bool v178)],[(13,am (gD v143 v166))],[(58,⟨30,4,lm am v143⟩),(112,⟨28,1,lm (eSl am) v123⟩),(500018,⟨75,1,lm eOmp v176⟩)],[13,58,112,500018]⟩ ?_ (by subst h285; kernel_rfl)
   rcases aq h with ⟨h286,h⟩ | ⟨h286,h⟩
   ·
    refine ah 87 h286 (ae (ks':=[ac p10_30,ac p10_24,.b 9,ac dh,cC M w0 r m4 m1 m5,.b 8,.b 7,ac ch,bW M w0 r m1 m4,.b 6,ac bG,.b 1,ac bc,aW M w0 r m1,.b 0,ac [1,1,1]]) 1 (ap 2 ?_))
    obtain ⟨h287,h⟩:=ak h
    exact ot_mms (L:=v176) (id:=500018) (d1:=90) (d2:=91) (et:=75) (T:=75) (T1:=74) (T2:=75) (x:=(.tmp 88)) (y:=(.tmp 89)) (j:=v175) h287 (aj (af 0 (lU hK hL1 hL4 hL5 h)))
   ·
    exact ah 87 h286 (af 2 (lU hK hL1 hL4 hL5 h))
  ·
   exact ah 80 h283 (af 7 (aI (hL4 h)))
theorem nX (hK:KnOk K) (hL1:cn M w0 r v1 m1 L1) (hL4:eZ M w0 r v1 v122 v123 v139 v143 m1 m4 L4) (m:Nat):H10_5 M w0 r v1 v122 v123 v139 v143 v166 m4 m1 m (jP K n v1 v122 v123 v139 v143 v166 L1 L4 m):=by
  induction m with
 | zero=>intro v175 v176 h; cases h
 | succ m ih=>intro v175 v176 h; have h:jz K n v1 v122 v123 v139 v143 v166 L1 L4 (jP K n v1 v122 v123 v139 v143 v166 L1 L4 m) v175 v176=some r:=h; exact aL (mV hK hL1 hL4 ih h)
theorem oJ (hK:KnOk K) (hL1:cn M w0 r v1 m1 L1) (hL4:eZ M w0 r v1 v122 v123 v139 v143 m1 m4 L4) (h:jD K n v1 v122 v123 v139 v143 L1 L4 v166 v167=some r):VE (bK M w0) (q10 M w0 r) [ac p10_3,bW M w0 r m1 m4,.b 6,ac bG,.b 1,ac bc,aW M w0 r m1,.b 0,ac [1,1,1]] .normal (s10_l6 v1 v122 v123 v139 v143 v166 v167):=by
  unfold jD at h
  refine ae (ks':=[ac p10_31,ac p10_32,bW M w0 r m1 m4,.b 6,ac bG,.b 1,ac bc,aW M w0 r m1,.b 0,ac [1,1,1]]) 3 ?_
  rcases aq h with ⟨h266,h⟩ | ⟨h266,h⟩
  ·
   refine ah 70 h266 (ae (ks':=[ac p10_33,ac p10_34,.b 7,ac ch,bW M w0 r m1 m4,.b 6,ac bG,.b 1,ac bc,aW M w0 r m1,.b 0,ac [1,1,1]]) 5 (ap 0 ?_))
   obtain ⟨h267,h⟩:=ak h
   exact ao (bf 58 4 am h267) (ao (aG 30 0 am am (ay h267).2 (fun _=>rfl)) (aj (af 3 (aM (p:=p10_35) n (nX hK hL1 hL4 n h)))))
  ·
   refine ah 70 h266 (ae (ks':=[ac bG,.b 1,ac bc,aW M w0 r m1,.b 0,ac [1,1,1]]) 5 (ap 2 (ot_f 58 (aH 3 1 ?_))))
   obtain ⟨h296,h⟩:=ak h
   exact ao (y_app 112 112 28 1 (eSl am) (rfl) (fun _=>rfl) h296) (aj (af 2 (aI (hL1 h))))
theorem nT (hK:KnOk K) (hL1:cn M w0 r v1 m1 L1) (m:Nat):eZ M w0 r v1 v122 v123 v139 v143 m1 m (kb K n v1 v122 v123 v139 v143 L1 m):=by
  induction m with
 | zero=>intro v166 v167 h; cases h
 | succ m ih=>intro v166 v167 h; have h:jD K n v1 v122 v123 v139 v143 L1 (kb K n v1 v122 v123 v139 v143 L1 m) v166 v167=some r:=h; exact aL (oJ hK hL1 ih h)
theorem mr (hK:KnOk K) (hL1:cn M w0 r v1 m1 L1) (hL2:H10_2 M w0 r v1 v122 v123 v124 m1 m2 L2) (h:ju K n v1 v122 v123 v124 L1 L2 v139 v140 v141 v142 v143=some r):VE (bK M w0) (q10 M w0 r) [ac p10_5,cW M w0 r m1 m2,.b 2,ac cf,.b 1,ac bc,aW M w0 r m1,.b 0,ac [1,1,1]] .normal (s10_l2 v1 v122 v123 v124 v139 v140 v141 v142 v143):=by
  unfold ju at h
  refine ae (ks':=[ac p10_36,ac p10_37,cW M w0 r m1 m2,.b 2,ac cf,.b 1,ac bc,aW M w0 r m1,.b 0,ac [1,1,1]]) 3 ?_
  rcases aq h with ⟨h225,h⟩ | ⟨h225,h⟩
  ·
   refine ah 29 h225 (ae (ks':=[ac p10_38,ac p10_39,.b 3,ac dH,cW M w0 r m1 m2,.b 2,ac cf,.b 1,ac bc,aW M w0 r m1,.b 0,ac [1,1,1]]) 5 (ap 0 ?_))
   obtain ⟨h226,h⟩:=ak h
   exact ao (bh (eV2 (eInt .i64)) (eV2 (eInt .i64)) (sz:=2) h226 (fun _=>rfl) (fun _=>rfl)) (aj (af 2 (aM (p:=p10_40) n (nD hK hL1 hL2 n h))))
  ·
   exact ah 29 h225 (ae (ks':=[ac p10_41,ac p10_42,ac bG,.b 1,ac bc,aW M w0 r m1,.b 0,ac [1,1,1]]) 7 (ap 1 (ao (aK am v143) (aj (af 1 (aM (p:=p10_43) n (nT hK hL1 n h)))))))
theorem nI (hK:KnOk K) (hL1:cn M w0 r v1 m1 L1) (m:Nat):H10_2 M w0 r v1 v122 v123 v124 m1 m (j8 K n v1 v122 v123 v124 L1 m):=by
  induction m with
 | zero=>intro v139 v140 v141 v142 v143 h; cases h
 | succ m ih=>intro v139 v140 v141 v142 v143 h; have h:ju K n v1 v122 v123 v124 L1 (j8 K n v1 v122 v123 v124 L1 m) v139 v140 v141 v142 v143=some r:=h; exact aL (mr hK hL1 ih h)
theorem nz (hK:KnOk K) (hL1:cn M w0 r v1 m1 L1) (h:jS K n v1 L1 v121 v122 v123 v124=some r):VE (bK M w0) (q10 M w0 r) [ac p10_0,aW M w0 r m1,.b 0,ac [1,1,1]] .normal (s10_l7 v1 v121 v122 v123 v124):=by
  unfold jS at h
  refine ae (ks':=[ac p10_44,ac p10_45,aW M w0 r m1,.b 0,ac [1,1,1]]) 3 ?_
  rcases aq h with ⟨h199,h⟩ | ⟨h199,h⟩
  ·
   refine ah 22 h199 (ae (ks':=[ac p10_46,ac p10_47,.b 1,ac bc,aW M w0 r m1,.b 0,ac [1,1,1]]) 5 (ap 1 ?_))
   obtain ⟨h200,h⟩:=ak h
   exact ao (bh (eSl (eV2 (eInt .i64))) (eSl (eV2 (eInt .i64))) h200 (fun _=>rfl) (fun _=>rfl)) (aj (ae (ks':=[ac p10_48,ac p10_49,ac cf,.b 1,ac bc,aW M w0 r m1,.b 0,ac [1,1,1]]) 6 (ap 1 (ao (aK (eV2 (eInt .i64)) (gD v1 v122)) (aj (ae (ks':=[ac p10_50,.b 2,ac cf,.b 1,ac bc,aW M w0 r m1,.b 0,ac [1,1,1]]) 1 (bu [0,2,3,4,5,7,8,19,20,21,26,27,28] [] [112,500018] (ve_w 58 7 30 4 (af 0 (aM (p:=p10_50) n (nI hK hL1 n h)))))))))))
  ·
   refine ah 22 h199 (aJ 8 ?_)
   cases h
   exact cI
theorem nL (hK:KnOk K) (m:Nat):cn M w0 r v1 m (kh K n v1 m):=by
  induction m with
 | zero=>intro v121 v122 v123 v124 h; cases h
 | succ m ih=>intro v121 v122 v123 v124 h; have h:jS K n v1 (kh K n v1 m) v121 v122 v123 v124=some r:=h; exact aL (nz hK ih h)
theorem mJ (hK:KnOk K) (h:kB K n v1=some r):ACalls Try.prog 10 [.sl (lm (eSl (eV2 (eInt .i64))) v1)] (fun v s=>v = .tup [.ref 112,iI r.2]∧look 112 s.r=some ⟨28,1,lm (eSl am) r.1⟩):=by
  refine br (cat Try.f10 []) Try.func10 Try.ntmps10 fun M w0=>(aY ⟨[(0,.sl (lm (eSl (eV2 (eInt .i64))) v1))],[],[],[]⟩ ?_)
  unfold kB at h
  refine ae (ks':=[ac [1,0],ac [1,1]]) 3 (ap 1 (ao (aK (eSl (eV2 (eInt .i64))) v1) ?_))
  obtain ⟨h1,h⟩:=ak h
  refine cm eNilm (none:TMp) 74 (.tmp 17) (.tmp 17) 18 (e:=75) (sz:=1) (zc:=[.nilm]) (kd:=.i64) (kd':=.i64) h1 (ot_m 18 500018 (ot_om 500018 ((v1.length:Int)).toNat 75 (aj ?_)))
  obtain ⟨v2,h2,h⟩:=bind_some h
  have h2:=Option.some.inj h2
  refine bd (ks':=[ac p10_51,ac p10_52,ac [1,1,1]]) 2 ⟨[(0,.sl (lm (eSl (eV2 (eInt .i64))) v1)),(2,.nils),(3,iI 0),(4,.ref 500018)],[],[(500018,⟨75,1,lm eOmp v2⟩)],[500018]⟩ ?_ (by subst h2; kernel_rfl)
  exact ap 1 (ao (aK (eSl (eV2 (eInt .i64))) v1) (aj (ae (ks':=[ac p10_53,.b 0,ac [1,1,1]]) 1 (bu [0,2,3,4,19,20,21] [] [500018] (ve_w 112 2 28 1 (af 0 (aM (p:=p10_53) n (nL hK n h))))))))
end
noncomputable section
variable {K:Kn} {n:Nat} {M:Nat→Prop} {w0:Base} {r v1:Int} 
theorem fQ (hK:KnOk K) (h:c9 K n v1=some r):ACalls Try.prog 26 [iI v1] (fun v _=>v=iI r):=by
  refine br (cat Try.f26 []) Try.func26 Try.ntmps26 fun M w0=>(aY ⟨[(0,iI v1)],[],[],[]⟩ ?_)
  unfold c9 at h
  refine aJ 5 ?_
  cases h
  exact bo
end
noncomputable section
variable {K:Kn} {n:Nat} {M:Nat→Prop} {w0:Base} {r v1 v2:Int} 
theorem kI (hK:KnOk K) (h:dN K n v1 v2=some r):ACalls Try.prog 57 [iI v1,iI v2] (fun v _=>v=iI r):=by
  refine br (cat Try.f57 []) Try.func57 Try.ntmps57 fun M w0=>(aY ⟨[(0,iI v1),(1,iI v2)],[],[],[]⟩ ?_)
  unfold dN at h
  refine aJ 5 ?_
  cases h
  exact bo
end
def f8:=pth 0 110011
def p80_1:=pth 0 1100100100
def p80_2:=pth 0 110010010001
def p80_3:=pth 0 11001001001
def p80_4:=pth 0 1100100100100
def p80_5:=pth 0 110010010011
def p80_6:=pth 0 110010010000
def p80_7:=pth 0 110001
def p80_8:=pth 0 11001
def p80_9:=pth 0 110010010
noncomputable section
abbrev ef (M:Nat→Prop) (w0:Base):Cx:=⟨Try.prog,53,M,w0⟩
abbrev q80 (M:Nat→Prop) (w0:Base) (r:List Int):=bodyPost Try.prog Try.f80 (RetQ M w0 (fun v s=>v = .tup []∧look 0 s.r=some ⟨3,1,lm (eInt .i64) r⟩))
abbrev dE (M:Nat→Prop) (w0:Base) (r:List Int) (m1:Nat):Kont:=kl (ef M w0) (q80 M w0 r) [.b 0] (cat Try.f80 [1,0,0]) m1
abbrev bP (p:List Nat):Kont:=.c (cat Try.f80 p)
abbrev k80_2 (M:Nat→Prop) (w0:Base) (r:List Int) (m1 m2:Nat):Kont:=kl (ef M w0) (q80 M w0 r) [.b 2,.b 1,bP f8,dE M w0 r m1,.b 0] (cat Try.f80 p80_1) m2
def s80_j1 (v2 v3:Int) (v4:Fv) (v11 v15:Int) (v16:List Int) (v18:Bool):AS:=⟨[(0,.ref 0),(1,iI v2),(2,iI v3),(3,.fn v4.id v4.caps),(8,iI v11),(9,iI v15),(34,.bool v18)],[],[(0,⟨3,1,lm (eInt .i64) v16⟩)],[0,1000000,0]⟩
def s80_l2 (v2 v3:Int) (v4:Fv) (v11 v15:Int) (v16:List Int):AS:=⟨[(0,.ref 0),(1,iI v2),(2,iI v3),(3,.fn v4.id v4.caps),(8,iI v11),(9,iI v15)],[],[(0,⟨3,1,lm (eInt .i64) v16⟩)],[0,1000000,0]⟩
def s80_l3 (v2 v3:Int) (v4:Fv) (v11:Int) (v12:List Int):AS:=⟨[(0,.ref 0),(1,iI v2),(2,iI v3),(3,.fn v4.id v4.caps),(8,iI v11)],[],[(0,⟨3,1,lm (eInt .i64) v12⟩)],[0,1000000,0]⟩
abbrev H80_1 (M:Nat→Prop) (w0:Base) (r:List Int) (v2 v3:Int) (v4:Fv) (m1:Nat) (L1:Int→(List Int)→Option (List Int)):Prop:=∀ {v11:Int} {v12:(List Int)},L1 v11 v12=some r→LP (ef M w0) (q80 M w0 r) [.b 0] (cat Try.f80 [1,0,0]) m1 (s80_l3 v2 v3 v4 v11 v12)
abbrev H80_2 (M:Nat→Prop) (w0:Base) (r:List Int) (v2 v3:Int) (v4:Fv) (v11:Int) (m1 m2:Nat) (L2:Int→(List Int)→Option (List Int)):Prop:=∀ {v15:Int} {v16:(List Int)},L2 v15 v16=some r→LP (ef M w0) (q80 M w0 r) [.b 2,.b 1,bP f8,dE M w0 r m1,.b 0] (cat Try.f80 p80_1) m2 (s80_l2 v2 v3 v4 v11 v15 v16)
variable {K:Kn} {n:Nat} {M:Nat→Prop} {w0:Base} {r v1:List Int} {v2 v3:Int} {v4:Fv} {v11:Int} {v12:List Int} {v15:Int} {v16:List Int} {v18:Bool} {m1:Nat} {L1:Int→(List Int)→Option (List Int)} {m2:Nat} {L2:Int→(List Int)→Option (List Int)}
theorem mm (hK:KnOk K) (hL1:H80_1 M w0 r v2 v3 v4 m1 L1) (hL2:H80_2 M w0 r v2 v3 v4 v11 m1 m2 L2) (h:gj K n v2 v3 v4 v11 v15 v16 L1 L2 v18=some r):VE (ef M w0) (q80 M w0 r) [bP p80_2,bP p80_3,k80_2 M w0 r m1 m2,.b 2,.b 1,bP f8,dE M w0 r m1,.b 0] .normal (s80_j1 v2 v3 v4 v11 v15 v16 v18):=by
  unfold gj at h
  rcases aq h with ⟨h34,h⟩ | ⟨h34,h⟩
  ·
   refine ah 34 h34 (ae (ks':=[bP p80_4,.b 3,bP p80_5,k80_2 M w0 r m1 m2,.b 2,.b 1,bP f8,dE M w0 r m1,.b 0]) 4 (bu [0,1,2,3,8,9] [] [0] ?_))
   obtain ⟨h35,h⟩:=ak h
   obtain ⟨h36,h⟩:=ak h
   obtain ⟨h37,h⟩:=ak h
   obtain ⟨h38,h⟩:=ak h
   exact bt 2 (nu 37 [.ref 0,iI v15,.ref 0,iI v15,iI (w64 (v15 - 1)),.ref 0,iI v15,iI (w64 (v15 - 1)),.eptr 0 1 (((w64 (v15 - 1))).toNat) 0,iI (gD v16 ((w64 (v15 - 1)))),.ref 0,iI v15,.eptr 0 1 (v15.toNat) 0,iI (gD v16 v15),.eptr 0 1 (v15.toNat) 0,.eptr 0 1 (((w64 (v15 - 1))).toNat) 0]) [] [] [strS 0 ⟨3,1,lm (eInt .i64) (List.set v16 v15.toNat (gD v16 ((w64 (v15 - 1)))))⟩,strS 0 ⟨3,1,lm (eInt .i64) (List.set (List.set v16 v15.toNat (gD v16 ((w64 (v15 - 1))))) ((w64 (v15 - 1))).toNat (gD v16 v15))⟩] (ax [.v 0 1,.v 0 1,.v 0 2,.v 0 2,.v 0 2,.v 0 1,.v 0 1,.v 0 1] (d_v (aD 0 1 (eInt .i64) (L:=v16) h35) (d_v (aG 3 0 (eInt .i64) (eInt .i64) (ay h35).2 (fun _=>rfl)) (ax [.v 0 2,.v 0 2] (av (k_v (lo:=0) (k:=2) (bn ⟨(by kernel_rfl),(bp (aD 0 1 (eInt .i64) (L:=v16) h36) (by kernel_rfl))⟩ (bn ⟨(by kernel_rfl),(bp (aD 0 1 (eInt .i64) (L:=(List.set v16 v15.toNat (gD v16 ((w64 (v15 - 1)))))) h36) (by kernel_rfl))⟩ bU))) (d_v (aG 3 0 (eInt .i64) (eInt .i64) (ay h37).2 (fun _=>rfl)) (d_v (aD 0 1 (eInt .i64) (L:=v16) h37) (av (e_s (m:=0) (bi 0 3 1 0 (eInt .i64) (eInt .i64) (gD v16 ((w64 (v15 - 1)))) (ay h37).2 (fun _=>rfl))) (av (e_v (lo:=1) (aD 0 1 (eInt .i64) (L:=(List.set v16 v15.toNat (gD v16 ((w64 (v15 - 1)))))) h38)) (av (e_s (m:=1) (bi 0 3 1 0 (eInt .i64) (eInt .i64) (gD v16 v15) (ay h38).2 (fun _=>rfl))) bq)))))))))) (af 2 (aI (hL2 h)))
  ·
   exact ah 34 h34 (af 7 (aI (hL1 h)))
theorem m9 (hK:KnOk K) (hL1:H80_1 M w0 r v2 v3 v4 m1 L1) (hL2:H80_2 M w0 r v2 v3 v4 v11 m1 m2 L2) (h:iR K n v2 v3 v4 v11 L1 L2 v15 v16=some r):VE (ef M w0) (q80 M w0 r) [bP p80_1,k80_2 M w0 r m1 m2,.b 2,.b 1,bP f8,dE M w0 r m1,.b 0] .normal (s80_l2 v2 v3 v4 v11 v15 v16):=by
  unfold iR at h
  refine ae (ks':=[bP p80_6,bP p80_2,bP p80_3,k80_2 M w0 r m1 m2,.b 2,.b 1,bP f8,dE M w0 r m1,.b 0]) 2 (bu [0,1,2,3,8,9] [] [0] ?_)
  rcases aq h with ⟨h30,h⟩ | ⟨h30,h⟩
  ·
   obtain ⟨h31,h⟩:=ak h
   obtain ⟨h32,h⟩:=ak h
   obtain ⟨v17,h33,h⟩:=bind_some h
   exact bt 0 (nu 18 [iI v15,iI v2,.bool (decide (v15>v2)),.bool true,.fn v4.id v4.caps,.ref 0,iI v15,.eptr 0 1 (v15.toNat) 0,iI (gD v16 v15),.ref 0,iI v15,iI (w64 (v15 - 1)),.eptr 0 1 (((w64 (v15 - 1))).toNat) 0,iI (gD v16 ((w64 (v15 - 1)))),iI v17,.bool (decide (v17<0)),.bool (decide (v17<0))]) [] [] [] (ax (vz 3) (av (e_b 0 21 (e:=(decide (v15>v2))) (b:=true) h30) (ax (vz 3) (d_v (aD 0 1 (eInt .i64) (L:=v16) h31) (d_v (aG 3 0 (eInt .i64) (eInt .i64) (ay h31).2 (fun _=>rfl)) (ax (vz 3) (d_v (aD 0 1 (eInt .i64) (L:=v16) h32) (d_v (aG 3 0 (eInt .i64) (eInt .i64) (ay h32).2 (fun _=>rfl)) (av (e_c 0 1 32 (hK.bZ h33).2 (hK.bZ h33).1) (ax (vz 2) bq)))))))))) (af 0 (mm hK hL1 hL2 h))
  ·
   exact bt 0 (nu 18 [iI v15,iI v2,.bool (decide (v15>v2)),.bool false,.tup [],.tup [],.tup [],.tup [],.tup [],.tup [],.tup [],.tup [],.tup [],.tup [],.tup [],.tup [],.bool false]) [] [] [] (ax (vz 3) (av (e_b 0 21 (e:=(decide (v15>v2))) (b:=false) h30) (av (bA 0 1) (av (bA 0 1) (av (bA 0 1) (av (bA 0 1) (av (bA 0 1) (av (bA 0 1) (av (bA 0 1) (av (bA 0 1) (av (bA 0 1) (av (bA 0 1) (av (bA 0 1) (av (bA 0 1) (ax [.v 0 1] bq))))))))))))))) (af 0 (mm hK hL1 hL2 h))
theorem nR (hK:KnOk K) (hL1:H80_1 M w0 r v2 v3 v4 m1 L1) (m:Nat):H80_2 M w0 r v2 v3 v4 v11 m1 m (fU K n v2 v3 v4 v11 L1 m):=by
  induction m with
 | zero=>intro v15 v16 h; cases h
 | succ m ih=>intro v15 v16 h; have h:iR K n v2 v3 v4 v11 L1 (fU K n v2 v3 v4 v11 L1 m) v15 v16=some r:=h; exact aL (m9 hK hL1 ih h)
theorem ny (hK:KnOk K) (hL1:H80_1 M w0 r v2 v3 v4 m1 L1) (h:gl K n v2 v3 v4 L1 v11 v12=some r):VE (ef M w0) (q80 M w0 r) [bP [1,0,0],dE M w0 r m1,.b 0] .normal (s80_l3 v2 v3 v4 v11 v12):=by
  unfold gl at h
  refine ae (ks':=[bP p80_7,bP p80_8,dE M w0 r m1,.b 0]) 3 ?_
  rcases aq h with ⟨h20,h⟩ | ⟨h20,h⟩
  ·
   exact ah 14 h20 (af 7 (aM (p:=p80_9) n (nR hK hL1 n h)))
  ·
   refine ah 14 h20 (ae (ks':=[]) 5 (eR ?_))
   cases h
   exact cI
theorem oM (hK:KnOk K) (m:Nat):H80_1 M w0 r v2 v3 v4 m (d6 K n v2 v3 v4 m):=by
  induction m with
 | zero=>intro v11 v12 h; cases h
 | succ m ih=>intro v11 v12 h; have h:gl K n v2 v3 v4 (d6 K n v2 v3 v4 m) v11 v12=some r:=h; exact aL (ny hK ih h)
theorem lN (hK:KnOk K) (h:fA K n v1 v2 v3 v4=some r):AIO Try.prog 80 [.ref 0,iI v2,iI v3,.fn v4.id v4.caps] 0 ⟨3,1,lm (eInt .i64) v1⟩ (fun v s=>v = .tup []∧look 0 s.r=some ⟨3,1,lm (eInt .i64) r⟩):=by
  refine eX (c:=cat Try.f80 []) Try.func80 (by kernel_rfl) _ Try.ntmps80 (of_decide_eq_true (by kernel_rfl)) fun M w0=>(aY ⟨[(0,.ref 0),(1,iI v2),(2,iI v3),(3,.fn v4.id v4.caps)],[],[(0,⟨3,1,lm (eInt .i64) v1⟩)],[0,1000000]⟩ ?_)
  unfold fA at h
  exact af 3 (aM (p:=[1,0]) n (oM hK n h))
end
def p95_0:=pth 0 110001
def p95_1:=pth 0 11001
def p95_2:=pth 0 1100100
def p95_3:=pth 0 110011
noncomputable section
abbrev cx95 (M:Nat→Prop) (w0:Base):Cx:=⟨Try.prog,38,M,w0⟩
abbrev q95 (M:Nat→Prop) (w0:Base) (r:List Int):=bodyPost Try.prog Try.f95 (RetQ M w0 (fun v s=>v = .tup []∧look 0 s.r=some ⟨3,1,lm (eInt .i64) r⟩))
abbrev k95_1 (M:Nat→Prop) (w0:Base) (r:List Int) (m1:Nat):Kont:=kl (cx95 M w0) (q95 M w0 r) [.b 0] (cat Try.f95 [1,0,0]) m1
def s95_l1 (v2 v3 v4 v6:Int) (v7:List Int):AS:=⟨[(0,.ref 0),(1,iI v2),(2,iI v3),(3,iI v4),(10,iI v6)],[],[(0,⟨3,1,lm (eInt .i64) v7⟩)],[0,1000000,0]⟩
abbrev H95_1 (M:Nat→Prop) (w0:Base) (r:List Int) (v2 v3 v4:Int) (m1:Nat) (L1:Int→(List Int)→Option (List Int)):Prop:=∀ {v6:Int} {v7:(List Int)},L1 v6 v7=some r→LP (cx95 M w0) (q95 M w0 r) [.b 0] (cat Try.f95 [1,0,0]) m1 (s95_l1 v2 v3 v4 v6 v7)
variable {K:Kn} {n:Nat} {M:Nat→Prop} {w0:Base} {r v1:List Int} {v2 v3 v4:Int} {v5:Fv} {v6:Int} {v7:List Int} {m1:Nat} {L1:Int→(List Int)→Option (List Int)}
abbrev cF95 (p:List Nat):Kont:=.c (cat Try.f95 p)
theorem mu (hK:KnOk K) (hL1:H95_1 M w0 r v2 v3 v4 m1 L1) (h:i8 K n v2 v3 v4 L1 v6 v7=some r):VE (cx95 M w0) (q95 M w0 r) [cF95 [1,0,0],k95_1 M w0 r m1,.b 0] .normal (s95_l1 v2 v3 v4 v6 v7):=by
  unfold i8 at h
  refine ae (ks':=[cF95 p95_0,cF95 p95_1,k95_1 M w0 r m1,.b 0]) 3 ?_
  rcases aq h with ⟨h6,h⟩ | ⟨h6,h⟩
  ·
   refine ah 13 h6 (ae (ks':=[cF95 p95_2,.b 1,cF95 p95_3,k95_1 M w0 r m1,.b 0]) 4 (bu [0,1,2,3,10] [] [0] ?_))
   obtain ⟨h7,h⟩:=ak h
   obtain ⟨h8,h⟩:=ak h
   obtain ⟨h9,h⟩:=ak h
   obtain ⟨h10,h⟩:=ak h
   exact bt 2 (nu 16 [.ref 0,iI v2,iI v6,iI (w64 (v2+v6)),.ref 0,iI v3,iI v6,iI (w64 (v3+v6)),.ref 0,iI v3,iI v6,iI (w64 (v3+v6)),.eptr 0 1 (((w64 (v3+v6))).toNat) 0,iI (gD v7 ((w64 (v3+v6)))),.ref 0,iI v2,iI v6,iI (w64 (v2+v6)),.eptr 0 1 (((w64 (v2+v6))).toNat) 0,iI (gD v7 ((w64 (v2+v6)))),.eptr 0 1 (((w64 (v2+v6))).toNat) 0,.eptr 0 1 (((w64 (v3+v6))).toNat) 0]) [] [] [strS 0 ⟨3,1,lm (eInt .i64) (List.set v7 ((w64 (v2+v6))).toNat (gD v7 ((w64 (v3+v6)))))⟩,strS 0 ⟨3,1,lm (eInt .i64) (List.set (List.set v7 ((w64 (v2+v6))).toNat (gD v7 ((w64 (v3+v6))))) ((w64 (v3+v6))).toNat (gD v7 ((w64 (v2+v6)))))⟩] (ax [.v 0 1,.v 0 1,.v 0 1,.v 0 1,.v 0 2,.v 0 2,.v 0 2,.v 0 2,.v 0 1,.v 0 1,.v 0 1,.v 0 1] (d_v (aD 0 1 (eInt .i64) (L:=v7) h7) (d_v (aG 3 0 (eInt .i64) (eInt .i64) (ay h7).2 (fun _=>rfl)) (ax [.v 0 2,.v 0 2,.v 0 2,.v 0 2] (av (k_v (lo:=0) (k:=2) (bn ⟨(by kernel_rfl),(bp (aD 0 1 (eInt .i64) (L:=v7) h8) (by kernel_rfl))⟩ (bn ⟨(by kernel_rfl),(bp (aD 0 1 (eInt .i64) (L:=(List.set v7 ((w64 (v2+v6))).toNat (gD v7 ((w64 (v3+v6)))))) h8) (by kernel_rfl))⟩ bU))) (d_v (aG 3 0 (eInt .i64) (eInt .i64) (ay h9).2 (fun _=>rfl)) (d_v (aD 0 1 (eInt .i64) (L:=v7) h9) (av (e_s (m:=0) (bi 0 3 1 0 (eInt .i64) (eInt .i64) (gD v7 ((w64 (v3+v6)))) (ay h9).2 (fun _=>rfl))) (av (e_v (lo:=1) (aD 0 1 (eInt .i64) (L:=(List.set v7 ((w64 (v2+v6))).toNat (gD v7 ((w64 (v3+v6)))))) h10)) (av (e_s (m:=1) (bi 0 3 1 0 (eInt .i64) (eInt .i64) (gD v7 ((w64 (v2+v6)))) (ay h10).2 (fun _=>rfl))) bq)))))))))) (af 2 (aI (hL1 h)))
  ·
   refine ah 13 h6 (ae (ks':=[]) 5 (eR ?_))
   cases h
   exact cI
theorem mA (hK:KnOk K) (m:Nat):H95_1 M w0 r v2 v3 v4 m (fg K n v2 v3 v4 m):=by
  induction m with
 | zero=>intro v6 v7 h; cases h
 | succ m ih=>intro v6 v7 h; have h:i8 K n v2 v3 v4 (fg K n v2 v3 v4 m) v6 v7=some r:=h; exact aL (mu hK ih h)
theorem lq (hK:KnOk K) (h:eU K n v1 v2 v3 v4 v5=some r):AIO Try.prog 95 [.ref 0,iI v2,iI v3,iI v4,.fn v5.id v5.caps] 0 ⟨3,1,lm (eInt .i64) v1⟩ (fun v s=>v = .tup []∧look 0 s.r=some ⟨3,1,lm (eInt .i64) r⟩):=by
  refine eX (c:=cat Try.f95 []) Try.func95 (by kernel_rfl) _ Try.ntmps95 (of_decide_eq_true (by kernel_rfl)) fun M w0=>(aY ⟨[(0,.ref 0),(1,iI v2),(2,iI v3),(3,iI v4),(4,.fn v5.id v5.caps)],[],[(0,⟨3,1,lm (eInt .i64) v1⟩)],[0,1000000]⟩ ?_)
  unfold eU at h
  exact af 3 (aM (p:=[1,0]) n (mA hK n h))
end
def p92_0:=pth 0 111000
def p92_1:=pth 0 11100001
def p92_2:=pth 0 1110001
def p92_3:=pth 0 111000101
def p92_4:=pth 0 11100010100
def p92_5:=pth 0 11100010101
def p92_6:=pth 0 11100010110
def p92_7:=pth 0 11100010111
def p92_8:=pth 0 11100
noncomputable section
abbrev cx92 (M:Nat→Prop) (w0:Base):Cx:=⟨Try.prog,58,M,w0⟩
abbrev q92 (M:Nat→Prop) (w0:Base) (r:List Int):=bodyPost Try.prog Try.f92 (RetQ M w0 (fun v s=>v = .tup []∧look 0 s.r=some ⟨3,1,lm (eInt .i64) r⟩))
abbrev bQ (p:List Nat):Kont:=.c (cat Try.f92 p)
abbrev fk (M:Nat→Prop) (w0:Base) (r:List Int) (m1:Nat):Kont:=kl (cx92 M w0) (q92 M w0 r) [.b 0,bQ [1,1,1]] (cat Try.f92 p92_0) m1
def s92_j1 (v3:Int) (v5:Fv) (v16 v17:Int) (v18:List Int):AS:=⟨[(0,.ref 0),(2,iI v3),(4,.fn v5.id v5.caps),(10,iI v16),(11,iI v17)],[],[(0,⟨3,1,lm (eInt .i64) v18⟩)],[0,1000000,0]⟩
def s92_l2 (v3:Int) (v5:Fv) (v11 v12:Int) (v13:List Int):AS:=⟨[(0,.ref 0),(2,iI v3),(4,.fn v5.id v5.caps),(10,iI v11),(11,iI v12)],[],[(0,⟨3,1,lm (eInt .i64) v13⟩)],[0,1000000,0]⟩
abbrev H92_1 (M:Nat→Prop) (w0:Base) (r:List Int) (v3:Int) (v5:Fv) (m1:Nat) (L1:Int→Int→(List Int)→Option (List Int)):Prop:=∀ {v11:Int} {v12:Int} {v13:(List Int)},L1 v11 v12 v13=some r→LP (cx92 M w0) (q92 M w0 r) [.b 0,bQ [1,1,1]] (cat Try.f92 p92_0) m1 (s92_l2 v3 v5 v11 v12 v13)
variable {K:Kn} {n:Nat} {M:Nat→Prop} {w0:Base} {r v1:List Int} {v2 v3 v4:Int} {v5:Fv} {v11 v12:Int} {v13:List Int} {v16 v17:Int} {v18:List Int} {m1:Nat} {L1:Int→Int→(List Int)→Option (List Int)}
theorem l5 (hK:KnOk K) (hL1:H92_1 M w0 r v3 v5 m1 L1) (h:gu K n v3 v5 L1 v16 v17 v18=some r):VE (cx92 M w0) (q92 M w0 r) [.b 1,fk M w0 r m1,.b 0,bQ [1,1,1]] .normal (s92_j1 v3 v5 v16 v17 v18):=by
  unfold gu at h
  exact af 1 (aI (hL1 h))
theorem nK (hK:KnOk K) (hL1:H92_1 M w0 r v3 v5 m1 L1) (h:iS K n v3 v5 L1 v11 v12 v13=some r):VE (cx92 M w0) (q92 M w0 r) [bQ p92_0,fk M w0 r m1,.b 0,bQ [1,1,1]] .normal (s92_l2 v3 v5 v11 v12 v13):=by
  unfold iS at h
  refine ae (ks':=[bQ p92_1,bQ p92_2,fk M w0 r m1,.b 0,bQ [1,1,1]]) 3 ?_
  rcases aq h with ⟨h5,h⟩ | ⟨h5,h⟩
  ·
   refine ah 20 h5 (ae (ks':=[bQ p92_3,.b 1,fk M w0 r m1,.b 0,bQ [1,1,1]]) 5 ?_)
   rcases aq h with ⟨h6,h⟩ | ⟨h6,h⟩
   ·
    refine ah 23 h6 (ae (ks':=[bQ p92_4,bQ p92_5,.b 1,fk M w0 r m1,.b 0,bQ [1,1,1]]) 2 (ap 7 ?_))
    obtain ⟨v14,h7,h⟩:=bind_some h
    exact cu 0 0 (lq hK h7) (aj (af 1 (l5 hK hL1 h)))
   ·
    refine ah 23 h6 (ae (ks':=[bQ p92_6,bQ p92_7,.b 1,fk M w0 r m1,.b 0,bQ [1,1,1]]) 2 (ap 11 ?_))
    obtain ⟨v15,h8,h⟩:=bind_some h
    exact cu 0 0 (lq hK h8) (aj (af 1 (l5 hK hL1 h)))
  ·
   refine ah 20 h5 (ae (ks':=[bQ [1,1,1]]) 5 (ap 7 ?_))
   obtain ⟨v19,h9,h⟩:=bind_some h
   refine cu 0 0 (lq hK h9) (aj (eR ?_))
   cases h
   exact cI
theorem oc (hK:KnOk K) (m:Nat):H92_1 M w0 r v3 v5 m (fv K n v3 v5 m):=by
  induction m with
 | zero=>intro v11 v12 v13 h; cases h
 | succ m ih=>intro v11 v12 v13 h; have h:iS K n v3 v5 (fv K n v3 v5 m) v11 v12 v13=some r:=h; exact aL (nK hK ih h)
theorem mC (hK:KnOk K) (h:i7 K n v1 v2 v3 v4 v5=some r):AIO Try.prog 92 [.ref 0,iI v2,iI v3,iI v4,.fn v5.id v5.caps] 0 ⟨3,1,lm (eInt .i64) v1⟩ (fun v s=>v = .tup []∧look 0 s.r=some ⟨3,1,lm (eInt .i64) r⟩):=by
  refine eX (c:=cat Try.f92 []) Try.func92 (by kernel_rfl) _ Try.ntmps92 (of_decide_eq_true (by kernel_rfl)) fun M w0=>(aY ⟨[(0,.ref 0),(1,iI v2),(2,iI v3),(3,iI v4),(4,.fn v5.id v5.caps)],[],[(0,⟨3,1,lm (eInt .i64) v1⟩)],[0,1000000]⟩ ?_)
  unfold i7 at h
  exact af 6 (aM (p:=p92_8) n (oc hK n h))
end
def p81_0:=pth 0 10101111
def p81_1:=pth 0 10101110100
def fw:=pth 0 1010111
def p81_3:=pth 0 101011000
def p81_4:=pth 0 110101111
def p81_5:=pth 0 110101110100
def fM:=pth 0 11010111
def p81_7:=pth 0 1101011000
def ge:=pth 8 1
def p81_9:=pth 7 1000
def p81_10:=pth 0 1010111010001
def p81_11:=pth 0 101011101001
def p81_12:=pth 0 10101110100100
def p81_13:=pth 0 1010111010011
def p81_14:=pth 0 10101100001
def p81_15:=pth 0 1010110001
def p81_16:=pth 0 1010110001010
def p81_17:=pth 0 1010110001011
def p81_18:=pth 0 1010111010
def p81_19:=pth 0 11010111010001
def p81_20:=pth 0 1101011101001
def p81_21:=pth 0 110101110100100
def p81_22:=pth 0 11010111010011
def p81_23:=pth 0 110101100001
def p81_24:=pth 0 11010110001
def p81_25:=pth 0 11010110001010
def p81_26:=pth 0 11010110001011
def p81_27:=pth 0 11010111010
def p81_28:=pth 12 1
def p81_29:=pth 12 10
def p81_30:=pth 11 1
def p81_31:=pth 11 10
def p81_32:=pth 10 101
def p81_33:=pth 10 1010
def p81_34:=pth 10 1
def p81_35:=pth 10 100
def p81_36:=pth 9 101
def p81_37:=pth 9 1010
def p81_38:=pth 7 100001
def p81_39:=pth 7 10001
def p81_40:=pth 7 10001010
def p81_41:=pth 7 10001011
def p81_42:=pth 9 100
def p81_43:=pth 6 1
def p81_44:=pth 7 100
def p81_45:=pth 0 10101100
def p81_46:=pth 0 110101100
def p81_47:=pth 5 101
noncomputable section
abbrev bB (M:Nat→Prop) (w0:Base):Cx:=⟨Try.prog,220,M,w0⟩
abbrev q81 (M:Nat→Prop) (w0:Base) (r:List Int):=bodyPost Try.prog Try.f81 (RetQ M w0 (fun v s=>v = .tup []∧look 0 s.r=some ⟨3,1,lm (eInt .i64) r⟩))
abbrev aw (p:List Nat):Kont:=.c (cat Try.f81 p)
abbrev k81_2 (M:Nat→Prop) (w0:Base) (r:List Int) (m2:Nat):Kont:=kl (bB M w0) (q81 M w0 r) [.b 2,aw p81_0,aw [1]] (cat Try.f81 p81_1) m2
abbrev k81_1 (M:Nat→Prop) (w0:Base) (r:List Int) (m1:Nat):Kont:=kl (bB M w0) (q81 M w0 r) [.b 0,aw fw,aw [1]] (cat Try.f81 p81_3) m1
abbrev k81_4 (M:Nat→Prop) (w0:Base) (r:List Int) (m4:Nat):Kont:=kl (bB M w0) (q81 M w0 r) [.b 6,aw p81_4,aw [1,1]] (cat Try.f81 p81_5) m4
abbrev k81_3 (M:Nat→Prop) (w0:Base) (r:List Int) (m3:Nat):Kont:=kl (bB M w0) (q81 M w0 r) [.b 4,aw fM,aw [1,1]] (cat Try.f81 p81_7) m3
abbrev k81_5 (M:Nat→Prop) (w0:Base) (r:List Int) (m5:Nat):Kont:=kl (bB M w0) (q81 M w0 r) [.b 8,aw ge] (cat Try.f81 p81_9) m5
def s81_j1 (v1:List Int) (v2:Int) (v5:Fv) (v14 v15:Int):AS:=⟨[(0,.ref 0),(1,iI v2),(4,.fn v5.id v5.caps),(10,iI v14),(11,iI v15)],[],[(0,⟨3,1,lm (eInt .i64) v1⟩)],[0,1000000,0]⟩
def s81_l3 (v10 v16:Int) (v17:List Int):AS:=⟨[(0,.ref 0),(10,iI v10),(13,iI v16)],[],[(0,⟨3,1,lm (eInt .i64) v17⟩)],[0,1000000,0]⟩
def s81_l2 (v1:List Int) (v2:Int) (v5:Fv) (v10 v11:Int):AS:=⟨[(0,.ref 0),(1,iI v2),(4,.fn v5.id v5.caps),(10,iI v10),(11,iI v11)],[],[(0,⟨3,1,lm (eInt .i64) v1⟩)],[0,1000000,0]⟩
def s81_j4 (v1:List Int) (v3:Int) (v5:Fv) (v26 v27:Int):AS:=⟨[(0,.ref 0),(2,iI v3),(4,.fn v5.id v5.caps),(14,iI v26),(15,iI v27)],[],[(0,⟨3,1,lm (eInt .i64) v1⟩)],[0,1000000,0]⟩
def s81_l6 (v22 v28:Int) (v29:List Int):AS:=⟨[(0,.ref 0),(14,iI v22),(17,iI v28)],[],[(0,⟨3,1,lm (eInt .i64) v29⟩)],[0,1000000,0]⟩
def s81_l5 (v1:List Int) (v3:Int) (v5:Fv) (v22 v23:Int):AS:=⟨[(0,.ref 0),(2,iI v3),(4,.fn v5.id v5.caps),(14,iI v22),(15,iI v23)],[],[(0,⟨3,1,lm (eInt .i64) v1⟩)],[0,1000000,0]⟩
def s81_j8 (v1:List Int) (v2 v3 v4:Int) (v5:Fv) (v30 v31 v43 v44:Int):AS:=⟨[(0,.ref 0),(1,iI v2),(2,iI v3),(3,iI v4),(4,.fn v5.id v5.caps),(18,iI v30),(19,iI v31),(20,iI v43),(21,iI v44),(22,iI (w64 (v31 - 1)))],[],[(0,⟨3,1,lm (eInt .i64) v1⟩)],[0,1000000,0]⟩
def s81_j15 (v53:List Int):AS:=⟨[],[],[(0,⟨3,1,lm (eInt .i64) v53⟩)],[0,1000000,0]⟩
def s81_j14 (v4:Int) (v5:Fv) (v30 v31 v39:Int) (v50:List Int) (v51:Bool):AS:=⟨[(0,.ref 0),(3,iI v4),(4,.fn v5.id v5.caps),(18,iI v30),(24,iI (w64 (v31 - v39))),(213,.bool v51)],[],[(0,⟨3,1,lm (eInt .i64) v50⟩)],[0,1000000,0]⟩
def s81_j13 (v4:Int) (v5:Fv) (v30 v31 v39:Int) (v50:List Int):AS:=⟨[(0,.ref 0),(3,iI v4),(4,.fn v5.id v5.caps),(18,iI v30),(24,iI (w64 (v31 - v39)))],[],[(0,⟨3,1,lm (eInt .i64) v50⟩)],[0,1000000,0]⟩
def s81_j12 (v2 v4:Int) (v5:Fv) (v30 v31 v39:Int) (v47:List Int) (v48:Bool):AS:=⟨[(0,.ref 0),(1,iI v2),(3,iI v4),(4,.fn v5.id v5.caps),(18,iI v30),(20,iI v39),(24,iI (w64 (v31 - v39))),(199,.bool v48)],[],[(0,⟨3,1,lm (eInt .i64) v47⟩)],[0,1000000,0]⟩
def s81_j11 (v2 v4:Int) (v5:Fv) (v30 v31 v39:Int) (v47:List Int):AS:=⟨[(0,.ref 0),(1,iI v2),(3,iI v4),(4,.fn v5.id v5.caps),(18,iI v30),(20,iI v39),(24,iI (w64 (v31 - v39)))],[],[(0,⟨3,1,lm (eInt .i64) v47⟩)],[0,1000000,0]⟩
def s81_j10 (v1:List Int) (v2 v3 v4:Int) (v5:Fv) (v30 v31 v39:Int) (v45:Bool):AS:=⟨[(0,.ref 0),(1,iI v2),(2,iI v3),(3,iI v4),(4,.fn v5.id v5.caps),(18,iI v30),(20,iI v39),(24,iI (w64 (v31 - v39))),(185,.bool v45)],[],[(0,⟨3,1,lm (eInt .i64) v1⟩)],[0,1000000,0]⟩
def s81_l9 (v1:List Int) (v2 v3 v4:Int) (v5:Fv) (v30 v31 v39 v40:Int):AS:=⟨[(0,.ref 0),(1,iI v2),(2,iI v3),(3,iI v4),(4,.fn v5.id v5.caps),(18,iI v30),(19,iI v31),(20,iI v39),(21,iI v40),(22,iI (w64 (v31 - 1)))],[],[(0,⟨3,1,lm (eInt .i64) v1⟩)],[0,1000000,0]⟩
def s81_j7 (v1:List Int) (v2 v3 v4:Int) (v5:Fv) (v30 v31 v33 v34:Int):AS:=⟨[(0,.ref 0),(1,iI v2),(2,iI v3),(3,iI v4),(4,.fn v5.id v5.caps),(18,iI v30),(19,iI v31),(20,iI v33),(21,iI v34)],[],[(0,⟨3,1,lm (eInt .i64) v1⟩)],[0,1000000,0]⟩
abbrev H81_1 (M:Nat→Prop) (w0:Base) (r v1:List Int) (v2:Int) (v5:Fv) (m1:Nat) (L1:Int→Int→Option (List Int)):Prop:=∀ {v10:Int} {v11:Int},L1 v10 v11=some r→LP (bB M w0) (q81 M w0 r) [.b 0,aw fw,aw [1]] (cat Try.f81 p81_3) m1 (s81_l2 v1 v2 v5 v10 v11)
abbrev H81_2 (M:Nat→Prop) (w0:Base) (r:List Int) (v10:Int) (m2:Nat) (L2:Int→(List Int)→Option (List Int)):Prop:=∀ {v16:Int} {v17:(List Int)},L2 v16 v17=some r→LP (bB M w0) (q81 M w0 r) [.b 2,aw p81_0,aw [1]] (cat Try.f81 p81_1) m2 (s81_l3 v10 v16 v17)
abbrev H81_3 (M:Nat→Prop) (w0:Base) (r v1:List Int) (v3:Int) (v5:Fv) (m3:Nat) (L3:Int→Int→Option (List Int)):Prop:=∀ {v22:Int} {v23:Int},L3 v22 v23=some r→LP (bB M w0) (q81 M w0 r) [.b 4,aw fM,aw [1,1]] (cat Try.f81 p81_7) m3 (s81_l5 v1 v3 v5 v22 v23)
abbrev H81_4 (M:Nat→Prop) (w0:Base) (r:List Int) (v22:Int) (m4:Nat) (L4:Int→(List Int)→Option (List Int)):Prop:=∀ {v28:Int} {v29:(List Int)},L4 v28 v29=some r→LP (bB M w0) (q81 M w0 r) [.b 6,aw p81_4,aw [1,1]] (cat Try.f81 p81_5) m4 (s81_l6 v22 v28 v29)
abbrev H81_5 (M:Nat→Prop) (w0:Base) (r v1:List Int) (v2 v3 v4:Int) (v5:Fv) (v30 v31:Int) (m5:Nat) (L5:Int→Int→Option (List Int)):Prop:=∀ {v39:Int} {v40:Int},L5 v39 v40=some r→LP (bB M w0) (q81 M w0 r) [.b 8,aw ge] (cat Try.f81 p81_9) m5 (s81_l9 v1 v2 v3 v4 v5 v30 v31 v39 v40)
variable {K:Kn} {n:Nat} {M:Nat→Prop} {w0:Base} {r v1:List Int} {v2 v3 v4:Int} {v5:Fv} {v10 v11 v14 v15 v16:Int} {v17:List Int} {v22 v23 v26 v27 v28:Int} {v29:List Int} {v30 v31 v33 v34 v39 v40 v43 v44:Int} {v45:Bool} {v47:List Int} {v48:Bool} {v50:List Int} {v51:Bool} {v53:List Int} {m1:Nat} {L1:Int→Int→Option (List Int)} {m2:Nat} {L2:Int→(List Int)→Option (List Int)} {m3:Nat} {L3:Int→Int→Option (List Int)} {m4:Nat} {L4:Int→(List Int)→Option (List Int)} {m5:Nat} {L5:Int→Int→Option (List Int)}
theorem lV (hK:KnOk K) (hL1:H81_1 M w0 r v1 v2 v5 m1 L1) (h:gQ K n v1 v2 v5 L1 v14 v15=some r):VE (bB M w0) (q81 M w0 r) [.b 1,k81_1 M w0 r m1,.b 0,aw fw,aw [1]] .normal (s81_j1 v1 v2 v5 v14 v15):=by
  unfold gQ at h
  exact af 1 (aI (hL1 h))
theorem n9 (hK:KnOk K) (hL2:H81_2 M w0 r v10 m2 L2) (h:jl K n v10 L2 v16 v17=some r):VE (bB M w0) (q81 M w0 r) [aw p81_1,k81_2 M w0 r m2,.b 2,aw p81_0,aw [1]] .normal (s81_l3 v10 v16 v17):=by
  unfold jl at h
  refine ae (ks':=[aw p81_10,aw p81_11,k81_2 M w0 r m2,.b 2,aw p81_0,aw [1]]) 3 ?_
  rcases aq h with ⟨h19,h⟩ | ⟨h19,h⟩
  ·
   refine ah 58 h19 (ae (ks':=[aw p81_12,.b 3,aw p81_13,k81_2 M w0 r m2,.b 2,aw p81_0,aw [1]]) 4 (bu [0,10,13] [] [0] ?_))
   obtain ⟨h20,h⟩:=ak h
   obtain ⟨h21,h⟩:=ak h
   obtain ⟨h22,h⟩:=ak h
   obtain ⟨h23,h⟩:=ak h
   exact bt 2 (nu 61 [.ref 0,iI v16,.ref 0,iI v16,iI (w64 (v16+1)),.ref 0,iI v16,iI (w64 (v16+1)),.eptr 0 1 (((w64 (v16+1))).toNat) 0,iI (gD v17 ((w64 (v16+1)))),.ref 0,iI v16,.eptr 0 1 (v16.toNat) 0,iI (gD v17 v16),.eptr 0 1 (v16.toNat) 0,.eptr 0 1 (((w64 (v16+1))).toNat) 0]) [] [] [strS 0 ⟨3,1,lm (eInt .i64) (List.set v17 v16.toNat (gD v17 ((w64 (v16+1)))))⟩,strS 0 ⟨3,1,lm (eInt .i64) (List.set (List.set v17 v16.toNat (gD v17 ((w64 (v16+1))))) ((w64 (v16+1))).toNat (gD v17 v16))⟩] (ax [.v 0 1,.v 0 1,.v 0 2,.v 0 2,.v 0 2,.v 0 1,.v 0 1,.v 0 1] (d_v (aD 0 1 (eInt .i64) (L:=v17) h20) (d_v (aG 3 0 (eInt .i64) (eInt .i64) (ay h20).2 (fun _=>rfl)) (ax [.v 0 2,.v 0 2] (av (k_v (lo:=0) (k:=2) (bn ⟨(by kernel_rfl),(bp (aD 0 1 (eInt .i64) (L:=v17) h21) (by kernel_rfl))⟩ (bn ⟨(by kernel_rfl),(bp (aD 0 1 (eInt .i64) (L:=(List.set v17 v16.toNat (gD v17 ((w64 (v16+1)))))) h21) (by kernel_rfl))⟩ bU))) (d_v (aG 3 0 (eInt .i64) (eInt .i64) (ay h22).2 (fun _=>rfl)) (d_v (aD 0 1 (eInt .i64) (L:=v17) h22) (av (e_s (m:=0) (bi 0 3 1 0 (eInt .i64) (eInt .i64) (gD v17 ((w64 (v16+1)))) (ay h22).2 (fun _=>rfl))) (av (e_v (lo:=1) (aD 0 1 (eInt .i64) (L:=(List.set v17 v16.toNat (gD v17 ((w64 (v16+1)))))) h23)) (av (e_s (m:=1) (bi 0 3 1 0 (eInt .i64) (eInt .i64) (gD v17 v16) (ay h23).2 (fun _=>rfl))) bq)))))))))) (af 2 (aI (hL2 h)))
  ·
   refine ah 58 h19 (aJ 7 ?_)
   cases h
   exact cI
theorem nQ (hK:KnOk K) (m:Nat):H81_2 M w0 r v10 m (fd K n v10 m):=by
  induction m with
 | zero=>intro v16 v17 h; cases h
 | succ m ih=>intro v16 v17 h; have h:jl K n v10 (fd K n v10 m) v16 v17=some r:=h; exact aL (n9 hK ih h)
theorem mH (hK:KnOk K) (hL1:H81_1 M w0 r v1 v2 v5 m1 L1) (h:jq K n v1 v2 v5 L1 v10 v11=some r):VE (bB M w0) (q81 M w0 r) [aw p81_3,k81_1 M w0 r m1,.b 0,aw fw,aw [1]] .normal (s81_l2 v1 v2 v5 v10 v11):=by
  unfold jq at h
  refine ae (ks':=[aw p81_14,aw p81_15,k81_1 M w0 r m1,.b 0,aw fw,aw [1]]) 3 ?_
  rcases aq h with ⟨h8,h⟩ | ⟨h8,h⟩
  ·
   refine ah 33 h8 ?_
   obtain ⟨v12,h9,h⟩:=bind_some h
   have h9:=Option.some.inj h9
   refine bd (ks':=[aw p81_16,aw p81_17,.b 1,k81_1 M w0 r m1,.b 0,aw fw,aw [1]]) 6 ⟨[(0,.ref 0),(1,iI v2),(4,.fn v5.id v5.caps),(10,iI v10),(11,iI v11),(12,iI v12)],[],[(0,⟨3,1,lm (eInt .i64) v1⟩)],[0,1000000,0]⟩ ?_ (by subst h9; kernel_rfl)
   obtain ⟨h10,h⟩:=ak h
   obtain ⟨h11,h⟩:=ak h
   obtain ⟨v13,h12,h⟩:=bind_some h
   refine bt 0 (nu 40 [.fn v5.id v5.caps,.ref 0,iI v12,.eptr 0 1 (v12.toNat) 0,iI (gD v1 v12),.ref 0,iI v2,.eptr 0 1 (v2.toNat) 0,iI (gD v1 v2),iI v13,.bool (decide (v13<0))]) [] [] [] (ax (vz 3) (d_v (aD 0 1 (eInt .i64) (L:=v1) h10) (d_v (aG 3 0 (eInt .i64) (eInt .i64) (ay h10).2 (fun _=>rfl)) (ax (vz 2) (d_v (aD 0 1 (eInt .i64) (L:=v1) h11) (d_v (aG 3 0 (eInt .i64) (eInt .i64) (ay h11).2 (fun _=>rfl)) (av (e_c 0 1 49 (hK.bZ h12).2 (hK.bZ h12).1) (ax [.v 0 1] bq)))))))) ?_
   rcases aq h with ⟨h13,h⟩ | ⟨h13,h⟩
   ·
    exact ah 50 h13 (af 2 (lV hK hL1 h))
   ·
    exact ah 50 h13 (af 2 (lV hK hL1 h))
  ·
   exact ah 33 h8 (af 9 (aM (p:=p81_18) n (nQ hK n h)))
theorem oF (hK:KnOk K) (m:Nat):H81_1 M w0 r v1 v2 v5 m (gz K n v1 v2 v5 m):=by
  induction m with
 | zero=>intro v10 v11 h; cases h
 | succ m ih=>intro v10 v11 h; have h:jq K n v1 v2 v5 (gz K n v1 v2 v5 m) v10 v11=some r:=h; exact aL (mH hK ih h)
theorem ly (hK:KnOk K) (hL3:H81_3 M w0 r v1 v3 v5 m3 L3) (h:gG K n v1 v3 v5 L3 v26 v27=some r):VE (bB M w0) (q81 M w0 r) [.b 5,k81_3 M w0 r m3,.b 4,aw fM,aw [1,1]] .normal (s81_j4 v1 v3 v5 v26 v27):=by
  unfold gG at h
  exact af 1 (aI (hL3 h))
theorem mP (hK:KnOk K) (hL4:H81_4 M w0 r v22 m4 L4) (h:im K n v22 L4 v28 v29=some r):VE (bB M w0) (q81 M w0 r) [aw p81_5,k81_4 M w0 r m4,.b 6,aw p81_4,aw [1,1]] .normal (s81_l6 v22 v28 v29):=by
  unfold im at h
  refine ae (ks':=[aw p81_19,aw p81_20,k81_4 M w0 r m4,.b 6,aw p81_4,aw [1,1]]) 3 ?_
  rcases aq h with ⟨h42,h⟩ | ⟨h42,h⟩
  ·
   refine ah 110 h42 (ae (ks':=[aw p81_21,.b 7,aw p81_22,k81_4 M w0 r m4,.b 6,aw p81_4,aw [1,1]]) 4 (bu [0,14,17] [] [0] ?_))
   obtain ⟨h43,h⟩:=ak h
   obtain ⟨h44,h⟩:=ak h
   obtain ⟨h45,h⟩:=ak h
   obtain ⟨h46,h⟩:=ak h
   exact bt 2 (nu 113 [.ref 0,iI v28,.ref 0,iI v28,iI (w64 (v28 - 1)),.ref 0,iI v28,iI (w64 (v28 - 1)),.eptr 0 1 (((w64 (v28 - 1))).toNat) 0,iI (gD v29 ((w64 (v28 - 1)))),.ref 0,iI v28,.eptr 0 1 (v28.toNat) 0,iI (gD v29 v28),.eptr 0 1 (v28.toNat) 0,.eptr 0 1 (((w64 (v28 - 1))).toNat) 0]) [] [] [strS 0 ⟨3,1,lm (eInt .i64) (List.set v29 v28.toNat (gD v29 ((w64 (v28 - 1)))))⟩,strS 0 ⟨3,1,lm (eInt .i64) (List.set (List.set v29 v28.toNat (gD v29 ((w64 (v28 - 1))))) ((w64 (v28 - 1))).toNat (gD v29 v28))⟩] (ax [.v 0 1,.v 0 1,.v 0 2,.v 0 2,.v 0 2,.v 0 1,.v 0 1,.v 0 1] (d_v (aD 0 1 (eInt .i64) (L:=v29) h43) (d_v (aG 3 0 (eInt .i64) (eInt .i64) (ay h43).2 (fun _=>rfl)) (ax [.v 0 2,.v 0 2] (av (k_v (lo:=0) (k:=2) (bn ⟨(by kernel_rfl),(bp (aD 0 1 (eInt .i64) (L:=v29) h44) (by kernel_rfl))⟩ (bn ⟨(by kernel_rfl),(bp (aD 0 1 (eInt .i64) (L:=(List.set v29 v28.toNat (gD v29 ((w64 (v28 - 1)))))) h44) (by kernel_rfl))⟩ bU))) (d_v (aG 3 0 (eInt .i64) (eInt .i64) (ay h45).2 (fun _=>rfl)) (d_v (aD 0 1 (eInt .i64) (L:=v29) h45) (av (e_s (m:=0) (bi 0 3 1 0 (eInt .i64) (eInt .i64) (gD v29 ((w64 (v28 - 1)))) (ay h45).2 (fun _=>rfl))) (av (e_v (lo:=1) (aD 0 1 (eInt .i64) (L:=(List.set v29 v28.toNat (gD v29 ((w64 (v28 - 1)))))) h46)) (av (e_s (m:=1) (bi 0 3 1 0 (eInt .i64) (eInt .i64) (gD v29 v28) (ay h46).2 (fun _=>rfl))) bq)))))))))) (af 2 (aI (hL4 h)))
  ·
   refine ah 110 h42 (aJ 7 ?_)
   cases h
   exact cI
theorem nx (hK:KnOk K) (m:Nat):H81_4 M w0 r v22 m (eC K n v22 m):=by
  induction m with
 | zero=>intro v28 v29 h; cases h
 | succ m ih=>intro v28 v29 h; have h:im K n v22 (eC K n v22 m) v28 v29=some r:=h; exact aL (mP hK ih h)
theorem nV (hK:KnOk K) (hL3:H81_3 M w0 r v1 v3 v5 m3 L3) (h:ii K n v1 v3 v5 L3 v22 v23=some r):VE (bB M w0) (q81 M w0 r) [aw p81_7,k81_3 M w0 r m3,.b 4,aw fM,aw [1,1]] .normal (s81_l5 v1 v3 v5 v22 v23):=by
  unfold ii at h
  refine ae (ks':=[aw p81_23,aw p81_24,k81_3 M w0 r m3,.b 4,aw fM,aw [1,1]]) 3 ?_
  rcases aq h with ⟨h31,h⟩ | ⟨h31,h⟩
  ·
   refine ah 85 h31 ?_
   obtain ⟨v24,h32,h⟩:=bind_some h
   have h32:=Option.some.inj h32
   refine bd (ks':=[aw p81_25,aw p81_26,.b 5,k81_3 M w0 r m3,.b 4,aw fM,aw [1,1]]) 6 ⟨[(0,.ref 0),(2,iI v3),(4,.fn v5.id v5.caps),(14,iI v22),(15,iI v23),(16,iI v24)],[],[(0,⟨3,1,lm (eInt .i64) v1⟩)],[0,1000000,0]⟩ ?_ (by subst h32; kernel_rfl)
   obtain ⟨h33,h⟩:=ak h
   obtain ⟨h34,h⟩:=ak h
   obtain ⟨v25,h35,h⟩:=bind_some h
   refine bt 0 (nu 92 [.fn v5.id v5.caps,.ref 0,iI v3,.eptr 0 1 (v3.toNat) 0,iI (gD v1 v3),.ref 0,iI v24,.eptr 0 1 (v24.toNat) 0,iI (gD v1 v24),iI v25,.bool (decide (v25<0)),.bool (!(decide (v25<0)))]) [] [] [] (ax (vz 3) (d_v (aD 0 1 (eInt .i64) (L:=v1) h33) (d_v (aG 3 0 (eInt .i64) (eInt .i64) (ay h33).2 (fun _=>rfl)) (ax (vz 2) (d_v (aD 0 1 (eInt .i64) (L:=v1) h34) (d_v (aG 3 0 (eInt .i64) (eInt .i64) (ay h34).2 (fun _=>rfl)) (av (e_c 0 1 101 (hK.bZ h35).2 (hK.bZ h35).1) (ax (vz 2) bq)))))))) ?_
   rcases aq h with ⟨h36,h⟩ | ⟨h36,h⟩
   ·
    exact ah 103 h36 (af 2 (ly hK hL3 h))
   ·
    exact ah 103 h36 (af 2 (ly hK hL3 h))
  ·
   exact ah 85 h31 (af 9 (aM (p:=p81_27) n (nx hK n h)))
theorem n3 (hK:KnOk K) (m:Nat):H81_3 M w0 r v1 v3 v5 m (fi K n v1 v3 v5 m):=by
  induction m with
 | zero=>intro v22 v23 h; cases h
 | succ m ih=>intro v22 v23 h; have h:ii K n v1 v3 v5 (fi K n v1 v3 v5 m) v22 v23=some r:=h; exact aL (nV hK ih h)
theorem mf (hK:KnOk K) (hL5:H81_5 M w0 r v1 v2 v3 v4 v5 v30 v31 m5 L5) (h:ik K n v1 v2 v3 v4 v5 v30 v31 L5 v43 v44=some r):VE (bB M w0) (q81 M w0 r) [.b 9,k81_5 M w0 r m5,.b 8,aw ge] .normal (s81_j8 v1 v2 v3 v4 v5 v30 v31 v43 v44):=by
  unfold ik at h
  exact af 1 (aI (hL5 h))
theorem lG (hK:KnOk K) (h:iK K n v53=some r):VE (bB M w0) (q81 M w0 r) [] .normal (s81_j15 v53):=by
  unfold iK at h
  refine eR ?_
  cases h
  exact cI
theorem l9 (hK:KnOk K) (h:fr K n v4 v5 v30 v31 v39 v50 v51=some r):VE (bB M w0) (q81 M w0 r) [aw p81_28] .normal (s81_j14 v4 v5 v30 v31 v39 v50 v51):=by
  unfold fr at h
  rcases aq h with ⟨h70,h⟩ | ⟨h70,h⟩
  ·
   refine ah 213 h70 (ae (ks':=[aw p81_29]) 1 (ap 5 ?_))
   obtain ⟨v52,h71,h⟩:=bind_some h
   exact cu 0 0 (hK.cS h71) (aj (af 0 (lG hK h)))
  ·
   exact ah 213 h70 (af 2 (lG hK h))
theorem lT (hK:KnOk K) (h:dq K n v4 v5 v30 v31 v39 v50=some r):VE (bB M w0) (q81 M w0 r) [aw p81_30] .normal (s81_j13 v4 v5 v30 v31 v39 v50):=by
  unfold dq at h
  refine ae (ks':=[aw p81_31,aw p81_28]) 1 (ap 4 ?_)
  rcases aq h with ⟨h69,h⟩ | ⟨h69,h⟩
  ·
   exact aE 209 h69 (aj (af 0 (l9 hK h)))
  ·
   exact aE 209 h69 (aj (af 0 (l9 hK h)))
theorem md (hK:KnOk K) (h:ft K n v2 v4 v5 v30 v31 v39 v47 v48=some r):VE (bB M w0) (q81 M w0 r) [aw p81_32,aw p81_30] .normal (s81_j12 v2 v4 v5 v30 v31 v39 v47 v48):=by
  unfold ft at h
  rcases aq h with ⟨h67,h⟩ | ⟨h67,h⟩
  ·
   refine ah 199 h67 (ae (ks':=[aw p81_33,aw p81_30]) 1 (ap 5 ?_))
   obtain ⟨v49,h68,h⟩:=bind_some h
   exact cu 0 0 (hK.cS h68) (aj (af 0 (lT hK h)))
  ·
   exact ah 199 h67 (af 2 (lT hK h))
theorem lZ (hK:KnOk K) (h:e7 K n v2 v4 v5 v30 v31 v39 v47=some r):VE (bB M w0) (q81 M w0 r) [aw p81_34] .normal (s81_j11 v2 v4 v5 v30 v31 v39 v47):=by
  unfold e7 at h
  refine ae (ks':=[aw p81_35,aw p81_32,aw p81_30]) 2 (ap 4 ?_)
  rcases aq h with ⟨h66,h⟩ | ⟨h66,h⟩
  ·
   exact aE 195 h66 (aj (af 0 (md hK h)))
  ·
   exact aE 195 h66 (aj (af 0 (md hK h)))
theorem lE (hK:KnOk K) (h:cv K n v1 v2 v3 v4 v5 v30 v31 v39 v45=some r):VE (bB M w0) (q81 M w0 r) [aw p81_36,aw p81_34] .normal (s81_j10 v1 v2 v3 v4 v5 v30 v31 v39 v45):=by
  unfold cv at h
  rcases aq h with ⟨h64,h⟩ | ⟨h64,h⟩
  ·
   refine ah 185 h64 (ae (ks':=[aw p81_37,aw p81_34]) 1 (ap 5 ?_))
   obtain ⟨v46,h65,h⟩:=bind_some h
   exact cu 0 0 (mC hK h65) (aj (af 0 (lZ hK h)))
  ·
   exact ah 185 h64 (af 2 (lZ hK h))
theorem mE (hK:KnOk K) (hL5:H81_5 M w0 r v1 v2 v3 v4 v5 v30 v31 m5 L5) (h:gN K n v1 v2 v3 v4 v5 v30 v31 L5 v39 v40=some r):VE (bB M w0) (q81 M w0 r) [aw p81_9,k81_5 M w0 r m5,.b 8,aw ge] .normal (s81_l9 v1 v2 v3 v4 v5 v30 v31 v39 v40):=by
  unfold gN at h
  refine ae (ks':=[aw p81_38,aw p81_39,k81_5 M w0 r m5,.b 8,aw ge]) 3 ?_
  rcases aq h with ⟨h57,h⟩ | ⟨h57,h⟩
  ·
   refine ah 151 h57 ?_
   obtain ⟨v41,h58,h⟩:=bind_some h
   have h58:=Option.some.inj h58
   refine bd (ks':=[aw p81_40,aw p81_41,.b 9,k81_5 M w0 r m5,.b 8,aw ge]) 6 ⟨[(0,.ref 0),(1,iI v2),(2,iI v3),(3,iI v4),(4,.fn v5.id v5.caps),(18,iI v30),(19,iI v31),(20,iI v39),(21,iI v40),(22,iI (w64 (v31 - 1))),(23,iI v41)],[],[(0,⟨3,1,lm (eInt .i64) v1⟩)],[0,1000000,0]⟩ ?_ (by subst h58; kernel_rfl)
   obtain ⟨h59,h⟩:=ak h
   obtain ⟨h60,h⟩:=ak h
   obtain ⟨v42,h61,h⟩:=bind_some h
   refine bt 0 (nu 158 [.fn v5.id v5.caps,.ref 0,iI (w64 (v31 - 1)),iI v41,iI (w64 ((w64 (v31 - 1)) - v41)),.eptr 0 1 (((w64 ((w64 (v31 - 1)) - v41))).toNat) 0,iI (gD v1 ((w64 ((w64 (v31 - 1)) - v41)))),.ref 0,iI v41,.eptr 0 1 (v41.toNat) 0,iI (gD v1 v41),iI v42,.bool (decide (v42<0)),.bool (!(decide (v42<0)))]) [] [] [] (ax (vz 5) (d_v (aD 0 1 (eInt .i64) (L:=v1) h59) (d_v (aG 3 0 (eInt .i64) (eInt .i64) (ay h59).2 (fun _=>rfl)) (ax (vz 2) (d_v (aD 0 1 (eInt .i64) (L:=v1) h60) (d_v (aG 3 0 (eInt .i64) (eInt .i64) (ay h60).2 (fun _=>rfl)) (av (e_c 0 1 169 (hK.bZ h61).2 (hK.bZ h61).1) (ax (vz 2) bq)))))))) ?_
   rcases aq h with ⟨h62,h⟩ | ⟨h62,h⟩
   ·
    exact ah 171 h62 (af 2 (mf hK hL5 h))
   ·
    exact ah 171 h62 (af 2 (mf hK hL5 h))
  ·
   refine ah 151 h57 (ae (ks':=[aw p81_42,aw p81_36,aw p81_34]) 9 (ap 4 ?_))
   rcases aq h with ⟨h63,h⟩ | ⟨h63,h⟩
   ·
    exact aE 181 h63 (aj (af 0 (lE hK h)))
   ·
    exact aE 181 h63 (aj (af 0 (lE hK h)))
theorem na (hK:KnOk K) (m:Nat):H81_5 M w0 r v1 v2 v3 v4 v5 v30 v31 m (eb K n v1 v2 v3 v4 v5 v30 v31 m):=by
  induction m with
 | zero=>intro v39 v40 h; cases h
 | succ m ih=>intro v39 v40 h; have h:gN K n v1 v2 v3 v4 v5 v30 v31 (eb K n v1 v2 v3 v4 v5 v30 v31 m) v39 v40=some r:=h; exact aL (mE hK ih h)
theorem lF (hK:KnOk K) (h:gp K n v1 v2 v3 v4 v5 v30 v31 v33 v34=some r):VE (bB M w0) (q81 M w0 r) [aw p81_43] .normal (s81_j7 v1 v2 v3 v4 v5 v30 v31 v33 v34):=by
  unfold gp at h
  exact af 4 (aM (p:=p81_44) n (na hK n h))
theorem kT (hK:KnOk K) (h:cJ K n v1 v2 v3 v4 v5=some r):AIO Try.prog 81 [.ref 0,iI v2,iI v3,iI v4,.fn v5.id v5.caps] 0 ⟨3,1,lm (eInt .i64) v1⟩ (fun v s=>v = .tup []∧look 0 s.r=some ⟨3,1,lm (eInt .i64) r⟩):=by
  refine eX (c:=cat Try.f81 []) Try.func81 (by kernel_rfl) _ Try.ntmps81 (of_decide_eq_true (by kernel_rfl)) fun M w0=>(aY ⟨[(0,.ref 0),(1,iI v2),(2,iI v3),(3,iI v4),(4,.fn v5.id v5.caps)],[],[(0,⟨3,1,lm (eInt .i64) v1⟩)],[0,1000000]⟩ ?_)
  unfold cJ at h
  refine ae (ks':=[aw [0,1],aw [1]]) 3 ?_
  rcases aq h with ⟨h1,h⟩ | ⟨h1,h⟩
  ·
   exact ah 28 h1 (af 7 (aM (p:=p81_45) n (oF hK n h)))
  ·
   refine ah 28 h1 (ae (ks':=[aw [1,0,1],aw [1,1]]) 5 ?_)
   rcases aq h with ⟨h24,h⟩ | ⟨h24,h⟩
   ·
    exact ah 80 h24 (af 7 (aM (p:=p81_46) n (n3 hK n h)))
   ·
    refine ah 80 h24 ?_
    obtain ⟨v30,h47,h⟩:=bind_some h
    have h47:=Option.some.inj h47
    obtain ⟨v31,h48,h⟩:=bind_some h
    have h48:=Option.some.inj h48
    obtain ⟨v32,h49,h⟩:=bind_some h
    have h49:=Option.some.inj h49
    refine bd (ks':=[aw p81_47,aw p81_43]) 11 ⟨[(0,.ref 0),(1,iI v2),(2,iI v3),(3,iI v4),(4,.fn v5.id v5.caps),(18,iI v30),(19,iI v31),(140,.bool v32)],[],[(0,⟨3,1,lm (eInt .i64) v1⟩)],[0,1000000,0]⟩ ?_ (by subst h49; subst h48; subst h47; kernel_rfl)
    rcases aq h with ⟨h50,h⟩ | ⟨h50,h⟩
    ·
     exact ah 140 h50 (af 4 (lF hK h))
    ·
     exact ah 140 h50 (af 4 (lF hK h))
end
def p73_0:=pth 0 1111100
def p73_1:=pth 0 111000
def p73_2:=pth 0 11111001011
def p73_3:=pth 0 1111100101000
def p73_4:=pth 0 111110010111
def p73_5:=pth 0 111110010100001
def p73_6:=pth 0 11111001010001
def p73_7:=pth 0 1111100101000100
def p73_8:=pth 0 1111100101000101
def p73_9:=pth 0 11111001011011
def p73_10:=pth 0 111110010110110
def p73_11:=pth 0 111110001
def p73_12:=pth 0 11111001
def p73_13:=pth 0 111110010100
def p73_14:=pth 0 11100001
def p73_15:=pth 0 1110001
def p73_16:=pth 0 111000100
def p73_17:=pth 0 111000101
def p73_18:=pth 0 11110
def p73_19:=pth 0 11111
def p73_20:=pth 0 111110
def p73_21:=pth 0 11100
noncomputable section
abbrev c6 (M:Nat→Prop) (w0:Base):Cx:=⟨Try.prog,63,M,w0⟩
abbrev q73 (M:Nat→Prop) (w0:Base) (r:List Int):=bodyPost Try.prog Try.f73 (RetQ M w0 (fun v s=>v = .tup []∧look 0 s.r=some ⟨3,1,lm (eInt .i64) r⟩))
abbrev cT (M:Nat→Prop) (w0:Base) (r:List Int) (m2:Nat):Kont:=kl (c6 M w0) (q73 M w0 r) [.b 2] (cat Try.f73 p73_0) m2
abbrev bk (p:List Nat):Kont:=.c (cat Try.f73 p)
abbrev k73_1 (M:Nat→Prop) (w0:Base) (r:List Int) (m1:Nat):Kont:=kl (c6 M w0) (q73 M w0 r) [.b 0,bk [1,1,1]] (cat Try.f73 p73_1) m1
abbrev k73_3 (M:Nat→Prop) (w0:Base) (r:List Int) (m2 m3:Nat):Kont:=kl (c6 M w0) (q73 M w0 r) [.b 4,bk p73_2,.b 3,cT M w0 r m2,.b 2] (cat Try.f73 p73_3) m3
def s73_j3 (v2:Int) (v3:Fv) (v17:Int) (v25:List Int):AS:=⟨[(0,.ref 0),(1,iI v2),(2,.fn v3.id v3.caps),(6,iI v17)],[],[(0,⟨3,1,lm (eInt .i64) v25⟩)],[0,1000000,0]⟩
def s73_l2 (v2:Int) (v3:Fv) (v17 v20 v21:Int) (v22:List Int):AS:=⟨[(0,.ref 0),(1,iI v2),(2,.fn v3.id v3.caps),(6,iI v17),(7,iI v20),(8,iI v21)],[],[(0,⟨3,1,lm (eInt .i64) v22⟩)],[0,1000000,0]⟩
def s73_l4 (v2:Int) (v3:Fv) (v17:Int) (v18:List Int):AS:=⟨[(0,.ref 0),(1,iI v2),(2,.fn v3.id v3.caps),(6,iI v17)],[],[(0,⟨3,1,lm (eInt .i64) v18⟩)],[0,1000000,0]⟩
def s73_l1 (v2:Int) (v3:Fv) (v5 v6:Int) (v7:List Int):AS:=⟨[(0,.ref 0),(1,iI v2),(2,.fn v3.id v3.caps),(6,iI 20),(7,iI v5),(8,iI v6)],[],[(0,⟨3,1,lm (eInt .i64) v7⟩)],[0,1000000,0]⟩
abbrev H73_1 (M:Nat→Prop) (w0:Base) (r:List Int) (v2:Int) (v3:Fv) (m1:Nat) (L1:Int→Int→(List Int)→Option (List Int)):Prop:=∀ {v5:Int} {v6:Int} {v7:(List Int)},L1 v5 v6 v7=some r→LP (c6 M w0) (q73 M w0 r) [.b 0,bk [1,1,1]] (cat Try.f73 p73_1) m1 (s73_l1 v2 v3 v5 v6 v7)
abbrev H73_2 (M:Nat→Prop) (w0:Base) (r:List Int) (v2:Int) (v3:Fv) (m2:Nat) (L2:Int→(List Int)→Option (List Int)):Prop:=∀ {v17:Int} {v18:(List Int)},L2 v17 v18=some r→LP (c6 M w0) (q73 M w0 r) [.b 2] (cat Try.f73 p73_0) m2 (s73_l4 v2 v3 v17 v18)
abbrev H73_3 (M:Nat→Prop) (w0:Base) (r:List Int) (v2:Int) (v3:Fv) (v17:Int) (m2 m3:Nat) (L3:Int→Int→(List Int)→Option (List Int)):Prop:=∀ {v20:Int} {v21:Int} {v22:(List Int)},L3 v20 v21 v22=some r→LP (c6 M w0) (q73 M w0 r) [.b 4,bk p73_2,.b 3,cT M w0 r m2,.b 2] (cat Try.f73 p73_3) m3 (s73_l2 v2 v3 v17 v20 v21 v22)
variable {K:Kn} {n:Nat} {M:Nat→Prop} {w0:Base} {r v1:List Int} {v2:Int} {v3:Fv} {v5 v6:Int} {v7:List Int} {v17:Int} {v18:List Int} {v20 v21:Int} {v22 v25:List Int} {m1:Nat} {L1:Int→Int→(List Int)→Option (List Int)} {m2:Nat} {L2:Int→(List Int)→Option (List Int)} {m3:Nat} {L3:Int→Int→(List Int)→Option (List Int)}
theorem mg (hK:KnOk K) (hL2:H73_2 M w0 r v2 v3 m2 L2) (h:il K n v2 v3 v17 L2 v25=some r):VE (c6 M w0) (q73 M w0 r) [bk p73_4,.b 3,cT M w0 r m2,.b 2] .normal (s73_j3 v2 v3 v17 v25):=by
  unfold il at h
  exact af 2 (aI (hL2 h))
theorem ns (hK:KnOk K) (hL2:H73_2 M w0 r v2 v3 m2 L2) (hL3:H73_3 M w0 r v2 v3 v17 m2 m3 L3) (h:ix K n v2 v3 v17 L2 L3 v20 v21 v22=some r):VE (c6 M w0) (q73 M w0 r) [bk p73_3,k73_3 M w0 r m2 m3,.b 4,bk p73_2,.b 3,cT M w0 r m2,.b 2] .normal (s73_l2 v2 v3 v17 v20 v21 v22):=by
  unfold ix at h
  refine ae (ks':=[bk p73_5,bk p73_6,k73_3 M w0 r m2 m3,.b 4,bk p73_2,.b 3,cT M w0 r m2,.b 2]) 3 ?_
  rcases aq h with ⟨h16,h⟩ | ⟨h16,h⟩
  ·
   refine ah 35 h16 (ae (ks':=[bk p73_7,bk p73_8,.b 5,k73_3 M w0 r m2 m3,.b 4,bk p73_2,.b 3,cT M w0 r m2,.b 2]) 4 (ap 7 ?_))
   obtain ⟨v23,h17,h⟩:=bind_some h
   exact cu 0 0 (kT hK h17) (aj (af 4 (aI (hL3 h))))
  ·
   refine ah 35 h16 (ae (ks':=[bk p73_9,bk p73_4,.b 3,cT M w0 r m2,.b 2]) 10 ?_)
   rcases aq h with ⟨h18,h⟩ | ⟨h18,h⟩
   ·
    refine ah 54 h18 (ae (ks':=[bk p73_10,bk p73_4,.b 3,cT M w0 r m2,.b 2]) 1 (ap 5 ?_))
    obtain ⟨v24,h19,h⟩:=bind_some h
    exact cu 0 0 (kT hK h19) (aj (af 0 (mg hK hL2 h)))
   ·
    exact ah 54 h18 (af 2 (mg hK hL2 h))
theorem n4 (hK:KnOk K) (hL2:H73_2 M w0 r v2 v3 m2 L2) (m:Nat):H73_3 M w0 r v2 v3 v17 m2 m (fI K n v2 v3 v17 L2 m):=by
  induction m with
 | zero=>intro v20 v21 v22 h; cases h
 | succ m ih=>intro v20 v21 v22 h; have h:ix K n v2 v3 v17 L2 (fI K n v2 v3 v17 L2 m) v20 v21 v22=some r:=h; exact aL (ns hK hL2 ih h)
theorem nl (hK:KnOk K) (hL2:H73_2 M w0 r v2 v3 m2 L2) (h:iU K n v2 v3 L2 v17 v18=some r):VE (c6 M w0) (q73 M w0 r) [bk p73_0,cT M w0 r m2,.b 2] .normal (s73_l4 v2 v3 v17 v18):=by
  unfold iU at h
  refine ae (ks':=[bk p73_11,bk p73_12,cT M w0 r m2,.b 2]) 3 ?_
  rcases aq h with ⟨h13,h⟩ | ⟨h13,h⟩
  ·
   exact ah 30 h13 (af 7 (aM (p:=p73_13) n (n4 hK hL2 n h)))
  ·
   refine ah 30 h13 (ae (ks':=[]) 5 (eR ?_))
   cases h
   exact cI
theorem mI (hK:KnOk K) (m:Nat):H73_2 M w0 r v2 v3 m (dC K n v2 v3 m):=by
  induction m with
 | zero=>intro v17 v18 h; cases h
 | succ m ih=>intro v17 v18 h; have h:iU K n v2 v3 (dC K n v2 v3 m) v17 v18=some r:=h; exact aL (nl hK ih h)
theorem oy (hK:KnOk K) (hL1:H73_1 M w0 r v2 v3 m1 L1) (h:je K n v2 v3 L1 v5 v6 v7=some r):VE (c6 M w0) (q73 M w0 r) [bk p73_1,k73_1 M w0 r m1,.b 0,bk [1,1,1]] .normal (s73_l1 v2 v3 v5 v6 v7):=by
  unfold je at h
  refine ae (ks':=[bk p73_14,bk p73_15,k73_1 M w0 r m1,.b 0,bk [1,1,1]]) 3 ?_
  rcases aq h with ⟨h3,h⟩ | ⟨h3,h⟩
  ·
   refine ah 13 h3 (ae (ks':=[bk p73_16,bk p73_17,.b 1,k73_1 M w0 r m1,.b 0,bk [1,1,1]]) 4 (ap 4 ?_))
   obtain ⟨v8,h4,h⟩:=bind_some h
   exact cu 0 0 (lN hK h4) (aj (af 4 (aI (hL1 h))))
  ·
   refine ah 13 h3 (ae (ks':=[bk p73_18,bk p73_19]) 6 (ap 4 ?_))
   obtain ⟨v9,h5,h⟩:=bind_some h
   exact cu 0 0 (lN hK h5) (aj (af 1 (aM (p:=p73_20) n (mI hK n h))))
theorem nr (hK:KnOk K) (m:Nat):H73_1 M w0 r v2 v3 m (fF K n v2 v3 m):=by
  induction m with
 | zero=>intro v5 v6 v7 h; cases h
 | succ m ih=>intro v5 v6 v7 h; have h:je K n v2 v3 (fF K n v2 v3 m) v5 v6 v7=some r:=h; exact aL (oy hK ih h)
theorem nM (hK:KnOk K) (h:jZ K n v1 v2 v3=some r):AIO Try.prog 73 [.ref 0,iI v2,.fn v3.id v3.caps] 0 ⟨3,1,lm (eInt .i64) v1⟩ (fun v s=>v = .tup []∧look 0 s.r=some ⟨3,1,lm (eInt .i64) r⟩):=by
  refine eX (c:=cat Try.f73 []) Try.func73 (by kernel_rfl) _ Try.ntmps73 (of_decide_eq_true (by kernel_rfl)) fun M w0=>(aY ⟨[(0,.ref 0),(1,iI v2),(2,.fn v3.id v3.caps)],[],[(0,⟨3,1,lm (eInt .i64) v1⟩)],[0,1000000]⟩ ?_)
  unfold jZ at h
  exact af 6 (aM (p:=p73_21) n (nr hK n h))
end
noncomputable section
variable {K:Kn} {n:Nat} {M:Nat→Prop} {w0:Base} {r v1:List Int} {v2:Fv} 
theorem lW (hK:KnOk K) (h:cY K n v1 v2=some r):AIO Try.prog 58 [.ref 0,.fn v2.id v2.caps] 0 ⟨3,1,lm (eInt .i64) v1⟩ (fun v s=>v = .tup []∧look 0 s.r=some ⟨3,1,lm (eInt .i64) r⟩):=by
  refine eX (c:=cat Try.f58 []) Try.func58 (by kernel_rfl) _ Try.ntmps58 (of_decide_eq_true (by kernel_rfl)) fun M w0=>(aY ⟨[(0,.ref 0),(1,.fn v2.id v2.caps)],[],[(0,⟨3,1,lm (eInt .i64) v1⟩)],[0,1000000]⟩ ?_)
  unfold cY at h
  refine ap 2 (ao (aK (eInt .i64) v1) (aH 4 1 ?_))
  obtain ⟨v3,h1,h⟩:=bind_some h
  refine cu 0 0 (nM hK h1) (aj (eR ?_))
  cases h
  exact cI
end
noncomputable section
variable {K:Kn} {n:Nat} {M:Nat→Prop} {w0:Base} {r:Bool} {v1:Int} 
theorem me (hK:KnOk K) (h:gc K n v1=some r):ACalls Try.prog 74 [iI v1] (fun v _=>v = .bool r):=by
  refine br (cat Try.f74 []) Try.func74 Try.ntmps74 fun M w0=>(aY ⟨[(0,iI v1)],[],[],[]⟩ ?_)
  unfold gc at h
  refine aJ 5 ?_
  cases h
  exact bo
end
def p60_0:=pth 0 111101
def p60_1:=pth 0 11111
def p60_2:=pth 0 111101001
def p60_3:=pth 0 11110101
def p60_4:=pth 0 1111101
def p60_5:=pth 5 1
def p60_6:=pth 5 101
def p60_7:=pth 6 1
def p60_8:=pth 6 101
def p60_9:=pth 7 1
noncomputable section
variable {K:Kn} {n:Nat} {M:Nat→Prop} {w0:Base} {r v1 v2:Int} 
abbrev b6 (p:List Nat):Kont:=.c (cat Try.f60 p)
theorem lL (hK:KnOk K) (h:gb K n v1 v2=some r):ACalls Try.prog 60 [iI v1,iI v2] (fun v _=>v=iI r):=by
  refine br (cat Try.f60 []) Try.func60 Try.ntmps60 fun M w0=>(aY ⟨[(0,iI v1),(1,iI v2)],[],[],[]⟩ ?_)
  unfold gb at h
  refine ae (ks':=[b6 [1,0],b6 [1,1]]) 3 (ap 1 ?_)
  obtain ⟨v3,h1,h⟩:=bind_some h
  refine bI (me hK h1) (aj (ae (ks':=[b6 [1,1,0],b6 [1,1,1]]) 1 (ap 1 ?_)))
  obtain ⟨v4,h2,h⟩:=bind_some h
  refine bI (me hK h2) (aj (ae (ks':=[b6 p60_0,b6 p60_1]) 3 ?_))
  rcases aq h with ⟨h3,h⟩ | ⟨h3,h⟩
  ·
   refine ah 11 h3 (ae (ks':=[b6 p60_2,b6 p60_3,b6 p60_1]) 4 ?_)
   rcases aq h with ⟨h4,h⟩ | ⟨h4,h⟩
   ·
    refine ah 12 h4 (aJ 6 ?_)
    cases h
    exact bo
   ·
    refine ah 12 h4 (aJ 6 ?_)
    cases h
    exact bo
  ·
   refine ah 11 h3 (ae (ks':=[b6 p60_4,b6 p60_5]) 5 ?_)
   rcases aq h with ⟨h5,h⟩ | ⟨h5,h⟩
   ·
    refine ah 13 h5 (aJ 5 ?_)
    cases h
    exact bo
   ·
    refine ah 13 h5 (ae (ks':=[b6 p60_6,b6 p60_7]) 5 ?_)
    rcases aq h with ⟨h6,h⟩ | ⟨h6,h⟩
    ·
     refine ah 16 h6 (aJ 5 ?_)
     cases h
     exact bo
    ·
     refine ah 16 h6 (ae (ks':=[b6 p60_8,b6 p60_9]) 5 ?_)
     rcases aq h with ⟨h7,h⟩ | ⟨h7,h⟩
     ·
      refine ah 19 h7 (aJ 5 ?_)
      cases h
      exact bo
     ·
      refine ah 19 h7 (aJ 5 ?_)
      cases h
      exact bo
end
noncomputable section
variable {K:Kn} {n:Nat} {M:Nat→Prop} {w0:Base} {r v1 v2:Int} {v3:List Int} 
abbrev cF59 (p:List Nat):Kont:=.c (cat Try.f59 p)
theorem nY (hK:KnOk K) (h:gC K n v1 v2 v3=some r):ACalls Try.prog 59 [iI v1,iI v2,.cptr ([.sl (lm (eInt .i64) v3)])] (fun v _=>v=iI r):=by
  refine br (cat Try.f59 []) Try.func59 Try.ntmps59 fun M w0=>(aY ⟨[(0,iI v1),(1,iI v2),(2,.cptr ([.sl (lm (eInt .i64) v3)]))],[],[],[]⟩ ?_)
  unfold gC at h
  refine ae (ks':=[cF59 [1,0],cF59 [1,1]]) 3 (bu [0,1,2] [] [] ?_)
  obtain ⟨h1,h⟩:=ak h
  obtain ⟨h2,h⟩:=ak h
  obtain ⟨v4,h3,h⟩:=bind_some h
  refine bt 1 (nu 6 [.sl (lm (eInt .i64) v3),iI v2,.cptr ([iI (gD v3 v2)]),iI (gD v3 v2),.sl (lm (eInt .i64) v3),iI v1,.cptr ([iI (gD v3 v1)]),iI (gD v3 v1),iI v4]) [] [] [stp Try.prog 15 Try.f59 [1,0] 9] (ax (vz 2) (d_v (bh (eInt .i64) (eInt .i64) h1 (fun _=>rfl) (fun _=>rfl)) (ax (vz 3) (d_v (bh (eInt .i64) (eInt .i64) h2 (fun _=>rfl) (fun _=>rfl)) (ax [.v 0 1] (av (e_c 0 1 14 (lL hK h3)) (av (e_d 0) bq))))))) (aJ 1 ?_)
  cases h
  exact bo
end
def gw:=pth 12 1
def p27_1:=pth 11 10100
def dg:=pth 10 1
def p27_3:=pth 9 10100
def fy:=pth 7 1
def p27_5:=pth 6 10100
def p27_6:=pth 11 1010010
def p27_7:=pth 11 1010011
def p27_8:=pth 11 1010011000
def p27_9:=pth 11 1010011001
def p27_10:=pth 11 10100111
def p27_11:=pth 9 1010010
def p27_12:=pth 9 1010011
def p27_13:=pth 9 1010011000
def p27_14:=pth 9 1010011001
def p27_15:=pth 9 10100111
def p27_16:=pth 9 10100110010
def p27_17:=pth 9 10100110011
def p27_18:=pth 9 101001100110
def p27_19:=pth 9 101001100111
def p27_20:=pth 10 10
def p27_21:=pth 11 1
def p27_22:=pth 11 100
def p27_23:=pth 11 101
def p27_24:=pth 11 1010
def p27_25:=pth 6 1010010
def p27_26:=pth 6 1010011
def p27_27:=pth 6 1010011000
def p27_28:=pth 6 1010011001
def p27_29:=pth 6 10100111
def p27_30:=pth 7 101
def p27_31:=pth 8 1
def p27_32:=pth 9 100
def p27_33:=pth 9 101
def p27_34:=pth 9 1010
def p27_35:=pth 0 11110
def p27_36:=pth 0 11111
def p27_37:=pth 0 111110
def p27_38:=pth 5 1
def p27_39:=pth 6 100
def p27_40:=pth 6 101
def p27_41:=pth 6 1010
noncomputable section
abbrev di (M:Nat→Prop) (w0:Base):Cx:=⟨Try.prog,96,M,w0⟩
abbrev q27 (M:Nat→Prop) (w0:Base) (r:List Int):=bodyPost Try.prog Try.f27 (RetQ M w0 (fun v s=>v = .ref 21∧look 21 s.r=some ⟨3,1,lm (eInt .i64) r⟩))
abbrev aC (p:List Nat):Kont:=.c (cat Try.f27 p)
abbrev k27_3 (M:Nat→Prop) (w0:Base) (r:List Int) (m3:Nat):Kont:=kl (di M w0) (q27 M w0 r) [.b 4,aC gw] (cat Try.f27 p27_1) m3
abbrev fG (M:Nat→Prop) (w0:Base) (r:List Int) (m2:Nat):Kont:=kl (di M w0) (q27 M w0 r) [.b 2,aC dg] (cat Try.f27 p27_3) m2
abbrev k27_1 (M:Nat→Prop) (w0:Base) (r:List Int) (m1:Nat):Kont:=kl (di M w0) (q27 M w0 r) [.b 0,aC fy] (cat Try.f27 p27_5) m1
def s27_l3 (v26:List Int) (v27 v28:Int) (v29:List Int):AS:=⟨[(5,.ref 21),(82,.sl (lm (eInt .i64) v26)),(83,iI v27),(84,iI v28)],[],[(21,⟨3,1,lm (eInt .i64) v29⟩)],[21]⟩
def s27_l2 (v2:List Int) (v3 v8 v14 v15:Int) (v16 v17 v18:List Int):AS:=⟨[(0,iI v3),(5,.ref 21),(6,.ptr 6 0),(7,.ref 27),(8,iI v8),(11,iI v14),(43,.sl (lm (eInt .i64) v2)),(44,iI (v2.length:Int)),(45,iI v15)],[(6,[.ref 24])],[(21,⟨3,1,lm (eInt .i64) v16⟩),(24,⟨3,1,lm (eInt .i64) v17⟩),(27,⟨3,1,lm (eInt .i64) v18⟩)],[6,21,24,27]⟩
def s27_l1 (v2:List Int) (v3:Int) (v4 v5 v6:List Int) (v8 v9:Int):AS:=⟨[(0,iI v3),(1,.sl (lm (eInt .i64) v2)),(5,.ref 21),(6,.ptr 6 0),(7,.ref 27),(8,iI v8),(28,.sl (lm (eInt .i64) v2)),(29,iI (v2.length:Int)),(30,iI v9)],[(6,[.ref 24])],[(21,⟨3,1,lm (eInt .i64) v4⟩),(24,⟨3,1,lm (eInt .i64) v5⟩),(27,⟨3,1,lm (eInt .i64) v6⟩)],[6,21,24,27]⟩
abbrev H27_1 (M:Nat→Prop) (w0:Base) (r v2:List Int) (v3:Int) (v4 v5 v6:List Int) (m1:Nat) (L1:Int→Int→Option (List Int)):Prop:=∀ {v8:Int} {v9:Int},L1 v8 v9=some r→LP (di M w0) (q27 M w0 r) [.b 0,aC fy] (cat Try.f27 p27_5) m1 (s27_l1 v2 v3 v4 v5 v6 v8 v9)
abbrev H27_2 (M:Nat→Prop) (w0:Base) (r v2:List Int) (v3 v8:Int) (m2:Nat) (L2:Int→Int→(List Int)→(List Int)→(List Int)→Option (List Int)):Prop:=∀ {v14:Int} {v15:Int} {v16:(List Int)} {v17:(List Int)} {v18:(List Int)},L2 v14 v15 v16 v17 v18=some r→LP (di M w0) (q27 M w0 r) [.b 2,aC dg] (cat Try.f27 p27_3) m2 (s27_l2 v2 v3 v8 v14 v15 v16 v17 v18)
abbrev H27_3 (M:Nat→Prop) (w0:Base) (r:List Int) (m3:Nat) (L3:(List Int)→Int→Int→(List Int)→Option (List Int)):Prop:=∀ {v26:(List Int)} {v27:Int} {v28:Int} {v29:(List Int)},L3 v26 v27 v28 v29=some r→LP (di M w0) (q27 M w0 r) [.b 4,aC gw] (cat Try.f27 p27_1) m3 (s27_l3 v26 v27 v28 v29)
variable {K:Kn} {n:Nat} {M:Nat→Prop} {w0:Base} {r:List Int} {v1:Int} {v2:List Int} {v3:Int} {v4 v5 v6:List Int} {v8 v9 v14 v15:Int} {v16 v17 v18 v26:List Int} {v27 v28:Int} {v29:List Int} {m1:Nat} {L1:Int→Int→Option (List Int)} {m2:Nat} {L2:Int→Int→(List Int)→(List Int)→(List Int)→Option (List Int)} {m3:Nat} {L3:(List Int)→Int→Int→(List Int)→Option (List Int)}
theorem mX (hK:KnOk K) (hL3:H27_3 M w0 r m3 L3) (h:iC K n L3 v26 v27 v28 v29=some r):VE (di M w0) (q27 M w0 r) [aC p27_1,k27_3 M w0 r m3,.b 4,aC gw] .normal (s27_l3 v26 v27 v28 v29):=by
  unfold iC at h
  refine ae (ks':=[aC p27_6,aC p27_7,k27_3 M w0 r m3,.b 4,aC gw]) 3 ?_
  rcases aq h with ⟨h46,h⟩ | ⟨h46,h⟩
  ·
   refine ah 85 h46 (ae (ks':=[aC p27_8,aC p27_9,.b 5,aC p27_10,k27_3 M w0 r m3,.b 4,aC gw]) 5 (ap 0 ?_))
   obtain ⟨h47,h⟩:=ak h
   refine ao (bh (eInt .i64) (eInt .i64) h47 (fun _=>rfl) (fun _=>rfl)) (aj (ap 2 ?_))
   obtain ⟨h48,h⟩:=ak h
   refine ao (bf 21 1 (eInt .i64) h48) (ao (aG 3 0 (eInt .i64) (eInt .i64) (ay h48).2 (fun _=>rfl)) (aH 5 1 ?_))
   obtain ⟨h49,h⟩:=ak h
   exact ao (bf 21 1 (eInt .i64) h49) (ao (bi 21 3 1 0 (eInt .i64) (eInt .i64) (w64 ((gD v29 ((gD v26 v28)))+1)) (ay h49).2 (fun _=>rfl)) (aj (af 2 (aI (hL3 h)))))
  ·
   refine ah 85 h46 (aJ 8 ?_)
   cases h
   exact cG
theorem mw (hK:KnOk K) (m:Nat):H27_3 M w0 r m (eG K n m):=by
  induction m with
 | zero=>intro v26 v27 v28 v29 h; cases h
 | succ m ih=>intro v26 v27 v28 v29 h; have h:iC K n (eG K n m) v26 v27 v28 v29=some r:=h; exact aL (mX hK ih h)
theorem nC (hK:KnOk K) (hL2:H27_2 M w0 r v2 v3 v8 m2 L2) (h:iT K n v2 v3 v8 L2 v14 v15 v16 v17 v18=some r):VE (di M w0) (q27 M w0 r) [aC p27_3,fG M w0 r m2,.b 2,aC dg] .normal (s27_l2 v2 v3 v8 v14 v15 v16 v17 v18):=by
  unfold iT at h
  refine ae (ks':=[aC p27_11,aC p27_12,fG M w0 r m2,.b 2,aC dg]) 3 ?_
  rcases aq h with ⟨h26,h⟩ | ⟨h26,h⟩
  ·
   refine ah 46 h26 (ae (ks':=[aC p27_13,aC p27_14,.b 3,aC p27_15,fG M w0 r m2,.b 2,aC dg]) 5 (ap 1 ?_))
   obtain ⟨h27,h⟩:=ak h
   refine ao (bh (eInt .i64) (eInt .i64) h27 (fun _=>rfl) (fun _=>rfl)) (aj (ae (ks':=[aC p27_16,aC p27_17,.b 3,aC p27_15,fG M w0 r m2,.b 2,aC dg]) 1 (ap 2 ?_)))
   obtain ⟨v19,h28,h⟩:=bind_some h
   refine bI (kI hK h28) (aj (ae (ks':=[aC p27_18,aC p27_19,.b 3,aC p27_15,fG M w0 r m2,.b 2,aC dg]) 1 (bu [0,5,6,7,8,11,12,14,43,44,45] [6] [21,24,27] ?_)))
   obtain ⟨h29,h⟩:=ak h
   obtain ⟨h30,h⟩:=ak h
   obtain ⟨h31,h⟩:=ak h
   obtain ⟨h32,h⟩:=ak h
   obtain ⟨h33,h⟩:=ak h
   refine bt 3 (nu 54 [.ref 21,iI v15,.ref 24,iI v15,.ref 27,iI v15,iI (w64 (v3*v19)),iI v8,iI (w64 (Int.tdiv (w64 (v3*v19)) v8)),iI (w64 (v3*v19)),iI v8,iI (Int.tmod (w64 (v3*v19)) v8),iI v15,.eptr 21 1 (v15.toNat) 0,.eptr 24 1 (v15.toNat) 0,.eptr 27 1 (v15.toNat) 0]) [] [] [strS 21 ⟨3,1,lm (eInt .i64) (List.set v16 v15.toNat (w64 (Int.tdiv (w64 (v3*v19)) v8)))⟩,strS 24 ⟨3,1,lm (eInt .i64) (List.set v17 v15.toNat (Int.tmod (w64 (v3*v19)) v8))⟩,strS 27 ⟨3,1,lm (eInt .i64) (List.set v18 v15.toNat v15)⟩] (ax [.v 0 1,.v 0 1,.v 0 2,.v 0 2,.v 0 3,.v 0 3,.v 0 1,.v 0 1] (d_v (y_quo .i64 (w64 (v3*v19)) h29) (ax [.v 0 2,.v 0 2] (av (k_v (lo:=0) (k:=2) (bn ⟨(by kernel_rfl),(bp (y_rem .i64 (w64 (v3*v19)) h30) (by kernel_rfl))⟩ (bn ⟨(by kernel_rfl),(bp (y_rem .i64 (w64 (v3*v19)) h30) (by kernel_rfl))⟩ bU))) (ax [.v 0 3] (d_v (aD 21 1 (eInt .i64) (L:=v16) h31) (av (e_s (m:=0) (bi 21 3 1 0 (eInt .i64) (eInt .i64) (w64 (Int.tdiv (w64 (v3*v19)) v8)) (ay h31).2 (fun _=>rfl))) (av (e_v (lo:=1) (aD 24 1 (eInt .i64) (L:=v17) h32)) (av (e_s (m:=1) (bi 24 3 1 0 (eInt .i64) (eInt .i64) (Int.tmod (w64 (v3*v19)) v8) (ay h32).2 (fun _=>rfl))) (av (e_v (lo:=2) (aD 27 1 (eInt .i64) (L:=v18) h33)) (av (e_s (m:=2) (bi 27 3 1 0 (eInt .i64) (eInt .i64) v15 (ay h33).2 (fun _=>rfl))) bq))))))))))) ?_
   obtain ⟨v20,h34,h⟩:=bind_some h
   have h34:=Option.some.inj h34
   obtain ⟨v21,h35,h⟩:=bind_some h
   have h35:=Option.some.inj h35
   refine bd (ks':=[aC p27_19,.b 3,aC p27_15,fG M w0 r m2,.b 2,aC dg]) 0 ⟨[(0,iI v3),(5,.ref 21),(6,.ptr 6 0),(7,.ref 27),(8,iI v8),(11,iI v14),(12,iI v15),(43,.sl (lm (eInt .i64) v2)),(44,iI (v2.length:Int)),(45,iI v15)],[(6,[.ref 24])],[(21,⟨3,1,lm (eInt .i64) v20⟩),(24,⟨3,1,lm (eInt .i64) v21⟩),(27,⟨3,1,lm (eInt .i64) (List.set v18 v15.toNat v15)⟩)],[6,21,24,27]⟩ ?_ (by subst h35; subst h34; kernel_rfl)
   refine ap 3 ?_
   obtain ⟨h36,h⟩:=ak h
   exact ao (bf 21 1 (eInt .i64) h36) (ao (aG 3 0 (eInt .i64) (eInt .i64) (ay h36).2 (fun _=>rfl)) (aj (af 2 (aI (hL2 h)))))
  ·
   refine ah 46 h26 (ae (ks':=[aC p27_20,aC p27_21]) 6 (ap 1 (ot_f 24 (ot_fo 6 6 ([.sl (lm (eInt .i64) v17)]) (ot_mf 59 #[(.tmp 6)] [.cptr ([.sl (lm (eInt .i64) v17)])] ?_)))))
   obtain ⟨v22,h37,h⟩:=bind_some h
   refine cu 27 0 (lW hK h37) (aj (ae (ks':=[aC p27_22,aC p27_23,aC gw]) 2 (ap 2 (ot_f 27 ?_))))
   obtain ⟨h38,h⟩:=ak h
   exact ao (lJ (eInt .i64) v22 (0:Int) v14 33 (.tmp 80) none (some (.tmp 81)) 82 (e:=3) (sz:=1) (by kernel_rfl) (by kernel_rfl) (by kernel_rfl) (by kernel_rfl) (by kernel_rfl) (by kernel_rfl) (fun _=>rfl) (fun k hk=>by subst hk; kernel_rfl) h38) (ao (aK (eInt .i64) (List.drop ((0:Int)).toNat (List.take v14.toNat v22))) (aj (af 1 (aM (p:=p27_24) n (mw hK n h)))))
theorem mK (hK:KnOk K) (m:Nat):H27_2 M w0 r v2 v3 v8 m (eP K n v2 v3 v8 m):=by
  induction m with
 | zero=>intro v14 v15 v16 v17 v18 h; cases h
 | succ m ih=>intro v14 v15 v16 v17 v18 h; have h:iT K n v2 v3 v8 (eP K n v2 v3 v8 m) v14 v15 v16 v17 v18=some r:=h; exact aL (nC hK ih h)
theorem nO (hK:KnOk K) (hL1:H27_1 M w0 r v2 v3 v4 v5 v6 m1 L1) (h:jh K n v2 v3 v4 v5 v6 L1 v8 v9=some r):VE (di M w0) (q27 M w0 r) [aC p27_5,k27_1 M w0 r m1,.b 0,aC fy] .normal (s27_l1 v2 v3 v4 v5 v6 v8 v9):=by
  unfold jh at h
  refine ae (ks':=[aC p27_25,aC p27_26,k27_1 M w0 r m1,.b 0,aC fy]) 3 ?_
  rcases aq h with ⟨h11,h⟩ | ⟨h11,h⟩
  ·
   refine ah 31 h11 (ae (ks':=[aC p27_27,aC p27_28,.b 1,aC p27_29,k27_1 M w0 r m1,.b 0,aC fy]) 5 (ap 0 ?_))
   obtain ⟨h12,h⟩:=ak h
   refine ao (bh (eInt .i64) (eInt .i64) h12 (fun _=>rfl) (fun _=>rfl)) (aj (ap 2 ?_))
   obtain ⟨v10,h13,h⟩:=bind_some h
   exact bI (kI hK h13) (aj (af 2 (aI (hL1 h))))
  ·
   refine ah 31 h11 (ae (ks':=[aC p27_30,aC p27_31]) 8 ?_)
   rcases aq h with ⟨h14,h⟩ | ⟨h14,h⟩
   ·
    refine ah 40 h14 (aJ 5 ?_)
    cases h
    exact cG
   ·
    exact ah 40 h14 (ae (ks':=[aC p27_32,aC p27_33,aC dg]) 6 (ap 1 (ao (aK (eInt .i64) v2) (aj (af 1 (aM (p:=p27_34) n (mK hK n h)))))))
theorem oE (hK:KnOk K) (m:Nat):H27_1 M w0 r v2 v3 v4 v5 v6 m (gr K n v2 v3 v4 v5 v6 m):=by
  induction m with
 | zero=>intro v8 v9 h; cases h
 | succ m ih=>intro v8 v9 h; have h:jh K n v2 v3 v4 v5 v6 (gr K n v2 v3 v4 v5 v6 m) v8 v9=some r:=h; exact aL (nO hK ih h)
theorem lI (hK:KnOk K) (h:fE K n v1 v2=some r):ACalls Try.prog 27 [iI v1,.sl (lm (eInt .i64) v2)] (fun v s=>v = .ref 21∧look 21 s.r=some ⟨3,1,lm (eInt .i64) r⟩):=by
  refine br (cat Try.f27 []) Try.func27 Try.ntmps27 fun M w0=>(aY ⟨[(0,iI v1),(1,.sl (lm (eInt .i64) v2))],[],[],[]⟩ ?_)
  unfold fE at h
  refine ae (ks':=[aC [1,0],aC [1,1]]) 3 (ap 1 ?_)
  obtain ⟨v3,h1,h⟩:=bind_some h
  refine bI (kI hK h1) (aj (ae (ks':=[aC [1,1,0],aC [1,1,1]]) 1 (ap 1 (ao (aK (eInt .i64) v2) ?_))))
  obtain ⟨h2,h⟩:=ak h
  refine cm (eInt .i64) (0:Int) 33 (.tmp 20) (.tmp 20) 21 (e:=3) (sz:=1) (zc:=[iI 0]) (kd:=.i64) (kd':=.i64) h2 (aj ?_)
  obtain ⟨v4,h3,h⟩:=bind_some h
  have h3:=Option.some.inj h3
  refine bd (ks':=[aC p27_35,aC p27_36]) 1 ⟨[(0,iI v3),(1,.sl (lm (eInt .i64) v2)),(5,.ref 21)],[],[(21,⟨3,1,lm (eInt .i64) v4⟩)],[21]⟩ ?_ (by subst h3; kernel_rfl)
  refine ap 1 (ao (aK (eInt .i64) v2) ?_)
  obtain ⟨h4,h⟩:=ak h
  refine cm (eInt .i64) (0:Int) 33 (.tmp 23) (.tmp 23) 24 (e:=3) (sz:=1) (zc:=[iI 0]) (kd:=.i64) (kd':=.i64) h4 (aj ?_)
  obtain ⟨v5,h5,h⟩:=bind_some h
  have h5:=Option.some.inj h5
  refine bd (ks':=[aC p27_37,aC p27_38]) 1 ⟨[(0,iI v3),(1,.sl (lm (eInt .i64) v2)),(5,.ref 21),(6,.ptr 6 0)],[(6,[.ref 24])],[(21,⟨3,1,lm (eInt .i64) v4⟩),(24,⟨3,1,lm (eInt .i64) v5⟩)],[6,21,24]⟩ ?_ (by subst h5; kernel_rfl)
  refine ap 1 (ao (aK (eInt .i64) v2) ?_)
  obtain ⟨h6,h⟩:=ak h
  refine cm (eInt .i64) (0:Int) 33 (.tmp 26) (.tmp 26) 27 (e:=3) (sz:=1) (zc:=[iI 0]) (kd:=.i64) (kd':=.i64) h6 (aj ?_)
  obtain ⟨v6,h7,h⟩:=bind_some h
  have h7:=Option.some.inj h7
  refine bd (ks':=[aC p27_39,aC p27_40,aC fy]) 4 ⟨[(0,iI v3),(1,.sl (lm (eInt .i64) v2)),(5,.ref 21),(6,.ptr 6 0),(7,.ref 27),(8,iI 0)],[(6,[.ref 24])],[(21,⟨3,1,lm (eInt .i64) v4⟩),(24,⟨3,1,lm (eInt .i64) v5⟩),(27,⟨3,1,lm (eInt .i64) v6⟩)],[6,21,24,27]⟩ ?_ (by subst h7; kernel_rfl)
  exact ap 1 (ao (aK (eInt .i64) v2) (aj (af 1 (aM (p:=p27_41) n (oE hK n h)))))
end
def p75_0:=pth 0 110100
def p75_1:=pth 0 11010010
def p75_2:=pth 0 11010011
def p75_3:=pth 0 110100110010
def p75_4:=pth 0 110100110011
def p75_5:=pth 0 110100111
def p75_6:=pth 0 11010
noncomputable section
abbrev cx75 (M:Nat→Prop) (w0:Base):Cx:=⟨Try.prog,19,M,w0⟩
abbrev q75 (M:Nat→Prop) (w0:Base) (r:Int):=bodyPost Try.prog Try.f75 (RetQ M w0 (fun v _=>v=iI r))
abbrev cc (p:List Nat):Kont:=.c (cat Try.f75 p)
abbrev k75_1 (M:Nat→Prop) (w0:Base) (r:Int) (m1:Nat):Kont:=kl (cx75 M w0) (q75 M w0 r) [.b 0,cc [1,1]] (cat Try.f75 p75_0) m1
def s75_l1 (v1:List Int) (v2:Fv) (v4:Int):AS:=⟨[(0,.sl (lm (eInt .i64) v1)),(1,.fn v2.id v2.caps),(7,iI (v1.length:Int)),(8,iI v4)],[],[],[]⟩
abbrev H75_1 (M:Nat→Prop) (w0:Base) (r:Int) (v1:List Int) (v2:Fv) (m1:Nat) (L1:Int→Option Int):Prop:=∀ {v4:Int},L1 v4=some r→LP (cx75 M w0) (q75 M w0 r) [.b 0,cc [1,1]] (cat Try.f75 p75_0) m1 (s75_l1 v1 v2 v4)
variable {K:Kn} {n:Nat} {M:Nat→Prop} {w0:Base} {r:Int} {v1:List Int} {v2:Fv} {v4:Int} {m1:Nat} {L1:Int→Option Int}
theorem mG (hK:KnOk K) (hL1:H75_1 M w0 r v1 v2 m1 L1) (h:gP K n v1 v2 L1 v4=some r):VE (cx75 M w0) (q75 M w0 r) [cc p75_0,k75_1 M w0 r m1,.b 0,cc [1,1]] .normal (s75_l1 v1 v2 v4):=by
  unfold gP at h
  refine ae (ks':=[cc p75_1,cc p75_2,k75_1 M w0 r m1,.b 0,cc [1,1]]) 3 ?_
  rcases aq h with ⟨h5,h⟩ | ⟨h5,h⟩
  ·
   refine ah 9 h5 (ae (ks':=[cc p75_3,cc p75_4,.b 1,cc p75_5,k75_1 M w0 r m1,.b 0,cc [1,1]]) 7 (ap 3 ?_))
   obtain ⟨h6,h⟩:=ak h
   refine ao (bh (eInt .i64) (eInt .i64) h6 (fun _=>rfl) (fun _=>rfl)) (aH 5 1 ?_)
   obtain ⟨v5,h7,h⟩:=bind_some h
   refine ot_cd (hK.gH h7) (aj ?_)
   rcases aq h with ⟨h8,h⟩ | ⟨h8,h⟩
   ·
    refine ah 16 h8 (aJ 9 ?_)
    cases h
    exact bo
   ·
    exact ah 16 h8 (af 4 (aI (hL1 h)))
  ·
   refine ah 9 h5 (aJ 8 ?_)
   cases h
   exact bo
theorem oB (hK:KnOk K) (m:Nat):H75_1 M w0 r v1 v2 m (fH K n v1 v2 m):=by
  induction m with
 | zero=>intro v4 h; cases h
 | succ m ih=>intro v4 h; have h:gP K n v1 v2 (fH K n v1 v2 m) v4=some r:=h; exact aL (mG hK ih h)
theorem nN (hK:KnOk K) (h:kg K n v1 v2=some r):ACalls Try.prog 75 [.sl (lm (eInt .i64) v1),.fn v2.id v2.caps] (fun v _=>v=iI r):=by
  refine br (cat Try.f75 []) Try.func75 Try.ntmps75 fun M w0=>(aY ⟨[(0,.sl (lm (eInt .i64) v1)),(1,.fn v2.id v2.caps)],[],[],[]⟩ ?_)
  unfold kg at h
  exact ae (ks':=[cc [1,0,0],cc [1,0,1],cc [1,1]]) 4 (ap 1 (ao (aK (eInt .i64) v1) (aj (af 1 (aM (p:=p75_6) n (oB hK n h))))))
end
noncomputable section
variable {K:Kn} {n:Nat} {M:Nat→Prop} {w0:Base} {r:Bool} {v1:List Int} {v2:Fv} 
abbrev cF61 (p:List Nat):Kont:=.c (cat Try.f61 p)
theorem mB (hK:KnOk K) (h:gO K n v1 v2=some r):ACalls Try.prog 61 [.sl (lm (eInt .i64) v1),.fn v2.id v2.caps] (fun v _=>v = .bool r):=by
  refine br (cat Try.f61 []) Try.func61 Try.ntmps61 fun M w0=>(aY ⟨[(0,.sl (lm (eInt .i64) v1)),(1,.fn v2.id v2.caps)],[],[],[]⟩ ?_)
  unfold gO at h
  refine ae (ks':=[cF61 [1,0],cF61 [1,1]]) 3 (ap 2 ?_)
  obtain ⟨v3,h1,h⟩:=bind_some h
  refine bI (nN hK h1) (aj (aJ 1 ?_))
  cases h
  exact bo
end
noncomputable section
variable {K:Kn} {n:Nat} {M:Nat→Prop} {w0:Base} {r:Int×Int} {v1 v2:Int} 
theorem g_bits_Mul64_ok (hK:KnOk K) (h:jY K n v1 v2=some r):ACalls Try.prog 83 [.int .u64 v1,.int .u64 v2] (fun v _=>v = .tup [.int .u64 r.1,.int .u64 r.2]):=by
  refine br (cat Try.f83 []) Try.func83 Try.ntmps83 fun M w0=>(aY ⟨[(0,.int .u64 v1),(1,.int .u64 v2)],[],[],[]⟩ ?_)
  unfold jY at h
  refine aJ 25 ?_
  cases h
  exact ve_dt
end
noncomputable section
variable {K:Kn} {n:Nat} {M:Nat→Prop} {w0:Base} {r:Int×Int} {v1 v2:Int} 
abbrev cF76 (p:List Nat):Kont:=.c (cat Try.f76 p)
theorem g_bits_Mul_ok (hK:KnOk K) (h:gA K n v1 v2=some r):ACalls Try.prog 76 [.int .u64 v1,.int .u64 v2] (fun v _=>v = .tup [.int .u64 r.1,.int .u64 r.2]):=by
  refine br (cat Try.f76 []) Try.func76 Try.ntmps76 fun M w0=>(aY ⟨[(0,.int .u64 v1),(1,.int .u64 v2)],[],[],[]⟩ ?_)
  unfold gA at h
  refine ae (ks':=[cF76 [1,1,0],cF76 [1,1,1]]) 6 (ap 2 ?_)
  obtain ⟨v3,h1,h⟩:=bind_some h
  refine bI (g_bits_Mul64_ok hK h1) (aj (aJ 3 ?_))
  cases h
  exact ve_dt
end
def p63_0:=pth 7 1
def p63_1:=pth 6 1000
def p63_2:=pth 6 100000
def p63_3:=pth 6 100001
def p63_4:=pth 6 10001
def p63_5:=pth 6 100010
def p63_6:=pth 0 111101
def p63_7:=pth 0 11111
def p63_8:=pth 0 111110
def p63_9:=pth 5 1
def p63_10:=pth 5 10
def p63_11:=pth 6 1
def p63_12:=pth 6 100
def p63_13:=pth 0 111100
noncomputable section
abbrev cx63 (M:Nat→Prop) (w0:Base):Cx:=⟨Try.prog,48,M,w0⟩
abbrev q63 (M:Nat→Prop) (w0:Base) (r:List Int):=bodyPost Try.prog Try.f63 (RetQ M w0 (fun v s=>v = .ref 30∧look 30 s.r=some ⟨3,1,lm (eInt .i64) r⟩))
abbrev bC (p:List Nat):Kont:=.c (cat Try.f63 p)
abbrev k63_1 (M:Nat→Prop) (w0:Base) (r:List Int) (m1:Nat):Kont:=kl (cx63 M w0) (q63 M w0 r) [.b 0,bC p63_0] (cat Try.f63 p63_1) m1
def s63_l2 (v7:Int) (v8:List Int):AS:=⟨[(7,.ref 30),(8,iI v7)],[],[(30,⟨3,1,lm (eInt .i64) v8⟩)],[30]⟩
def s63_j1 (v1:List Int) (v3:Int×Int) (v4:Bool):AS:=⟨[(0,.sl (lm (eInt .i64) v1)),(6,.int .u64 v3.2),(26,.bool v4)],[],[],[]⟩
abbrev H63_1 (M:Nat→Prop) (w0:Base) (r:List Int) (m1:Nat) (L1:Int→(List Int)→Option (List Int)):Prop:=∀ {v7:Int} {v8:(List Int)},L1 v7 v8=some r→LP (cx63 M w0) (q63 M w0 r) [.b 0,bC p63_0] (cat Try.f63 p63_1) m1 (s63_l2 v7 v8)
variable {K:Kn} {n:Nat} {M:Nat→Prop} {w0:Base} {r v1:List Int} {v2:Int} {v3:Int×Int} {v4:Bool} {v7:Int} {v8:List Int} {m1:Nat} {L1:Int→(List Int)→Option (List Int)}
theorem nU (hK:KnOk K) (hL1:H63_1 M w0 r m1 L1) (h:jk K n L1 v7 v8=some r):VE (cx63 M w0) (q63 M w0 r) [bC p63_1,k63_1 M w0 r m1,.b 0,bC p63_0] .normal (s63_l2 v7 v8):=by
  unfold jk at h
  refine ae (ks':=[bC p63_2,bC p63_3,bC p63_4,k63_1 M w0 r m1,.b 0,bC p63_0]) 2 (ap 2 (ao (aK (eInt .i64) v8) (aj ?_)))
  rcases aq h with ⟨h13,h⟩ | ⟨h13,h⟩
  ·
   refine ah 37 h13 (ae (ks':=[bC p63_5,.b 1,k63_1 M w0 r m1,.b 0,bC p63_0]) 3 (bu [7,8] [] [30] ?_))
   obtain ⟨h14,h⟩:=ak h
   obtain ⟨h15,h⟩:=ak h
   obtain ⟨h16,h⟩:=ak h
   exact bt 2 (nu 38 [iI v7,.ref 30,iI v7,.sref 30 1 (v7.toNat) (((v8.length:Int)).toNat - v7.toNat),.ref 30,iI v7,.sref 30 1 ((0:Int).toNat) (v7.toNat - (0:Int).toNat)]++nu 46 [iI (w64 (v7+((min (v7.toNat - (0:Int).toNat) (((v8.length:Int)).toNat - v7.toNat):Nat):Int)))]) [] [] [cpF 30 (some 45) ⟨3,1,lm (eInt .i64) (cpy v8 (v7.toNat) (((v8.length:Int)).toNat - v7.toNat) v8 ((0:Int).toNat) (v7.toNat - (0:Int).toNat))⟩ (iI ((min (v7.toNat - (0:Int).toNat) (((v8.length:Int)).toNat - v7.toNat):Nat):Int)),stp Try.prog 48 Try.f63 p63_5 9] (ax [.v 0 2,.v 0 2,.v 0 2] (d_v (lf (eInt .i64) v8 v7 (v8.length:Int) 33 (.tmp 39) (some (.tmp 40)) none 41 (id:=30) (e:=3) (sz:=1) (et:=3) (by kernel_rfl) (by kernel_rfl) (by kernel_rfl) (by kernel_rfl) (by kernel_rfl) (by kernel_rfl) (by kernel_rfl) (fun k hk=>by subst hk; kernel_rfl) h14) (ax [.v 0 2,.v 0 2] (d_v (lf (eInt .i64) v8 (0:Int) v7 33 (.tmp 42) none (some (.tmp 43)) 44 (id:=30) (e:=3) (sz:=1) (et:=3) (by kernel_rfl) (by kernel_rfl) (by kernel_rfl) (by kernel_rfl) (by kernel_rfl) (by kernel_rfl) (by kernel_rfl) (fun k hk=>by subst hk; kernel_rfl) h15) (av (e_s (m:=0) (y_cp (eInt .i64) 30 3 (L:=v8) (S:=v8) (od:=(some (v7.toNat,(((v8.length:Int)).toNat - v7.toNat)))) (os:=(some ((0:Int).toNat,(v7.toNat - (0:Int).toNat)))) (v7.toNat) (((v8.length:Int)).toNat - v7.toNat) ((0:Int).toNat) (v7.toNat - (0:Int).toNat) (fun _=>rfl) h16)) (ax [.v 1 1] (av (e_d 1) bq))))))) (af 1 (aI (hL1 h)))
  ·
   refine ah 37 h13 (aJ 8 ?_)
   cases h
   exact cG
theorem ot (hK:KnOk K) (m:Nat):H63_1 M w0 r m (gy K n m):=by
  induction m with
 | zero=>intro v7 v8 h; cases h
 | succ m ih=>intro v7 v8 h; have h:jk K n (gy K n m) v7 v8=some r:=h; exact aL (nU hK ih h)
theorem l8 (hK:KnOk K) (h:gL K n v1 v3 v4=some r):VE (cx63 M w0) (q63 M w0 r) [bC p63_6,bC p63_7] .normal (s63_j1 v1 v3 v4):=by
  unfold gL at h
  rcases aq h with ⟨h4,h⟩ | ⟨h4,h⟩
  ·
   refine ah 26 h4 ?_
   cases h
  ·
   refine ah 26 h4 (ae (ks':=[bC p63_8,bC p63_9]) 3 (ap 2 ?_))
   obtain ⟨h5,h⟩:=ak h
   refine cm (eInt .i64) (0:Int) 33 (.tmp 29) (.tmp 29) 30 (e:=3) (sz:=1) (zc:=[iI 0]) (kd:=.i64) (kd':=.i64) h5 (aj ?_)
   obtain ⟨v5,h6,h⟩:=bind_some h
   have h6:=Option.some.inj h6
   refine bd (ks':=[bC p63_10,bC p63_11]) 1 ⟨[(0,.sl (lm (eInt .i64) v1)),(7,.ref 30)],[],[(30,⟨3,1,lm (eInt .i64) v5⟩)],[30]⟩ ?_ (by subst h6; kernel_rfl)
   refine ap 2 ?_
   obtain ⟨h7,h⟩:=ak h
   exact ao (y_cp (eInt .i64) 30 3 (L:=v5) (S:=v1) (od:=none) (os:=none) 0 v5.length 0 v1.length (fun _=>rfl) h7) (aj (af 2 (aM (p:=p63_12) n (ot hK n h))))
theorem nj (hK:KnOk K) (h:gI K n v1 v2=some r):ACalls Try.prog 63 [.sl (lm (eInt .i64) v1),iI v2] (fun v s=>v = .ref 30∧look 30 s.r=some ⟨3,1,lm (eInt .i64) r⟩):=by
  refine br (cat Try.f63 []) Try.func63 Try.ntmps63 fun M w0=>(aY ⟨[(0,.sl (lm (eInt .i64) v1)),(1,iI v2)],[],[],[]⟩ ?_)
  unfold gI at h
  refine ae (ks':=[bC [1,0,1],bC [1,1]]) 5 ?_
  rcases aq h with ⟨h1,h⟩ | ⟨h1,h⟩
  ·
   refine ah 10 h1 ?_
   cases h
  ·
   refine ah 10 h1 (ae (ks':=[bC [1,1,0],bC [1,1,1]]) 3 (ap 1 (ao (aK (eInt .i64) v1) (aH 5 3 ?_))))
   obtain ⟨v3,h2,h⟩:=bind_some h
   refine bI (g_bits_Mul_ok hK h2) (aj (ae (ks':=[bC p63_13,bC p63_6,bC p63_7]) 2 (ap 3 ?_)))
   rcases aq h with ⟨h3,h⟩ | ⟨h3,h⟩
   ·
    exact aE 23 h3 (aj (af 0 (l8 hK h)))
   ·
    exact aE 23 h3 (aj (af 0 (l8 hK h)))
end
def p28_0:=pth 0 11010
noncomputable section
abbrev cx28 (M:Nat→Prop) (w0:Base):Cx:=⟨Try.prog,15,M,w0⟩
abbrev q28 (M:Nat→Prop) (w0:Base) (r:List Int):=bodyPost Try.prog Try.f28 (RetQ M w0 (fun v s=>v = .ref 1014∧look 1014 s.r=some ⟨3,1,lm (eInt .i64) r⟩))
def s28_j1 (v1:Int) (v5:List Int):AS:=⟨[(0,iI v1),(1,.sl (lm (eInt .i64) v5))],[],[],[]⟩
variable {K:Kn} {n:Nat} {M:Nat→Prop} {w0:Base} {r:List Int} {v1:Int} {v2 v5:List Int} 
abbrev du (p:List Nat):Kont:=.c (cat Try.f28 p)
theorem mc (hK:KnOk K) (h:ib K n v1 v5=some r):VE (cx28 M w0) (q28 M w0 r) [du [1,1]] .normal (s28_j1 v1 v5):=by
  unfold ib at h
  refine ae (ks':=[du [1,1,0],du [1,1,1]]) 1 (ap 2 ?_)
  obtain ⟨v6,h4,h⟩:=bind_some h
  refine d5 1014 (lI hK h4) (d4 21) (aj (aJ 1 ?_))
  cases h
  exact cG
theorem kL (hK:KnOk K) (h:dQ K n v1 v2=some r):ACalls Try.prog 28 [iI v1,.sl (lm (eInt .i64) v2)] (fun v s=>v = .ref 1014∧look 1014 s.r=some ⟨3,1,lm (eInt .i64) r⟩):=by
  refine br (cat Try.f28 []) Try.func28 Try.ntmps28 fun M w0=>(aY ⟨[(0,iI v1),(1,.sl (lm (eInt .i64) v2))],[],[],[]⟩ ?_)
  unfold dQ at h
  refine ae (ks':=[du [1,0,0],du [1,0,1],du [1,1]]) 4 (ap 1 ?_)
  obtain ⟨v3,h1,h⟩:=bind_some h
  refine bI (mB hK h1) (aj ?_)
  rcases aq h with ⟨h2,h⟩ | ⟨h2,h⟩
  ·
   refine ah 7 h2 (ae (ks':=[du p28_0,du [1,1]]) 1 (ap 2 (ao (aK (eInt .i64) v2) ?_)))
   obtain ⟨v4,h3,h⟩:=bind_some h
   exact d5 1011 (nj hK h3) (d4 30) (aj (ve_f 1011 (af 0 (mc hK h))))
  ·
   exact ah 7 h2 (af 2 (mc hK h))
end
def fO:=pth 9 1
def p12_1:=pth 8 10100
def cN:=pth 6 1
def p12_3:=pth 5 10100
def p12_4:=pth 8 1010010
def p12_5:=pth 8 1010011
def p12_6:=pth 8 1010011000
def p12_7:=pth 8 1010011001
def p12_8:=pth 8 10100111
def p12_9:=pth 8 1
def p12_10:=pth 8 100
def p12_11:=pth 8 101
def p12_12:=pth 8 1010
def p12_13:=pth 5 1010010
def p12_14:=pth 5 1010011
def p12_15:=pth 5 1010011000
def p12_16:=pth 5 1010011001
def fx:=pth 5 10100111
def p12_18:=pth 5 10100110010
def p12_19:=pth 5 10100110011
def p12_20:=pth 5 101001100110
def p12_21:=pth 5 101001100111
def p12_22:=pth 5 1010011001110
def p12_23:=pth 5 1010011001111
def p12_24:=pth 5 10100110011110
def p12_25:=pth 5 10100110011111
def p12_26:=pth 7 1001
def p12_27:=pth 7 100111
def p12_28:=pth 7 1001110
def p12_29:=pth 7 10011111
def p12_30:=pth 0 11110
def p12_31:=pth 0 11111
def p12_32:=pth 5 100
def p12_33:=pth 5 101
def p12_34:=pth 5 1010
noncomputable section
abbrev fc (M:Nat→Prop) (w0:Base):Cx:=⟨Try.prog,111,M,w0⟩
abbrev q12 (M:Nat→Prop) (w0:Base) (r:List Int):=bodyPost Try.prog Try.f12 (RetQ M w0 (fun v s=>v = .ref 17∧look 17 s.r=some ⟨3,1,lm (eInt .i64) r⟩))
abbrev aF (p:List Nat):Kont:=.c (cat Try.f12 p)
abbrev k12_2 (M:Nat→Prop) (w0:Base) (r:List Int) (m2:Nat):Kont:=kl (fc M w0) (q12 M w0 r) [.b 3,aF fO] (cat Try.f12 p12_1) m2
abbrev dw (M:Nat→Prop) (w0:Base) (r:List Int) (m1:Nat):Kont:=kl (fc M w0) (q12 M w0 r) [.b 0,aF cN] (cat Try.f12 p12_3) m1
def s12_l3 (v27:List Int) (v28:Int) (v29:List Int):AS:=⟨[(5,.ref 17),(95,.ref 1094),(96,iI (v27.length:Int)),(97,iI v28)],[],[(17,⟨3,1,lm (eInt .i64) v29⟩),(1094,⟨3,1,lm (eInt .i64) v27⟩)],[17,1094]⟩
def s12_j2 (v26 v27:List Int):AS:=⟨[(5,.ref 17),(12,.ref 1094)],[],[(17,⟨3,1,lm (eInt .i64) v26⟩),(1094,⟨3,1,lm (eInt .i64) v27⟩)],[17,1094]⟩
def s12_l1 (v1:List aa) (v2 v11 v12 v13:Int) (v14 v15 v16:List Int):AS:=⟨[(1,iI v2),(5,.ref 17),(6,.ref 20),(7,.ref 23),(8,iI v11),(9,iI v12),(24,.sl (lm ag v1)),(25,iI (v1.length:Int)),(26,iI v13)],[],[(17,⟨3,1,lm (eInt .i64) v14⟩),(20,⟨3,1,lm (eInt .i64) v15⟩),(23,⟨3,1,lm (eInt .i64) v16⟩)],[17,20,23]⟩
abbrev H12_1 (M:Nat→Prop) (w0:Base) (r:List Int) (v1:List aa) (v2:Int) (m1:Nat) (L1:Int→Int→Int→(List Int)→(List Int)→(List Int)→Option (List Int)):Prop:=∀ {v11:Int} {v12:Int} {v13:Int} {v14:(List Int)} {v15:(List Int)} {v16:(List Int)},L1 v11 v12 v13 v14 v15 v16=some r→LP (fc M w0) (q12 M w0 r) [.b 0,aF cN] (cat Try.f12 p12_3) m1 (s12_l1 v1 v2 v11 v12 v13 v14 v15 v16)
abbrev H12_2 (M:Nat→Prop) (w0:Base) (r v27:List Int) (m2:Nat) (L2:Int→(List Int)→Option (List Int)):Prop:=∀ {v28:Int} {v29:(List Int)},L2 v28 v29=some r→LP (fc M w0) (q12 M w0 r) [.b 3,aF fO] (cat Try.f12 p12_1) m2 (s12_l3 v27 v28 v29)
variable {K:Kn} {n:Nat} {M:Nat→Prop} {w0:Base} {r:List Int} {v1:List aa} {v2 v11 v12 v13:Int} {v14 v15 v16 v26 v27:List Int} {v28:Int} {v29:List Int} {m1:Nat} {L1:Int→Int→Int→(List Int)→(List Int)→(List Int)→Option (List Int)} {m2:Nat} {L2:Int→(List Int)→Option (List Int)}
theorem oI (hK:KnOk K) (hL2:H12_2 M w0 r v27 m2 L2) (h:j9 K n v27 L2 v28 v29=some r):VE (fc M w0) (q12 M w0 r) [aF p12_1,k12_2 M w0 r m2,.b 3,aF fO] .normal (s12_l3 v27 v28 v29):=by
  unfold j9 at h
  refine ae (ks':=[aF p12_4,aF p12_5,k12_2 M w0 r m2,.b 3,aF fO]) 3 ?_
  rcases aq h with ⟨h47,h⟩ | ⟨h47,h⟩
  ·
   refine ah 98 h47 (ae (ks':=[aF p12_6,aF p12_7,.b 4,aF p12_8,k12_2 M w0 r m2,.b 3,aF fO]) 5 (ap 1 ?_))
   obtain ⟨h48,h⟩:=ak h
   refine ao (bf 1094 1 (eInt .i64) h48) (ao (aG 3 0 (eInt .i64) (eInt .i64) (ay h48).2 (fun _=>rfl)) (aj (ap 2 ?_)))
   obtain ⟨h49,h⟩:=ak h
   refine ao (bf 17 1 (eInt .i64) h49) (ao (aG 3 0 (eInt .i64) (eInt .i64) (ay h49).2 (fun _=>rfl)) (aH 6 2 ?_))
   obtain ⟨h50,h⟩:=ak h
   exact ao (bf 17 1 (eInt .i64) h50) (ao (bi 17 3 1 0 (eInt .i64) (eInt .i64) (w64 ((gD v29 v28)+(gD v27 v28))) (ay h50).2 (fun _=>rfl)) (aj (af 2 (aI (hL2 h)))))
  ·
   refine ah 98 h47 (aJ 8 ?_)
   cases h
   exact cG
theorem n6 (hK:KnOk K) (m:Nat):H12_2 M w0 r v27 m (ka K n v27 m):=by
  induction m with
 | zero=>intro v28 v29 h; cases h
 | succ m ih=>intro v28 v29 h; have h:j9 K n v27 (ka K n v27 m) v28 v29=some r:=h; exact aL (oI hK ih h)
theorem l3 (hK:KnOk K) (h:jJ K n v26 v27=some r):VE (fc M w0) (q12 M w0 r) [.b 2,aF p12_9] .normal (s12_j2 v26 v27):=by
  unfold jJ at h
  exact ae (ks':=[aF p12_10,aF p12_11,aF fO]) 3 (ap 1 (ao (aK (eInt .i64) v27) (aj (af 1 (aM (p:=p12_12) n (n6 hK n h))))))
theorem oC (hK:KnOk K) (hL1:H12_1 M w0 r v1 v2 m1 L1) (h:j3 K n v1 v2 L1 v11 v12 v13 v14 v15 v16=some r):VE (fc M w0) (q12 M w0 r) [aF p12_3,dw M w0 r m1,.b 0,aF cN] .normal (s12_l1 v1 v2 v11 v12 v13 v14 v15 v16):=by
  unfold j3 at h
  refine ae (ks':=[aF p12_13,aF p12_14,dw M w0 r m1,.b 0,aF cN]) 3 ?_
  rcases aq h with ⟨h22,h⟩ | ⟨h22,h⟩
  ·
   refine ah 27 h22 (ae (ks':=[aF p12_15,aF p12_16,.b 1,aF fx,dw M w0 r m1,.b 0,aF cN]) 5 (ap 1 ?_))
   obtain ⟨h23,h⟩:=ak h
   refine ao (bh ag ag h23 (ce) (fun _=>rfl)) (aj (ae (ks':=[aF p12_18,aF p12_19,.b 1,aF fx,dw M w0 r m1,.b 0,aF cN]) 1 (ap 4 ?_)))
   obtain ⟨v17,h24,h⟩:=bind_some h
   refine bI (fQ hK h24) ?_
   obtain ⟨h25,h⟩:=ak h
   refine ao (bf 17 1 (eInt .i64) h25) (ao (bi 17 3 1 0 (eInt .i64) (eInt .i64) v17 (ay h25).2 (fun _=>rfl)) (aj (ae (ks':=[aF p12_20,aF p12_21,.b 1,aF fx,dw M w0 r m1,.b 0,aF cN]) 1 (bu [1,5,6,7,8,9,10,11,24,25,26] [11] [17,20,23] ?_))))
   obtain ⟨v18,h26,h⟩:=bind_some h
   obtain ⟨h27,h⟩:=ak h
   obtain ⟨h28,h⟩:=ak h
   refine bt 1 (nu 37 [.ref 20,iI v13,.ptr 11 1,iI ((gD v1 v13).Most),iI v18,.ref 17,iI v13,.eptr 17 1 (v13.toNat) 0,iI (gD (List.set v14 v13.toNat v17) v13),iI (max v18 (gD (List.set v14 v13.toNat v17) v13)),.eptr 20 1 (v13.toNat) 0]) [] [] [strS 20 ⟨3,1,lm (eInt .i64) (List.set v15 v13.toNat (max v18 (gD (List.set v14 v13.toNat v17) v13)))⟩] (ax (vz 4) (av (e_c 0 1 41 (fQ hK h26)) (ax (vz 2) (d_v (aD 17 1 (eInt .i64) (L:=(List.set v14 v13.toNat v17)) h27) (d_v (aG 3 0 (eInt .i64) (eInt .i64) (ay h27).2 (fun _=>rfl)) (ax [.v 0 1] (d_v (aD 20 1 (eInt .i64) (L:=v15) h28) (av (e_s (m:=0) (bi 20 3 1 0 (eInt .i64) (eInt .i64) (max v18 (gD (List.set v14 v13.toNat v17) v13)) (ay h28).2 (fun _=>rfl))) bq)))))))) ?_
   obtain ⟨v19,h29,h⟩:=bind_some h
   have h29:=Option.some.inj h29
   refine bd (ks':=[aF p12_22,aF p12_23,.b 1,aF fx,dw M w0 r m1,.b 0,aF cN]) 1 ⟨[(1,iI v2),(5,.ref 17),(6,.ref 20),(7,.ref 23),(8,iI v11),(9,iI v12),(10,iI v13),(24,.sl (lm ag v1)),(25,iI (v1.length:Int)),(26,iI v13)],[],[(17,⟨3,1,lm (eInt .i64) (List.set v14 v13.toNat v17)⟩),(20,⟨3,1,lm (eInt .i64) v19⟩),(23,⟨3,1,lm (eInt .i64) v16⟩)],[17,20,23]⟩ ?_ (by subst h29; kernel_rfl)
   obtain ⟨h30,h⟩:=ak h
   obtain ⟨h31,h⟩:=ak h
   obtain ⟨h32,h⟩:=ak h
   refine bt 1 (nu 48 [.ref 23,iI v13,.ref 20,iI v13,.eptr 20 1 (v13.toNat) 0,iI (gD v19 v13),.ref 17,iI v13,.eptr 17 1 (v13.toNat) 0,iI (gD (List.set v14 v13.toNat v17) v13),iI (w64 ((gD v19 v13) - (gD (List.set v14 v13.toNat v17) v13))),.eptr 23 1 (v13.toNat) 0]) [] [] [strS 23 ⟨3,1,lm (eInt .i64) (List.set v16 v13.toNat (w64 ((gD v19 v13) - (gD (List.set v14 v13.toNat v17) v13))))⟩] (ax (vz 4) (d_v (aD 20 1 (eInt .i64) (L:=v19) h30) (d_v (aG 3 0 (eInt .i64) (eInt .i64) (ay h30).2 (fun _=>rfl)) (ax (vz 2) (d_v (aD 17 1 (eInt .i64) (L:=(List.set v14 v13.toNat v17)) h31) (d_v (aG 3 0 (eInt .i64) (eInt .i64) (ay h31).2 (fun _=>rfl)) (ax [.v 0 1] (d_v (aD 23 1 (eInt .i64) (L:=v16) h32) (av (e_s (m:=0) (bi 23 3 1 0 (eInt .i64) (eInt .i64) (w64 ((gD v19 v13) - (gD (List.set v14 v13.toNat v17) v13))) (ay h32).2 (fun _=>rfl))) bq))))))))) ?_
   obtain ⟨v20,h33,h⟩:=bind_some h
   have h33:=Option.some.inj h33
   refine bd (ks':=[aF p12_24,aF p12_25,.b 1,aF fx,dw M w0 r m1,.b 0,aF cN]) 1 ⟨[(1,iI v2),(5,.ref 17),(6,.ref 20),(7,.ref 23),(8,iI v11),(9,iI v12),(10,iI v13),(24,.sl (lm ag v1)),(25,iI (v1.length:Int)),(26,iI v13)],[],[(17,⟨3,1,lm (eInt .i64) (List.set v14 v13.toNat v17)⟩),(20,⟨3,1,lm (eInt .i64) v19⟩),(23,⟨3,1,lm (eInt .i64) v20⟩)],[17,20,23]⟩ ?_ (by subst h33; kernel_rfl)
   refine ap 3 ?_
   obtain ⟨h34,h⟩:=ak h
   refine ao (bf 17 1 (eInt .i64) h34) (ao (aG 3 0 (eInt .i64) (eInt .i64) (ay h34).2 (fun _=>rfl)) (aj ?_))
   obtain ⟨v21,h35,h⟩:=bind_some h
   have h35:=Option.some.inj h35
   refine bd (ks':=[aF p12_25,.b 1,aF fx,dw M w0 r m1,.b 0,aF cN]) 0 ⟨[(1,iI v2),(5,.ref 17),(6,.ref 20),(7,.ref 23),(8,iI v21),(9,iI v12),(10,iI v13),(24,.sl (lm ag v1)),(25,iI (v1.length:Int)),(26,iI v13)],[],[(17,⟨3,1,lm (eInt .i64) (List.set v14 v13.toNat v17)⟩),(20,⟨3,1,lm (eInt .i64) v19⟩),(23,⟨3,1,lm (eInt .i64) v20⟩)],[17,20,23]⟩ ?_ (by subst h35; kernel_rfl)
   refine ap 3 ?_
   obtain ⟨h36,h⟩:=ak h
   exact ao (bf 20 1 (eInt .i64) h36) (ao (aG 3 0 (eInt .i64) (eInt .i64) (ay h36).2 (fun _=>rfl)) (aj (af 2 (aI (hL1 h)))))
  ·
   refine ah 27 h22 (ae (ks':=[aF p12_26,.b 2,aF p12_9]) 11 ?_)
   rcases aq h with ⟨h37,h⟩ | ⟨h37,h⟩
   ·
    refine ah 80 h37 (aJ 6 ?_)
    cases h
    exact cG
   ·
    refine ah 80 h37 (ae (ks':=[aF p12_27,.b 2,aF p12_9]) 3 ?_)
    rcases aq h with ⟨h38,h⟩ | ⟨h38,h⟩
    ·
     refine ah 85 h38 (ae (ks':=[aF p12_28,.b 2,aF p12_9]) 1 (ap 3 ?_))
     obtain ⟨v22,h39,h⟩:=bind_some h
     refine bI (fQ hK h39) (aH 5 1 ?_)
     obtain ⟨v23,h40,h⟩:=bind_some h
     exact ot_lxo 1094 (lI hK h40) (dV _ _ (dR _)) (by kernel_rfl:callArgsLx _ _=some (27,[iI v22,.sl (lm (eInt .i64) v16)],[iI v22,.ref 23])) (ke (q:=[]) (by kernel_rfl) trivial) (aj (af 0 (l3 hK h)))
    ·
     refine ah 85 h38 (ae (ks':=[aF p12_29,.b 2,aF p12_9]) 3 (ap 3 ?_))
     obtain ⟨v24,h41,h⟩:=bind_some h
     refine bI (fQ hK h41) (aH 5 1 ?_)
     obtain ⟨v25,h42,h⟩:=bind_some h
     exact ot_lxo 1079 (kL hK h42) (dV _ _ (dR _)) (by kernel_rfl:callArgsLx _ _=some (28,[iI v24,.sl (lm (eInt .i64) v15)],[iI v24,.ref 20])) (ke (q:=[]) (by kernel_rfl) trivial) (aj (bu [5,12] [] [20,1079] (ve_m 20 17 (ve_m 1079 1094 (af 0 (l3 hK h))))))
theorem mO (hK:KnOk K) (m:Nat):H12_1 M w0 r v1 v2 m (jW K n v1 v2 m):=by
  induction m with
 | zero=>intro v11 v12 v13 v14 v15 v16 h; cases h
 | succ m ih=>intro v11 v12 v13 v14 v15 v16 h; have h:j3 K n v1 v2 (jW K n v1 v2 m) v11 v12 v13 v14 v15 v16=some r:=h; exact aL (oC hK ih h)
theorem oK (hK:KnOk K) (h:kv K n v1 v2=some r):ACalls Try.prog 12 [.sl (lm ag v1),iI v2] (fun v s=>v = .ref 17∧look 17 s.r=some ⟨3,1,lm (eInt .i64) r⟩):=by
  refine br (cat Try.f12 []) Try.func12 Try.ntmps12 fun M w0=>(aY ⟨[(0,.sl (lm ag v1)),(1,iI v2)],[],[],[]⟩ ?_)
  unfold kv at h
  refine ae (ks':=[aF [1,0],aF [1,1]]) 3 (ap 1 (ao (aK ag v1) ?_))
  obtain ⟨h1,h⟩:=ak h
  refine cm (eInt .i64) (0:Int) 33 (.tmp 16) (.tmp 16) 17 (e:=3) (sz:=1) (zc:=[iI 0]) (kd:=.i64) (kd':=.i64) h1 (aj ?_)
  obtain ⟨v3,h2,h⟩:=bind_some h
  have h2:=Option.some.inj h2
  refine bd (ks':=[aF [1,1,0],aF [1,1,1]]) 1 ⟨[(0,.sl (lm ag v1)),(1,iI v2),(5,.ref 17)],[],[(17,⟨3,1,lm (eInt .i64) v3⟩)],[17]⟩ ?_ (by subst h2; kernel_rfl)
  refine ap 1 (ao (aK ag v1) ?_)
  obtain ⟨h3,h⟩:=ak h
  refine cm (eInt .i64) (0:Int) 33 (.tmp 19) (.tmp 19) 20 (e:=3) (sz:=1) (zc:=[iI 0]) (kd:=.i64) (kd':=.i64) h3 (aj ?_)
  obtain ⟨v4,h4,h⟩:=bind_some h
  have h4:=Option.some.inj h4
  refine bd (ks':=[aF p12_30,aF p12_31]) 1 ⟨[(0,.sl (lm ag v1)),(1,iI v2),(5,.ref 17),(6,.ref 20)],[],[(17,⟨3,1,lm (eInt .i64) v3⟩),(20,⟨3,1,lm (eInt .i64) v4⟩)],[17,20]⟩ ?_ (by subst h4; kernel_rfl)
  refine ap 1 (ao (aK ag v1) ?_)
  obtain ⟨h5,h⟩:=ak h
  refine cm (eInt .i64) (0:Int) 33 (.tmp 22) (.tmp 22) 23 (e:=3) (sz:=1) (zc:=[iI 0]) (kd:=.i64) (kd':=.i64) h5 (aj ?_)
  obtain ⟨v5,h6,h⟩:=bind_some h
  have h6:=Option.some.inj h6
  refine bd (ks':=[aF p12_32,aF p12_33,aF cN]) 4 ⟨[(0,.sl (lm ag v1)),(1,iI v2),(5,.ref 17),(6,.ref 20),(7,.ref 23),(8,iI 0),(9,iI 0)],[],[(17,⟨3,1,lm (eInt .i64) v3⟩),(20,⟨3,1,lm (eInt .i64) v4⟩),(23,⟨3,1,lm (eInt .i64) v5⟩)],[17,20,23]⟩ ?_ (by subst h6; kernel_rfl)
  exact ap 1 (ao (aK ag v1) (aj (af 1 (aM (p:=p12_34) n (mO hK n h)))))
end
def p9_0:=pth 0 11111
def p9_1:=pth 0 11110
noncomputable section
abbrev cx9 (M:Nat→Prop) (w0:Base):Cx:=⟨Try.prog,58,M,w0⟩
abbrev q9 (M:Nat→Prop) (w0:Base) (r:Bool):=bodyPost Try.prog Try.f9 (RetQ M w0 (fun v _=>v = .bool r))
def s9_j1 (v3:Bool):AS:=⟨[(0,.bool v3)],[],[],[]⟩
variable {K:Kn} {n:Nat} {M:Nat→Prop} {w0:Base} {r v3:Bool} 
abbrev cF9 (p:List Nat):Kont:=.c (cat Try.f9 p)
theorem eW (hK:KnOk K) (h:db K n v3=some r):VE (cx9 M w0) (q9 M w0 r) [cF9 p9_0] .normal (s9_j1 v3):=by
  unfold db at h
  refine aJ 1 ?_
  cases h
  exact bo
theorem g_law20_fit_ok (hK:KnOk K) (h:gW K n=some r):ACalls Try.prog 9 [] (fun v _=>v = .bool r):=by
  refine br (cat Try.f9 []) Try.func9 Try.ntmps9 fun M w0=>(aY ⟨[],[],[],[]⟩ ?_)
  unfold gW at h
  refine ae (ks':=[cF9 [1,0],cF9 [1,1]]) 3 (ap 6 ?_)
  obtain ⟨v1,h1,h⟩:=bind_some h
  refine d5 1011 (mJ hK h1) (one_tup (i:=0) rfl) (aj (ae (ks':=[cF9 [1,1,0],cF9 [1,1,1]]) 1 (ap 3 ?_)))
  obtain ⟨v2,h2,h⟩:=bind_some h
  refine d5 1017 (oK hK h2) (d4 17) (aj (ae (ks':=[cF9 p9_1,cF9 p9_0]) 1 (ap 3 ?_)))
  rcases aq h with ⟨h3,h⟩ | ⟨h3,h⟩
  ·
   refine aE 20 h3 (aH 4 1 (ao (aK (eSl am) v1.1) (aH 8 3 ?_)))
   rcases aq h with ⟨h4,h⟩ | ⟨h4,h⟩
   ·
    refine aE 25 h4 (aH 9 1 ?_)
    obtain ⟨h5,h⟩:=ak h
    refine ao (bf 1011 1 (eSl am) h5) (ao (aG 28 0 (eSl am) (eSl am) (ay h5).2 (fun _=>rfl)) (ao (aK am (gD v1.1 (1:Int))) (aH 15 3 ?_)))
    rcases aq h with ⟨h6,h⟩ | ⟨h6,h⟩
    ·
     refine aE 32 h6 (aH 16 1 ?_)
     obtain ⟨h7,h⟩:=ak h
     refine ao (bf 1011 1 (eSl am) h7) (ao (aG 28 0 (eSl am) (eSl am) (ay h7).2 (fun _=>rfl)) ?_)
     obtain ⟨h8,h⟩:=ak h
     refine ao (bh am am h8 (c8) (fun _=>rfl)) (aH 24 5 ?_)
     rcases aq h with ⟨h9,h⟩ | ⟨h9,h⟩
     ·
      refine aE 41 h9 (aH 25 1 (ao (aK (eInt .i64) v2) (aH 29 3 ?_)))
      rcases aq h with ⟨h10,h⟩ | ⟨h10,h⟩
      ·
       refine aE 46 h10 (aH 30 1 ?_)
       obtain ⟨h11,h⟩:=ak h
       refine ao (bf 1017 1 (eInt .i64) h11) (ao (aG 3 0 (eInt .i64) (eInt .i64) (ay h11).2 (fun _=>rfl)) (aH 35 3 ?_))
       rcases aq h with ⟨h12,h⟩ | ⟨h12,h⟩
       ·
        refine aE 52 h12 (aH 36 1 ?_)
        obtain ⟨h13,h⟩:=ak h
        exact ao (bf 1017 1 (eInt .i64) h13) (ao (aG 3 0 (eInt .i64) (eInt .i64) (ay h13).2 (fun _=>rfl)) (aj (af 0 (eW hK h))))
       ·
        exact aE 52 h12 (aj (af 0 (eW hK h)))
      ·
       exact aE 46 h10 (aj (af 0 (eW hK h)))
     ·
      exact aE 41 h9 (aj (af 0 (eW hK h)))
    ·
     exact aE 32 h6 (aj (af 0 (eW hK h)))
   ·
    exact aE 25 h4 (aj (af 0 (eW hK h)))
  ·
   exact aE 20 h3 (aj (af 0 (eW hK h)))
end
noncomputable section
variable {K:Kn} {n:Nat} {M:Nat→Prop} {w0:Base} {r v1:Int} 
theorem mj (hK:KnOk K) (h:gY K n v1=some r):ACalls Try.prog 14 [iI v1] (fun v _=>v=iI r):=by
  refine br (cat Try.f14 []) Try.func14 Try.ntmps14 fun M w0=>(aY ⟨[(0,iI v1)],[],[],[]⟩ ?_)
  unfold gY at h
  refine aJ 5 ?_
  cases h
  exact bo
end
def p15_0:=pth 0 110100
def de:=pth 0 110100111
def p15_2:=pth 0 11010011001100
def p15_3:=pth 0 11010011001100110011
def p15_4:=pth 0 11010011001100111
def p15_5:=pth 0 1101001100110010
def p15_6:=pth 0 1101001100110011
def p15_7:=pth 0 1101001100110011000
def p15_8:=pth 0 1101001100110011001
def p15_9:=pth 0 11010011001100110010
def p15_10:=pth 0 11010010
def p15_11:=pth 0 11010011
def p15_12:=pth 0 11010011000
def p15_13:=pth 0 11010011001
def p15_14:=pth 0 110100110010
def p15_15:=pth 0 110100110011
def p15_16:=pth 0 1101001100110
def p15_17:=pth 0 11010
noncomputable section
abbrev dJ (M:Nat→Prop) (w0:Base):Cx:=⟨Try.prog,44,M,w0⟩
abbrev q15 (M:Nat→Prop) (w0:Base) (r:Bool):=bodyPost Try.prog Try.f15 (RetQ M w0 (fun v _=>v = .bool r))
abbrev aN (p:List Nat):Kont:=.c (cat Try.f15 p)
abbrev cF (M:Nat→Prop) (w0:Base) (r:Bool) (m1:Nat):Kont:=kl (dJ M w0) (q15 M w0 r) [.b 0,aN [1,1]] (cat Try.f15 p15_0) m1
abbrev k15_2 (M:Nat→Prop) (w0:Base) (r:Bool) (m1 m2:Nat):Kont:=kl (dJ M w0) (q15 M w0 r) [.b 2,.b 1,aN de,cF M w0 r m1,.b 0,aN [1,1]] (cat Try.f15 p15_2) m2
def s15_j1 (v1:List ab) (v2 v11 v16 v17:Int) (v19:Bool):AS:=⟨[(0,.sl (lm am v1)),(1,iI v2),(9,.sl (lm am v1)),(10,iI (v1.length:Int)),(11,iI v11),(23,.sl (lm (eInt .i64) [(gD v1 v11).Row,(gD v1 v11).Col,(gD v1 v11).Rows,(gD v1 v11).Cols])),(24,iI v16),(25,iI v17),(34,.bool v19)],[],[],[]⟩
def s15_l2 (v1:List ab) (v2 v11 v16 v17:Int):AS:=⟨[(0,.sl (lm am v1)),(1,iI v2),(9,.sl (lm am v1)),(10,iI (v1.length:Int)),(11,iI v11),(23,.sl (lm (eInt .i64) [(gD v1 v11).Row,(gD v1 v11).Col,(gD v1 v11).Rows,(gD v1 v11).Cols])),(24,iI v16),(25,iI v17)],[],[],[]⟩
def s15_j4 (v20:Bool):AS:=⟨[(4,.bool v20)],[],[],[]⟩
def s15_l3 (v1:List ab) (v2 v11:Int):AS:=⟨[(0,.sl (lm am v1)),(1,iI v2),(9,.sl (lm am v1)),(10,iI (v1.length:Int)),(11,iI v11)],[],[],[]⟩
abbrev H15_1 (M:Nat→Prop) (w0:Base) (r:Bool) (v1:List ab) (v2:Int) (m1:Nat) (L1:Int→Option Bool):Prop:=∀ {v11:Int},L1 v11=some r→LP (dJ M w0) (q15 M w0 r) [.b 0,aN [1,1]] (cat Try.f15 p15_0) m1 (s15_l3 v1 v2 v11)
abbrev H15_2 (M:Nat→Prop) (w0:Base) (r:Bool) (v1:List ab) (v2 v11:Int) (m1 m2:Nat) (L2:Int→Int→Option Bool):Prop:=∀ {v16:Int} {v17:Int},L2 v16 v17=some r→LP (dJ M w0) (q15 M w0 r) [.b 2,.b 1,aN de,cF M w0 r m1,.b 0,aN [1,1]] (cat Try.f15 p15_2) m2 (s15_l2 v1 v2 v11 v16 v17)
variable {K:Kn} {n:Nat} {M:Nat→Prop} {w0:Base} {r:Bool} {v1:List ab} {v2 v11 v16 v17:Int} {v19 v20:Bool} {m1:Nat} {L1:Int→Option Bool} {m2:Nat} {L2:Int→Int→Option Bool}
theorem lw (hK:KnOk K) (hL1:H15_1 M w0 r v1 v2 m1 L1) (hL2:H15_2 M w0 r v1 v2 v11 m1 m2 L2) (h:ji K n v1 v2 v11 v16 v17 L1 L2 v19=some r):VE (dJ M w0) (q15 M w0 r) [aN p15_3,.b 3,aN p15_4,k15_2 M w0 r m1 m2,.b 2,.b 1,aN de,cF M w0 r m1,.b 0,aN [1,1]] .normal (s15_j1 v1 v2 v11 v16 v17 v19):=by
  unfold ji at h
  rcases aq h with ⟨h28,h⟩ | ⟨h28,h⟩
  ·
   refine ah 34 h28 (aJ 13 ?_)
   cases h
   exact bo
  ·
   exact ah 34 h28 (af 4 (aI (hL2 h)))
theorem oG (hK:KnOk K) (hL1:H15_1 M w0 r v1 v2 m1 L1) (hL2:H15_2 M w0 r v1 v2 v11 m1 m2 L2) (h:iy K n v1 v2 v11 L1 L2 v16 v17=some r):VE (dJ M w0) (q15 M w0 r) [aN p15_2,k15_2 M w0 r m1 m2,.b 2,.b 1,aN de,cF M w0 r m1,.b 0,aN [1,1]] .normal (s15_l2 v1 v2 v11 v16 v17):=by
  unfold iy at h
  refine ae (ks':=[aN p15_5,aN p15_6,k15_2 M w0 r m1 m2,.b 2,.b 1,aN de,cF M w0 r m1,.b 0,aN [1,1]]) 3 ?_
  rcases aq h with ⟨h24,h⟩ | ⟨h24,h⟩
  ·
   refine ah 26 h24 (ae (ks':=[aN p15_7,aN p15_8,.b 3,aN p15_4,k15_2 M w0 r m1 m2,.b 2,.b 1,aN de,cF M w0 r m1,.b 0,aN [1,1]]) 5 (ap 0 ?_))
   obtain ⟨h25,h⟩:=ak h
   refine ao (bh (eInt .i64) (eInt .i64) h25 (fun _=>rfl) (fun _=>rfl)) (aj ?_)
   obtain ⟨v18,h26,h⟩:=bind_some h
   have h26:=Option.some.inj h26
   refine bd (ks':=[aN p15_9,aN p15_3,.b 3,aN p15_4,k15_2 M w0 r m1 m2,.b 2,.b 1,aN de,cF M w0 r m1,.b 0,aN [1,1]]) 1 ⟨[(0,.sl (lm am v1)),(1,iI v2),(8,iI v18),(9,.sl (lm am v1)),(10,iI (v1.length:Int)),(11,iI v11),(23,.sl (lm (eInt .i64) [(gD v1 v11).Row,(gD v1 v11).Col,(gD v1 v11).Rows,(gD v1 v11).Cols])),(24,iI v16),(25,iI v17)],[],[],[]⟩ ?_ (by subst h26; kernel_rfl)
   refine ap 3 ?_
   rcases aq h with ⟨h27,h⟩ | ⟨h27,h⟩
   ·
    exact aE 31 h27 (aj (af 0 (lw hK hL1 hL2 h)))
   ·
    exact aE 31 h27 (aj (af 0 (lw hK hL1 hL2 h)))
  ·
   exact ah 26 h24 (af 7 (aI (hL1 h)))
theorem oq (hK:KnOk K) (hL1:H15_1 M w0 r v1 v2 m1 L1) (m:Nat):H15_2 M w0 r v1 v2 v11 m1 m (eF K n v1 v2 v11 L1 m):=by
  induction m with
 | zero=>intro v16 v17 h; cases h
 | succ m ih=>intro v16 v17 h; have h:iy K n v1 v2 v11 L1 (eF K n v1 v2 v11 L1 m) v16 v17=some r:=h; exact aL (oG hK hL1 ih h)
theorem mh (hK:KnOk K) (h:iY K n v20=some r):VE (dJ M w0) (q15 M w0 r) [aN [1,1,1]] .normal (s15_j4 v20):=by
  unfold iY at h
  refine aJ 1 ?_
  cases h
  exact bo
theorem nB (hK:KnOk K) (hL1:H15_1 M w0 r v1 v2 m1 L1) (h:iB K n v1 v2 L1 v11=some r):VE (dJ M w0) (q15 M w0 r) [aN p15_0,cF M w0 r m1,.b 0,aN [1,1]] .normal (s15_l3 v1 v2 v11):=by
  unfold iB at h
  refine ae (ks':=[aN p15_10,aN p15_11,cF M w0 r m1,.b 0,aN [1,1]]) 3 ?_
  rcases aq h with ⟨h15,h⟩ | ⟨h15,h⟩
  ·
   refine ah 12 h15 (ae (ks':=[aN p15_12,aN p15_13,.b 1,aN de,cF M w0 r m1,.b 0,aN [1,1]]) 5 (ap 0 ?_))
   obtain ⟨h16,h⟩:=ak h
   exact ao (bh am am h16 (c8) (fun _=>rfl)) (aj (ae (ks':=[aN p15_14,aN p15_15,.b 1,aN de,cF M w0 r m1,.b 0,aN [1,1]]) 1 (ap 9 (ao (aK (eInt .i64) ([(gD v1 v11).Row,(gD v1 v11).Col,(gD v1 v11).Rows,(gD v1 v11).Cols]:List Int)) (aj (af 1 (aM (p:=p15_16) n (oq hK hL1 n h))))))))
  ·
   refine ah 12 h15 (ae (ks':=[aN [1,1,0],aN [1,1,1]]) 6 (ap 1 (ao (aK am v1) (aH 4 2 ?_))))
   rcases aq h with ⟨h29,h⟩ | ⟨h29,h⟩
   ·
    exact aE 40 h29 (aj (af 0 (mh hK h)))
   ·
    exact aE 40 h29 (aj (af 0 (mh hK h)))
theorem mF (hK:KnOk K) (m:Nat):H15_1 M w0 r v1 v2 m (eY K n v1 v2 m):=by
  induction m with
 | zero=>intro v11 h; cases h
 | succ m ih=>intro v11 h; have h:iB K n v1 v2 (eY K n v1 v2 m) v11=some r:=h; exact aL (nB hK ih h)
theorem g_law20_few_ok (hK:KnOk K) (h:jC K n v1 v2=some r):ACalls Try.prog 15 [.sl (lm am v1),iI v2] (fun v _=>v = .bool r):=by
  refine br (cat Try.f15 []) Try.func15 Try.ntmps15 fun M w0=>(aY ⟨[(0,.sl (lm am v1)),(1,iI v2)],[],[],[]⟩ ?_)
  unfold jC at h
  exact ae (ks':=[aN [1,0,0],aN [1,0,1],aN [1,1]]) 4 (ap 1 (ao (aK am v1) (aj (af 1 (aM (p:=p15_17) n (mF hK n h))))))
end
noncomputable section
variable {K:Kn} {n:Nat} {M:Nat→Prop} {w0:Base} {r v1 v2:Int} {v3:Fv} {v4:List ab} 
abbrev cF65 (p:List Nat):Kont:=.c (cat Try.f65 p)
theorem nA (hK:KnOk K) (h:iz K n v1 v2 v3 v4=some r):ACalls Try.prog 65 [iI v1,iI v2,.cptr ([.fn v3.id v3.caps]),.cptr ([.sl (lm am v4)])] (fun v _=>v=iI r):=by
  refine br (cat Try.f65 []) Try.func65 Try.ntmps65 fun M w0=>(aY ⟨[(0,iI v1),(1,iI v2),(2,.cptr ([.fn v3.id v3.caps])),(3,.cptr ([.sl (lm am v4)]))],[],[],[]⟩ ?_)
  unfold iz at h
  refine ae (ks':=[cF65 [1,0],cF65 [1,1]]) 3 (bu [0,1,2,3] [] [] ?_)
  obtain ⟨h1,h⟩:=ak h
  obtain ⟨v5,h2,h⟩:=bind_some h
  obtain ⟨h3,h⟩:=ak h
  obtain ⟨v6,h4,h⟩:=bind_some h
  obtain ⟨v7,h5,h⟩:=bind_some h
  refine bt 1 (nu 7 [.fn v3.id v3.caps,.sl (lm am v4),iI v1,.cptr (am (gD v4 v1)),.agg (am (gD v4 v1)),iI v5,.fn v3.id v3.caps,.sl (lm am v4),iI v2,.cptr (am (gD v4 v2)),.agg (am (gD v4 v2)),iI v6,iI v7]) [] [] [stp Try.prog 20 Try.f65 [1,0] 13] (ax (vz 3) (d_v (bh am am h1 (c8) (fun _=>rfl)) (ax [.v 0 1] (av (e_c 0 1 12 (hK.cX h2).2 (hK.cX h2).1) (ax (vz 3) (d_v (bh am am h3 (c8) (fun _=>rfl)) (ax [.v 0 1] (av (e_c 0 1 18 (hK.cX h4).2 (hK.cX h4).1) (av (e_c 0 1 19 (lL hK h5)) (av (e_d 0) bq)))))))))) (aJ 1 ?_)
  cases h
  exact bo
end
def p32_0:=pth 0 1110100
def p32_1:=pth 0 1110100111
def p32_2:=pth 0 1110100110011
def p32_3:=pth 0 11101001100110
def p32_4:=pth 0 111010010
def p32_5:=pth 0 111010011
def p32_6:=pth 0 111010011000
def p32_7:=pth 0 111010011001
def p32_8:=pth 0 1110100110010
def p32_9:=pth 0 11110
def p32_10:=pth 0 11111
def p32_11:=pth 0 11100
def p32_12:=pth 0 11101
def p32_13:=pth 0 111010
noncomputable section
abbrev cx32 (M:Nat→Prop) (w0:Base):Cx:=⟨Try.prog,56,M,w0⟩
abbrev q32 (M:Nat→Prop) (w0:Base) (r:List Int):=bodyPost Try.prog Try.f32 (RetQ M w0 (fun v s=>v = .ref 50∧look 50 s.r=some ⟨3,1,lm (eInt .i64) r⟩))
abbrev bj (p:List Nat):Kont:=.c (cat Try.f32 p)
abbrev ez (M:Nat→Prop) (w0:Base) (r:List Int) (m1:Nat):Kont:=kl (cx32 M w0) (q32 M w0 r) [.b 0,bj [1,1,1]] (cat Try.f32 p32_0) m1
def s32_j2 (v1:List ab) (v2:Int) (v3 v4:Fv) (v11:Int) (v15:List Int):AS:=⟨[(1,iI v2),(2,.fn v3.id v3.caps),(4,.ptr 4 0),(7,.ptr 7 0),(9,.ref 50),(12,.sl (lm am v1)),(13,iI (v1.length:Int)),(14,iI v11)],[(4,[.sl (lm am v1)]),(7,[.fn v4.id v4.caps])],[(50,⟨3,1,lm (eInt .i64) v15⟩)],[4,7,50]⟩
def s32_j1 (v1:List ab) (v2:Int) (v3 v4:Fv) (v11:Int) (v12:List Int) (v14:Bool):AS:=⟨[(1,iI v2),(2,.fn v3.id v3.caps),(4,.ptr 4 0),(7,.ptr 7 0),(9,.ref 50),(10,iI v11),(12,.sl (lm am v1)),(13,iI (v1.length:Int)),(14,iI v11),(46,.bool v14)],[(4,[.sl (lm am v1)]),(7,[.fn v4.id v4.caps])],[(50,⟨3,1,lm (eInt .i64) v12⟩)],[4,7,50]⟩
def s32_l3 (v1:List ab) (v2:Int) (v3 v4:Fv) (v11:Int) (v12:List Int):AS:=⟨[(1,iI v2),(2,.fn v3.id v3.caps),(4,.ptr 4 0),(7,.ptr 7 0),(9,.ref 50),(12,.sl (lm am v1)),(13,iI (v1.length:Int)),(14,iI v11)],[(4,[.sl (lm am v1)]),(7,[.fn v4.id v4.caps])],[(50,⟨3,1,lm (eInt .i64) v12⟩)],[4,7,50]⟩
abbrev H32_1 (M:Nat→Prop) (w0:Base) (r:List Int) (v1:List ab) (v2:Int) (v3 v4:Fv) (m1:Nat) (L1:Int→(List Int)→Option (List Int)):Prop:=∀ {v11:Int} {v12:(List Int)},L1 v11 v12=some r→LP (cx32 M w0) (q32 M w0 r) [.b 0,bj [1,1,1]] (cat Try.f32 p32_0) m1 (s32_l3 v1 v2 v3 v4 v11 v12)
variable {K:Kn} {n:Nat} {M:Nat→Prop} {w0:Base} {r:List Int} {v1:List ab} {v2:Int} {v3 v4:Fv} {v11:Int} {v12:List Int} {v14:Bool} {v15:List Int} {m1:Nat} {L1:Int→(List Int)→Option (List Int)}
theorem lX (hK:KnOk K) (hL1:H32_1 M w0 r v1 v2 v3 v4 m1 L1) (h:fp K n v1 v2 v3 v4 v11 L1 v15=some r):VE (cx32 M w0) (q32 M w0 r) [.b 1,bj p32_1,ez M w0 r m1,.b 0,bj [1,1,1]] .normal (s32_j2 v1 v2 v3 v4 v11 v15):=by
  unfold fp at h
  exact af 2 (aI (hL1 h))
theorem fS (hK:KnOk K) (hL1:H32_1 M w0 r v1 v2 v3 v4 m1 L1) (h:cD K n v1 v2 v3 v4 v11 v12 L1 v14=some r):VE (cx32 M w0) (q32 M w0 r) [bj p32_2,.b 1,bj p32_1,ez M w0 r m1,.b 0,bj [1,1,1]] .normal (s32_j1 v1 v2 v3 v4 v11 v12 v14):=by
  unfold cD at h
  rcases aq h with ⟨h29,h⟩ | ⟨h29,h⟩
  ·
   refine ah 46 h29 (ae (ks':=[bj p32_3,.b 1,bj p32_1,ez M w0 r m1,.b 0,bj [1,1,1]]) 1 (ap 3 ?_))
   obtain ⟨h30,h⟩:=ak h
   exact ao (y_app 50 50 3 1 (eInt .i64) (rfl) (fun _=>rfl) h30) (aj (af 0 (lX hK hL1 h)))
  ·
   exact ah 46 h29 (af 2 (lX hK hL1 h))
theorem ov (hK:KnOk K) (hL1:H32_1 M w0 r v1 v2 v3 v4 m1 L1) (h:gJ K n v1 v2 v3 v4 L1 v11 v12=some r):VE (cx32 M w0) (q32 M w0 r) [bj p32_0,ez M w0 r m1,.b 0,bj [1,1,1]] .normal (s32_l3 v1 v2 v3 v4 v11 v12):=by
  unfold gJ at h
  refine ae (ks':=[bj p32_4,bj p32_5,ez M w0 r m1,.b 0,bj [1,1,1]]) 3 ?_
  rcases aq h with ⟨h21,h⟩ | ⟨h21,h⟩
  ·
   refine ah 15 h21 (ae (ks':=[bj p32_6,bj p32_7,.b 1,bj p32_1,ez M w0 r m1,.b 0,bj [1,1,1]]) 5 (ap 1 ?_))
   obtain ⟨h22,h⟩:=ak h
   refine ao (bh am am h22 (c8) (fun _=>rfl)) (aj (ae (ks':=[bj p32_8,bj p32_2,.b 1,bj p32_1,ez M w0 r m1,.b 0,bj [1,1,1]]) 1 (ap 4 ?_)))
   rcases aq h with ⟨h23,h⟩ | ⟨h23,h⟩
   ·
    refine aE 22 h23 (aH 9 5 ?_)
    rcases aq h with ⟨h24,h⟩ | ⟨h24,h⟩
    ·
     refine aE 27 h24 (aH 14 5 ?_)
     rcases aq h with ⟨h25,h⟩ | ⟨h25,h⟩
     ·
      refine aE 32 h25 (aH 19 5 ?_)
      rcases aq h with ⟨h26,h⟩ | ⟨h26,h⟩
      ·
       refine aE 37 h26 (aH 24 5 ?_)
       rcases aq h with ⟨h27,h⟩ | ⟨h27,h⟩
       ·
        refine aE 42 h27 (aH 26 2 ?_)
        obtain ⟨v13,h28,h⟩:=bind_some h
        exact ot_cd (hK.fP h28) (aj (af 0 (fS hK hL1 h)))
       ·
        exact aE 42 h27 (aj (af 0 (fS hK hL1 h)))
      ·
       exact aE 37 h26 (aj (af 0 (fS hK hL1 h)))
     ·
      exact aE 32 h25 (aj (af 0 (fS hK hL1 h)))
    ·
     exact aE 27 h24 (aj (af 0 (fS hK hL1 h)))
   ·
    exact aE 22 h23 (aj (af 0 (fS hK hL1 h)))
  ·
   refine ah 15 h21 (ae (ks':=[bj p32_9,bj p32_10]) 6 (ap 1 (ot_fo 7 7 ([.fn v4.id v4.caps]) (ot_fo 4 4 ([.sl (lm am v1)]) (ot_mf 65 #[(.tmp 7),(.tmp 4)] [.cptr ([.fn v4.id v4.caps]),.cptr ([.sl (lm am v1)])] ?_)))))
   obtain ⟨v16,h31,h⟩:=bind_some h
   refine cu 50 0 (lW hK h31) (aj (aJ 3 ?_))
   cases h
   exact cG
theorem mT (hK:KnOk K) (m:Nat):H32_1 M w0 r v1 v2 v3 v4 m (d7 K n v1 v2 v3 v4 m):=by
  induction m with
 | zero=>intro v11 v12 h; cases h
 | succ m ih=>intro v11 v12 h; have h:gJ K n v1 v2 v3 v4 (d7 K n v1 v2 v3 v4 m) v11 v12=some r:=h; exact aL (ov hK ih h)
theorem mW (hK:KnOk K) (h:jp K n v1 v2 v3 v4=some r):ACalls Try.prog 32 [.sl (lm am v1),iI v2,.fn v3.id v3.caps,.fn v4.id v4.caps] (fun v s=>v = .ref 50∧look 50 s.r=some ⟨3,1,lm (eInt .i64) r⟩):=by
  refine br (cat Try.f32 []) Try.func32 Try.ntmps32 fun M w0=>(aY ⟨[(0,.sl (lm am v1)),(1,iI v2),(2,.fn v3.id v3.caps),(3,.fn v4.id v4.caps)],[],[],[]⟩ ?_)
  unfold jp at h
  exact ae (ks':=[bj p32_11,bj p32_12,bj [1,1,1]]) 6 (ap 1 (ao (aK am v1) (aj (ae (ks':=[bj p32_13,.b 0,bj [1,1,1]]) 1 (bu [1,2,4,7,9,12,13,14] [4,7] [] (ve_w 50 9 3 1 (af 0 (aM (p:=p32_13) n (mT hK n h)))))))))
end
noncomputable section
abbrev cx36 (M:Nat→Prop) (w0:Base):Cx:=⟨Try.prog,17,M,w0⟩
abbrev q36 (M:Nat→Prop) (w0:Base) (r:Bool):=bodyPost Try.prog Try.f36 (RetQ M w0 (fun v _=>v = .bool r))
def s36_j1 (v3:Bool):AS:=⟨[(3,.bool v3)],[],[],[]⟩
variable {K:Kn} {n:Nat} {M:Nat→Prop} {w0:Base} {r:Bool} {v1:ab} {v2:Int} {v3:Bool} 
abbrev cF36 (p:List Nat):Kont:=.c (cat Try.f36 p)
theorem ls (hK:KnOk K) (h:gF K n v3=some r):VE (cx36 M w0) (q36 M w0 r) [cF36 [1,1]] .normal (s36_j1 v3):=by
  unfold gF at h
  refine aJ 1 ?_
  cases h
  exact bo
theorem m8 (hK:KnOk K) (h:gV K n v1 v2=some r):ACalls Try.prog 36 [.agg (am v1),.cptr ([iI v2])] (fun v _=>v = .bool r):=by
  refine br (cat Try.f36 []) Try.func36 Try.ntmps36 fun M w0=>(aY ⟨[(0,.agg (am v1)),(1,.cptr ([iI v2]))],[],[],[]⟩ ?_)
  unfold gV at h
  refine ae (ks':=[cF36 [1,0],cF36 [1,1]]) 3 (ap 5 ?_)
  rcases aq h with ⟨h1,h⟩ | ⟨h1,h⟩
  ·
   exact aE 8 h1 (aj (af 0 (ls hK h)))
  ·
   exact aE 8 h1 (aj (af 0 (ls hK h)))
end
end Go.Proofs.Ytolhpahjgddjkaa

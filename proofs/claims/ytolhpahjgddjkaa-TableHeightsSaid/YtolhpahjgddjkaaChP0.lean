/- The runs of the functions that TableHeights reaches do what their plain forms say, part 0. Made by a program. -/
import Derived.Test.YtolhpahjgddjkaaChGk
namespace Go.Proofs.Ytolhpahjgddjkaa
open Go.RowKit
set_option maxRecDepth 20000
set_option linter.all false
set_option linter.unusedVariables false
set_option linter.unusedSimpArgs false
def p10_0:=pth 0 1110100
def bc:=pth 0 1110100110011111
def aO:=pth 0 1110100111
def p10_3:=pth 0 1110100110011110100
def bH:=pth 0 111010011001111
def p10_5:=pth 0 111010011001110100
def p10_6:=pth 0 111010011001110100110011
def cO:=pth 0 111010011001110100111
def p10_8:=pth 0 11101001100111010011001000
def bE:=pth 0 1110100110011110100111
def p10_10:=pth 0 111010011001111010011001100
def cr:=pth 0 11101001100111101001100110011
def p10_12:=pth 0 1110100110011110100110011001001100
def p10_13:=pth 0 1110100110011101001100100000
def p10_14:=pth 0 1110100110011101001100100001
def p10_15:=pth 0 111010011001110100110010001
def p10_16:=pth 0 1110100110011101001100110
def p10_17:=pth 0 1110100110011101001100111
def p10_18:=pth 0 11101001100111010011001110
def p10_19:=pth 0 11101001100111010011001111
def p10_20:=pth 0 111010011001111010011001100100110001
def p10_21:=pth 0 11101001100111101001100110010011001
def p10_22:=pth 0 1110100110011110100110011001001100100
def p10_23:=pth 0 111010011001111010011001100100110011
def p10_24:=pth 0 1110100110011110100110011001001
def p10_25:=pth 0 111010011001111010011001100100110
def p10_26:=pth 0 11101001100111101001100110001
def p10_27:=pth 0 1110100110011110100110011001
def p10_28:=pth 0 11101001100111101001100110010000
def p10_29:=pth 0 11101001100111101001100110010001
def p10_30:=pth 0 111010011001111010011001100100010
def p10_31:=pth 0 111010011001111010010
def p10_32:=pth 0 111010011001111010011
def p10_33:=pth 0 111010011001111010011000
def p10_34:=pth 0 111010011001111010011001
def p10_35:=pth 0 11101001100111101001100110
def p10_36:=pth 0 11101001100111010010
def p10_37:=pth 0 11101001100111010011
def p10_38:=pth 0 11101001100111010011000
def p10_39:=pth 0 11101001100111010011001
def p10_40:=pth 0 1110100110011101001100100
def p10_41:=pth 0 11101001100111100
def p10_42:=pth 0 11101001100111101
def p10_43:=pth 0 111010011001111010
def p10_44:=pth 0 111010010
def p10_45:=pth 0 111010011
def p10_46:=pth 0 111010011000
def p10_47:=pth 0 111010011001
def p10_48:=pth 0 1110100110011100
def p10_49:=pth 0 1110100110011101
def p10_50:=pth 0 11101001100111010
def p10_51:=pth 0 11100
def p10_52:=pth 0 11101
def p10_53:=pth 0 111010
noncomputable section
abbrev bh (M:Nat→Prop) (w0:Base):Cx:=⟨Try.prog,116,M,w0⟩
abbrev q10 (M:Nat→Prop) (w0:Base) (r:(List (List aa))×Int):=bodyPost Try.prog Try.f10 (RetQ M w0 (fun v s=>v = .tup [.ref 112,iI r.2]∧look 112 s.r=some ⟨28,1,lm (eSl ag) r.1⟩))
abbrev ab (p:List Nat):Kont:=.c (cat Try.f10 p)
abbrev aK (M:Nat→Prop) (w0:Base) (r:(List (List aa))×Int) (m1:Nat):Kont:=kl (bh M w0) (q10 M w0 r) [.b 0,ab [1,1,1]] (cat Try.f10 p10_0) m1
abbrev bt (M:Nat→Prop) (w0:Base) (r:(List (List aa))×Int) (m1 m4:Nat):Kont:=kl (bh M w0) (q10 M w0 r) [.b 6,ab bc,.b 1,ab aO,aK M w0 r m1,.b 0,ab [1,1,1]] (cat Try.f10 p10_3) m4
abbrev cb (M:Nat→Prop) (w0:Base) (r:(List (List aa))×Int) (m1 m2:Nat):Kont:=kl (bh M w0) (q10 M w0 r) [.b 2,ab bH,.b 1,ab aO,aK M w0 r m1,.b 0,ab [1,1,1]] (cat Try.f10 p10_5) m2
abbrev k10_3 (M:Nat→Prop) (w0:Base) (r:(List (List aa))×Int) (m2 m1 m3:Nat):Kont:=kl (bh M w0) (q10 M w0 r) [.b 4,ab p10_6,.b 3,ab cO,cb M w0 r m1 m2,.b 2,ab bH,.b 1,ab aO,aK M w0 r m1,.b 0,ab [1,1,1]] (cat Try.f10 p10_8) m3
abbrev b7 (M:Nat→Prop) (w0:Base) (r:(List (List aa))×Int) (m4 m1 m5:Nat):Kont:=kl (bh M w0) (q10 M w0 r) [.b 8,.b 7,ab bE,bt M w0 r m1 m4,.b 6,ab bc,.b 1,ab aO,aK M w0 r m1,.b 0,ab [1,1,1]] (cat Try.f10 p10_10) m5
abbrev k10_6 (M:Nat→Prop) (w0:Base) (r:(List (List aa))×Int) (m5 m4 m1 m6:Nat):Kont:=kl (bh M w0) (q10 M w0 r) [.b 10,.b 9,ab cr,b7 M w0 r m4 m1 m5,.b 8,.b 7,ab bE,bt M w0 r m1 m4,.b 6,ab bc,.b 1,ab aO,aK M w0 r m1,.b 0,ab [1,1,1]] (cat Try.f10 p10_12) m6
def s10_l1 (v1:List (List (V2 Int))) (v122:Int) (v123:List (List aa)) (v124:List TMp) (v139 v141 v142:Int) (v143:List aa) (v146:Int) (v147:V2 Int):AS:=⟨[(0,.sl (lm (eSl (eV2 (eInt .i64))) v1)),(2,.ref 112),(3,iI v139),(4,.ref 500018),(5,iI v122),(7,.ref 58),(8,iI v146),(10,.ptr 10 0),(19,.sl (lm (eSl (eV2 (eInt .i64))) v1)),(20,iI (v1.length:Int)),(21,iI v122),(26,.sl (lm (eV2 (eInt .i64)) (gD v1 v122))),(27,iI v141),(28,iI v142)],[(10,(eV2 (eInt .i64)) v147)],[(58,⟨30,4,lm ag v143⟩),(112,⟨28,1,lm (eSl ag) v123⟩),(500018,⟨75,1,lm eOmp v124⟩)],[10,58,112,500018]⟩
def s10_l4 (v1:List (List (V2 Int))) (v122:Int) (v123:List (List aa)) (v139:Int) (v143:List aa) (v166 v175 v181:Int) (v182:List TMp):AS:=⟨[(0,.sl (lm (eSl (eV2 (eInt .i64))) v1)),(2,.ref 112),(3,iI v139),(4,.ref 500018),(5,iI v122),(7,.ref 58),(13,.ptr 13 0),(14,iI v175),(15,iI v181),(19,.sl (lm (eSl (eV2 (eInt .i64))) v1)),(20,iI (v1.length:Int)),(21,iI v122),(67,.ref 58),(68,iI (v143.length:Int)),(69,iI v166)],[(13,ag (gD v143 v166))],[(58,⟨30,4,lm ag v143⟩),(112,⟨28,1,lm (eSl ag) v123⟩),(500018,⟨75,1,lm eOmp v182⟩)],[13,58,112,500018]⟩
def s10_j3 (v1:List (List (V2 Int))) (v122:Int) (v123:List (List aa)) (v139:Int) (v143:List aa) (v166 v175:Int) (v179:List TMp):AS:=⟨[(0,.sl (lm (eSl (eV2 (eInt .i64))) v1)),(2,.ref 112),(3,iI v139),(4,.ref 500018),(5,iI v122),(7,.ref 58),(13,.ptr 13 0),(14,iI v175),(19,.sl (lm (eSl (eV2 (eInt .i64))) v1)),(20,iI (v1.length:Int)),(21,iI v122),(67,.ref 58),(68,iI (v143.length:Int)),(69,iI v166)],[(13,ag (gD v143 v166))],[(58,⟨30,4,lm ag v143⟩),(112,⟨28,1,lm (eSl ag) v123⟩),(500018,⟨75,1,lm eOmp v179⟩)],[13,58,112,500018]⟩
def s10_l5 (v1:List (List (V2 Int))) (v122:Int) (v123:List (List aa)) (v139:Int) (v143:List aa) (v166 v175:Int) (v176:List TMp):AS:=⟨[(0,.sl (lm (eSl (eV2 (eInt .i64))) v1)),(2,.ref 112),(3,iI v139),(4,.ref 500018),(5,iI v122),(7,.ref 58),(13,.ptr 13 0),(14,iI v175),(19,.sl (lm (eSl (eV2 (eInt .i64))) v1)),(20,iI (v1.length:Int)),(21,iI v122),(67,.ref 58),(68,iI (v143.length:Int)),(69,iI v166)],[(13,ag (gD v143 v166))],[(58,⟨30,4,lm ag v143⟩),(112,⟨28,1,lm (eSl ag) v123⟩),(500018,⟨75,1,lm eOmp v176⟩)],[13,58,112,500018]⟩
def s10_l6 (v1:List (List (V2 Int))) (v122:Int) (v123:List (List aa)) (v139:Int) (v143:List aa) (v166:Int) (v167:List TMp):AS:=⟨[(0,.sl (lm (eSl (eV2 (eInt .i64))) v1)),(2,.ref 112),(3,iI v139),(4,.ref 500018),(5,iI v122),(7,.ref 58),(19,.sl (lm (eSl (eV2 (eInt .i64))) v1)),(20,iI (v1.length:Int)),(21,iI v122),(67,.ref 58),(68,iI (v143.length:Int)),(69,iI v166)],[],[(58,⟨30,4,lm ag v143⟩),(112,⟨28,1,lm (eSl ag) v123⟩),(500018,⟨75,1,lm eOmp v167⟩)],[58,112,500018]⟩
def s10_l2 (v1:List (List (V2 Int))) (v122:Int) (v123:List (List aa)) (v124:List TMp) (v139 v140 v141 v142:Int) (v143:List aa):AS:=⟨[(0,.sl (lm (eSl (eV2 (eInt .i64))) v1)),(2,.ref 112),(3,iI v139),(4,.ref 500018),(5,iI v122),(7,.ref 58),(8,iI v140),(19,.sl (lm (eSl (eV2 (eInt .i64))) v1)),(20,iI (v1.length:Int)),(21,iI v122),(26,.sl (lm (eV2 (eInt .i64)) (gD v1 v122))),(27,iI v141),(28,iI v142)],[],[(58,⟨30,4,lm ag v143⟩),(112,⟨28,1,lm (eSl ag) v123⟩),(500018,⟨75,1,lm eOmp v124⟩)],[58,112,500018]⟩
def s10_l7 (v1:List (List (V2 Int))) (v121 v122:Int) (v123:List (List aa)) (v124:List TMp):AS:=⟨[(0,.sl (lm (eSl (eV2 (eInt .i64))) v1)),(2,.ref 112),(3,iI v121),(4,.ref 500018),(19,.sl (lm (eSl (eV2 (eInt .i64))) v1)),(20,iI (v1.length:Int)),(21,iI v122)],[],[(112,⟨28,1,lm (eSl ag) v123⟩),(500018,⟨75,1,lm eOmp v124⟩)],[112,500018]⟩
abbrev bN (M:Nat→Prop) (w0:Base) (r:(List (List aa))×Int) (v1:List (List (V2 Int))) (m1:Nat) (L1:Int→Int→(List (List aa))→(List TMp)→Option ((List (List aa))×Int)):Prop:=∀ {v121 v122:Int} {v123:List (List aa)} {v124:List TMp},L1 v121 v122 v123 v124=some r→LP (bh M w0) (q10 M w0 r) [.b 0,ab [1,1,1]] (cat Try.f10 p10_0) m1 (s10_l7 v1 v121 v122 v123 v124)
abbrev H10_2 (M:Nat→Prop) (w0:Base) (r:(List (List aa))×Int) (v1:List (List (V2 Int))) (v122:Int) (v123:List (List aa)) (v124:List TMp) (m1 m2:Nat) (L2:Int→Int→Int→Int→(List aa)→Option ((List (List aa))×Int)):Prop:=∀ {v139 v140 v141 v142:Int} {v143:List aa},L2 v139 v140 v141 v142 v143=some r→LP (bh M w0) (q10 M w0 r) [.b 2,ab bH,.b 1,ab aO,aK M w0 r m1,.b 0,ab [1,1,1]] (cat Try.f10 p10_5) m2 (s10_l2 v1 v122 v123 v124 v139 v140 v141 v142 v143)
abbrev H10_3 (M:Nat→Prop) (w0:Base) (r:(List (List aa))×Int) (v1:List (List (V2 Int))) (v122:Int) (v123:List (List aa)) (v124:List TMp) (v139 v141 v142:Int) (v143:List aa) (m2 m1 m3:Nat) (L3:Int→(V2 Int)→Option ((List (List aa))×Int)):Prop:=∀ {v146:Int} {v147:V2 Int},L3 v146 v147=some r→LP (bh M w0) (q10 M w0 r) [.b 4,ab p10_6,.b 3,ab cO,cb M w0 r m1 m2,.b 2,ab bH,.b 1,ab aO,aK M w0 r m1,.b 0,ab [1,1,1]] (cat Try.f10 p10_8) m3 (s10_l1 v1 v122 v123 v124 v139 v141 v142 v143 v146 v147)
abbrev dh (M:Nat→Prop) (w0:Base) (r:(List (List aa))×Int) (v1:List (List (V2 Int))) (v122:Int) (v123:List (List aa)) (v139:Int) (v143:List aa) (m1 m4:Nat) (L4:Int→(List TMp)→Option ((List (List aa))×Int)):Prop:=∀ {v166:Int} {v167:List TMp},L4 v166 v167=some r→LP (bh M w0) (q10 M w0 r) [.b 6,ab bc,.b 1,ab aO,aK M w0 r m1,.b 0,ab [1,1,1]] (cat Try.f10 p10_3) m4 (s10_l6 v1 v122 v123 v139 v143 v166 v167)
abbrev H10_5 (M:Nat→Prop) (w0:Base) (r:(List (List aa))×Int) (v1:List (List (V2 Int))) (v122:Int) (v123:List (List aa)) (v139:Int) (v143:List aa) (v166:Int) (m4 m1 m5:Nat) (L5:Int→(List TMp)→Option ((List (List aa))×Int)):Prop:=∀ {v175:Int} {v176:List TMp},L5 v175 v176=some r→LP (bh M w0) (q10 M w0 r) [.b 8,.b 7,ab bE,bt M w0 r m1 m4,.b 6,ab bc,.b 1,ab aO,aK M w0 r m1,.b 0,ab [1,1,1]] (cat Try.f10 p10_10) m5 (s10_l5 v1 v122 v123 v139 v143 v166 v175 v176)
abbrev H10_6 (M:Nat→Prop) (w0:Base) (r:(List (List aa))×Int) (v1:List (List (V2 Int))) (v122:Int) (v123:List (List aa)) (v139:Int) (v143:List aa) (v166 v175:Int) (m5 m4 m1 m6:Nat) (L6:Int→(List TMp)→Option ((List (List aa))×Int)):Prop:=∀ {v181:Int} {v182:List TMp},L6 v181 v182=some r→LP (bh M w0) (q10 M w0 r) [.b 10,.b 9,ab cr,b7 M w0 r m4 m1 m5,.b 8,.b 7,ab bE,bt M w0 r m1 m4,.b 6,ab bc,.b 1,ab aO,aK M w0 r m1,.b 0,ab [1,1,1]] (cat Try.f10 p10_12) m6 (s10_l4 v1 v122 v123 v139 v143 v166 v175 v181 v182)
variable {K:Kn} {n:Nat} {M:Nat→Prop} {w0:Base} {r:(List (List aa))×Int} {v1:List (List (V2 Int))} {v121 v122:Int} {v123:List (List aa)} {v124:List TMp} {v139 v140 v141 v142:Int} {v143:List aa} {v146:Int} {v147:V2 Int} {v166:Int} {v167:List TMp} {v175:Int} {v176 v179:List TMp} {v181:Int} {v182:List TMp} {m1:Nat} {L1:Int→Int→(List (List aa))→(List TMp)→Option ((List (List aa))×Int)} {m2:Nat} {L2:Int→Int→Int→Int→(List aa)→Option ((List (List aa))×Int)} {m3:Nat} {L3:Int→(V2 Int)→Option ((List (List aa))×Int)} {m4:Nat} {L4:Int→(List TMp)→Option ((List (List aa))×Int)} {m5:Nat} {L5:Int→(List TMp)→Option ((List (List aa))×Int)} {m6:Nat} {L6:Int→(List TMp)→Option ((List (List aa))×Int)}
theorem kT (hK:KnOk K) (hL1:bN M w0 r v1 m1 L1) (hL2:H10_2 M w0 r v1 v122 v123 v124 m1 m2 L2) (hL3:H10_3 M w0 r v1 v122 v123 v124 v139 v141 v142 v143 m2 m1 m3 L3) (h:fM K n v1 v122 v123 v124 v139 v141 v142 v143 L1 L2 L3 v146 v147=some r):VE (bh M w0) (q10 M w0 r) [ab p10_8,k10_3 M w0 r m2 m1 m3,.b 4,ab p10_6,.b 3,ab cO,cb M w0 r m1 m2,.b 2,ab bH,.b 1,ab aO,aK M w0 r m1,.b 0,ab [1,1,1]] .normal (s10_l1 v1 v122 v123 v124 v139 v141 v142 v143 v146 v147):=by
  unfold fM at h
  refine ac (ks':=[ab p10_13,ab p10_14,ab p10_15,k10_3 M w0 r m2 m1 m3,.b 4,ab p10_6,.b 3,ab cO,cb M w0 r m1 m2,.b 2,ab bH,.b 1,ab aO,aK M w0 r m1,.b 0,ab [1,1,1]]) 2 (ai 2 ?_)
  obtain ⟨h231,h⟩:=aj h
  refine ak (ba 500018 1 eOmp h231) (ot_ldm (L:=v124) (id:=500018) (et:=75) (T:=75) (x:=(.tmp 34)) (decide_eq_true (aw h231).2) (aB 5 1 (ot_lk (L:=v124) (id:=500018) (et:=75) (T:=75) (x:=(.tmp 35)) (y:=(.tmp 36)) (n:=v146) (decide_eq_true (aw h231).2) (af ?_))))
  obtain ⟨v148,h232,h⟩:=bind_some h
  have h232:=Option.some.inj h232
  refine aV (ks':=[ab p10_14,ab p10_15,k10_3 M w0 r m2 m1 m3,.b 4,ab p10_6,.b 3,ab cO,cb M w0 r m1 m2,.b 2,ab bH,.b 1,ab aO,aK M w0 r m1,.b 0,ab [1,1,1]]) 0 ⟨[(0,.sl (lm (eSl (eV2 (eInt .i64))) v1)),(2,.ref 112),(3,iI v139),(4,.ref 500018),(5,iI v122),(7,.ref 58),(8,iI v146),(10,.ptr 10 0),(19,.sl (lm (eSl (eV2 (eInt .i64))) v1)),(20,iI (v1.length:Int)),(21,iI v122),(26,.sl (lm (eV2 (eInt .i64)) (gD v1 v122))),(27,iI v141),(28,iI v142),(37,.bool v148)],[(10,(eV2 (eInt .i64)) v147)],[(58,⟨30,4,lm ag v143⟩),(112,⟨28,1,lm (eSl ag) v123⟩),(500018,⟨75,1,lm eOmp v124⟩)],[10,58,112,500018]⟩ ?_ (by subst h232; kernel_rfl)
  rcases am h with ⟨h233,h⟩ | ⟨h233,h⟩
  ·
   exact ah 37 h233 (ae 5 (aN (hL3 h)))
  ·
   refine ah 37 h233 (ac (ks':=[ab p10_16,ab p10_17,.b 3,ab cO,cb M w0 r m1 m2,.b 2,ab bH,.b 1,ab aO,aK M w0 r m1,.b 0,ab [1,1,1]]) 6 (ai 6 (ak (aF (eSl (eV2 (eInt .i64))) v1) (af ?_))))
   obtain ⟨v149,h234,h⟩:=bind_some h
   have h234:=Option.some.inj h234
   refine aV (ks':=[ab p10_18,ab p10_19,.b 3,ab cO,cb M w0 r m1 m2,.b 2,ab bH,.b 1,ab aO,aK M w0 r m1,.b 0,ab [1,1,1]]) 1 ⟨[(0,.sl (lm (eSl (eV2 (eInt .i64))) v1)),(2,.ref 112),(3,iI v139),(4,.ref 500018),(5,iI v122),(7,.ref 58),(8,iI v146),(11,.ptr 11 0),(19,.sl (lm (eSl (eV2 (eInt .i64))) v1)),(20,iI (v1.length:Int)),(21,iI v122),(26,.sl (lm (eV2 (eInt .i64)) (gD v1 v122))),(27,iI v141),(28,iI v142)],[(11,ag (⟨v122,v146,v149,(min (max v147.a1 1) 100)⟩:aa))],[(58,⟨30,4,lm ag v143⟩),(112,⟨28,1,lm (eSl ag) v123⟩),(500018,⟨75,1,lm eOmp v124⟩)],[11,58,112,500018]⟩ ?_ (by subst h234; kernel_rfl)
   refine ai 3 ?_
   obtain ⟨h235,h⟩:=aj h
   exact ak (y_app 58 58 30 4 ag (rfl) (ci) h235) (af (ae 5 (aN (hL2 h))))
theorem kw (hK:KnOk K) (hL1:bN M w0 r v1 m1 L1) (hL2:H10_2 M w0 r v1 v122 v123 v124 m1 m2 L2) (m:Nat):H10_3 M w0 r v1 v122 v123 v124 v139 v141 v142 v143 m2 m1 m (fO K n v1 v122 v123 v124 v139 v141 v142 v143 L1 L2 m):=by
  induction m with
 | zero=>intro v146 v147 h; cases h
 | succ m ih=>intro v146 v147 h; have h:fM K n v1 v122 v123 v124 v139 v141 v142 v143 L1 L2 (fO K n v1 v122 v123 v124 v139 v141 v142 v143 L1 L2 m) v146 v147=some r:=h; exact aM (kT hK hL1 hL2 ih h)
theorem kC (hK:KnOk K) (hL1:bN M w0 r v1 m1 L1) (hL4:dh M w0 r v1 v122 v123 v139 v143 m1 m4 L4) (hL5:H10_5 M w0 r v1 v122 v123 v139 v143 v166 m4 m1 m5 L5) (hL6:H10_6 M w0 r v1 v122 v123 v139 v143 v166 v175 m5 m4 m1 m6 L6) (h:gc K n v1 v122 v123 v139 v143 v166 v175 L1 L4 L5 L6 v181 v182=some r):VE (bh M w0) (q10 M w0 r) [ab p10_12,k10_6 M w0 r m5 m4 m1 m6,.b 10,.b 9,ab cr,b7 M w0 r m4 m1 m5,.b 8,.b 7,ab bE,bt M w0 r m1 m4,.b 6,ab bc,.b 1,ab aO,aK M w0 r m1,.b 0,ab [1,1,1]] .normal (s10_l4 v1 v122 v123 v139 v143 v166 v175 v181 v182):=by
  unfold gc at h
  obtain ⟨v183,h292,h⟩:=bind_some h
  have h292:=Option.some.inj h292
  refine aV (ks':=[ab p10_20,ab p10_21,k10_6 M w0 r m5 m4 m1 m6,.b 10,.b 9,ab cr,b7 M w0 r m4 m1 m5,.b 8,.b 7,ab bE,bt M w0 r m1 m4,.b 6,ab bc,.b 1,ab aO,aK M w0 r m1,.b 0,ab [1,1,1]]) 3 ⟨[(0,.sl (lm (eSl (eV2 (eInt .i64))) v1)),(2,.ref 112),(3,iI v139),(4,.ref 500018),(5,iI v122),(7,.ref 58),(13,.ptr 13 0),(14,iI v175),(15,iI v181),(19,.sl (lm (eSl (eV2 (eInt .i64))) v1)),(20,iI (v1.length:Int)),(21,iI v122),(67,.ref 58),(68,iI (v143.length:Int)),(69,iI v166),(100,.bool v183)],[(13,ag (gD v143 v166))],[(58,⟨30,4,lm ag v143⟩),(112,⟨28,1,lm (eSl ag) v123⟩),(500018,⟨75,1,lm eOmp v182⟩)],[13,58,112,500018]⟩ ?_ (by subst h292; kernel_rfl)
  rcases am h with ⟨h293,h⟩ | ⟨h293,h⟩
  ·
   refine ah 100 h293 (ac (ks':=[ab p10_22,.b 11,ab p10_23,k10_6 M w0 r m5 m4 m1 m6,.b 10,.b 9,ab cr,b7 M w0 r m4 m1 m5,.b 8,.b 7,ab bE,bt M w0 r m1 m4,.b 6,ab bc,.b 1,ab aO,aK M w0 r m1,.b 0,ab [1,1,1]]) 4 (ai 2 ?_))
   obtain ⟨h294,h⟩:=aj h
   refine ak (ba 500018 1 eOmp h294) (ot_ldm (L:=v182) (id:=500018) (et:=75) (T:=75) (x:=(.tmp 105)) (decide_eq_true (aw h294).2) (aB 5 1 ?_))
   obtain ⟨h295,h⟩:=aj h
   exact ot_mup (L:=v182) (id:=500018) (et:=75) (T:=75) (x:=(.tmp 106)) (y:=(.tmp 107)) (z:=(.const (.bool true))) (n:=v181) (b:=true) (decide_eq_true (aw h294).2) h295 (af (ae 2 (aN (hL6 h))))
  ·
   exact ah 100 h293 (ae 7 (aN (hL5 h)))
theorem jN (hK:KnOk K) (hL1:bN M w0 r v1 m1 L1) (hL4:dh M w0 r v1 v122 v123 v139 v143 m1 m4 L4) (hL5:H10_5 M w0 r v1 v122 v123 v139 v143 v166 m4 m1 m5 L5) (m:Nat):H10_6 M w0 r v1 v122 v123 v139 v143 v166 v175 m5 m4 m1 m (gx K n v1 v122 v123 v139 v143 v166 v175 L1 L4 L5 m):=by
  induction m with
 | zero=>intro v181 v182 h; cases h
 | succ m ih=>intro v181 v182 h; have h:gc K n v1 v122 v123 v139 v143 v166 v175 L1 L4 L5 (gx K n v1 v122 v123 v139 v143 v166 v175 L1 L4 L5 m) v181 v182=some r:=h; exact aM (kC hK hL1 hL4 hL5 ih h)
theorem iT (hK:KnOk K) (hL1:bN M w0 r v1 m1 L1) (hL4:dh M w0 r v1 v122 v123 v139 v143 m1 m4 L4) (hL5:H10_5 M w0 r v1 v122 v123 v139 v143 v166 m4 m1 m5 L5) (h:ga K n v1 v122 v123 v139 v143 v166 v175 L1 L4 L5 v179=some r):VE (bh M w0) (q10 M w0 r) [ab p10_24,.b 9,ab cr,b7 M w0 r m4 m1 m5,.b 8,.b 7,ab bE,bt M w0 r m1 m4,.b 6,ab bc,.b 1,ab aO,aK M w0 r m1,.b 0,ab [1,1,1]] .normal (s10_j3 v1 v122 v123 v139 v143 v166 v175 v179):=by
  unfold ga at h
  exact ae 3 (aL (p:=p10_25) n (jN hK hL1 hL4 hL5 n h))
theorem jy (hK:KnOk K) (hL1:bN M w0 r v1 m1 L1) (hL4:dh M w0 r v1 v122 v123 v139 v143 m1 m4 L4) (hL5:H10_5 M w0 r v1 v122 v123 v139 v143 v166 m4 m1 m5 L5) (h:gz K n v1 v122 v123 v139 v143 v166 L1 L4 L5 v175 v176=some r):VE (bh M w0) (q10 M w0 r) [ab p10_10,b7 M w0 r m4 m1 m5,.b 8,.b 7,ab bE,bt M w0 r m1 m4,.b 6,ab bc,.b 1,ab aO,aK M w0 r m1,.b 0,ab [1,1,1]] .normal (s10_l5 v1 v122 v123 v139 v143 v166 v175 v176):=by
  unfold gz at h
  obtain ⟨v177,h282,h⟩:=bind_some h
  have h282:=Option.some.inj h282
  refine aV (ks':=[ab p10_26,ab p10_27,b7 M w0 r m4 m1 m5,.b 8,.b 7,ab bE,bt M w0 r m1 m4,.b 6,ab bc,.b 1,ab aO,aK M w0 r m1,.b 0,ab [1,1,1]]) 3 ⟨[(0,.sl (lm (eSl (eV2 (eInt .i64))) v1)),(2,.ref 112),(3,iI v139),(4,.ref 500018),(5,iI v122),(7,.ref 58),(13,.ptr 13 0),(14,iI v175),(19,.sl (lm (eSl (eV2 (eInt .i64))) v1)),(20,iI (v1.length:Int)),(21,iI v122),(67,.ref 58),(68,iI (v143.length:Int)),(69,iI v166),(80,.bool v177)],[(13,ag (gD v143 v166))],[(58,⟨30,4,lm ag v143⟩),(112,⟨28,1,lm (eSl ag) v123⟩),(500018,⟨75,1,lm eOmp v176⟩)],[13,58,112,500018]⟩ ?_ (by subst h282; kernel_rfl)
  rcases am h with ⟨h283,h⟩ | ⟨h283,h⟩
  ·
   refine ah 80 h283 (ac (ks':=[ab p10_28,ab p10_29,ab p10_24,.b 9,ab cr,b7 M w0 r m4 m1 m5,.b 8,.b 7,ab bE,bt M w0 r m1 m4,.b 6,ab bc,.b 1,ab aO,aK M w0 r m1,.b 0,ab [1,1,1]]) 6 (ai 2 ?_))
   obtain ⟨h284,h⟩:=aj h
   refine ak (ba 500018 1 eOmp h284) (ot_ldm (L:=v176) (id:=500018) (et:=75) (T:=75) (x:=(.tmp 85)) (decide_eq_true (aw h284).2) (ot_mnil true (L:=v176) (id:=500018) (op:=.eql) (et:=75) (T:=75) (T':=75) (x:=(.tmp 86)) (y:=(.const (.map none))) (decide_eq_true (aw h284).2) (af ?_)))
   obtain ⟨v178,h285,h⟩:=bind_some h
   have h285:=Option.some.inj h285
   refine aV (ks':=[ab p10_29,ab p10_24,.b 9,ab cr,b7 M w0 r m4 m1 m5,.b 8,.b 7,ab bE,bt M w0 r m1 m4,.b 6,ab bc,.b 1,ab aO,aK M w0 r m1,.b 0,ab [1,1,1]]) 0 ⟨[(0,.sl (lm (eSl (eV2 (eInt .i64))) v1)),(2,.ref 112),(3,iI v139),(4,.ref 500018),(5,iI v122),(7,.ref 58),(13,.ptr 13 0),(14,iI v175),(19,.sl (lm (eSl (eV2 (eInt .i64))) v1)),(20,iI (v1.length:Int)),(21,iI v122),(67,.ref 58),(68,iI (v143.length:Int)),(69,iI v166),(87,.bool v178)],[(13,ag (gD v143 v166))],[(58,⟨30,4,lm ag v143⟩),(112,⟨28,1,lm (eSl ag) v123⟩),(500018,⟨75,1,lm eOmp v176⟩)],[13,58,112,500018]⟩ ?_ (by subst h285; kernel_rfl)
   rcases am h with ⟨h286,h⟩ | ⟨h286,h⟩
   ·
    refine ah 87 h286 (ac (ks':=[ab p10_30,ab p10_24,.b 9,ab cr,b7 M w0 r m4 m1 m5,.b 8,.b 7,ab bE,bt M w0 r m1 m4,.b 6,ab bc,.b 1,ab aO,aK M w0 r m1,.b 0,ab [1,1,1]]) 1 (ai 2 ?_))
    obtain ⟨h287,h⟩:=aj h
    exact ot_mms (L:=v176) (id:=500018) (d1:=90) (d2:=91) (et:=75) (T:=75) (T1:=74) (T2:=75) (x:=(.tmp 88)) (y:=(.tmp 89)) (j:=v175) h287 (af (ae 0 (iT hK hL1 hL4 hL5 h)))
   ·
    exact ah 87 h286 (ae 2 (iT hK hL1 hL4 hL5 h))
  ·
   exact ah 80 h283 (ae 7 (aN (hL4 h)))
theorem jV (hK:KnOk K) (hL1:bN M w0 r v1 m1 L1) (hL4:dh M w0 r v1 v122 v123 v139 v143 m1 m4 L4) (m:Nat):H10_5 M w0 r v1 v122 v123 v139 v143 v166 m4 m1 m (gG K n v1 v122 v123 v139 v143 v166 L1 L4 m):=by
  induction m with
 | zero=>intro v175 v176 h; cases h
 | succ m ih=>intro v175 v176 h; have h:gz K n v1 v122 v123 v139 v143 v166 L1 L4 (gG K n v1 v122 v123 v139 v143 v166 L1 L4 m) v175 v176=some r:=h; exact aM (jy hK hL1 hL4 ih h)
theorem jZ (hK:KnOk K) (hL1:bN M w0 r v1 m1 L1) (hL4:dh M w0 r v1 v122 v123 v139 v143 m1 m4 L4) (h:gg K n v1 v122 v123 v139 v143 L1 L4 v166 v167=some r):VE (bh M w0) (q10 M w0 r) [ab p10_3,bt M w0 r m1 m4,.b 6,ab bc,.b 1,ab aO,aK M w0 r m1,.b 0,ab [1,1,1]] .normal (s10_l6 v1 v122 v123 v139 v143 v166 v167):=by
  unfold gg at h
  refine ac (ks':=[ab p10_31,ab p10_32,bt M w0 r m1 m4,.b 6,ab bc,.b 1,ab aO,aK M w0 r m1,.b 0,ab [1,1,1]]) 3 ?_
  rcases am h with ⟨h266,h⟩ | ⟨h266,h⟩
  ·
   refine ah 70 h266 (ac (ks':=[ab p10_33,ab p10_34,.b 7,ab bE,bt M w0 r m1 m4,.b 6,ab bc,.b 1,ab aO,aK M w0 r m1,.b 0,ab [1,1,1]]) 5 (ai 0 ?_))
   obtain ⟨h267,h⟩:=aj h
   exact ak (ba 58 4 ag h267) (ak (aJ 30 0 ag ag (aw h267).2 (fun _=>rfl)) (af (ae 3 (aL (p:=p10_35) n (jV hK hL1 hL4 n h)))))
  ·
   refine ah 70 h266 (ac (ks':=[ab bc,.b 1,ab aO,aK M w0 r m1,.b 0,ab [1,1,1]]) 5 (ai 2 (ot_f 58 (aB 3 1 ?_))))
   obtain ⟨h296,h⟩:=aj h
   exact ak (y_app 112 112 28 1 (eSl ag) (rfl) (fun _=>rfl) h296) (af (ae 2 (aN (hL1 h))))
theorem kR (hK:KnOk K) (hL1:bN M w0 r v1 m1 L1) (m:Nat):dh M w0 r v1 v122 v123 v139 v143 m1 m (gK K n v1 v122 v123 v139 v143 L1 m):=by
  induction m with
 | zero=>intro v166 v167 h; cases h
 | succ m ih=>intro v166 v167 h; have h:gg K n v1 v122 v123 v139 v143 L1 (gK K n v1 v122 v123 v139 v143 L1 m) v166 v167=some r:=h; exact aM (jZ hK hL1 ih h)
theorem ky (hK:KnOk K) (hL1:bN M w0 r v1 m1 L1) (hL2:H10_2 M w0 r v1 v122 v123 v124 m1 m2 L2) (h:fN K n v1 v122 v123 v124 L1 L2 v139 v140 v141 v142 v143=some r):VE (bh M w0) (q10 M w0 r) [ab p10_5,cb M w0 r m1 m2,.b 2,ab bH,.b 1,ab aO,aK M w0 r m1,.b 0,ab [1,1,1]] .normal (s10_l2 v1 v122 v123 v124 v139 v140 v141 v142 v143):=by
  unfold fN at h
  refine ac (ks':=[ab p10_36,ab p10_37,cb M w0 r m1 m2,.b 2,ab bH,.b 1,ab aO,aK M w0 r m1,.b 0,ab [1,1,1]]) 3 ?_
  rcases am h with ⟨h225,h⟩ | ⟨h225,h⟩
  ·
   refine ah 29 h225 (ac (ks':=[ab p10_38,ab p10_39,.b 3,ab cO,cb M w0 r m1 m2,.b 2,ab bH,.b 1,ab aO,aK M w0 r m1,.b 0,ab [1,1,1]]) 5 (ai 0 ?_))
   obtain ⟨h226,h⟩:=aj h
   exact ak (aY (eV2 (eInt .i64)) (eV2 (eInt .i64)) (sz:=2) h226 (fun _=>rfl) (fun _=>rfl)) (af (ae 2 (aL (p:=p10_40) n (kw hK hL1 hL2 n h))))
  ·
   exact ah 29 h225 (ac (ks':=[ab p10_41,ab p10_42,ab bc,.b 1,ab aO,aK M w0 r m1,.b 0,ab [1,1,1]]) 7 (ai 1 (ak (aF ag v143) (af (ae 1 (aL (p:=p10_43) n (kR hK hL1 n h)))))))
theorem lr (hK:KnOk K) (hL1:bN M w0 r v1 m1 L1) (m:Nat):H10_2 M w0 r v1 v122 v123 v124 m1 m (fR K n v1 v122 v123 v124 L1 m):=by
  induction m with
 | zero=>intro v139 v140 v141 v142 v143 h; cases h
 | succ m ih=>intro v139 v140 v141 v142 v143 h; have h:fN K n v1 v122 v123 v124 L1 (fR K n v1 v122 v123 v124 L1 m) v139 v140 v141 v142 v143=some r:=h; exact aM (ky hK hL1 ih h)
theorem jL (hK:KnOk K) (hL1:bN M w0 r v1 m1 L1) (h:gk K n v1 L1 v121 v122 v123 v124=some r):VE (bh M w0) (q10 M w0 r) [ab p10_0,aK M w0 r m1,.b 0,ab [1,1,1]] .normal (s10_l7 v1 v121 v122 v123 v124):=by
  unfold gk at h
  refine ac (ks':=[ab p10_44,ab p10_45,aK M w0 r m1,.b 0,ab [1,1,1]]) 3 ?_
  rcases am h with ⟨h199,h⟩ | ⟨h199,h⟩
  ·
   refine ah 22 h199 (ac (ks':=[ab p10_46,ab p10_47,.b 1,ab aO,aK M w0 r m1,.b 0,ab [1,1,1]]) 5 (ai 1 ?_))
   obtain ⟨h200,h⟩:=aj h
   exact ak (aY (eSl (eV2 (eInt .i64))) (eSl (eV2 (eInt .i64))) h200 (fun _=>rfl) (fun _=>rfl)) (af (ac (ks':=[ab p10_48,ab p10_49,ab bH,.b 1,ab aO,aK M w0 r m1,.b 0,ab [1,1,1]]) 6 (ai 1 (ak (aF (eV2 (eInt .i64)) (gD v1 v122)) (af (ac (ks':=[ab p10_50,.b 2,ab bH,.b 1,ab aO,aK M w0 r m1,.b 0,ab [1,1,1]]) 1 (bk [0,2,3,4,5,7,8,19,20,21,26,27,28] [] [112,500018] (ve_w 58 7 30 4 (ae 0 (aL (p:=p10_50) n (lr hK hL1 n h)))))))))))
  ·
   refine ah 22 h199 (aD 8 ?_)
   cases h
   exact cD
theorem kn (hK:KnOk K) (m:Nat):bN M w0 r v1 m (fU K n v1 m):=by
  induction m with
 | zero=>intro v121 v122 v123 v124 h; cases h
 | succ m ih=>intro v121 v122 v123 v124 h; have h:gk K n v1 (fU K n v1 m) v121 v122 v123 v124=some r:=h; exact aM (jL hK ih h)
theorem kj (hK:KnOk K) (h:iK K n v1=some r):ACalls Try.prog 10 [.sl (lm (eSl (eV2 (eInt .i64))) v1)] (fun v s=>v = .tup [.ref 112,iI r.2]∧look 112 s.r=some ⟨28,1,lm (eSl ag) r.1⟩):=by
  refine aU (cat Try.f10 []) Try.func10 Try.ntmps10 fun M w0=>(aP ⟨[(0,.sl (lm (eSl (eV2 (eInt .i64))) v1))],[],[],[]⟩ ?_)
  unfold iK at h
  refine ac (ks':=[ab [1,0],ab [1,1]]) 3 (ai 1 (ak (aF (eSl (eV2 (eInt .i64))) v1) ?_))
  obtain ⟨h1,h⟩:=aj h
  refine cz eNilm (none:TMp) 74 (.tmp 17) (.tmp 17) 18 (e:=75) (sz:=1) (zc:=[.nilm]) (kd:=.i64) (kd':=.i64) h1 (ot_m 18 500018 (ot_om 500018 ((v1.length:Int)).toNat 75 (af ?_)))
  obtain ⟨v2,h2,h⟩:=bind_some h
  have h2:=Option.some.inj h2
  refine aV (ks':=[ab p10_51,ab p10_52,ab [1,1,1]]) 2 ⟨[(0,.sl (lm (eSl (eV2 (eInt .i64))) v1)),(2,.nils),(3,iI 0),(4,.ref 500018)],[],[(500018,⟨75,1,lm eOmp v2⟩)],[500018]⟩ ?_ (by subst h2; kernel_rfl)
  exact ai 1 (ak (aF (eSl (eV2 (eInt .i64))) v1) (af (ac (ks':=[ab p10_53,.b 0,ab [1,1,1]]) 1 (bk [0,2,3,4,19,20,21] [] [500018] (ve_w 112 2 28 1 (ae 0 (aL (p:=p10_53) n (kn hK n h))))))))
end
noncomputable section
variable {K:Kn} {n:Nat} {M:Nat→Prop} {w0:Base} {r v1:Int} 
theorem eH (hK:KnOk K) (h:cJ K n v1=some r):ACalls Try.prog 26 [iI v1] (fun v _=>v=iI r):=by
  refine aU (cat Try.f26 []) Try.func26 Try.ntmps26 fun M w0=>(aP ⟨[(0,iI v1)],[],[],[]⟩ ?_)
  unfold cJ at h
  refine aD 5 ?_
  cases h
  exact aQ
end
noncomputable section
variable {K:Kn} {n:Nat} {M:Nat→Prop} {w0:Base} {r v1 v2:Int} 
theorem iD (hK:KnOk K) (h:ff K n v1 v2=some r):ACalls Try.prog 57 [iI v1,iI v2] (fun v _=>v=iI r):=by
  refine aU (cat Try.f57 []) Try.func57 Try.ntmps57 fun M w0=>(aP ⟨[(0,iI v1),(1,iI v2)],[],[],[]⟩ ?_)
  unfold ff at h
  refine aD 5 ?_
  cases h
  exact aQ
end
def dZ:=pth 0 110011
def p80_1:=pth 0 1100100100
def p80_2:=pth 0 110010010001
def p80_3:=pth 0 11001001001
def p80_4:=pth 0 1100100100100
def p80_5:=pth 0 110010010011
def p80_6:=pth 0 110010010000
def p80_7:=pth 0 110001
def p80_8:=pth 0 11001
def p80_9:=pth 0 110010010
noncomputable section
abbrev df (M:Nat→Prop) (w0:Base):Cx:=⟨Try.prog,53,M,w0⟩
abbrev q80 (M:Nat→Prop) (w0:Base) (r:List Int):=bodyPost Try.prog Try.f80 (RetQ M w0 (fun v s=>v = .tup []∧look 0 s.r=some ⟨3,1,lm (eInt .i64) r⟩))
abbrev cK (M:Nat→Prop) (w0:Base) (r:List Int) (m1:Nat):Kont:=kl (df M w0) (q80 M w0 r) [.b 0] (cat Try.f80 [1,0,0]) m1
abbrev bo (p:List Nat):Kont:=.c (cat Try.f80 p)
abbrev k80_2 (M:Nat→Prop) (w0:Base) (r:List Int) (m1 m2:Nat):Kont:=kl (df M w0) (q80 M w0 r) [.b 2,.b 1,bo dZ,cK M w0 r m1,.b 0] (cat Try.f80 p80_1) m2
def s80_j1 (v2 v3:Int) (v4:Fv) (v11 v15:Int) (v16:List Int) (v18:Bool):AS:=⟨[(0,.ref 0),(1,iI v2),(2,iI v3),(3,.fn v4.id v4.caps),(8,iI v11),(9,iI v15),(34,.bool v18)],[],[(0,⟨3,1,lm (eInt .i64) v16⟩)],[0,1000000,0]⟩
def s80_l2 (v2 v3:Int) (v4:Fv) (v11 v15:Int) (v16:List Int):AS:=⟨[(0,.ref 0),(1,iI v2),(2,iI v3),(3,.fn v4.id v4.caps),(8,iI v11),(9,iI v15)],[],[(0,⟨3,1,lm (eInt .i64) v16⟩)],[0,1000000,0]⟩
def s80_l3 (v2 v3:Int) (v4:Fv) (v11:Int) (v12:List Int):AS:=⟨[(0,.ref 0),(1,iI v2),(2,iI v3),(3,.fn v4.id v4.caps),(8,iI v11)],[],[(0,⟨3,1,lm (eInt .i64) v12⟩)],[0,1000000,0]⟩
abbrev H80_1 (M:Nat→Prop) (w0:Base) (r:List Int) (v2 v3:Int) (v4:Fv) (m1:Nat) (L1:Int→(List Int)→Option (List Int)):Prop:=∀ {v11:Int} {v12:List Int},L1 v11 v12=some r→LP (df M w0) (q80 M w0 r) [.b 0] (cat Try.f80 [1,0,0]) m1 (s80_l3 v2 v3 v4 v11 v12)
abbrev H80_2 (M:Nat→Prop) (w0:Base) (r:List Int) (v2 v3:Int) (v4:Fv) (v11:Int) (m1 m2:Nat) (L2:Int→(List Int)→Option (List Int)):Prop:=∀ {v15:Int} {v16:List Int},L2 v15 v16=some r→LP (df M w0) (q80 M w0 r) [.b 2,.b 1,bo dZ,cK M w0 r m1,.b 0] (cat Try.f80 p80_1) m2 (s80_l2 v2 v3 v4 v11 v15 v16)
variable {K:Kn} {n:Nat} {M:Nat→Prop} {w0:Base} {r v1:List Int} {v2 v3:Int} {v4:Fv} {v11:Int} {v12:List Int} {v15:Int} {v16:List Int} {v18:Bool} {m1:Nat} {L1:Int→(List Int)→Option (List Int)} {m2:Nat} {L2:Int→(List Int)→Option (List Int)}
theorem i9 (hK:KnOk K) (hL1:H80_1 M w0 r v2 v3 v4 m1 L1) (hL2:H80_2 M w0 r v2 v3 v4 v11 m1 m2 L2) (h:dN K n v2 v3 v4 v11 v15 v16 L1 L2 v18=some r):VE (df M w0) (q80 M w0 r) [bo p80_2,bo p80_3,k80_2 M w0 r m1 m2,.b 2,.b 1,bo dZ,cK M w0 r m1,.b 0] .normal (s80_j1 v2 v3 v4 v11 v15 v16 v18):=by
  unfold dN at h
  rcases am h with ⟨h34,h⟩ | ⟨h34,h⟩
  ·
   refine ah 34 h34 (ac (ks':=[bo p80_4,.b 3,bo p80_5,k80_2 M w0 r m1 m2,.b 2,.b 1,bo dZ,cK M w0 r m1,.b 0]) 4 (bk [0,1,2,3,8,9] [] [0] ?_))
   obtain ⟨h35,h⟩:=aj h
   obtain ⟨h36,h⟩:=aj h
   obtain ⟨h37,h⟩:=aj h
   obtain ⟨h38,h⟩:=aj h
   exact bf 2 (nu 37 [.ref 0,iI v15,.ref 0,iI v15,iI (w64 (v15 - 1)),.ref 0,iI v15,iI (w64 (v15 - 1)),.eptr 0 1 (((w64 (v15 - 1))).toNat) 0,iI (gD v16 ((w64 (v15 - 1)))),.ref 0,iI v15,.eptr 0 1 (v15.toNat) 0,iI (gD v16 v15),.eptr 0 1 (v15.toNat) 0,.eptr 0 1 (((w64 (v15 - 1))).toNat) 0]) [] [] [strS 0 ⟨3,1,lm (eInt .i64) (List.set v16 v15.toNat (gD v16 ((w64 (v15 - 1)))))⟩,strS 0 ⟨3,1,lm (eInt .i64) (List.set (List.set v16 v15.toNat (gD v16 ((w64 (v15 - 1))))) ((w64 (v15 - 1))).toNat (gD v16 v15))⟩] (az [.v 0 1,.v 0 1,.v 0 2,.v 0 2,.v 0 2,.v 0 1,.v 0 1,.v 0 1] (d_v (aH 0 1 (eInt .i64) (L:=v16) h35) (d_v (aJ 3 0 (eInt .i64) (eInt .i64) (aw h35).2 (fun _=>rfl)) (az [.v 0 2,.v 0 2] (av (k_v (lo:=0) (k:=2) (br ⟨(by kernel_rfl),(bD (aH 0 1 (eInt .i64) (L:=v16) h36) (by kernel_rfl))⟩ (br ⟨(by kernel_rfl),(bD (aH 0 1 (eInt .i64) (L:=(List.set v16 v15.toNat (gD v16 ((w64 (v15 - 1)))))) h36) (by kernel_rfl))⟩ cE))) (d_v (aJ 3 0 (eInt .i64) (eInt .i64) (aw h37).2 (fun _=>rfl)) (d_v (aH 0 1 (eInt .i64) (L:=v16) h37) (av (e_s (m:=0) (bd 0 3 1 0 (eInt .i64) (eInt .i64) (gD v16 ((w64 (v15 - 1)))) (aw h37).2 (fun _=>rfl))) (av (e_v (lo:=1) (aH 0 1 (eInt .i64) (L:=(List.set v16 v15.toNat (gD v16 ((w64 (v15 - 1)))))) h38)) (av (e_s (m:=1) (bd 0 3 1 0 (eInt .i64) (eInt .i64) (gD v16 v15) (aw h38).2 (fun _=>rfl))) bi)))))))))) (ae 2 (aN (hL2 h)))
  ·
   exact ah 34 h34 (ae 7 (aN (hL1 h)))
theorem km (hK:KnOk K) (hL1:H80_1 M w0 r v2 v3 v4 m1 L1) (hL2:H80_2 M w0 r v2 v3 v4 v11 m1 m2 L2) (h:fG K n v2 v3 v4 v11 L1 L2 v15 v16=some r):VE (df M w0) (q80 M w0 r) [bo p80_1,k80_2 M w0 r m1 m2,.b 2,.b 1,bo dZ,cK M w0 r m1,.b 0] .normal (s80_l2 v2 v3 v4 v11 v15 v16):=by
  unfold fG at h
  refine ac (ks':=[bo p80_6,bo p80_2,bo p80_3,k80_2 M w0 r m1 m2,.b 2,.b 1,bo dZ,cK M w0 r m1,.b 0]) 2 (bk [0,1,2,3,8,9] [] [0] ?_)
  rcases am h with ⟨h30,h⟩ | ⟨h30,h⟩
  ·
   obtain ⟨h31,h⟩:=aj h
   obtain ⟨h32,h⟩:=aj h
   obtain ⟨v17,h33,h⟩:=bind_some h
   exact bf 0 (nu 18 [iI v15,iI v2,.bool (decide (v15>v2)),.bool true,.fn v4.id v4.caps,.ref 0,iI v15,.eptr 0 1 (v15.toNat) 0,iI (gD v16 v15),.ref 0,iI v15,iI (w64 (v15 - 1)),.eptr 0 1 (((w64 (v15 - 1))).toNat) 0,iI (gD v16 ((w64 (v15 - 1)))),iI v17,.bool (decide (v17<0)),.bool (decide (v17<0))]) [] [] [] (az (vz 3) (av (e_b 0 21 (e:=(decide (v15>v2))) (b:=true) h30) (az (vz 3) (d_v (aH 0 1 (eInt .i64) (L:=v16) h31) (d_v (aJ 3 0 (eInt .i64) (eInt .i64) (aw h31).2 (fun _=>rfl)) (az (vz 3) (d_v (aH 0 1 (eInt .i64) (L:=v16) h32) (d_v (aJ 3 0 (eInt .i64) (eInt .i64) (aw h32).2 (fun _=>rfl)) (av (e_c 0 1 32 (hK.bC h33).2 (hK.bC h33).1) (az (vz 2) bi)))))))))) (ae 0 (i9 hK hL1 hL2 h))
  ·
   exact bf 0 (nu 18 [iI v15,iI v2,.bool (decide (v15>v2)),.bool false,.tup [],.tup [],.tup [],.tup [],.tup [],.tup [],.tup [],.tup [],.tup [],.tup [],.tup [],.tup [],.bool false]) [] [] [] (az (vz 3) (av (e_b 0 21 (e:=(decide (v15>v2))) (b:=false) h30) (av (bQ 0 1) (av (bQ 0 1) (av (bQ 0 1) (av (bQ 0 1) (av (bQ 0 1) (av (bQ 0 1) (av (bQ 0 1) (av (bQ 0 1) (av (bQ 0 1) (av (bQ 0 1) (av (bQ 0 1) (av (bQ 0 1) (az [.v 0 1] bi))))))))))))))) (ae 0 (i9 hK hL1 hL2 h))
theorem lj (hK:KnOk K) (hL1:H80_1 M w0 r v2 v3 v4 m1 L1) (m:Nat):H80_2 M w0 r v2 v3 v4 v11 m1 m (d6 K n v2 v3 v4 v11 L1 m):=by
  induction m with
 | zero=>intro v15 v16 h; cases h
 | succ m ih=>intro v15 v16 h; have h:fG K n v2 v3 v4 v11 L1 (d6 K n v2 v3 v4 v11 L1 m) v15 v16=some r:=h; exact aM (km hK hL1 ih h)
theorem lp (hK:KnOk K) (hL1:H80_1 M w0 r v2 v3 v4 m1 L1) (h:dS K n v2 v3 v4 L1 v11 v12=some r):VE (df M w0) (q80 M w0 r) [bo [1,0,0],cK M w0 r m1,.b 0] .normal (s80_l3 v2 v3 v4 v11 v12):=by
  unfold dS at h
  refine ac (ks':=[bo p80_7,bo p80_8,cK M w0 r m1,.b 0]) 3 ?_
  rcases am h with ⟨h20,h⟩ | ⟨h20,h⟩
  ·
   exact ah 14 h20 (ae 7 (aL (p:=p80_9) n (lj hK hL1 n h)))
  ·
   refine ah 14 h20 (ac (ks':=[]) 5 (ef ?_))
   cases h
   exact cD
theorem j7 (hK:KnOk K) (m:Nat):H80_1 M w0 r v2 v3 v4 m (cN K n v2 v3 v4 m):=by
  induction m with
 | zero=>intro v11 v12 h; cases h
 | succ m ih=>intro v11 v12 h; have h:dS K n v2 v3 v4 (cN K n v2 v3 v4 m) v11 v12=some r:=h; exact aM (lp hK ih h)
theorem jg (hK:KnOk K) (h:dJ K n v1 v2 v3 v4=some r):AIO Try.prog 80 [.ref 0,iI v2,iI v3,.fn v4.id v4.caps] 0 ⟨3,1,lm (eInt .i64) v1⟩ (fun v s=>v = .tup []∧look 0 s.r=some ⟨3,1,lm (eInt .i64) r⟩):=by
  refine dH (c:=cat Try.f80 []) Try.func80 (by kernel_rfl) _ Try.ntmps80 (of_decide_eq_true (by kernel_rfl)) fun M w0=>(aP ⟨[(0,.ref 0),(1,iI v2),(2,iI v3),(3,.fn v4.id v4.caps)],[],[(0,⟨3,1,lm (eInt .i64) v1⟩)],[0,1000000]⟩ ?_)
  unfold dJ at h
  exact ae 3 (aL (p:=[1,0]) n (j7 hK n h))
end
def p95_0:=pth 0 110001
def p95_1:=pth 0 11001
def p95_2:=pth 0 1100100
def p95_3:=pth 0 110011
noncomputable section
abbrev cx95 (M:Nat→Prop) (w0:Base):Cx:=⟨Try.prog,38,M,w0⟩
abbrev q95 (M:Nat→Prop) (w0:Base) (r:List Int):=bodyPost Try.prog Try.f95 (RetQ M w0 (fun v s=>v = .tup []∧look 0 s.r=some ⟨3,1,lm (eInt .i64) r⟩))
abbrev k95_1 (M:Nat→Prop) (w0:Base) (r:List Int) (m1:Nat):Kont:=kl (cx95 M w0) (q95 M w0 r) [.b 0] (cat Try.f95 [1,0,0]) m1
def s95_l1 (v2 v3 v4 v6:Int) (v7:List Int):AS:=⟨[(0,.ref 0),(1,iI v2),(2,iI v3),(3,iI v4),(10,iI v6)],[],[(0,⟨3,1,lm (eInt .i64) v7⟩)],[0,1000000,0]⟩
abbrev H95_1 (M:Nat→Prop) (w0:Base) (r:List Int) (v2 v3 v4:Int) (m1:Nat) (L1:Int→(List Int)→Option (List Int)):Prop:=∀ {v6:Int} {v7:List Int},L1 v6 v7=some r→LP (cx95 M w0) (q95 M w0 r) [.b 0] (cat Try.f95 [1,0,0]) m1 (s95_l1 v2 v3 v4 v6 v7)
variable {K:Kn} {n:Nat} {M:Nat→Prop} {w0:Base} {r v1:List Int} {v2 v3 v4:Int} {v5:Fv} {v6:Int} {v7:List Int} {m1:Nat} {L1:Int→(List Int)→Option (List Int)}
abbrev cF95 (p:List Nat):Kont:=.c (cat Try.f95 p)
theorem kF (hK:KnOk K) (hL1:H95_1 M w0 r v2 v3 v4 m1 L1) (h:eG K n v2 v3 v4 L1 v6 v7=some r):VE (cx95 M w0) (q95 M w0 r) [cF95 [1,0,0],k95_1 M w0 r m1,.b 0] .normal (s95_l1 v2 v3 v4 v6 v7):=by
  unfold eG at h
  refine ac (ks':=[cF95 p95_0,cF95 p95_1,k95_1 M w0 r m1,.b 0]) 3 ?_
  rcases am h with ⟨h6,h⟩ | ⟨h6,h⟩
  ·
   refine ah 13 h6 (ac (ks':=[cF95 p95_2,.b 1,cF95 p95_3,k95_1 M w0 r m1,.b 0]) 4 (bk [0,1,2,3,10] [] [0] ?_))
   obtain ⟨h7,h⟩:=aj h
   obtain ⟨h8,h⟩:=aj h
   obtain ⟨h9,h⟩:=aj h
   obtain ⟨h10,h⟩:=aj h
   exact bf 2 (nu 16 [.ref 0,iI v2,iI v6,iI (w64 (v2+v6)),.ref 0,iI v3,iI v6,iI (w64 (v3+v6)),.ref 0,iI v3,iI v6,iI (w64 (v3+v6)),.eptr 0 1 (((w64 (v3+v6))).toNat) 0,iI (gD v7 ((w64 (v3+v6)))),.ref 0,iI v2,iI v6,iI (w64 (v2+v6)),.eptr 0 1 (((w64 (v2+v6))).toNat) 0,iI (gD v7 ((w64 (v2+v6)))),.eptr 0 1 (((w64 (v2+v6))).toNat) 0,.eptr 0 1 (((w64 (v3+v6))).toNat) 0]) [] [] [strS 0 ⟨3,1,lm (eInt .i64) (List.set v7 ((w64 (v2+v6))).toNat (gD v7 ((w64 (v3+v6)))))⟩,strS 0 ⟨3,1,lm (eInt .i64) (List.set (List.set v7 ((w64 (v2+v6))).toNat (gD v7 ((w64 (v3+v6))))) ((w64 (v3+v6))).toNat (gD v7 ((w64 (v2+v6)))))⟩] (az [.v 0 1,.v 0 1,.v 0 1,.v 0 1,.v 0 2,.v 0 2,.v 0 2,.v 0 2,.v 0 1,.v 0 1,.v 0 1,.v 0 1] (d_v (aH 0 1 (eInt .i64) (L:=v7) h7) (d_v (aJ 3 0 (eInt .i64) (eInt .i64) (aw h7).2 (fun _=>rfl)) (az [.v 0 2,.v 0 2,.v 0 2,.v 0 2] (av (k_v (lo:=0) (k:=2) (br ⟨(by kernel_rfl),(bD (aH 0 1 (eInt .i64) (L:=v7) h8) (by kernel_rfl))⟩ (br ⟨(by kernel_rfl),(bD (aH 0 1 (eInt .i64) (L:=(List.set v7 ((w64 (v2+v6))).toNat (gD v7 ((w64 (v3+v6)))))) h8) (by kernel_rfl))⟩ cE))) (d_v (aJ 3 0 (eInt .i64) (eInt .i64) (aw h9).2 (fun _=>rfl)) (d_v (aH 0 1 (eInt .i64) (L:=v7) h9) (av (e_s (m:=0) (bd 0 3 1 0 (eInt .i64) (eInt .i64) (gD v7 ((w64 (v3+v6)))) (aw h9).2 (fun _=>rfl))) (av (e_v (lo:=1) (aH 0 1 (eInt .i64) (L:=(List.set v7 ((w64 (v2+v6))).toNat (gD v7 ((w64 (v3+v6)))))) h10)) (av (e_s (m:=1) (bd 0 3 1 0 (eInt .i64) (eInt .i64) (gD v7 ((w64 (v2+v6)))) (aw h10).2 (fun _=>rfl))) bi)))))))))) (ae 2 (aN (hL1 h)))
  ·
   refine ah 13 h6 (ac (ks':=[]) 5 (ef ?_))
   cases h
   exact cD
theorem kq (hK:KnOk K) (m:Nat):H95_1 M w0 r v2 v3 v4 m (dU K n v2 v3 v4 m):=by
  induction m with
 | zero=>intro v6 v7 h; cases h
 | succ m ih=>intro v6 v7 h; have h:eG K n v2 v3 v4 (dU K n v2 v3 v4 m) v6 v7=some r:=h; exact aM (kF hK ih h)
theorem iE (hK:KnOk K) (h:dm K n v1 v2 v3 v4 v5=some r):AIO Try.prog 95 [.ref 0,iI v2,iI v3,iI v4,.fn v5.id v5.caps] 0 ⟨3,1,lm (eInt .i64) v1⟩ (fun v s=>v = .tup []∧look 0 s.r=some ⟨3,1,lm (eInt .i64) r⟩):=by
  refine dH (c:=cat Try.f95 []) Try.func95 (by kernel_rfl) _ Try.ntmps95 (of_decide_eq_true (by kernel_rfl)) fun M w0=>(aP ⟨[(0,.ref 0),(1,iI v2),(2,iI v3),(3,iI v4),(4,.fn v5.id v5.caps)],[],[(0,⟨3,1,lm (eInt .i64) v1⟩)],[0,1000000]⟩ ?_)
  unfold dm at h
  exact ae 3 (aL (p:=[1,0]) n (kq hK n h))
end
def p92_0:=pth 0 111000
def p92_1:=pth 0 11100001
def p92_2:=pth 0 1110001
def p92_3:=pth 0 111000101
def p92_4:=pth 0 11100010100
def p92_5:=pth 0 11100010101
def p92_6:=pth 0 11100010110
def p92_7:=pth 0 11100010111
def p92_8:=pth 0 11100
noncomputable section
abbrev cx92 (M:Nat→Prop) (w0:Base):Cx:=⟨Try.prog,58,M,w0⟩
abbrev q92 (M:Nat→Prop) (w0:Base) (r:List Int):=bodyPost Try.prog Try.f92 (RetQ M w0 (fun v s=>v = .tup []∧look 0 s.r=some ⟨3,1,lm (eInt .i64) r⟩))
abbrev bl (p:List Nat):Kont:=.c (cat Try.f92 p)
abbrev dx (M:Nat→Prop) (w0:Base) (r:List Int) (m1:Nat):Kont:=kl (cx92 M w0) (q92 M w0 r) [.b 0,bl [1,1,1]] (cat Try.f92 p92_0) m1
def s92_j1 (v3:Int) (v5:Fv) (v16 v17:Int) (v18:List Int):AS:=⟨[(0,.ref 0),(2,iI v3),(4,.fn v5.id v5.caps),(10,iI v16),(11,iI v17)],[],[(0,⟨3,1,lm (eInt .i64) v18⟩)],[0,1000000,0]⟩
def s92_l2 (v3:Int) (v5:Fv) (v11 v12:Int) (v13:List Int):AS:=⟨[(0,.ref 0),(2,iI v3),(4,.fn v5.id v5.caps),(10,iI v11),(11,iI v12)],[],[(0,⟨3,1,lm (eInt .i64) v13⟩)],[0,1000000,0]⟩
abbrev H92_1 (M:Nat→Prop) (w0:Base) (r:List Int) (v3:Int) (v5:Fv) (m1:Nat) (L1:Int→Int→(List Int)→Option (List Int)):Prop:=∀ {v11 v12:Int} {v13:List Int},L1 v11 v12 v13=some r→LP (cx92 M w0) (q92 M w0 r) [.b 0,bl [1,1,1]] (cat Try.f92 p92_0) m1 (s92_l2 v3 v5 v11 v12 v13)
variable {K:Kn} {n:Nat} {M:Nat→Prop} {w0:Base} {r v1:List Int} {v2 v3 v4:Int} {v5:Fv} {v11 v12:Int} {v13:List Int} {v16 v17:Int} {v18:List Int} {m1:Nat} {L1:Int→Int→(List Int)→Option (List Int)}
theorem js (hK:KnOk K) (hL1:H92_1 M w0 r v3 v5 m1 L1) (h:ex K n v3 v5 L1 v16 v17 v18=some r):VE (cx92 M w0) (q92 M w0 r) [.b 1,dx M w0 r m1,.b 0,bl [1,1,1]] .normal (s92_j1 v3 v5 v16 v17 v18):=by
  unfold ex at h
  exact ae 1 (aN (hL1 h))
theorem lh (hK:KnOk K) (hL1:H92_1 M w0 r v3 v5 m1 L1) (h:eS K n v3 v5 L1 v11 v12 v13=some r):VE (cx92 M w0) (q92 M w0 r) [bl p92_0,dx M w0 r m1,.b 0,bl [1,1,1]] .normal (s92_l2 v3 v5 v11 v12 v13):=by
  unfold eS at h
  refine ac (ks':=[bl p92_1,bl p92_2,dx M w0 r m1,.b 0,bl [1,1,1]]) 3 ?_
  rcases am h with ⟨h5,h⟩ | ⟨h5,h⟩
  ·
   refine ah 20 h5 (ac (ks':=[bl p92_3,.b 1,dx M w0 r m1,.b 0,bl [1,1,1]]) 5 ?_)
   rcases am h with ⟨h6,h⟩ | ⟨h6,h⟩
   ·
    refine ah 23 h6 (ac (ks':=[bl p92_4,bl p92_5,.b 1,dx M w0 r m1,.b 0,bl [1,1,1]]) 2 (ai 7 ?_))
    obtain ⟨v14,h7,h⟩:=bind_some h
    exact bM 0 0 (iE hK h7) (af (ae 1 (js hK hL1 h)))
   ·
    refine ah 23 h6 (ac (ks':=[bl p92_6,bl p92_7,.b 1,dx M w0 r m1,.b 0,bl [1,1,1]]) 2 (ai 11 ?_))
    obtain ⟨v15,h8,h⟩:=bind_some h
    exact bM 0 0 (iE hK h8) (af (ae 1 (js hK hL1 h)))
  ·
   refine ah 20 h5 (ac (ks':=[bl [1,1,1]]) 5 (ai 7 ?_))
   obtain ⟨v19,h9,h⟩:=bind_some h
   refine bM 0 0 (iE hK h9) (af (ef ?_))
   cases h
   exact cD
theorem ke (hK:KnOk K) (m:Nat):H92_1 M w0 r v3 v5 m (eb K n v3 v5 m):=by
  induction m with
 | zero=>intro v11 v12 v13 h; cases h
 | succ m ih=>intro v11 v12 v13 h; have h:eS K n v3 v5 (eb K n v3 v5 m) v11 v12 v13=some r:=h; exact aM (lh hK ih h)
theorem kH (hK:KnOk K) (h:fA K n v1 v2 v3 v4 v5=some r):AIO Try.prog 92 [.ref 0,iI v2,iI v3,iI v4,.fn v5.id v5.caps] 0 ⟨3,1,lm (eInt .i64) v1⟩ (fun v s=>v = .tup []∧look 0 s.r=some ⟨3,1,lm (eInt .i64) r⟩):=by
  refine dH (c:=cat Try.f92 []) Try.func92 (by kernel_rfl) _ Try.ntmps92 (of_decide_eq_true (by kernel_rfl)) fun M w0=>(aP ⟨[(0,.ref 0),(1,iI v2),(2,iI v3),(3,iI v4),(4,.fn v5.id v5.caps)],[],[(0,⟨3,1,lm (eInt .i64) v1⟩)],[0,1000000]⟩ ?_)
  unfold fA at h
  exact ae 6 (aL (p:=p92_8) n (ke hK n h))
end
def p81_0:=pth 0 10101111
def p81_1:=pth 0 10101110100
def ey:=pth 0 1010111
def p81_3:=pth 0 101011000
def p81_4:=pth 0 110101111
def p81_5:=pth 0 110101110100
def dK:=pth 0 11010111
def p81_7:=pth 0 1101011000
def en:=pth 8 1
def p81_9:=pth 7 1000
def p81_10:=pth 0 1010111010001
def p81_11:=pth 0 101011101001
def p81_12:=pth 0 10101110100100
def p81_13:=pth 0 1010111010011
def p81_14:=pth 0 10101100001
def p81_15:=pth 0 1010110001
def p81_16:=pth 0 1010110001010
def p81_17:=pth 0 1010110001011
def p81_18:=pth 0 1010111010
def p81_19:=pth 0 11010111010001
def p81_20:=pth 0 1101011101001
def p81_21:=pth 0 110101110100100
def p81_22:=pth 0 11010111010011
def p81_23:=pth 0 110101100001
def p81_24:=pth 0 11010110001
def p81_25:=pth 0 11010110001010
def p81_26:=pth 0 11010110001011
def p81_27:=pth 0 11010111010
def p81_28:=pth 12 1
def p81_29:=pth 12 10
def p81_30:=pth 11 1
def p81_31:=pth 11 10
def p81_32:=pth 10 101
def p81_33:=pth 10 1010
def p81_34:=pth 10 1
def p81_35:=pth 10 100
def p81_36:=pth 9 101
def p81_37:=pth 9 1010
def p81_38:=pth 7 100001
def p81_39:=pth 7 10001
def p81_40:=pth 7 10001010
def p81_41:=pth 7 10001011
def p81_42:=pth 9 100
def p81_43:=pth 6 1
def p81_44:=pth 7 100
def p81_45:=pth 0 10101100
def p81_46:=pth 0 110101100
def p81_47:=pth 5 101
noncomputable section
abbrev aW (M:Nat→Prop) (w0:Base):Cx:=⟨Try.prog,220,M,w0⟩
abbrev q81 (M:Nat→Prop) (w0:Base) (r:List Int):=bodyPost Try.prog Try.f81 (RetQ M w0 (fun v s=>v = .tup []∧look 0 s.r=some ⟨3,1,lm (eInt .i64) r⟩))
abbrev ao (p:List Nat):Kont:=.c (cat Try.f81 p)
abbrev k81_2 (M:Nat→Prop) (w0:Base) (r:List Int) (m2:Nat):Kont:=kl (aW M w0) (q81 M w0 r) [.b 2,ao p81_0,ao [1]] (cat Try.f81 p81_1) m2
abbrev k81_1 (M:Nat→Prop) (w0:Base) (r:List Int) (m1:Nat):Kont:=kl (aW M w0) (q81 M w0 r) [.b 0,ao ey,ao [1]] (cat Try.f81 p81_3) m1
abbrev k81_4 (M:Nat→Prop) (w0:Base) (r:List Int) (m4:Nat):Kont:=kl (aW M w0) (q81 M w0 r) [.b 6,ao p81_4,ao [1,1]] (cat Try.f81 p81_5) m4
abbrev k81_3 (M:Nat→Prop) (w0:Base) (r:List Int) (m3:Nat):Kont:=kl (aW M w0) (q81 M w0 r) [.b 4,ao dK,ao [1,1]] (cat Try.f81 p81_7) m3
abbrev k81_5 (M:Nat→Prop) (w0:Base) (r:List Int) (m5:Nat):Kont:=kl (aW M w0) (q81 M w0 r) [.b 8,ao en] (cat Try.f81 p81_9) m5
def s81_j1 (v1:List Int) (v2:Int) (v5:Fv) (v14 v15:Int):AS:=⟨[(0,.ref 0),(1,iI v2),(4,.fn v5.id v5.caps),(10,iI v14),(11,iI v15)],[],[(0,⟨3,1,lm (eInt .i64) v1⟩)],[0,1000000,0]⟩
def s81_l3 (v10 v16:Int) (v17:List Int):AS:=⟨[(0,.ref 0),(10,iI v10),(13,iI v16)],[],[(0,⟨3,1,lm (eInt .i64) v17⟩)],[0,1000000,0]⟩
def s81_l2 (v1:List Int) (v2:Int) (v5:Fv) (v10 v11:Int):AS:=⟨[(0,.ref 0),(1,iI v2),(4,.fn v5.id v5.caps),(10,iI v10),(11,iI v11)],[],[(0,⟨3,1,lm (eInt .i64) v1⟩)],[0,1000000,0]⟩
def s81_j4 (v1:List Int) (v3:Int) (v5:Fv) (v26 v27:Int):AS:=⟨[(0,.ref 0),(2,iI v3),(4,.fn v5.id v5.caps),(14,iI v26),(15,iI v27)],[],[(0,⟨3,1,lm (eInt .i64) v1⟩)],[0,1000000,0]⟩
def s81_l6 (v22 v28:Int) (v29:List Int):AS:=⟨[(0,.ref 0),(14,iI v22),(17,iI v28)],[],[(0,⟨3,1,lm (eInt .i64) v29⟩)],[0,1000000,0]⟩
def s81_l5 (v1:List Int) (v3:Int) (v5:Fv) (v22 v23:Int):AS:=⟨[(0,.ref 0),(2,iI v3),(4,.fn v5.id v5.caps),(14,iI v22),(15,iI v23)],[],[(0,⟨3,1,lm (eInt .i64) v1⟩)],[0,1000000,0]⟩
def s81_j8 (v1:List Int) (v2 v3 v4:Int) (v5:Fv) (v30 v31 v43 v44:Int):AS:=⟨[(0,.ref 0),(1,iI v2),(2,iI v3),(3,iI v4),(4,.fn v5.id v5.caps),(18,iI v30),(19,iI v31),(20,iI v43),(21,iI v44),(22,iI (w64 (v31 - 1)))],[],[(0,⟨3,1,lm (eInt .i64) v1⟩)],[0,1000000,0]⟩
def s81_j15 (v53:List Int):AS:=⟨[],[],[(0,⟨3,1,lm (eInt .i64) v53⟩)],[0,1000000,0]⟩
def s81_j14 (v4:Int) (v5:Fv) (v30 v31 v39:Int) (v50:List Int) (v51:Bool):AS:=⟨[(0,.ref 0),(3,iI v4),(4,.fn v5.id v5.caps),(18,iI v30),(24,iI (w64 (v31 - v39))),(213,.bool v51)],[],[(0,⟨3,1,lm (eInt .i64) v50⟩)],[0,1000000,0]⟩
def s81_j13 (v4:Int) (v5:Fv) (v30 v31 v39:Int) (v50:List Int):AS:=⟨[(0,.ref 0),(3,iI v4),(4,.fn v5.id v5.caps),(18,iI v30),(24,iI (w64 (v31 - v39)))],[],[(0,⟨3,1,lm (eInt .i64) v50⟩)],[0,1000000,0]⟩
def s81_j12 (v2 v4:Int) (v5:Fv) (v30 v31 v39:Int) (v47:List Int) (v48:Bool):AS:=⟨[(0,.ref 0),(1,iI v2),(3,iI v4),(4,.fn v5.id v5.caps),(18,iI v30),(20,iI v39),(24,iI (w64 (v31 - v39))),(199,.bool v48)],[],[(0,⟨3,1,lm (eInt .i64) v47⟩)],[0,1000000,0]⟩
def s81_j11 (v2 v4:Int) (v5:Fv) (v30 v31 v39:Int) (v47:List Int):AS:=⟨[(0,.ref 0),(1,iI v2),(3,iI v4),(4,.fn v5.id v5.caps),(18,iI v30),(20,iI v39),(24,iI (w64 (v31 - v39)))],[],[(0,⟨3,1,lm (eInt .i64) v47⟩)],[0,1000000,0]⟩
def s81_j10 (v1:List Int) (v2 v3 v4:Int) (v5:Fv) (v30 v31 v39:Int) (v45:Bool):AS:=⟨[(0,.ref 0),(1,iI v2),(2,iI v3),(3,iI v4),(4,.fn v5.id v5.caps),(18,iI v30),(20,iI v39),(24,iI (w64 (v31 - v39))),(185,.bool v45)],[],[(0,⟨3,1,lm (eInt .i64) v1⟩)],[0,1000000,0]⟩
def s81_l9 (v1:List Int) (v2 v3 v4:Int) (v5:Fv) (v30 v31 v39 v40:Int):AS:=⟨[(0,.ref 0),(1,iI v2),(2,iI v3),(3,iI v4),(4,.fn v5.id v5.caps),(18,iI v30),(19,iI v31),(20,iI v39),(21,iI v40),(22,iI (w64 (v31 - 1)))],[],[(0,⟨3,1,lm (eInt .i64) v1⟩)],[0,1000000,0]⟩
def s81_j7 (v1:List Int) (v2 v3 v4:Int) (v5:Fv) (v30 v31 v33 v34:Int):AS:=⟨[(0,.ref 0),(1,iI v2),(2,iI v3),(3,iI v4),(4,.fn v5.id v5.caps),(18,iI v30),(19,iI v31),(20,iI v33),(21,iI v34)],[],[(0,⟨3,1,lm (eInt .i64) v1⟩)],[0,1000000,0]⟩
abbrev H81_1 (M:Nat→Prop) (w0:Base) (r v1:List Int) (v2:Int) (v5:Fv) (m1:Nat) (L1:Int→Int→Option (List Int)):Prop:=∀ {v10 v11:Int},L1 v10 v11=some r→LP (aW M w0) (q81 M w0 r) [.b 0,ao ey,ao [1]] (cat Try.f81 p81_3) m1 (s81_l2 v1 v2 v5 v10 v11)
abbrev H81_2 (M:Nat→Prop) (w0:Base) (r:List Int) (v10:Int) (m2:Nat) (L2:Int→(List Int)→Option (List Int)):Prop:=∀ {v16:Int} {v17:List Int},L2 v16 v17=some r→LP (aW M w0) (q81 M w0 r) [.b 2,ao p81_0,ao [1]] (cat Try.f81 p81_1) m2 (s81_l3 v10 v16 v17)
abbrev H81_3 (M:Nat→Prop) (w0:Base) (r v1:List Int) (v3:Int) (v5:Fv) (m3:Nat) (L3:Int→Int→Option (List Int)):Prop:=∀ {v22 v23:Int},L3 v22 v23=some r→LP (aW M w0) (q81 M w0 r) [.b 4,ao dK,ao [1,1]] (cat Try.f81 p81_7) m3 (s81_l5 v1 v3 v5 v22 v23)
abbrev H81_4 (M:Nat→Prop) (w0:Base) (r:List Int) (v22:Int) (m4:Nat) (L4:Int→(List Int)→Option (List Int)):Prop:=∀ {v28:Int} {v29:List Int},L4 v28 v29=some r→LP (aW M w0) (q81 M w0 r) [.b 6,ao p81_4,ao [1,1]] (cat Try.f81 p81_5) m4 (s81_l6 v22 v28 v29)
abbrev H81_5 (M:Nat→Prop) (w0:Base) (r v1:List Int) (v2 v3 v4:Int) (v5:Fv) (v30 v31:Int) (m5:Nat) (L5:Int→Int→Option (List Int)):Prop:=∀ {v39 v40:Int},L5 v39 v40=some r→LP (aW M w0) (q81 M w0 r) [.b 8,ao en] (cat Try.f81 p81_9) m5 (s81_l9 v1 v2 v3 v4 v5 v30 v31 v39 v40)
variable {K:Kn} {n:Nat} {M:Nat→Prop} {w0:Base} {r v1:List Int} {v2 v3 v4:Int} {v5:Fv} {v10 v11 v14 v15 v16:Int} {v17:List Int} {v22 v23 v26 v27 v28:Int} {v29:List Int} {v30 v31 v33 v34 v39 v40 v43 v44:Int} {v45:Bool} {v47:List Int} {v48:Bool} {v50:List Int} {v51:Bool} {v53:List Int} {m1:Nat} {L1:Int→Int→Option (List Int)} {m2:Nat} {L2:Int→(List Int)→Option (List Int)} {m3:Nat} {L3:Int→Int→Option (List Int)} {m4:Nat} {L4:Int→(List Int)→Option (List Int)} {m5:Nat} {L5:Int→Int→Option (List Int)}
theorem iV (hK:KnOk K) (hL1:H81_1 M w0 r v1 v2 v5 m1 L1) (h:fh K n v1 v2 v5 L1 v14 v15=some r):VE (aW M w0) (q81 M w0 r) [.b 1,k81_1 M w0 r m1,.b 0,ao ey,ao [1]] .normal (s81_j1 v1 v2 v5 v14 v15):=by
  unfold fh at h
  exact ae 1 (aN (hL1 h))
theorem lg (hK:KnOk K) (hL2:H81_2 M w0 r v10 m2 L2) (h:eR K n v10 L2 v16 v17=some r):VE (aW M w0) (q81 M w0 r) [ao p81_1,k81_2 M w0 r m2,.b 2,ao p81_0,ao [1]] .normal (s81_l3 v10 v16 v17):=by
  unfold eR at h
  refine ac (ks':=[ao p81_10,ao p81_11,k81_2 M w0 r m2,.b 2,ao p81_0,ao [1]]) 3 ?_
  rcases am h with ⟨h19,h⟩ | ⟨h19,h⟩
  ·
   refine ah 58 h19 (ac (ks':=[ao p81_12,.b 3,ao p81_13,k81_2 M w0 r m2,.b 2,ao p81_0,ao [1]]) 4 (bk [0,10,13] [] [0] ?_))
   obtain ⟨h20,h⟩:=aj h
   obtain ⟨h21,h⟩:=aj h
   obtain ⟨h22,h⟩:=aj h
   obtain ⟨h23,h⟩:=aj h
   exact bf 2 (nu 61 [.ref 0,iI v16,.ref 0,iI v16,iI (w64 (v16+1)),.ref 0,iI v16,iI (w64 (v16+1)),.eptr 0 1 (((w64 (v16+1))).toNat) 0,iI (gD v17 ((w64 (v16+1)))),.ref 0,iI v16,.eptr 0 1 (v16.toNat) 0,iI (gD v17 v16),.eptr 0 1 (v16.toNat) 0,.eptr 0 1 (((w64 (v16+1))).toNat) 0]) [] [] [strS 0 ⟨3,1,lm (eInt .i64) (List.set v17 v16.toNat (gD v17 ((w64 (v16+1)))))⟩,strS 0 ⟨3,1,lm (eInt .i64) (List.set (List.set v17 v16.toNat (gD v17 ((w64 (v16+1))))) ((w64 (v16+1))).toNat (gD v17 v16))⟩] (az [.v 0 1,.v 0 1,.v 0 2,.v 0 2,.v 0 2,.v 0 1,.v 0 1,.v 0 1] (d_v (aH 0 1 (eInt .i64) (L:=v17) h20) (d_v (aJ 3 0 (eInt .i64) (eInt .i64) (aw h20).2 (fun _=>rfl)) (az [.v 0 2,.v 0 2] (av (k_v (lo:=0) (k:=2) (br ⟨(by kernel_rfl),(bD (aH 0 1 (eInt .i64) (L:=v17) h21) (by kernel_rfl))⟩ (br ⟨(by kernel_rfl),(bD (aH 0 1 (eInt .i64) (L:=(List.set v17 v16.toNat (gD v17 ((w64 (v16+1)))))) h21) (by kernel_rfl))⟩ cE))) (d_v (aJ 3 0 (eInt .i64) (eInt .i64) (aw h22).2 (fun _=>rfl)) (d_v (aH 0 1 (eInt .i64) (L:=v17) h22) (av (e_s (m:=0) (bd 0 3 1 0 (eInt .i64) (eInt .i64) (gD v17 ((w64 (v16+1)))) (aw h22).2 (fun _=>rfl))) (av (e_v (lo:=1) (aH 0 1 (eInt .i64) (L:=(List.set v17 v16.toNat (gD v17 ((w64 (v16+1)))))) h23)) (av (e_s (m:=1) (bd 0 3 1 0 (eInt .i64) (eInt .i64) (gD v17 v16) (aw h23).2 (fun _=>rfl))) bi)))))))))) (ae 2 (aN (hL2 h)))
  ·
   refine ah 58 h19 (aD 7 ?_)
   cases h
   exact cD
theorem kP (hK:KnOk K) (m:Nat):H81_2 M w0 r v10 m (de K n v10 m):=by
  induction m with
 | zero=>intro v16 v17 h; cases h
 | succ m ih=>intro v16 v17 h; have h:eR K n v10 (de K n v10 m) v16 v17=some r:=h; exact aM (lg hK ih h)
theorem kg (hK:KnOk K) (hL1:H81_1 M w0 r v1 v2 v5 m1 L1) (h:fH K n v1 v2 v5 L1 v10 v11=some r):VE (aW M w0) (q81 M w0 r) [ao p81_3,k81_1 M w0 r m1,.b 0,ao ey,ao [1]] .normal (s81_l2 v1 v2 v5 v10 v11):=by
  unfold fH at h
  refine ac (ks':=[ao p81_14,ao p81_15,k81_1 M w0 r m1,.b 0,ao ey,ao [1]]) 3 ?_
  rcases am h with ⟨h8,h⟩ | ⟨h8,h⟩
  ·
   refine ah 33 h8 ?_
   obtain ⟨v12,h9,h⟩:=bind_some h
   have h9:=Option.some.inj h9
   refine aV (ks':=[ao p81_16,ao p81_17,.b 1,k81_1 M w0 r m1,.b 0,ao ey,ao [1]]) 6 ⟨[(0,.ref 0),(1,iI v2),(4,.fn v5.id v5.caps),(10,iI v10),(11,iI v11),(12,iI v12)],[],[(0,⟨3,1,lm (eInt .i64) v1⟩)],[0,1000000,0]⟩ ?_ (by subst h9; kernel_rfl)
   obtain ⟨h10,h⟩:=aj h
   obtain ⟨h11,h⟩:=aj h
   obtain ⟨v13,h12,h⟩:=bind_some h
   refine bf 0 (nu 40 [.fn v5.id v5.caps,.ref 0,iI v12,.eptr 0 1 (v12.toNat) 0,iI (gD v1 v12),.ref 0,iI v2,.eptr 0 1 (v2.toNat) 0,iI (gD v1 v2),iI v13,.bool (decide (v13<0))]) [] [] [] (az (vz 3) (d_v (aH 0 1 (eInt .i64) (L:=v1) h10) (d_v (aJ 3 0 (eInt .i64) (eInt .i64) (aw h10).2 (fun _=>rfl)) (az (vz 2) (d_v (aH 0 1 (eInt .i64) (L:=v1) h11) (d_v (aJ 3 0 (eInt .i64) (eInt .i64) (aw h11).2 (fun _=>rfl)) (av (e_c 0 1 49 (hK.bC h12).2 (hK.bC h12).1) (az [.v 0 1] bi)))))))) ?_
   rcases am h with ⟨h13,h⟩ | ⟨h13,h⟩
   ·
    exact ah 50 h13 (ae 2 (iV hK hL1 h))
   ·
    exact ah 50 h13 (ae 2 (iV hK hL1 h))
  ·
   exact ah 33 h8 (ae 9 (aL (p:=p81_18) n (kP hK n h)))
theorem kV (hK:KnOk K) (m:Nat):H81_1 M w0 r v1 v2 v5 m (dF K n v1 v2 v5 m):=by
  induction m with
 | zero=>intro v10 v11 h; cases h
 | succ m ih=>intro v10 v11 h; have h:fH K n v1 v2 v5 (dF K n v1 v2 v5 m) v10 v11=some r:=h; exact aM (kg hK ih h)
theorem jp (hK:KnOk K) (hL3:H81_3 M w0 r v1 v3 v5 m3 L3) (h:ft K n v1 v3 v5 L3 v26 v27=some r):VE (aW M w0) (q81 M w0 r) [.b 5,k81_3 M w0 r m3,.b 4,ao dK,ao [1,1]] .normal (s81_j4 v1 v3 v5 v26 v27):=by
  unfold ft at h
  exact ae 1 (aN (hL3 h))
theorem le (hK:KnOk K) (hL4:H81_4 M w0 r v22 m4 L4) (h:fb K n v22 L4 v28 v29=some r):VE (aW M w0) (q81 M w0 r) [ao p81_5,k81_4 M w0 r m4,.b 6,ao p81_4,ao [1,1]] .normal (s81_l6 v22 v28 v29):=by
  unfold fb at h
  refine ac (ks':=[ao p81_19,ao p81_20,k81_4 M w0 r m4,.b 6,ao p81_4,ao [1,1]]) 3 ?_
  rcases am h with ⟨h42,h⟩ | ⟨h42,h⟩
  ·
   refine ah 110 h42 (ac (ks':=[ao p81_21,.b 7,ao p81_22,k81_4 M w0 r m4,.b 6,ao p81_4,ao [1,1]]) 4 (bk [0,14,17] [] [0] ?_))
   obtain ⟨h43,h⟩:=aj h
   obtain ⟨h44,h⟩:=aj h
   obtain ⟨h45,h⟩:=aj h
   obtain ⟨h46,h⟩:=aj h
   exact bf 2 (nu 113 [.ref 0,iI v28,.ref 0,iI v28,iI (w64 (v28 - 1)),.ref 0,iI v28,iI (w64 (v28 - 1)),.eptr 0 1 (((w64 (v28 - 1))).toNat) 0,iI (gD v29 ((w64 (v28 - 1)))),.ref 0,iI v28,.eptr 0 1 (v28.toNat) 0,iI (gD v29 v28),.eptr 0 1 (v28.toNat) 0,.eptr 0 1 (((w64 (v28 - 1))).toNat) 0]) [] [] [strS 0 ⟨3,1,lm (eInt .i64) (List.set v29 v28.toNat (gD v29 ((w64 (v28 - 1)))))⟩,strS 0 ⟨3,1,lm (eInt .i64) (List.set (List.set v29 v28.toNat (gD v29 ((w64 (v28 - 1))))) ((w64 (v28 - 1))).toNat (gD v29 v28))⟩] (az [.v 0 1,.v 0 1,.v 0 2,.v 0 2,.v 0 2,.v 0 1,.v 0 1,.v 0 1] (d_v (aH 0 1 (eInt .i64) (L:=v29) h43) (d_v (aJ 3 0 (eInt .i64) (eInt .i64) (aw h43).2 (fun _=>rfl)) (az [.v 0 2,.v 0 2] (av (k_v (lo:=0) (k:=2) (br ⟨(by kernel_rfl),(bD (aH 0 1 (eInt .i64) (L:=v29) h44) (by kernel_rfl))⟩ (br ⟨(by kernel_rfl),(bD (aH 0 1 (eInt .i64) (L:=(List.set v29 v28.toNat (gD v29 ((w64 (v28 - 1)))))) h44) (by kernel_rfl))⟩ cE))) (d_v (aJ 3 0 (eInt .i64) (eInt .i64) (aw h45).2 (fun _=>rfl)) (d_v (aH 0 1 (eInt .i64) (L:=v29) h45) (av (e_s (m:=0) (bd 0 3 1 0 (eInt .i64) (eInt .i64) (gD v29 ((w64 (v28 - 1)))) (aw h45).2 (fun _=>rfl))) (av (e_v (lo:=1) (aH 0 1 (eInt .i64) (L:=(List.set v29 v28.toNat (gD v29 ((w64 (v28 - 1)))))) h46)) (av (e_s (m:=1) (bd 0 3 1 0 (eInt .i64) (eInt .i64) (gD v29 v28) (aw h46).2 (fun _=>rfl))) bi)))))))))) (ae 2 (aN (hL4 h)))
  ·
   refine ah 110 h42 (aD 7 ?_)
   cases h
   exact cD
theorem kY (hK:KnOk K) (m:Nat):H81_4 M w0 r v22 m (c9 K n v22 m):=by
  induction m with
 | zero=>intro v28 v29 h; cases h
 | succ m ih=>intro v28 v29 h; have h:fb K n v22 (c9 K n v22 m) v28 v29=some r:=h; exact aM (le hK ih h)
theorem j0 (hK:KnOk K) (hL3:H81_3 M w0 r v1 v3 v5 m3 L3) (h:fJ K n v1 v3 v5 L3 v22 v23=some r):VE (aW M w0) (q81 M w0 r) [ao p81_7,k81_3 M w0 r m3,.b 4,ao dK,ao [1,1]] .normal (s81_l5 v1 v3 v5 v22 v23):=by
  unfold fJ at h
  refine ac (ks':=[ao p81_23,ao p81_24,k81_3 M w0 r m3,.b 4,ao dK,ao [1,1]]) 3 ?_
  rcases am h with ⟨h31,h⟩ | ⟨h31,h⟩
  ·
   refine ah 85 h31 ?_
   obtain ⟨v24,h32,h⟩:=bind_some h
   have h32:=Option.some.inj h32
   refine aV (ks':=[ao p81_25,ao p81_26,.b 5,k81_3 M w0 r m3,.b 4,ao dK,ao [1,1]]) 6 ⟨[(0,.ref 0),(2,iI v3),(4,.fn v5.id v5.caps),(14,iI v22),(15,iI v23),(16,iI v24)],[],[(0,⟨3,1,lm (eInt .i64) v1⟩)],[0,1000000,0]⟩ ?_ (by subst h32; kernel_rfl)
   obtain ⟨h33,h⟩:=aj h
   obtain ⟨h34,h⟩:=aj h
   obtain ⟨v25,h35,h⟩:=bind_some h
   refine bf 0 (nu 92 [.fn v5.id v5.caps,.ref 0,iI v3,.eptr 0 1 (v3.toNat) 0,iI (gD v1 v3),.ref 0,iI v24,.eptr 0 1 (v24.toNat) 0,iI (gD v1 v24),iI v25,.bool (decide (v25<0)),.bool (!(decide (v25<0)))]) [] [] [] (az (vz 3) (d_v (aH 0 1 (eInt .i64) (L:=v1) h33) (d_v (aJ 3 0 (eInt .i64) (eInt .i64) (aw h33).2 (fun _=>rfl)) (az (vz 2) (d_v (aH 0 1 (eInt .i64) (L:=v1) h34) (d_v (aJ 3 0 (eInt .i64) (eInt .i64) (aw h34).2 (fun _=>rfl)) (av (e_c 0 1 101 (hK.bC h35).2 (hK.bC h35).1) (az (vz 2) bi)))))))) ?_
   rcases am h with ⟨h36,h⟩ | ⟨h36,h⟩
   ·
    exact ah 103 h36 (ae 2 (jp hK hL3 h))
   ·
    exact ah 103 h36 (ae 2 (jp hK hL3 h))
  ·
   exact ah 85 h31 (ae 9 (aL (p:=p81_27) n (kY hK n h)))
theorem ln (hK:KnOk K) (m:Nat):H81_3 M w0 r v1 v3 v5 m (ez K n v1 v3 v5 m):=by
  induction m with
 | zero=>intro v22 v23 h; cases h
 | succ m ih=>intro v22 v23 h; have h:fJ K n v1 v3 v5 (ez K n v1 v3 v5 m) v22 v23=some r:=h; exact aM (j0 hK ih h)
theorem jn (hK:KnOk K) (hL5:H81_5 M w0 r v1 v2 v3 v4 v5 v30 v31 m5 L5) (h:eX K n v1 v2 v3 v4 v5 v30 v31 L5 v43 v44=some r):VE (aW M w0) (q81 M w0 r) [.b 9,k81_5 M w0 r m5,.b 8,ao en] .normal (s81_j8 v1 v2 v3 v4 v5 v30 v31 v43 v44):=by
  unfold eX at h
  exact ae 1 (aN (hL5 h))
theorem jc (hK:KnOk K) (h:eN K n v53=some r):VE (aW M w0) (q81 M w0 r) [] .normal (s81_j15 v53):=by
  unfold eN at h
  refine ef ?_
  cases h
  exact cD
theorem jk (hK:KnOk K) (h:dD K n v4 v5 v30 v31 v39 v50 v51=some r):VE (aW M w0) (q81 M w0 r) [ao p81_28] .normal (s81_j14 v4 v5 v30 v31 v39 v50 v51):=by
  unfold dD at h
  rcases am h with ⟨h70,h⟩ | ⟨h70,h⟩
  ·
   refine ah 213 h70 (ac (ks':=[ao p81_29]) 1 (ai 5 ?_))
   obtain ⟨v52,h71,h⟩:=bind_some h
   exact bM 0 0 (hK.ce h71) (af (ae 0 (jc hK h)))
  ·
   exact ah 213 h70 (ae 2 (jc hK h))
theorem jm (hK:KnOk K) (h:cA K n v4 v5 v30 v31 v39 v50=some r):VE (aW M w0) (q81 M w0 r) [ao p81_30] .normal (s81_j13 v4 v5 v30 v31 v39 v50):=by
  unfold cA at h
  refine ac (ks':=[ao p81_31,ao p81_28]) 1 (ai 4 ?_)
  rcases am h with ⟨h69,h⟩ | ⟨h69,h⟩
  ·
   exact ay 209 h69 (af (ae 0 (jk hK h)))
  ·
   exact ay 209 h69 (af (ae 0 (jk hK h)))
theorem jq (hK:KnOk K) (h:dT K n v2 v4 v5 v30 v31 v39 v47 v48=some r):VE (aW M w0) (q81 M w0 r) [ao p81_32,ao p81_30] .normal (s81_j12 v2 v4 v5 v30 v31 v39 v47 v48):=by
  unfold dT at h
  rcases am h with ⟨h67,h⟩ | ⟨h67,h⟩
  ·
   refine ah 199 h67 (ac (ks':=[ao p81_33,ao p81_30]) 1 (ai 5 ?_))
   obtain ⟨v49,h68,h⟩:=bind_some h
   exact bM 0 0 (hK.ce h68) (af (ae 0 (jm hK h)))
  ·
   exact ah 199 h67 (ae 2 (jm hK h))
theorem jj (hK:KnOk K) (h:dt K n v2 v4 v5 v30 v31 v39 v47=some r):VE (aW M w0) (q81 M w0 r) [ao p81_34] .normal (s81_j11 v2 v4 v5 v30 v31 v39 v47):=by
  unfold dt at h
  refine ac (ks':=[ao p81_35,ao p81_32,ao p81_30]) 2 (ai 4 ?_)
  rcases am h with ⟨h66,h⟩ | ⟨h66,h⟩
  ·
   exact ay 195 h66 (af (ae 0 (jq hK h)))
  ·
   exact ay 195 h66 (af (ae 0 (jq hK h)))
theorem jl (hK:KnOk K) (h:bT K n v1 v2 v3 v4 v5 v30 v31 v39 v45=some r):VE (aW M w0) (q81 M w0 r) [ao p81_36,ao p81_34] .normal (s81_j10 v1 v2 v3 v4 v5 v30 v31 v39 v45):=by
  unfold bT at h
  rcases am h with ⟨h64,h⟩ | ⟨h64,h⟩
  ·
   refine ah 185 h64 (ac (ks':=[ao p81_37,ao p81_34]) 1 (ai 5 ?_))
   obtain ⟨v46,h65,h⟩:=bind_some h
   exact bM 0 0 (kH hK h65) (af (ae 0 (jj hK h)))
  ·
   exact ah 185 h64 (ae 2 (jj hK h))
theorem j5 (hK:KnOk K) (hL5:H81_5 M w0 r v1 v2 v3 v4 v5 v30 v31 m5 L5) (h:eO K n v1 v2 v3 v4 v5 v30 v31 L5 v39 v40=some r):VE (aW M w0) (q81 M w0 r) [ao p81_9,k81_5 M w0 r m5,.b 8,ao en] .normal (s81_l9 v1 v2 v3 v4 v5 v30 v31 v39 v40):=by
  unfold eO at h
  refine ac (ks':=[ao p81_38,ao p81_39,k81_5 M w0 r m5,.b 8,ao en]) 3 ?_
  rcases am h with ⟨h57,h⟩ | ⟨h57,h⟩
  ·
   refine ah 151 h57 ?_
   obtain ⟨v41,h58,h⟩:=bind_some h
   have h58:=Option.some.inj h58
   refine aV (ks':=[ao p81_40,ao p81_41,.b 9,k81_5 M w0 r m5,.b 8,ao en]) 6 ⟨[(0,.ref 0),(1,iI v2),(2,iI v3),(3,iI v4),(4,.fn v5.id v5.caps),(18,iI v30),(19,iI v31),(20,iI v39),(21,iI v40),(22,iI (w64 (v31 - 1))),(23,iI v41)],[],[(0,⟨3,1,lm (eInt .i64) v1⟩)],[0,1000000,0]⟩ ?_ (by subst h58; kernel_rfl)
   obtain ⟨h59,h⟩:=aj h
   obtain ⟨h60,h⟩:=aj h
   obtain ⟨v42,h61,h⟩:=bind_some h
   refine bf 0 (nu 158 [.fn v5.id v5.caps,.ref 0,iI (w64 (v31 - 1)),iI v41,iI (w64 ((w64 (v31 - 1)) - v41)),.eptr 0 1 (((w64 ((w64 (v31 - 1)) - v41))).toNat) 0,iI (gD v1 ((w64 ((w64 (v31 - 1)) - v41)))),.ref 0,iI v41,.eptr 0 1 (v41.toNat) 0,iI (gD v1 v41),iI v42,.bool (decide (v42<0)),.bool (!(decide (v42<0)))]) [] [] [] (az (vz 5) (d_v (aH 0 1 (eInt .i64) (L:=v1) h59) (d_v (aJ 3 0 (eInt .i64) (eInt .i64) (aw h59).2 (fun _=>rfl)) (az (vz 2) (d_v (aH 0 1 (eInt .i64) (L:=v1) h60) (d_v (aJ 3 0 (eInt .i64) (eInt .i64) (aw h60).2 (fun _=>rfl)) (av (e_c 0 1 169 (hK.bC h61).2 (hK.bC h61).1) (az (vz 2) bi)))))))) ?_
   rcases am h with ⟨h62,h⟩ | ⟨h62,h⟩
   ·
    exact ah 171 h62 (ae 2 (jn hK hL5 h))
   ·
    exact ah 171 h62 (ae 2 (jn hK hL5 h))
  ·
   refine ah 151 h57 (ac (ks':=[ao p81_42,ao p81_36,ao p81_34]) 9 (ai 4 ?_))
   rcases am h with ⟨h63,h⟩ | ⟨h63,h⟩
   ·
    exact ay 181 h63 (af (ae 0 (jl hK h)))
   ·
    exact ay 181 h63 (af (ae 0 (jl hK h)))
theorem jP (hK:KnOk K) (m:Nat):H81_5 M w0 r v1 v2 v3 v4 v5 v30 v31 m (dn K n v1 v2 v3 v4 v5 v30 v31 m):=by
  induction m with
 | zero=>intro v39 v40 h; cases h
 | succ m ih=>intro v39 v40 h; have h:eO K n v1 v2 v3 v4 v5 v30 v31 (dn K n v1 v2 v3 v4 v5 v30 v31 m) v39 v40=some r:=h; exact aM (j5 hK ih h)
theorem jb (hK:KnOk K) (h:dV K n v1 v2 v3 v4 v5 v30 v31 v33 v34=some r):VE (aW M w0) (q81 M w0 r) [ao p81_43] .normal (s81_j7 v1 v2 v3 v4 v5 v30 v31 v33 v34):=by
  unfold dV at h
  exact ae 4 (aL (p:=p81_44) n (jP hK n h))
theorem hE (hK:KnOk K) (h:b6 K n v1 v2 v3 v4 v5=some r):AIO Try.prog 81 [.ref 0,iI v2,iI v3,iI v4,.fn v5.id v5.caps] 0 ⟨3,1,lm (eInt .i64) v1⟩ (fun v s=>v = .tup []∧look 0 s.r=some ⟨3,1,lm (eInt .i64) r⟩):=by
  refine dH (c:=cat Try.f81 []) Try.func81 (by kernel_rfl) _ Try.ntmps81 (of_decide_eq_true (by kernel_rfl)) fun M w0=>(aP ⟨[(0,.ref 0),(1,iI v2),(2,iI v3),(3,iI v4),(4,.fn v5.id v5.caps)],[],[(0,⟨3,1,lm (eInt .i64) v1⟩)],[0,1000000]⟩ ?_)
  unfold b6 at h
  refine ac (ks':=[ao [0,1],ao [1]]) 3 ?_
  rcases am h with ⟨h1,h⟩ | ⟨h1,h⟩
  ·
   exact ah 28 h1 (ae 7 (aL (p:=p81_45) n (kV hK n h)))
  ·
   refine ah 28 h1 (ac (ks':=[ao [1,0,1],ao [1,1]]) 5 ?_)
   rcases am h with ⟨h24,h⟩ | ⟨h24,h⟩
   ·
    exact ah 80 h24 (ae 7 (aL (p:=p81_46) n (ln hK n h)))
   ·
    refine ah 80 h24 ?_
    obtain ⟨v30,h47,h⟩:=bind_some h
    have h47:=Option.some.inj h47
    obtain ⟨v31,h48,h⟩:=bind_some h
    have h48:=Option.some.inj h48
    obtain ⟨v32,h49,h⟩:=bind_some h
    have h49:=Option.some.inj h49
    refine aV (ks':=[ao p81_47,ao p81_43]) 11 ⟨[(0,.ref 0),(1,iI v2),(2,iI v3),(3,iI v4),(4,.fn v5.id v5.caps),(18,iI v30),(19,iI v31),(140,.bool v32)],[],[(0,⟨3,1,lm (eInt .i64) v1⟩)],[0,1000000,0]⟩ ?_ (by subst h49; subst h48; subst h47; kernel_rfl)
    rcases am h with ⟨h50,h⟩ | ⟨h50,h⟩
    ·
     exact ah 140 h50 (ae 4 (jb hK h))
    ·
     exact ah 140 h50 (ae 4 (jb hK h))
end
def p73_0:=pth 0 1111100
def p73_1:=pth 0 111000
def p73_2:=pth 0 11111001011
def p73_3:=pth 0 1111100101000
def p73_4:=pth 0 111110010111
def p73_5:=pth 0 111110010100001
def p73_6:=pth 0 11111001010001
def p73_7:=pth 0 1111100101000100
def p73_8:=pth 0 1111100101000101
def p73_9:=pth 0 11111001011011
def p73_10:=pth 0 111110010110110
def p73_11:=pth 0 111110001
def p73_12:=pth 0 11111001
def p73_13:=pth 0 111110010100
def p73_14:=pth 0 11100001
def p73_15:=pth 0 1110001
def p73_16:=pth 0 111000100
def p73_17:=pth 0 111000101
def p73_18:=pth 0 11110
def p73_19:=pth 0 11111
def p73_20:=pth 0 111110
def p73_21:=pth 0 11100
noncomputable section
abbrev ch (M:Nat→Prop) (w0:Base):Cx:=⟨Try.prog,63,M,w0⟩
abbrev q73 (M:Nat→Prop) (w0:Base) (r:List Int):=bodyPost Try.prog Try.f73 (RetQ M w0 (fun v s=>v = .tup []∧look 0 s.r=some ⟨3,1,lm (eInt .i64) r⟩))
abbrev cd (M:Nat→Prop) (w0:Base) (r:List Int) (m2:Nat):Kont:=kl (ch M w0) (q73 M w0 r) [.b 2] (cat Try.f73 p73_0) m2
abbrev aR (p:List Nat):Kont:=.c (cat Try.f73 p)
abbrev k73_1 (M:Nat→Prop) (w0:Base) (r:List Int) (m1:Nat):Kont:=kl (ch M w0) (q73 M w0 r) [.b 0,aR [1,1,1]] (cat Try.f73 p73_1) m1
abbrev k73_3 (M:Nat→Prop) (w0:Base) (r:List Int) (m2 m3:Nat):Kont:=kl (ch M w0) (q73 M w0 r) [.b 4,aR p73_2,.b 3,cd M w0 r m2,.b 2] (cat Try.f73 p73_3) m3
def s73_j3 (v2:Int) (v3:Fv) (v17:Int) (v25:List Int):AS:=⟨[(0,.ref 0),(1,iI v2),(2,.fn v3.id v3.caps),(6,iI v17)],[],[(0,⟨3,1,lm (eInt .i64) v25⟩)],[0,1000000,0]⟩
def s73_l2 (v2:Int) (v3:Fv) (v17 v20 v21:Int) (v22:List Int):AS:=⟨[(0,.ref 0),(1,iI v2),(2,.fn v3.id v3.caps),(6,iI v17),(7,iI v20),(8,iI v21)],[],[(0,⟨3,1,lm (eInt .i64) v22⟩)],[0,1000000,0]⟩
def s73_l4 (v2:Int) (v3:Fv) (v17:Int) (v18:List Int):AS:=⟨[(0,.ref 0),(1,iI v2),(2,.fn v3.id v3.caps),(6,iI v17)],[],[(0,⟨3,1,lm (eInt .i64) v18⟩)],[0,1000000,0]⟩
def s73_l1 (v2:Int) (v3:Fv) (v5 v6:Int) (v7:List Int):AS:=⟨[(0,.ref 0),(1,iI v2),(2,.fn v3.id v3.caps),(6,iI 20),(7,iI v5),(8,iI v6)],[],[(0,⟨3,1,lm (eInt .i64) v7⟩)],[0,1000000,0]⟩
abbrev H73_1 (M:Nat→Prop) (w0:Base) (r:List Int) (v2:Int) (v3:Fv) (m1:Nat) (L1:Int→Int→(List Int)→Option (List Int)):Prop:=∀ {v5 v6:Int} {v7:List Int},L1 v5 v6 v7=some r→LP (ch M w0) (q73 M w0 r) [.b 0,aR [1,1,1]] (cat Try.f73 p73_1) m1 (s73_l1 v2 v3 v5 v6 v7)
abbrev H73_2 (M:Nat→Prop) (w0:Base) (r:List Int) (v2:Int) (v3:Fv) (m2:Nat) (L2:Int→(List Int)→Option (List Int)):Prop:=∀ {v17:Int} {v18:List Int},L2 v17 v18=some r→LP (ch M w0) (q73 M w0 r) [.b 2] (cat Try.f73 p73_0) m2 (s73_l4 v2 v3 v17 v18)
abbrev H73_3 (M:Nat→Prop) (w0:Base) (r:List Int) (v2:Int) (v3:Fv) (v17:Int) (m2 m3:Nat) (L3:Int→Int→(List Int)→Option (List Int)):Prop:=∀ {v20 v21:Int} {v22:List Int},L3 v20 v21 v22=some r→LP (ch M w0) (q73 M w0 r) [.b 4,aR p73_2,.b 3,cd M w0 r m2,.b 2] (cat Try.f73 p73_3) m3 (s73_l2 v2 v3 v17 v20 v21 v22)
variable {K:Kn} {n:Nat} {M:Nat→Prop} {w0:Base} {r v1:List Int} {v2:Int} {v3:Fv} {v5 v6:Int} {v7:List Int} {v17:Int} {v18:List Int} {v20 v21:Int} {v22 v25:List Int} {m1:Nat} {L1:Int→Int→(List Int)→Option (List Int)} {m2:Nat} {L2:Int→(List Int)→Option (List Int)} {m3:Nat} {L3:Int→Int→(List Int)→Option (List Int)}
theorem jv (hK:KnOk K) (hL2:H73_2 M w0 r v2 v3 m2 L2) (h:e9 K n v2 v3 v17 L2 v25=some r):VE (ch M w0) (q73 M w0 r) [aR p73_4,.b 3,cd M w0 r m2,.b 2] .normal (s73_j3 v2 v3 v17 v25):=by
  unfold e9 at h
  exact ae 2 (aN (hL2 h))
theorem kz (hK:KnOk K) (hL2:H73_2 M w0 r v2 v3 m2 L2) (hL3:H73_3 M w0 r v2 v3 v17 m2 m3 L3) (h:fF K n v2 v3 v17 L2 L3 v20 v21 v22=some r):VE (ch M w0) (q73 M w0 r) [aR p73_3,k73_3 M w0 r m2 m3,.b 4,aR p73_2,.b 3,cd M w0 r m2,.b 2] .normal (s73_l2 v2 v3 v17 v20 v21 v22):=by
  unfold fF at h
  refine ac (ks':=[aR p73_5,aR p73_6,k73_3 M w0 r m2 m3,.b 4,aR p73_2,.b 3,cd M w0 r m2,.b 2]) 3 ?_
  rcases am h with ⟨h16,h⟩ | ⟨h16,h⟩
  ·
   refine ah 35 h16 (ac (ks':=[aR p73_7,aR p73_8,.b 5,k73_3 M w0 r m2 m3,.b 4,aR p73_2,.b 3,cd M w0 r m2,.b 2]) 4 (ai 7 ?_))
   obtain ⟨v23,h17,h⟩:=bind_some h
   exact bM 0 0 (hE hK h17) (af (ae 4 (aN (hL3 h))))
  ·
   refine ah 35 h16 (ac (ks':=[aR p73_9,aR p73_4,.b 3,cd M w0 r m2,.b 2]) 10 ?_)
   rcases am h with ⟨h18,h⟩ | ⟨h18,h⟩
   ·
    refine ah 54 h18 (ac (ks':=[aR p73_10,aR p73_4,.b 3,cd M w0 r m2,.b 2]) 1 (ai 5 ?_))
    obtain ⟨v24,h19,h⟩:=bind_some h
    exact bM 0 0 (hE hK h19) (af (ae 0 (jv hK hL2 h)))
   ·
    exact ah 54 h18 (ae 2 (jv hK hL2 h))
theorem jG (hK:KnOk K) (hL2:H73_2 M w0 r v2 v3 m2 L2) (m:Nat):H73_3 M w0 r v2 v3 v17 m2 m (dQ K n v2 v3 v17 L2 m):=by
  induction m with
 | zero=>intro v20 v21 v22 h; cases h
 | succ m ih=>intro v20 v21 v22 h; have h:fF K n v2 v3 v17 L2 (dQ K n v2 v3 v17 L2 m) v20 v21 v22=some r:=h; exact aM (kz hK hL2 ih h)
theorem jD (hK:KnOk K) (hL2:H73_2 M w0 r v2 v3 m2 L2) (h:eJ K n v2 v3 L2 v17 v18=some r):VE (ch M w0) (q73 M w0 r) [aR p73_0,cd M w0 r m2,.b 2] .normal (s73_l4 v2 v3 v17 v18):=by
  unfold eJ at h
  refine ac (ks':=[aR p73_11,aR p73_12,cd M w0 r m2,.b 2]) 3 ?_
  rcases am h with ⟨h13,h⟩ | ⟨h13,h⟩
  ·
   exact ah 30 h13 (ae 7 (aL (p:=p73_13) n (jG hK hL2 n h)))
  ·
   refine ah 30 h13 (ac (ks':=[]) 5 (ef ?_))
   cases h
   exact cD
theorem j8 (hK:KnOk K) (m:Nat):H73_2 M w0 r v2 v3 m (cR K n v2 v3 m):=by
  induction m with
 | zero=>intro v17 v18 h; cases h
 | succ m ih=>intro v17 v18 h; have h:eJ K n v2 v3 (cR K n v2 v3 m) v17 v18=some r:=h; exact aM (jD hK ih h)
theorem kM (hK:KnOk K) (hL1:H73_1 M w0 r v2 v3 m1 L1) (h:eY K n v2 v3 L1 v5 v6 v7=some r):VE (ch M w0) (q73 M w0 r) [aR p73_1,k73_1 M w0 r m1,.b 0,aR [1,1,1]] .normal (s73_l1 v2 v3 v5 v6 v7):=by
  unfold eY at h
  refine ac (ks':=[aR p73_14,aR p73_15,k73_1 M w0 r m1,.b 0,aR [1,1,1]]) 3 ?_
  rcases am h with ⟨h3,h⟩ | ⟨h3,h⟩
  ·
   refine ah 13 h3 (ac (ks':=[aR p73_16,aR p73_17,.b 1,k73_1 M w0 r m1,.b 0,aR [1,1,1]]) 4 (ai 4 ?_))
   obtain ⟨v8,h4,h⟩:=bind_some h
   exact bM 0 0 (jg hK h4) (af (ae 4 (aN (hL1 h))))
  ·
   refine ah 13 h3 (ac (ks':=[aR p73_18,aR p73_19]) 6 (ai 4 ?_))
   obtain ⟨v9,h5,h⟩:=bind_some h
   exact bM 0 0 (jg hK h5) (af (ae 1 (aL (p:=p73_20) n (j8 hK n h))))
theorem kL (hK:KnOk K) (m:Nat):H73_1 M w0 r v2 v3 m (dW K n v2 v3 m):=by
  induction m with
 | zero=>intro v5 v6 v7 h; cases h
 | succ m ih=>intro v5 v6 v7 h; have h:eY K n v2 v3 (dW K n v2 v3 m) v5 v6 v7=some r:=h; exact aM (kM hK ih h)
theorem ku (hK:KnOk K) (h:gL K n v1 v2 v3=some r):AIO Try.prog 73 [.ref 0,iI v2,.fn v3.id v3.caps] 0 ⟨3,1,lm (eInt .i64) v1⟩ (fun v s=>v = .tup []∧look 0 s.r=some ⟨3,1,lm (eInt .i64) r⟩):=by
  refine dH (c:=cat Try.f73 []) Try.func73 (by kernel_rfl) _ Try.ntmps73 (of_decide_eq_true (by kernel_rfl)) fun M w0=>(aP ⟨[(0,.ref 0),(1,iI v2),(2,.fn v3.id v3.caps)],[],[(0,⟨3,1,lm (eInt .i64) v1⟩)],[0,1000000]⟩ ?_)
  unfold gL at h
  exact ae 6 (aL (p:=p73_21) n (kL hK n h))
end
noncomputable section
variable {K:Kn} {n:Nat} {M:Nat→Prop} {w0:Base} {r v1:List Int} {v2:Fv} 
theorem jd (hK:KnOk K) (h:cV K n v1 v2=some r):AIO Try.prog 58 [.ref 0,.fn v2.id v2.caps] 0 ⟨3,1,lm (eInt .i64) v1⟩ (fun v s=>v = .tup []∧look 0 s.r=some ⟨3,1,lm (eInt .i64) r⟩):=by
  refine dH (c:=cat Try.f58 []) Try.func58 (by kernel_rfl) _ Try.ntmps58 (of_decide_eq_true (by kernel_rfl)) fun M w0=>(aP ⟨[(0,.ref 0),(1,.fn v2.id v2.caps)],[],[(0,⟨3,1,lm (eInt .i64) v1⟩)],[0,1000000]⟩ ?_)
  unfold cV at h
  refine ai 2 (ak (aF (eInt .i64) v1) (aB 4 1 ?_))
  obtain ⟨v3,h1,h⟩:=bind_some h
  refine bM 0 0 (ku hK h1) (af (ef ?_))
  cases h
  exact cD
end
noncomputable section
variable {K:Kn} {n:Nat} {M:Nat→Prop} {w0:Base} {r:Bool} {v1:Int} 
theorem jr (hK:KnOk K) (h:fy K n v1=some r):ACalls Try.prog 74 [iI v1] (fun v _=>v = .bool r):=by
  refine aU (cat Try.f74 []) Try.func74 Try.ntmps74 fun M w0=>(aP ⟨[(0,iI v1)],[],[],[]⟩ ?_)
  unfold fy at h
  refine aD 5 ?_
  cases h
  exact aQ
end
def p60_0:=pth 0 111101
def p60_1:=pth 0 11111
def p60_2:=pth 0 111101001
def p60_3:=pth 0 11110101
def p60_4:=pth 0 1111101
def p60_5:=pth 5 1
def p60_6:=pth 5 101
def p60_7:=pth 6 1
def p60_8:=pth 6 101
def p60_9:=pth 7 1
noncomputable section
variable {K:Kn} {n:Nat} {M:Nat→Prop} {w0:Base} {r v1 v2:Int} 
abbrev bz (p:List Nat):Kont:=.c (cat Try.f60 p)
theorem ju (hK:KnOk K) (h:e8 K n v1 v2=some r):ACalls Try.prog 60 [iI v1,iI v2] (fun v _=>v=iI r):=by
  refine aU (cat Try.f60 []) Try.func60 Try.ntmps60 fun M w0=>(aP ⟨[(0,iI v1),(1,iI v2)],[],[],[]⟩ ?_)
  unfold e8 at h
  refine ac (ks':=[bz [1,0],bz [1,1]]) 3 (ai 1 ?_)
  obtain ⟨v3,h1,h⟩:=bind_some h
  refine bn (jr hK h1) (af (ac (ks':=[bz [1,1,0],bz [1,1,1]]) 1 (ai 1 ?_)))
  obtain ⟨v4,h2,h⟩:=bind_some h
  refine bn (jr hK h2) (af (ac (ks':=[bz p60_0,bz p60_1]) 3 ?_))
  rcases am h with ⟨h3,h⟩ | ⟨h3,h⟩
  ·
   refine ah 11 h3 (ac (ks':=[bz p60_2,bz p60_3,bz p60_1]) 4 ?_)
   rcases am h with ⟨h4,h⟩ | ⟨h4,h⟩
   ·
    refine ah 12 h4 (aD 6 ?_)
    cases h
    exact aQ
   ·
    refine ah 12 h4 (aD 6 ?_)
    cases h
    exact aQ
  ·
   refine ah 11 h3 (ac (ks':=[bz p60_4,bz p60_5]) 5 ?_)
   rcases am h with ⟨h5,h⟩ | ⟨h5,h⟩
   ·
    refine ah 13 h5 (aD 5 ?_)
    cases h
    exact aQ
   ·
    refine ah 13 h5 (ac (ks':=[bz p60_6,bz p60_7]) 5 ?_)
    rcases am h with ⟨h6,h⟩ | ⟨h6,h⟩
    ·
     refine ah 16 h6 (aD 5 ?_)
     cases h
     exact aQ
    ·
     refine ah 16 h6 (ac (ks':=[bz p60_8,bz p60_9]) 5 ?_)
     rcases am h with ⟨h7,h⟩ | ⟨h7,h⟩
     ·
      refine ah 19 h7 (aD 5 ?_)
      cases h
      exact aQ
     ·
      refine ah 19 h7 (aD 5 ?_)
      cases h
      exact aQ
end
noncomputable section
variable {K:Kn} {n:Nat} {M:Nat→Prop} {w0:Base} {r v1 v2:Int} {v3:List Int} 
abbrev cF59 (p:List Nat):Kont:=.c (cat Try.f59 p)
theorem kx (hK:KnOk K) (h:gT K n v1 v2 v3=some r):ACalls Try.prog 59 [iI v1,iI v2,.cptr ([.sl (lm (eInt .i64) v3)])] (fun v _=>v=iI r):=by
  refine aU (cat Try.f59 []) Try.func59 Try.ntmps59 fun M w0=>(aP ⟨[(0,iI v1),(1,iI v2),(2,.cptr ([.sl (lm (eInt .i64) v3)]))],[],[],[]⟩ ?_)
  unfold gT at h
  refine ac (ks':=[cF59 [1,0],cF59 [1,1]]) 3 (bk [0,1,2] [] [] ?_)
  obtain ⟨h1,h⟩:=aj h
  obtain ⟨h2,h⟩:=aj h
  obtain ⟨v4,h3,h⟩:=bind_some h
  refine bf 1 (nu 6 [.sl (lm (eInt .i64) v3),iI v2,.cptr ([iI (gD v3 v2)]),iI (gD v3 v2),.sl (lm (eInt .i64) v3),iI v1,.cptr ([iI (gD v3 v1)]),iI (gD v3 v1),iI v4]) [] [] [stp Try.prog 15 Try.f59 [1,0] 9] (az (vz 2) (d_v (aY (eInt .i64) (eInt .i64) h1 (fun _=>rfl) (fun _=>rfl)) (az (vz 3) (d_v (aY (eInt .i64) (eInt .i64) h2 (fun _=>rfl) (fun _=>rfl)) (az [.v 0 1] (av (e_c 0 1 14 (ju hK h3)) (av (e_d 0) bi))))))) (aD 1 ?_)
  cases h
  exact aQ
end
def dY:=pth 12 1
def p27_1:=pth 11 10100
def cB:=pth 10 1
def p27_3:=pth 9 10100
def eo:=pth 7 1
def p27_5:=pth 6 10100
def p27_6:=pth 11 1010010
def p27_7:=pth 11 1010011
def p27_8:=pth 11 1010011000
def p27_9:=pth 11 1010011001
def p27_10:=pth 11 10100111
def p27_11:=pth 9 1010010
def p27_12:=pth 9 1010011
def p27_13:=pth 9 1010011000
def p27_14:=pth 9 1010011001
def p27_15:=pth 9 10100111
def p27_16:=pth 9 10100110010
def p27_17:=pth 9 10100110011
def p27_18:=pth 9 101001100110
def p27_19:=pth 9 101001100111
def p27_20:=pth 10 10
def p27_21:=pth 11 1
def p27_22:=pth 11 100
def p27_23:=pth 11 101
def p27_24:=pth 11 1010
def p27_25:=pth 6 1010010
def p27_26:=pth 6 1010011
def p27_27:=pth 6 1010011000
def p27_28:=pth 6 1010011001
def p27_29:=pth 6 10100111
def p27_30:=pth 7 101
def p27_31:=pth 8 1
def p27_32:=pth 9 100
def p27_33:=pth 9 101
def p27_34:=pth 9 1010
def p27_35:=pth 0 11110
def p27_36:=pth 0 11111
def p27_37:=pth 0 111110
def p27_38:=pth 5 1
def p27_39:=pth 6 100
def p27_40:=pth 6 101
def p27_41:=pth 6 1010
noncomputable section
abbrev cv (M:Nat→Prop) (w0:Base):Cx:=⟨Try.prog,96,M,w0⟩
abbrev q27 (M:Nat→Prop) (w0:Base) (r:List Int):=bodyPost Try.prog Try.f27 (RetQ M w0 (fun v s=>v = .ref 21∧look 21 s.r=some ⟨3,1,lm (eInt .i64) r⟩))
abbrev au (p:List Nat):Kont:=.c (cat Try.f27 p)
abbrev k27_3 (M:Nat→Prop) (w0:Base) (r:List Int) (m3:Nat):Kont:=kl (cv M w0) (q27 M w0 r) [.b 4,au dY] (cat Try.f27 p27_1) m3
abbrev dG (M:Nat→Prop) (w0:Base) (r:List Int) (m2:Nat):Kont:=kl (cv M w0) (q27 M w0 r) [.b 2,au cB] (cat Try.f27 p27_3) m2
abbrev k27_1 (M:Nat→Prop) (w0:Base) (r:List Int) (m1:Nat):Kont:=kl (cv M w0) (q27 M w0 r) [.b 0,au eo] (cat Try.f27 p27_5) m1
def s27_l3 (v26:List Int) (v27 v28:Int) (v29:List Int):AS:=⟨[(5,.ref 21),(82,.sl (lm (eInt .i64) v26)),(83,iI v27),(84,iI v28)],[],[(21,⟨3,1,lm (eInt .i64) v29⟩)],[21]⟩
def s27_l2 (v2:List Int) (v3 v8 v14 v15:Int) (v16 v17 v18:List Int):AS:=⟨[(0,iI v3),(5,.ref 21),(6,.ptr 6 0),(7,.ref 27),(8,iI v8),(11,iI v14),(43,.sl (lm (eInt .i64) v2)),(44,iI (v2.length:Int)),(45,iI v15)],[(6,[.ref 24])],[(21,⟨3,1,lm (eInt .i64) v16⟩),(24,⟨3,1,lm (eInt .i64) v17⟩),(27,⟨3,1,lm (eInt .i64) v18⟩)],[6,21,24,27]⟩
def s27_l1 (v2:List Int) (v3:Int) (v4 v5 v6:List Int) (v8 v9:Int):AS:=⟨[(0,iI v3),(1,.sl (lm (eInt .i64) v2)),(5,.ref 21),(6,.ptr 6 0),(7,.ref 27),(8,iI v8),(28,.sl (lm (eInt .i64) v2)),(29,iI (v2.length:Int)),(30,iI v9)],[(6,[.ref 24])],[(21,⟨3,1,lm (eInt .i64) v4⟩),(24,⟨3,1,lm (eInt .i64) v5⟩),(27,⟨3,1,lm (eInt .i64) v6⟩)],[6,21,24,27]⟩
abbrev H27_1 (M:Nat→Prop) (w0:Base) (r v2:List Int) (v3:Int) (v4 v5 v6:List Int) (m1:Nat) (L1:Int→Int→Option (List Int)):Prop:=∀ {v8 v9:Int},L1 v8 v9=some r→LP (cv M w0) (q27 M w0 r) [.b 0,au eo] (cat Try.f27 p27_5) m1 (s27_l1 v2 v3 v4 v5 v6 v8 v9)
abbrev H27_2 (M:Nat→Prop) (w0:Base) (r v2:List Int) (v3 v8:Int) (m2:Nat) (L2:Int→Int→(List Int)→(List Int)→(List Int)→Option (List Int)):Prop:=∀ {v14 v15:Int} {v16 v17 v18:List Int},L2 v14 v15 v16 v17 v18=some r→LP (cv M w0) (q27 M w0 r) [.b 2,au cB] (cat Try.f27 p27_3) m2 (s27_l2 v2 v3 v8 v14 v15 v16 v17 v18)
abbrev H27_3 (M:Nat→Prop) (w0:Base) (r:List Int) (m3:Nat) (L3:(List Int)→Int→Int→(List Int)→Option (List Int)):Prop:=∀ {v26:List Int} {v27 v28:Int} {v29:List Int},L3 v26 v27 v28 v29=some r→LP (cv M w0) (q27 M w0 r) [.b 4,au dY] (cat Try.f27 p27_1) m3 (s27_l3 v26 v27 v28 v29)
variable {K:Kn} {n:Nat} {M:Nat→Prop} {w0:Base} {r:List Int} {v1:Int} {v2:List Int} {v3:Int} {v4 v5 v6:List Int} {v8 v9 v14 v15:Int} {v16 v17 v18 v26:List Int} {v27 v28:Int} {v29:List Int} {m1:Nat} {L1:Int→Int→Option (List Int)} {m2:Nat} {L2:Int→Int→(List Int)→(List Int)→(List Int)→Option (List Int)} {m3:Nat} {L3:(List Int)→Int→Int→(List Int)→Option (List Int)}
theorem kW (hK:KnOk K) (hL3:H27_3 M w0 r m3 L3) (h:gb K n L3 v26 v27 v28 v29=some r):VE (cv M w0) (q27 M w0 r) [au p27_1,k27_3 M w0 r m3,.b 4,au dY] .normal (s27_l3 v26 v27 v28 v29):=by
  unfold gb at h
  refine ac (ks':=[au p27_6,au p27_7,k27_3 M w0 r m3,.b 4,au dY]) 3 ?_
  rcases am h with ⟨h46,h⟩ | ⟨h46,h⟩
  ·
   refine ah 85 h46 (ac (ks':=[au p27_8,au p27_9,.b 5,au p27_10,k27_3 M w0 r m3,.b 4,au dY]) 5 (ai 0 ?_))
   obtain ⟨h47,h⟩:=aj h
   refine ak (aY (eInt .i64) (eInt .i64) h47 (fun _=>rfl) (fun _=>rfl)) (af (ai 2 ?_))
   obtain ⟨h48,h⟩:=aj h
   refine ak (ba 21 1 (eInt .i64) h48) (ak (aJ 3 0 (eInt .i64) (eInt .i64) (aw h48).2 (fun _=>rfl)) (aB 5 1 ?_))
   obtain ⟨h49,h⟩:=aj h
   exact ak (ba 21 1 (eInt .i64) h49) (ak (bd 21 3 1 0 (eInt .i64) (eInt .i64) (w64 ((gD v29 ((gD v26 v28)))+1)) (aw h49).2 (fun _=>rfl)) (af (ae 2 (aN (hL3 h)))))
  ·
   refine ah 85 h46 (aD 8 ?_)
   cases h
   exact ct
theorem kA (hK:KnOk K) (m:Nat):H27_3 M w0 r m (gj K n m):=by
  induction m with
 | zero=>intro v26 v27 v28 v29 h; cases h
 | succ m ih=>intro v26 v27 v28 v29 h; have h:gb K n (gj K n m) v26 v27 v28 v29=some r:=h; exact aM (kW hK ih h)
theorem jI (hK:KnOk K) (hL2:H27_2 M w0 r v2 v3 v8 m2 L2) (h:gE K n v2 v3 v8 L2 v14 v15 v16 v17 v18=some r):VE (cv M w0) (q27 M w0 r) [au p27_3,dG M w0 r m2,.b 2,au cB] .normal (s27_l2 v2 v3 v8 v14 v15 v16 v17 v18):=by
  unfold gE at h
  refine ac (ks':=[au p27_11,au p27_12,dG M w0 r m2,.b 2,au cB]) 3 ?_
  rcases am h with ⟨h26,h⟩ | ⟨h26,h⟩
  ·
   refine ah 46 h26 (ac (ks':=[au p27_13,au p27_14,.b 3,au p27_15,dG M w0 r m2,.b 2,au cB]) 5 (ai 1 ?_))
   obtain ⟨h27,h⟩:=aj h
   refine ak (aY (eInt .i64) (eInt .i64) h27 (fun _=>rfl) (fun _=>rfl)) (af (ac (ks':=[au p27_16,au p27_17,.b 3,au p27_15,dG M w0 r m2,.b 2,au cB]) 1 (ai 2 ?_)))
   obtain ⟨v19,h28,h⟩:=bind_some h
   refine bn (iD hK h28) (af (ac (ks':=[au p27_18,au p27_19,.b 3,au p27_15,dG M w0 r m2,.b 2,au cB]) 1 (bk [0,5,6,7,8,11,12,14,43,44,45] [6] [21,24,27] ?_)))
   obtain ⟨h29,h⟩:=aj h
   obtain ⟨h30,h⟩:=aj h
   obtain ⟨h31,h⟩:=aj h
   obtain ⟨h32,h⟩:=aj h
   obtain ⟨h33,h⟩:=aj h
   refine bf 3 (nu 54 [.ref 21,iI v15,.ref 24,iI v15,.ref 27,iI v15,iI (w64 (v3*v19)),iI v8,iI (w64 (Int.tdiv (w64 (v3*v19)) v8)),iI (w64 (v3*v19)),iI v8,iI (Int.tmod (w64 (v3*v19)) v8),iI v15,.eptr 21 1 (v15.toNat) 0,.eptr 24 1 (v15.toNat) 0,.eptr 27 1 (v15.toNat) 0]) [] [] [strS 21 ⟨3,1,lm (eInt .i64) (List.set v16 v15.toNat (w64 (Int.tdiv (w64 (v3*v19)) v8)))⟩,strS 24 ⟨3,1,lm (eInt .i64) (List.set v17 v15.toNat (Int.tmod (w64 (v3*v19)) v8))⟩,strS 27 ⟨3,1,lm (eInt .i64) (List.set v18 v15.toNat v15)⟩] (az [.v 0 1,.v 0 1,.v 0 2,.v 0 2,.v 0 3,.v 0 3,.v 0 1,.v 0 1] (d_v (y_quo .i64 (w64 (v3*v19)) h29) (az [.v 0 2,.v 0 2] (av (k_v (lo:=0) (k:=2) (br ⟨(by kernel_rfl),(bD (y_rem .i64 (w64 (v3*v19)) h30) (by kernel_rfl))⟩ (br ⟨(by kernel_rfl),(bD (y_rem .i64 (w64 (v3*v19)) h30) (by kernel_rfl))⟩ cE))) (az [.v 0 3] (d_v (aH 21 1 (eInt .i64) (L:=v16) h31) (av (e_s (m:=0) (bd 21 3 1 0 (eInt .i64) (eInt .i64) (w64 (Int.tdiv (w64 (v3*v19)) v8)) (aw h31).2 (fun _=>rfl))) (av (e_v (lo:=1) (aH 24 1 (eInt .i64) (L:=v17) h32)) (av (e_s (m:=1) (bd 24 3 1 0 (eInt .i64) (eInt .i64) (Int.tmod (w64 (v3*v19)) v8) (aw h32).2 (fun _=>rfl))) (av (e_v (lo:=2) (aH 27 1 (eInt .i64) (L:=v18) h33)) (av (e_s (m:=2) (bd 27 3 1 0 (eInt .i64) (eInt .i64) v15 (aw h33).2 (fun _=>rfl))) bi))))))))))) ?_
   obtain ⟨v20,h34,h⟩:=bind_some h
   have h34:=Option.some.inj h34
   obtain ⟨v21,h35,h⟩:=bind_some h
   have h35:=Option.some.inj h35
   refine aV (ks':=[au p27_19,.b 3,au p27_15,dG M w0 r m2,.b 2,au cB]) 0 ⟨[(0,iI v3),(5,.ref 21),(6,.ptr 6 0),(7,.ref 27),(8,iI v8),(11,iI v14),(12,iI v15),(43,.sl (lm (eInt .i64) v2)),(44,iI (v2.length:Int)),(45,iI v15)],[(6,[.ref 24])],[(21,⟨3,1,lm (eInt .i64) v20⟩),(24,⟨3,1,lm (eInt .i64) v21⟩),(27,⟨3,1,lm (eInt .i64) (List.set v18 v15.toNat v15)⟩)],[6,21,24,27]⟩ ?_ (by subst h35; subst h34; kernel_rfl)
   refine ai 3 ?_
   obtain ⟨h36,h⟩:=aj h
   exact ak (ba 21 1 (eInt .i64) h36) (ak (aJ 3 0 (eInt .i64) (eInt .i64) (aw h36).2 (fun _=>rfl)) (af (ae 2 (aN (hL2 h)))))
  ·
   refine ah 46 h26 (ac (ks':=[au p27_20,au p27_21]) 6 (ai 1 (ot_f 24 (ot_fo 6 6 ([.sl (lm (eInt .i64) v17)]) (ot_mf 59 #[(.tmp 6)] [.cptr ([.sl (lm (eInt .i64) v17)])] ?_)))))
   obtain ⟨v22,h37,h⟩:=bind_some h
   refine bM 27 0 (jd hK h37) (af (ac (ks':=[au p27_22,au p27_23,au dY]) 2 (ai 2 (ot_f 27 ?_))))
   obtain ⟨h38,h⟩:=aj h
   exact ak (iQ (eInt .i64) v22 (0:Int) v14 33 (.tmp 80) none (some (.tmp 81)) 82 (e:=3) (sz:=1) (by kernel_rfl) (by kernel_rfl) (by kernel_rfl) (by kernel_rfl) (by kernel_rfl) (by kernel_rfl) (fun _=>rfl) (fun k hk=>by subst hk; kernel_rfl) h38) (ak (aF (eInt .i64) (List.drop ((0:Int)).toNat (List.take v14.toNat v22))) (af (ae 1 (aL (p:=p27_24) n (kA hK n h)))))
theorem kZ (hK:KnOk K) (m:Nat):H27_2 M w0 r v2 v3 v8 m (gH K n v2 v3 v8 m):=by
  induction m with
 | zero=>intro v14 v15 v16 v17 v18 h; cases h
 | succ m ih=>intro v14 v15 v16 v17 v18 h; have h:gE K n v2 v3 v8 (gH K n v2 v3 v8 m) v14 v15 v16 v17 v18=some r:=h; exact aM (jI hK ih h)
theorem jF (hK:KnOk K) (hL1:H27_1 M w0 r v2 v3 v4 v5 v6 m1 L1) (h:gw K n v2 v3 v4 v5 v6 L1 v8 v9=some r):VE (cv M w0) (q27 M w0 r) [au p27_5,k27_1 M w0 r m1,.b 0,au eo] .normal (s27_l1 v2 v3 v4 v5 v6 v8 v9):=by
  unfold gw at h
  refine ac (ks':=[au p27_25,au p27_26,k27_1 M w0 r m1,.b 0,au eo]) 3 ?_
  rcases am h with ⟨h11,h⟩ | ⟨h11,h⟩
  ·
   refine ah 31 h11 (ac (ks':=[au p27_27,au p27_28,.b 1,au p27_29,k27_1 M w0 r m1,.b 0,au eo]) 5 (ai 0 ?_))
   obtain ⟨h12,h⟩:=aj h
   refine ak (aY (eInt .i64) (eInt .i64) h12 (fun _=>rfl) (fun _=>rfl)) (af (ai 2 ?_))
   obtain ⟨v10,h13,h⟩:=bind_some h
   exact bn (iD hK h13) (af (ae 2 (aN (hL1 h))))
  ·
   refine ah 31 h11 (ac (ks':=[au p27_30,au p27_31]) 8 ?_)
   rcases am h with ⟨h14,h⟩ | ⟨h14,h⟩
   ·
    refine ah 40 h14 (aD 5 ?_)
    cases h
    exact ct
   ·
    exact ah 40 h14 (ac (ks':=[au p27_32,au p27_33,au cB]) 6 (ai 1 (ak (aF (eInt .i64) v2) (af (ae 1 (aL (p:=p27_34) n (kZ hK n h)))))))
theorem j6 (hK:KnOk K) (m:Nat):H27_1 M w0 r v2 v3 v4 v5 v6 m (gi K n v2 v3 v4 v5 v6 m):=by
  induction m with
 | zero=>intro v8 v9 h; cases h
 | succ m ih=>intro v8 v9 h; have h:gw K n v2 v3 v4 v5 v6 (gi K n v2 v3 v4 v5 v6 m) v8 v9=some r:=h; exact aM (jF hK ih h)
theorem iU (hK:KnOk K) (h:gl K n v1 v2=some r):ACalls Try.prog 27 [iI v1,.sl (lm (eInt .i64) v2)] (fun v s=>v = .ref 21∧look 21 s.r=some ⟨3,1,lm (eInt .i64) r⟩):=by
  refine aU (cat Try.f27 []) Try.func27 Try.ntmps27 fun M w0=>(aP ⟨[(0,iI v1),(1,.sl (lm (eInt .i64) v2))],[],[],[]⟩ ?_)
  unfold gl at h
  refine ac (ks':=[au [1,0],au [1,1]]) 3 (ai 1 ?_)
  obtain ⟨v3,h1,h⟩:=bind_some h
  refine bn (iD hK h1) (af (ac (ks':=[au [1,1,0],au [1,1,1]]) 1 (ai 1 (ak (aF (eInt .i64) v2) ?_))))
  obtain ⟨h2,h⟩:=aj h
  refine cz (eInt .i64) (0:Int) 33 (.tmp 20) (.tmp 20) 21 (e:=3) (sz:=1) (zc:=[iI 0]) (kd:=.i64) (kd':=.i64) h2 (af ?_)
  obtain ⟨v4,h3,h⟩:=bind_some h
  have h3:=Option.some.inj h3
  refine aV (ks':=[au p27_35,au p27_36]) 1 ⟨[(0,iI v3),(1,.sl (lm (eInt .i64) v2)),(5,.ref 21)],[],[(21,⟨3,1,lm (eInt .i64) v4⟩)],[21]⟩ ?_ (by subst h3; kernel_rfl)
  refine ai 1 (ak (aF (eInt .i64) v2) ?_)
  obtain ⟨h4,h⟩:=aj h
  refine cz (eInt .i64) (0:Int) 33 (.tmp 23) (.tmp 23) 24 (e:=3) (sz:=1) (zc:=[iI 0]) (kd:=.i64) (kd':=.i64) h4 (af ?_)
  obtain ⟨v5,h5,h⟩:=bind_some h
  have h5:=Option.some.inj h5
  refine aV (ks':=[au p27_37,au p27_38]) 1 ⟨[(0,iI v3),(1,.sl (lm (eInt .i64) v2)),(5,.ref 21),(6,.ptr 6 0)],[(6,[.ref 24])],[(21,⟨3,1,lm (eInt .i64) v4⟩),(24,⟨3,1,lm (eInt .i64) v5⟩)],[6,21,24]⟩ ?_ (by subst h5; kernel_rfl)
  refine ai 1 (ak (aF (eInt .i64) v2) ?_)
  obtain ⟨h6,h⟩:=aj h
  refine cz (eInt .i64) (0:Int) 33 (.tmp 26) (.tmp 26) 27 (e:=3) (sz:=1) (zc:=[iI 0]) (kd:=.i64) (kd':=.i64) h6 (af ?_)
  obtain ⟨v6,h7,h⟩:=bind_some h
  have h7:=Option.some.inj h7
  refine aV (ks':=[au p27_39,au p27_40,au eo]) 4 ⟨[(0,iI v3),(1,.sl (lm (eInt .i64) v2)),(5,.ref 21),(6,.ptr 6 0),(7,.ref 27),(8,iI 0)],[(6,[.ref 24])],[(21,⟨3,1,lm (eInt .i64) v4⟩),(24,⟨3,1,lm (eInt .i64) v5⟩),(27,⟨3,1,lm (eInt .i64) v6⟩)],[6,21,24,27]⟩ ?_ (by subst h7; kernel_rfl)
  exact ai 1 (ak (aF (eInt .i64) v2) (af (ae 1 (aL (p:=p27_41) n (j6 hK n h)))))
end
def p75_0:=pth 0 110100
def p75_1:=pth 0 11010010
def p75_2:=pth 0 11010011
def p75_3:=pth 0 110100110010
def p75_4:=pth 0 110100110011
def p75_5:=pth 0 110100111
def p75_6:=pth 0 11010
noncomputable section
abbrev cx75 (M:Nat→Prop) (w0:Base):Cx:=⟨Try.prog,19,M,w0⟩
abbrev q75 (M:Nat→Prop) (w0:Base) (r:Int):=bodyPost Try.prog Try.f75 (RetQ M w0 (fun v _=>v=iI r))
abbrev bF (p:List Nat):Kont:=.c (cat Try.f75 p)
abbrev k75_1 (M:Nat→Prop) (w0:Base) (r:Int) (m1:Nat):Kont:=kl (cx75 M w0) (q75 M w0 r) [.b 0,bF [1,1]] (cat Try.f75 p75_0) m1
def s75_l1 (v1:List Int) (v2:Fv) (v4:Int):AS:=⟨[(0,.sl (lm (eInt .i64) v1)),(1,.fn v2.id v2.caps),(7,iI (v1.length:Int)),(8,iI v4)],[],[],[]⟩
abbrev H75_1 (M:Nat→Prop) (w0:Base) (r:Int) (v1:List Int) (v2:Fv) (m1:Nat) (L1:Int→Option Int):Prop:=∀ {v4:Int},L1 v4=some r→LP (cx75 M w0) (q75 M w0 r) [.b 0,bF [1,1]] (cat Try.f75 p75_0) m1 (s75_l1 v1 v2 v4)
variable {K:Kn} {n:Nat} {M:Nat→Prop} {w0:Base} {r:Int} {v1:List Int} {v2:Fv} {v4:Int} {m1:Nat} {L1:Int→Option Int}
theorem jC (hK:KnOk K) (hL1:H75_1 M w0 r v1 v2 m1 L1) (h:fP K n v1 v2 L1 v4=some r):VE (cx75 M w0) (q75 M w0 r) [bF p75_0,k75_1 M w0 r m1,.b 0,bF [1,1]] .normal (s75_l1 v1 v2 v4):=by
  unfold fP at h
  refine ac (ks':=[bF p75_1,bF p75_2,k75_1 M w0 r m1,.b 0,bF [1,1]]) 3 ?_
  rcases am h with ⟨h5,h⟩ | ⟨h5,h⟩
  ·
   refine ah 9 h5 (ac (ks':=[bF p75_3,bF p75_4,.b 1,bF p75_5,k75_1 M w0 r m1,.b 0,bF [1,1]]) 7 (ai 3 ?_))
   obtain ⟨h6,h⟩:=aj h
   refine ak (aY (eInt .i64) (eInt .i64) h6 (fun _=>rfl) (fun _=>rfl)) (aB 5 1 ?_)
   obtain ⟨v5,h7,h⟩:=bind_some h
   refine ot_cd (hK.gf h7) (af ?_)
   rcases am h with ⟨h8,h⟩ | ⟨h8,h⟩
   ·
    refine ah 16 h8 (aD 9 ?_)
    cases h
    exact aQ
   ·
    exact ah 16 h8 (ae 4 (aN (hL1 h)))
  ·
   refine ah 9 h5 (aD 8 ?_)
   cases h
   exact aQ
theorem j9 (hK:KnOk K) (m:Nat):H75_1 M w0 r v1 v2 m (fT K n v1 v2 m):=by
  induction m with
 | zero=>intro v4 h; cases h
 | succ m ih=>intro v4 h; have h:fP K n v1 v2 (fT K n v1 v2 m) v4=some r:=h; exact aM (jC hK ih h)
theorem kB (hK:KnOk K) (h:gZ K n v1 v2=some r):ACalls Try.prog 75 [.sl (lm (eInt .i64) v1),.fn v2.id v2.caps] (fun v _=>v=iI r):=by
  refine aU (cat Try.f75 []) Try.func75 Try.ntmps75 fun M w0=>(aP ⟨[(0,.sl (lm (eInt .i64) v1)),(1,.fn v2.id v2.caps)],[],[],[]⟩ ?_)
  unfold gZ at h
  exact ac (ks':=[bF [1,0,0],bF [1,0,1],bF [1,1]]) 4 (ai 1 (ak (aF (eInt .i64) v1) (af (ae 1 (aL (p:=p75_6) n (j9 hK n h))))))
end
noncomputable section
variable {K:Kn} {n:Nat} {M:Nat→Prop} {w0:Base} {r:Bool} {v1:List Int} {v2:Fv} 
abbrev cF61 (p:List Nat):Kont:=.c (cat Try.f61 p)
theorem j2 (hK:KnOk K) (h:iz K n v1 v2=some r):ACalls Try.prog 61 [.sl (lm (eInt .i64) v1),.fn v2.id v2.caps] (fun v _=>v = .bool r):=by
  refine aU (cat Try.f61 []) Try.func61 Try.ntmps61 fun M w0=>(aP ⟨[(0,.sl (lm (eInt .i64) v1)),(1,.fn v2.id v2.caps)],[],[],[]⟩ ?_)
  unfold iz at h
  refine ac (ks':=[cF61 [1,0],cF61 [1,1]]) 3 (ai 2 ?_)
  obtain ⟨v3,h1,h⟩:=bind_some h
  refine bn (kB hK h1) (af (aD 1 ?_))
  cases h
  exact aQ
end
noncomputable section
variable {K:Kn} {n:Nat} {M:Nat→Prop} {w0:Base} {r:Int×Int} {v1 v2:Int} 
theorem g_bits_Mul64_ok (hK:KnOk K) (h:hI K n v1 v2=some r):ACalls Try.prog 83 [.int .u64 v1,.int .u64 v2] (fun v _=>v = .tup [.int .u64 r.1,.int .u64 r.2]):=by
  refine aU (cat Try.f83 []) Try.func83 Try.ntmps83 fun M w0=>(aP ⟨[(0,.int .u64 v1),(1,.int .u64 v2)],[],[],[]⟩ ?_)
  unfold hI at h
  refine aD 25 ?_
  cases h
  exact ve_dt
end
noncomputable section
variable {K:Kn} {n:Nat} {M:Nat→Prop} {w0:Base} {r:Int×Int} {v1 v2:Int} 
abbrev cF76 (p:List Nat):Kont:=.c (cat Try.f76 p)
theorem g_bits_Mul_ok (hK:KnOk K) (h:g7 K n v1 v2=some r):ACalls Try.prog 76 [.int .u64 v1,.int .u64 v2] (fun v _=>v = .tup [.int .u64 r.1,.int .u64 r.2]):=by
  refine aU (cat Try.f76 []) Try.func76 Try.ntmps76 fun M w0=>(aP ⟨[(0,.int .u64 v1),(1,.int .u64 v2)],[],[],[]⟩ ?_)
  unfold g7 at h
  refine ac (ks':=[cF76 [1,1,0],cF76 [1,1,1]]) 6 (ai 2 ?_)
  obtain ⟨v3,h1,h⟩:=bind_some h
  refine bn (g_bits_Mul64_ok hK h1) (af (aD 3 ?_))
  cases h
  exact ve_dt
end
def p63_0:=pth 7 1
def p63_1:=pth 6 1000
def p63_2:=pth 6 100000
def p63_3:=pth 6 100001
def p63_4:=pth 6 10001
def p63_5:=pth 6 100010
def p63_6:=pth 0 111101
def p63_7:=pth 0 11111
def p63_8:=pth 0 111110
def p63_9:=pth 5 1
def p63_10:=pth 5 10
def p63_11:=pth 6 1
def p63_12:=pth 6 100
def p63_13:=pth 0 111100
noncomputable section
abbrev cx63 (M:Nat→Prop) (w0:Base):Cx:=⟨Try.prog,48,M,w0⟩
abbrev q63 (M:Nat→Prop) (w0:Base) (r:List Int):=bodyPost Try.prog Try.f63 (RetQ M w0 (fun v s=>v = .ref 30∧look 30 s.r=some ⟨3,1,lm (eInt .i64) r⟩))
abbrev aZ (p:List Nat):Kont:=.c (cat Try.f63 p)
abbrev k63_1 (M:Nat→Prop) (w0:Base) (r:List Int) (m1:Nat):Kont:=kl (cx63 M w0) (q63 M w0 r) [.b 0,aZ p63_0] (cat Try.f63 p63_1) m1
def s63_l2 (v7:Int) (v8:List Int):AS:=⟨[(7,.ref 30),(8,iI v7)],[],[(30,⟨3,1,lm (eInt .i64) v8⟩)],[30]⟩
def s63_j1 (v1:List Int) (v3:Int×Int) (v4:Bool):AS:=⟨[(0,.sl (lm (eInt .i64) v1)),(6,.int .u64 v3.2),(26,.bool v4)],[],[],[]⟩
abbrev H63_1 (M:Nat→Prop) (w0:Base) (r:List Int) (m1:Nat) (L1:Int→(List Int)→Option (List Int)):Prop:=∀ {v7:Int} {v8:List Int},L1 v7 v8=some r→LP (cx63 M w0) (q63 M w0 r) [.b 0,aZ p63_0] (cat Try.f63 p63_1) m1 (s63_l2 v7 v8)
variable {K:Kn} {n:Nat} {M:Nat→Prop} {w0:Base} {r v1:List Int} {v2:Int} {v3:Int×Int} {v4:Bool} {v7:Int} {v8:List Int} {m1:Nat} {L1:Int→(List Int)→Option (List Int)}
theorem kh (hK:KnOk K) (hL1:H63_1 M w0 r m1 L1) (h:gm K n L1 v7 v8=some r):VE (cx63 M w0) (q63 M w0 r) [aZ p63_1,k63_1 M w0 r m1,.b 0,aZ p63_0] .normal (s63_l2 v7 v8):=by
  unfold gm at h
  refine ac (ks':=[aZ p63_2,aZ p63_3,aZ p63_4,k63_1 M w0 r m1,.b 0,aZ p63_0]) 2 (ai 2 (ak (aF (eInt .i64) v8) (af ?_)))
  rcases am h with ⟨h13,h⟩ | ⟨h13,h⟩
  ·
   refine ah 37 h13 (ac (ks':=[aZ p63_5,.b 1,k63_1 M w0 r m1,.b 0,aZ p63_0]) 3 (bk [7,8] [] [30] ?_))
   obtain ⟨h14,h⟩:=aj h
   obtain ⟨h15,h⟩:=aj h
   obtain ⟨h16,h⟩:=aj h
   exact bf 2 (nu 38 [iI v7,.ref 30,iI v7,.sref 30 1 (v7.toNat) (((v8.length:Int)).toNat - v7.toNat),.ref 30,iI v7,.sref 30 1 ((0:Int).toNat) (v7.toNat - (0:Int).toNat)]++nu 46 [iI (w64 (v7+((min (v7.toNat - (0:Int).toNat) (((v8.length:Int)).toNat - v7.toNat):Nat):Int)))]) [] [] [cpF 30 (some 45) ⟨3,1,lm (eInt .i64) (cpy v8 (v7.toNat) (((v8.length:Int)).toNat - v7.toNat) v8 ((0:Int).toNat) (v7.toNat - (0:Int).toNat))⟩ (iI ((min (v7.toNat - (0:Int).toNat) (((v8.length:Int)).toNat - v7.toNat):Nat):Int)),stp Try.prog 48 Try.f63 p63_5 9] (az [.v 0 2,.v 0 2,.v 0 2] (d_v (gR (eInt .i64) v8 v7 (v8.length:Int) 33 (.tmp 39) (some (.tmp 40)) none 41 (id:=30) (e:=3) (sz:=1) (et:=3) (by kernel_rfl) (by kernel_rfl) (by kernel_rfl) (by kernel_rfl) (by kernel_rfl) (by kernel_rfl) (by kernel_rfl) (fun k hk=>by subst hk; kernel_rfl) h14) (az [.v 0 2,.v 0 2] (d_v (gR (eInt .i64) v8 (0:Int) v7 33 (.tmp 42) none (some (.tmp 43)) 44 (id:=30) (e:=3) (sz:=1) (et:=3) (by kernel_rfl) (by kernel_rfl) (by kernel_rfl) (by kernel_rfl) (by kernel_rfl) (by kernel_rfl) (by kernel_rfl) (fun k hk=>by subst hk; kernel_rfl) h15) (av (e_s (m:=0) (y_cp (eInt .i64) 30 3 (L:=v8) (S:=v8) (od:=(some (v7.toNat,(((v8.length:Int)).toNat - v7.toNat)))) (os:=(some ((0:Int).toNat,(v7.toNat - (0:Int).toNat)))) (v7.toNat) (((v8.length:Int)).toNat - v7.toNat) ((0:Int).toNat) (v7.toNat - (0:Int).toNat) (fun _=>rfl) h16)) (az [.v 1 1] (av (e_d 1) bi))))))) (ae 1 (aN (hL1 h)))
  ·
   refine ah 37 h13 (aD 8 ?_)
   cases h
   exact ct
theorem jT (hK:KnOk K) (m:Nat):H63_1 M w0 r m (gF K n m):=by
  induction m with
 | zero=>intro v7 v8 h; cases h
 | succ m ih=>intro v7 v8 h; have h:gm K n (gF K n m) v7 v8=some r:=h; exact aM (kh hK ih h)
theorem i8 (hK:KnOk K) (h:gp K n v1 v3 v4=some r):VE (cx63 M w0) (q63 M w0 r) [aZ p63_6,aZ p63_7] .normal (s63_j1 v1 v3 v4):=by
  unfold gp at h
  rcases am h with ⟨h4,h⟩ | ⟨h4,h⟩
  ·
   refine ah 26 h4 ?_
   cases h
  ·
   refine ah 26 h4 (ac (ks':=[aZ p63_8,aZ p63_9]) 3 (ai 2 ?_))
   obtain ⟨h5,h⟩:=aj h
   refine cz (eInt .i64) (0:Int) 33 (.tmp 29) (.tmp 29) 30 (e:=3) (sz:=1) (zc:=[iI 0]) (kd:=.i64) (kd':=.i64) h5 (af ?_)
   obtain ⟨v5,h6,h⟩:=bind_some h
   have h6:=Option.some.inj h6
   refine aV (ks':=[aZ p63_10,aZ p63_11]) 1 ⟨[(0,.sl (lm (eInt .i64) v1)),(7,.ref 30)],[],[(30,⟨3,1,lm (eInt .i64) v5⟩)],[30]⟩ ?_ (by subst h6; kernel_rfl)
   refine ai 2 ?_
   obtain ⟨h7,h⟩:=aj h
   exact ak (y_cp (eInt .i64) 30 3 (L:=v5) (S:=v1) (od:=none) (os:=none) 0 v5.length 0 v1.length (fun _=>rfl) h7) (af (ae 2 (aL (p:=p63_12) n (jT hK n h))))
theorem j1 (hK:KnOk K) (h:iv K n v1 v2=some r):ACalls Try.prog 63 [.sl (lm (eInt .i64) v1),iI v2] (fun v s=>v = .ref 30∧look 30 s.r=some ⟨3,1,lm (eInt .i64) r⟩):=by
  refine aU (cat Try.f63 []) Try.func63 Try.ntmps63 fun M w0=>(aP ⟨[(0,.sl (lm (eInt .i64) v1)),(1,iI v2)],[],[],[]⟩ ?_)
  unfold iv at h
  refine ac (ks':=[aZ [1,0,1],aZ [1,1]]) 5 ?_
  rcases am h with ⟨h1,h⟩ | ⟨h1,h⟩
  ·
   refine ah 10 h1 ?_
   cases h
  ·
   refine ah 10 h1 (ac (ks':=[aZ [1,1,0],aZ [1,1,1]]) 3 (ai 1 (ak (aF (eInt .i64) v1) (aB 5 3 ?_))))
   obtain ⟨v3,h2,h⟩:=bind_some h
   refine bn (g_bits_Mul_ok hK h2) (af (ac (ks':=[aZ p63_13,aZ p63_6,aZ p63_7]) 2 (ai 3 ?_)))
   rcases am h with ⟨h3,h⟩ | ⟨h3,h⟩
   ·
    exact ay 23 h3 (af (ae 0 (i8 hK h)))
   ·
    exact ay 23 h3 (af (ae 0 (i8 hK h)))
end
def p28_0:=pth 0 11010
noncomputable section
abbrev cx28 (M:Nat→Prop) (w0:Base):Cx:=⟨Try.prog,15,M,w0⟩
abbrev q28 (M:Nat→Prop) (w0:Base) (r:List Int):=bodyPost Try.prog Try.f28 (RetQ M w0 (fun v s=>v = .ref 1014∧look 1014 s.r=some ⟨3,1,lm (eInt .i64) r⟩))
def s28_j1 (v1:Int) (v5:List Int):AS:=⟨[(0,iI v1),(1,.sl (lm (eInt .i64) v5))],[],[],[]⟩
variable {K:Kn} {n:Nat} {M:Nat→Prop} {w0:Base} {r:List Int} {v1:Int} {v2 v5:List Int} 
abbrev cG (p:List Nat):Kont:=.c (cat Try.f28 p)
theorem iP (hK:KnOk K) (h:gJ K n v1 v5=some r):VE (cx28 M w0) (q28 M w0 r) [cG [1,1]] .normal (s28_j1 v1 v5):=by
  unfold gJ at h
  refine ac (ks':=[cG [1,1,0],cG [1,1,1]]) 1 (ai 2 ?_)
  obtain ⟨v6,h4,h⟩:=bind_some h
  refine ot_co 1014 (iU hK h4) (dv 21) (af (aD 1 ?_))
  cases h
  exact ct
theorem jK (hK:KnOk K) (h:iC K n v1 v2=some r):ACalls Try.prog 28 [iI v1,.sl (lm (eInt .i64) v2)] (fun v s=>v = .ref 1014∧look 1014 s.r=some ⟨3,1,lm (eInt .i64) r⟩):=by
  refine aU (cat Try.f28 []) Try.func28 Try.ntmps28 fun M w0=>(aP ⟨[(0,iI v1),(1,.sl (lm (eInt .i64) v2))],[],[],[]⟩ ?_)
  unfold iC at h
  refine ac (ks':=[cG [1,0,0],cG [1,0,1],cG [1,1]]) 4 (ai 1 ?_)
  obtain ⟨v3,h1,h⟩:=bind_some h
  refine bn (j2 hK h1) (af ?_)
  rcases am h with ⟨h2,h⟩ | ⟨h2,h⟩
  ·
   refine ah 7 h2 (ac (ks':=[cG p28_0,cG [1,1]]) 1 (ai 2 (ak (aF (eInt .i64) v2) ?_)))
   obtain ⟨v4,h3,h⟩:=bind_some h
   exact ot_co 1011 (j1 hK h3) (dv 30) (af (ve_f 1011 (ae 0 (iP hK h))))
  ·
   exact ah 7 h2 (ae 2 (iP hK h))
end
def d4:=pth 9 1
def p12_1:=pth 8 10100
def bW:=pth 6 1
def p12_3:=pth 5 10100
def p12_4:=pth 8 1010010
def p12_5:=pth 8 1010011
def p12_6:=pth 8 1010011000
def p12_7:=pth 8 1010011001
def p12_8:=pth 8 10100111
def p12_9:=pth 8 1
def p12_10:=pth 8 100
def p12_11:=pth 8 101
def p12_12:=pth 8 1010
def p12_13:=pth 5 1010010
def p12_14:=pth 5 1010011
def p12_15:=pth 5 1010011000
def p12_16:=pth 5 1010011001
def dM:=pth 5 10100111
def p12_18:=pth 5 10100110010
def p12_19:=pth 5 10100110011
def p12_20:=pth 5 101001100110
def p12_21:=pth 5 101001100111
def p12_22:=pth 5 1010011001110
def p12_23:=pth 5 1010011001111
def p12_24:=pth 5 10100110011110
def p12_25:=pth 5 10100110011111
def p12_26:=pth 7 1001
def p12_27:=pth 7 100111
def p12_28:=pth 7 1001110
def p12_29:=pth 7 10011111
def p12_30:=pth 0 11110
def p12_31:=pth 0 11111
def p12_32:=pth 5 100
def p12_33:=pth 5 101
def p12_34:=pth 5 1010
noncomputable section
abbrev cY (M:Nat→Prop) (w0:Base):Cx:=⟨Try.prog,111,M,w0⟩
abbrev q12 (M:Nat→Prop) (w0:Base) (r:List Int):=bodyPost Try.prog Try.f12 (RetQ M w0 (fun v s=>v = .ref 17∧look 17 s.r=some ⟨3,1,lm (eInt .i64) r⟩))
abbrev ax (p:List Nat):Kont:=.c (cat Try.f12 p)
abbrev k12_2 (M:Nat→Prop) (w0:Base) (r:List Int) (m2:Nat):Kont:=kl (cY M w0) (q12 M w0 r) [.b 3,ax d4] (cat Try.f12 p12_1) m2
abbrev cQ (M:Nat→Prop) (w0:Base) (r:List Int) (m1:Nat):Kont:=kl (cY M w0) (q12 M w0 r) [.b 0,ax bW] (cat Try.f12 p12_3) m1
def s12_l3 (v27:List Int) (v28:Int) (v29:List Int):AS:=⟨[(5,.ref 17),(95,.ref 1094),(96,iI (v27.length:Int)),(97,iI v28)],[],[(17,⟨3,1,lm (eInt .i64) v29⟩),(1094,⟨3,1,lm (eInt .i64) v27⟩)],[17,1094]⟩
def s12_j2 (v26 v27:List Int):AS:=⟨[(5,.ref 17),(12,.ref 1094)],[],[(17,⟨3,1,lm (eInt .i64) v26⟩),(1094,⟨3,1,lm (eInt .i64) v27⟩)],[17,1094]⟩
def s12_l1 (v1:List bO) (v2 v11 v12 v13:Int) (v14 v15 v16:List Int):AS:=⟨[(1,iI v2),(5,.ref 17),(6,.ref 20),(7,.ref 23),(8,iI v11),(9,iI v12),(24,.sl (lm bv v1)),(25,iI (v1.length:Int)),(26,iI v13)],[],[(17,⟨3,1,lm (eInt .i64) v14⟩),(20,⟨3,1,lm (eInt .i64) v15⟩),(23,⟨3,1,lm (eInt .i64) v16⟩)],[17,20,23]⟩
abbrev H12_1 (M:Nat→Prop) (w0:Base) (r:List Int) (v1:List bO) (v2:Int) (m1:Nat) (L1:Int→Int→Int→(List Int)→(List Int)→(List Int)→Option (List Int)):Prop:=∀ {v11 v12 v13:Int} {v14 v15 v16:List Int},L1 v11 v12 v13 v14 v15 v16=some r→LP (cY M w0) (q12 M w0 r) [.b 0,ax bW] (cat Try.f12 p12_3) m1 (s12_l1 v1 v2 v11 v12 v13 v14 v15 v16)
abbrev H12_2 (M:Nat→Prop) (w0:Base) (r v27:List Int) (m2:Nat) (L2:Int→(List Int)→Option (List Int)):Prop:=∀ {v28:Int} {v29:List Int},L2 v28 v29=some r→LP (cY M w0) (q12 M w0 r) [.b 3,ax d4] (cat Try.f12 p12_1) m2 (s12_l3 v27 v28 v29)
variable {K:Kn} {n:Nat} {M:Nat→Prop} {w0:Base} {r:List Int} {v1:List bO} {v2 v11 v12 v13:Int} {v14 v15 v16 v26 v27:List Int} {v28:Int} {v29:List Int} {m1:Nat} {L1:Int→Int→Int→(List Int)→(List Int)→(List Int)→Option (List Int)} {m2:Nat} {L2:Int→(List Int)→Option (List Int)}
theorem jB (hK:KnOk K) (hL2:H12_2 M w0 r v27 m2 L2) (h:gr K n v27 L2 v28 v29=some r):VE (cY M w0) (q12 M w0 r) [ax p12_1,k12_2 M w0 r m2,.b 3,ax d4] .normal (s12_l3 v27 v28 v29):=by
  unfold gr at h
  refine ac (ks':=[ax p12_4,ax p12_5,k12_2 M w0 r m2,.b 3,ax d4]) 3 ?_
  rcases am h with ⟨h47,h⟩ | ⟨h47,h⟩
  ·
   refine ah 98 h47 (ac (ks':=[ax p12_6,ax p12_7,.b 4,ax p12_8,k12_2 M w0 r m2,.b 3,ax d4]) 5 (ai 1 ?_))
   obtain ⟨h48,h⟩:=aj h
   refine ak (ba 1094 1 (eInt .i64) h48) (ak (aJ 3 0 (eInt .i64) (eInt .i64) (aw h48).2 (fun _=>rfl)) (af (ai 2 ?_)))
   obtain ⟨h49,h⟩:=aj h
   refine ak (ba 17 1 (eInt .i64) h49) (ak (aJ 3 0 (eInt .i64) (eInt .i64) (aw h49).2 (fun _=>rfl)) (aB 6 2 ?_))
   obtain ⟨h50,h⟩:=aj h
   exact ak (ba 17 1 (eInt .i64) h50) (ak (bd 17 3 1 0 (eInt .i64) (eInt .i64) (w64 ((gD v29 v28)+(gD v27 v28))) (aw h50).2 (fun _=>rfl)) (af (ae 2 (aN (hL2 h)))))
  ·
   refine ah 98 h47 (aD 8 ?_)
   cases h
   exact ct
theorem kG (hK:KnOk K) (m:Nat):H12_2 M w0 r v27 m (gA K n v27 m):=by
  induction m with
 | zero=>intro v28 v29 h; cases h
 | succ m ih=>intro v28 v29 h; have h:gr K n v27 (gA K n v27 m) v28 v29=some r:=h; exact aM (jB hK ih h)
theorem iW (hK:KnOk K) (h:fZ K n v26 v27=some r):VE (cY M w0) (q12 M w0 r) [.b 2,ax p12_9] .normal (s12_j2 v26 v27):=by
  unfold fZ at h
  exact ac (ks':=[ax p12_10,ax p12_11,ax d4]) 3 (ai 1 (ak (aF (eInt .i64) v27) (af (ae 1 (aL (p:=p12_12) n (kG hK n h))))))
theorem lf (hK:KnOk K) (hL1:H12_1 M w0 r v1 v2 m1 L1) (h:go K n v1 v2 L1 v11 v12 v13 v14 v15 v16=some r):VE (cY M w0) (q12 M w0 r) [ax p12_3,cQ M w0 r m1,.b 0,ax bW] .normal (s12_l1 v1 v2 v11 v12 v13 v14 v15 v16):=by
  unfold go at h
  refine ac (ks':=[ax p12_13,ax p12_14,cQ M w0 r m1,.b 0,ax bW]) 3 ?_
  rcases am h with ⟨h22,h⟩ | ⟨h22,h⟩
  ·
   refine ah 27 h22 (ac (ks':=[ax p12_15,ax p12_16,.b 1,ax dM,cQ M w0 r m1,.b 0,ax bW]) 5 (ai 1 ?_))
   obtain ⟨h23,h⟩:=aj h
   refine ak (aY bv bv h23 (kJ) (fun _=>rfl)) (af (ac (ks':=[ax p12_18,ax p12_19,.b 1,ax dM,cQ M w0 r m1,.b 0,ax bW]) 1 (ai 4 ?_)))
   obtain ⟨v17,h24,h⟩:=bind_some h
   refine bn (eH hK h24) ?_
   obtain ⟨h25,h⟩:=aj h
   refine ak (ba 17 1 (eInt .i64) h25) (ak (bd 17 3 1 0 (eInt .i64) (eInt .i64) v17 (aw h25).2 (fun _=>rfl)) (af (ac (ks':=[ax p12_20,ax p12_21,.b 1,ax dM,cQ M w0 r m1,.b 0,ax bW]) 1 (bk [1,5,6,7,8,9,10,11,24,25,26] [11] [17,20,23] ?_))))
   obtain ⟨v18,h26,h⟩:=bind_some h
   obtain ⟨h27,h⟩:=aj h
   obtain ⟨h28,h⟩:=aj h
   refine bf 1 (nu 37 [.ref 20,iI v13,.ptr 11 1,iI ((gD v1 v13).Most),iI v18,.ref 17,iI v13,.eptr 17 1 (v13.toNat) 0,iI (gD (List.set v14 v13.toNat v17) v13),iI (max v18 (gD (List.set v14 v13.toNat v17) v13)),.eptr 20 1 (v13.toNat) 0]) [] [] [strS 20 ⟨3,1,lm (eInt .i64) (List.set v15 v13.toNat (max v18 (gD (List.set v14 v13.toNat v17) v13)))⟩] (az (vz 4) (av (e_c 0 1 41 (eH hK h26)) (az (vz 2) (d_v (aH 17 1 (eInt .i64) (L:=(List.set v14 v13.toNat v17)) h27) (d_v (aJ 3 0 (eInt .i64) (eInt .i64) (aw h27).2 (fun _=>rfl)) (az [.v 0 1] (d_v (aH 20 1 (eInt .i64) (L:=v15) h28) (av (e_s (m:=0) (bd 20 3 1 0 (eInt .i64) (eInt .i64) (max v18 (gD (List.set v14 v13.toNat v17) v13)) (aw h28).2 (fun _=>rfl))) bi)))))))) ?_
   obtain ⟨v19,h29,h⟩:=bind_some h
   have h29:=Option.some.inj h29
   refine aV (ks':=[ax p12_22,ax p12_23,.b 1,ax dM,cQ M w0 r m1,.b 0,ax bW]) 1 ⟨[(1,iI v2),(5,.ref 17),(6,.ref 20),(7,.ref 23),(8,iI v11),(9,iI v12),(10,iI v13),(24,.sl (lm bv v1)),(25,iI (v1.length:Int)),(26,iI v13)],[],[(17,⟨3,1,lm (eInt .i64) (List.set v14 v13.toNat v17)⟩),(20,⟨3,1,lm (eInt .i64) v19⟩),(23,⟨3,1,lm (eInt .i64) v16⟩)],[17,20,23]⟩ ?_ (by subst h29; kernel_rfl)
   obtain ⟨h30,h⟩:=aj h
   obtain ⟨h31,h⟩:=aj h
   obtain ⟨h32,h⟩:=aj h
   refine bf 1 (nu 48 [.ref 23,iI v13,.ref 20,iI v13,.eptr 20 1 (v13.toNat) 0,iI (gD v19 v13),.ref 17,iI v13,.eptr 17 1 (v13.toNat) 0,iI (gD (List.set v14 v13.toNat v17) v13),iI (w64 ((gD v19 v13) - (gD (List.set v14 v13.toNat v17) v13))),.eptr 23 1 (v13.toNat) 0]) [] [] [strS 23 ⟨3,1,lm (eInt .i64) (List.set v16 v13.toNat (w64 ((gD v19 v13) - (gD (List.set v14 v13.toNat v17) v13))))⟩] (az (vz 4) (d_v (aH 20 1 (eInt .i64) (L:=v19) h30) (d_v (aJ 3 0 (eInt .i64) (eInt .i64) (aw h30).2 (fun _=>rfl)) (az (vz 2) (d_v (aH 17 1 (eInt .i64) (L:=(List.set v14 v13.toNat v17)) h31) (d_v (aJ 3 0 (eInt .i64) (eInt .i64) (aw h31).2 (fun _=>rfl)) (az [.v 0 1] (d_v (aH 23 1 (eInt .i64) (L:=v16) h32) (av (e_s (m:=0) (bd 23 3 1 0 (eInt .i64) (eInt .i64) (w64 ((gD v19 v13) - (gD (List.set v14 v13.toNat v17) v13))) (aw h32).2 (fun _=>rfl))) bi))))))))) ?_
   obtain ⟨v20,h33,h⟩:=bind_some h
   have h33:=Option.some.inj h33
   refine aV (ks':=[ax p12_24,ax p12_25,.b 1,ax dM,cQ M w0 r m1,.b 0,ax bW]) 1 ⟨[(1,iI v2),(5,.ref 17),(6,.ref 20),(7,.ref 23),(8,iI v11),(9,iI v12),(10,iI v13),(24,.sl (lm bv v1)),(25,iI (v1.length:Int)),(26,iI v13)],[],[(17,⟨3,1,lm (eInt .i64) (List.set v14 v13.toNat v17)⟩),(20,⟨3,1,lm (eInt .i64) v19⟩),(23,⟨3,1,lm (eInt .i64) v20⟩)],[17,20,23]⟩ ?_ (by subst h33; kernel_rfl)
   refine ai 3 ?_
   obtain ⟨h34,h⟩:=aj h
   refine ak (ba 17 1 (eInt .i64) h34) (ak (aJ 3 0 (eInt .i64) (eInt .i64) (aw h34).2 (fun _=>rfl)) (af ?_))
   obtain ⟨v21,h35,h⟩:=bind_some h
   have h35:=Option.some.inj h35
   refine aV (ks':=[ax p12_25,.b 1,ax dM,cQ M w0 r m1,.b 0,ax bW]) 0 ⟨[(1,iI v2),(5,.ref 17),(6,.ref 20),(7,.ref 23),(8,iI v21),(9,iI v12),(10,iI v13),(24,.sl (lm bv v1)),(25,iI (v1.length:Int)),(26,iI v13)],[],[(17,⟨3,1,lm (eInt .i64) (List.set v14 v13.toNat v17)⟩),(20,⟨3,1,lm (eInt .i64) v19⟩),(23,⟨3,1,lm (eInt .i64) v20⟩)],[17,20,23]⟩ ?_ (by subst h35; kernel_rfl)
   refine ai 3 ?_
   obtain ⟨h36,h⟩:=aj h
   exact ak (ba 20 1 (eInt .i64) h36) (ak (aJ 3 0 (eInt .i64) (eInt .i64) (aw h36).2 (fun _=>rfl)) (af (ae 2 (aN (hL1 h)))))
  ·
   refine ah 27 h22 (ac (ks':=[ax p12_26,.b 2,ax p12_9]) 11 ?_)
   rcases am h with ⟨h37,h⟩ | ⟨h37,h⟩
   ·
    refine ah 80 h37 (aD 6 ?_)
    cases h
    exact ct
   ·
    refine ah 80 h37 (ac (ks':=[ax p12_27,.b 2,ax p12_9]) 3 ?_)
    rcases am h with ⟨h38,h⟩ | ⟨h38,h⟩
    ·
     refine ah 85 h38 (ac (ks':=[ax p12_28,.b 2,ax p12_9]) 1 (ai 3 ?_))
     obtain ⟨v22,h39,h⟩:=bind_some h
     refine bn (eH hK h39) (aB 5 1 ?_)
     obtain ⟨v23,h40,h⟩:=bind_some h
     exact ot_lxo 1094 (iU hK h40) (scal_map _ _ (sc_int _)) (by kernel_rfl:callArgsLx _ _=some (27,[iI v22,.sl (lm (eInt .i64) v16)],[iI v22,.ref 23])) (srOk_of (q:=[]) (by kernel_rfl) trivial) (af (ae 0 (iW hK h)))
    ·
     refine ah 85 h38 (ac (ks':=[ax p12_29,.b 2,ax p12_9]) 3 (ai 3 ?_))
     obtain ⟨v24,h41,h⟩:=bind_some h
     refine bn (eH hK h41) (aB 5 1 ?_)
     obtain ⟨v25,h42,h⟩:=bind_some h
     exact ot_lxo 1079 (jK hK h42) (scal_map _ _ (sc_int _)) (by kernel_rfl:callArgsLx _ _=some (28,[iI v24,.sl (lm (eInt .i64) v15)],[iI v24,.ref 20])) (srOk_of (q:=[]) (by kernel_rfl) trivial) (af (bk [5,12] [] [20,1079] (ve_m 20 17 (ve_m 1079 1094 (ae 0 (iW hK h))))))
theorem kv (hK:KnOk K) (m:Nat):H12_1 M w0 r v1 v2 m (gP K n v1 v2 m):=by
  induction m with
 | zero=>intro v11 v12 v13 v14 v15 v16 h; cases h
 | succ m ih=>intro v11 v12 v13 v14 v15 v16 h; have h:go K n v1 v2 (gP K n v1 v2 m) v11 v12 v13 v14 v15 v16=some r:=h; exact aM (lf hK ih h)
theorem ka (hK:KnOk K) (h:g8 K n v1 v2=some r):ACalls Try.prog 12 [.sl (lm bv v1),iI v2] (fun v s=>v = .ref 17∧look 17 s.r=some ⟨3,1,lm (eInt .i64) r⟩):=by
  refine aU (cat Try.f12 []) Try.func12 Try.ntmps12 fun M w0=>(aP ⟨[(0,.sl (lm bv v1)),(1,iI v2)],[],[],[]⟩ ?_)
  unfold g8 at h
  refine ac (ks':=[ax [1,0],ax [1,1]]) 3 (ai 1 (ak (aF bv v1) ?_))
  obtain ⟨h1,h⟩:=aj h
  refine cz (eInt .i64) (0:Int) 33 (.tmp 16) (.tmp 16) 17 (e:=3) (sz:=1) (zc:=[iI 0]) (kd:=.i64) (kd':=.i64) h1 (af ?_)
  obtain ⟨v3,h2,h⟩:=bind_some h
  have h2:=Option.some.inj h2
  refine aV (ks':=[ax [1,1,0],ax [1,1,1]]) 1 ⟨[(0,.sl (lm bv v1)),(1,iI v2),(5,.ref 17)],[],[(17,⟨3,1,lm (eInt .i64) v3⟩)],[17]⟩ ?_ (by subst h2; kernel_rfl)
  refine ai 1 (ak (aF bv v1) ?_)
  obtain ⟨h3,h⟩:=aj h
  refine cz (eInt .i64) (0:Int) 33 (.tmp 19) (.tmp 19) 20 (e:=3) (sz:=1) (zc:=[iI 0]) (kd:=.i64) (kd':=.i64) h3 (af ?_)
  obtain ⟨v4,h4,h⟩:=bind_some h
  have h4:=Option.some.inj h4
  refine aV (ks':=[ax p12_30,ax p12_31]) 1 ⟨[(0,.sl (lm bv v1)),(1,iI v2),(5,.ref 17),(6,.ref 20)],[],[(17,⟨3,1,lm (eInt .i64) v3⟩),(20,⟨3,1,lm (eInt .i64) v4⟩)],[17,20]⟩ ?_ (by subst h4; kernel_rfl)
  refine ai 1 (ak (aF bv v1) ?_)
  obtain ⟨h5,h⟩:=aj h
  refine cz (eInt .i64) (0:Int) 33 (.tmp 22) (.tmp 22) 23 (e:=3) (sz:=1) (zc:=[iI 0]) (kd:=.i64) (kd':=.i64) h5 (af ?_)
  obtain ⟨v5,h6,h⟩:=bind_some h
  have h6:=Option.some.inj h6
  refine aV (ks':=[ax p12_32,ax p12_33,ax bW]) 4 ⟨[(0,.sl (lm bv v1)),(1,iI v2),(5,.ref 17),(6,.ref 20),(7,.ref 23),(8,iI 0),(9,iI 0)],[],[(17,⟨3,1,lm (eInt .i64) v3⟩),(20,⟨3,1,lm (eInt .i64) v4⟩),(23,⟨3,1,lm (eInt .i64) v5⟩)],[17,20,23]⟩ ?_ (by subst h6; kernel_rfl)
  exact ai 1 (ak (aF bv v1) (af (ae 1 (aL (p:=p12_34) n (kv hK n h)))))
end
def p9_0:=pth 0 11111
def p9_1:=pth 0 11110
noncomputable section
abbrev cx9 (M:Nat→Prop) (w0:Base):Cx:=⟨Try.prog,58,M,w0⟩
abbrev q9 (M:Nat→Prop) (w0:Base) (r:Bool):=bodyPost Try.prog Try.f9 (RetQ M w0 (fun v _=>v = .bool r))
def s9_j1 (v3:Bool):AS:=⟨[(0,.bool v3)],[],[],[]⟩
variable {K:Kn} {n:Nat} {M:Nat→Prop} {w0:Base} {r v3:Bool} 
abbrev cF9 (p:List Nat):Kont:=.c (cat Try.f9 p)
theorem dd (hK:KnOk K) (h:cC K n v3=some r):VE (cx9 M w0) (q9 M w0 r) [cF9 p9_0] .normal (s9_j1 v3):=by
  unfold cC at h
  refine aD 1 ?_
  cases h
  exact aQ
theorem g_law20_fit_ok (hK:KnOk K) (h:fq K n=some r):ACalls Try.prog 9 [] (fun v _=>v = .bool r):=by
  refine aU (cat Try.f9 []) Try.func9 Try.ntmps9 fun M w0=>(aP ⟨[],[],[],[]⟩ ?_)
  unfold fq at h
  refine ac (ks':=[cF9 [1,0],cF9 [1,1]]) 3 (ai 6 ?_)
  obtain ⟨v1,h1,h⟩:=bind_some h
  refine ot_co 1011 (kj hK h1) (one_tup (i:=0) rfl) (af (ac (ks':=[cF9 [1,1,0],cF9 [1,1,1]]) 1 (ai 3 ?_)))
  obtain ⟨v2,h2,h⟩:=bind_some h
  refine ot_co 1017 (ka hK h2) (dv 17) (af (ac (ks':=[cF9 p9_1,cF9 p9_0]) 1 (ai 3 ?_)))
  rcases am h with ⟨h3,h⟩ | ⟨h3,h⟩
  ·
   refine ay 20 h3 (aB 4 1 (ak (aF (eSl ag) v1.1) (aB 8 3 ?_)))
   rcases am h with ⟨h4,h⟩ | ⟨h4,h⟩
   ·
    refine ay 25 h4 (aB 9 1 ?_)
    obtain ⟨h5,h⟩:=aj h
    refine ak (ba 1011 1 (eSl ag) h5) (ak (aJ 28 0 (eSl ag) (eSl ag) (aw h5).2 (fun _=>rfl)) (ak (aF ag (gD v1.1 (1:Int))) (aB 15 3 ?_)))
    rcases am h with ⟨h6,h⟩ | ⟨h6,h⟩
    ·
     refine ay 32 h6 (aB 16 1 ?_)
     obtain ⟨h7,h⟩:=aj h
     refine ak (ba 1011 1 (eSl ag) h7) (ak (aJ 28 0 (eSl ag) (eSl ag) (aw h7).2 (fun _=>rfl)) ?_)
     obtain ⟨h8,h⟩:=aj h
     refine ak (aY ag ag h8 (ci) (fun _=>rfl)) (aB 24 5 ?_)
     rcases am h with ⟨h9,h⟩ | ⟨h9,h⟩
     ·
      refine ay 41 h9 (aB 25 1 (ak (aF (eInt .i64) v2) (aB 29 3 ?_)))
      rcases am h with ⟨h10,h⟩ | ⟨h10,h⟩
      ·
       refine ay 46 h10 (aB 30 1 ?_)
       obtain ⟨h11,h⟩:=aj h
       refine ak (ba 1017 1 (eInt .i64) h11) (ak (aJ 3 0 (eInt .i64) (eInt .i64) (aw h11).2 (fun _=>rfl)) (aB 35 3 ?_))
       rcases am h with ⟨h12,h⟩ | ⟨h12,h⟩
       ·
        refine ay 52 h12 (aB 36 1 ?_)
        obtain ⟨h13,h⟩:=aj h
        exact ak (ba 1017 1 (eInt .i64) h13) (ak (aJ 3 0 (eInt .i64) (eInt .i64) (aw h13).2 (fun _=>rfl)) (af (ae 0 (dd hK h))))
       ·
        exact ay 52 h12 (af (ae 0 (dd hK h)))
      ·
       exact ay 46 h10 (af (ae 0 (dd hK h)))
     ·
      exact ay 41 h9 (af (ae 0 (dd hK h)))
    ·
     exact ay 32 h6 (af (ae 0 (dd hK h)))
   ·
    exact ay 25 h4 (af (ae 0 (dd hK h)))
  ·
   exact ay 20 h3 (af (ae 0 (dd hK h)))
end
noncomputable section
variable {K:Kn} {n:Nat} {M:Nat→Prop} {w0:Base} {r v1:Int} 
theorem kk (hK:KnOk K) (h:fW K n v1=some r):ACalls Try.prog 14 [iI v1] (fun v _=>v=iI r):=by
  refine aU (cat Try.f14 []) Try.func14 Try.ntmps14 fun M w0=>(aP ⟨[(0,iI v1)],[],[],[]⟩ ?_)
  unfold fW at h
  refine aD 5 ?_
  cases h
  exact aQ
end
def p15_0:=pth 0 110100
def cp:=pth 0 110100111
def p15_2:=pth 0 11010011001100
def p15_3:=pth 0 11010011001100110011
def p15_4:=pth 0 11010011001100111
def p15_5:=pth 0 1101001100110010
def p15_6:=pth 0 1101001100110011
def p15_7:=pth 0 1101001100110011000
def p15_8:=pth 0 1101001100110011001
def p15_9:=pth 0 11010011001100110010
def p15_10:=pth 0 11010010
def p15_11:=pth 0 11010011
def p15_12:=pth 0 11010011000
def p15_13:=pth 0 11010011001
def p15_14:=pth 0 110100110010
def p15_15:=pth 0 110100110011
def p15_16:=pth 0 1101001100110
def p15_17:=pth 0 11010
noncomputable section
abbrev cM (M:Nat→Prop) (w0:Base):Cx:=⟨Try.prog,44,M,w0⟩
abbrev q15 (M:Nat→Prop) (w0:Base) (r:Bool):=bodyPost Try.prog Try.f15 (RetQ M w0 (fun v _=>v = .bool r))
abbrev aC (p:List Nat):Kont:=.c (cat Try.f15 p)
abbrev b9 (M:Nat→Prop) (w0:Base) (r:Bool) (m1:Nat):Kont:=kl (cM M w0) (q15 M w0 r) [.b 0,aC [1,1]] (cat Try.f15 p15_0) m1
abbrev k15_2 (M:Nat→Prop) (w0:Base) (r:Bool) (m1 m2:Nat):Kont:=kl (cM M w0) (q15 M w0 r) [.b 2,.b 1,aC cp,b9 M w0 r m1,.b 0,aC [1,1]] (cat Try.f15 p15_2) m2
def s15_j1 (v1:List aa) (v2 v11 v16 v17:Int) (v19:Bool):AS:=⟨[(0,.sl (lm ag v1)),(1,iI v2),(9,.sl (lm ag v1)),(10,iI (v1.length:Int)),(11,iI v11),(23,.sl (lm (eInt .i64) [(gD v1 v11).Row,(gD v1 v11).Col,(gD v1 v11).Rows,(gD v1 v11).Cols])),(24,iI v16),(25,iI v17),(34,.bool v19)],[],[],[]⟩
def s15_l2 (v1:List aa) (v2 v11 v16 v17:Int):AS:=⟨[(0,.sl (lm ag v1)),(1,iI v2),(9,.sl (lm ag v1)),(10,iI (v1.length:Int)),(11,iI v11),(23,.sl (lm (eInt .i64) [(gD v1 v11).Row,(gD v1 v11).Col,(gD v1 v11).Rows,(gD v1 v11).Cols])),(24,iI v16),(25,iI v17)],[],[],[]⟩
def s15_j4 (v20:Bool):AS:=⟨[(4,.bool v20)],[],[],[]⟩
def s15_l3 (v1:List aa) (v2 v11:Int):AS:=⟨[(0,.sl (lm ag v1)),(1,iI v2),(9,.sl (lm ag v1)),(10,iI (v1.length:Int)),(11,iI v11)],[],[],[]⟩
abbrev H15_1 (M:Nat→Prop) (w0:Base) (r:Bool) (v1:List aa) (v2:Int) (m1:Nat) (L1:Int→Option Bool):Prop:=∀ {v11:Int},L1 v11=some r→LP (cM M w0) (q15 M w0 r) [.b 0,aC [1,1]] (cat Try.f15 p15_0) m1 (s15_l3 v1 v2 v11)
abbrev H15_2 (M:Nat→Prop) (w0:Base) (r:Bool) (v1:List aa) (v2 v11:Int) (m1 m2:Nat) (L2:Int→Int→Option Bool):Prop:=∀ {v16 v17:Int},L2 v16 v17=some r→LP (cM M w0) (q15 M w0 r) [.b 2,.b 1,aC cp,b9 M w0 r m1,.b 0,aC [1,1]] (cat Try.f15 p15_2) m2 (s15_l2 v1 v2 v11 v16 v17)
variable {K:Kn} {n:Nat} {M:Nat→Prop} {w0:Base} {r:Bool} {v1:List aa} {v2 v11 v16 v17:Int} {v19 v20:Bool} {m1:Nat} {L1:Int→Option Bool} {m2:Nat} {L2:Int→Int→Option Bool}
theorem ji (hK:KnOk K) (hL1:H15_1 M w0 r v1 v2 m1 L1) (hL2:H15_2 M w0 r v1 v2 v11 m1 m2 L2) (h:eP K n v1 v2 v11 v16 v17 L1 L2 v19=some r):VE (cM M w0) (q15 M w0 r) [aC p15_3,.b 3,aC p15_4,k15_2 M w0 r m1 m2,.b 2,.b 1,aC cp,b9 M w0 r m1,.b 0,aC [1,1]] .normal (s15_j1 v1 v2 v11 v16 v17 v19):=by
  unfold eP at h
  rcases am h with ⟨h28,h⟩ | ⟨h28,h⟩
  ·
   refine ah 34 h28 (aD 13 ?_)
   cases h
   exact aQ
  ·
   exact ah 34 h28 (ae 4 (aN (hL2 h)))
theorem jM (hK:KnOk K) (hL1:H15_1 M w0 r v1 v2 m1 L1) (hL2:H15_2 M w0 r v1 v2 v11 m1 m2 L2) (h:fw K n v1 v2 v11 L1 L2 v16 v17=some r):VE (cM M w0) (q15 M w0 r) [aC p15_2,k15_2 M w0 r m1 m2,.b 2,.b 1,aC cp,b9 M w0 r m1,.b 0,aC [1,1]] .normal (s15_l2 v1 v2 v11 v16 v17):=by
  unfold fw at h
  refine ac (ks':=[aC p15_5,aC p15_6,k15_2 M w0 r m1 m2,.b 2,.b 1,aC cp,b9 M w0 r m1,.b 0,aC [1,1]]) 3 ?_
  rcases am h with ⟨h24,h⟩ | ⟨h24,h⟩
  ·
   refine ah 26 h24 (ac (ks':=[aC p15_7,aC p15_8,.b 3,aC p15_4,k15_2 M w0 r m1 m2,.b 2,.b 1,aC cp,b9 M w0 r m1,.b 0,aC [1,1]]) 5 (ai 0 ?_))
   obtain ⟨h25,h⟩:=aj h
   refine ak (aY (eInt .i64) (eInt .i64) h25 (fun _=>rfl) (fun _=>rfl)) (af ?_)
   obtain ⟨v18,h26,h⟩:=bind_some h
   have h26:=Option.some.inj h26
   refine aV (ks':=[aC p15_9,aC p15_3,.b 3,aC p15_4,k15_2 M w0 r m1 m2,.b 2,.b 1,aC cp,b9 M w0 r m1,.b 0,aC [1,1]]) 1 ⟨[(0,.sl (lm ag v1)),(1,iI v2),(8,iI v18),(9,.sl (lm ag v1)),(10,iI (v1.length:Int)),(11,iI v11),(23,.sl (lm (eInt .i64) [(gD v1 v11).Row,(gD v1 v11).Col,(gD v1 v11).Rows,(gD v1 v11).Cols])),(24,iI v16),(25,iI v17)],[],[],[]⟩ ?_ (by subst h26; kernel_rfl)
   refine ai 3 ?_
   rcases am h with ⟨h27,h⟩ | ⟨h27,h⟩
   ·
    exact ay 31 h27 (af (ae 0 (ji hK hL1 hL2 h)))
   ·
    exact ay 31 h27 (af (ae 0 (ji hK hL1 hL2 h)))
  ·
   exact ah 26 h24 (ae 7 (aN (hL1 h)))
theorem jO (hK:KnOk K) (hL1:H15_1 M w0 r v1 v2 m1 L1) (m:Nat):H15_2 M w0 r v1 v2 v11 m1 m (dr K n v1 v2 v11 L1 m):=by
  induction m with
 | zero=>intro v16 v17 h; cases h
 | succ m ih=>intro v16 v17 h; have h:fw K n v1 v2 v11 L1 (dr K n v1 v2 v11 L1 m) v16 v17=some r:=h; exact aM (jM hK hL1 ih h)
theorem jw (hK:KnOk K) (h:eW K n v20=some r):VE (cM M w0) (q15 M w0 r) [aC [1,1,1]] .normal (s15_j4 v20):=by
  unfold eW at h
  refine aD 1 ?_
  cases h
  exact aQ
theorem kU (hK:KnOk K) (hL1:H15_1 M w0 r v1 v2 m1 L1) (h:fa K n v1 v2 L1 v11=some r):VE (cM M w0) (q15 M w0 r) [aC p15_0,b9 M w0 r m1,.b 0,aC [1,1]] .normal (s15_l3 v1 v2 v11):=by
  unfold fa at h
  refine ac (ks':=[aC p15_10,aC p15_11,b9 M w0 r m1,.b 0,aC [1,1]]) 3 ?_
  rcases am h with ⟨h15,h⟩ | ⟨h15,h⟩
  ·
   refine ah 12 h15 (ac (ks':=[aC p15_12,aC p15_13,.b 1,aC cp,b9 M w0 r m1,.b 0,aC [1,1]]) 5 (ai 0 ?_))
   obtain ⟨h16,h⟩:=aj h
   exact ak (aY ag ag h16 (ci) (fun _=>rfl)) (af (ac (ks':=[aC p15_14,aC p15_15,.b 1,aC cp,b9 M w0 r m1,.b 0,aC [1,1]]) 1 (ai 9 (ak (aF (eInt .i64) ([(gD v1 v11).Row,(gD v1 v11).Col,(gD v1 v11).Rows,(gD v1 v11).Cols]:List Int)) (af (ae 1 (aL (p:=p15_16) n (jO hK hL1 n h))))))))
  ·
   refine ah 12 h15 (ac (ks':=[aC [1,1,0],aC [1,1,1]]) 6 (ai 1 (ak (aF ag v1) (aB 4 2 ?_))))
   rcases am h with ⟨h29,h⟩ | ⟨h29,h⟩
   ·
    exact ay 40 h29 (af (ae 0 (jw hK h)))
   ·
    exact ay 40 h29 (af (ae 0 (jw hK h)))
theorem jQ (hK:KnOk K) (m:Nat):H15_1 M w0 r v1 v2 m (c6 K n v1 v2 m):=by
  induction m with
 | zero=>intro v11 h; cases h
 | succ m ih=>intro v11 h; have h:fa K n v1 v2 (c6 K n v1 v2 m) v11=some r:=h; exact aM (kU hK ih h)
theorem g_law20_few_ok (hK:KnOk K) (h:fL K n v1 v2=some r):ACalls Try.prog 15 [.sl (lm ag v1),iI v2] (fun v _=>v = .bool r):=by
  refine aU (cat Try.f15 []) Try.func15 Try.ntmps15 fun M w0=>(aP ⟨[(0,.sl (lm ag v1)),(1,iI v2)],[],[],[]⟩ ?_)
  unfold fL at h
  exact ac (ks':=[aC [1,0,0],aC [1,0,1],aC [1,1]]) 4 (ai 1 (ak (aF ag v1) (af (ae 1 (aL (p:=p15_17) n (jQ hK n h))))))
end
noncomputable section
abbrev cx31 (M:Nat→Prop) (w0:Base):Cx:=⟨Try.prog,17,M,w0⟩
abbrev q31 (M:Nat→Prop) (w0:Base) (r:Bool):=bodyPost Try.prog Try.f31 (RetQ M w0 (fun v _=>v = .bool r))
def s31_j1 (v3:Bool):AS:=⟨[(3,.bool v3)],[],[],[]⟩
variable {K:Kn} {n:Nat} {M:Nat→Prop} {w0:Base} {r:Bool} {v1:aa} {v2:Int} {v3:Bool} 
abbrev cF31 (p:List Nat):Kont:=.c (cat Try.f31 p)
theorem iX (hK:KnOk K) (h:eK K n v3=some r):VE (cx31 M w0) (q31 M w0 r) [cF31 [1,1]] .normal (s31_j1 v3):=by
  unfold eK at h
  refine aD 1 ?_
  cases h
  exact aQ
theorem jY (hK:KnOk K) (h:eU K n v1 v2=some r):ACalls Try.prog 31 [.agg (ag v1),.cptr ([iI v2])] (fun v _=>v = .bool r):=by
  refine aU (cat Try.f31 []) Try.func31 Try.ntmps31 fun M w0=>(aP ⟨[(0,.agg (ag v1)),(1,.cptr ([iI v2]))],[],[],[]⟩ ?_)
  unfold eU at h
  refine ac (ks':=[cF31 [1,0],cF31 [1,1]]) 3 (ai 5 ?_)
  rcases am h with ⟨h1,h⟩ | ⟨h1,h⟩
  ·
   exact ay 8 h1 (af (ae 0 (iX hK h)))
  ·
   exact ay 8 h1 (af (ae 0 (iX hK h)))
end
noncomputable section
variable {K:Kn} {n:Nat} {M:Nat→Prop} {w0:Base} {r v1 v2:Int} {v3:Fv} {v4:List aa} 
abbrev cF65 (p:List Nat):Kont:=.c (cat Try.f65 p)
theorem jR (hK:KnOk K) (h:fB K n v1 v2 v3 v4=some r):ACalls Try.prog 65 [iI v1,iI v2,.cptr ([.fn v3.id v3.caps]),.cptr ([.sl (lm ag v4)])] (fun v _=>v=iI r):=by
  refine aU (cat Try.f65 []) Try.func65 Try.ntmps65 fun M w0=>(aP ⟨[(0,iI v1),(1,iI v2),(2,.cptr ([.fn v3.id v3.caps])),(3,.cptr ([.sl (lm ag v4)]))],[],[],[]⟩ ?_)
  unfold fB at h
  refine ac (ks':=[cF65 [1,0],cF65 [1,1]]) 3 (bk [0,1,2,3] [] [] ?_)
  obtain ⟨h1,h⟩:=aj h
  obtain ⟨v5,h2,h⟩:=bind_some h
  obtain ⟨h3,h⟩:=aj h
  obtain ⟨v6,h4,h⟩:=bind_some h
  obtain ⟨v7,h5,h⟩:=bind_some h
  refine bf 1 (nu 7 [.fn v3.id v3.caps,.sl (lm ag v4),iI v1,.cptr (ag (gD v4 v1)),.agg (ag (gD v4 v1)),iI v5,.fn v3.id v3.caps,.sl (lm ag v4),iI v2,.cptr (ag (gD v4 v2)),.agg (ag (gD v4 v2)),iI v6,iI v7]) [] [] [stp Try.prog 20 Try.f65 [1,0] 13] (az (vz 3) (d_v (aY ag ag h1 (ci) (fun _=>rfl)) (az [.v 0 1] (av (e_c 0 1 12 (hK.cf h2).2 (hK.cf h2).1) (az (vz 3) (d_v (aY ag ag h3 (ci) (fun _=>rfl)) (az [.v 0 1] (av (e_c 0 1 18 (hK.cf h4).2 (hK.cf h4).1) (av (e_c 0 1 19 (ju hK h5)) (av (e_d 0) bi)))))))))) (aD 1 ?_)
  cases h
  exact aQ
end
def p32_0:=pth 0 1110100
def p32_1:=pth 0 1110100111
def p32_2:=pth 0 1110100110011
def p32_3:=pth 0 11101001100110
def p32_4:=pth 0 111010010
def p32_5:=pth 0 111010011
def p32_6:=pth 0 111010011000
def p32_7:=pth 0 111010011001
def p32_8:=pth 0 1110100110010
def p32_9:=pth 0 11110
def p32_10:=pth 0 11111
def p32_11:=pth 0 11100
def p32_12:=pth 0 11101
def p32_13:=pth 0 111010
noncomputable section
abbrev cx32 (M:Nat→Prop) (w0:Base):Cx:=⟨Try.prog,56,M,w0⟩
abbrev q32 (M:Nat→Prop) (w0:Base) (r:List Int):=bodyPost Try.prog Try.f32 (RetQ M w0 (fun v s=>v = .ref 50∧look 50 s.r=some ⟨3,1,lm (eInt .i64) r⟩))
abbrev aS (p:List Nat):Kont:=.c (cat Try.f32 p)
abbrev dc (M:Nat→Prop) (w0:Base) (r:List Int) (m1:Nat):Kont:=kl (cx32 M w0) (q32 M w0 r) [.b 0,aS [1,1,1]] (cat Try.f32 p32_0) m1
def s32_j2 (v1:List aa) (v2:Int) (v3 v4:Fv) (v11:Int) (v15:List Int):AS:=⟨[(1,iI v2),(2,.fn v3.id v3.caps),(4,.ptr 4 0),(7,.ptr 7 0),(9,.ref 50),(12,.sl (lm ag v1)),(13,iI (v1.length:Int)),(14,iI v11)],[(4,[.sl (lm ag v1)]),(7,[.fn v4.id v4.caps])],[(50,⟨3,1,lm (eInt .i64) v15⟩)],[4,7,50]⟩
def s32_j1 (v1:List aa) (v2:Int) (v3 v4:Fv) (v11:Int) (v12:List Int) (v14:Bool):AS:=⟨[(1,iI v2),(2,.fn v3.id v3.caps),(4,.ptr 4 0),(7,.ptr 7 0),(9,.ref 50),(10,iI v11),(12,.sl (lm ag v1)),(13,iI (v1.length:Int)),(14,iI v11),(46,.bool v14)],[(4,[.sl (lm ag v1)]),(7,[.fn v4.id v4.caps])],[(50,⟨3,1,lm (eInt .i64) v12⟩)],[4,7,50]⟩
def s32_l3 (v1:List aa) (v2:Int) (v3 v4:Fv) (v11:Int) (v12:List Int):AS:=⟨[(1,iI v2),(2,.fn v3.id v3.caps),(4,.ptr 4 0),(7,.ptr 7 0),(9,.ref 50),(12,.sl (lm ag v1)),(13,iI (v1.length:Int)),(14,iI v11)],[(4,[.sl (lm ag v1)]),(7,[.fn v4.id v4.caps])],[(50,⟨3,1,lm (eInt .i64) v12⟩)],[4,7,50]⟩
abbrev H32_1 (M:Nat→Prop) (w0:Base) (r:List Int) (v1:List aa) (v2:Int) (v3 v4:Fv) (m1:Nat) (L1:Int→(List Int)→Option (List Int)):Prop:=∀ {v11:Int} {v12:List Int},L1 v11 v12=some r→LP (cx32 M w0) (q32 M w0 r) [.b 0,aS [1,1,1]] (cat Try.f32 p32_0) m1 (s32_l3 v1 v2 v3 v4 v11 v12)
variable {K:Kn} {n:Nat} {M:Nat→Prop} {w0:Base} {r:List Int} {v1:List aa} {v2:Int} {v3 v4:Fv} {v11:Int} {v12:List Int} {v14:Bool} {v15:List Int} {m1:Nat} {L1:Int→(List Int)→Option (List Int)}
theorem jt (hK:KnOk K) (hL1:H32_1 M w0 r v1 v2 v3 v4 m1 L1) (h:ek K n v1 v2 v3 v4 v11 L1 v15=some r):VE (cx32 M w0) (q32 M w0 r) [.b 1,aS p32_1,dc M w0 r m1,.b 0,aS [1,1,1]] .normal (s32_j2 v1 v2 v3 v4 v11 v15):=by
  unfold ek at h
  exact ae 2 (aN (hL1 h))
theorem eg (hK:KnOk K) (hL1:H32_1 M w0 r v1 v2 v3 v4 m1 L1) (h:bZ K n v1 v2 v3 v4 v11 v12 L1 v14=some r):VE (cx32 M w0) (q32 M w0 r) [aS p32_2,.b 1,aS p32_1,dc M w0 r m1,.b 0,aS [1,1,1]] .normal (s32_j1 v1 v2 v3 v4 v11 v12 v14):=by
  unfold bZ at h
  rcases am h with ⟨h29,h⟩ | ⟨h29,h⟩
  ·
   refine ah 46 h29 (ac (ks':=[aS p32_3,.b 1,aS p32_1,dc M w0 r m1,.b 0,aS [1,1,1]]) 1 (ai 3 ?_))
   obtain ⟨h30,h⟩:=aj h
   exact ak (y_app 50 50 3 1 (eInt .i64) (rfl) (fun _=>rfl) h30) (af (ae 0 (jt hK hL1 h)))
  ·
   exact ah 46 h29 (ae 2 (jt hK hL1 h))
theorem kO (hK:KnOk K) (hL1:H32_1 M w0 r v1 v2 v3 v4 m1 L1) (h:eQ K n v1 v2 v3 v4 L1 v11 v12=some r):VE (cx32 M w0) (q32 M w0 r) [aS p32_0,dc M w0 r m1,.b 0,aS [1,1,1]] .normal (s32_l3 v1 v2 v3 v4 v11 v12):=by
  unfold eQ at h
  refine ac (ks':=[aS p32_4,aS p32_5,dc M w0 r m1,.b 0,aS [1,1,1]]) 3 ?_
  rcases am h with ⟨h21,h⟩ | ⟨h21,h⟩
  ·
   refine ah 15 h21 (ac (ks':=[aS p32_6,aS p32_7,.b 1,aS p32_1,dc M w0 r m1,.b 0,aS [1,1,1]]) 5 (ai 1 ?_))
   obtain ⟨h22,h⟩:=aj h
   refine ak (aY ag ag h22 (ci) (fun _=>rfl)) (af (ac (ks':=[aS p32_8,aS p32_2,.b 1,aS p32_1,dc M w0 r m1,.b 0,aS [1,1,1]]) 1 (ai 4 ?_)))
   rcases am h with ⟨h23,h⟩ | ⟨h23,h⟩
   ·
    refine ay 22 h23 (aB 9 5 ?_)
    rcases am h with ⟨h24,h⟩ | ⟨h24,h⟩
    ·
     refine ay 27 h24 (aB 14 5 ?_)
     rcases am h with ⟨h25,h⟩ | ⟨h25,h⟩
     ·
      refine ay 32 h25 (aB 19 5 ?_)
      rcases am h with ⟨h26,h⟩ | ⟨h26,h⟩
      ·
       refine ay 37 h26 (aB 24 5 ?_)
       rcases am h with ⟨h27,h⟩ | ⟨h27,h⟩
       ·
        refine ay 42 h27 (aB 26 2 ?_)
        obtain ⟨v13,h28,h⟩:=bind_some h
        exact ot_cd (hK.ee h28) (af (ae 0 (eg hK hL1 h)))
       ·
        exact ay 42 h27 (af (ae 0 (eg hK hL1 h)))
      ·
       exact ay 37 h26 (af (ae 0 (eg hK hL1 h)))
     ·
      exact ay 32 h25 (af (ae 0 (eg hK hL1 h)))
    ·
     exact ay 27 h24 (af (ae 0 (eg hK hL1 h)))
   ·
    exact ay 22 h23 (af (ae 0 (eg hK hL1 h)))
  ·
   refine ah 15 h21 (ac (ks':=[aS p32_9,aS p32_10]) 6 (ai 1 (ot_fo 7 7 ([.fn v4.id v4.caps]) (ot_fo 4 4 ([.sl (lm ag v1)]) (ot_mf 65 #[(.tmp 7),(.tmp 4)] [.cptr ([.fn v4.id v4.caps]),.cptr ([.sl (lm ag v1)])] ?_)))))
   obtain ⟨v16,h31,h⟩:=bind_some h
   refine bM 50 0 (jd hK h31) (af (aD 3 ?_))
   cases h
   exact ct
theorem jA (hK:KnOk K) (m:Nat):H32_1 M w0 r v1 v2 v3 v4 m (di K n v1 v2 v3 v4 m):=by
  induction m with
 | zero=>intro v11 v12 h; cases h
 | succ m ih=>intro v11 v12 h; have h:eQ K n v1 v2 v3 v4 (di K n v1 v2 v3 v4 m) v11 v12=some r:=h; exact aM (kO hK ih h)
theorem kD (hK:KnOk K) (h:fE K n v1 v2 v3 v4=some r):ACalls Try.prog 32 [.sl (lm ag v1),iI v2,.fn v3.id v3.caps,.fn v4.id v4.caps] (fun v s=>v = .ref 50∧look 50 s.r=some ⟨3,1,lm (eInt .i64) r⟩):=by
  refine aU (cat Try.f32 []) Try.func32 Try.ntmps32 fun M w0=>(aP ⟨[(0,.sl (lm ag v1)),(1,iI v2),(2,.fn v3.id v3.caps),(3,.fn v4.id v4.caps)],[],[],[]⟩ ?_)
  unfold fE at h
  exact ac (ks':=[aS p32_11,aS p32_12,aS [1,1,1]]) 6 (ai 1 (ak (aF ag v1) (af (ac (ks':=[aS p32_13,.b 0,aS [1,1,1]]) 1 (bk [1,2,4,7,9,12,13,14] [4,7] [] (ve_w 50 9 3 1 (ae 0 (aL (p:=p32_13) n (jA hK n h)))))))))
end
end Go.Proofs.Ytolhpahjgddjkaa

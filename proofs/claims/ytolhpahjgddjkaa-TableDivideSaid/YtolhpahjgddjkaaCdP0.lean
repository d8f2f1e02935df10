/- The runs of the functions that TableDivide reaches do what their plain forms say, part 0. Made by a program. -/
import Derived.Test.YtolhpahjgddjkaaCdGk
namespace Go.Proofs.Ytolhpahjgddjkaa
open Go.RowKit
set_option maxRecDepth 20000
set_option linter.all false
set_option linter.unusedVariables false
set_option linter.unusedSimpArgs false
def p10_0:=pth 0 1110100
def bn:=pth 0 1110100110011111
def aO:=pth 0 1110100111
def p10_3:=pth 0 1110100110011110100
def bP:=pth 0 111010011001111
def p10_5:=pth 0 111010011001110100
def p10_6:=pth 0 111010011001110100110011
def cK:=pth 0 111010011001110100111
def p10_8:=pth 0 11101001100111010011001000
def bQ:=pth 0 1110100110011110100111
def p10_10:=pth 0 111010011001111010011001100
def cz:=pth 0 11101001100111101001100110011
def p10_12:=pth 0 1110100110011110100110011001001100
def p10_13:=pth 0 1110100110011101001100100000
def p10_14:=pth 0 1110100110011101001100100001
def p10_15:=pth 0 111010011001110100110010001
def p10_16:=pth 0 1110100110011101001100110
def p10_17:=pth 0 1110100110011101001100111
def p10_18:=pth 0 11101001100111010011001110
def p10_19:=pth 0 11101001100111010011001111
def p10_20:=pth 0 111010011001111010011001100100110001
def p10_21:=pth 0 11101001100111101001100110010011001
def p10_22:=pth 0 1110100110011110100110011001001100100
def p10_23:=pth 0 111010011001111010011001100100110011
def p10_24:=pth 0 1110100110011110100110011001001
def p10_25:=pth 0 111010011001111010011001100100110
def p10_26:=pth 0 11101001100111101001100110001
def p10_27:=pth 0 1110100110011110100110011001
def p10_28:=pth 0 11101001100111101001100110010000
def p10_29:=pth 0 11101001100111101001100110010001
def p10_30:=pth 0 111010011001111010011001100100010
def p10_31:=pth 0 111010011001111010010
def p10_32:=pth 0 111010011001111010011
def p10_33:=pth 0 111010011001111010011000
def p10_34:=pth 0 111010011001111010011001
def p10_35:=pth 0 11101001100111101001100110
def p10_36:=pth 0 11101001100111010010
def p10_37:=pth 0 11101001100111010011
def p10_38:=pth 0 11101001100111010011000
def p10_39:=pth 0 11101001100111010011001
def p10_40:=pth 0 1110100110011101001100100
def p10_41:=pth 0 11101001100111100
def p10_42:=pth 0 11101001100111101
def p10_43:=pth 0 111010011001111010
def p10_44:=pth 0 111010010
def p10_45:=pth 0 111010011
def p10_46:=pth 0 111010011000
def p10_47:=pth 0 111010011001
def p10_48:=pth 0 1110100110011100
def p10_49:=pth 0 1110100110011101
def p10_50:=pth 0 11101001100111010
def p10_51:=pth 0 11100
def p10_52:=pth 0 11101
def p10_53:=pth 0 111010
noncomputable section
abbrev bo (M:Nat→Prop) (w0:Base):Cx:=⟨Try.prog,116,M,w0⟩
abbrev q10 (M:Nat→Prop) (w0:Base) (r:(List (List ac))×Int):=bodyPost Try.prog Try.f10 (RetQ M w0 (fun v s=>v = .tup [.ref 112,iI r.2]∧look 112 s.r=some ⟨28,1,lm (eSl aD) r.1⟩))
abbrev aa (p:List Nat):Kont:=.c (cat Try.f10 p)
abbrev aK (M:Nat→Prop) (w0:Base) (r:(List (List ac))×Int) (m1:Nat):Kont:=kl (bo M w0) (q10 M w0 r) [.b 0,aa [1,1,1]] (cat Try.f10 p10_0) m1
abbrev bC (M:Nat→Prop) (w0:Base) (r:(List (List ac))×Int) (m1 m4:Nat):Kont:=kl (bo M w0) (q10 M w0 r) [.b 6,aa bn,.b 1,aa aO,aK M w0 r m1,.b 0,aa [1,1,1]] (cat Try.f10 p10_3) m4
abbrev cm (M:Nat→Prop) (w0:Base) (r:(List (List ac))×Int) (m1 m2:Nat):Kont:=kl (bo M w0) (q10 M w0 r) [.b 2,aa bP,.b 1,aa aO,aK M w0 r m1,.b 0,aa [1,1,1]] (cat Try.f10 p10_5) m2
abbrev k10_3 (M:Nat→Prop) (w0:Base) (r:(List (List ac))×Int) (m2 m1 m3:Nat):Kont:=kl (bo M w0) (q10 M w0 r) [.b 4,aa p10_6,.b 3,aa cK,cm M w0 r m1 m2,.b 2,aa bP,.b 1,aa aO,aK M w0 r m1,.b 0,aa [1,1,1]] (cat Try.f10 p10_8) m3
abbrev cb (M:Nat→Prop) (w0:Base) (r:(List (List ac))×Int) (m4 m1 m5:Nat):Kont:=kl (bo M w0) (q10 M w0 r) [.b 8,.b 7,aa bQ,bC M w0 r m1 m4,.b 6,aa bn,.b 1,aa aO,aK M w0 r m1,.b 0,aa [1,1,1]] (cat Try.f10 p10_10) m5
abbrev k10_6 (M:Nat→Prop) (w0:Base) (r:(List (List ac))×Int) (m5 m4 m1 m6:Nat):Kont:=kl (bo M w0) (q10 M w0 r) [.b 10,.b 9,aa cz,cb M w0 r m4 m1 m5,.b 8,.b 7,aa bQ,bC M w0 r m1 m4,.b 6,aa bn,.b 1,aa aO,aK M w0 r m1,.b 0,aa [1,1,1]] (cat Try.f10 p10_12) m6
def s10_l1 (v1:List (List (V2 Int))) (v122:Int) (v123:List (List ac)) (v124:List TMp) (v139 v141 v142:Int) (v143:List ac) (v146:Int) (v147:V2 Int):AS:=⟨[(0,.sl (lm (eSl (eV2 (eInt .i64))) v1)),(2,.ref 112),(3,iI v139),(4,.ref 500018),(5,iI v122),(7,.ref 58),(8,iI v146),(10,.ptr 10 0),(19,.sl (lm (eSl (eV2 (eInt .i64))) v1)),(20,iI (v1.length:Int)),(21,iI v122),(26,.sl (lm (eV2 (eInt .i64)) (gD v1 v122))),(27,iI v141),(28,iI v142)],[(10,(eV2 (eInt .i64)) v147)],[(58,⟨30,4,lm aD v143⟩),(112,⟨28,1,lm (eSl aD) v123⟩),(500018,⟨75,1,lm eOmp v124⟩)],[10,58,112,500018]⟩
def s10_l4 (v1:List (List (V2 Int))) (v122:Int) (v123:List (List ac)) (v139:Int) (v143:List ac) (v166 v175 v181:Int) (v182:List TMp):AS:=⟨[(0,.sl (lm (eSl (eV2 (eInt .i64))) v1)),(2,.ref 112),(3,iI v139),(4,.ref 500018),(5,iI v122),(7,.ref 58),(13,.ptr 13 0),(14,iI v175),(15,iI v181),(19,.sl (lm (eSl (eV2 (eInt .i64))) v1)),(20,iI (v1.length:Int)),(21,iI v122),(67,.ref 58),(68,iI (v143.length:Int)),(69,iI v166)],[(13,aD (gD v143 v166))],[(58,⟨30,4,lm aD v143⟩),(112,⟨28,1,lm (eSl aD) v123⟩),(500018,⟨75,1,lm eOmp v182⟩)],[13,58,112,500018]⟩
def s10_j3 (v1:List (List (V2 Int))) (v122:Int) (v123:List (List ac)) (v139:Int) (v143:List ac) (v166 v175:Int) (v179:List TMp):AS:=⟨[(0,.sl (lm (eSl (eV2 (eInt .i64))) v1)),(2,.ref 112),(3,iI v139),(4,.ref 500018),(5,iI v122),(7,.ref 58),(13,.ptr 13 0),(14,iI v175),(19,.sl (lm (eSl (eV2 (eInt .i64))) v1)),(20,iI (v1.length:Int)),(21,iI v122),(67,.ref 58),(68,iI (v143.length:Int)),(69,iI v166)],[(13,aD (gD v143 v166))],[(58,⟨30,4,lm aD v143⟩),(112,⟨28,1,lm (eSl aD) v123⟩),(500018,⟨75,1,lm eOmp v179⟩)],[13,58,112,500018]⟩
def s10_l5 (v1:List (List (V2 Int))) (v122:Int) (v123:List (List ac)) (v139:Int) (v143:List ac) (v166 v175:Int) (v176:List TMp):AS:=⟨[(0,.sl (lm (eSl (eV2 (eInt .i64))) v1)),(2,.ref 112),(3,iI v139),(4,.ref 500018),(5,iI v122),(7,.ref 58),(13,.ptr 13 0),(14,iI v175),(19,.sl (lm (eSl (eV2 (eInt .i64))) v1)),(20,iI (v1.length:Int)),(21,iI v122),(67,.ref 58),(68,iI (v143.length:Int)),(69,iI v166)],[(13,aD (gD v143 v166))],[(58,⟨30,4,lm aD v143⟩),(112,⟨28,1,lm (eSl aD) v123⟩),(500018,⟨75,1,lm eOmp v176⟩)],[13,58,112,500018]⟩
def s10_l6 (v1:List (List (V2 Int))) (v122:Int) (v123:List (List ac)) (v139:Int) (v143:List ac) (v166:Int) (v167:List TMp):AS:=⟨[(0,.sl (lm (eSl (eV2 (eInt .i64))) v1)),(2,.ref 112),(3,iI v139),(4,.ref 500018),(5,iI v122),(7,.ref 58),(19,.sl (lm (eSl (eV2 (eInt .i64))) v1)),(20,iI (v1.length:Int)),(21,iI v122),(67,.ref 58),(68,iI (v143.length:Int)),(69,iI v166)],[],[(58,⟨30,4,lm aD v143⟩),(112,⟨28,1,lm (eSl aD) v123⟩),(500018,⟨75,1,lm eOmp v167⟩)],[58,112,500018]⟩
def s10_l2 (v1:List (List (V2 Int))) (v122:Int) (v123:List (List ac)) (v124:List TMp) (v139 v140 v141 v142:Int) (v143:List ac):AS:=⟨[(0,.sl (lm (eSl (eV2 (eInt .i64))) v1)),(2,.ref 112),(3,iI v139),(4,.ref 500018),(5,iI v122),(7,.ref 58),(8,iI v140),(19,.sl (lm (eSl (eV2 (eInt .i64))) v1)),(20,iI (v1.length:Int)),(21,iI v122),(26,.sl (lm (eV2 (eInt .i64)) (gD v1 v122))),(27,iI v141),(28,iI v142)],[],[(58,⟨30,4,lm aD v143⟩),(112,⟨28,1,lm (eSl aD) v123⟩),(500018,⟨75,1,lm eOmp v124⟩)],[58,112,500018]⟩
def s10_l7 (v1:List (List (V2 Int))) (v121 v122:Int) (v123:List (List ac)) (v124:List TMp):AS:=⟨[(0,.sl (lm (eSl (eV2 (eInt .i64))) v1)),(2,.ref 112),(3,iI v121),(4,.ref 500018),(19,.sl (lm (eSl (eV2 (eInt .i64))) v1)),(20,iI (v1.length:Int)),(21,iI v122)],[],[(112,⟨28,1,lm (eSl aD) v123⟩),(500018,⟨75,1,lm eOmp v124⟩)],[112,500018]⟩
abbrev bS (M:Nat→Prop) (w0:Base) (r:(List (List ac))×Int) (v1:List (List (V2 Int))) (m1:Nat) (L1:Int→Int→(List (List ac))→(List TMp)→Option ((List (List ac))×Int)):Prop:=∀ {v121 v122:Int} {v123:List (List ac)} {v124:List TMp},L1 v121 v122 v123 v124=some r→LP (bo M w0) (q10 M w0 r) [.b 0,aa [1,1,1]] (cat Try.f10 p10_0) m1 (s10_l7 v1 v121 v122 v123 v124)
abbrev H10_2 (M:Nat→Prop) (w0:Base) (r:(List (List ac))×Int) (v1:List (List (V2 Int))) (v122:Int) (v123:List (List ac)) (v124:List TMp) (m1 m2:Nat) (L2:Int→Int→Int→Int→(List ac)→Option ((List (List ac))×Int)):Prop:=∀ {v139 v140 v141 v142:Int} {v143:List ac},L2 v139 v140 v141 v142 v143=some r→LP (bo M w0) (q10 M w0 r) [.b 2,aa bP,.b 1,aa aO,aK M w0 r m1,.b 0,aa [1,1,1]] (cat Try.f10 p10_5) m2 (s10_l2 v1 v122 v123 v124 v139 v140 v141 v142 v143)
abbrev H10_3 (M:Nat→Prop) (w0:Base) (r:(List (List ac))×Int) (v1:List (List (V2 Int))) (v122:Int) (v123:List (List ac)) (v124:List TMp) (v139 v141 v142:Int) (v143:List ac) (m2 m1 m3:Nat) (L3:Int→(V2 Int)→Option ((List (List ac))×Int)):Prop:=∀ {v146:Int} {v147:V2 Int},L3 v146 v147=some r→LP (bo M w0) (q10 M w0 r) [.b 4,aa p10_6,.b 3,aa cK,cm M w0 r m1 m2,.b 2,aa bP,.b 1,aa aO,aK M w0 r m1,.b 0,aa [1,1,1]] (cat Try.f10 p10_8) m3 (s10_l1 v1 v122 v123 v124 v139 v141 v142 v143 v146 v147)
abbrev dJ (M:Nat→Prop) (w0:Base) (r:(List (List ac))×Int) (v1:List (List (V2 Int))) (v122:Int) (v123:List (List ac)) (v139:Int) (v143:List ac) (m1 m4:Nat) (L4:Int→(List TMp)→Option ((List (List ac))×Int)):Prop:=∀ {v166:Int} {v167:List TMp},L4 v166 v167=some r→LP (bo M w0) (q10 M w0 r) [.b 6,aa bn,.b 1,aa aO,aK M w0 r m1,.b 0,aa [1,1,1]] (cat Try.f10 p10_3) m4 (s10_l6 v1 v122 v123 v139 v143 v166 v167)
abbrev H10_5 (M:Nat→Prop) (w0:Base) (r:(List (List ac))×Int) (v1:List (List (V2 Int))) (v122:Int) (v123:List (List ac)) (v139:Int) (v143:List ac) (v166:Int) (m4 m1 m5:Nat) (L5:Int→(List TMp)→Option ((List (List ac))×Int)):Prop:=∀ {v175:Int} {v176:List TMp},L5 v175 v176=some r→LP (bo M w0) (q10 M w0 r) [.b 8,.b 7,aa bQ,bC M w0 r m1 m4,.b 6,aa bn,.b 1,aa aO,aK M w0 r m1,.b 0,aa [1,1,1]] (cat Try.f10 p10_10) m5 (s10_l5 v1 v122 v123 v139 v143 v166 v175 v176)
abbrev H10_6 (M:Nat→Prop) (w0:Base) (r:(List (List ac))×Int) (v1:List (List (V2 Int))) (v122:Int) (v123:List (List ac)) (v139:Int) (v143:List ac) (v166 v175:Int) (m5 m4 m1 m6:Nat) (L6:Int→(List TMp)→Option ((List (List ac))×Int)):Prop:=∀ {v181:Int} {v182:List TMp},L6 v181 v182=some r→LP (bo M w0) (q10 M w0 r) [.b 10,.b 9,aa cz,cb M w0 r m4 m1 m5,.b 8,.b 7,aa bQ,bC M w0 r m1 m4,.b 6,aa bn,.b 1,aa aO,aK M w0 r m1,.b 0,aa [1,1,1]] (cat Try.f10 p10_12) m6 (s10_l4 v1 v122 v123 v139 v143 v166 v175 v181 v182)
variable {K:Kn} {n:Nat} {M:Nat→Prop} {w0:Base} {r:(List (List ac))×Int} {v1:List (List (V2 Int))} {v121 v122:Int} {v123:List (List ac)} {v124:List TMp} {v139 v140 v141 v142:Int} {v143:List ac} {v146:Int} {v147:V2 Int} {v166:Int} {v167:List TMp} {v175:Int} {v176 v179:List TMp} {v181:Int} {v182:List TMp} {m1:Nat} {L1:Int→Int→(List (List ac))→(List TMp)→Option ((List (List ac))×Int)} {m2:Nat} {L2:Int→Int→Int→Int→(List ac)→Option ((List (List ac))×Int)} {m3:Nat} {L3:Int→(V2 Int)→Option ((List (List ac))×Int)} {m4:Nat} {L4:Int→(List TMp)→Option ((List (List ac))×Int)} {m5:Nat} {L5:Int→(List TMp)→Option ((List (List ac))×Int)} {m6:Nat} {L6:Int→(List TMp)→Option ((List (List ac))×Int)}
theorem kD (hK:KnOk K) (hL1:bS M w0 r v1 m1 L1) (hL2:H10_2 M w0 r v1 v122 v123 v124 m1 m2 L2) (hL3:H10_3 M w0 r v1 v122 v123 v124 v139 v141 v142 v143 m2 m1 m3 L3) (h:hF K n v1 v122 v123 v124 v139 v141 v142 v143 L1 L2 L3 v146 v147=some r):VE (bo M w0) (q10 M w0 r) [aa p10_8,k10_3 M w0 r m2 m1 m3,.b 4,aa p10_6,.b 3,aa cK,cm M w0 r m1 m2,.b 2,aa bP,.b 1,aa aO,aK M w0 r m1,.b 0,aa [1,1,1]] .normal (s10_l1 v1 v122 v123 v124 v139 v141 v142 v143 v146 v147):=by
  unfold hF at h
  refine ab (ks':=[aa p10_13,aa p10_14,aa p10_15,k10_3 M w0 r m2 m1 m3,.b 4,aa p10_6,.b 3,aa cK,cm M w0 r m1 m2,.b 2,aa bP,.b 1,aa aO,aK M w0 r m1,.b 0,aa [1,1,1]]) 2 (ah 2 ?_)
  obtain ⟨h231,h⟩:=ai h
  refine aj (aY 500018 1 eOmp h231) (ot_ldm (L:=v124) (id:=500018) (et:=75) (T:=75) (x:=(.tmp 34)) (decide_eq_true (au h231).2) (aP 5 1 (ot_lk (L:=v124) (id:=500018) (et:=75) (T:=75) (x:=(.tmp 35)) (y:=(.tmp 36)) (n:=v146) (decide_eq_true (au h231).2) (af ?_))))
  obtain ⟨v148,h232,h⟩:=bind_some h
  have h232:=Option.some.inj h232
  refine aV (ks':=[aa p10_14,aa p10_15,k10_3 M w0 r m2 m1 m3,.b 4,aa p10_6,.b 3,aa cK,cm M w0 r m1 m2,.b 2,aa bP,.b 1,aa aO,aK M w0 r m1,.b 0,aa [1,1,1]]) 0 ⟨[(0,.sl (lm (eSl (eV2 (eInt .i64))) v1)),(2,.ref 112),(3,iI v139),(4,.ref 500018),(5,iI v122),(7,.ref 58),(8,iI v146),(10,.ptr 10 0),(19,.sl (lm (eSl (eV2 (eInt .i64))) v1)),(20,iI (v1.length:Int)),(21,iI v122),(26,.sl (lm (eV2 (eInt .i64)) (gD v1 v122))),(27,iI v141),(28,iI v142),(37,.bool v148)],[(10,(eV2 (eInt .i64)) v147)],[(58,⟨30,4,lm aD v143⟩),(112,⟨28,1,lm (eSl aD) v123⟩),(500018,⟨75,1,lm eOmp v124⟩)],[10,58,112,500018]⟩ ?_ (by subst h232; kernel_rfl)
  rcases am h with ⟨h233,h⟩ | ⟨h233,h⟩
  ·
   exact ae 37 h233 (ag 5 (aN (hL3 h)))
  ·
   refine ae 37 h233 (ab (ks':=[aa p10_16,aa p10_17,.b 3,aa cK,cm M w0 r m1 m2,.b 2,aa bP,.b 1,aa aO,aK M w0 r m1,.b 0,aa [1,1,1]]) 6 (ah 6 (aj (aH (eSl (eV2 (eInt .i64))) v1) (af ?_))))
   obtain ⟨v149,h234,h⟩:=bind_some h
   have h234:=Option.some.inj h234
   refine aV (ks':=[aa p10_18,aa p10_19,.b 3,aa cK,cm M w0 r m1 m2,.b 2,aa bP,.b 1,aa aO,aK M w0 r m1,.b 0,aa [1,1,1]]) 1 ⟨[(0,.sl (lm (eSl (eV2 (eInt .i64))) v1)),(2,.ref 112),(3,iI v139),(4,.ref 500018),(5,iI v122),(7,.ref 58),(8,iI v146),(11,.ptr 11 0),(19,.sl (lm (eSl (eV2 (eInt .i64))) v1)),(20,iI (v1.length:Int)),(21,iI v122),(26,.sl (lm (eV2 (eInt .i64)) (gD v1 v122))),(27,iI v141),(28,iI v142)],[(11,aD (⟨v122,v146,v149,(min (max v147.a1 1) 100)⟩:ac))],[(58,⟨30,4,lm aD v143⟩),(112,⟨28,1,lm (eSl aD) v123⟩),(500018,⟨75,1,lm eOmp v124⟩)],[11,58,112,500018]⟩ ?_ (by subst h234; kernel_rfl)
   refine ah 3 ?_
   obtain ⟨h235,h⟩:=ai h
   exact aj (y_app 58 58 30 4 aD (rfl) (jf) h235) (af (ag 5 (aN (hL2 h))))
theorem kk (hK:KnOk K) (hL1:bS M w0 r v1 m1 L1) (hL2:H10_2 M w0 r v1 v122 v123 v124 m1 m2 L2) (m:Nat):H10_3 M w0 r v1 v122 v123 v124 v139 v141 v142 v143 m2 m1 m (gX K n v1 v122 v123 v124 v139 v141 v142 v143 L1 L2 m):=by
  induction m with
 | zero=>intro v146 v147 h; cases h
 | succ m ih=>intro v146 v147 h; have h:hF K n v1 v122 v123 v124 v139 v141 v142 v143 L1 L2 (gX K n v1 v122 v123 v124 v139 v141 v142 v143 L1 L2 m) v146 v147=some r:=h; exact aM (kD hK hL1 hL2 ih h)
theorem kQ (hK:KnOk K) (hL1:bS M w0 r v1 m1 L1) (hL4:dJ M w0 r v1 v122 v123 v139 v143 m1 m4 L4) (hL5:H10_5 M w0 r v1 v122 v123 v139 v143 v166 m4 m1 m5 L5) (hL6:H10_6 M w0 r v1 v122 v123 v139 v143 v166 v175 m5 m4 m1 m6 L6) (h:gK K n v1 v122 v123 v139 v143 v166 v175 L1 L4 L5 L6 v181 v182=some r):VE (bo M w0) (q10 M w0 r) [aa p10_12,k10_6 M w0 r m5 m4 m1 m6,.b 10,.b 9,aa cz,cb M w0 r m4 m1 m5,.b 8,.b 7,aa bQ,bC M w0 r m1 m4,.b 6,aa bn,.b 1,aa aO,aK M w0 r m1,.b 0,aa [1,1,1]] .normal (s10_l4 v1 v122 v123 v139 v143 v166 v175 v181 v182):=by
  unfold gK at h
  obtain ⟨v183,h292,h⟩:=bind_some h
  have h292:=Option.some.inj h292
  refine aV (ks':=[aa p10_20,aa p10_21,k10_6 M w0 r m5 m4 m1 m6,.b 10,.b 9,aa cz,cb M w0 r m4 m1 m5,.b 8,.b 7,aa bQ,bC M w0 r m1 m4,.b 6,aa bn,.b 1,aa aO,aK M w0 r m1,.b 0,aa [1,1,1]]) 3 ⟨[(0,.sl (lm (eSl (eV2 (eInt .i64))) v1)),(2,.ref 112),(3,iI v139),(4,.ref 500018),(5,iI v122),(7,.ref 58),(13,.ptr 13 0),(14,iI v175),(15,iI v181),(19,.sl (lm (eSl (eV2 (eInt .i64))) v1)),(20,iI (v1.length:Int)),(21,iI v122),(67,.ref 58),(68,iI (v143.length:Int)),(69,iI v166),(100,.bool v183)],[(13,aD (gD v143 v166))],[(58,⟨30,4,lm aD v143⟩),(112,⟨28,1,lm (eSl aD) v123⟩),(500018,⟨75,1,lm eOmp v182⟩)],[13,58,112,500018]⟩ ?_ (by subst h292; kernel_rfl)
  rcases am h with ⟨h293,h⟩ | ⟨h293,h⟩
  ·
   refine ae 100 h293 (ab (ks':=[aa p10_22,.b 11,aa p10_23,k10_6 M w0 r m5 m4 m1 m6,.b 10,.b 9,aa cz,cb M w0 r m4 m1 m5,.b 8,.b 7,aa bQ,bC M w0 r m1 m4,.b 6,aa bn,.b 1,aa aO,aK M w0 r m1,.b 0,aa [1,1,1]]) 4 (ah 2 ?_))
   obtain ⟨h294,h⟩:=ai h
   refine aj (aY 500018 1 eOmp h294) (ot_ldm (L:=v182) (id:=500018) (et:=75) (T:=75) (x:=(.tmp 105)) (decide_eq_true (au h294).2) (aP 5 1 ?_))
   obtain ⟨h295,h⟩:=ai h
   exact ot_mup (L:=v182) (id:=500018) (et:=75) (T:=75) (x:=(.tmp 106)) (y:=(.tmp 107)) (z:=(.const (.bool true))) (n:=v181) (b:=true) (decide_eq_true (au h294).2) h295 (af (ag 2 (aN (hL6 h))))
  ·
   exact ae 100 h293 (ag 7 (aN (hL5 h)))
theorem kn (hK:KnOk K) (hL1:bS M w0 r v1 m1 L1) (hL4:dJ M w0 r v1 v122 v123 v139 v143 m1 m4 L4) (hL5:H10_5 M w0 r v1 v122 v123 v139 v143 v166 m4 m1 m5 L5) (m:Nat):H10_6 M w0 r v1 v122 v123 v139 v143 v166 v175 m5 m4 m1 m (gL K n v1 v122 v123 v139 v143 v166 v175 L1 L4 L5 m):=by
  induction m with
 | zero=>intro v181 v182 h; cases h
 | succ m ih=>intro v181 v182 h; have h:gK K n v1 v122 v123 v139 v143 v166 v175 L1 L4 L5 (gL K n v1 v122 v123 v139 v143 v166 v175 L1 L4 L5 m) v181 v182=some r:=h; exact aM (kQ hK hL1 hL4 hL5 ih h)
theorem ji (hK:KnOk K) (hL1:bS M w0 r v1 m1 L1) (hL4:dJ M w0 r v1 v122 v123 v139 v143 m1 m4 L4) (hL5:H10_5 M w0 r v1 v122 v123 v139 v143 v166 m4 m1 m5 L5) (h:g7 K n v1 v122 v123 v139 v143 v166 v175 L1 L4 L5 v179=some r):VE (bo M w0) (q10 M w0 r) [aa p10_24,.b 9,aa cz,cb M w0 r m4 m1 m5,.b 8,.b 7,aa bQ,bC M w0 r m1 m4,.b 6,aa bn,.b 1,aa aO,aK M w0 r m1,.b 0,aa [1,1,1]] .normal (s10_j3 v1 v122 v123 v139 v143 v166 v175 v179):=by
  unfold g7 at h
  exact ag 3 (aL (p:=p10_25) n (kn hK hL1 hL4 hL5 n h))
theorem jU (hK:KnOk K) (hL1:bS M w0 r v1 m1 L1) (hL4:dJ M w0 r v1 v122 v123 v139 v143 m1 m4 L4) (hL5:H10_5 M w0 r v1 v122 v123 v139 v143 v166 m4 m1 m5 L5) (h:hJ K n v1 v122 v123 v139 v143 v166 L1 L4 L5 v175 v176=some r):VE (bo M w0) (q10 M w0 r) [aa p10_10,cb M w0 r m4 m1 m5,.b 8,.b 7,aa bQ,bC M w0 r m1 m4,.b 6,aa bn,.b 1,aa aO,aK M w0 r m1,.b 0,aa [1,1,1]] .normal (s10_l5 v1 v122 v123 v139 v143 v166 v175 v176):=by
  unfold hJ at h
  obtain ⟨v177,h282,h⟩:=bind_some h
  have h282:=Option.some.inj h282
  refine aV (ks':=[aa p10_26,aa p10_27,cb M w0 r m4 m1 m5,.b 8,.b 7,aa bQ,bC M w0 r m1 m4,.b 6,aa bn,.b 1,aa aO,aK M w0 r m1,.b 0,aa [1,1,1]]) 3 ⟨[(0,.sl (lm (eSl (eV2 (eInt .i64))) v1)),(2,.ref 112),(3,iI v139),(4,.ref 500018),(5,iI v122),(7,.ref 58),(13,.ptr 13 0),(14,iI v175),(19,.sl (lm (eSl (eV2 (eInt .i64))) v1)),(20,iI (v1.length:Int)),(21,iI v122),(67,.ref 58),(68,iI (v143.length:Int)),(69,iI v166),(80,.bool v177)],[(13,aD (gD v143 v166))],[(58,⟨30,4,lm aD v143⟩),(112,⟨28,1,lm (eSl aD) v123⟩),(500018,⟨75,1,lm eOmp v176⟩)],[13,58,112,500018]⟩ ?_ (by subst h282; kernel_rfl)
  rcases am h with ⟨h283,h⟩ | ⟨h283,h⟩
  ·
   refine ae 80 h283 (ab (ks':=[aa p10_28,aa p10_29,aa p10_24,.b 9,aa cz,cb M w0 r m4 m1 m5,.b 8,.b 7,aa bQ,bC M w0 r m1 m4,.b 6,aa bn,.b 1,aa aO,aK M w0 r m1,.b 0,aa [1,1,1]]) 6 (ah 2 ?_))
   obtain ⟨h284,h⟩:=ai h
   refine aj (aY 500018 1 eOmp h284) (ot_ldm (L:=v176) (id:=500018) (et:=75) (T:=75) (x:=(.tmp 85)) (decide_eq_true (au h284).2) (ot_mnil true (L:=v176) (id:=500018) (op:=.eql) (et:=75) (T:=75) (T':=75) (x:=(.tmp 86)) (y:=(.const (.map none))) (decide_eq_true (au h284).2) (af ?_)))
   obtain ⟨v178,h285,h⟩:=bind_some h
   have h285:=Option.some.inj h285
   refine aV (ks':=[aa p10_29,aa p10_24,.b 9,aa cz,cb M w0 r m4 m1 m5,.b 8,.b 7,aa bQ,bC M w0 r m1 m4,.b 6,aa bn,.b 1,aa aO,aK M w0 r m1,.b 0,aa [1,1,1]]) 0 ⟨[(0,.sl (lm (eSl (eV2 (eInt .i64))) v1)),(2,.ref 112),(3,iI v139),(4,.ref 500018),(5,iI v122),(7,.ref 58),(13,.ptr 13 0),(14,iI v175),(19,.sl (lm (eSl (eV2 (eInt .i64))) v1)),(20,iI (v1.length:Int)),(21,iI v122),(67,.ref 58),(68,iI (v143.length:Int)),(69,iI v166),(87,.bool v178)],[(13,aD (gD v143 v166))],[(58,⟨30,4,lm aD v143⟩),(112,⟨28,1,lm (eSl aD) v123⟩),(500018,⟨75,1,lm eOmp v176⟩)],[13,58,112,500018]⟩ ?_ (by subst h285; kernel_rfl)
   rcases am h with ⟨h286,h⟩ | ⟨h286,h⟩
   ·
    refine ae 87 h286 (ab (ks':=[aa p10_30,aa p10_24,.b 9,aa cz,cb M w0 r m4 m1 m5,.b 8,.b 7,aa bQ,bC M w0 r m1 m4,.b 6,aa bn,.b 1,aa aO,aK M w0 r m1,.b 0,aa [1,1,1]]) 1 (ah 2 ?_))
    obtain ⟨h287,h⟩:=ai h
    exact ot_mms (L:=v176) (id:=500018) (d1:=90) (d2:=91) (et:=75) (T:=75) (T1:=74) (T2:=75) (x:=(.tmp 88)) (y:=(.tmp 89)) (j:=v175) h287 (af (ag 0 (ji hK hL1 hL4 hL5 h)))
   ·
    exact ae 87 h286 (ag 2 (ji hK hL1 hL4 hL5 h))
  ·
   exact ae 80 h283 (ag 7 (aN (hL4 h)))
theorem kV (hK:KnOk K) (hL1:bS M w0 r v1 m1 L1) (hL4:dJ M w0 r v1 v122 v123 v139 v143 m1 m4 L4) (m:Nat):H10_5 M w0 r v1 v122 v123 v139 v143 v166 m4 m1 m (gU K n v1 v122 v123 v139 v143 v166 L1 L4 m):=by
  induction m with
 | zero=>intro v175 v176 h; cases h
 | succ m ih=>intro v175 v176 h; have h:hJ K n v1 v122 v123 v139 v143 v166 L1 L4 (gU K n v1 v122 v123 v139 v143 v166 L1 L4 m) v175 v176=some r:=h; exact aM (jU hK hL1 hL4 ih h)
theorem kE (hK:KnOk K) (hL1:bS M w0 r v1 m1 L1) (hL4:dJ M w0 r v1 v122 v123 v139 v143 m1 m4 L4) (h:ic K n v1 v122 v123 v139 v143 L1 L4 v166 v167=some r):VE (bo M w0) (q10 M w0 r) [aa p10_3,bC M w0 r m1 m4,.b 6,aa bn,.b 1,aa aO,aK M w0 r m1,.b 0,aa [1,1,1]] .normal (s10_l6 v1 v122 v123 v139 v143 v166 v167):=by
  unfold ic at h
  refine ab (ks':=[aa p10_31,aa p10_32,bC M w0 r m1 m4,.b 6,aa bn,.b 1,aa aO,aK M w0 r m1,.b 0,aa [1,1,1]]) 3 ?_
  rcases am h with ⟨h266,h⟩ | ⟨h266,h⟩
  ·
   refine ae 70 h266 (ab (ks':=[aa p10_33,aa p10_34,.b 7,aa bQ,bC M w0 r m1 m4,.b 6,aa bn,.b 1,aa aO,aK M w0 r m1,.b 0,aa [1,1,1]]) 5 (ah 0 ?_))
   obtain ⟨h267,h⟩:=ai h
   exact aj (aY 58 4 aD h267) (aj (aE 30 0 aD aD (au h267).2 (fun _=>rfl)) (af (ag 3 (aL (p:=p10_35) n (kV hK hL1 hL4 n h)))))
  ·
   refine ae 70 h266 (ab (ks':=[aa bn,.b 1,aa aO,aK M w0 r m1,.b 0,aa [1,1,1]]) 5 (ah 2 (ot_f 58 (aP 3 1 ?_))))
   obtain ⟨h296,h⟩:=ai h
   exact aj (y_app 112 112 28 1 (eSl aD) (rfl) (fun _=>rfl) h296) (af (ag 2 (aN (hL1 h))))
theorem j5 (hK:KnOk K) (hL1:bS M w0 r v1 m1 L1) (m:Nat):dJ M w0 r v1 v122 v123 v139 v143 m1 m (gN K n v1 v122 v123 v139 v143 L1 m):=by
  induction m with
 | zero=>intro v166 v167 h; cases h
 | succ m ih=>intro v166 v167 h; have h:ic K n v1 v122 v123 v139 v143 L1 (gN K n v1 v122 v123 v139 v143 L1 m) v166 v167=some r:=h; exact aM (kE hK hL1 ih h)
theorem jW (hK:KnOk K) (hL1:bS M w0 r v1 m1 L1) (hL2:H10_2 M w0 r v1 v122 v123 v124 m1 m2 L2) (h:gG K n v1 v122 v123 v124 L1 L2 v139 v140 v141 v142 v143=some r):VE (bo M w0) (q10 M w0 r) [aa p10_5,cm M w0 r m1 m2,.b 2,aa bP,.b 1,aa aO,aK M w0 r m1,.b 0,aa [1,1,1]] .normal (s10_l2 v1 v122 v123 v124 v139 v140 v141 v142 v143):=by
  unfold gG at h
  refine ab (ks':=[aa p10_36,aa p10_37,cm M w0 r m1 m2,.b 2,aa bP,.b 1,aa aO,aK M w0 r m1,.b 0,aa [1,1,1]]) 3 ?_
  rcases am h with ⟨h225,h⟩ | ⟨h225,h⟩
  ·
   refine ae 29 h225 (ab (ks':=[aa p10_38,aa p10_39,.b 3,aa cK,cm M w0 r m1 m2,.b 2,aa bP,.b 1,aa aO,aK M w0 r m1,.b 0,aa [1,1,1]]) 5 (ah 0 ?_))
   obtain ⟨h226,h⟩:=ai h
   exact aj (bG (eV2 (eInt .i64)) (eV2 (eInt .i64)) (sz:=2) h226 (fun _=>rfl) (fun _=>rfl)) (af (ag 2 (aL (p:=p10_40) n (kk hK hL1 hL2 n h))))
  ·
   exact ae 29 h225 (ab (ks':=[aa p10_41,aa p10_42,aa bn,.b 1,aa aO,aK M w0 r m1,.b 0,aa [1,1,1]]) 7 (ah 1 (aj (aH aD v143) (af (ag 1 (aL (p:=p10_43) n (j5 hK hL1 n h)))))))
theorem lp (hK:KnOk K) (hL1:bS M w0 r v1 m1 L1) (m:Nat):H10_2 M w0 r v1 v122 v123 v124 m1 m (ii K n v1 v122 v123 v124 L1 m):=by
  induction m with
 | zero=>intro v139 v140 v141 v142 v143 h; cases h
 | succ m ih=>intro v139 v140 v141 v142 v143 h; have h:gG K n v1 v122 v123 v124 L1 (ii K n v1 v122 v123 v124 L1 m) v139 v140 v141 v142 v143=some r:=h; exact aM (jW hK hL1 ih h)
theorem kF (hK:KnOk K) (hL1:bS M w0 r v1 m1 L1) (h:g0 K n v1 L1 v121 v122 v123 v124=some r):VE (bo M w0) (q10 M w0 r) [aa p10_0,aK M w0 r m1,.b 0,aa [1,1,1]] .normal (s10_l7 v1 v121 v122 v123 v124):=by
  unfold g0 at h
  refine ab (ks':=[aa p10_44,aa p10_45,aK M w0 r m1,.b 0,aa [1,1,1]]) 3 ?_
  rcases am h with ⟨h199,h⟩ | ⟨h199,h⟩
  ·
   refine ae 22 h199 (ab (ks':=[aa p10_46,aa p10_47,.b 1,aa aO,aK M w0 r m1,.b 0,aa [1,1,1]]) 5 (ah 1 ?_))
   obtain ⟨h200,h⟩:=ai h
   exact aj (bG (eSl (eV2 (eInt .i64))) (eSl (eV2 (eInt .i64))) h200 (fun _=>rfl) (fun _=>rfl)) (af (ab (ks':=[aa p10_48,aa p10_49,aa bP,.b 1,aa aO,aK M w0 r m1,.b 0,aa [1,1,1]]) 6 (ah 1 (aj (aH (eV2 (eInt .i64)) (gD v1 v122)) (af (ab (ks':=[aa p10_50,.b 2,aa bP,.b 1,aa aO,aK M w0 r m1,.b 0,aa [1,1,1]]) 1 (bv [0,2,3,4,5,7,8,19,20,21,26,27,28] [] [112,500018] (ve_w 58 7 30 4 (ag 0 (aL (p:=p10_50) n (lp hK hL1 n h)))))))))))
  ·
   refine ae 22 h199 (aG 8 ?_)
   cases h
   exact cD
theorem j1 (hK:KnOk K) (m:Nat):bS M w0 r v1 m (ib K n v1 m):=by
  induction m with
 | zero=>intro v121 v122 v123 v124 h; cases h
 | succ m ih=>intro v121 v122 v123 v124 h; have h:g0 K n v1 (ib K n v1 m) v121 v122 v123 v124=some r:=h; exact aM (kF hK ih h)
theorem jV (hK:KnOk K) (h:iM K n v1=some r):ACalls Try.prog 10 [.sl (lm (eSl (eV2 (eInt .i64))) v1)] (fun v s=>v = .tup [.ref 112,iI r.2]∧look 112 s.r=some ⟨28,1,lm (eSl aD) r.1⟩):=by
  refine bj (cat Try.f10 []) Try.func10 Try.ntmps10 fun M w0=>(aU ⟨[(0,.sl (lm (eSl (eV2 (eInt .i64))) v1))],[],[],[]⟩ ?_)
  unfold iM at h
  refine ab (ks':=[aa [1,0],aa [1,1]]) 3 (ah 1 (aj (aH (eSl (eV2 (eInt .i64))) v1) ?_))
  obtain ⟨h1,h⟩:=ai h
  refine cp eNilm (none:TMp) 74 (.tmp 17) (.tmp 17) 18 (e:=75) (sz:=1) (zc:=[.nilm]) (kd:=.i64) (kd':=.i64) h1 (ot_m 18 500018 (ot_om 500018 ((v1.length:Int)).toNat 75 (af ?_)))
  obtain ⟨v2,h2,h⟩:=bind_some h
  have h2:=Option.some.inj h2
  refine aV (ks':=[aa p10_51,aa p10_52,aa [1,1,1]]) 2 ⟨[(0,.sl (lm (eSl (eV2 (eInt .i64))) v1)),(2,.nils),(3,iI 0),(4,.ref 500018)],[],[(500018,⟨75,1,lm eOmp v2⟩)],[500018]⟩ ?_ (by subst h2; kernel_rfl)
  exact ah 1 (aj (aH (eSl (eV2 (eInt .i64))) v1) (af (ab (ks':=[aa p10_53,.b 0,aa [1,1,1]]) 1 (bv [0,2,3,4,19,20,21] [] [500018] (ve_w 112 2 28 1 (ag 0 (aL (p:=p10_53) n (j1 hK n h))))))))
end
noncomputable section
variable {K:Kn} {n:Nat} {M:Nat→Prop} {w0:Base} {r v1:Int} 
theorem gY (hK:KnOk K) (h:dK K n v1=some r):ACalls Try.prog 26 [iI v1] (fun v _=>v=iI r):=by
  refine bj (cat Try.f26 []) Try.func26 Try.ntmps26 fun M w0=>(aU ⟨[(0,iI v1)],[],[],[]⟩ ?_)
  unfold dK at h
  refine aG 5 ?_
  cases h
  exact aZ
end
noncomputable section
variable {K:Kn} {n:Nat} {M:Nat→Prop} {w0:Base} {r v1 v2:Int} 
theorem i8 (hK:KnOk K) (h:cQ K n v1 v2=some r):ACalls Try.prog 57 [iI v1,iI v2] (fun v _=>v=iI r):=by
  refine bj (cat Try.f57 []) Try.func57 Try.ntmps57 fun M w0=>(aU ⟨[(0,iI v1),(1,iI v2)],[],[],[]⟩ ?_)
  unfold cQ at h
  refine aG 5 ?_
  cases h
  exact aZ
end
def dZ:=pth 0 110011
def p80_1:=pth 0 1100100100
def p80_2:=pth 0 110010010001
def p80_3:=pth 0 11001001001
def p80_4:=pth 0 1100100100100
def p80_5:=pth 0 110010010011
def p80_6:=pth 0 110010010000
def p80_7:=pth 0 110001
def p80_8:=pth 0 11001
def p80_9:=pth 0 110010010
noncomputable section
abbrev dp (M:Nat→Prop) (w0:Base):Cx:=⟨Try.prog,53,M,w0⟩
abbrev q80 (M:Nat→Prop) (w0:Base) (r:List Int):=bodyPost Try.prog Try.f80 (RetQ M w0 (fun v s=>v = .tup []∧look 0 s.r=some ⟨3,1,lm (eInt .i64) r⟩))
abbrev de (M:Nat→Prop) (w0:Base) (r:List Int) (m1:Nat):Kont:=kl (dp M w0) (q80 M w0 r) [.b 0] (cat Try.f80 [1,0,0]) m1
abbrev bt (p:List Nat):Kont:=.c (cat Try.f80 p)
abbrev k80_2 (M:Nat→Prop) (w0:Base) (r:List Int) (m1 m2:Nat):Kont:=kl (dp M w0) (q80 M w0 r) [.b 2,.b 1,bt dZ,de M w0 r m1,.b 0] (cat Try.f80 p80_1) m2
def s80_j1 (v2 v3:Int) (v4:Fv) (v11 v15:Int) (v16:List Int) (v18:Bool):AS:=⟨[(0,.ref 0),(1,iI v2),(2,iI v3),(3,.fn v4.id v4.caps),(8,iI v11),(9,iI v15),(34,.bool v18)],[],[(0,⟨3,1,lm (eInt .i64) v16⟩)],[0,1000000,0]⟩
def s80_l2 (v2 v3:Int) (v4:Fv) (v11 v15:Int) (v16:List Int):AS:=⟨[(0,.ref 0),(1,iI v2),(2,iI v3),(3,.fn v4.id v4.caps),(8,iI v11),(9,iI v15)],[],[(0,⟨3,1,lm (eInt .i64) v16⟩)],[0,1000000,0]⟩
def s80_l3 (v2 v3:Int) (v4:Fv) (v11:Int) (v12:List Int):AS:=⟨[(0,.ref 0),(1,iI v2),(2,iI v3),(3,.fn v4.id v4.caps),(8,iI v11)],[],[(0,⟨3,1,lm (eInt .i64) v12⟩)],[0,1000000,0]⟩
abbrev H80_1 (M:Nat→Prop) (w0:Base) (r:List Int) (v2 v3:Int) (v4:Fv) (m1:Nat) (L1:Int→(List Int)→Option (List Int)):Prop:=∀ {v11:Int} {v12:List Int},L1 v11 v12=some r→LP (dp M w0) (q80 M w0 r) [.b 0] (cat Try.f80 [1,0,0]) m1 (s80_l3 v2 v3 v4 v11 v12)
abbrev H80_2 (M:Nat→Prop) (w0:Base) (r:List Int) (v2 v3:Int) (v4:Fv) (v11:Int) (m1 m2:Nat) (L2:Int→(List Int)→Option (List Int)):Prop:=∀ {v15:Int} {v16:List Int},L2 v15 v16=some r→LP (dp M w0) (q80 M w0 r) [.b 2,.b 1,bt dZ,de M w0 r m1,.b 0] (cat Try.f80 p80_1) m2 (s80_l2 v2 v3 v4 v11 v15 v16)
variable {K:Kn} {n:Nat} {M:Nat→Prop} {w0:Base} {r v1:List Int} {v2 v3:Int} {v4:Fv} {v11:Int} {v12:List Int} {v15:Int} {v16:List Int} {v18:Bool} {m1:Nat} {L1:Int→(List Int)→Option (List Int)} {m2:Nat} {L2:Int→(List Int)→Option (List Int)}
theorem jF (hK:KnOk K) (hL1:H80_1 M w0 r v2 v3 v4 m1 L1) (hL2:H80_2 M w0 r v2 v3 v4 v11 m1 m2 L2) (h:ff K n v2 v3 v4 v11 v15 v16 L1 L2 v18=some r):VE (dp M w0) (q80 M w0 r) [bt p80_2,bt p80_3,k80_2 M w0 r m1 m2,.b 2,.b 1,bt dZ,de M w0 r m1,.b 0] .normal (s80_j1 v2 v3 v4 v11 v15 v16 v18):=by
  unfold ff at h
  rcases am h with ⟨h34,h⟩ | ⟨h34,h⟩
  ·
   refine ae 34 h34 (ab (ks':=[bt p80_4,.b 3,bt p80_5,k80_2 M w0 r m1 m2,.b 2,.b 1,bt dZ,de M w0 r m1,.b 0]) 4 (bv [0,1,2,3,8,9] [] [0] ?_))
   obtain ⟨h35,h⟩:=ai h
   obtain ⟨h36,h⟩:=ai h
   obtain ⟨h37,h⟩:=ai h
   obtain ⟨h38,h⟩:=ai h
   exact bl 2 (nu 37 [.ref 0,iI v15,.ref 0,iI v15,iI (w64 (v15 - 1)),.ref 0,iI v15,iI (w64 (v15 - 1)),.eptr 0 1 (((w64 (v15 - 1))).toNat) 0,iI (gD v16 ((w64 (v15 - 1)))),.ref 0,iI v15,.eptr 0 1 (v15.toNat) 0,iI (gD v16 v15),.eptr 0 1 (v15.toNat) 0,.eptr 0 1 (((w64 (v15 - 1))).toNat) 0]) [] [] [strS 0 ⟨3,1,lm (eInt .i64) (List.set v16 v15.toNat (gD v16 ((w64 (v15 - 1)))))⟩,strS 0 ⟨3,1,lm (eInt .i64) (List.set (List.set v16 v15.toNat (gD v16 ((w64 (v15 - 1))))) ((w64 (v15 - 1))).toNat (gD v16 v15))⟩] (az [.v 0 1,.v 0 1,.v 0 2,.v 0 2,.v 0 2,.v 0 1,.v 0 1,.v 0 1] (d_v (aC 0 1 (eInt .i64) (L:=v16) h35) (d_v (aE 3 0 (eInt .i64) (eInt .i64) (au h35).2 (fun _=>rfl)) (az [.v 0 2,.v 0 2] (ax (k_v (lo:=0) (k:=2) (bX ⟨(by kernel_rfl),(cf (aC 0 1 (eInt .i64) (L:=v16) h36) (by kernel_rfl))⟩ (bX ⟨(by kernel_rfl),(cf (aC 0 1 (eInt .i64) (L:=(List.set v16 v15.toNat (gD v16 ((w64 (v15 - 1)))))) h36) (by kernel_rfl))⟩ dF))) (d_v (aE 3 0 (eInt .i64) (eInt .i64) (au h37).2 (fun _=>rfl)) (d_v (aC 0 1 (eInt .i64) (L:=v16) h37) (ax (e_s (m:=0) (bf 0 3 1 0 (eInt .i64) (eInt .i64) (gD v16 ((w64 (v15 - 1)))) (au h37).2 (fun _=>rfl))) (ax (e_v (lo:=1) (aC 0 1 (eInt .i64) (L:=(List.set v16 v15.toNat (gD v16 ((w64 (v15 - 1)))))) h38)) (ax (e_s (m:=1) (bf 0 3 1 0 (eInt .i64) (eInt .i64) (gD v16 v15) (au h38).2 (fun _=>rfl))) bm)))))))))) (ag 2 (aN (hL2 h)))
  ·
   exact ae 34 h34 (ag 7 (aN (hL1 h)))
theorem kj (hK:KnOk K) (hL1:H80_1 M w0 r v2 v3 v4 m1 L1) (hL2:H80_2 M w0 r v2 v3 v4 v11 m1 m2 L2) (h:fk K n v2 v3 v4 v11 L1 L2 v15 v16=some r):VE (dp M w0) (q80 M w0 r) [bt p80_1,k80_2 M w0 r m1 m2,.b 2,.b 1,bt dZ,de M w0 r m1,.b 0] .normal (s80_l2 v2 v3 v4 v11 v15 v16):=by
  unfold fk at h
  refine ab (ks':=[bt p80_6,bt p80_2,bt p80_3,k80_2 M w0 r m1 m2,.b 2,.b 1,bt dZ,de M w0 r m1,.b 0]) 2 (bv [0,1,2,3,8,9] [] [0] ?_)
  rcases am h with ⟨h30,h⟩ | ⟨h30,h⟩
  ·
   obtain ⟨h31,h⟩:=ai h
   obtain ⟨h32,h⟩:=ai h
   obtain ⟨v17,h33,h⟩:=bind_some h
   exact bl 0 (nu 18 [iI v15,iI v2,.bool (decide (v15>v2)),.bool true,.fn v4.id v4.caps,.ref 0,iI v15,.eptr 0 1 (v15.toNat) 0,iI (gD v16 v15),.ref 0,iI v15,iI (w64 (v15 - 1)),.eptr 0 1 (((w64 (v15 - 1))).toNat) 0,iI (gD v16 ((w64 (v15 - 1)))),iI v17,.bool (decide (v17<0)),.bool (decide (v17<0))]) [] [] [] (az (vz 3) (ax (e_b 0 21 (e:=(decide (v15>v2))) (b:=true) h30) (az (vz 3) (d_v (aC 0 1 (eInt .i64) (L:=v16) h31) (d_v (aE 3 0 (eInt .i64) (eInt .i64) (au h31).2 (fun _=>rfl)) (az (vz 3) (d_v (aC 0 1 (eInt .i64) (L:=v16) h32) (d_v (aE 3 0 (eInt .i64) (eInt .i64) (au h32).2 (fun _=>rfl)) (ax (e_c 0 1 32 (hK.bM h33).2 (hK.bM h33).1) (az (vz 2) bm)))))))))) (ag 0 (jF hK hL1 hL2 h))
  ·
   exact bl 0 (nu 18 [iI v15,iI v2,.bool (decide (v15>v2)),.bool false,.tup [],.tup [],.tup [],.tup [],.tup [],.tup [],.tup [],.tup [],.tup [],.tup [],.tup [],.tup [],.bool false]) [] [] [] (az (vz 3) (ax (e_b 0 21 (e:=(decide (v15>v2))) (b:=false) h30) (ax (aR 0 1) (ax (aR 0 1) (ax (aR 0 1) (ax (aR 0 1) (ax (aR 0 1) (ax (aR 0 1) (ax (aR 0 1) (ax (aR 0 1) (ax (aR 0 1) (ax (aR 0 1) (ax (aR 0 1) (ax (aR 0 1) (az [.v 0 1] bm))))))))))))))) (ag 0 (jF hK hL1 hL2 h))
theorem kN (hK:KnOk K) (hL1:H80_1 M w0 r v2 v3 v4 m1 L1) (m:Nat):H80_2 M w0 r v2 v3 v4 v11 m1 m (ef K n v2 v3 v4 v11 L1 m):=by
  induction m with
 | zero=>intro v15 v16 h; cases h
 | succ m ih=>intro v15 v16 h; have h:fk K n v2 v3 v4 v11 L1 (ef K n v2 v3 v4 v11 L1 m) v15 v16=some r:=h; exact aM (kj hK hL1 ih h)
theorem lf (hK:KnOk K) (hL1:H80_1 M w0 r v2 v3 v4 m1 L1) (h:eJ K n v2 v3 v4 L1 v11 v12=some r):VE (dp M w0) (q80 M w0 r) [bt [1,0,0],de M w0 r m1,.b 0] .normal (s80_l3 v2 v3 v4 v11 v12):=by
  unfold eJ at h
  refine ab (ks':=[bt p80_7,bt p80_8,de M w0 r m1,.b 0]) 3 ?_
  rcases am h with ⟨h20,h⟩ | ⟨h20,h⟩
  ·
   exact ae 14 h20 (ag 7 (aL (p:=p80_9) n (kN hK hL1 n h)))
  ·
   refine ae 14 h20 (ab (ks':=[]) 5 (e9 ?_))
   cases h
   exact cD
theorem lu (hK:KnOk K) (m:Nat):H80_1 M w0 r v2 v3 v4 m (cW K n v2 v3 v4 m):=by
  induction m with
 | zero=>intro v11 v12 h; cases h
 | succ m ih=>intro v11 v12 h; have h:eJ K n v2 v3 v4 (cW K n v2 v3 v4 m) v11 v12=some r:=h; exact aM (lf hK ih h)
theorem jk (hK:KnOk K) (h:eE K n v1 v2 v3 v4=some r):AIO Try.prog 80 [.ref 0,iI v2,iI v3,.fn v4.id v4.caps] 0 ⟨3,1,lm (eInt .i64) v1⟩ (fun v s=>v = .tup []∧look 0 s.r=some ⟨3,1,lm (eInt .i64) r⟩):=by
  refine eT (c:=cat Try.f80 []) Try.func80 (by kernel_rfl) _ Try.ntmps80 (of_decide_eq_true (by kernel_rfl)) fun M w0=>(aU ⟨[(0,.ref 0),(1,iI v2),(2,iI v3),(3,.fn v4.id v4.caps)],[],[(0,⟨3,1,lm (eInt .i64) v1⟩)],[0,1000000]⟩ ?_)
  unfold eE at h
  exact ag 3 (aL (p:=[1,0]) n (lu hK n h))
end
def p95_0:=pth 0 110001
def p95_1:=pth 0 11001
def p95_2:=pth 0 1100100
def p95_3:=pth 0 110011
noncomputable section
abbrev cx95 (M:Nat→Prop) (w0:Base):Cx:=⟨Try.prog,38,M,w0⟩
abbrev q95 (M:Nat→Prop) (w0:Base) (r:List Int):=bodyPost Try.prog Try.f95 (RetQ M w0 (fun v s=>v = .tup []∧look 0 s.r=some ⟨3,1,lm (eInt .i64) r⟩))
abbrev k95_1 (M:Nat→Prop) (w0:Base) (r:List Int) (m1:Nat):Kont:=kl (cx95 M w0) (q95 M w0 r) [.b 0] (cat Try.f95 [1,0,0]) m1
def s95_l1 (v2 v3 v4 v6:Int) (v7:List Int):AS:=⟨[(0,.ref 0),(1,iI v2),(2,iI v3),(3,iI v4),(10,iI v6)],[],[(0,⟨3,1,lm (eInt .i64) v7⟩)],[0,1000000,0]⟩
abbrev H95_1 (M:Nat→Prop) (w0:Base) (r:List Int) (v2 v3 v4:Int) (m1:Nat) (L1:Int→(List Int)→Option (List Int)):Prop:=∀ {v6:Int} {v7:List Int},L1 v6 v7=some r→LP (cx95 M w0) (q95 M w0 r) [.b 0] (cat Try.f95 [1,0,0]) m1 (s95_l1 v2 v3 v4 v6 v7)
variable {K:Kn} {n:Nat} {M:Nat→Prop} {w0:Base} {r v1:List Int} {v2 v3 v4:Int} {v5:Fv} {v6:Int} {v7:List Int} {m1:Nat} {L1:Int→(List Int)→Option (List Int)}
abbrev cF95 (p:List Nat):Kont:=.c (cat Try.f95 p)
theorem j6 (hK:KnOk K) (hL1:H95_1 M w0 r v2 v3 v4 m1 L1) (h:fL K n v2 v3 v4 L1 v6 v7=some r):VE (cx95 M w0) (q95 M w0 r) [cF95 [1,0,0],k95_1 M w0 r m1,.b 0] .normal (s95_l1 v2 v3 v4 v6 v7):=by
  unfold fL at h
  refine ab (ks':=[cF95 p95_0,cF95 p95_1,k95_1 M w0 r m1,.b 0]) 3 ?_
  rcases am h with ⟨h6,h⟩ | ⟨h6,h⟩
  ·
   refine ae 13 h6 (ab (ks':=[cF95 p95_2,.b 1,cF95 p95_3,k95_1 M w0 r m1,.b 0]) 4 (bv [0,1,2,3,10] [] [0] ?_))
   obtain ⟨h7,h⟩:=ai h
   obtain ⟨h8,h⟩:=ai h
   obtain ⟨h9,h⟩:=ai h
   obtain ⟨h10,h⟩:=ai h
   exact bl 2 (nu 16 [.ref 0,iI v2,iI v6,iI (w64 (v2+v6)),.ref 0,iI v3,iI v6,iI (w64 (v3+v6)),.ref 0,iI v3,iI v6,iI (w64 (v3+v6)),.eptr 0 1 (((w64 (v3+v6))).toNat) 0,iI (gD v7 ((w64 (v3+v6)))),.ref 0,iI v2,iI v6,iI (w64 (v2+v6)),.eptr 0 1 (((w64 (v2+v6))).toNat) 0,iI (gD v7 ((w64 (v2+v6)))),.eptr 0 1 (((w64 (v2+v6))).toNat) 0,.eptr 0 1 (((w64 (v3+v6))).toNat) 0]) [] [] [strS 0 ⟨3,1,lm (eInt .i64) (List.set v7 ((w64 (v2+v6))).toNat (gD v7 ((w64 (v3+v6)))))⟩,strS 0 ⟨3,1,lm (eInt .i64) (List.set (List.set v7 ((w64 (v2+v6))).toNat (gD v7 ((w64 (v3+v6))))) ((w64 (v3+v6))).toNat (gD v7 ((w64 (v2+v6)))))⟩] (az [.v 0 1,.v 0 1,.v 0 1,.v 0 1,.v 0 2,.v 0 2,.v 0 2,.v 0 2,.v 0 1,.v 0 1,.v 0 1,.v 0 1] (d_v (aC 0 1 (eInt .i64) (L:=v7) h7) (d_v (aE 3 0 (eInt .i64) (eInt .i64) (au h7).2 (fun _=>rfl)) (az [.v 0 2,.v 0 2,.v 0 2,.v 0 2] (ax (k_v (lo:=0) (k:=2) (bX ⟨(by kernel_rfl),(cf (aC 0 1 (eInt .i64) (L:=v7) h8) (by kernel_rfl))⟩ (bX ⟨(by kernel_rfl),(cf (aC 0 1 (eInt .i64) (L:=(List.set v7 ((w64 (v2+v6))).toNat (gD v7 ((w64 (v3+v6)))))) h8) (by kernel_rfl))⟩ dF))) (d_v (aE 3 0 (eInt .i64) (eInt .i64) (au h9).2 (fun _=>rfl)) (d_v (aC 0 1 (eInt .i64) (L:=v7) h9) (ax (e_s (m:=0) (bf 0 3 1 0 (eInt .i64) (eInt .i64) (gD v7 ((w64 (v3+v6)))) (au h9).2 (fun _=>rfl))) (ax (e_v (lo:=1) (aC 0 1 (eInt .i64) (L:=(List.set v7 ((w64 (v2+v6))).toNat (gD v7 ((w64 (v3+v6)))))) h10)) (ax (e_s (m:=1) (bf 0 3 1 0 (eInt .i64) (eInt .i64) (gD v7 ((w64 (v2+v6)))) (au h10).2 (fun _=>rfl))) bm)))))))))) (ag 2 (aN (hL1 h)))
  ·
   refine ae 13 h6 (ab (ks':=[]) 5 (e9 ?_))
   cases h
   exact cD
theorem lk (hK:KnOk K) (m:Nat):H95_1 M w0 r v2 v3 v4 m (eW K n v2 v3 v4 m):=by
  induction m with
 | zero=>intro v6 v7 h; cases h
 | succ m ih=>intro v6 v7 h; have h:fL K n v2 v3 v4 (eW K n v2 v3 v4 m) v6 v7=some r:=h; exact aM (j6 hK ih h)
theorem iW (hK:KnOk K) (h:dP K n v1 v2 v3 v4 v5=some r):AIO Try.prog 95 [.ref 0,iI v2,iI v3,iI v4,.fn v5.id v5.caps] 0 ⟨3,1,lm (eInt .i64) v1⟩ (fun v s=>v = .tup []∧look 0 s.r=some ⟨3,1,lm (eInt .i64) r⟩):=by
  refine eT (c:=cat Try.f95 []) Try.func95 (by kernel_rfl) _ Try.ntmps95 (of_decide_eq_true (by kernel_rfl)) fun M w0=>(aU ⟨[(0,.ref 0),(1,iI v2),(2,iI v3),(3,iI v4),(4,.fn v5.id v5.caps)],[],[(0,⟨3,1,lm (eInt .i64) v1⟩)],[0,1000000]⟩ ?_)
  unfold dP at h
  exact ag 3 (aL (p:=[1,0]) n (lk hK n h))
end
def p92_0:=pth 0 111000
def p92_1:=pth 0 11100001
def p92_2:=pth 0 1110001
def p92_3:=pth 0 111000101
def p92_4:=pth 0 11100010100
def p92_5:=pth 0 11100010101
def p92_6:=pth 0 11100010110
def p92_7:=pth 0 11100010111
def p92_8:=pth 0 11100
noncomputable section
abbrev cx92 (M:Nat→Prop) (w0:Base):Cx:=⟨Try.prog,58,M,w0⟩
abbrev q92 (M:Nat→Prop) (w0:Base) (r:List Int):=bodyPost Try.prog Try.f92 (RetQ M w0 (fun v s=>v = .tup []∧look 0 s.r=some ⟨3,1,lm (eInt .i64) r⟩))
abbrev bz (p:List Nat):Kont:=.c (cat Try.f92 p)
abbrev e8 (M:Nat→Prop) (w0:Base) (r:List Int) (m1:Nat):Kont:=kl (cx92 M w0) (q92 M w0 r) [.b 0,bz [1,1,1]] (cat Try.f92 p92_0) m1
def s92_j1 (v3:Int) (v5:Fv) (v16 v17:Int) (v18:List Int):AS:=⟨[(0,.ref 0),(2,iI v3),(4,.fn v5.id v5.caps),(10,iI v16),(11,iI v17)],[],[(0,⟨3,1,lm (eInt .i64) v18⟩)],[0,1000000,0]⟩
def s92_l2 (v3:Int) (v5:Fv) (v11 v12:Int) (v13:List Int):AS:=⟨[(0,.ref 0),(2,iI v3),(4,.fn v5.id v5.caps),(10,iI v11),(11,iI v12)],[],[(0,⟨3,1,lm (eInt .i64) v13⟩)],[0,1000000,0]⟩
abbrev H92_1 (M:Nat→Prop) (w0:Base) (r:List Int) (v3:Int) (v5:Fv) (m1:Nat) (L1:Int→Int→(List Int)→Option (List Int)):Prop:=∀ {v11 v12:Int} {v13:List Int},L1 v11 v12 v13=some r→LP (cx92 M w0) (q92 M w0 r) [.b 0,bz [1,1,1]] (cat Try.f92 p92_0) m1 (s92_l2 v3 v5 v11 v12 v13)
variable {K:Kn} {n:Nat} {M:Nat→Prop} {w0:Base} {r v1:List Int} {v2 v3 v4:Int} {v5:Fv} {v11 v12:Int} {v13:List Int} {v16 v17:Int} {v18:List Int} {m1:Nat} {L1:Int→Int→(List Int)→Option (List Int)}
theorem jv (hK:KnOk K) (hL1:H92_1 M w0 r v3 v5 m1 L1) (h:eF K n v3 v5 L1 v16 v17 v18=some r):VE (cx92 M w0) (q92 M w0 r) [.b 1,e8 M w0 r m1,.b 0,bz [1,1,1]] .normal (s92_j1 v3 v5 v16 v17 v18):=by
  unfold eF at h
  exact ag 1 (aN (hL1 h))
theorem ky (hK:KnOk K) (hL1:H92_1 M w0 r v3 v5 m1 L1) (h:fJ K n v3 v5 L1 v11 v12 v13=some r):VE (cx92 M w0) (q92 M w0 r) [bz p92_0,e8 M w0 r m1,.b 0,bz [1,1,1]] .normal (s92_l2 v3 v5 v11 v12 v13):=by
  unfold fJ at h
  refine ab (ks':=[bz p92_1,bz p92_2,e8 M w0 r m1,.b 0,bz [1,1,1]]) 3 ?_
  rcases am h with ⟨h5,h⟩ | ⟨h5,h⟩
  ·
   refine ae 20 h5 (ab (ks':=[bz p92_3,.b 1,e8 M w0 r m1,.b 0,bz [1,1,1]]) 5 ?_)
   rcases am h with ⟨h6,h⟩ | ⟨h6,h⟩
   ·
    refine ae 23 h6 (ab (ks':=[bz p92_4,bz p92_5,.b 1,e8 M w0 r m1,.b 0,bz [1,1,1]]) 2 (ah 7 ?_))
    obtain ⟨v14,h7,h⟩:=bind_some h
    exact bZ 0 0 (iW hK h7) (af (ag 1 (jv hK hL1 h)))
   ·
    refine ae 23 h6 (ab (ks':=[bz p92_6,bz p92_7,.b 1,e8 M w0 r m1,.b 0,bz [1,1,1]]) 2 (ah 11 ?_))
    obtain ⟨v15,h8,h⟩:=bind_some h
    exact bZ 0 0 (iW hK h8) (af (ag 1 (jv hK hL1 h)))
  ·
   refine ae 20 h5 (ab (ks':=[bz [1,1,1]]) 5 (ah 7 ?_))
   obtain ⟨v19,h9,h⟩:=bind_some h
   refine bZ 0 0 (iW hK h9) (af (e9 ?_))
   cases h
   exact cD
theorem km (hK:KnOk K) (m:Nat):H92_1 M w0 r v3 v5 m (ez K n v3 v5 m):=by
  induction m with
 | zero=>intro v11 v12 v13 h; cases h
 | succ m ih=>intro v11 v12 v13 h; have h:fJ K n v3 v5 (ez K n v3 v5 m) v11 v12 v13=some r:=h; exact aM (ky hK ih h)
theorem lD (hK:KnOk K) (h:gp K n v1 v2 v3 v4 v5=some r):AIO Try.prog 92 [.ref 0,iI v2,iI v3,iI v4,.fn v5.id v5.caps] 0 ⟨3,1,lm (eInt .i64) v1⟩ (fun v s=>v = .tup []∧look 0 s.r=some ⟨3,1,lm (eInt .i64) r⟩):=by
  refine eT (c:=cat Try.f92 []) Try.func92 (by kernel_rfl) _ Try.ntmps92 (of_decide_eq_true (by kernel_rfl)) fun M w0=>(aU ⟨[(0,.ref 0),(1,iI v2),(2,iI v3),(3,iI v4),(4,.fn v5.id v5.caps)],[],[(0,⟨3,1,lm (eInt .i64) v1⟩)],[0,1000000]⟩ ?_)
  unfold gp at h
  exact ag 6 (aL (p:=p92_8) n (km hK n h))
end
def p81_0:=pth 0 10101111
def p81_1:=pth 0 10101110100
def ec:=pth 0 1010111
def p81_3:=pth 0 101011000
def p81_4:=pth 0 110101111
def p81_5:=pth 0 110101110100
def d4:=pth 0 11010111
def p81_7:=pth 0 1101011000
def e7:=pth 8 1
def p81_9:=pth 7 1000
def p81_10:=pth 0 1010111010001
def p81_11:=pth 0 101011101001
def p81_12:=pth 0 10101110100100
def p81_13:=pth 0 1010111010011
def p81_14:=pth 0 10101100001
def p81_15:=pth 0 1010110001
def p81_16:=pth 0 1010110001010
def p81_17:=pth 0 1010110001011
def p81_18:=pth 0 1010111010
def p81_19:=pth 0 11010111010001
def p81_20:=pth 0 1101011101001
def p81_21:=pth 0 110101110100100
def p81_22:=pth 0 11010111010011
def p81_23:=pth 0 110101100001
def p81_24:=pth 0 11010110001
def p81_25:=pth 0 11010110001010
def p81_26:=pth 0 11010110001011
def p81_27:=pth 0 11010111010
def p81_28:=pth 12 1
def p81_29:=pth 12 10
def p81_30:=pth 11 1
def p81_31:=pth 11 10
def p81_32:=pth 10 101
def p81_33:=pth 10 1010
def p81_34:=pth 10 1
def p81_35:=pth 10 100
def p81_36:=pth 9 101
def p81_37:=pth 9 1010
def p81_38:=pth 7 100001
def p81_39:=pth 7 10001
def p81_40:=pth 7 10001010
def p81_41:=pth 7 10001011
def p81_42:=pth 9 100
def p81_43:=pth 6 1
def p81_44:=pth 7 100
def p81_45:=pth 0 10101100
def p81_46:=pth 0 110101100
def p81_47:=pth 5 101
noncomputable section
abbrev bd (M:Nat→Prop) (w0:Base):Cx:=⟨Try.prog,220,M,w0⟩
abbrev q81 (M:Nat→Prop) (w0:Base) (r:List Int):=bodyPost Try.prog Try.f81 (RetQ M w0 (fun v s=>v = .tup []∧look 0 s.r=some ⟨3,1,lm (eInt .i64) r⟩))
abbrev ak (p:List Nat):Kont:=.c (cat Try.f81 p)
abbrev k81_2 (M:Nat→Prop) (w0:Base) (r:List Int) (m2:Nat):Kont:=kl (bd M w0) (q81 M w0 r) [.b 2,ak p81_0,ak [1]] (cat Try.f81 p81_1) m2
abbrev k81_1 (M:Nat→Prop) (w0:Base) (r:List Int) (m1:Nat):Kont:=kl (bd M w0) (q81 M w0 r) [.b 0,ak ec,ak [1]] (cat Try.f81 p81_3) m1
abbrev k81_4 (M:Nat→Prop) (w0:Base) (r:List Int) (m4:Nat):Kont:=kl (bd M w0) (q81 M w0 r) [.b 6,ak p81_4,ak [1,1]] (cat Try.f81 p81_5) m4
abbrev k81_3 (M:Nat→Prop) (w0:Base) (r:List Int) (m3:Nat):Kont:=kl (bd M w0) (q81 M w0 r) [.b 4,ak d4,ak [1,1]] (cat Try.f81 p81_7) m3
abbrev k81_5 (M:Nat→Prop) (w0:Base) (r:List Int) (m5:Nat):Kont:=kl (bd M w0) (q81 M w0 r) [.b 8,ak e7] (cat Try.f81 p81_9) m5
def s81_j1 (v1:List Int) (v2:Int) (v5:Fv) (v14 v15:Int):AS:=⟨[(0,.ref 0),(1,iI v2),(4,.fn v5.id v5.caps),(10,iI v14),(11,iI v15)],[],[(0,⟨3,1,lm (eInt .i64) v1⟩)],[0,1000000,0]⟩
def s81_l3 (v10 v16:Int) (v17:List Int):AS:=⟨[(0,.ref 0),(10,iI v10),(13,iI v16)],[],[(0,⟨3,1,lm (eInt .i64) v17⟩)],[0,1000000,0]⟩
def s81_l2 (v1:List Int) (v2:Int) (v5:Fv) (v10 v11:Int):AS:=⟨[(0,.ref 0),(1,iI v2),(4,.fn v5.id v5.caps),(10,iI v10),(11,iI v11)],[],[(0,⟨3,1,lm (eInt .i64) v1⟩)],[0,1000000,0]⟩
def s81_j4 (v1:List Int) (v3:Int) (v5:Fv) (v26 v27:Int):AS:=⟨[(0,.ref 0),(2,iI v3),(4,.fn v5.id v5.caps),(14,iI v26),(15,iI v27)],[],[(0,⟨3,1,lm (eInt .i64) v1⟩)],[0,1000000,0]⟩
def s81_l6 (v22 v28:Int) (v29:List Int):AS:=⟨[(0,.ref 0),(14,iI v22),(17,iI v28)],[],[(0,⟨3,1,lm (eInt .i64) v29⟩)],[0,1000000,0]⟩
def s81_l5 (v1:List Int) (v3:Int) (v5:Fv) (v22 v23:Int):AS:=⟨[(0,.ref 0),(2,iI v3),(4,.fn v5.id v5.caps),(14,iI v22),(15,iI v23)],[],[(0,⟨3,1,lm (eInt .i64) v1⟩)],[0,1000000,0]⟩
def s81_j8 (v1:List Int) (v2 v3 v4:Int) (v5:Fv) (v30 v31 v43 v44:Int):AS:=⟨[(0,.ref 0),(1,iI v2),(2,iI v3),(3,iI v4),(4,.fn v5.id v5.caps),(18,iI v30),(19,iI v31),(20,iI v43),(21,iI v44),(22,iI (w64 (v31 - 1)))],[],[(0,⟨3,1,lm (eInt .i64) v1⟩)],[0,1000000,0]⟩
def s81_j15 (v53:List Int):AS:=⟨[],[],[(0,⟨3,1,lm (eInt .i64) v53⟩)],[0,1000000,0]⟩
def s81_j14 (v4:Int) (v5:Fv) (v30 v31 v39:Int) (v50:List Int) (v51:Bool):AS:=⟨[(0,.ref 0),(3,iI v4),(4,.fn v5.id v5.caps),(18,iI v30),(24,iI (w64 (v31 - v39))),(213,.bool v51)],[],[(0,⟨3,1,lm (eInt .i64) v50⟩)],[0,1000000,0]⟩
def s81_j13 (v4:Int) (v5:Fv) (v30 v31 v39:Int) (v50:List Int):AS:=⟨[(0,.ref 0),(3,iI v4),(4,.fn v5.id v5.caps),(18,iI v30),(24,iI (w64 (v31 - v39)))],[],[(0,⟨3,1,lm (eInt .i64) v50⟩)],[0,1000000,0]⟩
def s81_j12 (v2 v4:Int) (v5:Fv) (v30 v31 v39:Int) (v47:List Int) (v48:Bool):AS:=⟨[(0,.ref 0),(1,iI v2),(3,iI v4),(4,.fn v5.id v5.caps),(18,iI v30),(20,iI v39),(24,iI (w64 (v31 - v39))),(199,.bool v48)],[],[(0,⟨3,1,lm (eInt .i64) v47⟩)],[0,1000000,0]⟩
def s81_j11 (v2 v4:Int) (v5:Fv) (v30 v31 v39:Int) (v47:List Int):AS:=⟨[(0,.ref 0),(1,iI v2),(3,iI v4),(4,.fn v5.id v5.caps),(18,iI v30),(20,iI v39),(24,iI (w64 (v31 - v39)))],[],[(0,⟨3,1,lm (eInt .i64) v47⟩)],[0,1000000,0]⟩
def s81_j10 (v1:List Int) (v2 v3 v4:Int) (v5:Fv) (v30 v31 v39:Int) (v45:Bool):AS:=⟨[(0,.ref 0),(1,iI v2),(2,iI v3),(3,iI v4),(4,.fn v5.id v5.caps),(18,iI v30),(20,iI v39),(24,iI (w64 (v31 - v39))),(185,.bool v45)],[],[(0,⟨3,1,lm (eInt .i64) v1⟩)],[0,1000000,0]⟩
def s81_l9 (v1:List Int) (v2 v3 v4:Int) (v5:Fv) (v30 v31 v39 v40:Int):AS:=⟨[(0,.ref 0),(1,iI v2),(2,iI v3),(3,iI v4),(4,.fn v5.id v5.caps),(18,iI v30),(19,iI v31),(20,iI v39),(21,iI v40),(22,iI (w64 (v31 - 1)))],[],[(0,⟨3,1,lm (eInt .i64) v1⟩)],[0,1000000,0]⟩
def s81_j7 (v1:List Int) (v2 v3 v4:Int) (v5:Fv) (v30 v31 v33 v34:Int):AS:=⟨[(0,.ref 0),(1,iI v2),(2,iI v3),(3,iI v4),(4,.fn v5.id v5.caps),(18,iI v30),(19,iI v31),(20,iI v33),(21,iI v34)],[],[(0,⟨3,1,lm (eInt .i64) v1⟩)],[0,1000000,0]⟩
abbrev H81_1 (M:Nat→Prop) (w0:Base) (r v1:List Int) (v2:Int) (v5:Fv) (m1:Nat) (L1:Int→Int→Option (List Int)):Prop:=∀ {v10 v11:Int},L1 v10 v11=some r→LP (bd M w0) (q81 M w0 r) [.b 0,ak ec,ak [1]] (cat Try.f81 p81_3) m1 (s81_l2 v1 v2 v5 v10 v11)
abbrev H81_2 (M:Nat→Prop) (w0:Base) (r:List Int) (v10:Int) (m2:Nat) (L2:Int→(List Int)→Option (List Int)):Prop:=∀ {v16:Int} {v17:List Int},L2 v16 v17=some r→LP (bd M w0) (q81 M w0 r) [.b 2,ak p81_0,ak [1]] (cat Try.f81 p81_1) m2 (s81_l3 v10 v16 v17)
abbrev H81_3 (M:Nat→Prop) (w0:Base) (r v1:List Int) (v3:Int) (v5:Fv) (m3:Nat) (L3:Int→Int→Option (List Int)):Prop:=∀ {v22 v23:Int},L3 v22 v23=some r→LP (bd M w0) (q81 M w0 r) [.b 4,ak d4,ak [1,1]] (cat Try.f81 p81_7) m3 (s81_l5 v1 v3 v5 v22 v23)
abbrev H81_4 (M:Nat→Prop) (w0:Base) (r:List Int) (v22:Int) (m4:Nat) (L4:Int→(List Int)→Option (List Int)):Prop:=∀ {v28:Int} {v29:List Int},L4 v28 v29=some r→LP (bd M w0) (q81 M w0 r) [.b 6,ak p81_4,ak [1,1]] (cat Try.f81 p81_5) m4 (s81_l6 v22 v28 v29)
abbrev H81_5 (M:Nat→Prop) (w0:Base) (r v1:List Int) (v2 v3 v4:Int) (v5:Fv) (v30 v31:Int) (m5:Nat) (L5:Int→Int→Option (List Int)):Prop:=∀ {v39 v40:Int},L5 v39 v40=some r→LP (bd M w0) (q81 M w0 r) [.b 8,ak e7] (cat Try.f81 p81_9) m5 (s81_l9 v1 v2 v3 v4 v5 v30 v31 v39 v40)
variable {K:Kn} {n:Nat} {M:Nat→Prop} {w0:Base} {r v1:List Int} {v2 v3 v4:Int} {v5:Fv} {v10 v11 v14 v15 v16:Int} {v17:List Int} {v22 v23 v26 v27 v28:Int} {v29:List Int} {v30 v31 v33 v34 v39 v40 v43 v44:Int} {v45:Bool} {v47:List Int} {v48:Bool} {v50:List Int} {v51:Bool} {v53:List Int} {m1:Nat} {L1:Int→Int→Option (List Int)} {m2:Nat} {L2:Int→(List Int)→Option (List Int)} {m3:Nat} {L3:Int→Int→Option (List Int)} {m4:Nat} {L4:Int→(List Int)→Option (List Int)} {m5:Nat} {L5:Int→Int→Option (List Int)}
theorem jL (hK:KnOk K) (hL1:H81_1 M w0 r v1 v2 v5 m1 L1) (h:gl K n v1 v2 v5 L1 v14 v15=some r):VE (bd M w0) (q81 M w0 r) [.b 1,k81_1 M w0 r m1,.b 0,ak ec,ak [1]] .normal (s81_j1 v1 v2 v5 v14 v15):=by
  unfold gl at h
  exact ag 1 (aN (hL1 h))
theorem jT (hK:KnOk K) (hL2:H81_2 M w0 r v10 m2 L2) (h:gv K n v10 L2 v16 v17=some r):VE (bd M w0) (q81 M w0 r) [ak p81_1,k81_2 M w0 r m2,.b 2,ak p81_0,ak [1]] .normal (s81_l3 v10 v16 v17):=by
  unfold gv at h
  refine ab (ks':=[ak p81_10,ak p81_11,k81_2 M w0 r m2,.b 2,ak p81_0,ak [1]]) 3 ?_
  rcases am h with ⟨h19,h⟩ | ⟨h19,h⟩
  ·
   refine ae 58 h19 (ab (ks':=[ak p81_12,.b 3,ak p81_13,k81_2 M w0 r m2,.b 2,ak p81_0,ak [1]]) 4 (bv [0,10,13] [] [0] ?_))
   obtain ⟨h20,h⟩:=ai h
   obtain ⟨h21,h⟩:=ai h
   obtain ⟨h22,h⟩:=ai h
   obtain ⟨h23,h⟩:=ai h
   exact bl 2 (nu 61 [.ref 0,iI v16,.ref 0,iI v16,iI (w64 (v16+1)),.ref 0,iI v16,iI (w64 (v16+1)),.eptr 0 1 (((w64 (v16+1))).toNat) 0,iI (gD v17 ((w64 (v16+1)))),.ref 0,iI v16,.eptr 0 1 (v16.toNat) 0,iI (gD v17 v16),.eptr 0 1 (v16.toNat) 0,.eptr 0 1 (((w64 (v16+1))).toNat) 0]) [] [] [strS 0 ⟨3,1,lm (eInt .i64) (List.set v17 v16.toNat (gD v17 ((w64 (v16+1)))))⟩,strS 0 ⟨3,1,lm (eInt .i64) (List.set (List.set v17 v16.toNat (gD v17 ((w64 (v16+1))))) ((w64 (v16+1))).toNat (gD v17 v16))⟩] (az [.v 0 1,.v 0 1,.v 0 2,.v 0 2,.v 0 2,.v 0 1,.v 0 1,.v 0 1] (d_v (aC 0 1 (eInt .i64) (L:=v17) h20) (d_v (aE 3 0 (eInt .i64) (eInt .i64) (au h20).2 (fun _=>rfl)) (az [.v 0 2,.v 0 2] (ax (k_v (lo:=0) (k:=2) (bX ⟨(by kernel_rfl),(cf (aC 0 1 (eInt .i64) (L:=v17) h21) (by kernel_rfl))⟩ (bX ⟨(by kernel_rfl),(cf (aC 0 1 (eInt .i64) (L:=(List.set v17 v16.toNat (gD v17 ((w64 (v16+1)))))) h21) (by kernel_rfl))⟩ dF))) (d_v (aE 3 0 (eInt .i64) (eInt .i64) (au h22).2 (fun _=>rfl)) (d_v (aC 0 1 (eInt .i64) (L:=v17) h22) (ax (e_s (m:=0) (bf 0 3 1 0 (eInt .i64) (eInt .i64) (gD v17 ((w64 (v16+1)))) (au h22).2 (fun _=>rfl))) (ax (e_v (lo:=1) (aC 0 1 (eInt .i64) (L:=(List.set v17 v16.toNat (gD v17 ((w64 (v16+1)))))) h23)) (ax (e_s (m:=1) (bf 0 3 1 0 (eInt .i64) (eInt .i64) (gD v17 v16) (au h23).2 (fun _=>rfl))) bm)))))))))) (ag 2 (aN (hL2 h)))
  ·
   refine ae 58 h19 (aG 7 ?_)
   cases h
   exact cD
theorem kW (hK:KnOk K) (m:Nat):H81_2 M w0 r v10 m (dt K n v10 m):=by
  induction m with
 | zero=>intro v16 v17 h; cases h
 | succ m ih=>intro v16 v17 h; have h:gv K n v10 (dt K n v10 m) v16 v17=some r:=h; exact aM (jT hK ih h)
theorem kB (hK:KnOk K) (hL1:H81_1 M w0 r v1 v2 v5 m1 L1) (h:gb K n v1 v2 v5 L1 v10 v11=some r):VE (bd M w0) (q81 M w0 r) [ak p81_3,k81_1 M w0 r m1,.b 0,ak ec,ak [1]] .normal (s81_l2 v1 v2 v5 v10 v11):=by
  unfold gb at h
  refine ab (ks':=[ak p81_14,ak p81_15,k81_1 M w0 r m1,.b 0,ak ec,ak [1]]) 3 ?_
  rcases am h with ⟨h8,h⟩ | ⟨h8,h⟩
  ·
   refine ae 33 h8 ?_
   obtain ⟨v12,h9,h⟩:=bind_some h
   have h9:=Option.some.inj h9
   refine aV (ks':=[ak p81_16,ak p81_17,.b 1,k81_1 M w0 r m1,.b 0,ak ec,ak [1]]) 6 ⟨[(0,.ref 0),(1,iI v2),(4,.fn v5.id v5.caps),(10,iI v10),(11,iI v11),(12,iI v12)],[],[(0,⟨3,1,lm (eInt .i64) v1⟩)],[0,1000000,0]⟩ ?_ (by subst h9; kernel_rfl)
   obtain ⟨h10,h⟩:=ai h
   obtain ⟨h11,h⟩:=ai h
   obtain ⟨v13,h12,h⟩:=bind_some h
   refine bl 0 (nu 40 [.fn v5.id v5.caps,.ref 0,iI v12,.eptr 0 1 (v12.toNat) 0,iI (gD v1 v12),.ref 0,iI v2,.eptr 0 1 (v2.toNat) 0,iI (gD v1 v2),iI v13,.bool (decide (v13<0))]) [] [] [] (az (vz 3) (d_v (aC 0 1 (eInt .i64) (L:=v1) h10) (d_v (aE 3 0 (eInt .i64) (eInt .i64) (au h10).2 (fun _=>rfl)) (az (vz 2) (d_v (aC 0 1 (eInt .i64) (L:=v1) h11) (d_v (aE 3 0 (eInt .i64) (eInt .i64) (au h11).2 (fun _=>rfl)) (ax (e_c 0 1 49 (hK.bM h12).2 (hK.bM h12).1) (az [.v 0 1] bm)))))))) ?_
   rcases am h with ⟨h13,h⟩ | ⟨h13,h⟩
   ·
    exact ae 50 h13 (ag 2 (jL hK hL1 h))
   ·
    exact ae 50 h13 (ag 2 (jL hK hL1 h))
  ·
   exact ae 33 h8 (ag 9 (aL (p:=p81_18) n (kW hK n h)))
theorem j2 (hK:KnOk K) (m:Nat):H81_1 M w0 r v1 v2 v5 m (eg K n v1 v2 v5 m):=by
  induction m with
 | zero=>intro v10 v11 h; cases h
 | succ m ih=>intro v10 v11 h; have h:gb K n v1 v2 v5 (eg K n v1 v2 v5 m) v10 v11=some r:=h; exact aM (kB hK ih h)
theorem jl (hK:KnOk K) (hL3:H81_3 M w0 r v1 v3 v5 m3 L3) (h:fD K n v1 v3 v5 L3 v26 v27=some r):VE (bd M w0) (q81 M w0 r) [.b 5,k81_3 M w0 r m3,.b 4,ak d4,ak [1,1]] .normal (s81_j4 v1 v3 v5 v26 v27):=by
  unfold fD at h
  exact ag 1 (aN (hL3 h))
theorem kp (hK:KnOk K) (hL4:H81_4 M w0 r v22 m4 L4) (h:fy K n v22 L4 v28 v29=some r):VE (bd M w0) (q81 M w0 r) [ak p81_5,k81_4 M w0 r m4,.b 6,ak p81_4,ak [1,1]] .normal (s81_l6 v22 v28 v29):=by
  unfold fy at h
  refine ab (ks':=[ak p81_19,ak p81_20,k81_4 M w0 r m4,.b 6,ak p81_4,ak [1,1]]) 3 ?_
  rcases am h with ⟨h42,h⟩ | ⟨h42,h⟩
  ·
   refine ae 110 h42 (ab (ks':=[ak p81_21,.b 7,ak p81_22,k81_4 M w0 r m4,.b 6,ak p81_4,ak [1,1]]) 4 (bv [0,14,17] [] [0] ?_))
   obtain ⟨h43,h⟩:=ai h
   obtain ⟨h44,h⟩:=ai h
   obtain ⟨h45,h⟩:=ai h
   obtain ⟨h46,h⟩:=ai h
   exact bl 2 (nu 113 [.ref 0,iI v28,.ref 0,iI v28,iI (w64 (v28 - 1)),.ref 0,iI v28,iI (w64 (v28 - 1)),.eptr 0 1 (((w64 (v28 - 1))).toNat) 0,iI (gD v29 ((w64 (v28 - 1)))),.ref 0,iI v28,.eptr 0 1 (v28.toNat) 0,iI (gD v29 v28),.eptr 0 1 (v28.toNat) 0,.eptr 0 1 (((w64 (v28 - 1))).toNat) 0]) [] [] [strS 0 ⟨3,1,lm (eInt .i64) (List.set v29 v28.toNat (gD v29 ((w64 (v28 - 1)))))⟩,strS 0 ⟨3,1,lm (eInt .i64) (List.set (List.set v29 v28.toNat (gD v29 ((w64 (v28 - 1))))) ((w64 (v28 - 1))).toNat (gD v29 v28))⟩] (az [.v 0 1,.v 0 1,.v 0 2,.v 0 2,.v 0 2,.v 0 1,.v 0 1,.v 0 1] (d_v (aC 0 1 (eInt .i64) (L:=v29) h43) (d_v (aE 3 0 (eInt .i64) (eInt .i64) (au h43).2 (fun _=>rfl)) (az [.v 0 2,.v 0 2] (ax (k_v (lo:=0) (k:=2) (bX ⟨(by kernel_rfl),(cf (aC 0 1 (eInt .i64) (L:=v29) h44) (by kernel_rfl))⟩ (bX ⟨(by kernel_rfl),(cf (aC 0 1 (eInt .i64) (L:=(List.set v29 v28.toNat (gD v29 ((w64 (v28 - 1)))))) h44) (by kernel_rfl))⟩ dF))) (d_v (aE 3 0 (eInt .i64) (eInt .i64) (au h45).2 (fun _=>rfl)) (d_v (aC 0 1 (eInt .i64) (L:=v29) h45) (ax (e_s (m:=0) (bf 0 3 1 0 (eInt .i64) (eInt .i64) (gD v29 ((w64 (v28 - 1)))) (au h45).2 (fun _=>rfl))) (ax (e_v (lo:=1) (aC 0 1 (eInt .i64) (L:=(List.set v29 v28.toNat (gD v29 ((w64 (v28 - 1)))))) h46)) (ax (e_s (m:=1) (bf 0 3 1 0 (eInt .i64) (eInt .i64) (gD v29 v28) (au h46).2 (fun _=>rfl))) bm)))))))))) (ag 2 (aN (hL4 h)))
  ·
   refine ae 110 h42 (aG 7 ?_)
   cases h
   exact cD
theorem kw (hK:KnOk K) (m:Nat):H81_4 M w0 r v22 m (dM K n v22 m):=by
  induction m with
 | zero=>intro v28 v29 h; cases h
 | succ m ih=>intro v28 v29 h; have h:fy K n v22 (dM K n v22 m) v28 v29=some r:=h; exact aM (kp hK ih h)
theorem kU (hK:KnOk K) (hL3:H81_3 M w0 r v1 v3 v5 m3 L3) (h:fp K n v1 v3 v5 L3 v22 v23=some r):VE (bd M w0) (q81 M w0 r) [ak p81_7,k81_3 M w0 r m3,.b 4,ak d4,ak [1,1]] .normal (s81_l5 v1 v3 v5 v22 v23):=by
  unfold fp at h
  refine ab (ks':=[ak p81_23,ak p81_24,k81_3 M w0 r m3,.b 4,ak d4,ak [1,1]]) 3 ?_
  rcases am h with ⟨h31,h⟩ | ⟨h31,h⟩
  ·
   refine ae 85 h31 ?_
   obtain ⟨v24,h32,h⟩:=bind_some h
   have h32:=Option.some.inj h32
   refine aV (ks':=[ak p81_25,ak p81_26,.b 5,k81_3 M w0 r m3,.b 4,ak d4,ak [1,1]]) 6 ⟨[(0,.ref 0),(2,iI v3),(4,.fn v5.id v5.caps),(14,iI v22),(15,iI v23),(16,iI v24)],[],[(0,⟨3,1,lm (eInt .i64) v1⟩)],[0,1000000,0]⟩ ?_ (by subst h32; kernel_rfl)
   obtain ⟨h33,h⟩:=ai h
   obtain ⟨h34,h⟩:=ai h
   obtain ⟨v25,h35,h⟩:=bind_some h
   refine bl 0 (nu 92 [.fn v5.id v5.caps,.ref 0,iI v3,.eptr 0 1 (v3.toNat) 0,iI (gD v1 v3),.ref 0,iI v24,.eptr 0 1 (v24.toNat) 0,iI (gD v1 v24),iI v25,.bool (decide (v25<0)),.bool (!(decide (v25<0)))]) [] [] [] (az (vz 3) (d_v (aC 0 1 (eInt .i64) (L:=v1) h33) (d_v (aE 3 0 (eInt .i64) (eInt .i64) (au h33).2 (fun _=>rfl)) (az (vz 2) (d_v (aC 0 1 (eInt .i64) (L:=v1) h34) (d_v (aE 3 0 (eInt .i64) (eInt .i64) (au h34).2 (fun _=>rfl)) (ax (e_c 0 1 101 (hK.bM h35).2 (hK.bM h35).1) (az (vz 2) bm)))))))) ?_
   rcases am h with ⟨h36,h⟩ | ⟨h36,h⟩
   ·
    exact ae 103 h36 (ag 2 (jl hK hL3 h))
   ·
    exact ae 103 h36 (ag 2 (jl hK hL3 h))
  ·
   exact ae 85 h31 (ag 9 (aL (p:=p81_27) n (kw hK n h)))
theorem lz (hK:KnOk K) (m:Nat):H81_3 M w0 r v1 v3 v5 m (en K n v1 v3 v5 m):=by
  induction m with
 | zero=>intro v22 v23 h; cases h
 | succ m ih=>intro v22 v23 h; have h:fp K n v1 v3 v5 (en K n v1 v3 v5 m) v22 v23=some r:=h; exact aM (kU hK ih h)
theorem jo (hK:KnOk K) (hL5:H81_5 M w0 r v1 v2 v3 v4 v5 v30 v31 m5 L5) (h:gr K n v1 v2 v3 v4 v5 v30 v31 L5 v43 v44=some r):VE (bd M w0) (q81 M w0 r) [.b 9,k81_5 M w0 r m5,.b 8,ak e7] .normal (s81_j8 v1 v2 v3 v4 v5 v30 v31 v43 v44):=by
  unfold gr at h
  exact ag 1 (aN (hL5 h))
theorem jD (hK:KnOk K) (h:gw K n v53=some r):VE (bd M w0) (q81 M w0 r) [] .normal (s81_j15 v53):=by
  unfold gw at h
  refine e9 ?_
  cases h
  exact cD
theorem jI (hK:KnOk K) (h:dU K n v4 v5 v30 v31 v39 v50 v51=some r):VE (bd M w0) (q81 M w0 r) [ak p81_28] .normal (s81_j14 v4 v5 v30 v31 v39 v50 v51):=by
  unfold dU at h
  rcases am h with ⟨h70,h⟩ | ⟨h70,h⟩
  ·
   refine ae 213 h70 (ab (ks':=[ak p81_29]) 1 (ah 5 ?_))
   obtain ⟨v52,h71,h⟩:=bind_some h
   exact bZ 0 0 (hK.co h71) (af (ag 0 (jD hK h)))
  ·
   exact ae 213 h70 (ag 2 (jD hK h))
theorem jp (hK:KnOk K) (h:cH K n v4 v5 v30 v31 v39 v50=some r):VE (bd M w0) (q81 M w0 r) [ak p81_30] .normal (s81_j13 v4 v5 v30 v31 v39 v50):=by
  unfold cH at h
  refine ab (ks':=[ak p81_31,ak p81_28]) 1 (ah 4 ?_)
  rcases am h with ⟨h69,h⟩ | ⟨h69,h⟩
  ·
   exact aX 209 h69 (af (ag 0 (jI hK h)))
  ·
   exact aX 209 h69 (af (ag 0 (jI hK h)))
theorem jr (hK:KnOk K) (h:dW K n v2 v4 v5 v30 v31 v39 v47 v48=some r):VE (bd M w0) (q81 M w0 r) [ak p81_32,ak p81_30] .normal (s81_j12 v2 v4 v5 v30 v31 v39 v47 v48):=by
  unfold dW at h
  rcases am h with ⟨h67,h⟩ | ⟨h67,h⟩
  ·
   refine ae 199 h67 (ab (ks':=[ak p81_33,ak p81_30]) 1 (ah 5 ?_))
   obtain ⟨v49,h68,h⟩:=bind_some h
   exact bZ 0 0 (hK.co h68) (af (ag 0 (jp hK h)))
  ·
   exact ae 199 h67 (ag 2 (jp hK h))
theorem jB (hK:KnOk K) (h:dn K n v2 v4 v5 v30 v31 v39 v47=some r):VE (bd M w0) (q81 M w0 r) [ak p81_34] .normal (s81_j11 v2 v4 v5 v30 v31 v39 v47):=by
  unfold dn at h
  refine ab (ks':=[ak p81_35,ak p81_32,ak p81_30]) 2 (ah 4 ?_)
  rcases am h with ⟨h66,h⟩ | ⟨h66,h⟩
  ·
   exact aX 195 h66 (af (ag 0 (jr hK h)))
  ·
   exact aX 195 h66 (af (ag 0 (jr hK h)))
theorem jA (hK:KnOk K) (h:bW K n v1 v2 v3 v4 v5 v30 v31 v39 v45=some r):VE (bd M w0) (q81 M w0 r) [ak p81_36,ak p81_34] .normal (s81_j10 v1 v2 v3 v4 v5 v30 v31 v39 v45):=by
  unfold bW at h
  rcases am h with ⟨h64,h⟩ | ⟨h64,h⟩
  ·
   refine ae 185 h64 (ab (ks':=[ak p81_37,ak p81_34]) 1 (ah 5 ?_))
   obtain ⟨v46,h65,h⟩:=bind_some h
   exact bZ 0 0 (lD hK h65) (af (ag 0 (jB hK h)))
  ·
   exact ae 185 h64 (ag 2 (jB hK h))
theorem lr (hK:KnOk K) (hL5:H81_5 M w0 r v1 v2 v3 v4 v5 v30 v31 m5 L5) (h:gE K n v1 v2 v3 v4 v5 v30 v31 L5 v39 v40=some r):VE (bd M w0) (q81 M w0 r) [ak p81_9,k81_5 M w0 r m5,.b 8,ak e7] .normal (s81_l9 v1 v2 v3 v4 v5 v30 v31 v39 v40):=by
  unfold gE at h
  refine ab (ks':=[ak p81_38,ak p81_39,k81_5 M w0 r m5,.b 8,ak e7]) 3 ?_
  rcases am h with ⟨h57,h⟩ | ⟨h57,h⟩
  ·
   refine ae 151 h57 ?_
   obtain ⟨v41,h58,h⟩:=bind_some h
   have h58:=Option.some.inj h58
   refine aV (ks':=[ak p81_40,ak p81_41,.b 9,k81_5 M w0 r m5,.b 8,ak e7]) 6 ⟨[(0,.ref 0),(1,iI v2),(2,iI v3),(3,iI v4),(4,.fn v5.id v5.caps),(18,iI v30),(19,iI v31),(20,iI v39),(21,iI v40),(22,iI (w64 (v31 - 1))),(23,iI v41)],[],[(0,⟨3,1,lm (eInt .i64) v1⟩)],[0,1000000,0]⟩ ?_ (by subst h58; kernel_rfl)
   obtain ⟨h59,h⟩:=ai h
   obtain ⟨h60,h⟩:=ai h
   obtain ⟨v42,h61,h⟩:=bind_some h
   refine bl 0 (nu 158 [.fn v5.id v5.caps,.ref 0,iI (w64 (v31 - 1)),iI v41,iI (w64 ((w64 (v31 - 1)) - v41)),.eptr 0 1 (((w64 ((w64 (v31 - 1)) - v41))).toNat) 0,iI (gD v1 ((w64 ((w64 (v31 - 1)) - v41)))),.ref 0,iI v41,.eptr 0 1 (v41.toNat) 0,iI (gD v1 v41),iI v42,.bool (decide (v42<0)),.bool (!(decide (v42<0)))]) [] [] [] (az (vz 5) (d_v (aC 0 1 (eInt .i64) (L:=v1) h59) (d_v (aE 3 0 (eInt .i64) (eInt .i64) (au h59).2 (fun _=>rfl)) (az (vz 2) (d_v (aC 0 1 (eInt .i64) (L:=v1) h60) (d_v (aE 3 0 (eInt .i64) (eInt .i64) (au h60).2 (fun _=>rfl)) (ax (e_c 0 1 169 (hK.bM h61).2 (hK.bM h61).1) (az (vz 2) bm)))))))) ?_
   rcases am h with ⟨h62,h⟩ | ⟨h62,h⟩
   ·
    exact ae 171 h62 (ag 2 (jo hK hL5 h))
   ·
    exact ae 171 h62 (ag 2 (jo hK hL5 h))
  ·
   refine ae 151 h57 (ab (ks':=[ak p81_42,ak p81_36,ak p81_34]) 9 (ah 4 ?_))
   rcases am h with ⟨h63,h⟩ | ⟨h63,h⟩
   ·
    exact aX 181 h63 (af (ag 0 (jA hK h)))
   ·
    exact aX 181 h63 (af (ag 0 (jA hK h)))
theorem kJ (hK:KnOk K) (m:Nat):H81_5 M w0 r v1 v2 v3 v4 v5 v30 v31 m (dk K n v1 v2 v3 v4 v5 v30 v31 m):=by
  induction m with
 | zero=>intro v39 v40 h; cases h
 | succ m ih=>intro v39 v40 h; have h:gE K n v1 v2 v3 v4 v5 v30 v31 (dk K n v1 v2 v3 v4 v5 v30 v31 m) v39 v40=some r:=h; exact aM (lr hK ih h)
theorem jq (hK:KnOk K) (h:dQ K n v1 v2 v3 v4 v5 v30 v31 v33 v34=some r):VE (bd M w0) (q81 M w0 r) [ak p81_43] .normal (s81_j7 v1 v2 v3 v4 v5 v30 v31 v33 v34):=by
  unfold dQ at h
  exact ag 4 (aL (p:=p81_44) n (kJ hK n h))
theorem iu (hK:KnOk K) (h:b9 K n v1 v2 v3 v4 v5=some r):AIO Try.prog 81 [.ref 0,iI v2,iI v3,iI v4,.fn v5.id v5.caps] 0 ⟨3,1,lm (eInt .i64) v1⟩ (fun v s=>v = .tup []∧look 0 s.r=some ⟨3,1,lm (eInt .i64) r⟩):=by
  refine eT (c:=cat Try.f81 []) Try.func81 (by kernel_rfl) _ Try.ntmps81 (of_decide_eq_true (by kernel_rfl)) fun M w0=>(aU ⟨[(0,.ref 0),(1,iI v2),(2,iI v3),(3,iI v4),(4,.fn v5.id v5.caps)],[],[(0,⟨3,1,lm (eInt .i64) v1⟩)],[0,1000000]⟩ ?_)
  unfold b9 at h
  refine ab (ks':=[ak [0,1],ak [1]]) 3 ?_
  rcases am h with ⟨h1,h⟩ | ⟨h1,h⟩
  ·
   exact ae 28 h1 (ag 7 (aL (p:=p81_45) n (j2 hK n h)))
  ·
   refine ae 28 h1 (ab (ks':=[ak [1,0,1],ak [1,1]]) 5 ?_)
   rcases am h with ⟨h24,h⟩ | ⟨h24,h⟩
   ·
    exact ae 80 h24 (ag 7 (aL (p:=p81_46) n (lz hK n h)))
   ·
    refine ae 80 h24 ?_
    obtain ⟨v30,h47,h⟩:=bind_some h
    have h47:=Option.some.inj h47
    obtain ⟨v31,h48,h⟩:=bind_some h
    have h48:=Option.some.inj h48
    obtain ⟨v32,h49,h⟩:=bind_some h
    have h49:=Option.some.inj h49
    refine aV (ks':=[ak p81_47,ak p81_43]) 11 ⟨[(0,.ref 0),(1,iI v2),(2,iI v3),(3,iI v4),(4,.fn v5.id v5.caps),(18,iI v30),(19,iI v31),(140,.bool v32)],[],[(0,⟨3,1,lm (eInt .i64) v1⟩)],[0,1000000,0]⟩ ?_ (by subst h49; subst h48; subst h47; kernel_rfl)
    rcases am h with ⟨h50,h⟩ | ⟨h50,h⟩
    ·
     exact ae 140 h50 (ag 4 (jq hK h))
    ·
     exact ae 140 h50 (ag 4 (jq hK h))
end
def p73_0:=pth 0 1111100
def p73_1:=pth 0 111000
def p73_2:=pth 0 11111001011
def p73_3:=pth 0 1111100101000
def p73_4:=pth 0 111110010111
def p73_5:=pth 0 111110010100001
def p73_6:=pth 0 11111001010001
def p73_7:=pth 0 1111100101000100
def p73_8:=pth 0 1111100101000101
def p73_9:=pth 0 11111001011011
def p73_10:=pth 0 111110010110110
def p73_11:=pth 0 111110001
def p73_12:=pth 0 11111001
def p73_13:=pth 0 111110010100
def p73_14:=pth 0 11100001
def p73_15:=pth 0 1110001
def p73_16:=pth 0 111000100
def p73_17:=pth 0 111000101
def p73_18:=pth 0 11110
def p73_19:=pth 0 11111
def p73_20:=pth 0 111110
def p73_21:=pth 0 11100
noncomputable section
abbrev cj (M:Nat→Prop) (w0:Base):Cx:=⟨Try.prog,63,M,w0⟩
abbrev q73 (M:Nat→Prop) (w0:Base) (r:List Int):=bodyPost Try.prog Try.f73 (RetQ M w0 (fun v s=>v = .tup []∧look 0 s.r=some ⟨3,1,lm (eInt .i64) r⟩))
abbrev cq (M:Nat→Prop) (w0:Base) (r:List Int) (m2:Nat):Kont:=kl (cj M w0) (q73 M w0 r) [.b 2] (cat Try.f73 p73_0) m2
abbrev aS (p:List Nat):Kont:=.c (cat Try.f73 p)
abbrev k73_1 (M:Nat→Prop) (w0:Base) (r:List Int) (m1:Nat):Kont:=kl (cj M w0) (q73 M w0 r) [.b 0,aS [1,1,1]] (cat Try.f73 p73_1) m1
abbrev k73_3 (M:Nat→Prop) (w0:Base) (r:List Int) (m2 m3:Nat):Kont:=kl (cj M w0) (q73 M w0 r) [.b 4,aS p73_2,.b 3,cq M w0 r m2,.b 2] (cat Try.f73 p73_3) m3
def s73_j3 (v2:Int) (v3:Fv) (v17:Int) (v25:List Int):AS:=⟨[(0,.ref 0),(1,iI v2),(2,.fn v3.id v3.caps),(6,iI v17)],[],[(0,⟨3,1,lm (eInt .i64) v25⟩)],[0,1000000,0]⟩
def s73_l2 (v2:Int) (v3:Fv) (v17 v20 v21:Int) (v22:List Int):AS:=⟨[(0,.ref 0),(1,iI v2),(2,.fn v3.id v3.caps),(6,iI v17),(7,iI v20),(8,iI v21)],[],[(0,⟨3,1,lm (eInt .i64) v22⟩)],[0,1000000,0]⟩
def s73_l4 (v2:Int) (v3:Fv) (v17:Int) (v18:List Int):AS:=⟨[(0,.ref 0),(1,iI v2),(2,.fn v3.id v3.caps),(6,iI v17)],[],[(0,⟨3,1,lm (eInt .i64) v18⟩)],[0,1000000,0]⟩
def s73_l1 (v2:Int) (v3:Fv) (v5 v6:Int) (v7:List Int):AS:=⟨[(0,.ref 0),(1,iI v2),(2,.fn v3.id v3.caps),(6,iI 20),(7,iI v5),(8,iI v6)],[],[(0,⟨3,1,lm (eInt .i64) v7⟩)],[0,1000000,0]⟩
abbrev H73_1 (M:Nat→Prop) (w0:Base) (r:List Int) (v2:Int) (v3:Fv) (m1:Nat) (L1:Int→Int→(List Int)→Option (List Int)):Prop:=∀ {v5 v6:Int} {v7:List Int},L1 v5 v6 v7=some r→LP (cj M w0) (q73 M w0 r) [.b 0,aS [1,1,1]] (cat Try.f73 p73_1) m1 (s73_l1 v2 v3 v5 v6 v7)
abbrev H73_2 (M:Nat→Prop) (w0:Base) (r:List Int) (v2:Int) (v3:Fv) (m2:Nat) (L2:Int→(List Int)→Option (List Int)):Prop:=∀ {v17:Int} {v18:List Int},L2 v17 v18=some r→LP (cj M w0) (q73 M w0 r) [.b 2] (cat Try.f73 p73_0) m2 (s73_l4 v2 v3 v17 v18)
abbrev H73_3 (M:Nat→Prop) (w0:Base) (r:List Int) (v2:Int) (v3:Fv) (v17:Int) (m2 m3:Nat) (L3:Int→Int→(List Int)→Option (List Int)):Prop:=∀ {v20 v21:Int} {v22:List Int},L3 v20 v21 v22=some r→LP (cj M w0) (q73 M w0 r) [.b 4,aS p73_2,.b 3,cq M w0 r m2,.b 2] (cat Try.f73 p73_3) m3 (s73_l2 v2 v3 v17 v20 v21 v22)
variable {K:Kn} {n:Nat} {M:Nat→Prop} {w0:Base} {r v1:List Int} {v2:Int} {v3:Fv} {v5 v6:Int} {v7:List Int} {v17:Int} {v18:List Int} {v20 v21:Int} {v22 v25:List Int} {m1:Nat} {L1:Int→Int→(List Int)→Option (List Int)} {m2:Nat} {L2:Int→(List Int)→Option (List Int)} {m3:Nat} {L3:Int→Int→(List Int)→Option (List Int)}
theorem js (hK:KnOk K) (hL2:H73_2 M w0 r v2 v3 m2 L2) (h:gg K n v2 v3 v17 L2 v25=some r):VE (cj M w0) (q73 M w0 r) [aS p73_4,.b 3,cq M w0 r m2,.b 2] .normal (s73_j3 v2 v3 v17 v25):=by
  unfold gg at h
  exact ag 2 (aN (hL2 h))
theorem lw (hK:KnOk K) (hL2:H73_2 M w0 r v2 v3 m2 L2) (hL3:H73_3 M w0 r v2 v3 v17 m2 m3 L3) (h:gj K n v2 v3 v17 L2 L3 v20 v21 v22=some r):VE (cj M w0) (q73 M w0 r) [aS p73_3,k73_3 M w0 r m2 m3,.b 4,aS p73_2,.b 3,cq M w0 r m2,.b 2] .normal (s73_l2 v2 v3 v17 v20 v21 v22):=by
  unfold gj at h
  refine ab (ks':=[aS p73_5,aS p73_6,k73_3 M w0 r m2 m3,.b 4,aS p73_2,.b 3,cq M w0 r m2,.b 2]) 3 ?_
  rcases am h with ⟨h16,h⟩ | ⟨h16,h⟩
  ·
   refine ae 35 h16 (ab (ks':=[aS p73_7,aS p73_8,.b 5,k73_3 M w0 r m2 m3,.b 4,aS p73_2,.b 3,cq M w0 r m2,.b 2]) 4 (ah 7 ?_))
   obtain ⟨v23,h17,h⟩:=bind_some h
   exact bZ 0 0 (iu hK h17) (af (ag 4 (aN (hL3 h))))
  ·
   refine ae 35 h16 (ab (ks':=[aS p73_9,aS p73_4,.b 3,cq M w0 r m2,.b 2]) 10 ?_)
   rcases am h with ⟨h18,h⟩ | ⟨h18,h⟩
   ·
    refine ae 54 h18 (ab (ks':=[aS p73_10,aS p73_4,.b 3,cq M w0 r m2,.b 2]) 1 (ah 5 ?_))
    obtain ⟨v24,h19,h⟩:=bind_some h
    exact bZ 0 0 (iu hK h19) (af (ag 0 (js hK hL2 h)))
   ·
    exact ae 54 h18 (ag 2 (js hK hL2 h))
theorem lE (hK:KnOk K) (hL2:H73_2 M w0 r v2 v3 m2 L2) (m:Nat):H73_3 M w0 r v2 v3 v17 m2 m (fg K n v2 v3 v17 L2 m):=by
  induction m with
 | zero=>intro v20 v21 v22 h; cases h
 | succ m ih=>intro v20 v21 v22 h; have h:gj K n v2 v3 v17 L2 (fg K n v2 v3 v17 L2 m) v20 v21 v22=some r:=h; exact aM (lw hK hL2 ih h)
theorem lx (hK:KnOk K) (hL2:H73_2 M w0 r v2 v3 m2 L2) (h:fq K n v2 v3 L2 v17 v18=some r):VE (cj M w0) (q73 M w0 r) [aS p73_0,cq M w0 r m2,.b 2] .normal (s73_l4 v2 v3 v17 v18):=by
  unfold fq at h
  refine ab (ks':=[aS p73_11,aS p73_12,cq M w0 r m2,.b 2]) 3 ?_
  rcases am h with ⟨h13,h⟩ | ⟨h13,h⟩
  ·
   exact ae 30 h13 (ag 7 (aL (p:=p73_13) n (lE hK hL2 n h)))
  ·
   refine ae 30 h13 (ab (ks':=[]) 5 (e9 ?_))
   cases h
   exact cD
theorem lq (hK:KnOk K) (m:Nat):H73_2 M w0 r v2 v3 m (cN K n v2 v3 m):=by
  induction m with
 | zero=>intro v17 v18 h; cases h
 | succ m ih=>intro v17 v18 h; have h:fq K n v2 v3 (cN K n v2 v3 m) v17 v18=some r:=h; exact aM (lx hK ih h)
theorem kZ (hK:KnOk K) (hL1:H73_1 M w0 r v2 v3 m1 L1) (h:ge K n v2 v3 L1 v5 v6 v7=some r):VE (cj M w0) (q73 M w0 r) [aS p73_1,k73_1 M w0 r m1,.b 0,aS [1,1,1]] .normal (s73_l1 v2 v3 v5 v6 v7):=by
  unfold ge at h
  refine ab (ks':=[aS p73_14,aS p73_15,k73_1 M w0 r m1,.b 0,aS [1,1,1]]) 3 ?_
  rcases am h with ⟨h3,h⟩ | ⟨h3,h⟩
  ·
   refine ae 13 h3 (ab (ks':=[aS p73_16,aS p73_17,.b 1,k73_1 M w0 r m1,.b 0,aS [1,1,1]]) 4 (ah 4 ?_))
   obtain ⟨v8,h4,h⟩:=bind_some h
   exact bZ 0 0 (jk hK h4) (af (ag 4 (aN (hL1 h))))
  ·
   refine ae 13 h3 (ab (ks':=[aS p73_18,aS p73_19]) 6 (ah 4 ?_))
   obtain ⟨v9,h5,h⟩:=bind_some h
   exact bZ 0 0 (jk hK h5) (af (ag 1 (aL (p:=p73_20) n (lq hK n h))))
theorem jY (hK:KnOk K) (m:Nat):H73_1 M w0 r v2 v3 m (eN K n v2 v3 m):=by
  induction m with
 | zero=>intro v5 v6 v7 h; cases h
 | succ m ih=>intro v5 v6 v7 h; have h:ge K n v2 v3 (eN K n v2 v3 m) v5 v6 v7=some r:=h; exact aM (kZ hK ih h)
theorem kC (hK:KnOk K) (h:ik K n v1 v2 v3=some r):AIO Try.prog 73 [.ref 0,iI v2,.fn v3.id v3.caps] 0 ⟨3,1,lm (eInt .i64) v1⟩ (fun v s=>v = .tup []∧look 0 s.r=some ⟨3,1,lm (eInt .i64) r⟩):=by
  refine eT (c:=cat Try.f73 []) Try.func73 (by kernel_rfl) _ Try.ntmps73 (of_decide_eq_true (by kernel_rfl)) fun M w0=>(aU ⟨[(0,.ref 0),(1,iI v2),(2,.fn v3.id v3.caps)],[],[(0,⟨3,1,lm (eInt .i64) v1⟩)],[0,1000000]⟩ ?_)
  unfold ik at h
  exact ag 6 (aL (p:=p73_21) n (jY hK n h))
end
noncomputable section
variable {K:Kn} {n:Nat} {M:Nat→Prop} {w0:Base} {r v1:List Int} {v2:Fv} 
theorem lv (hK:KnOk K) (h:dD K n v1 v2=some r):AIO Try.prog 58 [.ref 0,.fn v2.id v2.caps] 0 ⟨3,1,lm (eInt .i64) v1⟩ (fun v s=>v = .tup []∧look 0 s.r=some ⟨3,1,lm (eInt .i64) r⟩):=by
  refine eT (c:=cat Try.f58 []) Try.func58 (by kernel_rfl) _ Try.ntmps58 (of_decide_eq_true (by kernel_rfl)) fun M w0=>(aU ⟨[(0,.ref 0),(1,.fn v2.id v2.caps)],[],[(0,⟨3,1,lm (eInt .i64) v1⟩)],[0,1000000]⟩ ?_)
  unfold dD at h
  refine ah 2 (aj (aH (eInt .i64) v1) (aP 4 1 ?_))
  obtain ⟨v3,h1,h⟩:=bind_some h
  refine bZ 0 0 (kC hK h1) (af (e9 ?_))
  cases h
  exact cD
end
noncomputable section
variable {K:Kn} {n:Nat} {M:Nat→Prop} {w0:Base} {r:Bool} {v1:Int} 
theorem jy (hK:KnOk K) (h:fx K n v1=some r):ACalls Try.prog 74 [iI v1] (fun v _=>v = .bool r):=by
  refine bj (cat Try.f74 []) Try.func74 Try.ntmps74 fun M w0=>(aU ⟨[(0,iI v1)],[],[],[]⟩ ?_)
  unfold fx at h
  refine aG 5 ?_
  cases h
  exact aZ
end
def p60_0:=pth 0 111101
def p60_1:=pth 0 11111
def p60_2:=pth 0 111101001
def p60_3:=pth 0 11110101
def p60_4:=pth 0 1111101
def p60_5:=pth 5 1
def p60_6:=pth 5 101
def p60_7:=pth 6 1
def p60_8:=pth 6 101
def p60_9:=pth 7 1
noncomputable section
variable {K:Kn} {n:Nat} {M:Nat→Prop} {w0:Base} {r v1 v2:Int} 
abbrev bI (p:List Nat):Kont:=.c (cat Try.f60 p)
theorem lg (hK:KnOk K) (h:gH K n v1 v2=some r):ACalls Try.prog 60 [iI v1,iI v2] (fun v _=>v=iI r):=by
  refine bj (cat Try.f60 []) Try.func60 Try.ntmps60 fun M w0=>(aU ⟨[(0,iI v1),(1,iI v2)],[],[],[]⟩ ?_)
  unfold gH at h
  refine ab (ks':=[bI [1,0],bI [1,1]]) 3 (ah 1 ?_)
  obtain ⟨v3,h1,h⟩:=bind_some h
  refine bh (jy hK h1) (af (ab (ks':=[bI [1,1,0],bI [1,1,1]]) 1 (ah 1 ?_)))
  obtain ⟨v4,h2,h⟩:=bind_some h
  refine bh (jy hK h2) (af (ab (ks':=[bI p60_0,bI p60_1]) 3 ?_))
  rcases am h with ⟨h3,h⟩ | ⟨h3,h⟩
  ·
   refine ae 11 h3 (ab (ks':=[bI p60_2,bI p60_3,bI p60_1]) 4 ?_)
   rcases am h with ⟨h4,h⟩ | ⟨h4,h⟩
   ·
    refine ae 12 h4 (aG 6 ?_)
    cases h
    exact aZ
   ·
    refine ae 12 h4 (aG 6 ?_)
    cases h
    exact aZ
  ·
   refine ae 11 h3 (ab (ks':=[bI p60_4,bI p60_5]) 5 ?_)
   rcases am h with ⟨h5,h⟩ | ⟨h5,h⟩
   ·
    refine ae 13 h5 (aG 5 ?_)
    cases h
    exact aZ
   ·
    refine ae 13 h5 (ab (ks':=[bI p60_6,bI p60_7]) 5 ?_)
    rcases am h with ⟨h6,h⟩ | ⟨h6,h⟩
    ·
     refine ae 16 h6 (aG 5 ?_)
     cases h
     exact aZ
    ·
     refine ae 16 h6 (ab (ks':=[bI p60_8,bI p60_9]) 5 ?_)
     rcases am h with ⟨h7,h⟩ | ⟨h7,h⟩
     ·
      refine ae 19 h7 (aG 5 ?_)
      cases h
      exact aZ
     ·
      refine ae 19 h7 (aG 5 ?_)
      cases h
      exact aZ
end
noncomputable section
variable {K:Kn} {n:Nat} {M:Nat→Prop} {w0:Base} {r v1 v2:Int} {v3:List Int} 
abbrev cF59 (p:List Nat):Kont:=.c (cat Try.f59 p)
theorem j3 (hK:KnOk K) (h:gt K n v1 v2 v3=some r):ACalls Try.prog 59 [iI v1,iI v2,.cptr ([.sl (lm (eInt .i64) v3)])] (fun v _=>v=iI r):=by
  refine bj (cat Try.f59 []) Try.func59 Try.ntmps59 fun M w0=>(aU ⟨[(0,iI v1),(1,iI v2),(2,.cptr ([.sl (lm (eInt .i64) v3)]))],[],[],[]⟩ ?_)
  unfold gt at h
  refine ab (ks':=[cF59 [1,0],cF59 [1,1]]) 3 (bv [0,1,2] [] [] ?_)
  obtain ⟨h1,h⟩:=ai h
  obtain ⟨h2,h⟩:=ai h
  obtain ⟨v4,h3,h⟩:=bind_some h
  refine bl 1 (nu 6 [.sl (lm (eInt .i64) v3),iI v2,.cptr ([iI (gD v3 v2)]),iI (gD v3 v2),.sl (lm (eInt .i64) v3),iI v1,.cptr ([iI (gD v3 v1)]),iI (gD v3 v1),iI v4]) [] [] [stp Try.prog 15 Try.f59 [1,0] 9] (az (vz 2) (d_v (bG (eInt .i64) (eInt .i64) h1 (fun _=>rfl) (fun _=>rfl)) (az (vz 3) (d_v (bG (eInt .i64) (eInt .i64) h2 (fun _=>rfl) (fun _=>rfl)) (az [.v 0 1] (ax (e_c 0 1 14 (lg hK h3)) (ax (e_d 0) bm))))))) (aG 1 ?_)
  cases h
  exact aZ
end
def ep:=pth 12 1
def p27_1:=pth 11 10100
def cy:=pth 10 1
def p27_3:=pth 9 10100
def dV:=pth 7 1
def p27_5:=pth 6 10100
def p27_6:=pth 11 1010010
def p27_7:=pth 11 1010011
def p27_8:=pth 11 1010011000
def p27_9:=pth 11 1010011001
def p27_10:=pth 11 10100111
def p27_11:=pth 9 1010010
def p27_12:=pth 9 1010011
def p27_13:=pth 9 1010011000
def p27_14:=pth 9 1010011001
def p27_15:=pth 9 10100111
def p27_16:=pth 9 10100110010
def p27_17:=pth 9 10100110011
def p27_18:=pth 9 101001100110
def p27_19:=pth 9 101001100111
def p27_20:=pth 10 10
def p27_21:=pth 11 1
def p27_22:=pth 11 100
def p27_23:=pth 11 101
def p27_24:=pth 11 1010
def p27_25:=pth 6 1010010
def p27_26:=pth 6 1010011
def p27_27:=pth 6 1010011000
def p27_28:=pth 6 1010011001
def p27_29:=pth 6 10100111
def p27_30:=pth 7 101
def p27_31:=pth 8 1
def p27_32:=pth 9 100
def p27_33:=pth 9 101
def p27_34:=pth 9 1010
def p27_35:=pth 0 11110
def p27_36:=pth 0 11111
def p27_37:=pth 0 111110
def p27_38:=pth 5 1
def p27_39:=pth 6 100
def p27_40:=pth 6 101
def p27_41:=pth 6 1010
noncomputable section
abbrev cu (M:Nat→Prop) (w0:Base):Cx:=⟨Try.prog,96,M,w0⟩
abbrev q27 (M:Nat→Prop) (w0:Base) (r:List Int):=bodyPost Try.prog Try.f27 (RetQ M w0 (fun v s=>v = .ref 21∧look 21 s.r=some ⟨3,1,lm (eInt .i64) r⟩))
abbrev ay (p:List Nat):Kont:=.c (cat Try.f27 p)
abbrev k27_3 (M:Nat→Prop) (w0:Base) (r:List Int) (m3:Nat):Kont:=kl (cu M w0) (q27 M w0 r) [.b 4,ay ep] (cat Try.f27 p27_1) m3
abbrev eh (M:Nat→Prop) (w0:Base) (r:List Int) (m2:Nat):Kont:=kl (cu M w0) (q27 M w0 r) [.b 2,ay cy] (cat Try.f27 p27_3) m2
abbrev k27_1 (M:Nat→Prop) (w0:Base) (r:List Int) (m1:Nat):Kont:=kl (cu M w0) (q27 M w0 r) [.b 0,ay dV] (cat Try.f27 p27_5) m1
def s27_l3 (v26:List Int) (v27 v28:Int) (v29:List Int):AS:=⟨[(5,.ref 21),(82,.sl (lm (eInt .i64) v26)),(83,iI v27),(84,iI v28)],[],[(21,⟨3,1,lm (eInt .i64) v29⟩)],[21]⟩
def s27_l2 (v2:List Int) (v3 v8 v14 v15:Int) (v16 v17 v18:List Int):AS:=⟨[(0,iI v3),(5,.ref 21),(6,.ptr 6 0),(7,.ref 27),(8,iI v8),(11,iI v14),(43,.sl (lm (eInt .i64) v2)),(44,iI (v2.length:Int)),(45,iI v15)],[(6,[.ref 24])],[(21,⟨3,1,lm (eInt .i64) v16⟩),(24,⟨3,1,lm (eInt .i64) v17⟩),(27,⟨3,1,lm (eInt .i64) v18⟩)],[6,21,24,27]⟩
def s27_l1 (v2:List Int) (v3:Int) (v4 v5 v6:List Int) (v8 v9:Int):AS:=⟨[(0,iI v3),(1,.sl (lm (eInt .i64) v2)),(5,.ref 21),(6,.ptr 6 0),(7,.ref 27),(8,iI v8),(28,.sl (lm (eInt .i64) v2)),(29,iI (v2.length:Int)),(30,iI v9)],[(6,[.ref 24])],[(21,⟨3,1,lm (eInt .i64) v4⟩),(24,⟨3,1,lm (eInt .i64) v5⟩),(27,⟨3,1,lm (eInt .i64) v6⟩)],[6,21,24,27]⟩
abbrev H27_1 (M:Nat→Prop) (w0:Base) (r v2:List Int) (v3:Int) (v4 v5 v6:List Int) (m1:Nat) (L1:Int→Int→Option (List Int)):Prop:=∀ {v8 v9:Int},L1 v8 v9=some r→LP (cu M w0) (q27 M w0 r) [.b 0,ay dV] (cat Try.f27 p27_5) m1 (s27_l1 v2 v3 v4 v5 v6 v8 v9)
abbrev H27_2 (M:Nat→Prop) (w0:Base) (r v2:List Int) (v3 v8:Int) (m2:Nat) (L2:Int→Int→(List Int)→(List Int)→(List Int)→Option (List Int)):Prop:=∀ {v14 v15:Int} {v16 v17 v18:List Int},L2 v14 v15 v16 v17 v18=some r→LP (cu M w0) (q27 M w0 r) [.b 2,ay cy] (cat Try.f27 p27_3) m2 (s27_l2 v2 v3 v8 v14 v15 v16 v17 v18)
abbrev H27_3 (M:Nat→Prop) (w0:Base) (r:List Int) (m3:Nat) (L3:(List Int)→Int→Int→(List Int)→Option (List Int)):Prop:=∀ {v26:List Int} {v27 v28:Int} {v29:List Int},L3 v26 v27 v28 v29=some r→LP (cu M w0) (q27 M w0 r) [.b 4,ay ep] (cat Try.f27 p27_1) m3 (s27_l3 v26 v27 v28 v29)
variable {K:Kn} {n:Nat} {M:Nat→Prop} {w0:Base} {r:List Int} {v1:Int} {v2:List Int} {v3:Int} {v4 v5 v6:List Int} {v8 v9 v14 v15:Int} {v16 v17 v18 v26:List Int} {v27 v28:Int} {v29:List Int} {m1:Nat} {L1:Int→Int→Option (List Int)} {m2:Nat} {L2:Int→Int→(List Int)→(List Int)→(List Int)→Option (List Int)} {m3:Nat} {L3:(List Int)→Int→Int→(List Int)→Option (List Int)}
theorem j9 (hK:KnOk K) (hL3:H27_3 M w0 r m3 L3) (h:fw K n L3 v26 v27 v28 v29=some r):VE (cu M w0) (q27 M w0 r) [ay p27_1,k27_3 M w0 r m3,.b 4,ay ep] .normal (s27_l3 v26 v27 v28 v29):=by
  unfold fw at h
  refine ab (ks':=[ay p27_6,ay p27_7,k27_3 M w0 r m3,.b 4,ay ep]) 3 ?_
  rcases am h with ⟨h46,h⟩ | ⟨h46,h⟩
  ·
   refine ae 85 h46 (ab (ks':=[ay p27_8,ay p27_9,.b 5,ay p27_10,k27_3 M w0 r m3,.b 4,ay ep]) 5 (ah 0 ?_))
   obtain ⟨h47,h⟩:=ai h
   refine aj (bG (eInt .i64) (eInt .i64) h47 (fun _=>rfl) (fun _=>rfl)) (af (ah 2 ?_))
   obtain ⟨h48,h⟩:=ai h
   refine aj (aY 21 1 (eInt .i64) h48) (aj (aE 3 0 (eInt .i64) (eInt .i64) (au h48).2 (fun _=>rfl)) (aP 5 1 ?_))
   obtain ⟨h49,h⟩:=ai h
   exact aj (aY 21 1 (eInt .i64) h49) (aj (bf 21 3 1 0 (eInt .i64) (eInt .i64) (w64 ((gD v29 ((gD v26 v28)))+1)) (au h49).2 (fun _=>rfl)) (af (ag 2 (aN (hL3 h)))))
  ·
   refine ae 85 h46 (aG 8 ?_)
   cases h
   exact b8
theorem jZ (hK:KnOk K) (m:Nat):H27_3 M w0 r m (dB K n m):=by
  induction m with
 | zero=>intro v26 v27 v28 v29 h; cases h
 | succ m ih=>intro v26 v27 v28 v29 h; have h:fw K n (dB K n m) v26 v27 v28 v29=some r:=h; exact aM (j9 hK ih h)
theorem lj (hK:KnOk K) (hL2:H27_2 M w0 r v2 v3 v8 m2 L2) (h:fW K n v2 v3 v8 L2 v14 v15 v16 v17 v18=some r):VE (cu M w0) (q27 M w0 r) [ay p27_3,eh M w0 r m2,.b 2,ay cy] .normal (s27_l2 v2 v3 v8 v14 v15 v16 v17 v18):=by
  unfold fW at h
  refine ab (ks':=[ay p27_11,ay p27_12,eh M w0 r m2,.b 2,ay cy]) 3 ?_
  rcases am h with ⟨h26,h⟩ | ⟨h26,h⟩
  ·
   refine ae 46 h26 (ab (ks':=[ay p27_13,ay p27_14,.b 3,ay p27_15,eh M w0 r m2,.b 2,ay cy]) 5 (ah 1 ?_))
   obtain ⟨h27,h⟩:=ai h
   refine aj (bG (eInt .i64) (eInt .i64) h27 (fun _=>rfl) (fun _=>rfl)) (af (ab (ks':=[ay p27_16,ay p27_17,.b 3,ay p27_15,eh M w0 r m2,.b 2,ay cy]) 1 (ah 2 ?_)))
   obtain ⟨v19,h28,h⟩:=bind_some h
   refine bh (i8 hK h28) (af (ab (ks':=[ay p27_18,ay p27_19,.b 3,ay p27_15,eh M w0 r m2,.b 2,ay cy]) 1 (bv [0,5,6,7,8,11,12,14,43,44,45] [6] [21,24,27] ?_)))
   obtain ⟨h29,h⟩:=ai h
   obtain ⟨h30,h⟩:=ai h
   obtain ⟨h31,h⟩:=ai h
   obtain ⟨h32,h⟩:=ai h
   obtain ⟨h33,h⟩:=ai h
   refine bl 3 (nu 54 [.ref 21,iI v15,.ref 24,iI v15,.ref 27,iI v15,iI (w64 (v3*v19)),iI v8,iI (w64 (Int.tdiv (w64 (v3*v19)) v8)),iI (w64 (v3*v19)),iI v8,iI (Int.tmod (w64 (v3*v19)) v8),iI v15,.eptr 21 1 (v15.toNat) 0,.eptr 24 1 (v15.toNat) 0,.eptr 27 1 (v15.toNat) 0]) [] [] [strS 21 ⟨3,1,lm (eInt .i64) (List.set v16 v15.toNat (w64 (Int.tdiv (w64 (v3*v19)) v8)))⟩,strS 24 ⟨3,1,lm (eInt .i64) (List.set v17 v15.toNat (Int.tmod (w64 (v3*v19)) v8))⟩,strS 27 ⟨3,1,lm (eInt .i64) (List.set v18 v15.toNat v15)⟩] (az [.v 0 1,.v 0 1,.v 0 2,.v 0 2,.v 0 3,.v 0 3,.v 0 1,.v 0 1] (d_v (y_quo .i64 (w64 (v3*v19)) h29) (az [.v 0 2,.v 0 2] (ax (k_v (lo:=0) (k:=2) (bX ⟨(by kernel_rfl),(cf (y_rem .i64 (w64 (v3*v19)) h30) (by kernel_rfl))⟩ (bX ⟨(by kernel_rfl),(cf (y_rem .i64 (w64 (v3*v19)) h30) (by kernel_rfl))⟩ dF))) (az [.v 0 3] (d_v (aC 21 1 (eInt .i64) (L:=v16) h31) (ax (e_s (m:=0) (bf 21 3 1 0 (eInt .i64) (eInt .i64) (w64 (Int.tdiv (w64 (v3*v19)) v8)) (au h31).2 (fun _=>rfl))) (ax (e_v (lo:=1) (aC 24 1 (eInt .i64) (L:=v17) h32)) (ax (e_s (m:=1) (bf 24 3 1 0 (eInt .i64) (eInt .i64) (Int.tmod (w64 (v3*v19)) v8) (au h32).2 (fun _=>rfl))) (ax (e_v (lo:=2) (aC 27 1 (eInt .i64) (L:=v18) h33)) (ax (e_s (m:=2) (bf 27 3 1 0 (eInt .i64) (eInt .i64) v15 (au h33).2 (fun _=>rfl))) bm))))))))))) ?_
   obtain ⟨v20,h34,h⟩:=bind_some h
   have h34:=Option.some.inj h34
   obtain ⟨v21,h35,h⟩:=bind_some h
   have h35:=Option.some.inj h35
   refine aV (ks':=[ay p27_19,.b 3,ay p27_15,eh M w0 r m2,.b 2,ay cy]) 0 ⟨[(0,iI v3),(5,.ref 21),(6,.ptr 6 0),(7,.ref 27),(8,iI v8),(11,iI v14),(12,iI v15),(43,.sl (lm (eInt .i64) v2)),(44,iI (v2.length:Int)),(45,iI v15)],[(6,[.ref 24])],[(21,⟨3,1,lm (eInt .i64) v20⟩),(24,⟨3,1,lm (eInt .i64) v21⟩),(27,⟨3,1,lm (eInt .i64) (List.set v18 v15.toNat v15)⟩)],[6,21,24,27]⟩ ?_ (by subst h35; subst h34; kernel_rfl)
   refine ah 3 ?_
   obtain ⟨h36,h⟩:=ai h
   exact aj (aY 21 1 (eInt .i64) h36) (aj (aE 3 0 (eInt .i64) (eInt .i64) (au h36).2 (fun _=>rfl)) (af (ag 2 (aN (hL2 h)))))
  ·
   refine ae 46 h26 (ab (ks':=[ay p27_20,ay p27_21]) 6 (ah 1 (ot_f 24 (ot_fo 6 6 ([.sl (lm (eInt .i64) v17)]) (ot_mf 59 #[(.tmp 6)] [.cptr ([.sl (lm (eInt .i64) v17)])] ?_)))))
   obtain ⟨v22,h37,h⟩:=bind_some h
   refine bZ 27 0 (lv hK h37) (af (ab (ks':=[ay p27_22,ay p27_23,ay ep]) 2 (ah 2 (ot_f 27 ?_))))
   obtain ⟨h38,h⟩:=ai h
   exact aj (aop_slice_sl (eInt .i64) v22 (0:Int) v14 33 (.tmp 80) none (some (.tmp 81)) 82 (e:=3) (sz:=1) (by kernel_rfl) (by kernel_rfl) (by kernel_rfl) (by kernel_rfl) (by kernel_rfl) (by kernel_rfl) (fun _=>rfl) (fun k hk=>by subst hk; kernel_rfl) h38) (aj (aH (eInt .i64) (List.drop ((0:Int)).toNat (List.take v14.toNat v22))) (af (ag 1 (aL (p:=p27_24) n (jZ hK n h)))))
theorem kO (hK:KnOk K) (m:Nat):H27_2 M w0 r v2 v3 v8 m (du K n v2 v3 v8 m):=by
  induction m with
 | zero=>intro v14 v15 v16 v17 v18 h; cases h
 | succ m ih=>intro v14 v15 v16 v17 v18 h; have h:fW K n v2 v3 v8 (du K n v2 v3 v8 m) v14 v15 v16 v17 v18=some r:=h; exact aM (lj hK ih h)
theorem j4 (hK:KnOk K) (hL1:H27_1 M w0 r v2 v3 v4 v5 v6 m1 L1) (h:gi K n v2 v3 v4 v5 v6 L1 v8 v9=some r):VE (cu M w0) (q27 M w0 r) [ay p27_5,k27_1 M w0 r m1,.b 0,ay dV] .normal (s27_l1 v2 v3 v4 v5 v6 v8 v9):=by
  unfold gi at h
  refine ab (ks':=[ay p27_25,ay p27_26,k27_1 M w0 r m1,.b 0,ay dV]) 3 ?_
  rcases am h with ⟨h11,h⟩ | ⟨h11,h⟩
  ·
   refine ae 31 h11 (ab (ks':=[ay p27_27,ay p27_28,.b 1,ay p27_29,k27_1 M w0 r m1,.b 0,ay dV]) 5 (ah 0 ?_))
   obtain ⟨h12,h⟩:=ai h
   refine aj (bG (eInt .i64) (eInt .i64) h12 (fun _=>rfl) (fun _=>rfl)) (af (ah 2 ?_))
   obtain ⟨v10,h13,h⟩:=bind_some h
   exact bh (i8 hK h13) (af (ag 2 (aN (hL1 h))))
  ·
   refine ae 31 h11 (ab (ks':=[ay p27_30,ay p27_31]) 8 ?_)
   rcases am h with ⟨h14,h⟩ | ⟨h14,h⟩
   ·
    refine ae 40 h14 (aG 5 ?_)
    cases h
    exact b8
   ·
    exact ae 40 h14 (ab (ks':=[ay p27_32,ay p27_33,ay cy]) 6 (ah 1 (aj (aH (eInt .i64) v2) (af (ag 1 (aL (p:=p27_34) n (kO hK n h)))))))
theorem ka (hK:KnOk K) (m:Nat):H27_1 M w0 r v2 v3 v4 v5 v6 m (d6 K n v2 v3 v4 v5 v6 m):=by
  induction m with
 | zero=>intro v8 v9 h; cases h
 | succ m ih=>intro v8 v9 h; have h:gi K n v2 v3 v4 v5 v6 (d6 K n v2 v3 v4 v5 v6 m) v8 v9=some r:=h; exact aM (j4 hK ih h)
theorem jN (hK:KnOk K) (h:eo K n v1 v2=some r):ACalls Try.prog 27 [iI v1,.sl (lm (eInt .i64) v2)] (fun v s=>v = .ref 21∧look 21 s.r=some ⟨3,1,lm (eInt .i64) r⟩):=by
  refine bj (cat Try.f27 []) Try.func27 Try.ntmps27 fun M w0=>(aU ⟨[(0,iI v1),(1,.sl (lm (eInt .i64) v2))],[],[],[]⟩ ?_)
  unfold eo at h
  refine ab (ks':=[ay [1,0],ay [1,1]]) 3 (ah 1 ?_)
  obtain ⟨v3,h1,h⟩:=bind_some h
  refine bh (i8 hK h1) (af (ab (ks':=[ay [1,1,0],ay [1,1,1]]) 1 (ah 1 (aj (aH (eInt .i64) v2) ?_))))
  obtain ⟨h2,h⟩:=ai h
  refine cp (eInt .i64) (0:Int) 33 (.tmp 20) (.tmp 20) 21 (e:=3) (sz:=1) (zc:=[iI 0]) (kd:=.i64) (kd':=.i64) h2 (af ?_)
  obtain ⟨v4,h3,h⟩:=bind_some h
  have h3:=Option.some.inj h3
  refine aV (ks':=[ay p27_35,ay p27_36]) 1 ⟨[(0,iI v3),(1,.sl (lm (eInt .i64) v2)),(5,.ref 21)],[],[(21,⟨3,1,lm (eInt .i64) v4⟩)],[21]⟩ ?_ (by subst h3; kernel_rfl)
  refine ah 1 (aj (aH (eInt .i64) v2) ?_)
  obtain ⟨h4,h⟩:=ai h
  refine cp (eInt .i64) (0:Int) 33 (.tmp 23) (.tmp 23) 24 (e:=3) (sz:=1) (zc:=[iI 0]) (kd:=.i64) (kd':=.i64) h4 (af ?_)
  obtain ⟨v5,h5,h⟩:=bind_some h
  have h5:=Option.some.inj h5
  refine aV (ks':=[ay p27_37,ay p27_38]) 1 ⟨[(0,iI v3),(1,.sl (lm (eInt .i64) v2)),(5,.ref 21),(6,.ptr 6 0)],[(6,[.ref 24])],[(21,⟨3,1,lm (eInt .i64) v4⟩),(24,⟨3,1,lm (eInt .i64) v5⟩)],[6,21,24]⟩ ?_ (by subst h5; kernel_rfl)
  refine ah 1 (aj (aH (eInt .i64) v2) ?_)
  obtain ⟨h6,h⟩:=ai h
  refine cp (eInt .i64) (0:Int) 33 (.tmp 26) (.tmp 26) 27 (e:=3) (sz:=1) (zc:=[iI 0]) (kd:=.i64) (kd':=.i64) h6 (af ?_)
  obtain ⟨v6,h7,h⟩:=bind_some h
  have h7:=Option.some.inj h7
  refine aV (ks':=[ay p27_39,ay p27_40,ay dV]) 4 ⟨[(0,iI v3),(1,.sl (lm (eInt .i64) v2)),(5,.ref 21),(6,.ptr 6 0),(7,.ref 27),(8,iI 0)],[(6,[.ref 24])],[(21,⟨3,1,lm (eInt .i64) v4⟩),(24,⟨3,1,lm (eInt .i64) v5⟩),(27,⟨3,1,lm (eInt .i64) v6⟩)],[6,21,24,27]⟩ ?_ (by subst h7; kernel_rfl)
  exact ah 1 (aj (aH (eInt .i64) v2) (af (ag 1 (aL (p:=p27_41) n (ka hK n h)))))
end
def p75_0:=pth 0 110100
def p75_1:=pth 0 11010010
def p75_2:=pth 0 11010011
def p75_3:=pth 0 110100110010
def p75_4:=pth 0 110100110011
def p75_5:=pth 0 110100111
def p75_6:=pth 0 11010
noncomputable section
abbrev cx75 (M:Nat→Prop) (w0:Base):Cx:=⟨Try.prog,19,M,w0⟩
abbrev q75 (M:Nat→Prop) (w0:Base) (r:Int):=bodyPost Try.prog Try.f75 (RetQ M w0 (fun v _=>v=iI r))
abbrev bN (p:List Nat):Kont:=.c (cat Try.f75 p)
abbrev k75_1 (M:Nat→Prop) (w0:Base) (r:Int) (m1:Nat):Kont:=kl (cx75 M w0) (q75 M w0 r) [.b 0,bN [1,1]] (cat Try.f75 p75_0) m1
def s75_l1 (v1:List Int) (v2:Fv) (v4:Int):AS:=⟨[(0,.sl (lm (eInt .i64) v1)),(1,.fn v2.id v2.caps),(7,iI (v1.length:Int)),(8,iI v4)],[],[],[]⟩
abbrev H75_1 (M:Nat→Prop) (w0:Base) (r:Int) (v1:List Int) (v2:Fv) (m1:Nat) (L1:Int→Option Int):Prop:=∀ {v4:Int},L1 v4=some r→LP (cx75 M w0) (q75 M w0 r) [.b 0,bN [1,1]] (cat Try.f75 p75_0) m1 (s75_l1 v1 v2 v4)
variable {K:Kn} {n:Nat} {M:Nat→Prop} {w0:Base} {r:Int} {v1:List Int} {v2:Fv} {v4:Int} {m1:Nat} {L1:Int→Option Int}
theorem j8 (hK:KnOk K) (hL1:H75_1 M w0 r v1 v2 m1 L1) (h:fj K n v1 v2 L1 v4=some r):VE (cx75 M w0) (q75 M w0 r) [bN p75_0,k75_1 M w0 r m1,.b 0,bN [1,1]] .normal (s75_l1 v1 v2 v4):=by
  unfold fj at h
  refine ab (ks':=[bN p75_1,bN p75_2,k75_1 M w0 r m1,.b 0,bN [1,1]]) 3 ?_
  rcases am h with ⟨h5,h⟩ | ⟨h5,h⟩
  ·
   refine ae 9 h5 (ab (ks':=[bN p75_3,bN p75_4,.b 1,bN p75_5,k75_1 M w0 r m1,.b 0,bN [1,1]]) 7 (ah 3 ?_))
   obtain ⟨h6,h⟩:=ai h
   refine aj (bG (eInt .i64) (eInt .i64) h6 (fun _=>rfl) (fun _=>rfl)) (aP 5 1 ?_)
   obtain ⟨v5,h7,h⟩:=bind_some h
   refine ot_cd (hK.gq h7) (af ?_)
   rcases am h with ⟨h8,h⟩ | ⟨h8,h⟩
   ·
    refine ae 16 h8 (aG 9 ?_)
    cases h
    exact aZ
   ·
    exact ae 16 h8 (ag 4 (aN (hL1 h)))
  ·
   refine ae 9 h5 (aG 8 ?_)
   cases h
   exact aZ
theorem kH (hK:KnOk K) (m:Nat):H75_1 M w0 r v1 v2 m (eM K n v1 v2 m):=by
  induction m with
 | zero=>intro v4 h; cases h
 | succ m ih=>intro v4 h; have h:fj K n v1 v2 (eM K n v1 v2 m) v4=some r:=h; exact aM (j8 hK ih h)
theorem ls (hK:KnOk K) (h:gW K n v1 v2=some r):ACalls Try.prog 75 [.sl (lm (eInt .i64) v1),.fn v2.id v2.caps] (fun v _=>v=iI r):=by
  refine bj (cat Try.f75 []) Try.func75 Try.ntmps75 fun M w0=>(aU ⟨[(0,.sl (lm (eInt .i64) v1)),(1,.fn v2.id v2.caps)],[],[],[]⟩ ?_)
  unfold gW at h
  exact ab (ks':=[bN [1,0,0],bN [1,0,1],bN [1,1]]) 4 (ah 1 (aj (aH (eInt .i64) v1) (af (ag 1 (aL (p:=p75_6) n (kH hK n h))))))
end
noncomputable section
variable {K:Kn} {n:Nat} {M:Nat→Prop} {w0:Base} {r:Bool} {v1:List Int} {v2:Fv} 
abbrev cF61 (p:List Nat):Kont:=.c (cat Try.f61 p)
theorem jR (hK:KnOk K) (h:fP K n v1 v2=some r):ACalls Try.prog 61 [.sl (lm (eInt .i64) v1),.fn v2.id v2.caps] (fun v _=>v = .bool r):=by
  refine bj (cat Try.f61 []) Try.func61 Try.ntmps61 fun M w0=>(aU ⟨[(0,.sl (lm (eInt .i64) v1)),(1,.fn v2.id v2.caps)],[],[],[]⟩ ?_)
  unfold fP at h
  refine ab (ks':=[cF61 [1,0],cF61 [1,1]]) 3 (ah 2 ?_)
  obtain ⟨v3,h1,h⟩:=bind_some h
  refine bh (ls hK h1) (af (aG 1 ?_))
  cases h
  exact aZ
end
noncomputable section
variable {K:Kn} {n:Nat} {M:Nat→Prop} {w0:Base} {r:Int×Int} {v1 v2:Int} 
theorem g_bits_Mul64_ok (hK:KnOk K) (h:gS K n v1 v2=some r):ACalls Try.prog 83 [.int .u64 v1,.int .u64 v2] (fun v _=>v = .tup [.int .u64 r.1,.int .u64 r.2]):=by
  refine bj (cat Try.f83 []) Try.func83 Try.ntmps83 fun M w0=>(aU ⟨[(0,.int .u64 v1),(1,.int .u64 v2)],[],[],[]⟩ ?_)
  unfold gS at h
  refine aG 25 ?_
  cases h
  exact ve_dt
end
noncomputable section
variable {K:Kn} {n:Nat} {M:Nat→Prop} {w0:Base} {r:Int×Int} {v1 v2:Int} 
abbrev cF76 (p:List Nat):Kont:=.c (cat Try.f76 p)
theorem g_bits_Mul_ok (hK:KnOk K) (h:go K n v1 v2=some r):ACalls Try.prog 76 [.int .u64 v1,.int .u64 v2] (fun v _=>v = .tup [.int .u64 r.1,.int .u64 r.2]):=by
  refine bj (cat Try.f76 []) Try.func76 Try.ntmps76 fun M w0=>(aU ⟨[(0,.int .u64 v1),(1,.int .u64 v2)],[],[],[]⟩ ?_)
  unfold go at h
  refine ab (ks':=[cF76 [1,1,0],cF76 [1,1,1]]) 6 (ah 2 ?_)
  obtain ⟨v3,h1,h⟩:=bind_some h
  refine bh (g_bits_Mul64_ok hK h1) (af (aG 3 ?_))
  cases h
  exact ve_dt
end
def p63_0:=pth 7 1
def p63_1:=pth 6 1000
def p63_2:=pth 6 100000
def p63_3:=pth 6 100001
def p63_4:=pth 6 10001
def p63_5:=pth 6 100010
def p63_6:=pth 0 111101
def p63_7:=pth 0 11111
def p63_8:=pth 0 111110
def p63_9:=pth 5 1
def p63_10:=pth 5 10
def p63_11:=pth 6 1
def p63_12:=pth 6 100
def p63_13:=pth 0 111100
noncomputable section
abbrev cx63 (M:Nat→Prop) (w0:Base):Cx:=⟨Try.prog,48,M,w0⟩
abbrev q63 (M:Nat→Prop) (w0:Base) (r:List Int):=bodyPost Try.prog Try.f63 (RetQ M w0 (fun v s=>v = .ref 30∧look 30 s.r=some ⟨3,1,lm (eInt .i64) r⟩))
abbrev bg (p:List Nat):Kont:=.c (cat Try.f63 p)
abbrev k63_1 (M:Nat→Prop) (w0:Base) (r:List Int) (m1:Nat):Kont:=kl (cx63 M w0) (q63 M w0 r) [.b 0,bg p63_0] (cat Try.f63 p63_1) m1
def s63_l2 (v7:Int) (v8:List Int):AS:=⟨[(7,.ref 30),(8,iI v7)],[],[(30,⟨3,1,lm (eInt .i64) v8⟩)],[30]⟩
def s63_j1 (v1:List Int) (v3:Int×Int) (v4:Bool):AS:=⟨[(0,.sl (lm (eInt .i64) v1)),(6,.int .u64 v3.2),(26,.bool v4)],[],[],[]⟩
abbrev H63_1 (M:Nat→Prop) (w0:Base) (r:List Int) (m1:Nat) (L1:Int→(List Int)→Option (List Int)):Prop:=∀ {v7:Int} {v8:List Int},L1 v7 v8=some r→LP (cx63 M w0) (q63 M w0 r) [.b 0,bg p63_0] (cat Try.f63 p63_1) m1 (s63_l2 v7 v8)
variable {K:Kn} {n:Nat} {M:Nat→Prop} {w0:Base} {r v1:List Int} {v2:Int} {v3:Int×Int} {v4:Bool} {v7:Int} {v8:List Int} {m1:Nat} {L1:Int→(List Int)→Option (List Int)}
theorem li (hK:KnOk K) (hL1:H63_1 M w0 r m1 L1) (h:ga K n L1 v7 v8=some r):VE (cx63 M w0) (q63 M w0 r) [bg p63_1,k63_1 M w0 r m1,.b 0,bg p63_0] .normal (s63_l2 v7 v8):=by
  unfold ga at h
  refine ab (ks':=[bg p63_2,bg p63_3,bg p63_4,k63_1 M w0 r m1,.b 0,bg p63_0]) 2 (ah 2 (aj (aH (eInt .i64) v8) (af ?_)))
  rcases am h with ⟨h13,h⟩ | ⟨h13,h⟩
  ·
   refine ae 37 h13 (ab (ks':=[bg p63_5,.b 1,k63_1 M w0 r m1,.b 0,bg p63_0]) 3 (bv [7,8] [] [30] ?_))
   obtain ⟨h14,h⟩:=ai h
   obtain ⟨h15,h⟩:=ai h
   obtain ⟨h16,h⟩:=ai h
   exact bl 2 (nu 38 [iI v7,.ref 30,iI v7,.sref 30 1 (v7.toNat) (((v8.length:Int)).toNat - v7.toNat),.ref 30,iI v7,.sref 30 1 ((0:Int).toNat) (v7.toNat - (0:Int).toNat)]++nu 46 [iI (w64 (v7+((min (v7.toNat - (0:Int).toNat) (((v8.length:Int)).toNat - v7.toNat):Nat):Int)))]) [] [] [cpF 30 (some 45) ⟨3,1,lm (eInt .i64) (cpy v8 (v7.toNat) (((v8.length:Int)).toNat - v7.toNat) v8 ((0:Int).toNat) (v7.toNat - (0:Int).toNat))⟩ (iI ((min (v7.toNat - (0:Int).toNat) (((v8.length:Int)).toNat - v7.toNat):Nat):Int)),stp Try.prog 48 Try.f63 p63_5 9] (az [.v 0 2,.v 0 2,.v 0 2] (d_v (jh (eInt .i64) v8 v7 (v8.length:Int) 33 (.tmp 39) (some (.tmp 40)) none 41 (id:=30) (e:=3) (sz:=1) (et:=3) (by kernel_rfl) (by kernel_rfl) (by kernel_rfl) (by kernel_rfl) (by kernel_rfl) (by kernel_rfl) (by kernel_rfl) (fun k hk=>by subst hk; kernel_rfl) h14) (az [.v 0 2,.v 0 2] (d_v (jh (eInt .i64) v8 (0:Int) v7 33 (.tmp 42) none (some (.tmp 43)) 44 (id:=30) (e:=3) (sz:=1) (et:=3) (by kernel_rfl) (by kernel_rfl) (by kernel_rfl) (by kernel_rfl) (by kernel_rfl) (by kernel_rfl) (by kernel_rfl) (fun k hk=>by subst hk; kernel_rfl) h15) (ax (e_s (m:=0) (y_cp (eInt .i64) 30 3 (L:=v8) (S:=v8) (od:=(some (v7.toNat,(((v8.length:Int)).toNat - v7.toNat)))) (os:=(some ((0:Int).toNat,(v7.toNat - (0:Int).toNat)))) (v7.toNat) (((v8.length:Int)).toNat - v7.toNat) ((0:Int).toNat) (v7.toNat - (0:Int).toNat) (fun _=>rfl) h16)) (az [.v 1 1] (ax (e_d 1) bm))))))) (ag 1 (aN (hL1 h)))
  ·
   refine ae 37 h13 (aG 8 ?_)
   cases h
   exact b8
theorem kg (hK:KnOk K) (m:Nat):H63_1 M w0 r m (eU K n m):=by
  induction m with
 | zero=>intro v7 v8 h; cases h
 | succ m ih=>intro v7 v8 h; have h:ga K n (eU K n m) v7 v8=some r:=h; exact aM (li hK ih h)
theorem jx (hK:KnOk K) (h:gh K n v1 v3 v4=some r):VE (cx63 M w0) (q63 M w0 r) [bg p63_6,bg p63_7] .normal (s63_j1 v1 v3 v4):=by
  unfold gh at h
  rcases am h with ⟨h4,h⟩ | ⟨h4,h⟩
  ·
   refine ae 26 h4 ?_
   cases h
  ·
   refine ae 26 h4 (ab (ks':=[bg p63_8,bg p63_9]) 3 (ah 2 ?_))
   obtain ⟨h5,h⟩:=ai h
   refine cp (eInt .i64) (0:Int) 33 (.tmp 29) (.tmp 29) 30 (e:=3) (sz:=1) (zc:=[iI 0]) (kd:=.i64) (kd':=.i64) h5 (af ?_)
   obtain ⟨v5,h6,h⟩:=bind_some h
   have h6:=Option.some.inj h6
   refine aV (ks':=[bg p63_10,bg p63_11]) 1 ⟨[(0,.sl (lm (eInt .i64) v1)),(7,.ref 30)],[],[(30,⟨3,1,lm (eInt .i64) v5⟩)],[30]⟩ ?_ (by subst h6; kernel_rfl)
   refine ah 2 ?_
   obtain ⟨h7,h⟩:=ai h
   exact aj (y_cp (eInt .i64) 30 3 (L:=v5) (S:=v1) (od:=none) (os:=none) 0 v5.length 0 v1.length (fun _=>rfl) h7) (af (ag 2 (aL (p:=p63_12) n (kg hK n h))))
theorem kv (hK:KnOk K) (h:fF K n v1 v2=some r):ACalls Try.prog 63 [.sl (lm (eInt .i64) v1),iI v2] (fun v s=>v = .ref 30∧look 30 s.r=some ⟨3,1,lm (eInt .i64) r⟩):=by
  refine bj (cat Try.f63 []) Try.func63 Try.ntmps63 fun M w0=>(aU ⟨[(0,.sl (lm (eInt .i64) v1)),(1,iI v2)],[],[],[]⟩ ?_)
  unfold fF at h
  refine ab (ks':=[bg [1,0,1],bg [1,1]]) 5 ?_
  rcases am h with ⟨h1,h⟩ | ⟨h1,h⟩
  ·
   refine ae 10 h1 ?_
   cases h
  ·
   refine ae 10 h1 (ab (ks':=[bg [1,1,0],bg [1,1,1]]) 3 (ah 1 (aj (aH (eInt .i64) v1) (aP 5 3 ?_))))
   obtain ⟨v3,h2,h⟩:=bind_some h
   refine bh (g_bits_Mul_ok hK h2) (af (ab (ks':=[bg p63_13,bg p63_6,bg p63_7]) 2 (ah 3 ?_)))
   rcases am h with ⟨h3,h⟩ | ⟨h3,h⟩
   ·
    exact aX 23 h3 (af (ag 0 (jx hK h)))
   ·
    exact aX 23 h3 (af (ag 0 (jx hK h)))
end
def p28_0:=pth 0 11010
noncomputable section
abbrev cx28 (M:Nat→Prop) (w0:Base):Cx:=⟨Try.prog,15,M,w0⟩
abbrev q28 (M:Nat→Prop) (w0:Base) (r:List Int):=bodyPost Try.prog Try.f28 (RetQ M w0 (fun v s=>v = .ref 1014∧look 1014 s.r=some ⟨3,1,lm (eInt .i64) r⟩))
def s28_j1 (v1:Int) (v5:List Int):AS:=⟨[(0,iI v1),(1,.sl (lm (eInt .i64) v5))],[],[],[]⟩
variable {K:Kn} {n:Nat} {M:Nat→Prop} {w0:Base} {r:List Int} {v1:Int} {v2 v5:List Int} 
abbrev dd (p:List Nat):Kont:=.c (cat Try.f28 p)
theorem jM (hK:KnOk K) (h:fE K n v1 v5=some r):VE (cx28 M w0) (q28 M w0 r) [dd [1,1]] .normal (s28_j1 v1 v5):=by
  unfold fE at h
  refine ab (ks':=[dd [1,1,0],dd [1,1,1]]) 1 (ah 2 ?_)
  obtain ⟨v6,h4,h⟩:=bind_some h
  refine eb 1014 (jN hK h4) (fb 21) (af (aG 1 ?_))
  cases h
  exact b8
theorem kP (hK:KnOk K) (h:fz K n v1 v2=some r):ACalls Try.prog 28 [iI v1,.sl (lm (eInt .i64) v2)] (fun v s=>v = .ref 1014∧look 1014 s.r=some ⟨3,1,lm (eInt .i64) r⟩):=by
  refine bj (cat Try.f28 []) Try.func28 Try.ntmps28 fun M w0=>(aU ⟨[(0,iI v1),(1,.sl (lm (eInt .i64) v2))],[],[],[]⟩ ?_)
  unfold fz at h
  refine ab (ks':=[dd [1,0,0],dd [1,0,1],dd [1,1]]) 4 (ah 1 ?_)
  obtain ⟨v3,h1,h⟩:=bind_some h
  refine bh (jR hK h1) (af ?_)
  rcases am h with ⟨h2,h⟩ | ⟨h2,h⟩
  ·
   refine ae 7 h2 (ab (ks':=[dd p28_0,dd [1,1]]) 1 (ah 2 (aj (aH (eInt .i64) v2) ?_)))
   obtain ⟨v4,h3,h⟩:=bind_some h
   exact eb 1011 (kv hK h3) (fb 30) (af (ve_f 1011 (ag 0 (jM hK h))))
  ·
   exact ae 7 h2 (ag 2 (jM hK h))
end
def eS:=pth 9 1
def p12_1:=pth 8 10100
def ce:=pth 6 1
def p12_3:=pth 5 10100
def p12_4:=pth 8 1010010
def p12_5:=pth 8 1010011
def p12_6:=pth 8 1010011000
def p12_7:=pth 8 1010011001
def p12_8:=pth 8 10100111
def p12_9:=pth 8 1
def p12_10:=pth 8 100
def p12_11:=pth 8 101
def p12_12:=pth 8 1010
def p12_13:=pth 5 1010010
def p12_14:=pth 5 1010011
def p12_15:=pth 5 1010011000
def p12_16:=pth 5 1010011001
def fh:=pth 5 10100111
def p12_18:=pth 5 10100110010
def p12_19:=pth 5 10100110011
def p12_20:=pth 5 101001100110
def p12_21:=pth 5 101001100111
def p12_22:=pth 5 1010011001110
def p12_23:=pth 5 1010011001111
def p12_24:=pth 5 10100110011110
def p12_25:=pth 5 10100110011111
def p12_26:=pth 7 1001
def p12_27:=pth 7 100111
def p12_28:=pth 7 1001110
def p12_29:=pth 7 10011111
def p12_30:=pth 0 11110
def p12_31:=pth 0 11111
def p12_32:=pth 5 100
def p12_33:=pth 5 101
def p12_34:=pth 5 1010
noncomputable section
abbrev dg (M:Nat→Prop) (w0:Base):Cx:=⟨Try.prog,111,M,w0⟩
abbrev q12 (M:Nat→Prop) (w0:Base) (r:List Int):=bodyPost Try.prog Try.f12 (RetQ M w0 (fun v s=>v = .ref 17∧look 17 s.r=some ⟨3,1,lm (eInt .i64) r⟩))
abbrev aA (p:List Nat):Kont:=.c (cat Try.f12 p)
abbrev k12_2 (M:Nat→Prop) (w0:Base) (r:List Int) (m2:Nat):Kont:=kl (dg M w0) (q12 M w0 r) [.b 3,aA eS] (cat Try.f12 p12_1) m2
abbrev c7 (M:Nat→Prop) (w0:Base) (r:List Int) (m1:Nat):Kont:=kl (dg M w0) (q12 M w0 r) [.b 0,aA ce] (cat Try.f12 p12_3) m1
def s12_l3 (v27:List Int) (v28:Int) (v29:List Int):AS:=⟨[(5,.ref 17),(95,.ref 1094),(96,iI (v27.length:Int)),(97,iI v28)],[],[(17,⟨3,1,lm (eInt .i64) v29⟩),(1094,⟨3,1,lm (eInt .i64) v27⟩)],[17,1094]⟩
def s12_j2 (v26 v27:List Int):AS:=⟨[(5,.ref 17),(12,.ref 1094)],[],[(17,⟨3,1,lm (eInt .i64) v26⟩),(1094,⟨3,1,lm (eInt .i64) v27⟩)],[17,1094]⟩
def s12_l1 (v1:List aw) (v2 v11 v12 v13:Int) (v14 v15 v16:List Int):AS:=⟨[(1,iI v2),(5,.ref 17),(6,.ref 20),(7,.ref 23),(8,iI v11),(9,iI v12),(24,.sl (lm aB v1)),(25,iI (v1.length:Int)),(26,iI v13)],[],[(17,⟨3,1,lm (eInt .i64) v14⟩),(20,⟨3,1,lm (eInt .i64) v15⟩),(23,⟨3,1,lm (eInt .i64) v16⟩)],[17,20,23]⟩
abbrev H12_1 (M:Nat→Prop) (w0:Base) (r:List Int) (v1:List aw) (v2:Int) (m1:Nat) (L1:Int→Int→Int→(List Int)→(List Int)→(List Int)→Option (List Int)):Prop:=∀ {v11 v12 v13:Int} {v14 v15 v16:List Int},L1 v11 v12 v13 v14 v15 v16=some r→LP (dg M w0) (q12 M w0 r) [.b 0,aA ce] (cat Try.f12 p12_3) m1 (s12_l1 v1 v2 v11 v12 v13 v14 v15 v16)
abbrev H12_2 (M:Nat→Prop) (w0:Base) (r v27:List Int) (m2:Nat) (L2:Int→(List Int)→Option (List Int)):Prop:=∀ {v28:Int} {v29:List Int},L2 v28 v29=some r→LP (dg M w0) (q12 M w0 r) [.b 3,aA eS] (cat Try.f12 p12_1) m2 (s12_l3 v27 v28 v29)
variable {K:Kn} {n:Nat} {M:Nat→Prop} {w0:Base} {r:List Int} {v1:List aw} {v2 v11 v12 v13:Int} {v14 v15 v16 v26 v27:List Int} {v28:Int} {v29:List Int} {m1:Nat} {L1:Int→Int→Int→(List Int)→(List Int)→(List Int)→Option (List Int)} {m2:Nat} {L2:Int→(List Int)→Option (List Int)}
theorem kf (hK:KnOk K) (hL2:H12_2 M w0 r v27 m2 L2) (h:fV K n v27 L2 v28 v29=some r):VE (dg M w0) (q12 M w0 r) [aA p12_1,k12_2 M w0 r m2,.b 3,aA eS] .normal (s12_l3 v27 v28 v29):=by
  unfold fV at h
  refine ab (ks':=[aA p12_4,aA p12_5,k12_2 M w0 r m2,.b 3,aA eS]) 3 ?_
  rcases am h with ⟨h47,h⟩ | ⟨h47,h⟩
  ·
   refine ae 98 h47 (ab (ks':=[aA p12_6,aA p12_7,.b 4,aA p12_8,k12_2 M w0 r m2,.b 3,aA eS]) 5 (ah 1 ?_))
   obtain ⟨h48,h⟩:=ai h
   refine aj (aY 1094 1 (eInt .i64) h48) (aj (aE 3 0 (eInt .i64) (eInt .i64) (au h48).2 (fun _=>rfl)) (af (ah 2 ?_)))
   obtain ⟨h49,h⟩:=ai h
   refine aj (aY 17 1 (eInt .i64) h49) (aj (aE 3 0 (eInt .i64) (eInt .i64) (au h49).2 (fun _=>rfl)) (aP 6 2 ?_))
   obtain ⟨h50,h⟩:=ai h
   exact aj (aY 17 1 (eInt .i64) h50) (aj (bf 17 3 1 0 (eInt .i64) (eInt .i64) (w64 ((gD v29 v28)+(gD v27 v28))) (au h50).2 (fun _=>rfl)) (af (ag 2 (aN (hL2 h)))))
  ·
   refine ae 98 h47 (aG 8 ?_)
   cases h
   exact b8
theorem jO (hK:KnOk K) (m:Nat):H12_2 M w0 r v27 m (fa K n v27 m):=by
  induction m with
 | zero=>intro v28 v29 h; cases h
 | succ m ih=>intro v28 v29 h; have h:fV K n v27 (fa K n v27 m) v28 v29=some r:=h; exact aM (kf hK ih h)
theorem jm (hK:KnOk K) (h:fM K n v26 v27=some r):VE (dg M w0) (q12 M w0 r) [.b 2,aA p12_9] .normal (s12_j2 v26 v27):=by
  unfold fM at h
  exact ab (ks':=[aA p12_10,aA p12_11,aA eS]) 3 (ah 1 (aj (aH (eInt .i64) v27) (af (ag 1 (aL (p:=p12_12) n (jO hK n h))))))
theorem kL (hK:KnOk K) (hL1:H12_1 M w0 r v1 v2 m1 L1) (h:fi K n v1 v2 L1 v11 v12 v13 v14 v15 v16=some r):VE (dg M w0) (q12 M w0 r) [aA p12_3,c7 M w0 r m1,.b 0,aA ce] .normal (s12_l1 v1 v2 v11 v12 v13 v14 v15 v16):=by
  unfold fi at h
  refine ab (ks':=[aA p12_13,aA p12_14,c7 M w0 r m1,.b 0,aA ce]) 3 ?_
  rcases am h with ⟨h22,h⟩ | ⟨h22,h⟩
  ·
   refine ae 27 h22 (ab (ks':=[aA p12_15,aA p12_16,.b 1,aA fh,c7 M w0 r m1,.b 0,aA ce]) 5 (ah 1 ?_))
   obtain ⟨h23,h⟩:=ai h
   refine aj (bG aB aB h23 (gn) (fun _=>rfl)) (af (ab (ks':=[aA p12_18,aA p12_19,.b 1,aA fh,c7 M w0 r m1,.b 0,aA ce]) 1 (ah 4 ?_)))
   obtain ⟨v17,h24,h⟩:=bind_some h
   refine bh (gY hK h24) ?_
   obtain ⟨h25,h⟩:=ai h
   refine aj (aY 17 1 (eInt .i64) h25) (aj (bf 17 3 1 0 (eInt .i64) (eInt .i64) v17 (au h25).2 (fun _=>rfl)) (af (ab (ks':=[aA p12_20,aA p12_21,.b 1,aA fh,c7 M w0 r m1,.b 0,aA ce]) 1 (bv [1,5,6,7,8,9,10,11,24,25,26] [11] [17,20,23] ?_))))
   obtain ⟨v18,h26,h⟩:=bind_some h
   obtain ⟨h27,h⟩:=ai h
   obtain ⟨h28,h⟩:=ai h
   refine bl 1 (nu 37 [.ref 20,iI v13,.ptr 11 1,iI ((gD v1 v13).Most),iI v18,.ref 17,iI v13,.eptr 17 1 (v13.toNat) 0,iI (gD (List.set v14 v13.toNat v17) v13),iI (max v18 (gD (List.set v14 v13.toNat v17) v13)),.eptr 20 1 (v13.toNat) 0]) [] [] [strS 20 ⟨3,1,lm (eInt .i64) (List.set v15 v13.toNat (max v18 (gD (List.set v14 v13.toNat v17) v13)))⟩] (az (vz 4) (ax (e_c 0 1 41 (gY hK h26)) (az (vz 2) (d_v (aC 17 1 (eInt .i64) (L:=(List.set v14 v13.toNat v17)) h27) (d_v (aE 3 0 (eInt .i64) (eInt .i64) (au h27).2 (fun _=>rfl)) (az [.v 0 1] (d_v (aC 20 1 (eInt .i64) (L:=v15) h28) (ax (e_s (m:=0) (bf 20 3 1 0 (eInt .i64) (eInt .i64) (max v18 (gD (List.set v14 v13.toNat v17) v13)) (au h28).2 (fun _=>rfl))) bm)))))))) ?_
   obtain ⟨v19,h29,h⟩:=bind_some h
   have h29:=Option.some.inj h29
   refine aV (ks':=[aA p12_22,aA p12_23,.b 1,aA fh,c7 M w0 r m1,.b 0,aA ce]) 1 ⟨[(1,iI v2),(5,.ref 17),(6,.ref 20),(7,.ref 23),(8,iI v11),(9,iI v12),(10,iI v13),(24,.sl (lm aB v1)),(25,iI (v1.length:Int)),(26,iI v13)],[],[(17,⟨3,1,lm (eInt .i64) (List.set v14 v13.toNat v17)⟩),(20,⟨3,1,lm (eInt .i64) v19⟩),(23,⟨3,1,lm (eInt .i64) v16⟩)],[17,20,23]⟩ ?_ (by subst h29; kernel_rfl)
   obtain ⟨h30,h⟩:=ai h
   obtain ⟨h31,h⟩:=ai h
   obtain ⟨h32,h⟩:=ai h
   refine bl 1 (nu 48 [.ref 23,iI v13,.ref 20,iI v13,.eptr 20 1 (v13.toNat) 0,iI (gD v19 v13),.ref 17,iI v13,.eptr 17 1 (v13.toNat) 0,iI (gD (List.set v14 v13.toNat v17) v13),iI (w64 ((gD v19 v13) - (gD (List.set v14 v13.toNat v17) v13))),.eptr 23 1 (v13.toNat) 0]) [] [] [strS 23 ⟨3,1,lm (eInt .i64) (List.set v16 v13.toNat (w64 ((gD v19 v13) - (gD (List.set v14 v13.toNat v17) v13))))⟩] (az (vz 4) (d_v (aC 20 1 (eInt .i64) (L:=v19) h30) (d_v (aE 3 0 (eInt .i64) (eInt .i64) (au h30).2 (fun _=>rfl)) (az (vz 2) (d_v (aC 17 1 (eInt .i64) (L:=(List.set v14 v13.toNat v17)) h31) (d_v (aE 3 0 (eInt .i64) (eInt .i64) (au h31).2 (fun _=>rfl)) (az [.v 0 1] (d_v (aC 23 1 (eInt .i64) (L:=v16) h32) (ax (e_s (m:=0) (bf 23 3 1 0 (eInt .i64) (eInt .i64) (w64 ((gD v19 v13) - (gD (List.set v14 v13.toNat v17) v13))) (au h32).2 (fun _=>rfl))) bm))))))))) ?_
   obtain ⟨v20,h33,h⟩:=bind_some h
   have h33:=Option.some.inj h33
   refine aV (ks':=[aA p12_24,aA p12_25,.b 1,aA fh,c7 M w0 r m1,.b 0,aA ce]) 1 ⟨[(1,iI v2),(5,.ref 17),(6,.ref 20),(7,.ref 23),(8,iI v11),(9,iI v12),(10,iI v13),(24,.sl (lm aB v1)),(25,iI (v1.length:Int)),(26,iI v13)],[],[(17,⟨3,1,lm (eInt .i64) (List.set v14 v13.toNat v17)⟩),(20,⟨3,1,lm (eInt .i64) v19⟩),(23,⟨3,1,lm (eInt .i64) v20⟩)],[17,20,23]⟩ ?_ (by subst h33; kernel_rfl)
   refine ah 3 ?_
   obtain ⟨h34,h⟩:=ai h
   refine aj (aY 17 1 (eInt .i64) h34) (aj (aE 3 0 (eInt .i64) (eInt .i64) (au h34).2 (fun _=>rfl)) (af ?_))
   obtain ⟨v21,h35,h⟩:=bind_some h
   have h35:=Option.some.inj h35
   refine aV (ks':=[aA p12_25,.b 1,aA fh,c7 M w0 r m1,.b 0,aA ce]) 0 ⟨[(1,iI v2),(5,.ref 17),(6,.ref 20),(7,.ref 23),(8,iI v21),(9,iI v12),(10,iI v13),(24,.sl (lm aB v1)),(25,iI (v1.length:Int)),(26,iI v13)],[],[(17,⟨3,1,lm (eInt .i64) (List.set v14 v13.toNat v17)⟩),(20,⟨3,1,lm (eInt .i64) v19⟩),(23,⟨3,1,lm (eInt .i64) v20⟩)],[17,20,23]⟩ ?_ (by subst h35; kernel_rfl)
   refine ah 3 ?_
   obtain ⟨h36,h⟩:=ai h
   exact aj (aY 20 1 (eInt .i64) h36) (aj (aE 3 0 (eInt .i64) (eInt .i64) (au h36).2 (fun _=>rfl)) (af (ag 2 (aN (hL1 h)))))
  ·
   refine ae 27 h22 (ab (ks':=[aA p12_26,.b 2,aA p12_9]) 11 ?_)
   rcases am h with ⟨h37,h⟩ | ⟨h37,h⟩
   ·
    refine ae 80 h37 (aG 6 ?_)
    cases h
    exact b8
   ·
    refine ae 80 h37 (ab (ks':=[aA p12_27,.b 2,aA p12_9]) 3 ?_)
    rcases am h with ⟨h38,h⟩ | ⟨h38,h⟩
    ·
     refine ae 85 h38 (ab (ks':=[aA p12_28,.b 2,aA p12_9]) 1 (ah 3 ?_))
     obtain ⟨v22,h39,h⟩:=bind_some h
     refine bh (gY hK h39) (aP 5 1 ?_)
     obtain ⟨v23,h40,h⟩:=bind_some h
     exact ot_lxo 1094 (jN hK h40) (gQ _ _ (sc_int _)) (by kernel_rfl:callArgsLx _ _=some (27,[iI v22,.sl (lm (eInt .i64) v16)],[iI v22,.ref 23])) (hE (q:=[]) (by kernel_rfl) trivial) (af (ag 0 (jm hK h)))
    ·
     refine ae 85 h38 (ab (ks':=[aA p12_29,.b 2,aA p12_9]) 3 (ah 3 ?_))
     obtain ⟨v24,h41,h⟩:=bind_some h
     refine bh (gY hK h41) (aP 5 1 ?_)
     obtain ⟨v25,h42,h⟩:=bind_some h
     exact ot_lxo 1079 (kP hK h42) (gQ _ _ (sc_int _)) (by kernel_rfl:callArgsLx _ _=some (28,[iI v24,.sl (lm (eInt .i64) v15)],[iI v24,.ref 20])) (hE (q:=[]) (by kernel_rfl) trivial) (af (bv [5,12] [] [20,1079] (ve_m 20 17 (ve_m 1079 1094 (ag 0 (jm hK h))))))
theorem j7 (hK:KnOk K) (m:Nat):H12_1 M w0 r v1 v2 m (ex K n v1 v2 m):=by
  induction m with
 | zero=>intro v11 v12 v13 v14 v15 v16 h; cases h
 | succ m ih=>intro v11 v12 v13 v14 v15 v16 h; have h:fi K n v1 v2 (ex K n v1 v2 m) v11 v12 v13 v14 v15 v16=some r:=h; exact aM (kL hK ih h)
theorem jn (hK:KnOk K) (h:eZ K n v1 v2=some r):ACalls Try.prog 12 [.sl (lm aB v1),iI v2] (fun v s=>v = .ref 17∧look 17 s.r=some ⟨3,1,lm (eInt .i64) r⟩):=by
  refine bj (cat Try.f12 []) Try.func12 Try.ntmps12 fun M w0=>(aU ⟨[(0,.sl (lm aB v1)),(1,iI v2)],[],[],[]⟩ ?_)
  unfold eZ at h
  refine ab (ks':=[aA [1,0],aA [1,1]]) 3 (ah 1 (aj (aH aB v1) ?_))
  obtain ⟨h1,h⟩:=ai h
  refine cp (eInt .i64) (0:Int) 33 (.tmp 16) (.tmp 16) 17 (e:=3) (sz:=1) (zc:=[iI 0]) (kd:=.i64) (kd':=.i64) h1 (af ?_)
  obtain ⟨v3,h2,h⟩:=bind_some h
  have h2:=Option.some.inj h2
  refine aV (ks':=[aA [1,1,0],aA [1,1,1]]) 1 ⟨[(0,.sl (lm aB v1)),(1,iI v2),(5,.ref 17)],[],[(17,⟨3,1,lm (eInt .i64) v3⟩)],[17]⟩ ?_ (by subst h2; kernel_rfl)
  refine ah 1 (aj (aH aB v1) ?_)
  obtain ⟨h3,h⟩:=ai h
  refine cp (eInt .i64) (0:Int) 33 (.tmp 19) (.tmp 19) 20 (e:=3) (sz:=1) (zc:=[iI 0]) (kd:=.i64) (kd':=.i64) h3 (af ?_)
  obtain ⟨v4,h4,h⟩:=bind_some h
  have h4:=Option.some.inj h4
  refine aV (ks':=[aA p12_30,aA p12_31]) 1 ⟨[(0,.sl (lm aB v1)),(1,iI v2),(5,.ref 17),(6,.ref 20)],[],[(17,⟨3,1,lm (eInt .i64) v3⟩),(20,⟨3,1,lm (eInt .i64) v4⟩)],[17,20]⟩ ?_ (by subst h4; kernel_rfl)
  refine ah 1 (aj (aH aB v1) ?_)
  obtain ⟨h5,h⟩:=ai h
  refine cp (eInt .i64) (0:Int) 33 (.tmp 22) (.tmp 22) 23 (e:=3) (sz:=1) (zc:=[iI 0]) (kd:=.i64) (kd':=.i64) h5 (af ?_)
  obtain ⟨v5,h6,h⟩:=bind_some h
  have h6:=Option.some.inj h6
  refine aV (ks':=[aA p12_32,aA p12_33,aA ce]) 4 ⟨[(0,.sl (lm aB v1)),(1,iI v2),(5,.ref 17),(6,.ref 20),(7,.ref 23),(8,iI 0),(9,iI 0)],[],[(17,⟨3,1,lm (eInt .i64) v3⟩),(20,⟨3,1,lm (eInt .i64) v4⟩),(23,⟨3,1,lm (eInt .i64) v5⟩)],[17,20,23]⟩ ?_ (by subst h6; kernel_rfl)
  exact ah 1 (aj (aH aB v1) (af (ag 1 (aL (p:=p12_34) n (j7 hK n h)))))
end
def p9_0:=pth 0 11111
def p9_1:=pth 0 11110
noncomputable section
abbrev cx9 (M:Nat→Prop) (w0:Base):Cx:=⟨Try.prog,58,M,w0⟩
abbrev q9 (M:Nat→Prop) (w0:Base) (r:Bool):=bodyPost Try.prog Try.f9 (RetQ M w0 (fun v _=>v = .bool r))
def s9_j1 (v3:Bool):AS:=⟨[(0,.bool v3)],[],[],[]⟩
variable {K:Kn} {n:Nat} {M:Nat→Prop} {w0:Base} {r v3:Bool} 
abbrev cF9 (p:List Nat):Kont:=.c (cat Try.f9 p)
theorem dl (hK:KnOk K) (h:cw K n v3=some r):VE (cx9 M w0) (q9 M w0 r) [cF9 p9_0] .normal (s9_j1 v3):=by
  unfold cw at h
  refine aG 1 ?_
  cases h
  exact aZ
theorem g_law20_fit_ok (hK:KnOk K) (h:fI K n=some r):ACalls Try.prog 9 [] (fun v _=>v = .bool r):=by
  refine bj (cat Try.f9 []) Try.func9 Try.ntmps9 fun M w0=>(aU ⟨[],[],[],[]⟩ ?_)
  unfold fI at h
  refine ab (ks':=[cF9 [1,0],cF9 [1,1]]) 3 (ah 6 ?_)
  obtain ⟨v1,h1,h⟩:=bind_some h
  refine eb 1011 (jV hK h1) (one_tup (i:=0) rfl) (af (ab (ks':=[cF9 [1,1,0],cF9 [1,1,1]]) 1 (ah 3 ?_)))
  obtain ⟨v2,h2,h⟩:=bind_some h
  refine eb 1017 (jn hK h2) (fb 17) (af (ab (ks':=[cF9 p9_1,cF9 p9_0]) 1 (ah 3 ?_)))
  rcases am h with ⟨h3,h⟩ | ⟨h3,h⟩
  ·
   refine aX 20 h3 (aP 4 1 (aj (aH (eSl aD) v1.1) (aP 8 3 ?_)))
   rcases am h with ⟨h4,h⟩ | ⟨h4,h⟩
   ·
    refine aX 25 h4 (aP 9 1 ?_)
    obtain ⟨h5,h⟩:=ai h
    refine aj (aY 1011 1 (eSl aD) h5) (aj (aE 28 0 (eSl aD) (eSl aD) (au h5).2 (fun _=>rfl)) (aj (aH aD (gD v1.1 (1:Int))) (aP 15 3 ?_)))
    rcases am h with ⟨h6,h⟩ | ⟨h6,h⟩
    ·
     refine aX 32 h6 (aP 16 1 ?_)
     obtain ⟨h7,h⟩:=ai h
     refine aj (aY 1011 1 (eSl aD) h7) (aj (aE 28 0 (eSl aD) (eSl aD) (au h7).2 (fun _=>rfl)) ?_)
     obtain ⟨h8,h⟩:=ai h
     refine aj (bG aD aD h8 (jf) (fun _=>rfl)) (aP 24 5 ?_)
     rcases am h with ⟨h9,h⟩ | ⟨h9,h⟩
     ·
      refine aX 41 h9 (aP 25 1 (aj (aH (eInt .i64) v2) (aP 29 3 ?_)))
      rcases am h with ⟨h10,h⟩ | ⟨h10,h⟩
      ·
       refine aX 46 h10 (aP 30 1 ?_)
       obtain ⟨h11,h⟩:=ai h
       refine aj (aY 1017 1 (eInt .i64) h11) (aj (aE 3 0 (eInt .i64) (eInt .i64) (au h11).2 (fun _=>rfl)) (aP 35 3 ?_))
       rcases am h with ⟨h12,h⟩ | ⟨h12,h⟩
       ·
        refine aX 52 h12 (aP 36 1 ?_)
        obtain ⟨h13,h⟩:=ai h
        exact aj (aY 1017 1 (eInt .i64) h13) (aj (aE 3 0 (eInt .i64) (eInt .i64) (au h13).2 (fun _=>rfl)) (af (ag 0 (dl hK h))))
       ·
        exact aX 52 h12 (af (ag 0 (dl hK h)))
      ·
       exact aX 46 h10 (af (ag 0 (dl hK h)))
     ·
      exact aX 41 h9 (af (ag 0 (dl hK h)))
    ·
     exact aX 32 h6 (af (ag 0 (dl hK h)))
   ·
    exact aX 25 h4 (af (ag 0 (dl hK h)))
  ·
   exact aX 20 h3 (af (ag 0 (dl hK h)))
end
noncomputable section
variable {K:Kn} {n:Nat} {M:Nat→Prop} {w0:Base} {r v1:Int} 
theorem ia (hK:KnOk K) (h:cZ K n v1=some r):ACalls Try.prog 29 [iI v1] (fun v _=>v=iI r):=by
  refine bj (cat Try.f29 []) Try.func29 Try.ntmps29 fun M w0=>(aU ⟨[(0,iI v1)],[],[],[]⟩ ?_)
  unfold cZ at h
  refine aG 5 ?_
  cases h
  exact aZ
end
noncomputable section
variable {K:Kn} {n:Nat} {M:Nat→Prop} {w0:Base} {r v1 v2:Int} 
theorem ir (hK:KnOk K) (h:cP K n v1 v2=some r):ACalls Try.prog 64 [iI v1,iI v2] (fun v _=>v=iI r):=by
  refine bj (cat Try.f64 []) Try.func64 Try.ntmps64 fun M w0=>(aU ⟨[(0,iI v1),(1,iI v2)],[],[],[]⟩ ?_)
  unfold cP at h
  refine aG 5 ?_
  cases h
  exact aZ
end
def bV:=pth 10 1
def p30_1:=pth 9 1000
def c9:=pth 9 1
def p30_3:=pth 8 10100
def p30_4:=pth 0 11111
def p30_5:=pth 0 11110100
def dh:=pth 9 10001011
def p30_7:=pth 9 10001010100
def p30_8:=pth 9 1000101010011
def p30_9:=pth 9 1000101010000
def p30_10:=pth 9 1000101010001
def p30_11:=pth 9 100010101001
def p30_12:=pth 9 100010101001000
def p30_13:=pth 9 100010101001001
def p30_14:=pth 9 100010110
def p30_15:=pth 9 100010111
def p30_16:=pth 9 1000101110
def p30_17:=pth 9 1000101111
def p30_18:=pth 9 100001
def p30_19:=pth 9 10001
def p30_20:=pth 9 1000101010
def p30_21:=pth 8 1010000
def p30_22:=pth 8 1010001
def p30_23:=pth 8 101001
def p30_24:=pth 8 101001000
def p30_25:=pth 8 101001001
def p30_26:=pth 8 1010011
def p30_27:=pth 8 1010010010
def p30_28:=pth 8 1010010011
def p30_29:=pth 8 10100100110
def p30_30:=pth 8 10100100111
def p30_31:=pth 9 100
def p30_32:=pth 0 1111010000
def p30_33:=pth 0 1111010001
def p30_34:=pth 0 111101001
def p30_35:=pth 0 11110100100
def p30_36:=pth 0 1111010011
def p30_37:=pth 0 111110
def p30_38:=pth 5 1
def p30_39:=pth 5 10
def p30_40:=pth 6 1
def p30_41:=pth 6 101
def p30_42:=pth 7 1
def p30_43:=pth 8 1010
def p30_44:=pth 0 1111010
noncomputable section
abbrev bU (M:Nat→Prop) (w0:Base):Cx:=⟨Try.prog,100,M,w0⟩
abbrev q30 (M:Nat→Prop) (w0:Base) (r:List Int):=bodyPost Try.prog Try.f30 (RetQ M w0 (fun v s=>v = .ref 31∧look 31 s.r=some ⟨3,1,lm (eInt .i64) r⟩))
abbrev ap (p:List Nat):Kont:=.c (cat Try.f30 p)
abbrev cg (M:Nat→Prop) (w0:Base) (r:List Int) (m3:Nat):Kont:=kl (bU M w0) (q30 M w0 r) [.b 4,ap bV] (cat Try.f30 p30_1) m3
abbrev eP (M:Nat→Prop) (w0:Base) (r:List Int) (m2:Nat):Kont:=kl (bU M w0) (q30 M w0 r) [.b 2,ap c9] (cat Try.f30 p30_3) m2
abbrev k30_1 (M:Nat→Prop) (w0:Base) (r:List Int) (m1:Nat):Kont:=kl (bU M w0) (q30 M w0 r) [.b 0,ap p30_4] (cat Try.f30 p30_5) m1
abbrev k30_4 (M:Nat→Prop) (w0:Base) (r:List Int) (m3 m4:Nat):Kont:=kl (bU M w0) (q30 M w0 r) [.b 6,ap dh,.b 5,cg M w0 r m3,.b 4,ap bV] (cat Try.f30 p30_7) m4
def s30_j3 (v27:Int) (v28 v29:List Int) (v33 v35:Int):AS:=⟨[(7,.ref 31),(8,.ref 34),(9,iI v27),(12,iI v35),(13,iI v33)],[],[(31,⟨3,1,lm (eInt .i64) v28⟩),(34,⟨3,1,lm (eInt .i64) v29⟩)],[31,34]⟩
def s30_l4 (v27:Int) (v28 v29:List Int) (v32 v33:Int):AS:=⟨[(7,.ref 31),(8,.ref 34),(9,iI v27),(12,iI v32),(13,iI v33)],[],[(31,⟨3,1,lm (eInt .i64) v28⟩),(34,⟨3,1,lm (eInt .i64) v29⟩)],[31,34]⟩
def s30_l5 (v27:Int) (v28 v29:List Int):AS:=⟨[(7,.ref 31),(8,.ref 34),(9,iI v27)],[],[(31,⟨3,1,lm (eInt .i64) v28⟩),(34,⟨3,1,lm (eInt .i64) v29⟩)],[31,34]⟩
def s30_l2 (v2:List Int) (v3 v5 v13 v14:Int) (v15 v16:List Int):AS:=⟨[(0,iI v3),(1,.sl (lm (eInt .i64) v2)),(5,iI v5),(7,.ref 31),(8,.ref 34),(9,iI v13),(10,iI v14)],[],[(31,⟨3,1,lm (eInt .i64) v15⟩),(34,⟨3,1,lm (eInt .i64) v16⟩)],[31,34]⟩
def s30_l1 (v2:List Int) (v3 v5 v6:Int):AS:=⟨[(0,iI v3),(1,.sl (lm (eInt .i64) v2)),(5,iI v5),(6,iI v6)],[],[],[]⟩
abbrev H30_1 (M:Nat→Prop) (w0:Base) (r v2:List Int) (v3:Int) (m1:Nat) (L1:Int→Int→Option (List Int)):Prop:=∀ {v5 v6:Int},L1 v5 v6=some r→LP (bU M w0) (q30 M w0 r) [.b 0,ap p30_4] (cat Try.f30 p30_5) m1 (s30_l1 v2 v3 v5 v6)
abbrev H30_2 (M:Nat→Prop) (w0:Base) (r v2:List Int) (v3 v5:Int) (m2:Nat) (L2:Int→Int→(List Int)→(List Int)→Option (List Int)):Prop:=∀ {v13 v14:Int} {v15 v16:List Int},L2 v13 v14 v15 v16=some r→LP (bU M w0) (q30 M w0 r) [.b 2,ap c9] (cat Try.f30 p30_3) m2 (s30_l2 v2 v3 v5 v13 v14 v15 v16)
abbrev H30_3 (M:Nat→Prop) (w0:Base) (r:List Int) (m3:Nat) (L3:Int→(List Int)→(List Int)→Option (List Int)):Prop:=∀ {v27:Int} {v28 v29:List Int},L3 v27 v28 v29=some r→LP (bU M w0) (q30 M w0 r) [.b 4,ap bV] (cat Try.f30 p30_1) m3 (s30_l5 v27 v28 v29)
abbrev H30_4 (M:Nat→Prop) (w0:Base) (r:List Int) (v27:Int) (v28 v29:List Int) (m3 m4:Nat) (L4:Int→Int→Option (List Int)):Prop:=∀ {v32 v33:Int},L4 v32 v33=some r→LP (bU M w0) (q30 M w0 r) [.b 6,ap dh,.b 5,cg M w0 r m3,.b 4,ap bV] (cat Try.f30 p30_7) m4 (s30_l4 v27 v28 v29 v32 v33)
variable {K:Kn} {n:Nat} {M:Nat→Prop} {w0:Base} {r:List Int} {v1:Int} {v2:List Int} {v3 v5 v6 v13 v14:Int} {v15 v16:List Int} {v27:Int} {v28 v29:List Int} {v32 v33 v35:Int} {m1:Nat} {L1:Int→Int→Option (List Int)} {m2:Nat} {L2:Int→Int→(List Int)→(List Int)→Option (List Int)} {m3:Nat} {L3:Int→(List Int)→(List Int)→Option (List Int)} {m4:Nat} {L4:Int→Int→Option (List Int)}
theorem jt (hK:KnOk K) (hL3:H30_3 M w0 r m3 L3) (hL4:H30_4 M w0 r v27 v28 v29 m3 m4 L4) (h:fu K n v27 v28 v29 v33 L3 L4 v35=some r):VE (bU M w0) (q30 M w0 r) [.b 7,ap p30_8,k30_4 M w0 r m3 m4,.b 6,ap dh,.b 5,cg M w0 r m3,.b 4,ap bV] .normal (s30_j3 v27 v28 v29 v33 v35):=by
  unfold fu at h
  exact ag 2 (aN (hL4 h))
theorem kY (hK:KnOk K) (hL3:H30_3 M w0 r m3 L3) (hL4:H30_4 M w0 r v27 v28 v29 m3 m4 L4) (h:fm K n v27 v28 v29 L3 L4 v32 v33=some r):VE (bU M w0) (q30 M w0 r) [ap p30_7,k30_4 M w0 r m3 m4,.b 6,ap dh,.b 5,cg M w0 r m3,.b 4,ap bV] .normal (s30_l4 v27 v28 v29 v32 v33):=by
  unfold fm at h
  refine ab (ks':=[ap p30_9,ap p30_10,ap p30_11,k30_4 M w0 r m3 m4,.b 6,ap dh,.b 5,cg M w0 r m3,.b 4,ap bV]) 2 (ah 2 (aj (aH (eInt .i64) v29) (af ?_)))
  rcases am h with ⟨h54,h⟩ | ⟨h54,h⟩
  ·
   refine ae 75 h54 (ab (ks':=[ap p30_12,ap p30_13,.b 7,ap p30_8,k30_4 M w0 r m3 m4,.b 6,ap dh,.b 5,cg M w0 r m3,.b 4,ap bV]) 5 (bv [7,8,9,12,13] [] [31,34] ?_))
   obtain ⟨h55,h⟩:=ai h
   obtain ⟨h56,h⟩:=ai h
   refine bl 0 (nu 78 [.ref 34,iI v33,.eptr 34 1 (v33.toNat) 0,iI (gD v29 v33),.ref 34,iI v32,.eptr 34 1 (v32.toNat) 0,iI (gD v29 v32),.bool (decide ((gD v29 v33)>(gD v29 v32)))]) [] [] [] (az (vz 2) (d_v (aC 34 1 (eInt .i64) (L:=v29) h55) (d_v (aE 3 0 (eInt .i64) (eInt .i64) (au h55).2 (fun _=>rfl)) (az (vz 2) (d_v (aC 34 1 (eInt .i64) (L:=v29) h56) (d_v (aE 3 0 (eInt .i64) (eInt .i64) (au h56).2 (fun _=>rfl)) (az [.v 0 1] bm))))))) ?_
   obtain ⟨v34,h57,h⟩:=bind_some h
   have h57:=Option.some.inj h57
   refine aV (ks':=[ap p30_13,.b 7,ap p30_8,k30_4 M w0 r m3 m4,.b 6,ap dh,.b 5,cg M w0 r m3,.b 4,ap bV]) 0 ⟨[(7,.ref 31),(8,.ref 34),(9,iI v27),(12,iI v32),(13,iI v33),(86,.bool v34)],[],[(31,⟨3,1,lm (eInt .i64) v28⟩),(34,⟨3,1,lm (eInt .i64) v29⟩)],[31,34]⟩ ?_ (by subst h57; kernel_rfl)
   rcases am h with ⟨h58,h⟩ | ⟨h58,h⟩
   ·
    exact ae 86 h58 (ag 2 (jt hK hL3 hL4 h))
   ·
    exact ae 86 h58 (ag 2 (jt hK hL3 hL4 h))
  ·
   refine ae 75 h54 (ab (ks':=[ap p30_14,ap p30_15,.b 5,cg M w0 r m3,.b 4,ap bV]) 6 (ah 2 ?_))
   obtain ⟨h59,h⟩:=ai h
   refine aj (aY 31 1 (eInt .i64) h59) (aj (aE 3 0 (eInt .i64) (eInt .i64) (au h59).2 (fun _=>rfl)) (aP 5 1 ?_))
   obtain ⟨h60,h⟩:=ai h
   refine aj (aY 31 1 (eInt .i64) h60) (aj (bf 31 3 1 0 (eInt .i64) (eInt .i64) (w64 ((gD v28 v32)+1)) (au h60).2 (fun _=>rfl)) (af ?_))
   obtain ⟨v36,h61,h⟩:=bind_some h
   have h61:=Option.some.inj h61
   refine aV (ks':=[ap p30_16,ap p30_17,.b 5,cg M w0 r m3,.b 4,ap bV]) 1 ⟨[(7,.ref 31),(8,.ref 34),(9,iI v27),(12,iI v32)],[],[(31,⟨3,1,lm (eInt .i64) v36⟩),(34,⟨3,1,lm (eInt .i64) v29⟩)],[31,34]⟩ ?_ (by subst h61; kernel_rfl)
   refine ah 2 ?_
   obtain ⟨h62,h⟩:=ai h
   exact aj (aY 34 1 (eInt .i64) h62) (aj (bf 34 3 1 0 (eInt .i64) (eInt .i64) (-1) (au h62).2 (fun _=>rfl)) (af (ag 2 (aN (hL3 h)))))
theorem kT (hK:KnOk K) (hL3:H30_3 M w0 r m3 L3) (m:Nat):H30_4 M w0 r v27 v28 v29 m3 m (eQ K n v27 v28 v29 L3 m):=by
  induction m with
 | zero=>intro v32 v33 h; cases h
 | succ m ih=>intro v32 v33 h; have h:fm K n v27 v28 v29 L3 (eQ K n v27 v28 v29 L3 m) v32 v33=some r:=h; exact aM (kY hK hL3 ih h)
theorem ln (hK:KnOk K) (hL3:H30_3 M w0 r m3 L3) (h:gx K n L3 v27 v28 v29=some r):VE (bU M w0) (q30 M w0 r) [ap p30_1,cg M w0 r m3,.b 4,ap bV] .normal (s30_l5 v27 v28 v29):=by
  unfold gx at h
  refine ab (ks':=[ap p30_18,ap p30_19,cg M w0 r m3,.b 4,ap bV]) 3 ?_
  rcases am h with ⟨h48,h⟩ | ⟨h48,h⟩
  ·
   exact ae 71 h48 (ag 9 (aL (p:=p30_20) n (kT hK hL3 n h)))
  ·
   refine ae 71 h48 (aG 8 ?_)
   cases h
   exact b8
theorem jQ (hK:KnOk K) (m:Nat):H30_3 M w0 r m (cV K n m):=by
  induction m with
 | zero=>intro v27 v28 v29 h; cases h
 | succ m ih=>intro v27 v28 v29 h; have h:gx K n (cV K n m) v27 v28 v29=some r:=h; exact aM (ln hK ih h)
theorem k0 (hK:KnOk K) (hL2:H30_2 M w0 r v2 v3 v5 m2 L2) (h:fQ K n v2 v3 v5 L2 v13 v14 v15 v16=some r):VE (bU M w0) (q30 M w0 r) [ap p30_3,eP M w0 r m2,.b 2,ap c9] .normal (s30_l2 v2 v3 v5 v13 v14 v15 v16):=by
  unfold fQ at h
  refine ab (ks':=[ap p30_21,ap p30_22,ap p30_23,eP M w0 r m2,.b 2,ap c9]) 2 (ah 2 (aj (aH (eInt .i64) v2) (af ?_)))
  rcases am h with ⟨h23,h⟩ | ⟨h23,h⟩
  ·
   refine ae 42 h23 (ab (ks':=[ap p30_24,ap p30_25,.b 3,ap p30_26,eP M w0 r m2,.b 2,ap c9]) 5 (ah 3 ?_))
   obtain ⟨h24,h⟩:=ai h
   refine aj (bG (eInt .i64) (eInt .i64) h24 (fun _=>rfl) (fun _=>rfl)) (aP 5 1 ?_)
   obtain ⟨v17,h25,h⟩:=bind_some h
   refine bh (ir hK h25) (af (ab (ks':=[ap p30_27,ap p30_28,.b 3,ap p30_26,eP M w0 r m2,.b 2,ap c9]) 1 (ah 4 ?_)))
   obtain ⟨h26,h⟩:=ai h
   refine aj (y_quo .i64 (w64 (v3*v17)) h26) ?_
   obtain ⟨h27,h⟩:=ai h
   refine aj (aY 31 1 (eInt .i64) h27) (aj (bf 31 3 1 0 (eInt .i64) (eInt .i64) (w64 (Int.tdiv (w64 (v3*v17)) v5)) (au h27).2 (fun _=>rfl)) (af ?_))
   obtain ⟨v18,h28,h⟩:=bind_some h
   have h28:=Option.some.inj h28
   refine aV (ks':=[ap p30_29,ap p30_30,.b 3,ap p30_26,eP M w0 r m2,.b 2,ap c9]) 1 ⟨[(0,iI v3),(1,.sl (lm (eInt .i64) v2)),(5,iI v5),(7,.ref 31),(8,.ref 34),(9,iI v13),(10,iI v14),(11,iI (w64 (v3*v17)))],[],[(31,⟨3,1,lm (eInt .i64) v18⟩),(34,⟨3,1,lm (eInt .i64) v16⟩)],[31,34]⟩ ?_ (by subst h28; kernel_rfl)
   refine ah 4 ?_
   obtain ⟨h29,h⟩:=ai h
   refine aj (y_rem .i64 (w64 (v3*v17)) h29) ?_
   obtain ⟨h30,h⟩:=ai h
   refine aj (aY 34 1 (eInt .i64) h30) (aj (bf 34 3 1 0 (eInt .i64) (eInt .i64) (Int.tmod (w64 (v3*v17)) v5) (au h30).2 (fun _=>rfl)) (af ?_))
   obtain ⟨v19,h31,h⟩:=bind_some h
   have h31:=Option.some.inj h31
   refine aV (ks':=[ap p30_30,.b 3,ap p30_26,eP M w0 r m2,.b 2,ap c9]) 0 ⟨[(0,iI v3),(1,.sl (lm (eInt .i64) v2)),(5,iI v5),(7,.ref 31),(8,.ref 34),(9,iI v13),(10,iI v14)],[],[(31,⟨3,1,lm (eInt .i64) v18⟩),(34,⟨3,1,lm (eInt .i64) v19⟩)],[31,34]⟩ ?_ (by subst h31; kernel_rfl)
   refine ah 3 ?_
   obtain ⟨h32,h⟩:=ai h
   exact aj (aY 31 1 (eInt .i64) h32) (aj (aE 3 0 (eInt .i64) (eInt .i64) (au h32).2 (fun _=>rfl)) (af (ag 2 (aN (hL2 h)))))
  ·
   exact ae 42 h23 (ag 7 (aL (p:=p30_31) n (jQ hK n h)))
theorem kh (hK:KnOk K) (m:Nat):H30_2 M w0 r v2 v3 v5 m (dr K n v2 v3 v5 m):=by
  induction m with
 | zero=>intro v13 v14 v15 v16 h; cases h
 | succ m ih=>intro v13 v14 v15 v16 h; have h:fQ K n v2 v3 v5 (dr K n v2 v3 v5 m) v13 v14 v15 v16=some r:=h; exact aM (k0 hK ih h)
theorem lh (hK:KnOk K) (hL1:H30_1 M w0 r v2 v3 m1 L1) (h:fK K n v2 v3 L1 v5 v6=some r):VE (bU M w0) (q30 M w0 r) [ap p30_5,k30_1 M w0 r m1,.b 0,ap p30_4] .normal (s30_l1 v2 v3 v5 v6):=by
  unfold fK at h
  refine ab (ks':=[ap p30_32,ap p30_33,ap p30_34,k30_1 M w0 r m1,.b 0,ap p30_4]) 2 (ah 2 (aj (aH (eInt .i64) v2) (af ?_)))
  rcases am h with ⟨h5,h⟩ | ⟨h5,h⟩
  ·
   refine ae 19 h5 (ab (ks':=[ap p30_35,.b 1,ap p30_36,k30_1 M w0 r m1,.b 0,ap p30_4]) 4 (ah 3 ?_))
   obtain ⟨h6,h⟩:=ai h
   refine aj (bG (eInt .i64) (eInt .i64) h6 (fun _=>rfl) (fun _=>rfl)) (aP 5 1 ?_)
   obtain ⟨v7,h7,h⟩:=bind_some h
   exact bh (ir hK h7) (af (ag 2 (aN (hL1 h))))
  ·
   refine ae 19 h5 (ab (ks':=[ap p30_37,ap p30_38]) 6 (ah 1 (aj (aH (eInt .i64) v2) ?_)))
   obtain ⟨h8,h⟩:=ai h
   refine cp (eInt .i64) (0:Int) 33 (.tmp 30) (.tmp 30) 31 (e:=3) (sz:=1) (zc:=[iI 0]) (kd:=.i64) (kd':=.i64) h8 (af ?_)
   obtain ⟨v8,h9,h⟩:=bind_some h
   have h9:=Option.some.inj h9
   refine aV (ks':=[ap p30_39,ap p30_40]) 1 ⟨[(0,iI v3),(1,.sl (lm (eInt .i64) v2)),(5,iI v5),(7,.ref 31)],[],[(31,⟨3,1,lm (eInt .i64) v8⟩)],[31]⟩ ?_ (by subst h9; kernel_rfl)
   refine ah 1 (aj (aH (eInt .i64) v2) ?_)
   obtain ⟨h10,h⟩:=ai h
   refine cp (eInt .i64) (0:Int) 33 (.tmp 33) (.tmp 33) 34 (e:=3) (sz:=1) (zc:=[iI 0]) (kd:=.i64) (kd':=.i64) h10 (af ?_)
   obtain ⟨v9,h11,h⟩:=bind_some h
   have h11:=Option.some.inj h11
   refine aV (ks':=[ap p30_41,ap p30_42]) 3 ⟨[(0,iI v3),(1,.sl (lm (eInt .i64) v2)),(5,iI v5),(7,.ref 31),(8,.ref 34),(36,.bool (v5 == 0))],[],[(31,⟨3,1,lm (eInt .i64) v8⟩),(34,⟨3,1,lm (eInt .i64) v9⟩)],[31,34]⟩ ?_ (by subst h11; kernel_rfl)
   rcases am h with ⟨h12,h⟩ | ⟨h12,h⟩
   ·
    refine ae 36 h12 (aG 5 ?_)
    cases h
    exact b8
   ·
    exact ae 36 h12 (ag 8 (aL (p:=p30_43) n (kh hK n h)))
theorem ke (hK:KnOk K) (m:Nat):H30_1 M w0 r v2 v3 m (eG K n v2 v3 m):=by
  induction m with
 | zero=>intro v5 v6 h; cases h
 | succ m ih=>intro v5 v6 h; have h:fK K n v2 v3 (eG K n v2 v3 m) v5 v6=some r:=h; exact aM (lh hK ih h)
theorem jH (hK:KnOk K) (h:dj K n v1 v2=some r):ACalls Try.prog 30 [iI v1,.sl (lm (eInt .i64) v2)] (fun v s=>v = .ref 31∧look 31 s.r=some ⟨3,1,lm (eInt .i64) r⟩):=by
  refine bj (cat Try.f30 []) Try.func30 Try.ntmps30 fun M w0=>(aU ⟨[(0,iI v1),(1,.sl (lm (eInt .i64) v2))],[],[],[]⟩ ?_)
  unfold dj at h
  refine ab (ks':=[ap [1,0],ap [1,1]]) 3 (ah 1 ?_)
  obtain ⟨v3,h1,h⟩:=bind_some h
  exact bh (ir hK h1) (af (ag 6 (aL (p:=p30_44) n (ke hK n h))))
end
end Go.Proofs.Ytolhpahjgddjkaa

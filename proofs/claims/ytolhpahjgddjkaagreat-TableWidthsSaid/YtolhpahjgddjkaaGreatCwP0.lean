/- The runs of the functions that TableWidths reaches do what their plain forms say, part 0. Made by a program. -/
import Derived.Test.YtolhpahjgddjkaaGreatCwGk
namespace Go.Proofs.YtolhpahjgddjkaaGreat
open Go.RowKit
set_option maxRecDepth 20000
set_option linter.all false
set_option linter.unusedVariables false
set_option linter.unusedSimpArgs false
noncomputable section
variable(M:Nat→Prop)(w0:aJ)(r:(List (List ah))×Int)(v1:List (List (V2 Int)))(v121 v122:Int)(v123:List (List ah))(v124:List bH)(v139 v140 v141 v142:Int)(v143:List ah)(v146:Int)(v147:V2 Int)(v166:Int)(v167:List bH)(v175:Int)(v176 v179:(List bH))(v181:Int)(v182:List bH)(m1 m2 m3 m4 m5 m6:Nat)(L1:Int→Int→(List (List ah))→(List bH)→Option ((List (List ah))×Int))(L2:Int→Int→Int→Int→(List ah)→Option ((List (List ah))×Int))(L3:Int→(V2 Int)→Option ((List (List ah))×Int))(L4 L5 L6:Int→(List bH)→Option ((List (List ah))×Int))
abbrev iE:Cx:=⟨Tryz.prog,116,M,w0⟩
abbrev ir:=bodyPost Tryz.prog Tryz.f12 (bX M w0 (fun v s=>v=.tup [.ref 112,iI r.2]∧look 112 s.r=some ⟨44,1,lm (bu aA) r.1⟩))
abbrev pb(ks:List ao)(s:AS):=VE (iE M w0) (ir M w0 r) ks .normal s
abbrev dJ(n:Nat):ao:=.c (cat Tryz.f12 (pn n))
abbrev Fn:List ao:=[.b 0,dJ 15]
abbrev zO:List ao:=kl (iE M w0) (ir M w0 r) Fn (cat Tryz.f12 (pn 116)) m1::Fn
abbrev Ew:List ao:=.b 6::dJ 59807 :: .b 1::dJ 935::zO M w0 r m1
abbrev He:List ao:=kl (iE M w0) (ir M w0 r) (Ew M w0 r m1) (cat Tryz.f12 (pn 478452)) m4::(Ew M w0 r m1)
abbrev Dr:List ao:=.b 2::dJ 29903 :: .b 1::dJ 935::zO M w0 r m1
abbrev D8:List ao:=kl (iE M w0) (ir M w0 r) (Dr M w0 r m1) (cat Tryz.f12 (pn 239220)) m2::(Dr M w0 r m1)
abbrev Gi:List ao:=.b 4::dJ 15310131 :: .b 3::dJ 1913767::D8 M w0 r m1 m2
abbrev Mf:List ao:=kl (iE M w0) (ir M w0 r) (Gi M w0 r m1 m2) (cat Tryz.f12 (pn 61240520)) m3::(Gi M w0 r m1 m2)
abbrev CC:List ao:=.b 8 :: .b 7::dJ 3827623::He M w0 r m1 m4
abbrev xY:List ao:=kl (iE M w0) (ir M w0 r) (CC M w0 r m1 m4) (cat Tryz.f12 (pn 122483916)) m5::(CC M w0 r m1 m4)
abbrev Fe:List ao:=.b 10 :: .b 9::dJ 489935667::xY M w0 r m1 m4 m5
abbrev Pr:List ao:=kl (iE M w0) (ir M w0 r) (Fe M w0 r m1 m4 m5) (cat Tryz.f12 (pn 15677941324)) m6::(Fe M w0 r m1 m4 m5)
def J9:AS:=⟨[(0,.sl (lm (bu (bL (ab .i64))) v1)),(2,.ref 112),(3,iI v139),(4,.ref 500018),(5,iI v122),(7,.ref 58),(8,iI v146),(10,.ptr 10 0),(19,.sl (lm (bu (bL (ab .i64))) v1)),(20,iI (v1.length:Int)),(21,iI v122),(26,.sl (lm (bL (ab .i64)) (gD v1 v122))),(27,iI v141),(28,iI v142)],[(10,(bL (ab .i64)) v147)],[(58,⟨67,4,lm aA v143⟩),(112,⟨44,1,lm (bu aA) v123⟩),(500018,⟨99,1,lm cU v124⟩)],[10,58,112,500018]⟩
def KK:AS:=⟨[(0,.sl (lm (bu (bL (ab .i64))) v1)),(2,.ref 112),(3,iI v139),(4,.ref 500018),(5,iI v122),(7,.ref 58),(13,.ptr 13 0),(14,iI v175),(15,iI v181),(19,.sl (lm (bu (bL (ab .i64))) v1)),(20,iI (v1.length:Int)),(21,iI v122),(67,.ref 58),(68,iI (v143.length:Int)),(69,iI v166)],[(13,aA (gD v143 v166))],[(58,⟨67,4,lm aA v143⟩),(112,⟨44,1,lm (bu aA) v123⟩),(500018,⟨99,1,lm cU v182⟩)],[13,58,112,500018]⟩
def ZO:AS:=⟨[(0,.sl (lm (bu (bL (ab .i64))) v1)),(2,.ref 112),(3,iI v139),(4,.ref 500018),(5,iI v122),(7,.ref 58),(13,.ptr 13 0),(14,iI v175),(19,.sl (lm (bu (bL (ab .i64))) v1)),(20,iI (v1.length:Int)),(21,iI v122),(67,.ref 58),(68,iI (v143.length:Int)),(69,iI v166)],[(13,aA (gD v143 v166))],[(58,⟨67,4,lm aA v143⟩),(112,⟨44,1,lm (bu aA) v123⟩),(500018,⟨99,1,lm cU v179⟩)],[13,58,112,500018]⟩
def Hu:AS:=⟨[(0,.sl (lm (bu (bL (ab .i64))) v1)),(2,.ref 112),(3,iI v139),(4,.ref 500018),(5,iI v122),(7,.ref 58),(13,.ptr 13 0),(14,iI v175),(19,.sl (lm (bu (bL (ab .i64))) v1)),(20,iI (v1.length:Int)),(21,iI v122),(67,.ref 58),(68,iI (v143.length:Int)),(69,iI v166)],[(13,aA (gD v143 v166))],[(58,⟨67,4,lm aA v143⟩),(112,⟨44,1,lm (bu aA) v123⟩),(500018,⟨99,1,lm cU v176⟩)],[13,58,112,500018]⟩
def Iu:AS:=⟨[(0,.sl (lm (bu (bL (ab .i64))) v1)),(2,.ref 112),(3,iI v139),(4,.ref 500018),(5,iI v122),(7,.ref 58),(19,.sl (lm (bu (bL (ab .i64))) v1)),(20,iI (v1.length:Int)),(21,iI v122),(67,.ref 58),(68,iI (v143.length:Int)),(69,iI v166)],[],[(58,⟨67,4,lm aA v143⟩),(112,⟨44,1,lm (bu aA) v123⟩),(500018,⟨99,1,lm cU v167⟩)],[58,112,500018]⟩
def Px:AS:=⟨[(0,.sl (lm (bu (bL (ab .i64))) v1)),(2,.ref 112),(3,iI v139),(4,.ref 500018),(5,iI v122),(7,.ref 58),(8,iI v140),(19,.sl (lm (bu (bL (ab .i64))) v1)),(20,iI (v1.length:Int)),(21,iI v122),(26,.sl (lm (bL (ab .i64)) (gD v1 v122))),(27,iI v141),(28,iI v142)],[],[(58,⟨67,4,lm aA v143⟩),(112,⟨44,1,lm (bu aA) v123⟩),(500018,⟨99,1,lm cU v124⟩)],[58,112,500018]⟩
def HH:AS:=⟨[(0,.sl (lm (bu (bL (ab .i64))) v1)),(2,.ref 112),(3,iI v121),(4,.ref 500018),(19,.sl (lm (bu (bL (ab .i64))) v1)),(20,iI (v1.length:Int)),(21,iI v122)],[],[(112,⟨44,1,lm (bu aA) v123⟩),(500018,⟨99,1,lm cU v124⟩)],[112,500018]⟩
abbrev iR:Prop:=∀{v121:Int} {v122:Int} {v123:(List (List ah))} {v124:(List bH)},L1 v121 v122 v123 v124=some r→LP (iE M w0) (ir M w0 r) Fn (cat Tryz.f12 (pn 116)) m1 (HH v1 v121 v122 v123 v124)
abbrev Au:Prop:=∀{v139:Int} {v140:Int} {v141:Int} {v142:Int} {v143:(List ah)},L2 v139 v140 v141 v142 v143=some r→LP (iE M w0) (ir M w0 r) (Dr M w0 r m1) (cat Tryz.f12 (pn 239220)) m2 (Px v1 v122 v123 v124 v139 v140 v141 v142 v143)
abbrev KI:Prop:=∀{v146:Int} {v147:(V2 Int)},L3 v146 v147=some r→LP (iE M w0) (ir M w0 r) (Gi M w0 r m1 m2) (cat Tryz.f12 (pn 61240520)) m3 (J9 v1 v122 v123 v124 v139 v141 v142 v143 v146 v147)
abbrev oA:Prop:=∀{v166:Int} {v167:(List bH)},L4 v166 v167=some r→LP (iE M w0) (ir M w0 r) (Ew M w0 r m1) (cat Tryz.f12 (pn 478452)) m4 (Iu v1 v122 v123 v139 v143 v166 v167)
abbrev wx:Prop:=∀{v175:Int} {v176:(List bH)},L5 v175 v176=some r→LP (iE M w0) (ir M w0 r) (CC M w0 r m1 m4) (cat Tryz.f12 (pn 122483916)) m5 (Hu v1 v122 v123 v139 v143 v166 v175 v176)
abbrev Mo:Prop:=∀{v181:Int} {v182:(List bH)},L6 v181 v182=some r→LP (iE M w0) (ir M w0 r) (Fe M w0 r m1 m4 m5) (cat Tryz.f12 (pn 15677941324)) m6 (KK v1 v122 v123 v139 v143 v166 v175 v181 v182)
variable{M w0 r v1 v121 v122 v123 v124 v139 v140 v141 v142 v143 v146 v147 v166 v167 v175 v176 v179 v181 v182 m1 m2 m3 m4 m5 m6 L1 L2 L3 L4 L5 L6}{K:Kn}{n:Nat}
theorem QL(hK:am K)(hL1:iR M w0 r v1 m1 L1)(hL2:Au M w0 r v1 v122 v123 v124 m1 m2 L2)(hL3:KI M w0 r v1 v122 v123 v124 v139 v141 v142 v143 m1 m2 m3 L3)(h:pR K n v1 v122 v123 v124 v139 v141 v142 v143 L1 L2 L3 v146 v147=some r):pb M w0 r (dJ 61240520::Mf M w0 r m1 m2 m3) (J9 v1 v122 v123 v124 v139 v141 v142 v143 v146 v147):=by
 unfold pR at h;refine cm 4 5 3 2 (ai 2 ?_);obtain⟨h231,h⟩:=aw h;refine ap (bZ 500018 1 cU h231) (Cg (L:=v124) (id:=500018) (et:=99) (T:=99) (x:=(.tmp 34)) (decide_eq_true (aR h231).2) (br 5 1 (TA (L:=v124) (id:=500018) (et:=99) (T:=99) (x:=(.tmp 35)) (y:=(.tmp 36)) (n:=v146) (decide_eq_true (aR h231).2) (ae ?_))));obtain⟨v148,h232,h⟩:=cf h;refine bq (ks':=dJ 244962081::dJ 122481041::Mf M w0 r m1 m2 m3) 0 ⟨[(0,.sl (lm (bu (bL (ab .i64))) v1)),(2,.ref 112),(3,iI v139),(4,.ref 500018),(5,iI v122),(7,.ref 58),(8,iI v146),(10,.ptr 10 0),(19,.sl (lm (bu (bL (ab .i64))) v1)),(20,iI (v1.length:Int)),(21,iI v122),(26,.sl (lm (bL (ab .i64)) (gD v1 v122))),(27,iI v141),(28,iI v142),(37,.bool v148)],[(10,(bL (ab .i64)) v147)],[(58,⟨67,4,lm aA v143⟩),(112,⟨44,1,lm (bu aA) v123⟩),(500018,⟨99,1,lm cU v124⟩)],[10,58,112,500018]⟩ ?_ (by subst h232;kernel_rfl);obtain⟨h233,h⟩|⟨h233,h⟩:=av h
 ·exact ak 37 h233 (aj 5 (bd (hL3 h)))
 ·refine ak 37 h233 (eG 2 3 6 (ai 6 (ap (bK (bu (bL (ab .i64))) v1) (ae ?_))));obtain⟨v149,h234,h⟩:=cf h;refine bq (ks':=dJ 61240526::dJ 61240527 :: .b 3::dJ 1913767::D8 M w0 r m1 m2) 1 ⟨[(0,.sl (lm (bu (bL (ab .i64))) v1)),(2,.ref 112),(3,iI v139),(4,.ref 500018),(5,iI v122),(7,.ref 58),(8,iI v146),(11,.ptr 11 0),(19,.sl (lm (bu (bL (ab .i64))) v1)),(20,iI (v1.length:Int)),(21,iI v122),(26,.sl (lm (bL (ab .i64)) (gD v1 v122))),(27,iI v141),(28,iI v142)],[(11,aA (⟨v122,v146,v149,(min (max v147.a1 1) 100)⟩:ah))],[(58,⟨67,4,lm aA v143⟩),(112,⟨44,1,lm (bu aA) v123⟩),(500018,⟨99,1,lm cU v124⟩)],[11,58,112,500018]⟩ ?_ (by subst h234;kernel_rfl);refine ai 3 ?_;obtain⟨h235,h⟩:=aw h;exact ap (c6 58 58 67 4 aA (rfl) (gO) h235) (ae (aj 5 (bd (hL2 h))))
theorem QZ(hK:am K)(hL1:iR M w0 r v1 m1 L1)(hL2:Au M w0 r v1 v122 v123 v124 m1 m2 L2)(m:Nat):KI M w0 r v1 v122 v123 v124 v139 v141 v142 v143 m1 m2 m (mN K n v1 v122 v123 v124 v139 v141 v142 v143 L1 L2 m):=by
 induction m with
 | zero=>intro v146 v147 h;cases h
 | succ m ih=>intro v146 v147 h;have h:pR K n v1 v122 v123 v124 v139 v141 v142 v143 L1 L2 (mN K n v1 v122 v123 v124 v139 v141 v142 v143 L1 L2 m) v146 v147=some r:=h;exact aU (QL hK hL1 hL2 ih h)
theorem Z3(hK:am K)(hL1:iR M w0 r v1 m1 L1)(hL4:oA M w0 r v1 v122 v123 v139 v143 m1 m4 L4)(hL5:wx M w0 r v1 v122 v123 v139 v143 v166 m1 m4 m5 L5)(hL6:Mo M w0 r v1 v122 v123 v139 v143 v166 v175 m1 m4 m5 m6 L6)(h:tO K n v1 v122 v123 v139 v143 v166 v175 L1 L4 L5 L6 v181 v182=some r):pb M w0 r (dJ 15677941324::Pr M w0 r m1 m4 m5 m6) (KK v1 v122 v123 v139 v143 v166 v175 v181 v182):=by
 unfold tO at h;obtain⟨v183,h292,h⟩:=cf h;refine bq (ks':=dJ 62711765297::dJ 31355882649::Pr M w0 r m1 m4 m5 m6) 3 ⟨[(0,.sl (lm (bu (bL (ab .i64))) v1)),(2,.ref 112),(3,iI v139),(4,.ref 500018),(5,iI v122),(7,.ref 58),(13,.ptr 13 0),(14,iI v175),(15,iI v181),(19,.sl (lm (bu (bL (ab .i64))) v1)),(20,iI (v1.length:Int)),(21,iI v122),(67,.ref 58),(68,iI (v143.length:Int)),(69,iI v166),(100,.bool v183)],[(13,aA (gD v143 v166))],[(58,⟨67,4,lm aA v143⟩),(112,⟨44,1,lm (bu aA) v123⟩),(500018,⟨99,1,lm cU v182⟩)],[13,58,112,500018]⟩ ?_ (by subst h292;kernel_rfl);obtain⟨h293,h⟩|⟨h293,h⟩:=av h
 ·refine ak 100 h293 (iv 4 11 3 4 (ai 2 ?_));obtain⟨h294,h⟩:=aw h;refine ap (bZ 500018 1 cU h294) (Cg (L:=v182) (id:=500018) (et:=99) (T:=99) (x:=(.tmp 105)) (decide_eq_true (aR h294).2) (br 5 1 ?_));obtain⟨h295,h⟩:=aw h;exact Y9 (L:=v182) (id:=500018) (et:=99) (T:=99) (x:=(.tmp 106)) (y:=(.tmp 107)) (z:=(.const (.bool true))) (n:=v181) (b:=true) (decide_eq_true (aR h294).2) h295 (ae (aj 2 (bd (hL6 h))))
 ·exact ak 100 h293 (aj 7 (bd (hL5 h)))
theorem ac9(hK:am K)(hL1:iR M w0 r v1 m1 L1)(hL4:oA M w0 r v1 v122 v123 v139 v143 m1 m4 L4)(hL5:wx M w0 r v1 v122 v123 v139 v143 v166 m1 m4 m5 L5)(m:Nat):Mo M w0 r v1 v122 v123 v139 v143 v166 v175 m1 m4 m5 m (pF K n v1 v122 v123 v139 v143 v166 v175 L1 L4 L5 m):=by
 induction m with
 | zero=>intro v181 v182 h;cases h
 | succ m ih=>intro v181 v182 h;have h:tO K n v1 v122 v123 v139 v143 v166 v175 L1 L4 L5 (pF K n v1 v122 v123 v139 v143 v166 v175 L1 L4 L5 m) v181 v182=some r:=h;exact aU (Z3 hK hL1 hL4 hL5 ih h)
theorem Hc(hK:am K)(hL1:iR M w0 r v1 m1 L1)(hL4:oA M w0 r v1 v122 v123 v139 v143 m1 m4 L4)(hL5:wx M w0 r v1 v122 v123 v139 v143 v166 m1 m4 m5 L5)(h:qP K n v1 v122 v123 v139 v143 v166 v175 L1 L4 L5 v179=some r):pb M w0 r (dJ 1959742665 :: .b 9::dJ 489935667::xY M w0 r m1 m4 m5) (ZO v1 v122 v123 v139 v143 v166 v175 v179):=by
 unfold qP at h;exact aj 3 (bP (p:=pn 7838970662) n (ac9 hK hL1 hL4 hL5 n h))
theorem SR(hK:am K)(hL1:iR M w0 r v1 m1 L1)(hL4:oA M w0 r v1 v122 v123 v139 v143 m1 m4 L4)(hL5:wx M w0 r v1 v122 v123 v139 v143 v166 m1 m4 m5 L5)(h:tr K n v1 v122 v123 v139 v143 v166 L1 L4 L5 v175 v176=some r):pb M w0 r (dJ 122483916::xY M w0 r m1 m4 m5) (Hu v1 v122 v123 v139 v143 v166 v175 v176):=by
 unfold tr at h;obtain⟨v177,h282,h⟩:=cf h;refine bq (ks':=dJ 489935665::dJ 244967833::xY M w0 r m1 m4 m5) 3 ⟨[(0,.sl (lm (bu (bL (ab .i64))) v1)),(2,.ref 112),(3,iI v139),(4,.ref 500018),(5,iI v122),(7,.ref 58),(13,.ptr 13 0),(14,iI v175),(19,.sl (lm (bu (bL (ab .i64))) v1)),(20,iI (v1.length:Int)),(21,iI v122),(67,.ref 58),(68,iI (v143.length:Int)),(69,iI v166),(80,.bool v177)],[(13,aA (gD v143 v166))],[(58,⟨67,4,lm aA v143⟩),(112,⟨44,1,lm (bu aA) v123⟩),(500018,⟨99,1,lm cU v176⟩)],[13,58,112,500018]⟩ ?_ (by subst h282;kernel_rfl);obtain⟨h283,h⟩|⟨h283,h⟩:=av h
 ·refine ak 80 h283 (Iq 16 17 9 9 3 6 (ai 2 ?_));obtain⟨h284,h⟩:=aw h;refine ap (bZ 500018 1 cU h284) (Cg (L:=v176) (id:=500018) (et:=99) (T:=99) (x:=(.tmp 85)) (decide_eq_true (aR h284).2) (UB true (L:=v176) (id:=500018) (op:=.eql) (et:=99) (T:=99) (T':=99) (x:=(.tmp 86)) (y:=(.const (.map none))) (decide_eq_true (aR h284).2) (ae ?_)));obtain⟨v178,h285,h⟩:=cf h;refine bq (ks':=dJ 3919485329::dJ 1959742665 :: .b 9::dJ 489935667::xY M w0 r m1 m4 m5) 0 ⟨[(0,.sl (lm (bu (bL (ab .i64))) v1)),(2,.ref 112),(3,iI v139),(4,.ref 500018),(5,iI v122),(7,.ref 58),(13,.ptr 13 0),(14,iI v175),(19,.sl (lm (bu (bL (ab .i64))) v1)),(20,iI (v1.length:Int)),(21,iI v122),(67,.ref 58),(68,iI (v143.length:Int)),(69,iI v166),(87,.bool v178)],[(13,aA (gD v143 v166))],[(58,⟨67,4,lm aA v143⟩),(112,⟨44,1,lm (bu aA) v123⟩),(500018,⟨99,1,lm cU v176⟩)],[13,58,112,500018]⟩ ?_ (by subst h285;kernel_rfl);obtain⟨h286,h⟩|⟨h286,h⟩:=av h
  ·refine ak 87 h286 (ce 2 1 (ai 2 ?_));obtain⟨h287,h⟩:=aw h;exact U0 (L:=v176) (id:=500018) (d1:=90) (d2:=91) (et:=99) (T:=99) (T1:=98) (T2:=99) (x:=(.tmp 88)) (y:=(.tmp 89)) (j:=v175) h287 (ae (aj 0 (Hc hK hL1 hL4 hL5 h)))
  ·exact ak 87 h286 (aj 2 (Hc hK hL1 hL4 hL5 h))
 ·exact ak 80 h283 (aj 7 (bd (hL4 h)))
theorem Zm(hK:am K)(hL1:iR M w0 r v1 m1 L1)(hL4:oA M w0 r v1 v122 v123 v139 v143 m1 m4 L4)(m:Nat):wx M w0 r v1 v122 v123 v139 v143 v166 m1 m4 m (mP K n v1 v122 v123 v139 v143 v166 L1 L4 m):=by
 induction m with
 | zero=>intro v175 v176 h;cases h
 | succ m ih=>intro v175 v176 h;have h:tr K n v1 v122 v123 v139 v143 v166 L1 L4 (mP K n v1 v122 v123 v139 v143 v166 L1 L4 m) v175 v176=some r:=h;exact aU (SR hK hL1 hL4 ih h)
theorem S5(hK:am K)(hL1:iR M w0 r v1 m1 L1)(hL4:oA M w0 r v1 v122 v123 v139 v143 m1 m4 L4)(h:xH K n v1 v122 v123 v139 v143 L1 L4 v166 v167=some r):pb M w0 r (dJ 478452::He M w0 r m1 m4) (Iu v1 v122 v123 v139 v143 v166 v167):=by
 unfold xH at h;refine ax 6 7 3 ?_;obtain⟨h266,h⟩|⟨h266,h⟩:=av h
 ·refine ak 70 h266 (cF 8 9 7 3 5 (ai 0 ?_));obtain⟨h267,h⟩:=aw h;exact ap (bZ 58 4 aA h267) (ap (bE 67 0 aA aA (aR h267).2 (fun _=>rfl)) (ae (aj 3 (bP (p:=pn 61241958) n (Zm hK hL1 hL4 n h)))))
 ·refine ak 70 h266 (df (ks':=dJ 59807 :: .b 1::dJ 935::zO M w0 r m1) 5 (ai 2 (eO 58 (br 3 1 ?_))));obtain⟨h296,h⟩:=aw h;exact ap (c6 112 112 44 1 (bu aA) (rfl) (fun _=>rfl) h296) (ae (aj 2 (bd (hL1 h))))
theorem Uq(hK:am K)(hL1:iR M w0 r v1 m1 L1)(m:Nat):oA M w0 r v1 v122 v123 v139 v143 m1 m (mM K n v1 v122 v123 v139 v143 L1 m):=by
 induction m with
 | zero=>intro v166 v167 h;cases h
 | succ m ih=>intro v166 v167 h;have h:xH K n v1 v122 v123 v139 v143 L1 (mM K n v1 v122 v123 v139 v143 L1 m) v166 v167=some r:=h;exact aU (S5 hK hL1 ih h)
theorem aax(hK:am K)(hL1:iR M w0 r v1 m1 L1)(hL2:Au M w0 r v1 v122 v123 v124 m1 m2 L2)(h:vS K n v1 v122 v123 v124 L1 L2 v139 v140 v141 v142 v143=some r):pb M w0 r (dJ 239220::D8 M w0 r m1 m2) (Px v1 v122 v123 v124 v139 v140 v141 v142 v143):=by
 unfold vS at h;refine ax 6 7 3 ?_;obtain⟨h225,h⟩|⟨h225,h⟩:=av h
 ·refine ak 29 h225 (cF 8 9 3 3 5 (ai 0 ?_));obtain⟨h226,h⟩:=aw h;exact ap (cc (bL (ab .i64)) (bL (ab .i64)) (sz:=2) h226 (fun _=>rfl) (fun _=>rfl)) (ae (aj 2 (bP (p:=pn 30620260) n (QZ hK hL1 hL2 n h))))
 ·exact ak 29 h225 (rX 4 5 3 7 (ai 1 (ap (bK aA v143) (ae (aj 1 (bP (p:=pn 239226) n (Uq hK hL1 n h)))))))
theorem QD(hK:am K)(hL1:iR M w0 r v1 m1 L1)(m:Nat):Au M w0 r v1 v122 v123 v124 m1 m (pk K n v1 v122 v123 v124 L1 m):=by
 induction m with
 | zero=>intro v139 v140 v141 v142 v143 h;cases h
 | succ m ih=>intro v139 v140 v141 v142 v143 h;have h:vS K n v1 v122 v123 v124 L1 (pk K n v1 v122 v123 v124 L1 m) v139 v140 v141 v142 v143=some r:=h;exact aU (aax hK hL1 ih h)
theorem Wz(hK:am K)(hL1:iR M w0 r v1 m1 L1)(h:uQ K n v1 L1 v121 v122 v123 v124=some r):pb M w0 r (dJ 116::zO M w0 r m1) (HH v1 v121 v122 v123 v124):=by
 unfold uQ at h;refine ax 6 7 3 ?_;obtain⟨h199,h⟩|⟨h199,h⟩:=av h
 ·refine ak 22 h199 (cF 8 9 1 3 5 (ai 1 ?_));obtain⟨h200,h⟩:=aw h;exact ap (cc (bu (bL (ab .i64))) (bu (bL (ab .i64))) h200 (fun _=>rfl) (fun _=>rfl)) (ae (cm 28 29 15 6 (ai 1 (ap (bK (bL (ab .i64)) (gD v1 v122)) (ae (ip 2 2 1 (bI [0,2,3,4,5,7,8,19,20,21,26,27,28] [] [112,500018] (eJ 58 7 67 4 (aj 0 (bP (p:=pn 119610) n (QD hK hL1 n h)))))))))))
 ·refine ak 22 h199 (aW 8 ?_);cases h;exact gz
theorem aa1(hK:am K)(m:Nat):iR M w0 r v1 m (mi K n v1 m):=by
 induction m with
 | zero=>intro v121 v122 v123 v124 h;cases h
 | succ m ih=>intro v121 v122 v123 v124 h;have h:uQ K n v1 (mi K n v1 m) v121 v122 v123 v124=some r:=h;exact aU (Wz hK ih h)
theorem N2(hK:am K)(h:nr K n v1=some r):aQ Tryz.prog 12 [.sl (lm (bu (bL (ab .i64))) v1)] (fun v s=>v=.tup [.ref 112,iI r.2]∧look 112 s.r=some ⟨44,1,lm (bu aA) r.1⟩):=by
 refine bF (cat Tryz.f12 (pn 1)) Tryz.func12 Tryz.ntmps12 fun M w0=>(bx ⟨[(0,.sl (lm (bu (bL (ab .i64))) v1))],[],[],[]⟩ ?_);unfold nr at h;refine ax 6 7 3 (ai 1 (ap (bK (bu (bL (ab .i64))) v1) ?_));obtain⟨h1,h⟩:=aw h;refine ii zz (none:bH) 98 (.tmp 17) (.tmp 17) 18 (e:=99) (sz:=1) (zc:=[.nilm]) (kd:=.i64) (kd':=.i64) h1 (Rr 18 500018 (ZX 500018 ((v1.length:Int)).toNat 99 (ae ?_)));obtain⟨v2,h2,h⟩:=cf h;refine bq (ks':=[dJ 28,dJ 29,dJ 15]) 2 ⟨[(0,.sl (lm (bu (bL (ab .i64))) v1)),(2,.nils),(3,iI 0),(4,.ref 500018)],[],[(500018,⟨99,1,lm cU v2⟩)],[500018]⟩ ?_ (by subst h2;kernel_rfl);exact ai 1 (ap (bK (bu (bL (ab .i64))) v1) (ae (ip 2 0 1 (bI [0,2,3,4,19,20,21] [] [500018] (eJ 112 2 44 1 (aj 0 (bP (p:=pn 58) n (aa1 hK n h))))))))
end
noncomputable section
variable(M:Nat→Prop)(w0:aJ)(r v1:Int)  
variable{M w0 r v1}{K:Kn}{n:Nat}
theorem mo(hK:am K)(h:jM K n v1=some r):aQ Tryz.prog 35 [iI v1] (fun v _=>v=iI r):=by
 refine bF (cat Tryz.f35 (pn 1)) Tryz.func35 Tryz.ntmps35 fun M w0=>(bx ⟨[(0,iI v1)],[],[],[]⟩ ?_);unfold jM at h;refine aW 5 ?_;cases h;exact bW
end
noncomputable section
variable(M:Nat→Prop)(w0:aJ)(r:Int)(v1 v2:Int)  
variable{M w0 r v1 v2}{K:Kn}{n:Nat}
theorem Cs(hK:am K)(h:mG K n v1 v2=some r):aQ Tryz.prog 68 [iI v1,iI v2] (fun v _=>v=iI r):=by
 refine bF (cat Tryz.f68 (pn 1)) Tryz.func68 Tryz.ntmps68 fun M w0=>(bx ⟨[(0,iI v1),(1,iI v2)],[],[],[]⟩ ?_);unfold mG at h;refine aW 5 ?_;cases h;exact bW
end
noncomputable section
variable(M:Nat→Prop)(w0:aJ)(r v1:List Int)(v2 v3:Int)(v4:Fv)(v11:Int)(v12:List Int)(v15:Int)(v16:List Int)(v18:Bool)(m1 m2:Nat)(L1 L2:Int→(List Int)→Option (List Int))
abbrev uu:Cx:=⟨Tryz.prog,53,M,w0⟩
abbrev xr:=bodyPost Tryz.prog Tryz.f101 (bX M w0 (fun v s=>v=.tup []∧look 0 s.r=some ⟨3,1,lm (ab .i64) r⟩))
abbrev F9(ks:List ao)(s:AS):=VE (uu M w0) (xr M w0 r) ks .normal s
abbrev xt(n:Nat):ao:=.c (cat Tryz.f101 (pn n))
abbrev Fc:List ao:=[.b 0]
abbrev N6:List ao:=kl (uu M w0) (xr M w0 r) Fc (cat Tryz.f101 (pn 12)) m1::Fc
abbrev EY:List ao:=.b 2 :: .b 1::xt 51::N6 M w0 r m1
abbrev H9:List ao:=kl (uu M w0) (xr M w0 r) (EY M w0 r m1) (cat Tryz.f101 (pn 804)) m2::(EY M w0 r m1)
def Uf:AS:=⟨[(0,.ref 0),(1,iI v2),(2,iI v3),(3,.fn v4.id v4.aN),(8,iI v11),(9,iI v15),(34,.bool v18)],[],[(0,⟨3,1,lm (ab .i64) v16⟩)],[0,1000000,0]⟩
def N5:AS:=⟨[(0,.ref 0),(1,iI v2),(2,iI v3),(3,.fn v4.id v4.aN),(8,iI v11),(9,iI v15)],[],[(0,⟨3,1,lm (ab .i64) v16⟩)],[0,1000000,0]⟩
def Nj:AS:=⟨[(0,.ref 0),(1,iI v2),(2,iI v3),(3,.fn v4.id v4.aN),(8,iI v11)],[],[(0,⟨3,1,lm (ab .i64) v12⟩)],[0,1000000,0]⟩
abbrev uy:Prop:=∀{v11:Int} {v12:(List Int)},L1 v11 v12=some r→LP (uu M w0) (xr M w0 r) Fc (cat Tryz.f101 (pn 12)) m1 (Nj v2 v3 v4 v11 v12)
abbrev FV:Prop:=∀{v15:Int} {v16:(List Int)},L2 v15 v16=some r→LP (uu M w0) (xr M w0 r) (EY M w0 r m1) (cat Tryz.f101 (pn 804)) m2 (N5 v2 v3 v4 v11 v15 v16)
variable{M w0 r v1 v2 v3 v4 v11 v12 v15 v16 v18 m1 m2 L1 L2}{K:Kn}{n:Nat}
theorem PE(hK:am K)(hL1:uy M w0 r v2 v3 v4 m1 L1)(hL2:FV M w0 r v2 v3 v4 v11 m1 m2 L2)(h:rS K n v2 v3 v4 v11 v15 v16 L1 L2 v18=some r):F9 M w0 r (xt 3217::xt 1609::H9 M w0 r m1 m2) (Uf v2 v3 v4 v11 v15 v16 v18):=by
 unfold rS at h;obtain⟨h34,h⟩|⟨h34,h⟩:=av h
 ·refine ak 34 h34 (iv 4 3 3 4 (bI [0,1,2,3,8,9] [] [0] ?_));obtain⟨h35,h⟩:=aw h;obtain⟨h36,h⟩:=aw h;obtain⟨h37,h⟩:=aw h;obtain⟨h38,h⟩:=aw h;exact co 2 (nu 37 [.ref 0,iI v15,.ref 0,iI v15,iI (aa (v15-1)),.ref 0,iI v15,iI (aa (v15-1)),.eptr 0 1 (((aa (v15-1))).toNat) 0,iI (gD v16 ((aa (v15-1)))),.ref 0,iI v15,.eptr 0 1 (v15.toNat) 0,iI (gD v16 v15),.eptr 0 1 (v15.toNat) 0,.eptr 0 1 (((aa (v15-1))).toNat) 0]) [] [] [cD 0 ⟨3,1,lm (ab .i64) (List.set v16 v15.toNat (gD v16 ((aa (v15-1)))))⟩,cD 0 ⟨3,1,lm (ab .i64) (List.set (List.set v16 v15.toNat (gD v16 ((aa (v15-1))))) ((aa (v15-1))).toNat (gD v16 v15))⟩] (aF [.v 0 1,.v 0 1,.v 0 2,.v 0 2,.v 0 2,.v 0 1,.v 0 1,.v 0 1] (bt (bT 0 1 (ab .i64) (L:=v16) h35) (bt (bE 3 0 (ab .i64) (ab .i64) (aR h35).2 (fun _=>rfl)) (aF [.v 0 2,.v 0 2] (aC (d4 (lo:=0) (k:=2) (cy ⟨(by kernel_rfl),(cE (bT 0 1 (ab .i64) (L:=v16) h36) (by kernel_rfl))⟩ (cy ⟨(by kernel_rfl),(cE (bT 0 1 (ab .i64) (L:=(List.set v16 v15.toNat (gD v16 ((aa (v15-1)))))) h36) (by kernel_rfl))⟩ d8))) (bt (bE 3 0 (ab .i64) (ab .i64) (aR h37).2 (fun _=>rfl)) (bt (bT 0 1 (ab .i64) (L:=v16) h37) (aC (c7 (m:=0) (du 0 3 1 0 (ab .i64) (ab .i64) (gD v16 ((aa (v15-1)))) (aR h37).2 (fun _=>rfl))) (aC (nc (lo:=1) (bT 0 1 (ab .i64) (L:=(List.set v16 v15.toNat (gD v16 ((aa (v15-1)))))) h38)) (aC (c7 (m:=1) (du 0 3 1 0 (ab .i64) (ab .i64) (gD v16 v15) (aR h38).2 (fun _=>rfl))) cp)))))))))) (aj 2 (bd (hL2 h)))
 ·exact ak 34 h34 (aj 7 (bd (hL1 h)))
theorem aby(hK:am K)(hL1:uy M w0 r v2 v3 v4 m1 L1)(hL2:FV M w0 r v2 v3 v4 v11 m1 m2 L2)(h:wZ K n v2 v3 v4 v11 L1 L2 v15 v16=some r):F9 M w0 r (xt 804::H9 M w0 r m1 m2) (N5 v2 v3 v4 v11 v15 v16):=by
 unfold wZ at h;refine cm 4 5 3 2 (bI [0,1,2,3,8,9] [] [0] ?_);obtain⟨h30,h⟩|⟨h30,h⟩:=av h
 ·obtain⟨h31,h⟩:=aw h;obtain⟨h32,h⟩:=aw h;obtain⟨v17,h33,h⟩:=bind_some h;exact co 0 (nu 18 [iI v15,iI v2,.bool (decide (v15>v2)),.bool true,.fn v4.id v4.aN,.ref 0,iI v15,.eptr 0 1 (v15.toNat) 0,iI (gD v16 v15),.ref 0,iI v15,iI (aa (v15-1)),.eptr 0 1 (((aa (v15-1))).toNat) 0,iI (gD v16 ((aa (v15-1)))),iI v17,.bool (decide (v17<0)),.bool (decide (v17<0))]) [] [] [] (aF (vz 3) (aC (Hk 0 21 (e:=(decide (v15>v2))) (b:=true) h30) (aF (vz 3) (bt (bT 0 1 (ab .i64) (L:=v16) h31) (bt (bE 3 0 (ab .i64) (ab .i64) (aR h31).2 (fun _=>rfl)) (aF (vz 3) (bt (bT 0 1 (ab .i64) (L:=v16) h32) (bt (bE 3 0 (ab .i64) (ab .i64) (aR h32).2 (fun _=>rfl)) (aC (cM 0 1 32 (hK.gR h33).2 (hK.gR h33).1) (aF (vz 2) cp)))))))))) (aj 0 (PE hK hL1 hL2 h))
 ·exact co 0 (nu 18 [iI v15,iI v2,.bool (decide (v15>v2)),.bool false,.tup [],.tup [],.tup [],.tup [],.tup [],.tup [],.tup [],.tup [],.tup [],.tup [],.tup [],.tup [],.bool false]) [] [] [] (aF (vz 3) (aC (Hk 0 21 (e:=(decide (v15>v2))) (b:=false) h30) (aC (ji 0 1) (aC (ji 0 1) (aC (ji 0 1) (aC (ji 0 1) (aC (ji 0 1) (aC (ji 0 1) (aC (ji 0 1) (aC (ji 0 1) (aC (ji 0 1) (aC (ji 0 1) (aC (ji 0 1) (aC (ji 0 1) (aF [.v 0 1] cp))))))))))))))) (aj 0 (PE hK hL1 hL2 h))
theorem Rg(hK:am K)(hL1:uy M w0 r v2 v3 v4 m1 L1)(m:Nat):FV M w0 r v2 v3 v4 v11 m1 m (sW K n v2 v3 v4 v11 L1 m):=by
 induction m with
 | zero=>intro v15 v16 h;cases h
 | succ m ih=>intro v15 v16 h;have h:wZ K n v2 v3 v4 v11 L1 (sW K n v2 v3 v4 v11 L1 m) v15 v16=some r:=h;exact aU (aby hK hL1 ih h)
theorem QS(hK:am K)(hL1:uy M w0 r v2 v3 v4 m1 L1)(h:sX K n v2 v3 v4 L1 v11 v12=some r):F9 M w0 r (xt 12::N6 M w0 r m1) (Nj v2 v3 v4 v11 v12):=by
 unfold sX at h;refine ax 5 3 3 ?_;obtain⟨h20,h⟩|⟨h20,h⟩:=av h
 ·exact ak 14 h20 (aj 7 (bP (p:=pn 402) n (Rg hK hL1 n h)))
 ·refine ak 14 h20 (df (ks':=[]) 5 (nZ ?_));cases h;exact gz
theorem acX(hK:am K)(m:Nat):uy M w0 r v2 v3 v4 m (m7 K n v2 v3 v4 m):=by
 induction m with
 | zero=>intro v11 v12 h;cases h
 | succ m ih=>intro v11 v12 h;have h:sX K n v2 v3 v4 (m7 K n v2 v3 v4 m) v11 v12=some r:=h;exact aU (QS hK ih h)
theorem K6(hK:am K)(h:rD K n v1 v2 v3 v4=some r):jO Tryz.prog 101 [.ref 0,iI v2,iI v3,.fn v4.id v4.aN] 0 ⟨3,1,lm (ab .i64) v1⟩ (fun v s=>v=.tup []∧look 0 s.r=some ⟨3,1,lm (ab .i64) r⟩):=by
 refine pd (c:=cat Tryz.f101 (pn 1)) Tryz.func101 (by kernel_rfl) _ Tryz.ntmps101 (of_decide_eq_true (by kernel_rfl)) fun M w0=>(bx ⟨[(0,.ref 0),(1,iI v2),(2,iI v3),(3,.fn v4.id v4.aN)],[],[(0,⟨3,1,lm (ab .i64) v1⟩)],[0,1000000]⟩ ?_);unfold rD at h;exact aj 3 (bP (p:=pn 6) n (acX hK n h))
end
noncomputable section
variable(M:Nat→Prop)(w0:aJ)(r v1:List Int)(v2 v3 v4:Int)(v5:Fv)(v6:Int)(v7:List Int)(m1:Nat)(L1:Int→(List Int)→Option (List Int))
abbrev E3:Cx:=⟨Tryz.prog,38,M,w0⟩
abbrev Cp:=bodyPost Tryz.prog Tryz.f109 (bX M w0 (fun v s=>v=.tup []∧look 0 s.r=some ⟨3,1,lm (ab .i64) r⟩))
abbrev Tn(ks:List ao)(s:AS):=VE (E3 M w0) (Cp M w0 r) ks .normal s
abbrev abb(n:Nat):ao:=.c (cat Tryz.f109 (pn n))
abbrev BO:List ao:=[.b 0]
abbrev abn:List ao:=kl (E3 M w0) (Cp M w0 r) BO (cat Tryz.f109 (pn 12)) m1::BO
def Jg:AS:=⟨[(0,.ref 0),(1,iI v2),(2,iI v3),(3,iI v4),(10,iI v6)],[],[(0,⟨3,1,lm (ab .i64) v7⟩)],[0,1000000,0]⟩
abbrev HE:Prop:=∀{v6:Int} {v7:(List Int)},L1 v6 v7=some r→LP (E3 M w0) (Cp M w0 r) BO (cat Tryz.f109 (pn 12)) m1 (Jg v2 v3 v4 v6 v7)
variable{M w0 r v1 v2 v3 v4 v5 v6 v7 m1 L1}{K:Kn}{n:Nat}
theorem Sb(hK:am K)(hL1:HE M w0 r v2 v3 v4 m1 L1)(h:vU K n v2 v3 v4 L1 v6 v7=some r):Tn M w0 r (abb 12::abn M w0 r m1) (Jg v2 v3 v4 v6 v7):=by
 unfold vU at h;refine ax 5 3 3 ?_;obtain⟨h6,h⟩|⟨h6,h⟩:=av h
 ·refine ak 13 h6 (iv 4 1 3 4 (bI [0,1,2,3,10] [] [0] ?_));obtain⟨h7,h⟩:=aw h;obtain⟨h8,h⟩:=aw h;obtain⟨h9,h⟩:=aw h;obtain⟨h10,h⟩:=aw h;exact co 2 (nu 16 [.ref 0,iI v2,iI v6,iI (aa (v2+v6)),.ref 0,iI v3,iI v6,iI (aa (v3+v6)),.ref 0,iI v3,iI v6,iI (aa (v3+v6)),.eptr 0 1 (((aa (v3+v6))).toNat) 0,iI (gD v7 ((aa (v3+v6)))),.ref 0,iI v2,iI v6,iI (aa (v2+v6)),.eptr 0 1 (((aa (v2+v6))).toNat) 0,iI (gD v7 ((aa (v2+v6)))),.eptr 0 1 (((aa (v2+v6))).toNat) 0,.eptr 0 1 (((aa (v3+v6))).toNat) 0]) [] [] [cD 0 ⟨3,1,lm (ab .i64) (List.set v7 ((aa (v2+v6))).toNat (gD v7 ((aa (v3+v6)))))⟩,cD 0 ⟨3,1,lm (ab .i64) (List.set (List.set v7 ((aa (v2+v6))).toNat (gD v7 ((aa (v3+v6))))) ((aa (v3+v6))).toNat (gD v7 ((aa (v2+v6)))))⟩] (aF [.v 0 1,.v 0 1,.v 0 1,.v 0 1,.v 0 2,.v 0 2,.v 0 2,.v 0 2,.v 0 1,.v 0 1,.v 0 1,.v 0 1] (bt (bT 0 1 (ab .i64) (L:=v7) h7) (bt (bE 3 0 (ab .i64) (ab .i64) (aR h7).2 (fun _=>rfl)) (aF [.v 0 2,.v 0 2,.v 0 2,.v 0 2] (aC (d4 (lo:=0) (k:=2) (cy ⟨(by kernel_rfl),(cE (bT 0 1 (ab .i64) (L:=v7) h8) (by kernel_rfl))⟩ (cy ⟨(by kernel_rfl),(cE (bT 0 1 (ab .i64) (L:=(List.set v7 ((aa (v2+v6))).toNat (gD v7 ((aa (v3+v6)))))) h8) (by kernel_rfl))⟩ d8))) (bt (bE 3 0 (ab .i64) (ab .i64) (aR h9).2 (fun _=>rfl)) (bt (bT 0 1 (ab .i64) (L:=v7) h9) (aC (c7 (m:=0) (du 0 3 1 0 (ab .i64) (ab .i64) (gD v7 ((aa (v3+v6)))) (aR h9).2 (fun _=>rfl))) (aC (nc (lo:=1) (bT 0 1 (ab .i64) (L:=(List.set v7 ((aa (v2+v6))).toNat (gD v7 ((aa (v3+v6)))))) h10)) (aC (c7 (m:=1) (du 0 3 1 0 (ab .i64) (ab .i64) (gD v7 ((aa (v2+v6)))) (aR h10).2 (fun _=>rfl))) cp)))))))))) (aj 2 (bd (hL1 h)))
 ·refine ak 13 h6 (df (ks':=[]) 5 (nZ ?_));cases h;exact gz
theorem Vt(hK:am K)(m:Nat):HE M w0 r v2 v3 v4 m (pE K n v2 v3 v4 m):=by
 induction m with
 | zero=>intro v6 v7 h;cases h
 | succ m ih=>intro v6 v7 h;have h:vU K n v2 v3 v4 (pE K n v2 v3 v4 m) v6 v7=some r:=h;exact aU (Sb hK ih h)
theorem Dc(hK:am K)(h:oe K n v1 v2 v3 v4 v5=some r):jO Tryz.prog 109 [.ref 0,iI v2,iI v3,iI v4,.fn v5.id v5.aN] 0 ⟨3,1,lm (ab .i64) v1⟩ (fun v s=>v=.tup []∧look 0 s.r=some ⟨3,1,lm (ab .i64) r⟩):=by
 refine pd (c:=cat Tryz.f109 (pn 1)) Tryz.func109 (by kernel_rfl) _ Tryz.ntmps109 (of_decide_eq_true (by kernel_rfl)) fun M w0=>(bx ⟨[(0,.ref 0),(1,iI v2),(2,iI v3),(3,iI v4),(4,.fn v5.id v5.aN)],[],[(0,⟨3,1,lm (ab .i64) v1⟩)],[0,1000000]⟩ ?_);unfold oe at h;exact aj 3 (bP (p:=pn 6) n (Vt hK n h))
end
noncomputable section
variable(M:Nat→Prop)(w0:aJ)(r v1:List Int)(v2 v3 v4:Int)(v5:Fv)(v11 v12:Int)(v13:List Int)(v16 v17:Int)(v18:List Int)(m1:Nat)(L1:Int→Int→(List Int)→Option (List Int))
abbrev C3:Cx:=⟨Tryz.prog,58,M,w0⟩
abbrev DR:=bodyPost Tryz.prog Tryz.f107 (bX M w0 (fun v s=>v=.tup []∧look 0 s.r=some ⟨3,1,lm (ab .i64) r⟩))
abbrev IM(ks:List ao)(s:AS):=VE (C3 M w0) (DR M w0 r) ks .normal s
abbrev Aa(n:Nat):ao:=.c (cat Tryz.f107 (pn n))
abbrev DW:List ao:=[.b 0,Aa 15]
abbrev Gh:List ao:=kl (C3 M w0) (DR M w0 r) DW (cat Tryz.f107 (pn 56)) m1::DW
def adz:AS:=⟨[(0,.ref 0),(2,iI v3),(4,.fn v5.id v5.aN),(10,iI v16),(11,iI v17)],[],[(0,⟨3,1,lm (ab .i64) v18⟩)],[0,1000000,0]⟩
def Ks:AS:=⟨[(0,.ref 0),(2,iI v3),(4,.fn v5.id v5.aN),(10,iI v11),(11,iI v12)],[],[(0,⟨3,1,lm (ab .i64) v13⟩)],[0,1000000,0]⟩
abbrev C5:Prop:=∀{v11:Int} {v12:Int} {v13:(List Int)},L1 v11 v12 v13=some r→LP (C3 M w0) (DR M w0 r) DW (cat Tryz.f107 (pn 56)) m1 (Ks v3 v5 v11 v12 v13)
variable{M w0 r v1 v2 v3 v4 v5 v11 v12 v13 v16 v17 v18 m1 L1}{K:Kn}{n:Nat}
theorem Ka(hK:am K)(hL1:C5 M w0 r v3 v5 m1 L1)(h:rk K n v3 v5 L1 v16 v17 v18=some r):IM M w0 r (.b 1::Gh M w0 r m1) (adz v3 v5 v16 v17 v18):=by
 unfold rk at h;exact aj 1 (bd (hL1 h))
theorem Xx(hK:am K)(hL1:C5 M w0 r v3 v5 m1 L1)(h:t9 K n v3 v5 L1 v11 v12 v13=some r):IM M w0 r (Aa 56::Gh M w0 r m1) (Ks v3 v5 v11 v12 v13):=by
 unfold t9 at h;refine ax 5 3 3 ?_;obtain⟨h5,h⟩|⟨h5,h⟩:=av h
 ·refine ak 20 h5 (df (ks':=Aa 453 :: .b 1::Gh M w0 r m1) 5 ?_);obtain⟨h6,h⟩|⟨h6,h⟩:=av h
  ·refine ak 23 h6 (ax 4 5 2 (ai 7 ?_));obtain⟨v14,h7,h⟩:=bind_some h;exact iu 0 0 (Dc hK h7) (ae (aj 1 (Ka hK hL1 h)))
  ·refine ak 23 h6 (ax 6 7 2 (ai 11 ?_));obtain⟨v15,h8,h⟩:=bind_some h;exact iu 0 0 (Dc hK h8) (ae (aj 1 (Ka hK hL1 h)))
 ·refine ak 20 h5 (df (ks':=[Aa 15]) 5 (ai 7 ?_));obtain⟨v19,h9,h⟩:=bind_some h;refine iu 0 0 (Dc hK h9) (ae (nZ ?_));cases h;exact gz
theorem VH(hK:am K)(m:Nat):C5 M w0 r v3 v5 m (si K n v3 v5 m):=by
 induction m with
 | zero=>intro v11 v12 v13 h;cases h
 | succ m ih=>intro v11 v12 v13 h;have h:t9 K n v3 v5 (si K n v3 v5 m) v11 v12 v13=some r:=h;exact aU (Xx hK ih h)
theorem SY(hK:am K)(h:wE K n v1 v2 v3 v4 v5=some r):jO Tryz.prog 107 [.ref 0,iI v2,iI v3,iI v4,.fn v5.id v5.aN] 0 ⟨3,1,lm (ab .i64) v1⟩ (fun v s=>v=.tup []∧look 0 s.r=some ⟨3,1,lm (ab .i64) r⟩):=by
 refine pd (c:=cat Tryz.f107 (pn 1)) Tryz.func107 (by kernel_rfl) _ Tryz.ntmps107 (of_decide_eq_true (by kernel_rfl)) fun M w0=>(bx ⟨[(0,.ref 0),(1,iI v2),(2,iI v3),(3,iI v4),(4,.fn v5.id v5.aN)],[],[(0,⟨3,1,lm (ab .i64) v1⟩)],[0,1000000]⟩ ?_);unfold wE at h;exact aj 6 (bP (p:=pn 28) n (VH hK n h))
end
noncomputable section
variable(M:Nat→Prop)(w0:aJ)(r v1:List Int)(v2 v3 v4:Int)(v5:Fv)(v10 v11 v14 v15 v16:Int)(v17:List Int)(v22 v23 v26 v27 v28:Int)(v29:List Int)(v30 v31 v33 v34 v39 v40 v43 v44:Int)(v45:Bool)(v47:List Int)(v48:Bool)(v50:List Int)(v51:Bool)(v53:List Int)(m1 m2 m3 m4 m5:Nat)(L1:Int→Int→Option (List Int))(L2:Int→(List Int)→Option (List Int))(L3:Int→Int→Option (List Int))(L4:Int→(List Int)→Option (List Int))(L5:Int→Int→Option (List Int))
abbrev jv:Cx:=⟨Tryz.prog,220,M,w0⟩
abbrev jA:=bodyPost Tryz.prog Tryz.f102 (bX M w0 (fun v s=>v=.tup []∧look 0 s.r=some ⟨3,1,lm (ab .i64) r⟩))
abbrev gN(ks:List ao)(s:AS):=VE (jv M w0) (jA M w0 r) ks .normal s
abbrev dW(n:Nat):ao:=.c (cat Tryz.f102 (pn n))
abbrev GT:List ao:=[.b 2,dW 175,dW 3]
abbrev Wa:List ao:=kl (jv M w0) (jA M w0 r) GT (cat Tryz.f102 (pn 1396)) m2::GT
abbrev Fw:List ao:=[.b 0,dW 87,dW 3]
abbrev D5:List ao:=kl (jv M w0) (jA M w0 r) Fw (cat Tryz.f102 (pn 344)) m1::Fw
abbrev Gz:List ao:=[.b 6,dW 431,dW 7]
abbrev Ue:List ao:=kl (jv M w0) (jA M w0 r) Gz (cat Tryz.f102 (pn 3444)) m4::Gz
abbrev FD:List ao:=[.b 4,dW 215,dW 7]
abbrev BJ:List ao:=kl (jv M w0) (jA M w0 r) FD (cat Tryz.f102 (pn 856)) m3::FD
abbrev C4:List ao:=[.b 8,dW 511]
abbrev EH:List ao:=kl (jv M w0) (jA M w0 r) C4 (cat Tryz.f102 (pn 2040)) m5::C4
def SV:AS:=⟨[(0,.ref 0),(1,iI v2),(4,.fn v5.id v5.aN),(10,iI v14),(11,iI v15)],[],[(0,⟨3,1,lm (ab .i64) v1⟩)],[0,1000000,0]⟩
def Nu:AS:=⟨[(0,.ref 0),(10,iI v10),(13,iI v16)],[],[(0,⟨3,1,lm (ab .i64) v17⟩)],[0,1000000,0]⟩
def Ho:AS:=⟨[(0,.ref 0),(1,iI v2),(4,.fn v5.id v5.aN),(10,iI v10),(11,iI v11)],[],[(0,⟨3,1,lm (ab .i64) v1⟩)],[0,1000000,0]⟩
def Tp:AS:=⟨[(0,.ref 0),(2,iI v3),(4,.fn v5.id v5.aN),(14,iI v26),(15,iI v27)],[],[(0,⟨3,1,lm (ab .i64) v1⟩)],[0,1000000,0]⟩
def MD:AS:=⟨[(0,.ref 0),(14,iI v22),(17,iI v28)],[],[(0,⟨3,1,lm (ab .i64) v29⟩)],[0,1000000,0]⟩
def Li:AS:=⟨[(0,.ref 0),(2,iI v3),(4,.fn v5.id v5.aN),(14,iI v22),(15,iI v23)],[],[(0,⟨3,1,lm (ab .i64) v1⟩)],[0,1000000,0]⟩
def Ra:AS:=⟨[(0,.ref 0),(1,iI v2),(2,iI v3),(3,iI v4),(4,.fn v5.id v5.aN),(18,iI v30),(19,iI v31),(20,iI v43),(21,iI v44),(22,iI (aa (v31-1)))],[],[(0,⟨3,1,lm (ab .i64) v1⟩)],[0,1000000,0]⟩
def abO:AS:=⟨[],[],[(0,⟨3,1,lm (ab .i64) v53⟩)],[0,1000000,0]⟩
def adx:AS:=⟨[(0,.ref 0),(3,iI v4),(4,.fn v5.id v5.aN),(18,iI v30),(24,iI (aa (v31-v39))),(213,.bool v51)],[],[(0,⟨3,1,lm (ab .i64) v50⟩)],[0,1000000,0]⟩
def W3:AS:=⟨[(0,.ref 0),(3,iI v4),(4,.fn v5.id v5.aN),(18,iI v30),(24,iI (aa (v31-v39)))],[],[(0,⟨3,1,lm (ab .i64) v50⟩)],[0,1000000,0]⟩
def Wh:AS:=⟨[(0,.ref 0),(1,iI v2),(3,iI v4),(4,.fn v5.id v5.aN),(18,iI v30),(20,iI v39),(24,iI (aa (v31-v39))),(199,.bool v48)],[],[(0,⟨3,1,lm (ab .i64) v47⟩)],[0,1000000,0]⟩
def W1:AS:=⟨[(0,.ref 0),(1,iI v2),(3,iI v4),(4,.fn v5.id v5.aN),(18,iI v30),(20,iI v39),(24,iI (aa (v31-v39)))],[],[(0,⟨3,1,lm (ab .i64) v47⟩)],[0,1000000,0]⟩
def XT:AS:=⟨[(0,.ref 0),(1,iI v2),(2,iI v3),(3,iI v4),(4,.fn v5.id v5.aN),(18,iI v30),(20,iI v39),(24,iI (aa (v31-v39))),(185,.bool v45)],[],[(0,⟨3,1,lm (ab .i64) v1⟩)],[0,1000000,0]⟩
def LF:AS:=⟨[(0,.ref 0),(1,iI v2),(2,iI v3),(3,iI v4),(4,.fn v5.id v5.aN),(18,iI v30),(19,iI v31),(20,iI v39),(21,iI v40),(22,iI (aa (v31-1)))],[],[(0,⟨3,1,lm (ab .i64) v1⟩)],[0,1000000,0]⟩
def Zt:AS:=⟨[(0,.ref 0),(1,iI v2),(2,iI v3),(3,iI v4),(4,.fn v5.id v5.aN),(18,iI v30),(19,iI v31),(20,iI v33),(21,iI v34)],[],[(0,⟨3,1,lm (ab .i64) v1⟩)],[0,1000000,0]⟩
abbrev EV:Prop:=∀{v10:Int} {v11:Int},L1 v10 v11=some r→LP (jv M w0) (jA M w0 r) Fw (cat Tryz.f102 (pn 344)) m1 (Ho v1 v2 v5 v10 v11)
abbrev Ns:Prop:=∀{v16:Int} {v17:(List Int)},L2 v16 v17=some r→LP (jv M w0) (jA M w0 r) GT (cat Tryz.f102 (pn 1396)) m2 (Nu v10 v16 v17)
abbrev D3:Prop:=∀{v22:Int} {v23:Int},L3 v22 v23=some r→LP (jv M w0) (jA M w0 r) FD (cat Tryz.f102 (pn 856)) m3 (Li v1 v3 v5 v22 v23)
abbrev Mp:Prop:=∀{v28:Int} {v29:(List Int)},L4 v28 v29=some r→LP (jv M w0) (jA M w0 r) Gz (cat Tryz.f102 (pn 3444)) m4 (MD v22 v28 v29)
abbrev GH:Prop:=∀{v39:Int} {v40:Int},L5 v39 v40=some r→LP (jv M w0) (jA M w0 r) C4 (cat Tryz.f102 (pn 2040)) m5 (LF v1 v2 v3 v4 v5 v30 v31 v39 v40)
variable{M w0 r v1 v2 v3 v4 v5 v10 v11 v14 v15 v16 v17 v22 v23 v26 v27 v28 v29 v30 v31 v33 v34 v39 v40 v43 v44 v45 v47 v48 v50 v51 v53 m1 m2 m3 m4 m5 L1 L2 L3 L4 L5}{K:Kn}{n:Nat}
theorem KJ(hK:am K)(hL1:EV M w0 r v1 v2 v5 m1 L1)(h:uc K n v1 v2 v5 L1 v14 v15=some r):gN M w0 r (.b 1::D5 M w0 r m1) (SV v1 v2 v5 v14 v15):=by
 unfold uc at h;exact aj 1 (bd (hL1 h))
theorem acN(hK:am K)(hL2:Ns M w0 r v10 m2 L2)(h:vK K n v10 L2 v16 v17=some r):gN M w0 r (dW 1396::Wa M w0 r m2) (Nu v10 v16 v17):=by
 unfold vK at h;refine ax 5 3 3 ?_;obtain⟨h19,h⟩|⟨h19,h⟩:=av h
 ·refine ak 58 h19 (iv 4 3 3 4 (bI [0,10,13] [] [0] ?_));obtain⟨h20,h⟩:=aw h;obtain⟨h21,h⟩:=aw h;obtain⟨h22,h⟩:=aw h;obtain⟨h23,h⟩:=aw h;exact co 2 (nu 61 [.ref 0,iI v16,.ref 0,iI v16,iI (aa (v16+1)),.ref 0,iI v16,iI (aa (v16+1)),.eptr 0 1 (((aa (v16+1))).toNat) 0,iI (gD v17 ((aa (v16+1)))),.ref 0,iI v16,.eptr 0 1 (v16.toNat) 0,iI (gD v17 v16),.eptr 0 1 (v16.toNat) 0,.eptr 0 1 (((aa (v16+1))).toNat) 0]) [] [] [cD 0 ⟨3,1,lm (ab .i64) (List.set v17 v16.toNat (gD v17 ((aa (v16+1)))))⟩,cD 0 ⟨3,1,lm (ab .i64) (List.set (List.set v17 v16.toNat (gD v17 ((aa (v16+1))))) ((aa (v16+1))).toNat (gD v17 v16))⟩] (aF [.v 0 1,.v 0 1,.v 0 2,.v 0 2,.v 0 2,.v 0 1,.v 0 1,.v 0 1] (bt (bT 0 1 (ab .i64) (L:=v17) h20) (bt (bE 3 0 (ab .i64) (ab .i64) (aR h20).2 (fun _=>rfl)) (aF [.v 0 2,.v 0 2] (aC (d4 (lo:=0) (k:=2) (cy ⟨(by kernel_rfl),(cE (bT 0 1 (ab .i64) (L:=v17) h21) (by kernel_rfl))⟩ (cy ⟨(by kernel_rfl),(cE (bT 0 1 (ab .i64) (L:=(List.set v17 v16.toNat (gD v17 ((aa (v16+1)))))) h21) (by kernel_rfl))⟩ d8))) (bt (bE 3 0 (ab .i64) (ab .i64) (aR h22).2 (fun _=>rfl)) (bt (bT 0 1 (ab .i64) (L:=v17) h22) (aC (c7 (m:=0) (du 0 3 1 0 (ab .i64) (ab .i64) (gD v17 ((aa (v16+1)))) (aR h22).2 (fun _=>rfl))) (aC (nc (lo:=1) (bT 0 1 (ab .i64) (L:=(List.set v17 v16.toNat (gD v17 ((aa (v16+1)))))) h23)) (aC (c7 (m:=1) (du 0 3 1 0 (ab .i64) (ab .i64) (gD v17 v16) (aR h23).2 (fun _=>rfl))) cp)))))))))) (aj 2 (bd (hL2 h)))
 ·refine ak 58 h19 (aW 7 ?_);cases h;exact gz
theorem TZ(hK:am K)(m:Nat):Ns M w0 r v10 m (nC K n v10 m):=by
 induction m with
 | zero=>intro v16 v17 h;cases h
 | succ m ih=>intro v16 v17 h;have h:vK K n v10 (nC K n v10 m) v16 v17=some r:=h;exact aU (acN hK ih h)
theorem RH(hK:am K)(hL1:EV M w0 r v1 v2 v5 m1 L1)(h:xT K n v1 v2 v5 L1 v10 v11=some r):gN M w0 r (dW 344::D5 M w0 r m1) (Ho v1 v2 v5 v10 v11):=by
 unfold xT at h;refine ax 5 3 3 ?_;obtain⟨h8,h⟩|⟨h8,h⟩:=av h
 ·refine ak 33 h8 ?_;obtain⟨v12,h9,h⟩:=cf h;refine bq (ks':=dW 5514::dW 5515 :: .b 1::D5 M w0 r m1) 6 ⟨[(0,.ref 0),(1,iI v2),(4,.fn v5.id v5.aN),(10,iI v10),(11,iI v11),(12,iI v12)],[],[(0,⟨3,1,lm (ab .i64) v1⟩)],[0,1000000,0]⟩ ?_ (by subst h9;kernel_rfl);obtain⟨h10,h⟩:=aw h;obtain⟨h11,h⟩:=aw h;obtain⟨v13,h12,h⟩:=bind_some h;refine co 0 (nu 40 [.fn v5.id v5.aN,.ref 0,iI v12,.eptr 0 1 (v12.toNat) 0,iI (gD v1 v12),.ref 0,iI v2,.eptr 0 1 (v2.toNat) 0,iI (gD v1 v2),iI v13,.bool (decide (v13<0))]) [] [] [] (aF (vz 3) (bt (bT 0 1 (ab .i64) (L:=v1) h10) (bt (bE 3 0 (ab .i64) (ab .i64) (aR h10).2 (fun _=>rfl)) (aF (vz 2) (bt (bT 0 1 (ab .i64) (L:=v1) h11) (bt (bE 3 0 (ab .i64) (ab .i64) (aR h11).2 (fun _=>rfl)) (aC (cM 0 1 49 (hK.gR h12).2 (hK.gR h12).1) (aF [.v 0 1] cp)))))))) ?_;obtain⟨h13,h⟩|⟨h13,h⟩:=av h
  ·exact ak 50 h13 (aj 2 (KJ hK hL1 h))
  ·exact ak 50 h13 (aj 2 (KJ hK hL1 h))
 ·exact ak 33 h8 (aj 9 (bP (p:=pn 698) n (TZ hK n h)))
theorem R4(hK:am K)(m:Nat):EV M w0 r v1 v2 v5 m (rz K n v1 v2 v5 m):=by
 induction m with
 | zero=>intro v10 v11 h;cases h
 | succ m ih=>intro v10 v11 h;have h:xT K n v1 v2 v5 (rz K n v1 v2 v5 m) v10 v11=some r:=h;exact aU (RH hK ih h)
theorem NK(hK:am K)(hL3:D3 M w0 r v1 v3 v5 m3 L3)(h:uw K n v1 v3 v5 L3 v26 v27=some r):gN M w0 r (.b 5::BJ M w0 r m3) (Tp v1 v3 v5 v26 v27):=by
 unfold uw at h;exact aj 1 (bd (hL3 h))
theorem Ry(hK:am K)(hL4:Mp M w0 r v22 m4 L4)(h:wP K n v22 L4 v28 v29=some r):gN M w0 r (dW 3444::Ue M w0 r m4) (MD v22 v28 v29):=by
 unfold wP at h;refine ax 5 3 3 ?_;obtain⟨h42,h⟩|⟨h42,h⟩:=av h
 ·refine ak 110 h42 (iv 4 7 3 4 (bI [0,14,17] [] [0] ?_));obtain⟨h43,h⟩:=aw h;obtain⟨h44,h⟩:=aw h;obtain⟨h45,h⟩:=aw h;obtain⟨h46,h⟩:=aw h;exact co 2 (nu 113 [.ref 0,iI v28,.ref 0,iI v28,iI (aa (v28-1)),.ref 0,iI v28,iI (aa (v28-1)),.eptr 0 1 (((aa (v28-1))).toNat) 0,iI (gD v29 ((aa (v28-1)))),.ref 0,iI v28,.eptr 0 1 (v28.toNat) 0,iI (gD v29 v28),.eptr 0 1 (v28.toNat) 0,.eptr 0 1 (((aa (v28-1))).toNat) 0]) [] [] [cD 0 ⟨3,1,lm (ab .i64) (List.set v29 v28.toNat (gD v29 ((aa (v28-1)))))⟩,cD 0 ⟨3,1,lm (ab .i64) (List.set (List.set v29 v28.toNat (gD v29 ((aa (v28-1))))) ((aa (v28-1))).toNat (gD v29 v28))⟩] (aF [.v 0 1,.v 0 1,.v 0 2,.v 0 2,.v 0 2,.v 0 1,.v 0 1,.v 0 1] (bt (bT 0 1 (ab .i64) (L:=v29) h43) (bt (bE 3 0 (ab .i64) (ab .i64) (aR h43).2 (fun _=>rfl)) (aF [.v 0 2,.v 0 2] (aC (d4 (lo:=0) (k:=2) (cy ⟨(by kernel_rfl),(cE (bT 0 1 (ab .i64) (L:=v29) h44) (by kernel_rfl))⟩ (cy ⟨(by kernel_rfl),(cE (bT 0 1 (ab .i64) (L:=(List.set v29 v28.toNat (gD v29 ((aa (v28-1)))))) h44) (by kernel_rfl))⟩ d8))) (bt (bE 3 0 (ab .i64) (ab .i64) (aR h45).2 (fun _=>rfl)) (bt (bT 0 1 (ab .i64) (L:=v29) h45) (aC (c7 (m:=0) (du 0 3 1 0 (ab .i64) (ab .i64) (gD v29 ((aa (v28-1)))) (aR h45).2 (fun _=>rfl))) (aC (nc (lo:=1) (bT 0 1 (ab .i64) (L:=(List.set v29 v28.toNat (gD v29 ((aa (v28-1)))))) h46)) (aC (c7 (m:=1) (du 0 3 1 0 (ab .i64) (ab .i64) (gD v29 v28) (aR h46).2 (fun _=>rfl))) cp)))))))))) (aj 2 (bd (hL4 h)))
 ·refine ak 110 h42 (aW 7 ?_);cases h;exact gz
theorem RV(hK:am K)(m:Nat):Mp M w0 r v22 m (nE K n v22 m):=by
 induction m with
 | zero=>intro v28 v29 h;cases h
 | succ m ih=>intro v28 v29 h;have h:wP K n v22 (nE K n v22 m) v28 v29=some r:=h;exact aU (Ry hK ih h)
theorem Yp(hK:am K)(hL3:D3 M w0 r v1 v3 v5 m3 L3)(h:w8 K n v1 v3 v5 L3 v22 v23=some r):gN M w0 r (dW 856::BJ M w0 r m3) (Li v1 v3 v5 v22 v23):=by
 unfold w8 at h;refine ax 5 3 3 ?_;obtain⟨h31,h⟩|⟨h31,h⟩:=av h
 ·refine ak 85 h31 ?_;obtain⟨v24,h32,h⟩:=cf h;refine bq (ks':=dW 13706::dW 13707 :: .b 5::BJ M w0 r m3) 6 ⟨[(0,.ref 0),(2,iI v3),(4,.fn v5.id v5.aN),(14,iI v22),(15,iI v23),(16,iI v24)],[],[(0,⟨3,1,lm (ab .i64) v1⟩)],[0,1000000,0]⟩ ?_ (by subst h32;kernel_rfl);obtain⟨h33,h⟩:=aw h;obtain⟨h34,h⟩:=aw h;obtain⟨v25,h35,h⟩:=bind_some h;refine co 0 (nu 92 [.fn v5.id v5.aN,.ref 0,iI v3,.eptr 0 1 (v3.toNat) 0,iI (gD v1 v3),.ref 0,iI v24,.eptr 0 1 (v24.toNat) 0,iI (gD v1 v24),iI v25,.bool (decide (v25<0)),.bool (!(decide (v25<0)))]) [] [] [] (aF (vz 3) (bt (bT 0 1 (ab .i64) (L:=v1) h33) (bt (bE 3 0 (ab .i64) (ab .i64) (aR h33).2 (fun _=>rfl)) (aF (vz 2) (bt (bT 0 1 (ab .i64) (L:=v1) h34) (bt (bE 3 0 (ab .i64) (ab .i64) (aR h34).2 (fun _=>rfl)) (aC (cM 0 1 101 (hK.gR h35).2 (hK.gR h35).1) (aF (vz 2) cp)))))))) ?_;obtain⟨h36,h⟩|⟨h36,h⟩:=av h
  ·exact ak 103 h36 (aj 2 (NK hK hL3 h))
  ·exact ak 103 h36 (aj 2 (NK hK hL3 h))
 ·exact ak 85 h31 (aj 9 (bP (p:=pn 1722) n (RV hK n h)))
theorem ZL(hK:am K)(m:Nat):D3 M w0 r v1 v3 v5 m (rG K n v1 v3 v5 m):=by
 induction m with
 | zero=>intro v22 v23 h;cases h
 | succ m ih=>intro v22 v23 h;have h:w8 K n v1 v3 v5 (rG K n v1 v3 v5 m) v22 v23=some r:=h;exact aU (Yp hK ih h)
theorem LK(hK:am K)(hL5:GH M w0 r v1 v2 v3 v4 v5 v30 v31 m5 L5)(h:ux K n v1 v2 v3 v4 v5 v30 v31 L5 v43 v44=some r):gN M w0 r (.b 9::EH M w0 r m5) (Ra v1 v2 v3 v4 v5 v30 v31 v43 v44):=by
 unfold ux at h;exact aj 1 (bd (hL5 h))
theorem Hj(hK:am K)(h:xI K n v53=some r):gN M w0 r [] (abO v53):=by
 unfold xI at h;refine nZ ?_;cases h;exact gz
theorem NR(hK:am K)(h:pV K n v4 v5 v30 v31 v39 v50 v51=some r):gN M w0 r [dW 8191] (adx v4 v5 v30 v31 v39 v50 v51):=by
 unfold pV at h;obtain⟨h70,h⟩|⟨h70,h⟩:=av h
 ·refine ak 213 h70 (ce 2 1 (ai 5 ?_));obtain⟨v52,h71,h⟩:=bind_some h;exact iu 0 0 (hK.ke h71) (ae (aj 0 (Hj hK h)))
 ·exact ak 213 h70 (aj 2 (Hj hK h))
theorem HK(hK:am K)(h:kO K n v4 v5 v30 v31 v39 v50=some r):gN M w0 r [dW 4095] (W3 v4 v5 v30 v31 v39 v50):=by
 unfold kO at h;refine ax 2 3 1 (ai 4 ?_);obtain⟨h69,h⟩|⟨h69,h⟩:=av h
 ·exact aY 209 h69 (ae (aj 0 (NR hK h)))
 ·exact aY 209 h69 (ae (aj 0 (NR hK h)))
theorem Jk(hK:am K)(h:qp K n v2 v4 v5 v30 v31 v39 v47 v48=some r):gN M w0 r [dW 8189,dW 4095] (Wh v2 v4 v5 v30 v31 v39 v47 v48):=by
 unfold qp at h;obtain⟨h67,h⟩|⟨h67,h⟩:=av h
 ·refine ak 199 h67 (ce 2 1 (ai 5 ?_));obtain⟨v49,h68,h⟩:=bind_some h;exact iu 0 0 (hK.ke h68) (ae (aj 0 (HK hK h)))
 ·exact ak 199 h67 (aj 2 (HK hK h))
theorem PD(hK:am K)(h:oD K n v2 v4 v5 v30 v31 v39 v47=some r):gN M w0 r [dW 2047] (W1 v2 v4 v5 v30 v31 v39 v47):=by
 unfold oD at h;refine cm 4 5 3 2 (ai 4 ?_);obtain⟨h66,h⟩|⟨h66,h⟩:=av h
 ·exact aY 195 h66 (ae (aj 0 (Jk hK h)))
 ·exact aY 195 h66 (ae (aj 0 (Jk hK h)))
theorem K3(hK:am K)(h:jf K n v1 v2 v3 v4 v5 v30 v31 v39 v45=some r):gN M w0 r [dW 4093,dW 2047] (XT v1 v2 v3 v4 v5 v30 v31 v39 v45):=by
 unfold jf at h;obtain⟨h64,h⟩|⟨h64,h⟩:=av h
 ·refine ak 185 h64 (ce 2 1 (ai 5 ?_));obtain⟨v46,h65,h⟩:=bind_some h;exact iu 0 0 (SY hK h65) (ae (aj 0 (PD hK h)))
 ·exact ak 185 h64 (aj 2 (PD hK h))
theorem Qs(hK:am K)(hL5:GH M w0 r v1 v2 v3 v4 v5 v30 v31 m5 L5)(h:uA K n v1 v2 v3 v4 v5 v30 v31 L5 v39 v40=some r):gN M w0 r (dW 2040::EH M w0 r m5) (LF v1 v2 v3 v4 v5 v30 v31 v39 v40):=by
 unfold uA at h;refine ax 5 3 3 ?_;obtain⟨h57,h⟩|⟨h57,h⟩:=av h
 ·refine ak 151 h57 ?_;obtain⟨v41,h58,h⟩:=cf h;refine bq (ks':=dW 32650::dW 32651 :: .b 9::EH M w0 r m5) 6 ⟨[(0,.ref 0),(1,iI v2),(2,iI v3),(3,iI v4),(4,.fn v5.id v5.aN),(18,iI v30),(19,iI v31),(20,iI v39),(21,iI v40),(22,iI (aa (v31-1))),(23,iI v41)],[],[(0,⟨3,1,lm (ab .i64) v1⟩)],[0,1000000,0]⟩ ?_ (by subst h58;kernel_rfl);obtain⟨h59,h⟩:=aw h;obtain⟨h60,h⟩:=aw h;obtain⟨v42,h61,h⟩:=bind_some h;refine co 0 (nu 158 [.fn v5.id v5.aN,.ref 0,iI (aa (v31-1)),iI v41,iI (aa ((aa (v31-1))-v41)),.eptr 0 1 (((aa ((aa (v31-1))-v41))).toNat) 0,iI (gD v1 ((aa ((aa (v31-1))-v41)))),.ref 0,iI v41,.eptr 0 1 (v41.toNat) 0,iI (gD v1 v41),iI v42,.bool (decide (v42<0)),.bool (!(decide (v42<0)))]) [] [] [] (aF (vz 5) (bt (bT 0 1 (ab .i64) (L:=v1) h59) (bt (bE 3 0 (ab .i64) (ab .i64) (aR h59).2 (fun _=>rfl)) (aF (vz 2) (bt (bT 0 1 (ab .i64) (L:=v1) h60) (bt (bE 3 0 (ab .i64) (ab .i64) (aR h60).2 (fun _=>rfl)) (aC (cM 0 1 169 (hK.gR h61).2 (hK.gR h61).1) (aF (vz 2) cp)))))))) ?_
  obtain⟨h62,h⟩|⟨h62,h⟩:=av h
  ·exact ak 171 h62 (aj 2 (LK hK hL5 h))
  ·exact ak 171 h62 (aj 2 (LK hK hL5 h))
 ·refine ak 151 h57 (rX 12 13 7 9 (ai 4 ?_));obtain⟨h63,h⟩|⟨h63,h⟩:=av h
  ·exact aY 181 h63 (ae (aj 0 (K3 hK h)))
  ·exact aY 181 h63 (ae (aj 0 (K3 hK h)))
theorem WL(hK:am K)(m:Nat):GH M w0 r v1 v2 v3 v4 v5 v30 v31 m (o8 K n v1 v2 v3 v4 v5 v30 v31 m):=by
 induction m with
 | zero=>intro v39 v40 h;cases h
 | succ m ih=>intro v39 v40 h;have h:uA K n v1 v2 v3 v4 v5 v30 v31 (o8 K n v1 v2 v3 v4 v5 v30 v31 m) v39 v40=some r:=h;exact aU (Qs hK ih h)
theorem OK(hK:am K)(h:rr K n v1 v2 v3 v4 v5 v30 v31 v33 v34=some r):gN M w0 r [dW 127] (Zt v1 v2 v3 v4 v5 v30 v31 v33 v34):=by
 unfold rr at h;exact aj 4 (bP (p:=pn 1020) n (WL hK n h))
theorem FC(hK:am K)(h:jQ K n v1 v2 v3 v4 v5=some r):jO Tryz.prog 102 [.ref 0,iI v2,iI v3,iI v4,.fn v5.id v5.aN] 0 ⟨3,1,lm (ab .i64) v1⟩ (fun v s=>v=.tup []∧look 0 s.r=some ⟨3,1,lm (ab .i64) r⟩):=by
 refine pd (c:=cat Tryz.f102 (pn 1)) Tryz.func102 (by kernel_rfl) _ Tryz.ntmps102 (of_decide_eq_true (by kernel_rfl)) fun M w0=>(bx ⟨[(0,.ref 0),(1,iI v2),(2,iI v3),(3,iI v4),(4,.fn v5.id v5.aN)],[],[(0,⟨3,1,lm (ab .i64) v1⟩)],[0,1000000]⟩ ?_);unfold jQ at h;refine ax 5 3 3 ?_;obtain⟨h1,h⟩|⟨h1,h⟩:=av h
 ·exact ak 28 h1 (aj 7 (bP (p:=pn 172) n (R4 hK n h)))
 ·refine ak 28 h1 (fu 5 3 5 ?_);obtain⟨h24,h⟩|⟨h24,h⟩:=av h
  ·exact ak 80 h24 (aj 7 (bP (p:=pn 428) n (ZL hK n h)))
  ·refine ak 80 h24 ?_;obtain⟨v30,h47,h⟩:=cf h;obtain⟨v31,h48,h⟩:=cf h;obtain⟨v32,h49,h⟩:=cf h;refine bq (ks':=[dW 253,dW 127]) 11 ⟨[(0,.ref 0),(1,iI v2),(2,iI v3),(3,iI v4),(4,.fn v5.id v5.aN),(18,iI v30),(19,iI v31),(140,.bool v32)],[],[(0,⟨3,1,lm (ab .i64) v1⟩)],[0,1000000,0]⟩ ?_ (by subst h49;subst h48;subst h47;kernel_rfl);obtain⟨h50,h⟩|⟨h50,h⟩:=av h
   ·exact ak 140 h50 (aj 4 (OK hK h))
   ·exact ak 140 h50 (aj 4 (OK hK h))
end
noncomputable section
variable(M:Nat→Prop)(w0:aJ)(r v1:List Int)(v2:Int)(v3:Fv)(v5 v6:Int)(v7:List Int)(v17:Int)(v18:List Int)(v20 v21:Int)(v22 v25:(List Int))(m1 m2 m3:Nat)(L1:Int→Int→(List Int)→Option (List Int))(L2:Int→(List Int)→Option (List Int))(L3:Int→Int→(List Int)→Option (List Int))
abbrev oG:Cx:=⟨Tryz.prog,63,M,w0⟩
abbrev nK:=bodyPost Tryz.prog Tryz.f87 (bX M w0 (fun v s=>v=.tup []∧look 0 s.r=some ⟨3,1,lm (ab .i64) r⟩))
abbrev yx(ks:List ao)(s:AS):=VE (oG M w0) (nK M w0 r) ks .normal s
abbrev kB(n:Nat):ao:=.c (cat Tryz.f87 (pn n))
abbrev EF:List ao:=[.b 2]
abbrev GD:List ao:=kl (oG M w0) (nK M w0 r) EF (cat Tryz.f87 (pn 124)) m2::EF
abbrev CX:List ao:=[.b 0,kB 15]
abbrev OA:List ao:=kl (oG M w0) (nK M w0 r) CX (cat Tryz.f87 (pn 56)) m1::CX
abbrev ED:List ao:=.b 4::kB 1995 :: .b 3::GD M w0 r m2
abbrev MS:List ao:=kl (oG M w0) (nK M w0 r) (ED M w0 r m2) (cat Tryz.f87 (pn 7976)) m3::(ED M w0 r m2)
def RR:AS:=⟨[(0,.ref 0),(1,iI v2),(2,.fn v3.id v3.aN),(6,iI v17)],[],[(0,⟨3,1,lm (ab .i64) v25⟩)],[0,1000000,0]⟩
def H1:AS:=⟨[(0,.ref 0),(1,iI v2),(2,.fn v3.id v3.aN),(6,iI v17),(7,iI v20),(8,iI v21)],[],[(0,⟨3,1,lm (ab .i64) v22⟩)],[0,1000000,0]⟩
def Nz:AS:=⟨[(0,.ref 0),(1,iI v2),(2,.fn v3.id v3.aN),(6,iI v17)],[],[(0,⟨3,1,lm (ab .i64) v18⟩)],[0,1000000,0]⟩
def K7:AS:=⟨[(0,.ref 0),(1,iI v2),(2,.fn v3.id v3.aN),(6,iI 20),(7,iI v5),(8,iI v6)],[],[(0,⟨3,1,lm (ab .i64) v7⟩)],[0,1000000,0]⟩
abbrev Kr:Prop:=∀{v5:Int} {v6:Int} {v7:(List Int)},L1 v5 v6 v7=some r→LP (oG M w0) (nK M w0 r) CX (cat Tryz.f87 (pn 56)) m1 (K7 v2 v3 v5 v6 v7)
abbrev ue:Prop:=∀{v17:Int} {v18:(List Int)},L2 v17 v18=some r→LP (oG M w0) (nK M w0 r) EF (cat Tryz.f87 (pn 124)) m2 (Nz v2 v3 v17 v18)
abbrev Ik:Prop:=∀{v20:Int} {v21:Int} {v22:(List Int)},L3 v20 v21 v22=some r→LP (oG M w0) (nK M w0 r) (ED M w0 r m2) (cat Tryz.f87 (pn 7976)) m3 (H1 v2 v3 v17 v20 v21 v22)
variable{M w0 r v1 v2 v3 v5 v6 v7 v17 v18 v20 v21 v22 v25 m1 m2 m3 L1 L2 L3}{K:Kn}{n:Nat}
theorem J1(hK:am K)(hL2:ue M w0 r v2 v3 m2 L2)(h:xO K n v2 v3 v17 L2 v25=some r):yx M w0 r (kB 3991 :: .b 3::GD M w0 r m2) (RR v2 v3 v17 v25):=by
 unfold xO at h;exact aj 2 (bd (hL2 h))
theorem Uj(hK:am K)(hL2:ue M w0 r v2 v3 m2 L2)(hL3:Ik M w0 r v2 v3 v17 m2 m3 L3)(h:xC K n v2 v3 v17 L2 L3 v20 v21 v22=some r):yx M w0 r (kB 7976::MS M w0 r m2 m3) (H1 v2 v3 v17 v20 v21 v22):=by
 unfold xC at h;refine ax 5 3 3 ?_;obtain⟨h16,h⟩|⟨h16,h⟩:=av h
 ·refine ak 35 h16 (df (ks':=kB 63812::kB 63813 :: .b 5::MS M w0 r m2 m3) 4 (ai 7 ?_));obtain⟨v23,h17,h⟩:=bind_some h;exact iu 0 0 (FC hK h17) (ae (aj 4 (bd (hL3 h))))
 ·refine ak 35 h16 (eG 11 3 10 ?_);obtain⟨h18,h⟩|⟨h18,h⟩:=av h
  ·refine ak 54 h18 (ce 2 1 (ai 5 ?_));obtain⟨v24,h19,h⟩:=bind_some h;exact iu 0 0 (FC hK h19) (ae (aj 0 (J1 hK hL2 h)))
  ·exact ak 54 h18 (aj 2 (J1 hK hL2 h))
theorem R3(hK:am K)(hL2:ue M w0 r v2 v3 m2 L2)(m:Nat):Ik M w0 r v2 v3 v17 m2 m (qm K n v2 v3 v17 L2 m):=by
 induction m with
 | zero=>intro v20 v21 v22 h;cases h
 | succ m ih=>intro v20 v21 v22 h;have h:xC K n v2 v3 v17 L2 (qm K n v2 v3 v17 L2 m) v20 v21 v22=some r:=h;exact aU (Uj hK hL2 ih h)
theorem QP(hK:am K)(hL2:ue M w0 r v2 v3 m2 L2)(h:wM K n v2 v3 L2 v17 v18=some r):yx M w0 r (kB 124::GD M w0 r m2) (Nz v2 v3 v17 v18):=by
 unfold wM at h;refine ax 5 3 3 ?_;obtain⟨h13,h⟩|⟨h13,h⟩:=av h
 ·exact ak 30 h13 (aj 7 (bP (p:=pn 3988) n (R3 hK hL2 n h)))
 ·refine ak 30 h13 (df (ks':=[]) 5 (nZ ?_));cases h;exact gz
theorem Yb(hK:am K)(m:Nat):ue M w0 r v2 v3 m (l4 K n v2 v3 m):=by
 induction m with
 | zero=>intro v17 v18 h;cases h
 | succ m ih=>intro v17 v18 h;have h:wM K n v2 v3 (l4 K n v2 v3 m) v17 v18=some r:=h;exact aU (QP hK ih h)
theorem U6(hK:am K)(hL1:Kr M w0 r v2 v3 m1 L1)(h:yg K n v2 v3 L1 v5 v6 v7=some r):yx M w0 r (kB 56::OA M w0 r m1) (K7 v2 v3 v5 v6 v7):=by
 unfold yg at h;refine ax 5 3 3 ?_;obtain⟨h3,h⟩|⟨h3,h⟩:=av h
 ·refine ak 13 h3 (df (ks':=kB 452::kB 453 :: .b 1::OA M w0 r m1) 4 (ai 4 ?_));obtain⟨v8,h4,h⟩:=bind_some h;exact iu 0 0 (K6 hK h4) (ae (aj 4 (bd (hL1 h))))
 ·refine ak 13 h3 (eG 2 3 6 (ai 4 ?_));obtain⟨v9,h5,h⟩:=bind_some h;exact iu 0 0 (K6 hK h5) (ae (aj 1 (bP (p:=pn 62) n (Yb hK n h))))
theorem Ua(hK:am K)(m:Nat):Kr M w0 r v2 v3 m (rc K n v2 v3 m):=by
 induction m with
 | zero=>intro v5 v6 v7 h;cases h
 | succ m ih=>intro v5 v6 v7 h;have h:yg K n v2 v3 (rc K n v2 v3 m) v5 v6 v7=some r:=h;exact aU (U6 hK ih h)
theorem abt(hK:am K)(h:zR K n v1 v2 v3=some r):jO Tryz.prog 87 [.ref 0,iI v2,.fn v3.id v3.aN] 0 ⟨3,1,lm (ab .i64) v1⟩ (fun v s=>v=.tup []∧look 0 s.r=some ⟨3,1,lm (ab .i64) r⟩):=by
 refine pd (c:=cat Tryz.f87 (pn 1)) Tryz.func87 (by kernel_rfl) _ Tryz.ntmps87 (of_decide_eq_true (by kernel_rfl)) fun M w0=>(bx ⟨[(0,.ref 0),(1,iI v2),(2,.fn v3.id v3.aN)],[],[(0,⟨3,1,lm (ab .i64) v1⟩)],[0,1000000]⟩ ?_);unfold zR at h;exact aj 6 (bP (p:=pn 28) n (Ua hK n h))
end
noncomputable section
variable(M:Nat→Prop)(w0:aJ)(r v1:List Int)(v2:Fv)  
variable{M w0 r v1 v2}{K:Kn}{n:Nat}
theorem Im(hK:am K)(h:kC K n v1 v2=some r):jO Tryz.prog 69 [.ref 0,.fn v2.id v2.aN] 0 ⟨3,1,lm (ab .i64) v1⟩ (fun v s=>v=.tup []∧look 0 s.r=some ⟨3,1,lm (ab .i64) r⟩):=by
 refine pd (c:=cat Tryz.f69 (pn 1)) Tryz.func69 (by kernel_rfl) _ Tryz.ntmps69 (of_decide_eq_true (by kernel_rfl)) fun M w0=>(bx ⟨[(0,.ref 0),(1,.fn v2.id v2.aN)],[],[(0,⟨3,1,lm (ab .i64) v1⟩)],[0,1000000]⟩ ?_);unfold kC at h;refine ai 2 (ap (bK (ab .i64) v1) (br 4 1 ?_));obtain⟨v3,h1,h⟩:=bind_some h;refine iu 0 0 (abt hK h1) (ae (nZ ?_));cases h;exact gz
end
noncomputable section
variable(M:Nat→Prop)(w0:aJ)(r:Bool)(v1:Int)  
variable{M w0 r v1}{K:Kn}{n:Nat}
theorem I8(hK:am K)(h:tk K n v1=some r):aQ Tryz.prog 88 [iI v1] (fun v _=>v=.bool r):=by
 refine bF (cat Tryz.f88 (pn 1)) Tryz.func88 Tryz.ntmps88 fun M w0=>(bx ⟨[(0,iI v1)],[],[],[]⟩ ?_);unfold tk at h;refine aW 5 ?_;cases h;exact bW
end
noncomputable section
variable(M:Nat→Prop)(w0:aJ)(r:Int)(v1 v2:Int)  
variable{M w0 r v1 v2}{K:Kn}{n:Nat}
theorem JS(hK:am K)(h:pB K n v1 v2=some r):aQ Tryz.prog 71 [iI v1,iI v2] (fun v _=>v=iI r):=by
 refine bF (cat Tryz.f71 (pn 1)) Tryz.func71 Tryz.ntmps71 fun M w0=>(bx ⟨[(0,iI v1),(1,iI v2)],[],[],[]⟩ ?_);unfold pB at h;refine ax 6 7 3 (ai 1 ?_);obtain⟨v3,h1,h⟩:=bind_some h;refine aK (I8 hK h1) (ae (ax 2 3 1 (ai 1 ?_)));obtain⟨v4,h2,h⟩:=bind_some h;refine aK (I8 hK h2) (ae (ax 5 3 3 ?_));obtain⟨h3,h⟩|⟨h3,h⟩:=av h
 ·refine ak 11 h3 (ax 9 5 4 ?_);obtain⟨h4,h⟩|⟨h4,h⟩:=av h
  ·refine ak 12 h4 (aW 6 ?_);cases h;exact bW
  ·refine ak 12 h4 (aW 6 ?_);cases h;exact bW
 ·refine ak 11 h3 (fu 5 3 5 ?_);obtain⟨h5,h⟩|⟨h5,h⟩:=av h
  ·refine ak 13 h5 (aW 5 ?_);cases h;exact bW
  ·refine ak 13 h5 (fu 5 3 5 ?_);obtain⟨h6,h⟩|⟨h6,h⟩:=av h
   ·refine ak 16 h6 (aW 5 ?_);cases h;exact bW
   ·refine ak 16 h6 (fu 5 3 5 ?_);obtain⟨h7,h⟩|⟨h7,h⟩:=av h
    ·refine ak 19 h7 (aW 5 ?_);cases h;exact bW
    ·refine ak 19 h7 (aW 5 ?_);cases h;exact bW
end
noncomputable section
variable(M:Nat→Prop)(w0:aJ)(r:Int)(v1 v2:Int)(v3:List Int)  
variable{M w0 r v1 v2 v3}{K:Kn}{n:Nat}
theorem abZ(hK:am K)(h:yd K n v1 v2 v3=some r):aQ Tryz.prog 70 [iI v1,iI v2,.cptr ([.sl (lm (ab .i64) v3)])] (fun v _=>v=iI r):=by
 refine bF (cat Tryz.f70 (pn 1)) Tryz.func70 Tryz.ntmps70 fun M w0=>(bx ⟨[(0,iI v1),(1,iI v2),(2,.cptr ([.sl (lm (ab .i64) v3)]))],[],[],[]⟩ ?_);unfold yd at h;refine ax 6 7 3 (bI [0,1,2] [] [] ?_);obtain⟨h1,h⟩:=aw h;obtain⟨h2,h⟩:=aw h;obtain⟨v4,h3,h⟩:=bind_some h;refine co 1 (nu 6 [.sl (lm (ab .i64) v3),iI v2,.cptr ([iI (gD v3 v2)]),iI (gD v3 v2),.sl (lm (ab .i64) v3),iI v1,.cptr ([iI (gD v3 v1)]),iI (gD v3 v1),iI v4]) [] [] [cw Tryz.prog 15 Tryz.f70 (pn 6) 9] (aF (vz 2) (bt (cc (ab .i64) (ab .i64) h1 (fun _=>rfl) (fun _=>rfl)) (aF (vz 3) (bt (cc (ab .i64) (ab .i64) h2 (fun _=>rfl) (fun _=>rfl)) (aF [.v 0 1] (aC (cM 0 1 14 (JS hK h3)) (aC (cG 0) cp))))))) (aW 1 ?_);cases h;exact bW
end
noncomputable section
variable(M:Nat→Prop)(w0:aJ)(r:List Int)(v1:Int)(v2:List Int)(v3:Int)(v4 v5 v6:(List Int))(v8 v9 v14 v15:Int)(v16 v17 v18 v26:(List Int))(v27 v28:Int)(v29:List Int)(m1 m2 m3:Nat)(L1:Int→Int→Option (List Int))(L2:Int→Int→(List Int)→(List Int)→(List Int)→Option (List Int))(L3:(List Int)→Int→Int→(List Int)→Option (List Int))
abbrev pm:Cx:=⟨Tryz.prog,96,M,w0⟩
abbrev nq:=bodyPost Tryz.prog Tryz.f44 (bX M w0 (fun v s=>v=.ref 21∧look 21 s.r=some ⟨3,1,lm (ab .i64) r⟩))
abbrev GR(ks:List ao)(s:AS):=VE (pm M w0) (nq M w0 r) ks .normal s
abbrev gK(n:Nat):ao:=.c (cat Tryz.f44 (pn n))
abbrev E7:List ao:=[.b 4,gK 8191]
abbrev UD:List ao:=kl (pm M w0) (nq M w0 r) E7 (cat Tryz.f44 (pn 65524)) m3::E7
abbrev Fg:List ao:=[.b 2,gK 2047]
abbrev PZ:List ao:=kl (pm M w0) (nq M w0 r) Fg (cat Tryz.f44 (pn 16372)) m2::Fg
abbrev GM:List ao:=[.b 0,gK 255]
abbrev acJ:List ao:=kl (pm M w0) (nq M w0 r) GM (cat Tryz.f44 (pn 2036)) m1::GM
def PT:AS:=⟨[(5,.ref 21),(82,.sl (lm (ab .i64) v26)),(83,iI v27),(84,iI v28)],[],[(21,⟨3,1,lm (ab .i64) v29⟩)],[21]⟩
def NM:AS:=⟨[(0,iI v3),(5,.ref 21),(6,.ptr 6 0),(7,.ref 27),(8,iI v8),(11,iI v14),(43,.sl (lm (ab .i64) v2)),(44,iI (v2.length:Int)),(45,iI v15)],[(6,[.ref 24])],[(21,⟨3,1,lm (ab .i64) v16⟩),(24,⟨3,1,lm (ab .i64) v17⟩),(27,⟨3,1,lm (ab .i64) v18⟩)],[6,21,24,27]⟩
def Hg:AS:=⟨[(0,iI v3),(1,.sl (lm (ab .i64) v2)),(5,.ref 21),(6,.ptr 6 0),(7,.ref 27),(8,iI v8),(28,.sl (lm (ab .i64) v2)),(29,iI (v2.length:Int)),(30,iI v9)],[(6,[.ref 24])],[(21,⟨3,1,lm (ab .i64) v4⟩),(24,⟨3,1,lm (ab .i64) v5⟩),(27,⟨3,1,lm (ab .i64) v6⟩)],[6,21,24,27]⟩
abbrev JP:Prop:=∀{v8:Int} {v9:Int},L1 v8 v9=some r→LP (pm M w0) (nq M w0 r) GM (cat Tryz.f44 (pn 2036)) m1 (Hg v2 v3 v4 v5 v6 v8 v9)
abbrev OH:Prop:=∀{v14:Int} {v15:Int} {v16:(List Int)} {v17:(List Int)} {v18:(List Int)},L2 v14 v15 v16 v17 v18=some r→LP (pm M w0) (nq M w0 r) Fg (cat Tryz.f44 (pn 16372)) m2 (NM v2 v3 v8 v14 v15 v16 v17 v18)
abbrev O7:Prop:=∀{v26:(List Int)} {v27:Int} {v28:Int} {v29:(List Int)},L3 v26 v27 v28 v29=some r→LP (pm M w0) (nq M w0 r) E7 (cat Tryz.f44 (pn 65524)) m3 (PT v26 v27 v28 v29)
variable{M w0 r v1 v2 v3 v4 v5 v6 v8 v9 v14 v15 v16 v17 v18 v26 v27 v28 v29 m1 m2 m3 L1 L2 L3}{K:Kn}{n:Nat}
theorem acm(hK:am K)(hL3:O7 M w0 r m3 L3)(h:tN K n L3 v26 v27 v28 v29=some r):GR M w0 r (gK 65524::UD M w0 r m3) (PT v26 v27 v28 v29):=by
 unfold tN at h;refine ax 6 7 3 ?_;obtain⟨h46,h⟩|⟨h46,h⟩:=av h
 ·refine ak 85 h46 (cF 8 9 5 3 5 (ai 0 ?_));obtain⟨h47,h⟩:=aw h;refine ap (cc (ab .i64) (ab .i64) h47 (fun _=>rfl) (fun _=>rfl)) (ae (ai 2 ?_));obtain⟨h48,h⟩:=aw h;refine ap (bZ 21 1 (ab .i64) h48) (ap (bE 3 0 (ab .i64) (ab .i64) (aR h48).2 (fun _=>rfl)) (br 5 1 ?_));obtain⟨h49,h⟩:=aw h;exact ap (bZ 21 1 (ab .i64) h49) (ap (du 21 3 1 0 (ab .i64) (ab .i64) (aa ((gD v29 ((gD v26 v28)))+1)) (aR h49).2 (fun _=>rfl)) (ae (aj 2 (bd (hL3 h)))))
 ·refine ak 85 h46 (aW 8 ?_);cases h;exact d9
theorem VJ(hK:am K)(m:Nat):O7 M w0 r m (o5 K n m):=by
 induction m with
 | zero=>intro v26 v27 v28 v29 h;cases h
 | succ m ih=>intro v26 v27 v28 v29 h;have h:tN K n (o5 K n m) v26 v27 v28 v29=some r:=h;exact aU (acm hK ih h)
theorem Yv(hK:am K)(hL2:OH M w0 r v2 v3 v8 m2 L2)(h:vi K n v2 v3 v8 L2 v14 v15 v16 v17 v18=some r):GR M w0 r (gK 16372::PZ M w0 r m2) (NM v2 v3 v8 v14 v15 v16 v17 v18):=by
 unfold vi at h;refine ax 6 7 3 ?_;obtain⟨h26,h⟩|⟨h26,h⟩:=av h
 ·refine ak 46 h26 (cF 8 9 3 3 5 (ai 1 ?_));obtain⟨h27,h⟩:=aw h;refine ap (cc (ab .i64) (ab .i64) h27 (fun _=>rfl) (fun _=>rfl)) (ae (ax 2 3 1 (ai 2 ?_)));obtain⟨v19,h28,h⟩:=bind_some h;refine aK (Cs hK h28) (ae (ax 2 3 1 (bI [0,5,6,7,8,11,12,14,43,44,45] [6] [21,24,27] ?_)));obtain⟨h29,h⟩:=aw h;obtain⟨h30,h⟩:=aw h;obtain⟨h31,h⟩:=aw h;obtain⟨h32,h⟩:=aw h;obtain⟨h33,h⟩:=aw h;refine co 3 (nu 54 [.ref 21,iI v15,.ref 24,iI v15,.ref 27,iI v15,iI (aa (v3*v19)),iI v8,iI (aa (Int.tdiv (aa (v3*v19)) v8)),iI (aa (v3*v19)),iI v8,iI (Int.tmod (aa (v3*v19)) v8),iI v15,.eptr 21 1 (v15.toNat) 0,.eptr 24 1 (v15.toNat) 0,.eptr 27 1 (v15.toNat) 0]) [] [] [cD 21 ⟨3,1,lm (ab .i64) (List.set v16 v15.toNat (aa (Int.tdiv (aa (v3*v19)) v8)))⟩,cD 24 ⟨3,1,lm (ab .i64) (List.set v17 v15.toNat (Int.tmod (aa (v3*v19)) v8))⟩,cD 27 ⟨3,1,lm (ab .i64) (List.set v18 v15.toNat v15)⟩] (aF [.v 0 1,.v 0 1,.v 0 2,.v 0 2,.v 0 3,.v 0 3,.v 0 1,.v 0 1] (bt (MF .i64 (aa (v3*v19)) h29) (aF [.v 0 2,.v 0 2] (aC (d4 (lo:=0) (k:=2) (cy ⟨(by kernel_rfl),(cE (Ex .i64 (aa (v3*v19)) h30) (by kernel_rfl))⟩ (cy ⟨(by kernel_rfl),(cE (Ex .i64 (aa (v3*v19)) h30) (by kernel_rfl))⟩ d8))) (aF [.v 0 3] (bt (bT 21 1 (ab .i64) (L:=v16) h31) (aC (c7 (m:=0) (du 21 3 1 0 (ab .i64) (ab .i64) (aa (Int.tdiv (aa (v3*v19)) v8)) (aR h31).2 (fun _=>rfl))) (aC (nc (lo:=1) (bT 24 1 (ab .i64) (L:=v17) h32)) (aC (c7 (m:=1) (du 24 3 1 0 (ab .i64) (ab .i64) (Int.tmod (aa (v3*v19)) v8) (aR h32).2 (fun _=>rfl))) (aC (nc (lo:=2) (bT 27 1 (ab .i64) (L:=v18) h33)) (aC (c7 (m:=2) (du 27 3 1 0 (ab .i64) (ab .i64) v15 (aR h33).2 (fun _=>rfl))) cp))))))))))) ?_
  obtain⟨v20,h34,h⟩:=cf h;obtain⟨v21,h35,h⟩:=cf h;refine bq (ks':=gK 2095719 :: .b 3::gK 130983::PZ M w0 r m2) 0 ⟨[(0,iI v3),(5,.ref 21),(6,.ptr 6 0),(7,.ref 27),(8,iI v8),(11,iI v14),(12,iI v15),(43,.sl (lm (ab .i64) v2)),(44,iI (v2.length:Int)),(45,iI v15)],[(6,[.ref 24])],[(21,⟨3,1,lm (ab .i64) v20⟩),(24,⟨3,1,lm (ab .i64) v21⟩),(27,⟨3,1,lm (ab .i64) (List.set v18 v15.toNat v15)⟩)],[6,21,24,27]⟩ ?_ (by subst h35;subst h34;kernel_rfl);refine ai 3 ?_;obtain⟨h36,h⟩:=aw h;exact ap (bZ 21 1 (ab .i64) h36) (ap (bE 3 0 (ab .i64) (ab .i64) (aR h36).2 (fun _=>rfl)) (ae (aj 2 (bd (hL2 h)))))
 ·refine ak 46 h26 (eG 2 3 6 (ai 1 (eO 24 (uX 6 6 ([.sl (lm (ab .i64) v17)]) (Bn 70 #[(.tmp 6)] [.cptr ([.sl (lm (ab .i64) v17)])] ?_)))));obtain⟨v22,h37,h⟩:=bind_some h;refine iu 27 0 (Im hK h37) (ae (cm 4 5 3 2 (ai 2 (eO 27 ?_))));obtain⟨h38,h⟩:=aw h;exact ap (zo (ab .i64) v22 (0:Int) v14 64 (.tmp 80) none (some (.tmp 81)) 82 (e:=3) (sz:=1) (by kernel_rfl) (by kernel_rfl) (by kernel_rfl) (by kernel_rfl) (by kernel_rfl) (by kernel_rfl) (fun _=>rfl) (fun k hk=>by subst hk;kernel_rfl) h38) (ap (bK (ab .i64) (List.drop ((0:Int)).toNat (List.take v14.toNat v22))) (ae (aj 1 (bP (p:=pn 32762) n (VJ hK n h)))))
theorem SC(hK:am K)(m:Nat):OH M w0 r v2 v3 v8 m (ny K n v2 v3 v8 m):=by
 induction m with
 | zero=>intro v14 v15 v16 v17 v18 h;cases h
 | succ m ih=>intro v14 v15 v16 v17 v18 h;have h:vi K n v2 v3 v8 (ny K n v2 v3 v8 m) v14 v15 v16 v17 v18=some r:=h;exact aU (Yv hK ih h)
theorem Xe(hK:am K)(hL1:JP M w0 r v2 v3 v4 v5 v6 m1 L1)(h:uo K n v2 v3 v4 v5 v6 L1 v8 v9=some r):GR M w0 r (gK 2036::acJ M w0 r m1) (Hg v2 v3 v4 v5 v6 v8 v9):=by
 unfold uo at h;refine ax 6 7 3 ?_;obtain⟨h11,h⟩|⟨h11,h⟩:=av h
 ·refine ak 31 h11 (cF 8 9 1 3 5 (ai 0 ?_));obtain⟨h12,h⟩:=aw h;refine ap (cc (ab .i64) (ab .i64) h12 (fun _=>rfl) (fun _=>rfl)) (ae (ai 2 ?_));obtain⟨v10,h13,h⟩:=bind_some h;exact aK (Cs hK h13) (ae (aj 2 (bd (hL1 h))))
 ·refine ak 31 h11 (eG 5 3 8 ?_);obtain⟨h14,h⟩|⟨h14,h⟩:=av h
  ·refine ak 40 h14 (aW 5 ?_);cases h;exact d9
  ·exact ak 40 h14 (py 12 13 7 6 (ai 1 (ap (bK (ab .i64) v2) (ae (aj 1 (bP (p:=pn 8186) n (SC hK n h)))))))
theorem Td(hK:am K)(m:Nat):JP M w0 r v2 v3 v4 v5 v6 m (rn K n v2 v3 v4 v5 v6 m):=by
 induction m with
 | zero=>intro v8 v9 h;cases h
 | succ m ih=>intro v8 v9 h;have h:uo K n v2 v3 v4 v5 v6 (rn K n v2 v3 v4 v5 v6 m) v8 v9=some r:=h;exact aU (Xe hK ih h)
theorem LW(hK:am K)(h:rf K n v1 v2=some r):aQ Tryz.prog 44 [iI v1,.sl (lm (ab .i64) v2)] (fun v s=>v=.ref 21∧look 21 s.r=some ⟨3,1,lm (ab .i64) r⟩):=by
 refine bF (cat Tryz.f44 (pn 1)) Tryz.func44 Tryz.ntmps44 fun M w0=>(bx ⟨[(0,iI v1),(1,.sl (lm (ab .i64) v2))],[],[],[]⟩ ?_);unfold rf at h;refine ax 6 7 3 (ai 1 ?_);obtain⟨v3,h1,h⟩:=bind_some h;refine aK (Cs hK h1) (ae (ax 2 3 1 (ai 1 (ap (bK (ab .i64) v2) ?_))));obtain⟨h2,h⟩:=aw h;refine ii (ab .i64) (0:Int) 64 (.tmp 20) (.tmp 20) 21 (e:=3) (sz:=1) (zc:=[iI 0]) (kd:=.i64) (kd':=.i64) h2 (ae ?_);obtain⟨v4,h3,h⟩:=cf h;refine bq (ks':=[gK 30,gK 31]) 1 ⟨[(0,iI v3),(1,.sl (lm (ab .i64) v2)),(5,.ref 21)],[],[(21,⟨3,1,lm (ab .i64) v4⟩)],[21]⟩ ?_ (by subst h3;kernel_rfl);refine ai 1 (ap (bK (ab .i64) v2) ?_);obtain⟨h4,h⟩:=aw h;refine ii (ab .i64) (0:Int) 64 (.tmp 23) (.tmp 23) 24 (e:=3) (sz:=1) (zc:=[iI 0]) (kd:=.i64) (kd':=.i64) h4 (ae ?_);obtain⟨v5,h5,h⟩:=cf h;refine bq (ks':=[gK 62,gK 63]) 1 ⟨[(0,iI v3),(1,.sl (lm (ab .i64) v2)),(5,.ref 21),(6,.ptr 6 0)],[(6,[.ref 24])],[(21,⟨3,1,lm (ab .i64) v4⟩),(24,⟨3,1,lm (ab .i64) v5⟩)],[6,21,24]⟩ ?_ (by subst h5;kernel_rfl)
 refine ai 1 (ap (bK (ab .i64) v2) ?_);obtain⟨h6,h⟩:=aw h;refine ii (ab .i64) (0:Int) 64 (.tmp 26) (.tmp 26) 27 (e:=3) (sz:=1) (zc:=[iI 0]) (kd:=.i64) (kd':=.i64) h6 (ae ?_);obtain⟨v6,h7,h⟩:=cf h;refine bq (ks':=[gK 508,gK 509,gK 255]) 4 ⟨[(0,iI v3),(1,.sl (lm (ab .i64) v2)),(5,.ref 21),(6,.ptr 6 0),(7,.ref 27),(8,iI 0)],[(6,[.ref 24])],[(21,⟨3,1,lm (ab .i64) v4⟩),(24,⟨3,1,lm (ab .i64) v5⟩),(27,⟨3,1,lm (ab .i64) v6⟩)],[6,21,24,27]⟩ ?_ (by subst h7;kernel_rfl);exact ai 1 (ap (bK (ab .i64) v2) (ae (aj 1 (bP (p:=pn 1018) n (Td hK n h)))))
end
noncomputable section
variable(M:Nat→Prop)(w0:aJ)(r:Int)(v1:List Int)(v2:Fv)(v4:Int)(m1:Nat)(L1:Int→Option Int)
abbrev EP:Cx:=⟨Tryz.prog,19,M,w0⟩
abbrev FE:=bodyPost Tryz.prog Tryz.f89 (bX M w0 (fun v _=>v=iI r))
abbrev SJ(ks:List ao)(s:AS):=VE (EP M w0) (FE M w0 r) ks .normal s
abbrev Ot(n:Nat):ao:=.c (cat Tryz.f89 (pn n))
abbrev BX:List ao:=[.b 0,Ot 7]
abbrev QV:List ao:=kl (EP M w0) (FE M w0 r) BX (cat Tryz.f89 (pn 52)) m1::BX
def G7:AS:=⟨[(0,.sl (lm (ab .i64) v1)),(1,.fn v2.id v2.aN),(7,iI (v1.length:Int)),(8,iI v4)],[],[],[]⟩
abbrev Hd:Prop:=∀{v4:Int},L1 v4=some r→LP (EP M w0) (FE M w0 r) BX (cat Tryz.f89 (pn 52)) m1 (G7 v1 v2 v4)
variable{M w0 r v1 v2 v4 m1 L1}{K:Kn}{n:Nat}
theorem adD(hK:am K)(hL1:Hd M w0 r v1 v2 m1 L1)(h:um K n v1 v2 L1 v4=some r):SJ M w0 r (Ot 52::QV M w0 r m1) (G7 v1 v2 v4):=by
 unfold um at h;refine ax 6 7 3 ?_;obtain⟨h5,h⟩|⟨h5,h⟩:=av h
 ·refine ak 9 h5 (cF 18 19 1 3 7 (ai 3 ?_));obtain⟨h6,h⟩:=aw h;refine ap (cc (ab .i64) (ab .i64) h6 (fun _=>rfl) (fun _=>rfl)) (br 5 1 ?_);obtain⟨v5,h7,h⟩:=bind_some h;refine oy (hK.vo h7) (ae ?_);obtain⟨h8,h⟩|⟨h8,h⟩:=av h
  ·refine ak 16 h8 (aW 9 ?_);cases h;exact bW
  ·exact ak 16 h8 (aj 4 (bd (hL1 h)))
 ·refine ak 9 h5 (aW 8 ?_);cases h;exact bW
theorem P6(hK:am K)(m:Nat):Hd M w0 r v1 v2 m (qr K n v1 v2 m):=by
 induction m with
 | zero=>intro v4 h;cases h
 | succ m ih=>intro v4 h;have h:um K n v1 v2 (qr K n v1 v2 m) v4=some r:=h;exact aU (adD hK ih h)
theorem Wm(hK:am K)(h:yS K n v1 v2=some r):aQ Tryz.prog 89 [.sl (lm (ab .i64) v1),.fn v2.id v2.aN] (fun v _=>v=iI r):=by
 refine bF (cat Tryz.f89 (pn 1)) Tryz.func89 Tryz.ntmps89 fun M w0=>(bx ⟨[(0,.sl (lm (ab .i64) v1)),(1,.fn v2.id v2.aN)],[],[],[]⟩ ?_);unfold yS at h;exact cm 12 13 7 4 (ai 1 (ap (bK (ab .i64) v1) (ae (aj 1 (bP (p:=pn 26) n (P6 hK n h))))))
end
noncomputable section
variable(M:Nat→Prop)(w0:aJ)(r:Bool)(v1:List Int)(v2:Fv)  
variable{M w0 r v1 v2}{K:Kn}{n:Nat}
theorem Un(hK:am K)(h:tF K n v1 v2=some r):aQ Tryz.prog 72 [.sl (lm (ab .i64) v1),.fn v2.id v2.aN] (fun v _=>v=.bool r):=by
 refine bF (cat Tryz.f72 (pn 1)) Tryz.func72 Tryz.ntmps72 fun M w0=>(bx ⟨[(0,.sl (lm (ab .i64) v1)),(1,.fn v2.id v2.aN)],[],[],[]⟩ ?_);unfold tF at h;refine ax 6 7 3 (ai 2 ?_);obtain⟨v3,h1,h⟩:=bind_some h;refine aK (Wm hK h1) (ae (aW 1 ?_));cases h;exact bW
end
noncomputable section
variable(M:Nat→Prop)(w0:aJ)(r:Int×Int)(v1 v2:Int)  
variable{M w0 r v1 v2}{K:Kn}{n:Nat}
theorem aaB(hK:am K)(h:Br K n v1 v2=some r):aQ Tryz.prog 104 [.int .u64 v1,.int .u64 v2] (fun v _=>v=.tup [.int .u64 r.1,.int .u64 r.2]):=by
 refine bF (cat Tryz.f104 (pn 1)) Tryz.func104 Tryz.ntmps104 fun M w0=>(bx ⟨[(0,.int .u64 v1),(1,.int .u64 v2)],[],[],[]⟩ ?_);unfold Br at h;refine aW 25 ?_;cases h;exact eu
end
noncomputable section
variable(M:Nat→Prop)(w0:aJ)(r:Int×Int)(v1 v2:Int)  
variable{M w0 r v1 v2}{K:Kn}{n:Nat}
theorem Sf(hK:am K)(h:tz K n v1 v2=some r):aQ Tryz.prog 90 [.int .u64 v1,.int .u64 v2] (fun v _=>v=.tup [.int .u64 r.1,.int .u64 r.2]):=by
 refine bF (cat Tryz.f90 (pn 1)) Tryz.func90 Tryz.ntmps90 fun M w0=>(bx ⟨[(0,.int .u64 v1),(1,.int .u64 v2)],[],[],[]⟩ ?_);unfold tz at h;refine ax 14 15 6 (ai 2 ?_);obtain⟨v3,h1,h⟩:=bind_some h;refine aK (aaB hK h1) (ae (aW 3 ?_));cases h;exact eu
end
noncomputable section
variable(M:Nat→Prop)(w0:aJ)(r v1:List Int)(v2:Int)(v3:Int×Int)(v4:Bool)(v7:Int)(v8:List Int)(m1:Nat)(L1:Int→(List Int)→Option (List Int))
abbrev EC:Cx:=⟨Tryz.prog,48,M,w0⟩
abbrev FA:=bodyPost Tryz.prog Tryz.f74 (bX M w0 (fun v s=>v=.ref 30∧look 30 s.r=some ⟨3,1,lm (ab .i64) r⟩))
abbrev Ix(ks:List ao)(s:AS):=VE (EC M w0) (FA M w0 r) ks .normal s
abbrev oT(n:Nat):ao:=.c (cat Tryz.f74 (pn n))
abbrev Fi:List ao:=[.b 0,oT 255]
abbrev G4:List ao:=kl (EC M w0) (FA M w0 r) Fi (cat Tryz.f74 (pn 1016)) m1::Fi
def Ip:AS:=⟨[(7,.ref 30),(8,iI v7)],[],[(30,⟨3,1,lm (ab .i64) v8⟩)],[30]⟩
def ZT:AS:=⟨[(0,.sl (lm (ab .i64) v1)),(6,.int .u64 v3.2),(26,.bool v4)],[],[],[]⟩
abbrev KD:Prop:=∀{v7:Int} {v8:(List Int)},L1 v7 v8=some r→LP (EC M w0) (FA M w0 r) Fi (cat Tryz.f74 (pn 1016)) m1 (Ip v7 v8)
variable{M w0 r v1 v2 v3 v4 v7 v8 m1 L1}{K:Kn}{n:Nat}
theorem W9(hK:am K)(hL1:KD M w0 r m1 L1)(h:uC K n L1 v7 v8=some r):Ix M w0 r (oT 1016::G4 M w0 r m1) (Ip v7 v8):=by
 unfold uC at h;refine cm 4 5 3 2 (ai 2 (ap (bK (ab .i64) v8) (ae ?_)));obtain⟨h13,h⟩|⟨h13,h⟩:=av h
 ·refine ak 37 h13 (df (ks':=oT 4066 :: .b 1::G4 M w0 r m1) 3 (bI [7,8] [] [30] ?_));obtain⟨h14,h⟩:=aw h;obtain⟨h15,h⟩:=aw h;obtain⟨h16,h⟩:=aw h;exact co 2 (nu 38 [iI v7,.ref 30,iI v7,.sref 30 1 (v7.toNat) (((v8.length:Int)).toNat-v7.toNat),.ref 30,iI v7,.sref 30 1 ((0:Int).toNat) (v7.toNat-(0:Int).toNat)]++nu 46 [iI (aa (v7+((min (v7.toNat-(0:Int).toNat) (((v8.length:Int)).toNat-v7.toNat):Nat):Int)))]) [] [] [Sy 30 (some 45) ⟨3,1,lm (ab .i64) (fq v8 (v7.toNat) (((v8.length:Int)).toNat-v7.toNat) v8 ((0:Int).toNat) (v7.toNat-(0:Int).toNat))⟩ (iI ((min (v7.toNat-(0:Int).toNat) (((v8.length:Int)).toNat-v7.toNat):Nat):Int)),cw Tryz.prog 48 Tryz.f74 (pn 4066) 9] (aF [.v 0 2,.v 0 2,.v 0 2] (bt (za (ab .i64) v8 v7 (v8.length:Int) 64 (.tmp 39) (some (.tmp 40)) none 41 (id:=30) (e:=3) (sz:=1) (et:=3) (by kernel_rfl) (by kernel_rfl) (by kernel_rfl) (by kernel_rfl) (by kernel_rfl) (by kernel_rfl) (by kernel_rfl) (fun k hk=>by subst hk;kernel_rfl) h14) (aF [.v 0 2,.v 0 2] (bt (za (ab .i64) v8 (0:Int) v7 64 (.tmp 42) none (some (.tmp 43)) 44 (id:=30) (e:=3) (sz:=1) (et:=3) (by kernel_rfl) (by kernel_rfl) (by kernel_rfl) (by kernel_rfl) (by kernel_rfl) (by kernel_rfl) (by kernel_rfl) (fun k hk=>by subst hk;kernel_rfl) h15) (aC (c7 (m:=0) (PJ (ab .i64) 30 3 (L:=v8) (S:=v8) (od:=(some (v7.toNat,(((v8.length:Int)).toNat-v7.toNat)))) (os:=(some ((0:Int).toNat,(v7.toNat-(0:Int).toNat)))) (v7.toNat) (((v8.length:Int)).toNat-v7.toNat) ((0:Int).toNat) (v7.toNat-(0:Int).toNat) (fun _=>rfl) h16)) (aF [.v 1 1] (aC (cG 1) cp))))))) (aj 1 (bd (hL1 h)))
 ·refine ak 37 h13 (aW 8 ?_);cases h;exact d9
theorem aba(hK:am K)(m:Nat):KD M w0 r m (sJ K n m):=by
 induction m with
 | zero=>intro v7 v8 h;cases h
 | succ m ih=>intro v7 v8 h;have h:uC K n (sJ K n m) v7 v8=some r:=h;exact aU (W9 hK ih h)
theorem Kt(hK:am K)(h:yc K n v1 v3 v4=some r):Ix M w0 r [oT 61,oT 31] (ZT v1 v3 v4):=by
 unfold yc at h;obtain⟨h4,h⟩|⟨h4,h⟩:=av h
 ·refine ak 26 h4 ?_;cases h
 ·refine ak 26 h4 (fu 2 3 3 (ai 2 ?_));obtain⟨h5,h⟩:=aw h;refine ii (ab .i64) (0:Int) 64 (.tmp 29) (.tmp 29) 30 (e:=3) (sz:=1) (zc:=[iI 0]) (kd:=.i64) (kd':=.i64) h5 (ae ?_);obtain⟨v5,h6,h⟩:=cf h;refine bq (ks':=[oT 126,oT 127]) 1 ⟨[(0,.sl (lm (ab .i64) v1)),(7,.ref 30)],[],[(30,⟨3,1,lm (ab .i64) v5⟩)],[30]⟩ ?_ (by subst h6;kernel_rfl);refine ai 2 ?_;obtain⟨h7,h⟩:=aw h;exact ap (PJ (ab .i64) 30 3 (L:=v5) (S:=v1) (od:=none) (os:=none) 0 v5.length 0 v1.length (fun _=>rfl) h7) (ae (aj 2 (bP (p:=pn 508) n (aba hK n h))))
theorem abo(hK:am K)(h:xJ K n v1 v2=some r):aQ Tryz.prog 74 [.sl (lm (ab .i64) v1),iI v2] (fun v s=>v=.ref 30∧look 30 s.r=some ⟨3,1,lm (ab .i64) r⟩):=by
 refine bF (cat Tryz.f74 (pn 1)) Tryz.func74 Tryz.ntmps74 fun M w0=>(bx ⟨[(0,.sl (lm (ab .i64) v1)),(1,iI v2)],[],[],[]⟩ ?_);unfold xJ at h;refine ax 13 7 5 ?_;obtain⟨h1,h⟩|⟨h1,h⟩:=av h
 ·refine ak 10 h1 ?_;cases h
 ·refine ak 10 h1 (fu 2 3 3 (ai 1 (ap (bK (ab .i64) v1) (br 5 3 ?_))));obtain⟨v3,h2,h⟩:=bind_some h;refine aK (Sf hK h2) (ae (cm 4 5 3 2 (ai 3 ?_)));obtain⟨h3,h⟩|⟨h3,h⟩:=av h
  ·exact aY 23 h3 (ae (aj 0 (Kt hK h)))
  ·exact aY 23 h3 (ae (aj 0 (Kt hK h)))
end
noncomputable section
variable(M:Nat→Prop)(w0:aJ)(r:List Int)(v1:Int)(v2 v5:(List Int))  
abbrev abS(n:Nat):ao:=.c (cat Tryz.f45 (pn n))
abbrev TJ:Cx:=⟨Tryz.prog,15,M,w0⟩
abbrev q45:=bodyPost Tryz.prog Tryz.f45 (bX M w0 (fun v s=>v=.ref 1014∧look 1014 s.r=some ⟨3,1,lm (ab .i64) r⟩))
abbrev Sc(ks:List ao)(s:AS):=VE (TJ M w0) (q45 M w0 r) ks .normal s
def aaU:AS:=⟨[(0,iI v1),(1,.sl (lm (ab .i64) v5))],[],[],[]⟩
variable{M w0 r v1 v2 v5}{K:Kn}{n:Nat}
theorem OJ(hK:am K)(h:xW K n v1 v5=some r):Sc M w0 r [abS 7] (aaU v1 v5):=by
 unfold xW at h;refine ax 2 3 1 (ai 2 ?_);obtain⟨v6,h4,h⟩:=bind_some h;refine d5 1014 (LW hK h4) (fQ 21) (ae (aW 1 ?_));cases h;exact d9
theorem EJ(hK:am K)(h:mZ K n v1 v2=some r):aQ Tryz.prog 45 [iI v1,.sl (lm (ab .i64) v2)] (fun v s=>v=.ref 1014∧look 1014 s.r=some ⟨3,1,lm (ab .i64) r⟩):=by
 refine bF (cat Tryz.f45 (pn 1)) Tryz.func45 Tryz.ntmps45 fun M w0=>(bx ⟨[(0,iI v1),(1,.sl (lm (ab .i64) v2))],[],[],[]⟩ ?_);unfold mZ at h;refine cm 12 13 7 4 (ai 1 ?_);obtain⟨v3,h1,h⟩:=bind_some h;refine aK (Un hK h1) (ae ?_);obtain⟨h2,h⟩|⟨h2,h⟩:=av h
 ·refine ak 7 h2 (ce 2 1 (ai 2 (ap (bK (ab .i64) v2) ?_)));obtain⟨v4,h3,h⟩:=bind_some h;exact d5 1011 (abo hK h3) (fQ 30) (ae (ku 1011 (aj 0 (OJ hK h))))
 ·exact ak 7 h2 (aj 2 (OJ hK h))
end
noncomputable section
variable(M:Nat→Prop)(w0:aJ)(r:List Int)(v1:List aq)(v2 v11 v12 v13:Int)(v14 v15 v16 v26 v27:(List Int))(v28:Int)(v29:List Int)(m1 m2:Nat)(L1:Int→Int→Int→(List Int)→(List Int)→(List Int)→Option (List Int))(L2:Int→(List Int)→Option (List Int))
abbrev vG:Cx:=⟨Tryz.prog,111,M,w0⟩
abbrev w5:=bodyPost Tryz.prog Tryz.f13 (bX M w0 (fun v s=>v=.ref 17∧look 17 s.r=some ⟨3,1,lm (ab .i64) r⟩))
abbrev Dj(ks:List ao)(s:AS):=VE (vG M w0) (w5 M w0 r) ks .normal s
abbrev fk(n:Nat):ao:=.c (cat Tryz.f13 (pn n))
abbrev Eo:List ao:=[.b 3,fk 1023]
abbrev acf:List ao:=kl (vG M w0) (w5 M w0 r) Eo (cat Tryz.f13 (pn 8180)) m2::Eo
abbrev E4:List ao:=[.b 0,fk 127]
abbrev Ab:List ao:=kl (vG M w0) (w5 M w0 r) E4 (cat Tryz.f13 (pn 1012)) m1::E4
def Kc:AS:=⟨[(5,.ref 17),(95,.ref 1094),(96,iI (v27.length:Int)),(97,iI v28)],[],[(17,⟨3,1,lm (ab .i64) v29⟩),(1094,⟨3,1,lm (ab .i64) v27⟩)],[17,1094]⟩
def YN:AS:=⟨[(5,.ref 17),(12,.ref 1094)],[],[(17,⟨3,1,lm (ab .i64) v26⟩),(1094,⟨3,1,lm (ab .i64) v27⟩)],[17,1094]⟩
def KC:AS:=⟨[(1,iI v2),(5,.ref 17),(6,.ref 20),(7,.ref 23),(8,iI v11),(9,iI v12),(24,.sl (lm aL v1)),(25,iI (v1.length:Int)),(26,iI v13)],[],[(17,⟨3,1,lm (ab .i64) v14⟩),(20,⟨3,1,lm (ab .i64) v15⟩),(23,⟨3,1,lm (ab .i64) v16⟩)],[17,20,23]⟩
abbrev Jn:Prop:=∀{v11:Int} {v12:Int} {v13:Int} {v14:(List Int)} {v15:(List Int)} {v16:(List Int)},L1 v11 v12 v13 v14 v15 v16=some r→LP (vG M w0) (w5 M w0 r) E4 (cat Tryz.f13 (pn 1012)) m1 (KC v1 v2 v11 v12 v13 v14 v15 v16)
abbrev LO:Prop:=∀{v28:Int} {v29:(List Int)},L2 v28 v29=some r→LP (vG M w0) (w5 M w0 r) Eo (cat Tryz.f13 (pn 8180)) m2 (Kc v27 v28 v29)
variable{M w0 r v1 v2 v11 v12 v13 v14 v15 v16 v26 v27 v28 v29 m1 m2 L1 L2}{K:Kn}{n:Nat}
theorem RW(hK:am K)(hL2:LO M w0 r v27 m2 L2)(h:u9 K n v27 L2 v28 v29=some r):Dj M w0 r (fk 8180::acf M w0 r m2) (Kc v27 v28 v29):=by
 unfold u9 at h;refine ax 6 7 3 ?_;obtain⟨h47,h⟩|⟨h47,h⟩:=av h
 ·refine ak 98 h47 (cF 8 9 4 3 5 (ai 1 ?_));obtain⟨h48,h⟩:=aw h;refine ap (bZ 1094 1 (ab .i64) h48) (ap (bE 3 0 (ab .i64) (ab .i64) (aR h48).2 (fun _=>rfl)) (ae (ai 2 ?_)));obtain⟨h49,h⟩:=aw h;refine ap (bZ 17 1 (ab .i64) h49) (ap (bE 3 0 (ab .i64) (ab .i64) (aR h49).2 (fun _=>rfl)) (br 6 2 ?_));obtain⟨h50,h⟩:=aw h;exact ap (bZ 17 1 (ab .i64) h50) (ap (du 17 3 1 0 (ab .i64) (ab .i64) (aa ((gD v29 v28)+(gD v27 v28))) (aR h50).2 (fun _=>rfl)) (ae (aj 2 (bd (hL2 h)))))
 ·refine ak 98 h47 (aW 8 ?_);cases h;exact d9
theorem Vu(hK:am K)(m:Nat):LO M w0 r v27 m (s7 K n v27 m):=by
 induction m with
 | zero=>intro v28 v29 h;cases h
 | succ m ih=>intro v28 v29 h;have h:u9 K n v27 (s7 K n v27 m) v28 v29=some r:=h;exact aU (RW hK ih h)
theorem Nt(hK:am K)(h:tY K n v26 v27=some r):Dj M w0 r [.b 2,fk 511] (YN v26 v27):=by
 unfold tY at h;exact py 4 5 3 3 (ai 1 (ap (bK (ab .i64) v27) (ae (aj 1 (bP (p:=pn 4090) n (Vu hK n h))))))
theorem ZW(hK:am K)(hL1:Jn M w0 r v1 v2 m1 L1)(h:vw K n v1 v2 L1 v11 v12 v13 v14 v15 v16=some r):Dj M w0 r (fk 1012::Ab M w0 r m1) (KC v1 v2 v11 v12 v13 v14 v15 v16):=by
 unfold vw at h;refine ax 6 7 3 ?_;obtain⟨h22,h⟩|⟨h22,h⟩:=av h
 ·refine ak 27 h22 (cF 8 9 1 3 5 (ai 1 ?_));obtain⟨h23,h⟩:=aw h;refine ap (cc aL aL h23 (gy) (fun _=>rfl)) (ae (ax 2 3 1 (ai 4 ?_)));obtain⟨v17,h24,h⟩:=bind_some h;refine aK (mo hK h24) ?_;obtain⟨h25,h⟩:=aw h;refine ap (bZ 17 1 (ab .i64) h25) (ap (du 17 3 1 0 (ab .i64) (ab .i64) v17 (aR h25).2 (fun _=>rfl)) (ae (ax 2 3 1 (bI [1,5,6,7,8,9,10,11,24,25,26] [11] [17,20,23] ?_))));obtain⟨v18,h26,h⟩:=bind_some h;obtain⟨h27,h⟩:=aw h;obtain⟨h28,h⟩:=aw h;refine co 1 (nu 37 [.ref 20,iI v13,.ptr 11 1,iI ((gD v1 v13).Most),iI v18,.ref 17,iI v13,.eptr 17 1 (v13.toNat) 0,iI (gD (List.set v14 v13.toNat v17) v13),iI (max v18 (gD (List.set v14 v13.toNat v17) v13)),.eptr 20 1 (v13.toNat) 0]) [] [] [cD 20 ⟨3,1,lm (ab .i64) (List.set v15 v13.toNat (max v18 (gD (List.set v14 v13.toNat v17) v13)))⟩] (aF (vz 4) (aC (cM 0 1 41 (mo hK h26)) (aF (vz 2) (bt (bT 17 1 (ab .i64) (L:=(List.set v14 v13.toNat v17)) h27) (bt (bE 3 0 (ab .i64) (ab .i64) (aR h27).2 (fun _=>rfl)) (aF [.v 0 1] (bt (bT 20 1 (ab .i64) (L:=v15) h28) (aC (c7 (m:=0) (du 20 3 1 0 (ab .i64) (ab .i64) (max v18 (gD (List.set v14 v13.toNat v17) v13)) (aR h28).2 (fun _=>rfl))) cp)))))))) ?_
  obtain⟨v19,h29,h⟩:=cf h;refine bq (ks':=fk 259278::fk 259279 :: .b 1::fk 8103::Ab M w0 r m1) 1 ⟨[(1,iI v2),(5,.ref 17),(6,.ref 20),(7,.ref 23),(8,iI v11),(9,iI v12),(10,iI v13),(24,.sl (lm aL v1)),(25,iI (v1.length:Int)),(26,iI v13)],[],[(17,⟨3,1,lm (ab .i64) (List.set v14 v13.toNat v17)⟩),(20,⟨3,1,lm (ab .i64) v19⟩),(23,⟨3,1,lm (ab .i64) v16⟩)],[17,20,23]⟩ ?_ (by subst h29;kernel_rfl);obtain⟨h30,h⟩:=aw h;obtain⟨h31,h⟩:=aw h;obtain⟨h32,h⟩:=aw h;refine co 1 (nu 48 [.ref 23,iI v13,.ref 20,iI v13,.eptr 20 1 (v13.toNat) 0,iI (gD v19 v13),.ref 17,iI v13,.eptr 17 1 (v13.toNat) 0,iI (gD (List.set v14 v13.toNat v17) v13),iI (aa ((gD v19 v13)-(gD (List.set v14 v13.toNat v17) v13))),.eptr 23 1 (v13.toNat) 0]) [] [] [cD 23 ⟨3,1,lm (ab .i64) (List.set v16 v13.toNat (aa ((gD v19 v13)-(gD (List.set v14 v13.toNat v17) v13))))⟩] (aF (vz 4) (bt (bT 20 1 (ab .i64) (L:=v19) h30) (bt (bE 3 0 (ab .i64) (ab .i64) (aR h30).2 (fun _=>rfl)) (aF (vz 2) (bt (bT 17 1 (ab .i64) (L:=(List.set v14 v13.toNat v17)) h31) (bt (bE 3 0 (ab .i64) (ab .i64) (aR h31).2 (fun _=>rfl)) (aF [.v 0 1] (bt (bT 23 1 (ab .i64) (L:=v16) h32) (aC (c7 (m:=0) (du 23 3 1 0 (ab .i64) (ab .i64) (aa ((gD v19 v13)-(gD (List.set v14 v13.toNat v17) v13))) (aR h32).2 (fun _=>rfl))) cp))))))))) ?_
  obtain⟨v20,h33,h⟩:=cf h;refine bq (ks':=fk 518558::fk 518559 :: .b 1::fk 8103::Ab M w0 r m1) 1 ⟨[(1,iI v2),(5,.ref 17),(6,.ref 20),(7,.ref 23),(8,iI v11),(9,iI v12),(10,iI v13),(24,.sl (lm aL v1)),(25,iI (v1.length:Int)),(26,iI v13)],[],[(17,⟨3,1,lm (ab .i64) (List.set v14 v13.toNat v17)⟩),(20,⟨3,1,lm (ab .i64) v19⟩),(23,⟨3,1,lm (ab .i64) v20⟩)],[17,20,23]⟩ ?_ (by subst h33;kernel_rfl);refine ai 3 ?_;obtain⟨h34,h⟩:=aw h;refine ap (bZ 17 1 (ab .i64) h34) (ap (bE 3 0 (ab .i64) (ab .i64) (aR h34).2 (fun _=>rfl)) (ae ?_));obtain⟨v21,h35,h⟩:=cf h;refine bq (ks':=fk 518559 :: .b 1::fk 8103::Ab M w0 r m1) 0 ⟨[(1,iI v2),(5,.ref 17),(6,.ref 20),(7,.ref 23),(8,iI v21),(9,iI v12),(10,iI v13),(24,.sl (lm aL v1)),(25,iI (v1.length:Int)),(26,iI v13)],[],[(17,⟨3,1,lm (ab .i64) (List.set v14 v13.toNat v17)⟩),(20,⟨3,1,lm (ab .i64) v19⟩),(23,⟨3,1,lm (ab .i64) v20⟩)],[17,20,23]⟩ ?_ (by subst h35;kernel_rfl)
  refine ai 3 ?_;obtain⟨h36,h⟩:=aw h;exact ap (bZ 20 1 (ab .i64) h36) (ap (bE 3 0 (ab .i64) (ab .i64) (aR h36).2 (fun _=>rfl)) (ae (aj 2 (bd (hL1 h)))))
 ·refine ak 27 h22 (df (ks':=[fk 2041,.b 2,fk 511]) 11 ?_);obtain⟨h37,h⟩|⟨h37,h⟩:=av h
  ·refine ak 80 h37 (aW 6 ?_);cases h;exact d9
  ·refine ak 80 h37 (ce 7 3 ?_);obtain⟨h38,h⟩|⟨h38,h⟩:=av h
   ·refine ak 85 h38 (ce 2 1 (ai 3 ?_));obtain⟨v22,h39,h⟩:=bind_some h;refine aK (mo hK h39) (br 5 1 ?_);obtain⟨v23,h40,h⟩:=bind_some h;exact zX 1094 (LW hK h40) (nk _ _ (l8 _)) (by kernel_rfl:je _ _=some (44,[iI v22,.sl (lm (ab .i64) v16)],[iI v22,.ref 23])) (vF (q:=[]) (by kernel_rfl) trivial) (ae (aj 0 (Nt hK h)))
   ·refine ak 85 h38 (ce 7 3 (ai 3 ?_));obtain⟨v24,h41,h⟩:=bind_some h;refine aK (mo hK h41) (br 5 1 ?_);obtain⟨v25,h42,h⟩:=bind_some h;exact zX 1079 (EJ hK h42) (nk _ _ (l8 _)) (by kernel_rfl:je _ _=some (45,[iI v24,.sl (lm (ab .i64) v15)],[iI v24,.ref 20])) (vF (q:=[]) (by kernel_rfl) trivial) (ae (bI [5,12] [] [20,1079] (Cq 20 17 (Cq 1079 1094 (aj 0 (Nt hK h))))))
theorem YK(hK:am K)(m:Nat):Jn M w0 r v1 v2 m (qU K n v1 v2 m):=by
 induction m with
 | zero=>intro v11 v12 v13 v14 v15 v16 h;cases h
 | succ m ih=>intro v11 v12 v13 v14 v15 v16 h;have h:vw K n v1 v2 (qU K n v1 v2 m) v11 v12 v13 v14 v15 v16=some r:=h;exact aU (ZW hK ih h)
theorem LL(hK:am K)(h:ri K n v1 v2=some r):aQ Tryz.prog 13 [.sl (lm aL v1),iI v2] (fun v s=>v=.ref 17∧look 17 s.r=some ⟨3,1,lm (ab .i64) r⟩):=by
 refine bF (cat Tryz.f13 (pn 1)) Tryz.func13 Tryz.ntmps13 fun M w0=>(bx ⟨[(0,.sl (lm aL v1)),(1,iI v2)],[],[],[]⟩ ?_);unfold ri at h;refine ax 6 7 3 (ai 1 (ap (bK aL v1) ?_));obtain⟨h1,h⟩:=aw h;refine ii (ab .i64) (0:Int) 64 (.tmp 16) (.tmp 16) 17 (e:=3) (sz:=1) (zc:=[iI 0]) (kd:=.i64) (kd':=.i64) h1 (ae ?_);obtain⟨v3,h2,h⟩:=cf h;refine bq (ks':=[fk 14,fk 15]) 1 ⟨[(0,.sl (lm aL v1)),(1,iI v2),(5,.ref 17)],[],[(17,⟨3,1,lm (ab .i64) v3⟩)],[17]⟩ ?_ (by subst h2;kernel_rfl);refine ai 1 (ap (bK aL v1) ?_);obtain⟨h3,h⟩:=aw h;refine ii (ab .i64) (0:Int) 64 (.tmp 19) (.tmp 19) 20 (e:=3) (sz:=1) (zc:=[iI 0]) (kd:=.i64) (kd':=.i64) h3 (ae ?_);obtain⟨v4,h4,h⟩:=cf h;refine bq (ks':=[fk 30,fk 31]) 1 ⟨[(0,.sl (lm aL v1)),(1,iI v2),(5,.ref 17),(6,.ref 20)],[],[(17,⟨3,1,lm (ab .i64) v3⟩),(20,⟨3,1,lm (ab .i64) v4⟩)],[17,20]⟩ ?_ (by subst h4;kernel_rfl);refine ai 1 (ap (bK aL v1) ?_);obtain⟨h5,h⟩:=aw h
 refine ii (ab .i64) (0:Int) 64 (.tmp 22) (.tmp 22) 23 (e:=3) (sz:=1) (zc:=[iI 0]) (kd:=.i64) (kd':=.i64) h5 (ae ?_);obtain⟨v5,h6,h⟩:=cf h;refine bq (ks':=[fk 252,fk 253,fk 127]) 4 ⟨[(0,.sl (lm aL v1)),(1,iI v2),(5,.ref 17),(6,.ref 20),(7,.ref 23),(8,iI 0),(9,iI 0)],[],[(17,⟨3,1,lm (ab .i64) v3⟩),(20,⟨3,1,lm (ab .i64) v4⟩),(23,⟨3,1,lm (ab .i64) v5⟩)],[17,20,23]⟩ ?_ (by subst h6;kernel_rfl);exact ai 1 (ap (bK aL v1) (ae (aj 1 (bP (p:=pn 506) n (YK hK n h)))))
end
noncomputable section
variable(M:Nat→Prop)(w0:aJ)(r v3:Bool)  
abbrev Ri(n:Nat):ao:=.c (cat Tryz.f4 (pn n))
abbrev Zq:Cx:=⟨Tryz.prog,58,M,w0⟩
abbrev q4:=bodyPost Tryz.prog Tryz.f4 (bX M w0 (fun v _=>v=.bool r))
abbrev Tw(ks:List ao)(s:AS):=VE (Zq M w0) (q4 M w0 r) ks .normal s
def aat:AS:=⟨[(0,.bool v3)],[],[],[]⟩
variable{M w0 r v3}{K:Kn}{n:Nat}
theorem n9(hK:am K)(h:kQ K n v3=some r):Tw M w0 r [Ri 31] (aat v3):=by
 unfold kQ at h;refine aW 1 ?_;cases h;exact bW
theorem Ve(hK:am K)(h:vY K n=some r):aQ Tryz.prog 4 [] (fun v _=>v=.bool r):=by
 refine bF (cat Tryz.f4 (pn 1)) Tryz.func4 Tryz.ntmps4 fun M w0=>(bx ⟨[],[],[],[]⟩ ?_);unfold vY at h;refine ax 6 7 3 (ai 6 ?_);obtain⟨v1,h1,h⟩:=bind_some h;refine d5 1011 (N2 hK h1) (A7 (i:=0) rfl) (ae (ax 2 3 1 (ai 3 ?_)));obtain⟨v2,h2,h⟩:=bind_some h;refine d5 1017 (LL hK h2) (fQ 17) (ae (ax 2 3 1 (ai 3 ?_)));obtain⟨h3,h⟩|⟨h3,h⟩:=av h
 ·refine aY 20 h3 (br 4 1 (ap (bK (bu aA) v1.1) (br 8 3 ?_)));obtain⟨h4,h⟩|⟨h4,h⟩:=av h
  ·refine aY 25 h4 (br 9 1 ?_);obtain⟨h5,h⟩:=aw h;refine ap (bZ 1011 1 (bu aA) h5) (ap (bE 44 0 (bu aA) (bu aA) (aR h5).2 (fun _=>rfl)) (ap (bK aA (gD v1.1 (1:Int))) (br 15 3 ?_)));obtain⟨h6,h⟩|⟨h6,h⟩:=av h
   ·refine aY 32 h6 (br 16 1 ?_);obtain⟨h7,h⟩:=aw h;refine ap (bZ 1011 1 (bu aA) h7) (ap (bE 44 0 (bu aA) (bu aA) (aR h7).2 (fun _=>rfl)) ?_);obtain⟨h8,h⟩:=aw h;refine ap (cc aA aA h8 (gO) (fun _=>rfl)) (br 24 5 ?_);obtain⟨h9,h⟩|⟨h9,h⟩:=av h
    ·refine aY 41 h9 (br 25 1 (ap (bK (ab .i64) v2) (br 29 3 ?_)));obtain⟨h10,h⟩|⟨h10,h⟩:=av h
     ·refine aY 46 h10 (br 30 1 ?_);obtain⟨h11,h⟩:=aw h;refine ap (bZ 1017 1 (ab .i64) h11) (ap (bE 3 0 (ab .i64) (ab .i64) (aR h11).2 (fun _=>rfl)) (br 35 3 ?_));obtain⟨h12,h⟩|⟨h12,h⟩:=av h
      ·refine aY 52 h12 (br 36 1 ?_);obtain⟨h13,h⟩:=aw h;exact ap (bZ 1017 1 (ab .i64) h13) (ap (bE 3 0 (ab .i64) (ab .i64) (aR h13).2 (fun _=>rfl)) (ae (aj 0 (n9 hK h))))
      ·exact aY 52 h12 (ae (aj 0 (n9 hK h)))
     ·exact aY 46 h10 (ae (aj 0 (n9 hK h)))
    ·exact aY 41 h9 (ae (aj 0 (n9 hK h)))
   ·exact aY 32 h6 (ae (aj 0 (n9 hK h)))
  ·exact aY 25 h4 (ae (aj 0 (n9 hK h)))
 ·exact aY 20 h3 (ae (aj 0 (n9 hK h)))
end
noncomputable section
variable(M:Nat→Prop)(w0:aJ)(r:Bool)(v1:ch)(v2:Bool)  
abbrev Rk(n:Nat):ao:=.c (cat Tryz.f46 (pn n))
abbrev XU:Cx:=⟨Tryz.prog,11,M,w0⟩
abbrev Tv:=bodyPost Tryz.prog Tryz.f46 (bX M w0 (fun v _=>v=.bool r))
abbrev aaM(ks:List ao)(s:AS):=VE (XU M w0) (Tv M w0 r) ks .normal s
def Qp:AS:=⟨[(2,.bool v2)],[],[],[]⟩
variable{M w0 r v1 v2}{K:Kn}{n:Nat}
theorem PV(hK:am K)(h:wg K n v2=some r):aaM M w0 r [Rk 7] (Qp v2):=by
 unfold wg at h;refine aW 1 ?_;cases h;exact bW
theorem gI(hK:am K)(h:fV K n v1=some r):aQ Tryz.prog 46 [.agg (gJ v1)] (fun v _=>v=.bool r):=by
 refine bF (cat Tryz.f46 (pn 1)) Tryz.func46 Tryz.ntmps46 fun M w0=>(bx ⟨[(0,.agg (gJ v1))],[],[],[]⟩ ?_);unfold fV at h;refine ax 6 7 3 (ai 4 ?_);obtain⟨h1,h⟩|⟨h1,h⟩:=av h
 ·exact aY 6 h1 (ae (aj 0 (PV hK h)))
 ·exact aY 6 h1 (ae (aj 0 (PV hK h)))
end
noncomputable section
variable(M:Nat→Prop)(w0:aJ)(r:Bool)(v1:List dF)(v2 v23:Int)(v31 v34 v37 v40 v43:Bool)(m1:Nat)(L1:Int→Option Bool)
abbrev Bm:Cx:=⟨Tryz.prog,130,M,w0⟩
abbrev A8:=bodyPost Tryz.prog Tryz.f14 (bX M w0 (fun v _=>v=.bool r))
abbrev rW(ks:List ao)(s:AS):=VE (Bm M w0) (A8 M w0 r) ks .normal s
abbrev fK(n:Nat):ao:=.c (cat Tryz.f14 (pn n))
abbrev DS:List ao:=[.b 0,fK 7]
abbrev uh:List ao:=kl (Bm M w0) (A8 M w0 r) DS (cat Tryz.f14 (pn 52)) m1::DS
def VL:AS:=⟨[(0,.sl (lm dh v1)),(1,iI v2),(5,iI v23),(6,.ptr 6 0),(7,iI 3),(125,.bool v43)],[(6,aD ((gD v1 v23).Style))],[],[6]⟩
def Qx:AS:=⟨[(0,.sl (lm dh v1)),(1,iI v2),(5,iI v23),(6,.ptr 6 0),(7,iI 2),(125,.bool v40)],[(6,aD ((gD v1 v23).Style))],[],[6]⟩
def SL:AS:=⟨[(0,.sl (lm dh v1)),(1,iI v2),(5,iI v23),(6,.ptr 6 0),(7,iI 1),(125,.bool v37)],[(6,aD ((gD v1 v23).Style))],[],[6]⟩
def Xm:AS:=⟨[(0,.sl (lm dh v1)),(1,iI v2),(5,iI v23),(6,.ptr 6 0),(7,iI 0),(125,.bool v34)],[(6,aD ((gD v1 v23).Style))],[],[6]⟩
def aaG:AS:=⟨[(0,.sl (lm dh v1)),(1,iI v2),(5,iI v23),(6,.ptr 6 0),(107,.bool v31)],[(6,aD ((gD v1 v23).Style))],[],[6]⟩
def NQ:AS:=⟨[(0,.sl (lm dh v1)),(1,iI v2),(5,iI v23)],[],[],[]⟩
abbrev oZ:Prop:=∀{v23:Int},L1 v23=some r→LP (Bm M w0) (A8 M w0 r) DS (cat Tryz.f14 (pn 52)) m1 (NQ v1 v2 v23)
abbrev lx(m:Nat):List ao:=kl (Bm M w0) (A8 M w0 r) (.b 2 :: .b 1::fK 211::uh M w0 r m1) (cat Tryz.f14 (pn 13468)) m::(.b 2 :: .b 1::fK 211::uh M w0 r m1)
variable{M w0 r v1 v2 v23 v31 v34 v37 v40 v43 m1 L1}{K:Kn}{n:Nat}
theorem O8(hK:am K)(hL1:oZ M w0 r v1 v2 m1 L1)(h:rE K n v1 v2 v23 L1 v43=some r):rW M w0 r (fK 215497 :: .b 3::fK 53875::lx M w0 r m1 36) (VL v1 v2 v23 v43):=by
 unfold rE at h;obtain⟨h84,h⟩|⟨h84,h⟩:=av h
 ·refine ak 125 h84 (aW 13 ?_);cases h;exact bW
 ·exact ak 125 h84 (bq (ks':=lx M w0 r m1 36) 4 ⟨[(0,.sl (lm dh v1)),(1,iI v2),(5,iI v23),(6,.ptr 6 0),(7,iI 4)],[(6,aD ((gD v1 v23).Style))],[],[6]⟩ (bd (aU (aj 10 (bd (hL1 h))))))
theorem J4(hK:am K)(hL1:oZ M w0 r v1 v2 m1 L1)(h:uG K n v1 v2 v23 L1 v40=some r):rW M w0 r (fK 215497 :: .b 3::fK 53875::lx M w0 r m1 37) (Qx v1 v2 v23 v40):=by
 unfold uG at h;obtain⟨h80,h⟩|⟨h80,h⟩:=av h
 ·refine ak 125 h80 (aW 13 ?_);cases h;exact bW
 ·refine ak 125 h80 (bq (ks':=lx M w0 r m1 37) 4 ⟨[(0,.sl (lm dh v1)),(1,iI v2),(5,iI v23),(6,.ptr 6 0),(7,iI 3)],[(6,aD ((gD v1 v23).Style))],[],[6]⟩ (bd (aU (dK 24 25 3 7 8 (ai 4 ?_)))));obtain⟨v41,h81,h⟩:=bind_some h;refine aK (gI hK h81) (br 7 2 ?_);obtain⟨h82,h⟩|⟨h82,h⟩:=av h
  ·exact aY 118 h82 (ae (aj 0 (O8 hK hL1 h)))
  ·refine aY 118 h82 (br 11 4 ?_);obtain⟨v42,h83,h⟩:=bind_some h;exact aK (gI hK h83) (ae (aj 0 (O8 hK hL1 h)))
theorem NJ(hK:am K)(hL1:oZ M w0 r v1 v2 m1 L1)(h:wo K n v1 v2 v23 L1 v37=some r):rW M w0 r (fK 215497 :: .b 3::fK 53875::lx M w0 r m1 38) (SL v1 v2 v23 v37):=by
 unfold wo at h;obtain⟨h76,h⟩|⟨h76,h⟩:=av h
 ·refine ak 125 h76 (aW 13 ?_);cases h;exact bW
 ·refine ak 125 h76 (bq (ks':=lx M w0 r m1 38) 4 ⟨[(0,.sl (lm dh v1)),(1,iI v2),(5,iI v23),(6,.ptr 6 0),(7,iI 2)],[(6,aD ((gD v1 v23).Style))],[],[6]⟩ (bd (aU (dK 24 25 3 7 8 (ai 4 ?_)))));obtain⟨v38,h77,h⟩:=bind_some h;refine aK (gI hK h77) (br 7 2 ?_);obtain⟨h78,h⟩|⟨h78,h⟩:=av h
  ·exact aY 118 h78 (ae (aj 0 (J4 hK hL1 h)))
  ·refine aY 118 h78 (br 11 4 ?_);obtain⟨v39,h79,h⟩:=bind_some h;exact aK (gI hK h79) (ae (aj 0 (J4 hK hL1 h)))
theorem Jx(hK:am K)(hL1:oZ M w0 r v1 v2 m1 L1)(h:wK K n v1 v2 v23 L1 v34=some r):rW M w0 r (fK 215497 :: .b 3::fK 53875::lx M w0 r m1 39) (Xm v1 v2 v23 v34):=by
 unfold wK at h;obtain⟨h72,h⟩|⟨h72,h⟩:=av h
 ·refine ak 125 h72 (aW 13 ?_);cases h;exact bW
 ·refine ak 125 h72 (bq (ks':=lx M w0 r m1 39) 4 ⟨[(0,.sl (lm dh v1)),(1,iI v2),(5,iI v23),(6,.ptr 6 0),(7,iI 1)],[(6,aD ((gD v1 v23).Style))],[],[6]⟩ (bd (aU (dK 24 25 3 7 8 (ai 4 ?_)))));obtain⟨v35,h73,h⟩:=bind_some h;refine aK (gI hK h73) (br 7 2 ?_);obtain⟨h74,h⟩|⟨h74,h⟩:=av h
  ·exact aY 118 h74 (ae (aj 0 (NJ hK hL1 h)))
  ·refine aY 118 h74 (br 11 4 ?_);obtain⟨v36,h75,h⟩:=bind_some h;exact aK (gI hK h75) (ae (aj 0 (NJ hK hL1 h)))
theorem gw(hK:am K)(hL1:oZ M w0 r v1 v2 m1 L1)(h:fi K n v1 v2 v23 L1 v31=some r):rW M w0 r (fK 3365::fK 1683 :: .b 1::fK 211::uh M w0 r m1) (aaG v1 v2 v23 v31):=by
 unfold fi at h;obtain⟨h68,h⟩|⟨h68,h⟩:=av h
 ·refine ak 107 h68 (aW 10 ?_);cases h;exact bW
 ·refine ak 107 h68 (bq (ks':=fK 6734 :: .b 2 :: .b 1::fK 211::uh M w0 r m1) 5 ⟨[(0,.sl (lm dh v1)),(1,iI v2),(5,iI v23),(6,.ptr 6 0),(7,iI 0)],[(6,aD ((gD v1 v23).Style))],[],[6]⟩ (kz 40 (c:=cat Tryz.f14 [1,0,1,0,0,1,0,0,1,1,1,0,0]) (by kernel_rfl) (aU (df (ks':=fK 215496::fK 215497 :: .b 3::fK 53875::lx M w0 r m1 39) 8 (ai 4 ?_)))));obtain⟨v32,h69,h⟩:=bind_some h;refine aK (gI hK h69) (br 7 2 ?_);obtain⟨h70,h⟩|⟨h70,h⟩:=av h
  ·exact aY 118 h70 (ae (aj 0 (Jx hK hL1 h)))
  ·refine aY 118 h70 (br 11 4 ?_);obtain⟨v33,h71,h⟩:=bind_some h;exact aK (gI hK h71) (ae (aj 0 (Jx hK hL1 h)))
theorem YV(hK:am K)(hL1:oZ M w0 r v1 v2 m1 L1)(h:ln K n v1 v2 L1 v23=some r):rW M w0 r (fK 52::uh M w0 r m1) (NQ v1 v2 v23):=by
 unfold ln at h;refine cm 4 5 3 2 (ai 2 (ap (bK dh v1) (ae ?_)));obtain⟨h43,h⟩|⟨h43,h⟩:=av h
 ·refine ak 11 h43 (cF 8 9 1 3 5 (ai 2 ?_));obtain⟨h44,h⟩:=aw h;refine ap (cc dh dh h44 (Bw) (fun _=>rfl)) (ae (cm 4 5 3 2 (ai 2 ?_)));obtain⟨h45,h⟩:=aw h;refine ap (cc dh dh h45 (Bw) (fun _=>rfl)) (br 8 5 ?_);obtain⟨h46,h⟩|⟨h46,h⟩:=av h
  ·exact aY 26 h46 (ae (aj 0 (gw hK hL1 h)))
  ·refine aY 26 h46 (br 10 2 ?_);obtain⟨v24,h47,h⟩:=bind_some h;refine aK (gI hK h47) (br 14 3 ?_);obtain⟨h48,h⟩|⟨h48,h⟩:=av h
   ·exact aY 32 h48 (ae (aj 0 (gw hK hL1 h)))
   ·refine aY 32 h48 (br 16 2 ?_);obtain⟨v25,h49,h⟩:=bind_some h;refine aK (gI hK h49) (br 20 3 ?_);obtain⟨h50,h⟩|⟨h50,h⟩:=av h
    ·exact aY 38 h50 (ae (aj 0 (gw hK hL1 h)))
    ·refine aY 38 h50 (br 22 2 ?_);obtain⟨v26,h51,h⟩:=bind_some h;refine aK (gI hK h51) (br 26 3 ?_);obtain⟨h52,h⟩|⟨h52,h⟩:=av h
     ·exact aY 44 h52 (ae (aj 0 (gw hK hL1 h)))
     ·refine aY 44 h52 (br 28 2 ?_);obtain⟨v27,h53,h⟩:=bind_some h;refine aK (gI hK h53) (br 32 3 ?_);obtain⟨h54,h⟩|⟨h54,h⟩:=av h
      ·exact aY 50 h54 (ae (aj 0 (gw hK hL1 h)))
      ·refine aY 50 h54 (br 34 2 ?_);obtain⟨v28,h55,h⟩:=bind_some h;refine aK (gI hK h55) (br 38 3 ?_);obtain⟨h56,h⟩|⟨h56,h⟩:=av h
       ·exact aY 56 h56 (ae (aj 0 (gw hK hL1 h)))
       ·refine aY 56 h56 (br 40 2 ?_);obtain⟨v29,h57,h⟩:=bind_some h;refine aK (gI hK h57) (br 44 3 ?_);obtain⟨h58,h⟩|⟨h58,h⟩:=av h
        ·exact aY 62 h58 (ae (aj 0 (gw hK hL1 h)))
        ·refine aY 62 h58 (br 46 2 ?_);obtain⟨v30,h59,h⟩:=bind_some h;refine aK (gI hK h59) (br 50 3 ?_);obtain⟨h60,h⟩|⟨h60,h⟩:=av h
         ·exact aY 68 h60 (ae (aj 0 (gw hK hL1 h)))
         ·refine aY 68 h60 (br 55 5 ?_);obtain⟨h61,h⟩|⟨h61,h⟩:=av h
          ·exact aY 73 h61 (ae (aj 0 (gw hK hL1 h)))
          ·refine aY 73 h61 (br 60 5 ?_);obtain⟨h62,h⟩|⟨h62,h⟩:=av h
           ·exact aY 78 h62 (ae (aj 0 (gw hK hL1 h)))
           ·refine aY 78 h62 (br 65 5 ?_);obtain⟨h63,h⟩|⟨h63,h⟩:=av h
            ·exact aY 83 h63 (ae (aj 0 (gw hK hL1 h)))
            ·refine aY 83 h63 (br 70 5 ?_);obtain⟨h64,h⟩|⟨h64,h⟩:=av h
             ·exact aY 88 h64 (ae (aj 0 (gw hK hL1 h)))
             ·refine aY 88 h64 (br 75 5 ?_);obtain⟨h65,h⟩|⟨h65,h⟩:=av h
              ·exact aY 93 h65 (ae (aj 0 (gw hK hL1 h)))
              ·refine aY 93 h65 (br 80 5 ?_);obtain⟨h66,h⟩|⟨h66,h⟩:=av h
               ·exact aY 98 h66 (ae (aj 0 (gw hK hL1 h)))
               ·refine aY 98 h66 (br 85 5 ?_);obtain⟨h67,h⟩|⟨h67,h⟩:=av h
                ·exact aY 103 h67 (ae (aj 0 (gw hK hL1 h)))
                ·exact aY 103 h67 (ae (aj 0 (gw hK hL1 h)))
 ·refine ak 11 h43 (eG 2 3 6 (ai 1 (ap (bK dh v1) (ae (aW 1 ?_)))));cases h;exact bW
theorem aaL(hK:am K)(m:Nat):oZ M w0 r v1 v2 m (oK K n v1 v2 m):=by
 induction m with
 | zero=>intro v23 h;cases h
 | succ m ih=>intro v23 h;have h:ln K n v1 v2 (oK K n v1 v2 m) v23=some r:=h;exact aU (YV hK ih h)
theorem RN(hK:am K)(h:AB K n v1 v2=some r):aQ Tryz.prog 14 [.sl (lm dh v1),iI v2] (fun v _=>v=.bool r):=by
 refine bF (cat Tryz.f14 (pn 1)) Tryz.func14 Tryz.ntmps14 fun M w0=>(bx ⟨[(0,.sl (lm dh v1)),(1,iI v2)],[],[],[]⟩ ?_);unfold AB at h;exact aj 6 (bP (p:=pn 26) n (aaL hK n h))
end
noncomputable section
variable(M:Nat→Prop)(w0:aJ)(r:Bool)(v1:List dF)(v3:Bool)  
abbrev WU(n:Nat):ao:=.c (cat Tryz.f5 (pn n))
abbrev So:Cx:=⟨Tryz.prog,10,M,w0⟩
abbrev q5:=bodyPost Tryz.prog Tryz.f5 (bX M w0 (fun v _=>v=.bool r))
abbrev Vg5(ks:List ao)(s:AS):=VE (So M w0) (q5 M w0 r) ks .normal s
def VC:AS:=⟨[(2,.bool v3)],[],[],[]⟩
variable{M w0 r v1 v3}{K:Kn}{n:Nat}
theorem IB(hK:am K)(h:uL K n v3=some r):Vg5 M w0 r [WU 7] (VC v3):=by
 unfold uL at h;refine aW 1 ?_;cases h;exact bW
theorem WM(hK:am K)(h:yu K n v1=some r):aQ Tryz.prog 5 [.sl (lm dh v1)] (fun v _=>v=.bool r):=by
 refine bF (cat Tryz.f5 (pn 1)) Tryz.func5 Tryz.ntmps5 fun M w0=>(bx ⟨[(0,.sl (lm dh v1))],[],[],[]⟩ ?_);unfold yu at h;refine ax 6 7 3 (ai 1 ?_);obtain⟨v2,h1,h⟩:=bind_some h;refine aK (RN hK h1) (br 3 1 ?_);obtain⟨h2,h⟩|⟨h2,h⟩:=av h
 ·exact aY 5 h2 (br 4 1 (ap (bK dh v1) (ae (aj 0 (IB hK h)))))
 ·exact aY 5 h2 (ae (aj 0 (IB hK h)))
end
noncomputable section
variable(M:Nat→Prop)(w0:aJ)(r:ac)(v1:List dF)(v6:Int)(v7:List (ac×Option (List ac)))(v8:Bool)(v11:List (ac×Option (List ac)))(m1:Nat)(L1:Int→(List (ac×Option (List ac)))→Option ac)
abbrev Cw:Cx:=⟨Tryz.prog,111,M,w0⟩
abbrev q6:=bodyPost Tryz.prog Tryz.f6 (bX M w0 (fun v s=>v=.agg (List.set (aI ({ r with Kids:=[] }:ac)) 58 (.ref 440003))∧look 440003 s.r=some ⟨33,59,lm az r.Kids⟩))
abbrev BS(ks:List ao)(s:AS):=VE (Cw M w0) (q6 M w0 r) ks .normal s
abbrev sT(n:Nat):ao:=.c (cat Tryz.f6 (pn n))
abbrev Em:List ao:=[.b 0,sT 15]
abbrev GI:List ao:=kl (Cw M w0) (q6 M w0 r) Em (cat Tryz.f6 (pn 116)) m1::Em
def abT:AS:=⟨[(0,.sl (lm dh v1)),(2,.ptr 2 0),(3,.ptr 3 0),(4,iI v6)],[(2,List.set (aI dj) 58 (.nils)),(3,List.set (aI ({ dj with Kind:=7,Node:=10,Style:=(gD v1 (0:Int)).Style }:ac)) 58 (.ref 500003))],[(500003,⟨33,59,lm (bi az 58 33 59 az) v11⟩)],[2,3,500003]⟩
def acg:AS:=⟨[(0,.sl (lm dh v1)),(2,.ptr 2 0),(3,.ptr 3 0),(4,iI v6),(5,.ptr 5 0),(32,.bool v8)],[(2,List.set (aI dj) 58 (.nils)),(3,List.set (aI ({ dj with Kind:=7,Node:=10,Style:=(gD v1 (0:Int)).Style }:ac)) 58 (.ref 500003)),(5,dh (gD v1 v6))],[(500003,⟨33,59,lm (bi az 58 33 59 az) v7⟩)],[2,3,5,500003]⟩
def Hy:AS:=⟨[(0,.sl (lm dh v1)),(2,.ptr 2 0),(3,.ptr 3 0),(4,iI v6)],[(2,List.set (aI dj) 58 (.nils)),(3,List.set (aI ({ dj with Kind:=7,Node:=10,Style:=(gD v1 (0:Int)).Style }:ac)) 58 (.ref 500003))],[(500003,⟨33,59,lm (bi az 58 33 59 az) v7⟩)],[2,3,500003]⟩
abbrev Bo:Prop:=∀{v6:Int} {v7:(List (ac×Option (List ac)))},L1 v6 v7=some r→LP (Cw M w0) (q6 M w0 r) Em (cat Tryz.f6 (pn 116)) m1 (Hy v1 v6 v7)
variable{M w0 r v1 v6 v7 v8 v11 m1 L1}{K:Kn}{n:Nat}
theorem CY(hK:am K)(hL1:Bo M w0 r v1 m1 L1)(h:oN K n v1 v6 L1 v11=some r):BS M w0 r (sT 467::GI M w0 r m1) (abT v1 v6 v11):=by
 unfold oN at h;exact aj 1 (bd (hL1 h))
theorem PN(hK:am K)(hL1:Bo M w0 r v1 m1 L1)(h:mE K n v1 v6 v7 L1 v8=some r):BS M w0 r (sT 7461::sT 3731 :: .b 1::sT 467::GI M w0 r m1) (acg v1 v6 v7 v8):=by
 unfold mE at h;obtain⟨h23,h⟩|⟨h23,h⟩:=av h
 ·refine ak 32 h23 (ax 4 5 2 (Dv (ai 8 ?_)));obtain⟨h24,h⟩:=aw h;exact ap (BM 41 500003 33 59 58 33 59 az aI az ({ dj with Kind:=8,Node:=(aa (10+v6)),Style:=(gD v1 v6).Style }:ac) (.nils) cS dw h24) (UT 500003 33 59 58 33 59 az aI az v7 ({ dj with Kind:=8,Node:=(aa (10+v6)),Style:=(gD v1 v6).Style }:ac) cS dw (ae (aj 3 (CY hK hL1 h))))
 ·refine ak 32 h23 (fu 6 7 5 (ai 6 (ap (gV az ([({ dj with Kind:=3,Style:=(gD v1 v6).Style,Text:=(gD v1 v6).Text }:ac)]:List ac) (new:=[aI ({ dj with Kind:=3,Style:=(gD v1 v6).Style,Text:=(gD v1 v6).Text }:ac)]) (by simp only[List.map_cons,List.map_nil,cS])) ?_)));obtain⟨h25,h⟩:=aw h;refine ap (aah 50 33 59 az (rfl) (dw) h25) (ae (ax 2 3 1 (ai 2 (ap (bK (bi az 58 33 59 az) v7) (ae (ax 2 3 1 (bI [0,2,3,4,5,6,7] [2,3,5] [50,500003] ?_)))))));refine MQ ?_ ?_
  ·have h:=xN rfl h;obtain⟨h26,h⟩:=aw h;obtain⟨v9,h27,h⟩:=bind_some h;refine ax 4 5 2 (bI [0,2,3,4,5,6,7,56] [2,3,5] [50,500003] ?_);refine yY 500003 430056 56 3 58 33 59 58 33 59 az az v7 ((aa ((v7.length:Int)-1))).toNat v9 (.bool true) (aR h26).2 h27 dw (fun x5=>?_);obtain⟨h28,h⟩:=aw h;refine yU 22 0 [(57,.ptr 3 58),(58,.ref 500003),(59,iI (aa ((v7.length:Int)-1))),(60,.eptr 500003 59 (((aa ((v7.length:Int)-1))).toNat) 0),(61,.eptr 500003 59 (((aa ((v7.length:Int)-1))).toNat) 58),(62,.ref 430056),(63,iI v6),(64,iI (aa (10+v6))),(65,.ptr 5 5),(66,.agg (aD ((gD v1 v6).Style))),(67,.ptr 5 3),(68,.int .u8 ((gD v1 v6).Rows)),(69,.int .u8 (Int.tmod ((gD v1 v6).Rows) 4)),(70,iI (aa (Int.tmod ((gD v1 v6).Rows) 4))),(71,.ptr 5 4),(72,.int .u8 ((gD v1 v6).Cols)),(73,.int .u8 (Int.tmod ((gD v1 v6).Cols) 4)),(74,iI (aa (Int.tmod ((gD v1 v6).Cols) 4))),(75,.ref 50),(76,.agg (List.set (aI (⟨9,(aa (10+v6)),(gD v1 v6).Style,⟨#[]⟩,(aa (Int.tmod ((gD v1 v6).Rows) 4)),(aa (Int.tmod ((gD v1 v6).Cols) 4)),[]⟩:ac)) 58 (.ref 50))),(77,iI (v9.length:Int)),(78,.sl (lm az [dj]))] [] [] [] (aF (vz 3) (bt (kj 500003 59 ((aa ((v7.length:Int)-1))).toNat 58 (bi az 58 33 59 az) (.vv x5) (L:=v7) (i:=(aa ((v7.length:Int)-1))) (by simpa only[List.length_set]using h28)) (aF [.v 0 1] (aC (Al 0 62 56 430056 (b:=⟨33,59,lm az v9⟩) (zK 31 500003 59 58 33 59 az aI az x5 (L:=v7) (j:=((aa ((v7.length:Int)-1))).toNat) (aR h28).2 cS)) (aF (vz 14) (bt (bK az v9) (bt (gV az ([dj]:List ac) (new:=[aI dj]) (by simp only[List.map_cons,List.map_nil,cS])) (sj)))))))) ?_
   obtain⟨h29,h⟩:=aw h;refine ap (c6 79 430056 33 59 az (rfl) (dw) h29) ?_;obtain⟨h30,h⟩:=aw h;refine ap (kj 500003 59 ((aa ((v7.length:Int)-1))).toNat 58 (bi az 58 33 59 az) (.vv x5) (L:=v7) (i:=(aa ((v7.length:Int)-1))) h30) (br 25 1 ?_);refine pg 430056 56 (c0:=.any) (kR 79 0 (by kernel_rfl)) (fun x6=>?_);refine uS 79 56 (tid:=430056) (x:=x6) (c:=.ref 430056) (ap (BB 500003 33 59 58 33 59 az az (.vv x5) x6 (L:=v7) (j:=((aa ((v7.length:Int)-1))).toNat) (aR h30).2 dw) (zi 79 56 (tid:=430056) (x:=x6) (b:=⟨33,59,lm az (v9++[dj])⟩) (ae (ai 0 ?_))));obtain⟨h31,h⟩:=aw h;exact ap (bZ 430056 59 az h31) (eO 50 (ap (du 430056 33 59 0 az aI (⟨9,(aa (10+v6)),(gD v1 v6).Style,⟨#[]⟩,(aa (Int.tmod ((gD v1 v6).Rows) 4)),(aa (Int.tmod ((gD v1 v6).Cols) 4)),[({ dj with Kind:=3,Style:=(gD v1 v6).Style,Text:=(gD v1 v6).Text }:ac)]⟩:ac) (aR h31).2 (cS)) (yz 500003 430056 56 3 58 33 59 58 33 59 az az v7 ((aa ((v7.length:Int)-1))).toNat (List.set (v9++[dj]) ((v9.length:Int)).toNat (⟨9,(aa (10+v6)),(gD v1 v6).Style,⟨#[]⟩,(aa (Int.tmod ((gD v1 v6).Rows) 4)),(aa (Int.tmod ((gD v1 v6).Cols) 4)),[({ dj with Kind:=3,Style:=(gD v1 v6).Style,Text:=(gD v1 v6).Text }:ac)]⟩:ac)) x6 (aR h30).2 dw (ae (aj 1 (CY hK hL1 h))))))
  ·have h:=xu h;obtain⟨h32,h⟩:=aw h;obtain⟨v10,h33,h⟩:=bind_some h;refine ce 3 1 (bI [0,2,3,4,5,6,7,56] [2,3,5] [50,500003] ?_);refine yY 500003 430056 56 3 58 33 59 58 33 59 az az v7 ((aa ((v7.length:Int)-1))).toNat v10 (.bool false) (aR h32).2 h33 dw (fun x7=>?_);refine ku 50 ?_;obtain⟨h35,h⟩:=aw h;obtain⟨h36,h⟩:=aw h;refine yU 25 1 [(83,.ptr 3 58),(84,.ref 500003),(85,iI (aa ((v7.length:Int)-1))),(86,.ptr 3 58),(87,.ref 500003),(88,iI (aa ((v7.length:Int)-1))),(89,.eptr 500003 59 (((aa ((v7.length:Int)-1))).toNat) 0),(90,.eptr 500003 59 (((aa ((v7.length:Int)-1))).toNat) 58),(91,.ref 430056),(92,iI v6),(93,iI (aa (10+v6))),(94,.ptr 5 5),(95,.agg (aD ((gD v1 v6).Style))),(96,.ptr 5 3),(97,.int .u8 ((gD v1 v6).Rows)),(98,.int .u8 (Int.tmod ((gD v1 v6).Rows) 4)),(99,iI (aa (Int.tmod ((gD v1 v6).Rows) 4))),(100,.ptr 5 4),(101,.int .u8 ((gD v1 v6).Cols)),(102,.int .u8 (Int.tmod ((gD v1 v6).Cols) 4)),(103,iI (aa (Int.tmod ((gD v1 v6).Cols) 4))),(104,.sl (lm az [({ dj with Kind:=3,Style:=(gD v1 v6).Style,Text:=(gD v1 v6).Text }:ac)])),(105,.agg (aI (⟨9,(aa (10+v6)),(gD v1 v6).Style,⟨#[]⟩,(aa (Int.tmod ((gD v1 v6).Rows) 4)),(aa (Int.tmod ((gD v1 v6).Cols) 4)),[({ dj with Kind:=3,Style:=(gD v1 v6).Style,Text:=(gD v1 v6).Text }:ac)]⟩:ac))),(106,.sl (lm az [(⟨9,(aa (10+v6)),(gD v1 v6).Style,⟨#[]⟩,(aa (Int.tmod ((gD v1 v6).Rows) 4)),(aa (Int.tmod ((gD v1 v6).Cols) 4)),[({ dj with Kind:=3,Style:=(gD v1 v6).Style,Text:=(gD v1 v6).Text }:ac)]⟩:ac)]))] [] [] [fZ 107 430056 ⟨33,59,lm az (v10++[(⟨9,(aa (10+v6)),(gD v1 v6).Style,⟨#[]⟩,(aa (Int.tmod ((gD v1 v6).Rows) 4)),(aa (Int.tmod ((gD v1 v6).Cols) 4)),[({ dj with Kind:=3,Style:=(gD v1 v6).Style,Text:=(gD v1 v6).Text }:ac)]⟩:ac)])⟩] (aF [.v 0 2,.v 0 2,.v 0 2,.v 0 2,.v 0 2,.v 0 2] (aC (d4 (lo:=0) (k:=2) (cy ⟨(by kernel_rfl),(cE (kj 500003 59 ((aa ((v7.length:Int)-1))).toNat 58 (bi az 58 33 59 az) (.vv x7) (L:=v7) (i:=(aa ((v7.length:Int)-1))) (by simpa only[List.length_set]using h35)) (by kernel_rfl))⟩ (cy ⟨(by kernel_rfl),(cE (kj 500003 59 ((aa ((v7.length:Int)-1))).toNat 58 (bi az 58 33 59 az) (.vv x7) (L:=v7) (i:=(aa ((v7.length:Int)-1))) (by simpa only[List.length_set]using h35)) (by kernel_rfl))⟩ d8))) (aF [.v 0 2] (aC (Al 0 91 56 430056 (b:=⟨33,59,lm az v10⟩) (zK 31 500003 59 58 33 59 az aI az x7 (L:=v7) (j:=((aa ((v7.length:Int)-1))).toNat) (aR h35).2 cS)) (aF [.v 0 2,.v 0 2,.v 0 2,.v 0 2,.v 0 2,.v 0 2,.v 0 2,.v 0 2,.v 0 2,.v 0 2,.v 0 2,.v 0 2,.v 0 2,.v 0 2] (bt (gV az ([(⟨9,(aa (10+v6)),(gD v1 v6).Style,⟨#[]⟩,(aa (Int.tmod ((gD v1 v6).Rows) 4)),(aa (Int.tmod ((gD v1 v6).Cols) 4)),[({ dj with Kind:=3,Style:=(gD v1 v6).Style,Text:=(gD v1 v6).Text }:ac)]⟩:ac)]:List ac) (new:=[aI (⟨9,(aa (10+v6)),(gD v1 v6).Style,⟨#[]⟩,(aa (Int.tmod ((gD v1 v6).Rows) 4)),(aa (Int.tmod ((gD v1 v6).Cols) 4)),[({ dj with Kind:=3,Style:=(gD v1 v6).Style,Text:=(gD v1 v6).Text }:ac)]⟩:ac)]) (by simp only[List.map_cons,List.map_nil,cS])) (aC (c7 (m:=0) (c6 107 430056 33 59 az (rfl) (dw) h36)) (sj)))))))) ?_
   obtain⟨h37,h⟩:=aw h;refine ap (kj 500003 59 ((aa ((v7.length:Int)-1))).toNat 58 (bi az 58 33 59 az) (.vv x7) (L:=v7) (i:=(aa ((v7.length:Int)-1))) h37) (br 27 1 ?_);refine pg 430056 56 (c0:=.any) (kR 107 0 (by kernel_rfl)) (fun x8=>?_);exact uS 107 56 (tid:=430056) (x:=x8) (c:=.ref 430056) (ap (BB 500003 33 59 58 33 59 az az (.vv x7) x8 (L:=v7) (j:=((aa ((v7.length:Int)-1))).toNat) (aR h37).2 dw) (zi 107 56 (tid:=430056) (x:=x8) (b:=⟨33,59,lm az (v10++[(⟨9,(aa (10+v6)),(gD v1 v6).Style,⟨#[]⟩,(aa (Int.tmod ((gD v1 v6).Rows) 4)),(aa (Int.tmod ((gD v1 v6).Cols) 4)),[({ dj with Kind:=3,Style:=(gD v1 v6).Style,Text:=(gD v1 v6).Text }:ac)]⟩:ac)])⟩) (yz 500003 430056 56 3 58 33 59 58 33 59 az az v7 ((aa ((v7.length:Int)-1))).toNat (v10++[(⟨9,(aa (10+v6)),(gD v1 v6).Style,⟨#[]⟩,(aa (Int.tmod ((gD v1 v6).Rows) 4)),(aa (Int.tmod ((gD v1 v6).Cols) 4)),[({ dj with Kind:=3,Style:=(gD v1 v6).Style,Text:=(gD v1 v6).Text }:ac)]⟩:ac)]) x8 (aR h37).2 dw (ae (aj 1 (CY hK hL1 h))))))
theorem X5(hK:am K)(hL1:Bo M w0 r v1 m1 L1)(h:xA K n v1 L1 v6 v7=some r):BS M w0 r (sT 116::GI M w0 r m1) (Hy v1 v6 v7):=by
 unfold xA at h;refine cm 4 5 3 2 (ai 2 (ap (bK dh v1) (ae ?_)));obtain⟨h20,h⟩|⟨h20,h⟩:=av h
 ·refine ak 16 h20 (cF 8 9 1 3 5 (ai 2 ?_));obtain⟨h21,h⟩:=aw h;refine ap (cc dh dh h21 (Bw) (fun _=>rfl)) (ae (cm 4 5 3 2 (ai 5 ?_)));obtain⟨h22,h⟩|⟨h22,h⟩:=av h
  ·exact aY 27 h22 (ae (aj 0 (PN hK hL1 h)))
  ·exact aY 27 h22 (br 7 2 (ap (bK (bi az 58 33 59 az) v7) (ae (aj 0 (PN hK hL1 h)))))
 ·refine ak 16 h20 ?_;obtain⟨h38,h⟩:=aw h;refine aW 8 (I6 500003 440003 33 59 58 33 59 az az v7 Jy abh aaQ Yr h38 ?_);cases h;exact d9
theorem Su(hK:am K)(m:Nat):Bo M w0 r v1 m (kU K n v1 m):=by
 induction m with
 | zero=>intro v6 v7 h;cases h
 | succ m ih=>intro v6 v7 h;have h:xA K n v1 (kU K n v1 m) v6 v7=some r:=h;exact aU (X5 hK ih h)
theorem Qy(hK:am K)(h:pY K n v1=some r):aQ Tryz.prog 6 [.sl (lm dh v1)] (fun v s=>v=.agg (List.set (aI ({ r with Kids:=[] }:ac)) 58 (.ref 440003))∧look 440003 s.r=some ⟨33,59,lm az r.Kids⟩):=by
 refine bF (cat Tryz.f6 (pn 1)) Tryz.func6 Tryz.ntmps6 fun M w0=>(bx ⟨[(0,.sl (lm dh v1))],[],[],[]⟩ ?_);unfold pY at h;refine ax 6 7 3 (ai 1 ?_);obtain⟨h1,h⟩:=aw h;exact ap (cc dh dh h1 (Bw) (fun _=>rfl)) (ae (gx 10 0 3 4 (bI [0,2,3,4] [2,3] [] (oX 500003 3 58 33 59 (aj 0 (bP (p:=pn 58) n (Su hK n h)))))))
end
noncomputable section
variable(M:Nat→Prop)(w0:aJ)(r:List ac)(v1:ac)(v2 v9:Int)(v10 v12:(List ac))(m1:Nat)(L1:Int→(List ac)→Option (List ac))
abbrev Gt:Cx:=⟨Tryz.prog,25,M,w0⟩
abbrev Ej:=bodyPost Tryz.prog Tryz.f47 (bX M w0 (fun v s=>v=.ref 22∧look 22 s.r=some ⟨33,59,lm az r⟩))
abbrev IH(ks:List ao)(s:AS):=VE (Gt M w0) (Ej M w0 r) ks .normal s
abbrev uV(n:Nat):ao:=.c (cat Tryz.f47 (pn n))
abbrev GP:List ao:=[.b 0,uV 15]
abbrev Cr:List ao:=kl (Gt M w0) (Ej M w0 r) GP (cat Tryz.f47 (pn 116)) m1::GP
def Q4:AS:=⟨[(1,iI v2),(5,.ref 22),(9,.sl (lm az v1.Kids)),(10,iI (v1.Kids.length:Int)),(11,iI v9)],[],[(22,⟨33,59,lm az v12⟩)],[22]⟩
def OL:AS:=⟨[(1,iI v2),(5,.ref 22),(9,.sl (lm az v1.Kids)),(10,iI (v1.Kids.length:Int)),(11,iI v9)],[],[(22,⟨33,59,lm az v10⟩)],[22]⟩
abbrev F4:Prop:=∀{v9:Int} {v10:(List ac)},L1 v9 v10=some r→LP (Gt M w0) (Ej M w0 r) GP (cat Tryz.f47 (pn 116)) m1 (OL v1 v2 v9 v10)
variable{M w0 r v1 v2 v9 v10 v12 m1 L1}{K:Kn}{n:Nat}
theorem HR(hK:am K)(hL1:F4 M w0 r v1 v2 m1 L1)(h:sP K n v1 v2 v9 L1 v12=some r):IH M w0 r (.b 1::uV 935::Cr M w0 r m1) (Q4 v1 v2 v9 v12):=by
 unfold sP at h;exact aj 2 (bd (hL1 h))
theorem acS(hK:am K)(hL1:F4 M w0 r v1 v2 m1 L1)(h:wj K n v1 v2 L1 v9 v10=some r):IH M w0 r (uV 116::Cr M w0 r m1) (OL v1 v2 v9 v10):=by
 unfold wj at h;refine ax 6 7 3 ?_;obtain⟨h13,h⟩|⟨h13,h⟩:=av h
 ·refine ak 12 h13 (cF 8 9 1 3 5 (ai 0 ?_));obtain⟨h14,h⟩:=aw h;refine ap (cc az aI h14 (dw) (cS)) (ae ?_);obtain⟨v11,h15,h⟩:=cf h;refine bq (ks':=uV 7475 :: .b 1::uV 935::Cr M w0 r m1) 2 ⟨[(1,iI v2),(5,.ref 22),(7,.ptr 7 0),(9,.sl (lm az v1.Kids)),(10,iI (v1.Kids.length:Int)),(11,iI v9),(18,.bool v11)],[(7,aI (gD v1.Kids v9))],[(22,⟨33,59,lm az v10⟩)],[7,22]⟩ ?_ (by subst h15;kernel_rfl);obtain⟨h16,h⟩|⟨h16,h⟩:=av h
  ·refine ak 18 h16 (ce 2 1 (ai 2 (ap (gV az ([(gD v1.Kids v9)]:List ac) (new:=[aI (gD v1.Kids v9)]) (by simp only[List.map_cons,List.map_nil,cS])) ?_)));obtain⟨h17,h⟩:=aw h;exact ap (c6 22 22 33 59 az (rfl) (dw) h17) (ae (aj 0 (HR hK hL1 h)))
  ·exact ak 18 h16 (aj 2 (HR hK hL1 h))
 ·refine ak 12 h13 (aW 8 ?_);cases h;exact d9
theorem TM(hK:am K)(m:Nat):F4 M w0 r v1 v2 m (rd K n v1 v2 m):=by
 induction m with
 | zero=>intro v9 v10 h;cases h
 | succ m ih=>intro v9 v10 h;have h:wj K n v1 v2 (rd K n v1 v2 m) v9 v10=some r:=h;exact aU (acS hK ih h)
theorem I5(hK:am K)(h:vB K n v1 v2=some r):aQ Tryz.prog 47 [.agg (aI v1),iI v2] (fun v s=>v=.ref 22∧look 22 s.r=some ⟨33,59,lm az r⟩):=by
 refine bF (cat Tryz.f47 (pn 1)) Tryz.func47 Tryz.ntmps47 fun M w0=>(bx ⟨[(0,.agg (aI v1)),(1,iI v2)],[],[],[]⟩ ?_);unfold vB at h;exact cm 28 29 15 6 (ai 2 (ap (bK az v1.Kids) (ae (ip 2 0 1 (bI [1,5,9,10,11] [] [] (eJ 22 5 33 59 (aj 0 (bP (p:=pn 58) n (TM hK n h)))))))))
end
noncomputable section
variable(M:Nat→Prop)(w0:aJ)(r v1:Int)  
variable{M w0 r v1}{K:Kn}{n:Nat}
theorem jw(hK:am K)(h:gC K n v1=some r):aQ Tryz.prog 51 [iI v1] (fun v _=>v=iI r):=by
 refine bF (cat Tryz.f51 (pn 1)) Tryz.func51 Tryz.ntmps51 fun M w0=>(bx ⟨[(0,iI v1)],[],[],[]⟩ ?_);unfold gC at h;refine aW 5 ?_;cases h;exact bW
end
noncomputable section
variable(M:Nat→Prop)(w0:aJ)(r:Int×Bool)(v1:ch)(v2 v4:Int)  
abbrev Zj(n:Nat):ao:=.c (cat Tryz.f34 (pn n))
abbrev QX:Cx:=⟨Tryz.prog,25,M,w0⟩
abbrev Uo:=bodyPost Tryz.prog Tryz.f34 (bX M w0 (fun v _=>v=.tup [iI r.1,.bool r.2]))
abbrev T7(ks:List ao)(s:AS):=VE (QX M w0) (Uo M w0 r) ks .normal s
def Qe:AS:=⟨[(6,iI v4)],[],[],[]⟩
variable{M w0 r v1 v2 v4}{K:Kn}{n:Nat}
theorem Jd(hK:am K)(h:pL K n v4=some r):T7 M w0 r [.b 0,Zj 15] (Qe v4):=by
 unfold pL at h;refine aW 4 ?_;cases h;exact eu
theorem fS(hK:am K)(h:eX K n v1 v2=some r):aQ Tryz.prog 34 [.agg (gJ v1),iI v2] (fun v _=>v=.tup [iI r.1,.bool r.2]):=by
 refine bF (cat Tryz.f34 (pn 1)) Tryz.func34 Tryz.ntmps34 fun M w0=>(bx ⟨[(0,.agg (gJ v1)),(1,iI v2)],[],[],[]⟩ ?_);unfold eX at h;refine gx 117 0 15 10 ?_;obtain⟨h1,h⟩|⟨h1,h⟩:=av h
 ·exact ak 11 h1 (aj 2 (Jd hK h))
 ·refine ak 11 h1 (ce 7 3 ?_);obtain⟨h2,h⟩|⟨h2,h⟩:=av h
  ·refine ak 13 h2 (ce 2 1 (ai 1 ?_));obtain⟨v3,h3,h⟩:=bind_some h;exact aK (jw hK h3) (ae (aj 0 (Jd hK h)))
  ·refine ak 13 h2 (aW 6 ?_);cases h;exact eu
end
noncomputable section
variable(M:Nat→Prop)(w0:aJ)(r:bO)(v1:aE)(v2 v3:Int)  
abbrev nO(n:Nat):ao:=.c (cat Tryz.f20 (pn n))
abbrev Tf:Cx:=⟨Tryz.prog,52,M,w0⟩
abbrev UA:=bodyPost Tryz.prog Tryz.f20 (bX M w0 (fun v _=>v=.agg (b9 r)))
abbrev xD(m:Nat):List ao:=kl (Tf M w0) (UA M w0 r) [.b 0,nO 15] (cat Tryz.f20 (pn 116)) m::[.b 0,nO 15]
variable{M w0 r v1 v2 v3}{K:Kn}{n:Nat}
theorem sL(hK:am K)(h:j8 K n v1 v2 v3=some r):aQ Tryz.prog 20 [.agg (aD v1),iI v2,iI v3] (fun v _=>v=.agg (b9 r)):=by
 refine bF (cat Tryz.f20 (pn 1)) Tryz.func20 Tryz.ntmps20 fun M w0=>(bx ⟨[(0,.agg (aD v1)),(1,iI v2),(2,iI v3)],[],[],[]⟩ ?_);unfold j8 at h;refine bq (ks':=[nO 58,.b 0,nO 15]) 8 ⟨[(1,iI v2),(3,.ptr 3 0),(6,.ptr 6 0),(7,.ptr 7 0),(13,iI 0)],[(3,aD v1),(6,b9 gv),(7,b9 ({ gv with Content:=v3 }:bO))],[],[3,6,7]⟩ (kz 40 (c:=cat Tryz.f20 [1,1,0,1,0,0]) (by kernel_rfl) (aU (df (ks':=nO 7474::nO 7475 :: .b 1::nO 935::xD M w0 r 39) 10 (ai 6 ?_))));obtain⟨v4,h1,h⟩:=bind_some h;refine aK (fS hK h1) (ae (ax 2 3 1 (ai 5 ?_)));obtain⟨v5,h2,h⟩:=bind_some h;refine aK (jw hK h2) (ae (ax 2 3 1 (ai 5 ?_)));obtain⟨v6,h3,h⟩:=bind_some h;refine aK (fS hK h3) (ae (bq (ks':=xD M w0 r 39) 3 ⟨[(1,iI v2),(3,.ptr 3 0),(6,.ptr 6 0),(7,.ptr 7 0),(13,iI 1)],[(3,aD v1),(6,b9 gv),(7,b9 (⟨⟨v4.1,0,0,0⟩,⟨v5,0,0,0⟩,⟨(max v6.1 0),0,0,0⟩,v3⟩:bO))],[],[3,6,7]⟩ (bd (aU (dK 114 115 1 15 10 (ai 6 ?_))))));obtain⟨v7,h4,h⟩:=bind_some h
 refine aK (fS hK h4) (ae (ax 2 3 1 (ai 5 ?_)));obtain⟨v8,h5,h⟩:=bind_some h;refine aK (jw hK h5) (ae (ax 2 3 1 (ai 5 ?_)));obtain⟨v9,h6,h⟩:=bind_some h;refine aK (fS hK h6) (ae (bq (ks':=xD M w0 r 38) 3 ⟨[(1,iI v2),(3,.ptr 3 0),(6,.ptr 6 0),(7,.ptr 7 0),(13,iI 2)],[(3,aD v1),(6,b9 gv),(7,b9 (⟨⟨v4.1,v7.1,0,0⟩,⟨v5,v8,0,0⟩,⟨(max v6.1 0),(max v9.1 0),0,0⟩,v3⟩:bO))],[],[3,6,7]⟩ (bd (aU (dK 114 115 1 15 10 (ai 6 ?_))))));obtain⟨v10,h7,h⟩:=bind_some h;refine aK (fS hK h7) (ae (ax 2 3 1 (ai 5 ?_)));obtain⟨v11,h8,h⟩:=bind_some h;refine aK (jw hK h8) (ae (ax 2 3 1 (ai 5 ?_)));obtain⟨v12,h9,h⟩:=bind_some h;refine aK (fS hK h9) (ae (bq (ks':=xD M w0 r 37) 3 ⟨[(1,iI v2),(3,.ptr 3 0),(6,.ptr 6 0),(7,.ptr 7 0),(13,iI 3)],[(3,aD v1),(6,b9 gv),(7,b9 (⟨⟨v4.1,v7.1,v10.1,0⟩,⟨v5,v8,v11,0⟩,⟨(max v6.1 0),(max v9.1 0),(max v12.1 0),0⟩,v3⟩:bO))],[],[3,6,7]⟩ (bd (aU (dK 114 115 1 15 10 (ai 6 ?_))))));obtain⟨v13,h10,h⟩:=bind_some h
 refine aK (fS hK h10) (ae (ax 2 3 1 (ai 5 ?_)));obtain⟨v14,h11,h⟩:=bind_some h;refine aK (jw hK h11) (ae (ax 2 3 1 (ai 5 ?_)));obtain⟨v15,h12,h⟩:=bind_some h;refine aK (fS hK h12) (ae (bq (ks':=xD M w0 r 36) 3 ⟨[(1,iI v2),(3,.ptr 3 0),(6,.ptr 6 0),(7,.ptr 7 0),(13,iI 4)],[(3,aD v1),(6,b9 gv),(7,b9 (⟨⟨v4.1,v7.1,v10.1,v13.1⟩,⟨v5,v8,v11,v14⟩,⟨(max v6.1 0),(max v9.1 0),(max v12.1 0),(max v15.1 0)⟩,v3⟩:bO))],[],[3,6,7]⟩ (bd (aU (aW 11 ?_)))));cases h;exact bW
end
noncomputable section
variable(M:Nat→Prop)(w0:aJ)(r:Int)(v1:aE)(v2 v3 v5 v7:Int)  
abbrev Kx(n:Nat):ao:=.c (cat Tryz.f21 (pn n))
abbrev Qq:Cx:=⟨Tryz.prog,37,M,w0⟩
abbrev RX:=bodyPost Tryz.prog Tryz.f21 (bX M w0 (fun v _=>v=iI r))
abbrev Nv(ks:List ao)(s:AS):=VE (Qq M w0) (RX M w0 r) ks .normal s
def abf:AS:=⟨[(2,iI v7)],[],[],[]⟩
def Ss:AS:=⟨[(1,iI v2),(2,iI v5),(3,.ptr 3 0)],[(3,aD v1)],[],[3]⟩
variable{M w0 r v1 v2 v3 v5 v7}{K:Kn}{n:Nat}
theorem N8(hK:am K)(h:ut K n v7=some r):Nv M w0 r [Kx 31] (abf v7):=by
 unfold ut at h;refine aW 3 ?_;cases h;exact bW
theorem OV(hK:am K)(h:ub K n v1 v2 v5=some r):Nv M w0 r [Kx 15] (Ss v1 v2 v5):=by
 unfold ub at h;refine cm 4 5 3 2 (ai 3 ?_);obtain⟨v6,h3,h⟩:=bind_some h;refine aK (fS hK h3) (ae (ce 3 2 ?_));obtain⟨h4,h⟩|⟨h4,h⟩:=av h
 ·exact ak 32 h4 (aj 2 (N8 hK h))
 ·exact ak 32 h4 (aj 2 (N8 hK h))
theorem tx(hK:am K)(h:lF K n v1 v2 v3=some r):aQ Tryz.prog 21 [.agg (aD v1),iI v2,iI v3] (fun v _=>v=iI r):=by
 refine bF (cat Tryz.f21 (pn 1)) Tryz.func21 Tryz.ntmps21 fun M w0=>(bx ⟨[(0,.agg (aD v1)),(1,iI v2),(2,iI v3)],[],[],[]⟩ ?_);unfold lF at h;refine cm 28 29 15 6 (ai 3 ?_);obtain⟨v4,h1,h⟩:=bind_some h;refine aK (fS hK h1) (ae (ce 3 2 ?_));obtain⟨h2,h⟩|⟨h2,h⟩:=av h
 ·exact ak 20 h2 (aj 2 (OV hK h))
 ·exact ak 20 h2 (aj 2 (OV hK h))
end
noncomputable section
variable(M:Nat→Prop)(w0:aJ)(r:Int)(v1:bO)  
variable{M w0 r v1}{K:Kn}{n:Nat}
theorem ns(hK:am K)(h:j0 K n v1=some r):aQ Tryz.prog 22 [.agg (b9 v1)] (fun v _=>v=iI r):=by
 refine bF (cat Tryz.f22 (pn 1)) Tryz.func22 Tryz.ntmps22 fun M w0=>(bx ⟨[(0,.agg (b9 v1))],[],[],[]⟩ ?_);unfold j0 at h;refine aW 5 ?_;cases h;exact bW
end
end Go.Proofs.YtolhpahjgddjkaaGreat

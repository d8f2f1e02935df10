/- The runs of the functions that TableWidths reaches do what their plain forms say, part 3. Made by a program. -/
import Derived.Test.YtolhpahjgddjkaaGreatCwGk
import Derived.Test.YtolhpahjgddjkaaGreatCwP2
namespace Go.Proofs.YtolhpahjgddjkaaGreat
open Go.RowKit
set_option maxRecDepth 20000
set_option linter.all false
set_option linter.unusedVariables false
set_option linter.unusedSimpArgs false
noncomputable section
variable(M:Nat→Prop)(w0:aJ)(r:ag)(v1:ac)(v2:Int)(v3:c8)(v4:cT)(v5:Int×Int)(v10 v11:Int)(v12:List Int)(v13:List ah)(v24:Int)(v25:List Int)(v26:List (ag×Option (List ag)))(v37:Int)(v38:List ah)(v39:List Int)(v41:List ah)(v42 v43:(List Int))(v46 v47:Int)(v48:List (ag×Option (List ag)))(v94:Int)(v95 v96:(List (ag×Option (List ag))))(v97:List ag)(v98:aE)(v99 v100:bj)(v101:Bool)(v102:List (ag×Option (List ag)))(v103 v105 v106:Int)(v107:List ag)(v110:List (ag×Option (List ag)))(v111:bO)(v113:Int)(v114 v115:bj)(v116 v117 v119:Int)(v120:List (ag×Option (List ag)))(m1 m2 m3 m4 m5 m6:Nat)(L1:Int→(List Int)→(List (ag×Option (List ag)))→Option ag)(L2:Int→(List ah)→(List Int)→Option ag)(L3:Int→Int→(List (ag×Option (List ag)))→Option ag)(L4:Int→(List (ag×Option (List ag)))→(List (ag×Option (List ag)))→Option ag)(L5:Int→(List ag)→Option ag)(L6:Int→(List (ag×Option (List ag)))→Option ag)
abbrev iy:Cx:=⟨Tryz.prog,391,M,w0⟩
abbrev iD:=bodyPost Tryz.prog Tryz.f11 (bX M w0 (fun v s=>v=.agg (List.set (aZ ({ r with Kids:=[] }:ag)) 66 (.ref 440028))∧look 440028 s.r=some ⟨55,67,lm ay r.Kids⟩))
abbrev jC(ks:List ao)(s:AS):=VE (iy M w0) (iD M w0 r) ks .normal s
abbrev dL(n:Nat):ao:=.c (cat Tryz.f11 (pn n))
abbrev EN:List ao:=[.b 11,dL 536870911]
abbrev H6:List ao:=kl (iy M w0) (iD M w0 r) EN (cat Tryz.f11 (pn 4294967284)) m6::EN
abbrev CK:List ao:=[.b 6,dL 524287]
abbrev rm:List ao:=kl (iy M w0) (iD M w0 r) CK (cat Tryz.f11 (pn 4194292)) m4::CK
abbrev GL:List ao:=[.b 4,dL 262143]
abbrev Jj:List ao:=kl (iy M w0) (iD M w0 r) GL (cat Tryz.f11 (pn 2097140)) m3::GL
abbrev CD:List ao:=[.b 2,dL 16383]
abbrev NC:List ao:=kl (iy M w0) (iD M w0 r) CD (cat Tryz.f11 (pn 131060)) m2::CD
abbrev Ff:List ao:=[.b 0,dL 4095]
abbrev I3:List ao:=kl (iy M w0) (iD M w0 r) Ff (cat Tryz.f11 (pn 32756)) m1::Ff
abbrev Cb:List ao:=.b 9::dL 8589911679 :: .b 7::dL 33554343::rm M w0 r m4
abbrev abs:List ao:=kl (iy M w0) (iD M w0 r) (Cb M w0 r m4) (cat Tryz.f11 (pn 68719293428)) m5::(Cb M w0 r m4)
def X4:AS:=⟨[(1,iI v2),(3,.ptr 3 0),(6,.ptr 6 0),(7,.ptr 7 0),(12,iI (max v11 v5.1)),(14,.ref 1084),(15,.ref 500015),(16,.sl (lm (ab .i64) v25)),(22,.ref 1131),(133,.sl (lm az v4.rows)),(134,iI (v4.rows.length:Int)),(135,iI v37)],[(3,aI v1),(6,List.set (aZ bQ) 66 (.nils)),(7,fU v4)],[(1084,⟨67,4,lm aA v41⟩),(1131,⟨3,1,lm (ab .i64) v42⟩),(500015,⟨55,67,lm (bi ay 66 55 67 ay) v26⟩)],[3,6,7,1084,1131,500015]⟩
def XV:AS:=⟨[(1,iI v2),(3,.ptr 3 0),(6,.ptr 6 0),(12,iI (max v11 v5.1)),(14,.sl (lm aA v38)),(16,.sl (lm (ab .i64) v25)),(27,.sl (lm (ab .i64) v43)),(28,.ptr 28 0),(29,iI v46),(200,.ref 500015),(201,iI (v26.length:Int)),(202,iI v94)],[(3,aI v1),(6,List.set (aZ bQ) 66 (.nils)),(28,List.set (aZ ({ bQ with Kind:=1,Node:=v1.Node,Style:=v1.Style }:ag)) 66 (.ref 500028))],[(500015,⟨55,67,lm (bi ay 66 55 67 ay) v102⟩),(500028,⟨55,67,lm (bi ay 66 55 67 ay) v110⟩)],[3,6,28,500015,500028]⟩
def Ku:AS:=⟨[(1,iI v2),(3,.ptr 3 0),(6,.ptr 6 0),(12,iI (max v11 v5.1)),(14,.sl (lm aA v38)),(16,.sl (lm (ab .i64) v25)),(27,.sl (lm (ab .i64) v43)),(28,.ptr 28 0),(29,iI v46),(33,.ptr 33 0),(34,.ptr 34 0),(36,iI v105),(200,.ref 500015),(201,iI (v26.length:Int)),(202,iI v94),(242,iI (v97.length:Int)),(243,iI v106)],[(3,aI v1),(6,List.set (aZ bQ) 66 (.nils)),(28,List.set (aZ ({ bQ with Kind:=1,Node:=v1.Node,Style:=v1.Style }:ag)) 66 (.ref 500028)),(33,List.set (aZ ({ ((gD v95 v94).1)with H:=v103,Style:=v98,Before:=v99,After:=v100,Empty:=v101,Kids:=[] }:ag)) 66 (.ref 420206)),(34,aA (gD v38 v94))],[(420206,⟨55,67,lm ay v107⟩),(500015,⟨55,67,lm (bi ay 66 55 67 ay) v102⟩),(500028,⟨55,67,lm (bi ay 66 55 67 ay) v96⟩)],[3,6,28,33,34,420206,500015,500028]⟩
def Tx:AS:=⟨[(1,iI v2),(3,.ptr 3 0),(6,.ptr 6 0),(12,iI (max v11 v5.1)),(14,.sl (lm aA v38)),(16,.sl (lm (ab .i64) v25)),(27,.sl (lm (ab .i64) v43)),(28,.ptr 28 0),(29,iI v46),(33,.ptr 33 0),(34,.ptr 34 0),(36,iI v105),(200,.ref 500015),(201,iI (v26.length:Int)),(202,iI v94)],[(3,aI v1),(6,List.set (aZ bQ) 66 (.nils)),(28,List.set (aZ ({ bQ with Kind:=1,Node:=v1.Node,Style:=v1.Style }:ag)) 66 (.ref 500028)),(33,List.set (aZ ({ ((gD v95 v94).1)with H:=v103,Style:=v98,Before:=v99,After:=v100,Empty:=v101,Kids:=[] }:ag)) 66 (.ref 420206)),(34,aA (gD v38 v94))],[(420206,⟨55,67,lm ay v97⟩),(500015,⟨55,67,lm (bi ay 66 55 67 ay) v102⟩),(500028,⟨55,67,lm (bi ay 66 55 67 ay) v96⟩)],[3,6,28,33,34,420206,500015,500028]⟩
def Ji:AS:=⟨[(6,.ptr 6 0),(28,.ptr 28 0),(39,.ptr 39 0),(353,iI (v96.length:Int)),(354,iI v119)],[(6,List.set (aZ bQ) 66 (.nils)),(28,List.set (aZ (⟨1,v1.Node,v111.Margin.a3,0,v116,(aa (v113+v117)),0,⟨#[]⟩,v1.Style,v114,v115,false,[]⟩:ag)) 66 (.ref 500028)),(39,b9 v111)],[(500028,⟨55,67,lm (bi ay 66 55 67 ay) v120⟩)],[6,28,39,500028]⟩
def W2:AS:=⟨[(6,.ptr 6 0),(28,.ptr 28 0),(29,iI v113),(39,.ptr 39 0)],[(6,List.set (aZ bQ) 66 (.nils)),(28,List.set (aZ ({ bQ with Kind:=1,Node:=v1.Node,Style:=v1.Style }:ag)) 66 (.ref 500028)),(39,b9 v111)],[(500028,⟨55,67,lm (bi ay 66 55 67 ay) v96⟩)],[6,28,39,500028]⟩
def Il:AS:=⟨[(1,iI v2),(3,.ptr 3 0),(6,.ptr 6 0),(12,iI (max v11 v5.1)),(14,.sl (lm aA v38)),(16,.sl (lm (ab .i64) v25)),(27,.sl (lm (ab .i64) v43)),(28,.ptr 28 0),(29,iI v46),(200,.ref 500015),(201,iI (v26.length:Int)),(202,iI v94)],[(3,aI v1),(6,List.set (aZ bQ) 66 (.nils)),(28,List.set (aZ ({ bQ with Kind:=1,Node:=v1.Node,Style:=v1.Style }:ag)) 66 (.ref 500028))],[(500015,⟨55,67,lm (bi ay 66 55 67 ay) v95⟩),(500028,⟨55,67,lm (bi ay 66 55 67 ay) v96⟩)],[3,6,28,500015,500028]⟩
def Hs:AS:=⟨[(1,iI v2),(3,.ptr 3 0),(6,.ptr 6 0),(12,iI (max v11 v5.1)),(14,.sl (lm aA v38)),(15,.ref 500015),(16,.sl (lm (ab .i64) v25)),(27,.ref 1163),(28,.ptr 28 0),(29,iI v46),(170,.sl (lm az v4.rows)),(171,iI (v4.rows.length:Int)),(172,iI v47)],[(3,aI v1),(6,List.set (aZ bQ) 66 (.nils)),(28,List.set (aZ ({ bQ with Kind:=1,Node:=v1.Node,Style:=v1.Style }:ag)) 66 (.ref 500028))],[(1163,⟨3,1,lm (ab .i64) v43⟩),(500015,⟨55,67,lm (bi ay 66 55 67 ay) v26⟩),(500028,⟨55,67,lm (bi ay 66 55 67 ay) v48⟩)],[3,6,28,1163,500015,500028]⟩
def MR:AS:=⟨[(1,iI v2),(3,.ptr 3 0),(6,.ptr 6 0),(7,.ptr 7 0),(12,iI (max v11 v5.1)),(14,.ref 1084),(15,.ref 500015),(16,.sl (lm (ab .i64) v25)),(22,.ref 1131),(133,.sl (lm az v4.rows)),(134,iI (v4.rows.length:Int)),(135,iI v37)],[(3,aI v1),(6,List.set (aZ bQ) 66 (.nils)),(7,fU v4)],[(1084,⟨67,4,lm aA v38⟩),(1131,⟨3,1,lm (ab .i64) v39⟩),(500015,⟨55,67,lm (bi ay 66 55 67 ay) v26⟩)],[3,6,7,1084,1131,500015]⟩
def Ic:AS:=⟨[(1,iI v2),(3,.ptr 3 0),(5,.ptr 5 0),(6,.ptr 6 0),(7,.ptr 7 0),(12,iI (max v11 v5.1)),(13,.sl (lm (ab .i64) v12)),(14,.ref 1084),(15,.ref 500015),(16,.ref 128),(86,.sl (lm az v4.cells)),(87,iI (v4.cells.length:Int)),(88,iI v24)],[(3,aI v1),(5,dC v3),(6,List.set (aZ bQ) 66 (.nils)),(7,fU v4)],[(128,⟨3,1,lm (ab .i64) v25⟩),(1084,⟨67,4,lm aA v13⟩),(500015,⟨55,67,lm (bi ay 66 55 67 ay) v26⟩)],[3,5,6,7,128,1084,500015]⟩
def UU:AS:=⟨[(1,iI v2),(3,.ptr 3 0),(5,.ptr 5 0),(6,.ptr 6 0),(7,.ptr 7 0),(8,iI v5.1),(10,iI v10)],[(3,aI v1),(5,dC v3),(6,List.set (aZ bQ) 66 (.nils)),(7,fU v4)],[],[3,5,6,7]⟩
abbrev ON:Prop:=∀{v24:Int} {v25:(List Int)} {v26:(List (ag×Option (List ag)))},L1 v24 v25 v26=some r→LP (iy M w0) (iD M w0 r) Ff (cat Tryz.f11 (pn 32756)) m1 (Ic v1 v2 v3 v4 v5 v11 v12 v13 v24 v25 v26)
abbrev Gq:Prop:=∀{v37:Int} {v38:(List ah)} {v39:(List Int)},L2 v37 v38 v39=some r→LP (iy M w0) (iD M w0 r) CD (cat Tryz.f11 (pn 131060)) m2 (MR v1 v2 v4 v5 v11 v25 v26 v37 v38 v39)
abbrev NV:Prop:=∀{v46:Int} {v47:Int} {v48:(List (ag×Option (List ag)))},L3 v46 v47 v48=some r→LP (iy M w0) (iD M w0 r) GL (cat Tryz.f11 (pn 2097140)) m3 (Hs v1 v2 v4 v5 v11 v25 v26 v38 v43 v46 v47 v48)
abbrev sS:Prop:=∀{v94:Int} {v95:(List (ag×Option (List ag)))} {v96:(List (ag×Option (List ag)))},L4 v94 v95 v96=some r→LP (iy M w0) (iD M w0 r) CK (cat Tryz.f11 (pn 4194292)) m4 (Il v1 v2 v5 v11 v25 v26 v38 v43 v46 v94 v95 v96)
abbrev KW:Prop:=∀{v106:Int} {v107:(List ag)},L5 v106 v107=some r→LP (iy M w0) (iD M w0 r) (Cb M w0 r m4) (cat Tryz.f11 (pn 68719293428)) m5 (Ku v1 v2 v5 v11 v25 v26 v38 v43 v46 v94 v95 v96 v97 v98 v99 v100 v101 v102 v103 v105 v106 v107)
abbrev HO:Prop:=∀{v119:Int} {v120:(List (ag×Option (List ag)))},L6 v119 v120=some r→LP (iy M w0) (iD M w0 r) EN (cat Tryz.f11 (pn 4294967284)) m6 (Ji v1 v96 v111 v113 v114 v115 v116 v117 v119 v120)
variable{M w0 r v1 v2 v3 v4 v5 v10 v11 v12 v13 v24 v25 v26 v37 v38 v39 v41 v42 v43 v46 v47 v48 v94 v95 v96 v97 v98 v99 v100 v101 v102 v103 v105 v106 v107 v110 v111 v113 v114 v115 v116 v117 v119 v120 m1 m2 m3 m4 m5 m6 L1 L2 L3 L4 L5 L6}{K:Kn}{n:Nat}
theorem O0(hK:am K)(hL2:Gq M w0 r v1 v2 v4 v5 v11 v25 v26 m2 L2)(h:vC K n v1 v2 v4 v5 v11 v25 v26 v37 L2 v41 v42=some r):jC M w0 r (.b 3::dL 1048487::NC M w0 r m2) (X4 v1 v2 v4 v5 v11 v25 v26 v37 v41 v42):=by
 unfold vC at h;exact aj 2 (bd (hL2 h))
theorem Om(hK:am K)(hL4:sS M w0 r v1 v2 v5 v11 v25 v26 v38 v43 v46 m4 L4)(h:vX K n v1 v2 v5 v11 v25 v26 v38 v43 v46 v94 v102 L4 v110=some r):jC M w0 r (dL 33554343::rm M w0 r m4) (XV v1 v2 v5 v11 v25 v26 v38 v43 v46 v94 v102 v110):=by
 unfold vX at h;exact aj 1 (bd (hL4 h))
theorem T8(hK:am K)(hL4:sS M w0 r v1 v2 v5 v11 v25 v26 v38 v43 v46 m4 L4)(hL5:KW M w0 r v1 v2 v5 v11 v25 v26 v38 v43 v46 v94 v95 v96 v97 v98 v99 v100 v101 v102 v103 v105 m4 m5 L5)(h:wW K n v1 v2 v5 v11 v25 v26 v38 v43 v46 v94 v95 v96 v97 v98 v99 v100 v101 v102 v103 v105 L4 L5 v106 v107=some r):jC M w0 r (dL 68719293428::abs M w0 r m4 m5) (Ku v1 v2 v5 v11 v25 v26 v38 v43 v46 v94 v95 v96 v97 v98 v99 v100 v101 v102 v103 v105 v106 v107):=by
 unfold wW at h;refine ax 6 7 3 ?_;obtain⟨h175,h⟩|⟨h175,h⟩:=av h
 ·refine ak 244 h175 (iv 9 10 3 6 (ai 3 ?_));obtain⟨h176,h⟩:=aw h;refine ap (bZ 420206 67 ay h176) (br 5 1 (ap (bE 3 3 ay aZ (aR h176).2 (dP)) (br 8 2 ?_)));obtain⟨h177,h⟩:=aw h;exact ap (bZ 420206 67 ay h177) (br 10 1 (ap (du 420206 55 67 3 ay aZ ({ (gD v107 v106)with Y:=(aa (((gD v107 v106).Y)+v105)) }:ag) (aR h177).2 (dP)) (ae (aj 2 (bd (hL5 h))))))
 ·refine ak 244 h175 (eG 2 3 6 (bI [1,3,6,12,14,16,27,28,29,33,34,200,201,202] [3,6,28,33,34] [420206,500015,500028] ?_));refine MQ ?_ ?_
  ·have h:=xN rfl h;obtain⟨h178,h⟩:=aw h;obtain⟨v108,h179,h⟩:=bind_some h;refine ax 4 5 2 (bI [1,3,6,12,14,16,27,28,29,33,34,200,201,202,258] [3,6,28,33,34] [420206,500015,500028] ?_);refine yY 500028 430258 258 28 66 55 67 66 55 67 ay ay v96 ((gD v38 v94).Row).toNat v108 (.bool true) (aR h178).2 h179 fM (fun x15=>?_);obtain⟨h180,h⟩:=aw h;refine yU 10 0 [(259,.ptr 28 66),(260,.ref 500028),(261,.ptr 34 0),(262,iI ((gD v38 v94).Row)),(263,.eptr 500028 67 (((gD v38 v94).Row).toNat) 0),(264,.eptr 500028 67 (((gD v38 v94).Row).toNat) 66),(265,.ref 430258),(266,.agg (List.set (aZ ({ ((gD v95 v94).1)with H:=v103,Style:=v98,Before:=v99,After:=v100,Empty:=v101,Kids:=[] }:ag)) 66 (.ref 420206))),(267,iI (v108.length:Int)),(268,.sl (lm ay [bQ]))] [] [] [] (aF (vz 4) (bt (kj 500028 67 ((gD v38 v94).Row).toNat 66 (bi ay 66 55 67 ay) (.vv x15) (L:=v96) (i:=((gD v38 v94).Row)) (by simpa only[List.length_set]using h180)) (aF [.v 0 1] (aC (Al 0 265 258 430258 (b:=⟨55,67,lm ay v108⟩) (zK 53 500028 67 66 55 67 ay aZ ay x15 (L:=v96) (j:=((gD v38 v94).Row).toNat) (aR h180).2 dP)) (aF [.v 0 1] (bt (bK ay v108) (bt (gV ay ([bQ]:List ag) (new:=[aZ bQ]) (by simp only[List.map_cons,List.map_nil,dP])) (sj)))))))) ?_
   obtain⟨h181,h⟩:=aw h;refine ap (c6 269 430258 55 67 ay (rfl) (fM) h181) ?_;obtain⟨h182,h⟩:=aw h;refine ap (kj 500028 67 ((gD v38 v94).Row).toNat 66 (bi ay 66 55 67 ay) (.vv x15) (L:=v96) (i:=((gD v38 v94).Row)) h182) (br 13 1 ?_);refine pg 430258 258 (c0:=.any) (kR 269 0 (by kernel_rfl)) (fun x16=>?_);refine uS 269 258 (tid:=430258) (x:=x16) (c:=.ref 430258) (ap (BB 500028 55 67 66 55 67 ay ay (.vv x15) x16 (L:=v96) (j:=((gD v38 v94).Row).toNat) (aR h182).2 fM) (zi 269 258 (tid:=430258) (x:=x16) (b:=⟨55,67,lm ay (v108++[bQ])⟩) (ae (ai 0 ?_))));obtain⟨h183,h⟩:=aw h;exact ap (bZ 430258 67 ay h183) (eO 420206 (ap (du 430258 55 67 0 ay aZ ({ ((gD v95 v94).1)with H:=v103,Style:=v98,Before:=v99,After:=v100,Empty:=v101,Kids:=v107 }:ag) (aR h183).2 (dP)) (yz 500028 430258 258 28 66 55 67 66 55 67 ay ay v96 ((gD v38 v94).Row).toNat (List.set (v108++[bQ]) ((v108.length:Int)).toNat ({ ((gD v95 v94).1)with H:=v103,Style:=v98,Before:=v99,After:=v100,Empty:=v101,Kids:=v107 }:ag)) x16 (aR h182).2 fM (ae (aj 1 (Om hK hL4 h))))))
  ·have h:=xu h;obtain⟨h184,h⟩:=aw h;obtain⟨v109,h185,h⟩:=bind_some h;refine ce 3 1 (bI [1,3,6,12,14,16,27,28,29,33,34,200,201,202,258] [3,6,28,33,34] [420206,500015,500028] ?_);refine yY 500028 430258 258 28 66 55 67 66 55 67 ay ay v96 ((gD v38 v94).Row).toNat v109 (.bool false) (aR h184).2 h185 fM (fun x17=>?_);refine ku 420206 ?_;obtain⟨h187,h⟩:=aw h;obtain⟨h188,h⟩:=aw h;refine yU 14 1 [(273,.ptr 28 66),(274,.ref 500028),(275,.ptr 34 0),(276,iI ((gD v38 v94).Row)),(277,.ptr 28 66),(278,.ref 500028),(279,.ptr 34 0),(280,iI ((gD v38 v94).Row)),(281,.eptr 500028 67 (((gD v38 v94).Row).toNat) 0),(282,.eptr 500028 67 (((gD v38 v94).Row).toNat) 66),(283,.ref 430258),(284,.agg (aZ ({ ((gD v95 v94).1)with H:=v103,Style:=v98,Before:=v99,After:=v100,Empty:=v101,Kids:=v107 }:ag))),(285,.sl (lm ay [({ ((gD v95 v94).1)with H:=v103,Style:=v98,Before:=v99,After:=v100,Empty:=v101,Kids:=v107 }:ag)]))] [] [] [fZ 286 430258 ⟨55,67,lm ay (v109++[({ ((gD v95 v94).1)with H:=v103,Style:=v98,Before:=v99,After:=v100,Empty:=v101,Kids:=v107 }:ag)])⟩] (aF [.v 0 2,.v 0 2,.v 0 2,.v 0 2,.v 0 2,.v 0 2,.v 0 2,.v 0 2] (aC (d4 (lo:=0) (k:=2) (cy ⟨(by kernel_rfl),(cE (kj 500028 67 ((gD v38 v94).Row).toNat 66 (bi ay 66 55 67 ay) (.vv x17) (L:=v96) (i:=((gD v38 v94).Row)) (by simpa only[List.length_set]using h187)) (by kernel_rfl))⟩ (cy ⟨(by kernel_rfl),(cE (kj 500028 67 ((gD v38 v94).Row).toNat 66 (bi ay 66 55 67 ay) (.vv x17) (L:=v96) (i:=((gD v38 v94).Row)) (by simpa only[List.length_set]using h187)) (by kernel_rfl))⟩ d8))) (aF [.v 0 2] (aC (Al 0 283 258 430258 (b:=⟨55,67,lm ay v109⟩) (zK 53 500028 67 66 55 67 ay aZ ay x17 (L:=v96) (j:=((gD v38 v94).Row).toNat) (aR h187).2 dP)) (aF [.v 0 2] (bt (gV ay ([({ ((gD v95 v94).1)with H:=v103,Style:=v98,Before:=v99,After:=v100,Empty:=v101,Kids:=v107 }:ag)]:List ag) (new:=[aZ ({ ((gD v95 v94).1)with H:=v103,Style:=v98,Before:=v99,After:=v100,Empty:=v101,Kids:=v107 }:ag)]) (by simp only[List.map_cons,List.map_nil,dP])) (aC (c7 (m:=0) (c6 286 430258 55 67 ay (rfl) (fM) h188)) (sj)))))))) ?_
   obtain⟨h189,h⟩:=aw h;refine ap (kj 500028 67 ((gD v38 v94).Row).toNat 66 (bi ay 66 55 67 ay) (.vv x17) (L:=v96) (i:=((gD v38 v94).Row)) h189) (br 16 1 ?_);refine pg 430258 258 (c0:=.any) (kR 286 0 (by kernel_rfl)) (fun x18=>?_);exact uS 286 258 (tid:=430258) (x:=x18) (c:=.ref 430258) (ap (BB 500028 55 67 66 55 67 ay ay (.vv x17) x18 (L:=v96) (j:=((gD v38 v94).Row).toNat) (aR h189).2 fM) (zi 286 258 (tid:=430258) (x:=x18) (b:=⟨55,67,lm ay (v109++[({ ((gD v95 v94).1)with H:=v103,Style:=v98,Before:=v99,After:=v100,Empty:=v101,Kids:=v107 }:ag)])⟩) (yz 500028 430258 258 28 66 55 67 66 55 67 ay ay v96 ((gD v38 v94).Row).toNat (v109++[({ ((gD v95 v94).1)with H:=v103,Style:=v98,Before:=v99,After:=v100,Empty:=v101,Kids:=v107 }:ag)]) x18 (aR h189).2 fM (ae (aj 1 (Om hK hL4 h))))))
theorem SA(hK:am K)(hL4:sS M w0 r v1 v2 v5 v11 v25 v26 v38 v43 v46 m4 L4)(m:Nat):KW M w0 r v1 v2 v5 v11 v25 v26 v38 v43 v46 v94 v95 v96 v97 v98 v99 v100 v101 v102 v103 v105 m4 m (qF K n v1 v2 v5 v11 v25 v26 v38 v43 v46 v94 v95 v96 v97 v98 v99 v100 v101 v102 v103 v105 L4 m):=by
 induction m with
 | zero=>intro v106 v107 h;cases h
 | succ m ih=>intro v106 v107 h;have h:wW K n v1 v2 v5 v11 v25 v26 v38 v43 v46 v94 v95 v96 v97 v98 v99 v100 v101 v102 v103 v105 L4 (qF K n v1 v2 v5 v11 v25 v26 v38 v43 v46 v94 v95 v96 v97 v98 v99 v100 v101 v102 v103 v105 L4 m) v106 v107=some r:=h;exact aU (T8 hK hL4 ih h)
theorem GZ(hK:am K)(hL4:sS M w0 r v1 v2 v5 v11 v25 v26 v38 v43 v46 m4 L4)(h:nG K n v1 v2 v5 v11 v25 v26 v38 v43 v46 v94 v95 v96 v97 v98 v99 v100 v101 v102 v103 L4 v105=some r):jC M w0 r (.b 8::dL 4294955839 :: .b 7::dL 33554343::rm M w0 r m4) (Tx v1 v2 v5 v11 v25 v26 v38 v43 v46 v94 v95 v96 v97 v98 v99 v100 v101 v102 v103 v105):=by
 unfold nG at h;exact py 4 5 3 3 (ai 2 (ap (bK ay v97) (ae (aj 1 (bP (p:=pn 34359646714) n (SA hK hL4 n h))))))
theorem acT(hK:am K)(hL6:HO M w0 r v1 v96 v111 v113 v114 v115 v116 v117 m6 L6)(h:t5 K n v1 v96 v111 v113 v114 v115 v116 v117 L6 v119 v120=some r):jC M w0 r (dL 4294967284::H6 M w0 r m6) (Ji v1 v96 v111 v113 v114 v115 v116 v117 v119 v120):=by
 unfold t5 at h;refine ax 6 7 3 ?_;obtain⟨h203,h⟩|⟨h203,h⟩:=av h
 ·refine ak 355 h203 (cF 18 19 12 3 7 (bI [6,28,39,42,353,354] [6,28,39] [500028] ?_));obtain⟨h204,h⟩:=aw h;obtain⟨h205,h⟩:=aw h;refine co 1 (nu 357 [.ptr 28 66,.ref 500028,iI v119,.eptr 500028 67 (v119.toNat) 0,.eptr 500028 67 (v119.toNat) 2,iI (((gD v120 v119).1).X),.ptr 39 4,.ptr 39 7,iI v111.Border.a3,.ptr 39 8,.ptr 39 11,iI v111.Padding.a3,iI (aa (v111.Border.a3+v111.Padding.a3)),iI (aa ((((gD v120 v119).1).X)+(aa (v111.Border.a3+v111.Padding.a3)))),.eptr 500028 67 (v119.toNat) 0,.eptr 500028 67 (v119.toNat) 2]) [] [] [cD 500028 ⟨55,67,lm (bi ay 66 55 67 ay) (List.set v120 v119.toNat (({ ((gD v120 v119).1)with X:=(aa ((((gD v120 v119).1).X)+(aa (v111.Border.a3+v111.Padding.a3)))) }:ag),(gD v120 v119).2))⟩] (aF (vz 3) (bt (bT 500028 67 (bi ay 66 55 67 ay) (L:=v120) h204) (aF [.v 0 1] (bt (MG 3 500028 67 2 66 55 67 ay aZ ay (L:=v120) (j:=v119.toNat) (aR h205).2 dP) (aF (vz 8) (aC (d4 (lo:=0) (k:=2) (cy ⟨(by kernel_rfl),(cE (bT 500028 67 (bi ay 66 55 67 ay) (L:=v120) h205) (by kernel_rfl))⟩ (cy ⟨(by kernel_rfl),(cE (bT 500028 67 (bi ay 66 55 67 ay) (L:=(List.set v120 v119.toNat (({ ((gD v120 v119).1)with X:=(aa ((((gD v120 v119).1).X)+(aa (v111.Border.a3+v111.Padding.a3)))) }:ag),(gD v120 v119).2))) h205) (by kernel_rfl))⟩ d8))) (aF [.v 0 1] (aC (c7 (m:=0) (MM 500028 55 67 2 66 55 67 ay aZ ay (L:=v120) (j:=v119.toNat) ({ ((gD v120 v119).1)with X:=(aa ((((gD v120 v119).1).X)+(aa (v111.Border.a3+v111.Padding.a3)))) }:ag) (aR h205).2 dP)) cp)))))))) ?_
  obtain⟨v121,h206,h⟩:=cf h;refine bq (ks':=dL 274877906227 :: .b 12::dL 34359738279::H6 M w0 r m6) 0 ⟨[(6,.ptr 6 0),(28,.ptr 28 0),(39,.ptr 39 0),(42,iI v119),(353,iI (v96.length:Int)),(354,iI v119)],[(6,List.set (aZ bQ) 66 (.nils)),(28,List.set (aZ (⟨1,v1.Node,v111.Margin.a3,0,v116,(aa (v113+v117)),0,⟨#[]⟩,v1.Style,v114,v115,false,[]⟩:ag)) 66 (.ref 500028)),(39,b9 v111)],[(500028,⟨55,67,lm (bi ay 66 55 67 ay) v121⟩)],[6,28,39,500028]⟩ ?_ (by subst h206;kernel_rfl);obtain⟨h207,h⟩:=aw h;obtain⟨h208,h⟩:=aw h;exact co 1 (nu 373 [.ptr 28 66,.ref 500028,iI v119,.eptr 500028 67 (v119.toNat) 0,.eptr 500028 67 (v119.toNat) 3,iI (((gD v121 v119).1).Y),.ptr 39 4,.ptr 39 4,iI v111.Border.a0,.ptr 39 8,.ptr 39 8,iI v111.Padding.a0,iI (aa (v111.Border.a0+v111.Padding.a0)),iI (aa ((((gD v121 v119).1).Y)+(aa (v111.Border.a0+v111.Padding.a0)))),.eptr 500028 67 (v119.toNat) 0,.eptr 500028 67 (v119.toNat) 3]) [] [] [cD 500028 ⟨55,67,lm (bi ay 66 55 67 ay) (List.set v121 v119.toNat (({ ((gD v121 v119).1)with Y:=(aa ((((gD v121 v119).1).Y)+(aa (v111.Border.a0+v111.Padding.a0)))) }:ag),(gD v121 v119).2))⟩] (aF (vz 3) (bt (bT 500028 67 (bi ay 66 55 67 ay) (L:=v121) h207) (aF [.v 0 1] (bt (MG 3 500028 67 3 66 55 67 ay aZ ay (L:=v121) (j:=v119.toNat) (aR h208).2 dP) (aF (vz 8) (aC (d4 (lo:=0) (k:=2) (cy ⟨(by kernel_rfl),(cE (bT 500028 67 (bi ay 66 55 67 ay) (L:=v121) h208) (by kernel_rfl))⟩ (cy ⟨(by kernel_rfl),(cE (bT 500028 67 (bi ay 66 55 67 ay) (L:=(List.set v121 v119.toNat (({ ((gD v121 v119).1)with Y:=(aa ((((gD v121 v119).1).Y)+(aa (v111.Border.a0+v111.Padding.a0)))) }:ag),(gD v121 v119).2))) h208) (by kernel_rfl))⟩ d8))) (aF [.v 0 1] (aC (c7 (m:=0) (MM 500028 55 67 3 66 55 67 ay aZ ay (L:=v121) (j:=v119.toNat) ({ ((gD v121 v119).1)with Y:=(aa ((((gD v121 v119).1).Y)+(aa (v111.Border.a0+v111.Padding.a0)))) }:ag) (aR h208).2 dP)) cp)))))))) (aj 2 (bd (hL6 h)))
 ·refine ak 355 h203 ?_;obtain⟨h209,h⟩:=aw h;refine aW 8 (I6 500028 440028 55 67 66 55 67 ay ay v120 JN TF UZ WO h209 ?_);cases h;exact d9
theorem Tt(hK:am K)(m:Nat):HO M w0 r v1 v96 v111 v113 v114 v115 v116 v117 m (sx K n v1 v96 v111 v113 v114 v115 v116 v117 m):=by
 induction m with
 | zero=>intro v119 v120 h;cases h
 | succ m ih=>intro v119 v120 h;have h:t5 K n v1 v96 v111 v113 v114 v115 v116 v117 (sx K n v1 v96 v111 v113 v114 v115 v116 v117 m) v119 v120=some r:=h;exact aU (acT hK ih h)
theorem Ph(hK:am K)(h:l7 K n v1 v96 v111 v113=some r):jC M w0 r [dL 16777215] (W2 v1 v96 v111 v113):=by
 unfold l7 at h;refine ax 6 7 3 (bI [6,28,29,39] [6,28,39] [500028] ?_);obtain⟨v114,h193,h⟩:=bind_some h;obtain⟨v115,h194,h⟩:=bind_some h;refine co 2 (nu 317 [.ptr 39 0,.ptr 39 0,iI v111.Margin.a0,.agg (db v114),.ptr 39 0,.ptr 39 2,iI v111.Margin.a2,.agg (db v115),.ptr 28 61,.ptr 28 63]) [] [] [cw Tryz.prog 391 Tryz.f11 (pn 67108862) 9,cw Tryz.prog 391 Tryz.f11 (pn 67108862) 11] (aF (vz 3) (aC (cM 0 1 320 (Ax hK h193)) (aF [.v 0 2,.v 0 2,.v 0 2] (aC (cM 0 1 324 (Ax hK h194)) (aF [.v 0 1] (aC (cG 0) (aF [.v 1 1] (aC (cG 1) cp)))))))) ?_;obtain⟨v116,h195,h⟩:=cf h;refine bq (ks':=[dL 268435454,dL 268435455]) 3 ⟨[(6,.ptr 6 0),(28,.ptr 28 0),(29,iI v113),(39,.ptr 39 0)],[(6,List.set (aZ bQ) 66 (.nils)),(28,List.set (aZ (⟨1,v1.Node,v111.Margin.a3,0,v116,0,0,⟨#[]⟩,v1.Style,v114,v115,false,[]⟩:ag)) 66 (.ref 500028)),(39,b9 v111)],[(500028,⟨55,67,lm (bi ay 66 55 67 ay) v96⟩)],[6,28,39,500028]⟩ ?_ (by subst h195;kernel_rfl)
 refine ai 2 ?_;obtain⟨v117,h196,h⟩:=bind_some h;exact aK (LC hK h196) (ae (cm 4 5 3 2 (ai 2 (ap (bK (bi ay 66 55 67 ay) v96) (ae (aj 1 (bP (p:=pn 2147483642) n (Tt hK n h))))))))
theorem adj(hK:am K)(hL4:sS M w0 r v1 v2 v5 v11 v25 v26 v38 v43 v46 m4 L4)(h:xB K n v1 v2 v5 v11 v25 v26 v38 v43 v46 L4 v94 v95 v96=some r):jC M w0 r (dL 4194292::rm M w0 r m4) (Il v1 v2 v5 v11 v25 v26 v38 v43 v46 v94 v95 v96):=by
 unfold xB at h;refine ax 6 7 3 ?_;obtain⟨h157,h⟩|⟨h157,h⟩:=av h
 ·refine ak 203 h157 (cF 8 9 7 3 5 (ai 1 ?_));obtain⟨h158,h⟩:=aw h;refine ap (bZ 500015 67 (bi ay 66 55 67 ay) h158) ?_;obtain⟨v97,h159,h⟩:=bind_some h;refine V8 500015 420206 203 200 0 55 67 66 55 67 ay ay v95 v94.toNat v97 (.bool true) (aR h158).2 h159 fM (fun x14=>?_);refine ap (Q9 55 500015 67 0 66 55 67 ay aZ ay x14 (.agg ((aZ (gD v95 v94).1).set 66 (.vv x14))) (L:=v95) (j:=v94.toNat) (aR h158).2 dP) ?_;refine aaK 206 66 203 (tid:=420206) (x:=x14) (b:=⟨55,67,lm ay v97⟩) (cs:=(aZ (gD v95 v94).1).set 66 (.vv x14)) ?_ (by kernel_rfl);refine SH 500015 55 67 66 55 67 ay ay v95 v94.toNat x14 (aR h158).2 fM (ae ?_);obtain⟨v98,h160,h⟩:=cf h;obtain⟨v99,h161,h⟩:=cf h;obtain⟨v100,h162,h⟩:=cf h;obtain⟨v101,h163,h⟩:=cf h;obtain⟨v102,h164,h⟩:=cf h;refine bq (ks':=dL 268434738::dL 268434739 :: .b 7::dL 33554343::rm M w0 r m4) 1 ⟨[(1,iI v2),(3,.ptr 3 0),(6,.ptr 6 0),(12,iI (max v11 v5.1)),(14,.sl (lm aA v38)),(16,.sl (lm (ab .i64) v25)),(27,.sl (lm (ab .i64) v43)),(28,.ptr 28 0),(29,iI v46),(32,iI v94),(33,.ptr 33 0),(200,.ref 500015),(201,iI (v26.length:Int)),(202,iI v94)],[(3,aI v1),(6,List.set (aZ bQ) 66 (.nils)),(28,List.set (aZ ({ bQ with Kind:=1,Node:=v1.Node,Style:=v1.Style }:ag)) 66 (.ref 500028)),(33,List.set (aZ ({ ((gD v95 v94).1)with Style:=v98,Before:=v99,After:=v100,Empty:=v101,Kids:=[] }:ag)) 66 (.ref 420206))],[(420206,⟨55,67,lm ay v97⟩),(500015,⟨55,67,lm (bi ay 66 55 67 ay) v102⟩),(500028,⟨55,67,lm (bi ay 66 55 67 ay) v96⟩)],[3,6,28,33,420206,500015,500028]⟩ ?_ (by subst h164;subst h163;subst h162;subst h161;subst h160;kernel_rfl)
  refine ai 2 ?_;obtain⟨h165,h⟩:=aw h;refine ap (cc aA aA h165 (gO) (fun _=>rfl)) (ae (ax 2 3 1 (ai 8 ?_)));obtain⟨h166,h⟩:=aw h;refine ap (zo (ab .i64) v43 ((gD v38 v94).Row) (aa (((gD v38 v94).Row)+((gD v38 v94).Rows))) 64 (.tmp 211) (some (.tmp 213)) (some (.tmp 218)) 219 (e:=3) (sz:=1) (by kernel_rfl) (by kernel_rfl) (by kernel_rfl) (by kernel_rfl) (by kernel_rfl) (by kernel_rfl) (fun _=>rfl) (fun k hk=>by subst hk;kernel_rfl) h166) ?_;obtain⟨v103,h167,h⟩:=bind_some h;refine aK (Bi hK h167) (ae (ax 2 3 1 (bI [1,3,6,12,14,16,27,28,29,32,33,34,200,201,202] [3,6,28,33,34] [420206,500015,500028] ?_)));obtain⟨h168,h⟩:=aw h;refine co 1 (nu 222 [.ptr 33 5,iI v103,.sl (lm (ab .i64) v25),iI v94,.cptr ([iI (gD v25 v94)]),iI (gD v25 v94),iI (aa (v103-(gD v25 v94))),iI (max (aa (v103-(gD v25 v94))) 0)]) [] [] [cw Tryz.prog 391 Tryz.f11 (pn 1073738958) 8] (aF (vz 4) (bt (cc (ab .i64) (ab .i64) h168 (fun _=>rfl) (fun _=>rfl)) (aF (vz 3) (aC (cG 0) cp)))) ?_
  obtain⟨v104,h169,h⟩:=cf h;refine bq (ks':=dL 34359646709 :: .b 8::dL 4294955839 :: .b 7::dL 33554343::rm M w0 r m4) 8 ⟨[(1,iI v2),(3,.ptr 3 0),(6,.ptr 6 0),(12,iI (max v11 v5.1)),(14,.sl (lm aA v38)),(16,.sl (lm (ab .i64) v25)),(27,.sl (lm (ab .i64) v43)),(28,.ptr 28 0),(29,iI v46),(33,.ptr 33 0),(34,.ptr 34 0),(35,iI v104),(36,iI 0),(200,.ref 500015),(201,iI (v26.length:Int)),(202,iI v94),(232,iI v98.VAlign),(233,.bool (v98.VAlign == 2))],[(3,aI v1),(6,List.set (aZ bQ) 66 (.nils)),(28,List.set (aZ ({ bQ with Kind:=1,Node:=v1.Node,Style:=v1.Style }:ag)) 66 (.ref 500028)),(33,List.set (aZ ({ ((gD v95 v94).1)with H:=v103,Style:=v98,Before:=v99,After:=v100,Empty:=v101,Kids:=[] }:ag)) 66 (.ref 420206)),(34,aA (gD v38 v94))],[(420206,⟨55,67,lm ay v97⟩),(500015,⟨55,67,lm (bi ay 66 55 67 ay) v102⟩),(500028,⟨55,67,lm (bi ay 66 55 67 ay) v96⟩)],[3,6,28,33,34,420206,500015,500028]⟩ ?_ (by subst h169;kernel_rfl)
  obtain⟨h170,h⟩|⟨h170,h⟩:=av h
  ·exact ak 233 h170 (aj 2 (GZ hK hL4 h))
  ·refine ak 233 h170 (ce 7 3 ?_);obtain⟨h171,h⟩|⟨h171,h⟩:=av h
   ·exact ak 236 h171 (aj 2 (GZ hK hL4 h))
   ·exact ak 236 h171 (aj 2 (GZ hK hL4 h))
 ·refine ak 203 h157 (eG 30 31 12 (ai 2 ?_));obtain⟨v111,h190,h⟩:=bind_some h;refine aK (MK hK h190) (ae (cm 4 5 3 2 (ai 3 ?_)));obtain⟨v112,h191,h⟩:=bind_some h;refine aK (yF hK h191) (ae (ce 3 2 ?_));obtain⟨h192,h⟩|⟨h192,h⟩:=av h
  ·exact ak 309 h192 (aj 2 (Ph hK h))
  ·exact ak 309 h192 (aj 2 (Ph hK h))
theorem Re(hK:am K)(m:Nat):sS M w0 r v1 v2 v5 v11 v25 v26 v38 v43 v46 m (lH K n v1 v2 v5 v11 v25 v26 v38 v43 v46 m):=by
 induction m with
 | zero=>intro v94 v95 v96 h;cases h
 | succ m ih=>intro v94 v95 v96 h;have h:xB K n v1 v2 v5 v11 v25 v26 v38 v43 v46 (lH K n v1 v2 v5 v11 v25 v26 v38 v43 v46 m) v94 v95 v96=some r:=h;exact aU (adj hK ih h)
theorem WX(hK:am K)(hL3:NV M w0 r v1 v2 v4 v5 v11 v25 v26 v38 v43 m3 L3)(h:vE K n v1 v2 v4 v5 v11 v25 v26 v38 v43 L3 v46 v47 v48=some r):jC M w0 r (dL 2097140::Jj M w0 r m3) (Hs v1 v2 v4 v5 v11 v25 v26 v38 v43 v46 v47 v48):=by
 unfold vE at h;refine ax 6 7 3 ?_;obtain⟨h69,h⟩|⟨h69,h⟩:=av h
 ·refine ak 173 h69 (cF 8 9 5 3 5 (ai 1 ?_));obtain⟨h70,h⟩:=aw h;refine ap (cc az aI h70 (dw) (cS)) (ae (ax 2 3 1 (bI [1,3,6,12,14,15,16,27,28,29,30,31,170,171,172] [3,6,28,31] [1163,500015,500028] (Dv ?_))));obtain⟨h71,h⟩:=aw h;obtain⟨h72,h⟩:=aw h;refine co 2 (nu 177 [.ptr 28 66,.ref 500028,.ptr 31 1,iI ((gD v4.rows v47).Node),.ptr 31 2,.agg (aD ((gD v4.rows v47).Style)),iI v46,iI (max v11 v5.1),.ref 1163,iI v47,.eptr 1163 1 (v47.toNat) 0,iI (gD v43 v47),.agg (List.set (aZ ({ bQ with Kind:=1,Node:=(gD v4.rows v47).Node,Y:=v46,W:=(max v11 v5.1),H:=(gD v43 v47),Style:=(gD v4.rows v47).Style }:ag)) 66 (.nils)),.sl [List.set (aZ ({ bQ with Kind:=1,Node:=(gD v4.rows v47).Node,Y:=v46,W:=(max v11 v5.1),H:=(gD v43 v47),Style:=(gD v4.rows v47).Style }:ag)) 66 (.nils)]]++nu 192 [.ptr 28 66]) [] [] [fZ 191 500028 ⟨55,67,lm (bi ay 66 55 67 ay) v48++[(aZ ({ bQ with Kind:=1,Node:=(gD v4.rows v47).Node,Y:=v46,W:=(max v11 v5.1),H:=(gD v43 v47),Style:=(gD v4.rows v47).Style }:ag)).set 66 (.nils)]⟩,cw Tryz.prog 391 Tryz.f11 (pn 134217010) 16] (aF [.v 0 2,.v 0 1,.v 0 2,.v 0 2,.v 0 2,.v 0 2,.v 0 2,.v 0 2,.v 0 2,.v 0 2] (aC (d4 (lo:=0) (k:=2) (cy ⟨(by kernel_rfl),(cE (bT 1163 1 (ab .i64) (L:=v43) h71) (by kernel_rfl))⟩ (cy ⟨(by kernel_rfl),(cE (bT 1163 1 (ab .i64) (L:=v43) h71) (by kernel_rfl))⟩ d8))) (aC (d4 (lo:=0) (k:=2) (cy ⟨(by kernel_rfl),(cE (bE 3 0 (ab .i64) (ab .i64) (aR h71).2 (fun _=>rfl)) (by kernel_rfl))⟩ (cy ⟨(by kernel_rfl),(cE (bE 3 0 (ab .i64) (ab .i64) (aR h71).2 (fun _=>rfl)) (by kernel_rfl))⟩ d8))) (aF [.v 0 2,.v 0 1] (aC (c7 (m:=0) (BM 191 500028 55 67 66 55 67 ay aZ ay ({ bQ with Kind:=1,Node:=(gD v4.rows v47).Node,Y:=v46,W:=(max v11 v5.1),H:=(gD v43 v47),Style:=(gD v4.rows v47).Style }:ag) (.nils) dP fM h72)) (aF [.v 1 1] (aC (cG 1) cp))))))) (aae 500028 55 67 66 55 67 ay aZ ay v48 ({ bQ with Kind:=1,Node:=(gD v4.rows v47).Node,Y:=v46,W:=(max v11 v5.1),H:=(gD v43 v47),Style:=(gD v4.rows v47).Style }:ag) dP fM ?_)
  obtain⟨v49,h73,h⟩:=cf h;refine bq (ks':=dL 134217011 :: .b 5::dL 16777127::Jj M w0 r m3) 0 ⟨[(1,iI v2),(3,.ptr 3 0),(6,.ptr 6 0),(12,iI (max v11 v5.1)),(14,.sl (lm aA v38)),(15,.ref 500015),(16,.sl (lm (ab .i64) v25)),(27,.ref 1163),(28,.ptr 28 0),(29,iI v46),(30,iI v47),(170,.sl (lm az v4.rows)),(171,iI (v4.rows.length:Int)),(172,iI v47)],[(3,aI v1),(6,List.set (aZ bQ) 66 (.nils)),(28,List.set (aZ ({ bQ with Kind:=1,Node:=v1.Node,Style:=v1.Style }:ag)) 66 (.ref 500028))],[(1163,⟨3,1,lm (ab .i64) v43⟩),(500015,⟨55,67,lm (bi ay 66 55 67 ay) v26⟩),(500028,⟨55,67,lm (bi ay 66 55 67 ay) v49⟩)],[3,6,28,1163,500015,500028]⟩ ?_ (by subst h73;kernel_rfl);refine ai 3 ?_;obtain⟨h74,h⟩:=aw h;exact ap (bZ 1163 1 (ab .i64) h74) (ap (bE 3 0 (ab .i64) (ab .i64) (aR h74).2 (fun _=>rfl)) (ae (aj 2 (bd (hL3 h)))))
 ·exact ak 173 h69 (rX 4 5 3 7 (ai 1 (ap (bK (bi ay 66 55 67 ay) v26) (ae (ip 2 6 1 (ku 1163 (aj 0 (bP (p:=pn 2097146) n (Re hK n h)))))))))
theorem aaS(hK:am K)(m:Nat):NV M w0 r v1 v2 v4 v5 v11 v25 v26 v38 v43 m (oL K n v1 v2 v4 v5 v11 v25 v26 v38 v43 m):=by
 induction m with
 | zero=>intro v46 v47 v48 h;cases h
 | succ m ih=>intro v46 v47 v48 h;have h:vE K n v1 v2 v4 v5 v11 v25 v26 v38 v43 (oL K n v1 v2 v4 v5 v11 v25 v26 v38 v43 m) v46 v47 v48=some r:=h;exact aU (WX hK ih h)
theorem abi(hK:am K)(hL2:Gq M w0 r v1 v2 v4 v5 v11 v25 v26 m2 L2)(h:ug K n v1 v2 v4 v5 v11 v25 v26 L2 v37 v38 v39=some r):jC M w0 r (dL 131060::NC M w0 r m2) (MR v1 v2 v4 v5 v11 v25 v26 v37 v38 v39):=by
 unfold ug at h;refine ax 6 7 3 ?_;obtain⟨h55,h⟩|⟨h55,h⟩:=av h
 ·refine ak 136 h55 (cF 8 9 3 3 5 (ai 1 ?_));obtain⟨h56,h⟩:=aw h;refine ap (cc az aI h56 (dw) (cS)) (ae (ax 2 3 1 (ai 3 ?_)));obtain⟨v40,h57,h⟩:=bind_some h;refine aK (yF hK h57) (ae (ce 3 2 ?_));obtain⟨h58,h⟩|⟨h58,h⟩:=av h
  ·refine ak 147 h58 (ax 4 5 2 (ai 4 ?_));obtain⟨h59,h⟩:=aw h;refine ap (c6 152 1084 67 4 aA (rfl) (gO) h59) (ae (ai 3 ?_));obtain⟨h60,h⟩:=aw h;exact ap (c6 156 1131 3 1 (ab .i64) (rfl) (fun _=>rfl) h60) (ae (aj 0 (O0 hK hL2 h)))
  ·exact ak 147 h58 (aj 2 (O0 hK hL2 h))
 ·refine ak 136 h55 (eG 2 3 6 (ai 4 (ap (bK az v4.rows) (eO 1084 (eO 1131 ?_)))));obtain⟨v43,h61,h⟩:=bind_some h;exact d5 1163 (Vo hK h61) (fQ 17) (ae (cm 28 29 15 6 (ai 2 (ap (bK az v4.rows) (ae (ip 2 4 1 (bI [1,3,6,12,14,15,16,27,28,29,170,171,172] [3,6,28] [1163,500015] (oX 500028 28 66 55 67 (aj 0 (bP (p:=pn 1048570) n (aaS hK n h)))))))))))
theorem WD(hK:am K)(m:Nat):Gq M w0 r v1 v2 v4 v5 v11 v25 v26 m (oQ K n v1 v2 v4 v5 v11 v25 v26 m):=by
 induction m with
 | zero=>intro v37 v38 v39 h;cases h
 | succ m ih=>intro v37 v38 v39 h;have h:ug K n v1 v2 v4 v5 v11 v25 v26 (oQ K n v1 v2 v4 v5 v11 v25 v26 m) v37 v38 v39=some r:=h;exact aU (abi hK ih h)
theorem Vy(hK:am K)(hL1:ON M w0 r v1 v2 v3 v4 v5 v11 v12 v13 m1 L1)(h:wG K n v1 v2 v3 v4 v5 v11 v12 v13 L1 v24 v25 v26=some r):jC M w0 r (dL 32756::I3 M w0 r m1) (Ic v1 v2 v3 v4 v5 v11 v12 v13 v24 v25 v26):=by
 unfold wG at h;refine ax 6 7 3 ?_;obtain⟨h35,h⟩|⟨h35,h⟩:=av h
 ·refine ak 89 h35 (cF 8 9 1 3 5 (ai 1 ?_));obtain⟨h36,h⟩:=aw h;refine ap (cc az aI h36 (dw) (cS)) (ae (ax 2 3 1 (ai 2 ?_)));obtain⟨h37,h⟩:=aw h;refine ap (bZ 1084 4 aA h37) (ap (bE 67 0 aA aA (aR h37).2 (fun _=>rfl)) (ae (ax 2 3 1 (bI [1,3,5,6,7,12,13,14,15,16,18,19,86,87,88] [3,5,6,7,18,19] [128,1084,500015] ?_))));obtain⟨h38,h⟩:=aw h;obtain⟨v27,h39,h⟩:=bind_some h;obtain⟨v28,h40,h⟩:=bind_some h;refine co 2 [(98,.agg (aI (gD v4.cells v24))),(99,iI (max v11 v5.1)),(100,.sl (lm (ab .i64) v12)),(101,.ptr 19 1),(102,iI ((gD v13 v24).Col)),(103,.ptr 19 1),(104,iI ((gD v13 v24).Col)),(105,.ptr 19 3),(106,iI ((gD v13 v24).Cols)),(107,iI (aa (((gD v13 v24).Col)+((gD v13 v24).Cols)))),(108,.sl (lm (ab .i64) (List.drop (((gD v13 v24).Col)).toNat (List.take ((aa (((gD v13 v24).Col)+((gD v13 v24).Cols)))).toNat v12)))),(109,iI v27),(110,.agg (dC v3)),(111,.tup [.agg (List.set (aZ ({ v28.1 with Kids:=[] }:ag)) 66 (.ref 111)),iI v28.2]),(97,.tup [.agg (List.set (aZ ({ v28.1 with Kids:=[] }:ag)) 66 (.ref 111)),iI v28.2]),(112,.agg (List.set (aZ ({ v28.1 with Kids:=[] }:ag)) 66 (.ref 111))),(113,iI v28.2),(20,.ptr 20 0)] [(20,List.set (aZ bQ) 66 (.nils))] [(111,⟨55,67,lm ay v28.1.Kids⟩)] [cw Tryz.prog 391 Tryz.f11 (pn 4192870) 18,cw Tryz.prog 391 Tryz.f11 (pn 4192870) 19] (aF (vz 10) (bt (zo (ab .i64) v12 ((gD v13 v24).Col) (aa (((gD v13 v24).Col)+((gD v13 v24).Cols))) 64 (.tmp 100) (some (.tmp 102)) (some (.tmp 107)) 108 (e:=3) (sz:=1) (by kernel_rfl) (by kernel_rfl) (by kernel_rfl) (by kernel_rfl) (by kernel_rfl) (by kernel_rfl) (fun _=>rfl) (fun k hk=>by subst hk;kernel_rfl) h38) (aC (cM 0 1 109 (Bi hK h39)) (aF [.v 0 1] (aC (GA 0 1 111 (ab9 hK h40) (acO (i:=0) (j:=66) rfl (by kernel_rfl))) (aF [.v 0 1,.v 0 1,.v 0 2] (aC (Ak 0 1 55 20 (List.set (aZ bQ) 66 (.nils))) (aC (cG 0) (aC (cG 1) cp))))))))) (ax 2 3 1 (ai 3 ?_))
  obtain⟨h41,h⟩:=aw h;refine ap (zo (ab .i64) v12 (0:Int) ((gD v13 v24).Col) 64 (.tmp 114) none (some (.tmp 116)) 117 (e:=3) (sz:=1) (by kernel_rfl) (by kernel_rfl) (by kernel_rfl) (by kernel_rfl) (by kernel_rfl) (by kernel_rfl) (fun _=>rfl) (fun k hk=>by subst hk;kernel_rfl) h41) ?_;obtain⟨v29,h42,h⟩:=bind_some h;refine aK (Bi hK h42) (ae (ax 2 3 1 (Dv (ai 2 ?_))));refine pg 111 99 (c0:=iI (max v11 v5.1)) (kR 122 66 (by kernel_rfl)) (fun x3=>?_);refine uS 122 99 (tid:=111) (x:=x3) (c:=.agg (List.set (aZ ({ v28.1 with X:=v29,Y:=0,Kids:=[] }:ag)) 66 (.ref 111))) (br 3 1 ?_);obtain⟨h43,h⟩:=aw h;refine ap (BM 124 500015 55 67 66 55 67 ay aZ ay ({ v28.1 with X:=v29,Y:=0,Kids:=[] }:ag) (.vv x3) dP fM h43) (Wu 500015 111 99 124 0 55 67 66 55 67 ay aZ ay v26 ({ v28.1 with X:=v29,Y:=0,Kids:=[] }:ag) v28.1.Kids x3 dP fM (ae ?_));obtain⟨v30,h44,h⟩:=cf h;refine bq (ks':=dL 16771487 :: .b 1::dL 262055::I3 M w0 r m1) 0 ⟨[(1,iI v2),(3,.ptr 3 0),(5,.ptr 5 0),(6,.ptr 6 0),(7,.ptr 7 0),(12,iI (max v11 v5.1)),(13,.sl (lm (ab .i64) v12)),(14,.ref 1084),(15,.ref 500015),(16,.ref 128),(21,iI v28.2),(86,.sl (lm az v4.cells)),(87,iI (v4.cells.length:Int)),(88,iI v24)],[(3,aI v1),(5,dC v3),(6,List.set (aZ bQ) 66 (.nils)),(7,fU v4)],[(128,⟨3,1,lm (ab .i64) v25⟩),(1084,⟨67,4,lm aA v13⟩),(500015,⟨55,67,lm (bi ay 66 55 67 ay) v30⟩)],[3,5,6,7,128,1084,500015]⟩ ?_ (by subst h44;kernel_rfl)
  refine ai 3 ?_;obtain⟨h45,h⟩:=aw h;exact ap (c6 128 128 3 1 (ab .i64) (rfl) (fun _=>rfl) h45) (ae (aj 2 (bd (hL1 h))))
 ·refine ak 89 h35 (eG 2 3 6 (ai 1 (eO 128 ?_)));obtain⟨v31,h46,h⟩:=bind_some h;exact d5 1131 (Tr hK h46) (fQ 5) (ae (cm 4 5 3 2 (ai 2 (ap (bK az v4.rows) (ae (aj 1 (bP (p:=pn 65530) n (WD hK n h))))))))
theorem SX(hK:am K)(m:Nat):ON M w0 r v1 v2 v3 v4 v5 v11 v12 v13 m (s6 K n v1 v2 v3 v4 v5 v11 v12 v13 m):=by
 induction m with
 | zero=>intro v24 v25 v26 h;cases h
 | succ m ih=>intro v24 v25 v26 h;have h:wG K n v1 v2 v3 v4 v5 v11 v12 v13 (s6 K n v1 v2 v3 v4 v5 v11 v12 v13 m) v24 v25 v26=some r:=h;exact aU (Vy hK ih h)
theorem HB(hK:am K)(h:sO K n v1 v2 v3 v4 v5 v10=some r):jC M w0 r [dL 63] (UU v1 v2 v3 v4 v5 v10):=by
 unfold sO at h;refine ax 2 3 1 (ai 4 ?_);obtain⟨v11,h8,h⟩:=bind_some h;refine aK (tx hK h8) (ae (ax 2 3 1 (ai 3 ?_)));obtain⟨v12,h9,h⟩:=bind_some h;refine d5 1081 (LL hK h9) (fQ 17) (ae (ax 2 3 1 (ai 2 ?_)));obtain⟨v13,h10,h⟩:=bind_some h;exact d5 1084 (Zk hK h10) (fQ 5) (ae (cm 28 29 15 6 (ai 2 (ap (bK az v4.cells) (ae (ip 2 0 1 (bI [1,3,5,6,7,12,13,14,15,16,86,87,88] [3,5,6,7] [1081,1084] (eJ 500015 15 55 67 (ku 1081 (eJ 128 16 3 1 (aj 0 (bP (p:=pn 16378) n (SX hK n h)))))))))))))
theorem adB(hK:am K)(h:pD K n v1 v2 v3=some r):aQ Tryz.prog 11 [.agg (aI v1),iI v2,.agg (dC v3)] (fun v s=>v=.agg (List.set (aZ ({ r with Kids:=[] }:ag)) 66 (.ref 440028))∧look 440028 s.r=some ⟨55,67,lm ay r.Kids⟩):=by
 refine bF (cat Tryz.f11 (pn 1)) Tryz.func11 Tryz.ntmps11 fun M w0=>(bx ⟨[(0,.agg (aI v1)),(1,iI v2),(2,.agg (dC v3))],[],[],[]⟩ ?_);unfold pD at h;refine ax 6 7 3 (ai 2 ?_);obtain⟨v4,h1,h⟩:=bind_some h;refine d5 1045 (Nn hK h1) (jB (i:=0) (by kernel_rfl)) (ae (ax 2 3 1 (ai 1 (eO 1045 ?_))));obtain⟨v5,h2,h⟩:=bind_some h;refine aK (Lz hK h2) (ae (ax 2 3 1 (ai 4 ?_)));obtain⟨v6,h3,h⟩:=bind_some h;refine aK (fS hK h3) (ae (ax 5 3 3 ?_));obtain⟨h4,h⟩|⟨h4,h⟩:=av h
 ·refine ak 60 h4 (ce 2 1 (bI [1,3,5,6,7,8,9] [3,5,6,7] [] ?_));obtain⟨v7,h5,h⟩:=bind_some h;obtain⟨v8,h6,h⟩:=bind_some h;obtain⟨v9,h7,h⟩:=bind_some h;exact co 1 (nu 61 [iI v2,iI v7,.ptr 3 2,.agg (aD v1.Style),iI v2,.agg (b9 v8),iI v9,iI (aa (v7-v9)),iI v5.2,iI (min (aa (v7-v9)) v5.2)]) [] [] [cw Tryz.prog 391 Tryz.f11 (pn 250) 10] (aF [.v 0 1] (aC (cM 0 1 62 (mo hK h5)) (aF (vz 3) (aC (cM 0 1 66 (sL hK h6)) (aC (cM 0 1 67 (ns hK h7)) (aF (vz 3) (aC (cG 0) cp))))))) (aj 0 (HB hK h))
 ·exact ak 60 h4 (aj 2 (HB hK h))
end
noncomputable section
variable(M:Nat→Prop)(w0:aJ)(r:Bool)(v1:List dF)(v2:Int)(v5:ac)(v10:Bool)(v11:dd)(v13 v14:Int)(v16:ag)(v19:Int)(m1 m2:Nat)(L1:Int→Int→Option Bool)(L2:Int→Option Bool)
abbrev tE:Cx:=⟨Tryz.prog,76,M,w0⟩
abbrev q3:=bodyPost Tryz.prog Tryz.f3 (bX M w0 (fun v _=>v=.bool r))
abbrev Gr(ks:List ao)(s:AS):=VE (tE M w0) (q3 M w0 r) ks .normal s
abbrev mj(n:Nat):ao:=.c (cat Tryz.f3 (pn n))
abbrev Dd:List ao:=[.b 2,mj 4095]
abbrev It:List ao:=kl (tE M w0) (q3 M w0 r) Dd (cat Tryz.f3 (pn 32756)) m2::Dd
abbrev Ch:List ao:=[.b 0,mj 2047]
abbrev acL:List ao:=kl (tE M w0) (q3 M w0 r) Ch (cat Tryz.f3 (pn 16372)) m1::Ch
def N1:AS:=⟨[(11,iI v13),(65,.ref 64),(66,iI (v16.Kids.length:Int)),(67,iI v19)],[],[(64,⟨55,67,lm ay v16.Kids⟩)],[64]⟩
def HX:AS:=⟨[(1,iI v2),(5,.ptr 5 0),(11,iI v13),(50,.sl (lm aL v11.Columns)),(51,iI (v11.Columns.length:Int)),(52,iI v14)],[(5,aI v5)],[],[5]⟩
def Ti:AS:=⟨[(1,iI v2),(5,.ptr 5 0),(46,.bool v10)],[(5,aI v5)],[],[5]⟩
abbrev Ki:Prop:=∀{v13:Int} {v14:Int},L1 v13 v14=some r→LP (tE M w0) (q3 M w0 r) Ch (cat Tryz.f3 (pn 16372)) m1 (HX v2 v5 v11 v13 v14)
abbrev Nd:Prop:=∀{v19:Int},L2 v19=some r→LP (tE M w0) (q3 M w0 r) Dd (cat Tryz.f3 (pn 32756)) m2 (N1 v13 v16 v19)
variable{M w0 r v1 v2 v5 v10 v11 v13 v14 v16 v19 m1 m2 L1 L2}{K:Kn}{n:Nat}
theorem aaZ(hK:am K)(hL2:Nd M w0 r v13 v16 m2 L2)(h:tP K n v13 v16 L2 v19=some r):Gr M w0 r (mj 32756::It M w0 r m2) (N1 v13 v16 v19):=by
 unfold tP at h;refine ax 6 7 3 ?_;obtain⟨h26,h⟩|⟨h26,h⟩:=av h
 ·refine ak 68 h26 (cF 8 9 3 3 5 (ai 0 ?_));obtain⟨h27,h⟩:=aw h;refine ap (bZ 64 67 ay h27) (ap (bE 55 0 ay aZ (aR h27).2 (dP)) (ae ?_));obtain⟨v20,h28,h⟩:=cf h;refine bq (ks':=mj 2096435 :: .b 3::mj 262055::It M w0 r m2) 2 ⟨[(11,iI v13),(65,.ref 64),(66,iI (v16.Kids.length:Int)),(67,iI v19),(74,.bool v20)],[],[(64,⟨55,67,lm ay v16.Kids⟩)],[64]⟩ ?_ (by subst h28;kernel_rfl);obtain⟨h29,h⟩|⟨h29,h⟩:=av h
  ·refine ak 74 h29 (aW 9 ?_);cases h;exact bW
  ·exact ak 74 h29 (aj 4 (bd (hL2 h)))
 ·refine ak 68 h26 (aW 8 ?_);cases h;exact bW
theorem Qj(hK:am K)(m:Nat):Nd M w0 r v13 v16 m (oW K n v13 v16 m):=by
 induction m with
 | zero=>intro v19 h;cases h
 | succ m ih=>intro v19 h;have h:tP K n v13 v16 (oW K n v13 v16 m) v19=some r:=h;exact aU (aaZ hK ih h)
theorem XS(hK:am K)(hL1:Ki M w0 r v2 v5 v11 m1 L1)(h:vI K n v2 v5 v11 L1 v13 v14=some r):Gr M w0 r (mj 16372::acL M w0 r m1) (HX v2 v5 v11 v13 v14):=by
 unfold vI at h;refine ax 6 7 3 ?_;obtain⟨h17,h⟩|⟨h17,h⟩:=av h
 ·refine ak 53 h17 (cF 8 9 1 3 5 (ai 0 ?_));obtain⟨h18,h⟩:=aw h;exact ap (cc aL aL h18 (gy) (fun _=>rfl)) (ae (aj 3 (bd (hL1 h))))
 ·refine ak 53 h17 (rX 4 5 3 7 (bI [1,5,11] [5] [] ?_));obtain⟨v15,h19,h⟩:=bind_some h;obtain⟨v16,h20,h⟩:=bind_some h;exact co 0 (nu 61 [.agg (aI v5),iI v2,.agg (dC v15),.agg (List.set (aZ ({ v16 with Kids:=[] }:ag)) 66 (.ref 64)),.ref 64,iI (v16.Kids.length:Int),iI 0]) [] [(64,⟨55,67,lm ay v16.Kids⟩)] [] (aF (vz 2) (aC (cM 0 1 63 (Ad hK h19)) (aC (GA 0 1 64 (adB hK h20) (jB (i:=66) (by kernel_rfl))) (aF [.v 0 1] (bt (bK ay v16.Kids) (aF [.v 0 1] cp)))))) (aj 1 (bP (p:=pn 16378) n (Qj hK n h)))
theorem Zi(hK:am K)(m:Nat):Ki M w0 r v2 v5 v11 m (sQ K n v2 v5 v11 m):=by
 induction m with
 | zero=>intro v13 v14 h;cases h
 | succ m ih=>intro v13 v14 h;have h:vI K n v2 v5 v11 (sQ K n v2 v5 v11 m) v13 v14=some r:=h;exact aU (XS hK ih h)
theorem Ek(hK:am K)(h:rB K n v2 v5 v10=some r):Gr M w0 r [mj 509,mj 255] (Ti v2 v5 v10):=by
 unfold rB at h;obtain⟨h12,h⟩|⟨h12,h⟩:=av h
 ·refine ak 46 h12 (aW 5 ?_);cases h;exact bW
 ·refine ak 46 h12 (fu 2 3 3 (ai 1 ?_));obtain⟨v11,h13,h⟩:=bind_some h;exact d5 1048 (Jr hK h13) (jB (i:=0) (by kernel_rfl)) (ae (cm 12 13 7 4 (ai 2 (ap (bK aL v11.Columns) (ae (aj 1 (bP (p:=pn 8186) n (Zi hK n h))))))))
theorem ZQ(hK:am K)(h:zF K n v1 v2=some r):aQ Tryz.prog 3 [.sl (lm dh v1),iI v2] (fun v _=>v=.bool r):=by
 refine bF (cat Tryz.f3 (pn 1)) Tryz.func3 Tryz.ntmps3 fun M w0=>(bx ⟨[(0,.sl (lm dh v1)),(1,iI v2)],[],[],[]⟩ ?_);unfold zF at h;refine cm 12 13 7 4 (ai 0 ?_);obtain⟨v3,h1,h⟩:=bind_some h;refine aK (Ve hK h1) (ae ?_);obtain⟨h2,h⟩|⟨h2,h⟩:=av h
 ·refine ak 17 h2 (aW 5 ?_);cases h;exact bW
 ·refine ak 17 h2 (py 4 5 3 4 (ai 1 ?_));obtain⟨v4,h3,h⟩:=bind_some h;refine aK (WM hK h3) (ae ?_);obtain⟨h4,h⟩|⟨h4,h⟩:=av h
  ·refine ak 20 h4 (aW 5 ?_);cases h;exact bW
  ·refine ak 20 h4 (fu 2 3 3 (ai 1 ?_));obtain⟨v5,h5,h⟩:=bind_some h;refine d5 1022 (Qy hK h5) (jB (i:=58) (by kernel_rfl)) (ae (ax 2 3 1 (bI [1,5] [5] [1022] (ku 1022 ?_))));obtain⟨v7,h7,h⟩:=bind_some h;obtain⟨v8,h8,h⟩:=bind_some h;refine co 2 (nu 24 [.agg (aI v5),.agg (dC v7),.tup [iI v8.1,iI v8.2]]++nu 23 [.tup [iI v8.1,iI v8.2]]++nu 27 [iI v8.1,iI v8.2]) [] [] [cw Tryz.prog 76 Tryz.f3 (pn 62) 6,cw Tryz.prog 76 Tryz.f3 (pn 62) 7] (aF [.v 0 1] (aC (cM 0 1 25 (Ad hK h7)) (aC (cM 0 1 26 (abQ hK h8)) (aF [.v 0 1,.v 0 1,.v 0 2] (aC (cG 0) (aC (cG 1) cp)))))) (ax 2 3 1 (ai 1 ?_));obtain⟨v9,h9,h⟩:=bind_some h;refine aK (RA hK h9) (ae (cm 4 5 3 2 (ai 4 ?_)));obtain⟨h10,h⟩|⟨h10,h⟩:=av h
   ·exact aY 37 h10 (ae (aj 0 (Ek hK h)))
   ·refine aY 37 h10 (br 9 5 ?_);obtain⟨h11,h⟩|⟨h11,h⟩:=av h
    ·exact aY 42 h11 (ae (aj 0 (Ek hK h)))
    ·exact aY 42 h11 (ae (aj 0 (Ek hK h)))
end
noncomputable section
variable(M:Nat→Prop)(w0:aJ)(r:ag)(v1:ac)(v2:Int)(v3:c8)(v4:bO)(v5 v6:Bool)  
abbrev PB(n:Nat):ao:=.c (cat Tryz.f52 (pn n))
abbrev ZP:Cx:=⟨Tryz.prog,58,M,w0⟩
abbrev Rz:=bodyPost Tryz.prog Tryz.f52 (bX M w0 (fun v s=>v=.agg (List.set (aZ ({ r with Kids:=[] }:ag)) 66 (.ref 1057))∧look 1057 s.r=some ⟨55,67,lm ay r.Kids⟩))
abbrev Kv(ks:List ao)(s:AS):=VE (ZP M w0) (Rz M w0 r) ks .normal s
def QH:AS:=⟨[(3,.ptr 3 0),(5,.ptr 5 0),(6,.ptr 6 0),(7,.ptr 7 0),(9,.bool v5),(10,.bool v6)],[(3,aI v1),(5,dC v3),(6,List.set (aZ bQ) 66 (.nils)),(7,b9 v4)],[],[3,5,6,7]⟩
def Xf:AS:=⟨[(3,.ptr 3 0),(5,.ptr 5 0),(6,.ptr 6 0),(7,.ptr 7 0),(8,.bool (v1.Style.Overflow == 0)),(9,.bool v5)],[(3,aI v1),(5,dC v3),(6,List.set (aZ bQ) 66 (.nils)),(7,b9 v4)],[],[3,5,6,7]⟩
variable{M w0 r v1 v2 v3 v4 v5 v6}{K:Kn}{n:Nat}
theorem zS(hK:am K)(h:qo K n v1 v3 v4 v5 v6=some r):Kv M w0 r [PB 63] (QH v1 v3 v4 v5 v6):=by
 unfold qo at h;refine ax 2 3 1 (ai 5 ?_);obtain⟨v7,h7,h⟩:=bind_some h;refine d5 1057 (Ps hK h7) (jB (i:=66) (by kernel_rfl)) (ae (aW 1 ?_));cases h;exact d9
theorem Ei(hK:am K)(h:xd K n v1 v3 v4 v5=some r):Kv M w0 r [PB 31] (Xf v1 v3 v4 v5):=by
 unfold xd at h;refine ax 2 3 1 (ai 2 ?_);obtain⟨h4,h⟩|⟨h4,h⟩:=av h
 ·refine aY 33 h4 (br 8 6 ?_);obtain⟨h5,h⟩|⟨h5,h⟩:=av h
  ·refine aY 39 h5 (br 14 6 ?_);obtain⟨h6,h⟩|⟨h6,h⟩:=av h
   ·exact aY 45 h6 (ae (aj 0 (zS hK h)))
   ·exact aY 45 h6 (ae (aj 0 (zS hK h)))
  ·exact aY 39 h5 (ae (aj 0 (zS hK h)))
 ·exact aY 33 h4 (ae (aj 0 (zS hK h)))
theorem V5(hK:am K)(h:Gy K n v1 v2 v3=some r):aQ Tryz.prog 52 [.agg (aI v1),iI v2,.agg (dC v3)] (fun v s=>v=.agg (List.set (aZ ({ r with Kids:=[] }:ag)) 66 (.ref 1057))∧look 1057 s.r=some ⟨55,67,lm ay r.Kids⟩):=by
 refine bF (cat Tryz.f52 (pn 1)) Tryz.func52 Tryz.ntmps52 fun M w0=>(bx ⟨[(0,.agg (aI v1)),(1,iI v2),(2,.agg (dC v3))],[],[],[]⟩ ?_);unfold Gy at h;refine ax 6 7 3 (ai 3 ?_);obtain⟨v4,h1,h⟩:=bind_some h;refine aK (MK hK h1) (ae (ax 6 7 3 (ai 2 ?_)));obtain⟨h2,h⟩|⟨h2,h⟩:=av h
 ·refine aY 20 h2 (br 8 6 ?_);obtain⟨h3,h⟩|⟨h3,h⟩:=av h
  ·exact aY 26 h3 (ae (aj 0 (Ei hK h)))
  ·exact aY 26 h3 (ae (aj 0 (Ei hK h)))
 ·exact aY 20 h2 (ae (aj 0 (Ei hK h)))
end
noncomputable section
variable(M:Nat→Prop)(w0:aJ)(r:ag)(v1:ac)(v2:Int)  
variable{M w0 r v1 v2}{K:Kn}{n:Nat}
theorem aad(hK:am K)(h:GX K n v1 v2=some r):aQ Tryz.prog 23 [.agg (aI v1),iI v2] (fun v s=>v=.agg (List.set (aZ ({ r with Kids:=[] }:ag)) 66 (.ref 8))∧look 8 s.r=some ⟨55,67,lm ay r.Kids⟩):=by
 refine bF (cat Tryz.f23 (pn 1)) Tryz.func23 Tryz.ntmps23 fun M w0=>(bx ⟨[(0,.agg (aI v1)),(1,iI v2)],[],[],[]⟩ ?_);unfold GX at h;refine ax 6 7 3 (bI [1,2,4] [2,4] [] ?_);obtain⟨v3,h1,h⟩:=bind_some h;obtain⟨v4,h2,h⟩:=bind_some h;refine co 1 (nu 5 [.agg (aI v1),iI v2,.agg (dC v3),.agg (List.set (aZ ({ v4 with Kids:=[] }:ag)) 66 (.ref 8))]) [] [(8,⟨55,67,lm ay v4.Kids⟩)] [cw Tryz.prog 9 Tryz.f23 (pn 6) 4] (aF (vz 2) (aC (cM 0 1 7 (Ad hK h1)) (aC (GA 0 1 8 (V5 hK h2) (jB (i:=66) (by kernel_rfl))) (aC (cG 0) cp)))) (aW 1 ?_);cases h;exact d9
end
noncomputable section
variable(M:Nat→Prop)(w0:aJ)(r:Int×Int)(v1:ac)  
variable{M w0 r v1}{K:Kn}{n:Nat}
theorem UK(hK:am K)(h:DC K n v1=some r):aQ Tryz.prog 24 [.agg (aI v1)] (fun v _=>v=.tup [iI r.1,iI r.2]):=by
 refine bF (cat Tryz.f24 (pn 1)) Tryz.func24 Tryz.ntmps24 fun M w0=>(bx ⟨[(0,.agg (aI v1))],[],[],[]⟩ ?_);unfold DC at h;refine ax 6 7 3 (bI [1] [1] [] ?_);obtain⟨v2,h1,h⟩:=bind_some h;obtain⟨v3,h2,h⟩:=bind_some h;refine co 2 (nu 4 [.agg (aI v1),.agg (dC v2),.tup [iI v3.1,iI v3.2],iI v3.1,iI v3.2]) [] [] [cw Tryz.prog 9 Tryz.f24 (pn 6) 5,cw Tryz.prog 9 Tryz.f24 (pn 6) 6] (aF [.v 0 1] (aC (cM 0 1 5 (Ad hK h1)) (aC (cM 0 1 6 (Oe hK h2)) (aF (vz 2) (aC (cG 0) (aC (cG 1) cp)))))) (aW 1 ?_);cases h;exact eu
end
noncomputable section
variable(M:Nat→Prop)(w0:aJ)(r:(List ag)×Int)(v1:List ac)(v2:aE)(v3 v10 v11:Int)(v12:List ag)(v14:Int)(v15:List ag)(m1:Nat)(L1:Int→Int→(List ag)→Option ((List ag)×Int))
abbrev GS:Cx:=⟨Tryz.prog,42,M,w0⟩
abbrev Fo:=bodyPost Tryz.prog Tryz.f25 (bX M w0 (fun v s=>v=.tup [.ref 35,iI r.2]∧look 35 s.r=some ⟨55,67,lm ay r.1⟩))
abbrev KE(ks:List ao)(s:AS):=VE (GS M w0) (Fo M w0 r) ks .normal s
abbrev uZ(n:Nat):ao:=.c (cat Tryz.f25 (pn n))
abbrev Fx:List ao:=[.b 0,uZ 31]
abbrev GY:List ao:=kl (GS M w0) (Fo M w0 r) Fx (cat Tryz.f25 (pn 244)) m1::Fx
def abc:AS:=⟨[(0,.sl (lm az v1)),(2,iI v3),(4,.ptr 4 0),(8,.ref 35),(9,iI v14),(10,iI v11)],[(4,aD v2)],[(35,⟨55,67,lm ay v15⟩)],[4,35]⟩
def OD:AS:=⟨[(0,.sl (lm az v1)),(2,iI v3),(4,.ptr 4 0),(8,.ref 35),(9,iI v10),(10,iI v11)],[(4,aD v2)],[(35,⟨55,67,lm ay v12⟩)],[4,35]⟩
abbrev Er:Prop:=∀{v10:Int} {v11:Int} {v12:(List ag)},L1 v10 v11 v12=some r→LP (GS M w0) (Fo M w0 r) Fx (cat Tryz.f25 (pn 244)) m1 (OD v1 v2 v3 v10 v11 v12)
variable{M w0 r v1 v2 v3 v10 v11 v12 v14 v15 m1 L1}{K:Kn}{n:Nat}
theorem Py(hK:am K)(hL1:Er M w0 r v1 v2 v3 m1 L1)(h:tK K n v1 v2 v3 v11 L1 v14 v15=some r):KE M w0 r (.b 1::uZ 979::GY M w0 r m1) (abc v1 v2 v3 v11 v14 v15):=by
 unfold tK at h;exact aj 2 (bd (hL1 h))
theorem P5(hK:am K)(hL1:Er M w0 r v1 v2 v3 m1 L1)(h:yj K n v1 v2 v3 L1 v10 v11 v12=some r):KE M w0 r (uZ 244::GY M w0 r m1) (OD v1 v2 v3 v10 v11 v12):=by
 unfold yj at h;refine cm 4 5 3 2 (ai 2 (ap (bK az v1) (ae ?_)));obtain⟨h13,h⟩|⟨h13,h⟩:=av h
 ·refine ak 14 h13 (cF 8 9 1 3 5 (ai 2 ?_));obtain⟨h14,h⟩:=aw h;refine ap (cc az aI h14 (dw) (cS)) (ae ?_);obtain⟨v13,h15,h⟩:=cf h;refine bq (ks':=uZ 3913 :: .b 1::uZ 979::GY M w0 r m1) 0 ⟨[(0,.sl (lm az v1)),(2,iI v3),(4,.ptr 4 0),(8,.ref 35),(9,iI v10),(10,iI v11),(22,.bool v13)],[(4,aD v2)],[(35,⟨55,67,lm ay v12⟩)],[4,35]⟩ ?_ (by subst h15;kernel_rfl);obtain⟨h16,h⟩|⟨h16,h⟩:=av h
  ·refine ak 22 h16 (ax 4 5 2 (bI [0,2,4,8,9,10] [4] [35] ?_));obtain⟨h17,h⟩:=aw h;obtain⟨h18,h⟩:=aw h;exact co 2 (nu 23 [.ref 35,iI v10,iI v3,.ptr 4 38,iI v2.LineHeight,.sl (lm az v1),iI v11,.cptr (aI (gD v1 v11)),.cptr (List.drop 55 (aI (gD v1 v11))),.str ((gD v1 v11).Text),.agg (List.set (aZ ({ bQ with Kind:=2,Y:=v10,W:=v3,H:=v2.LineHeight,Text:=(gD v1 v11).Text }:ag)) 66 (.nils)),.sl (lm ay [({ bQ with Kind:=2,Y:=v10,W:=v3,H:=v2.LineHeight,Text:=(gD v1 v11).Text }:ag)])]) [] [] [fZ 35 35 ⟨55,67,lm ay (v12++[({ bQ with Kind:=2,Y:=v10,W:=v3,H:=v2.LineHeight,Text:=(gD v1 v11).Text }:ag)])⟩,cw Tryz.prog 42 Tryz.f25 (pn 15652) 13] (aF [.v 0 1,.v 0 2,.v 0 2,.v 0 2,.v 0 2,.v 0 2,.v 0 2] (aC (d4 (lo:=0) (k:=2) (cy ⟨(by kernel_rfl),(cE (cc az aI h17 (dw) (cS)) (by kernel_rfl))⟩ (cy ⟨(by kernel_rfl),(cE (cc az aI h17 (dw) (cS)) (by kernel_rfl))⟩ d8))) (aF [.v 0 2,.v 0 2,.v 0 2] (bt (gV ay ([({ bQ with Kind:=2,Y:=v10,W:=v3,H:=v2.LineHeight,Text:=(gD v1 v11).Text }:ag)]:List ag) (new:=[aZ ({ bQ with Kind:=2,Y:=v10,W:=v3,H:=v2.LineHeight,Text:=(gD v1 v11).Text }:ag)]) (by simp only[List.map_cons,List.map_nil,dP])) (aC (c7 (m:=0) (c6 35 35 55 67 ay (rfl) (fM) h18)) (aC (cG 1) cp)))))) (aj 1 (Py hK hL1 h))
  ·exact ak 22 h16 (aj 2 (Py hK hL1 h))
 ·refine ak 14 h13 (aW 8 ?_);cases h;exact gz
theorem abR(hK:am K)(m:Nat):Er M w0 r v1 v2 v3 m (qM K n v1 v2 v3 m):=by
 induction m with
 | zero=>intro v10 v11 v12 h;cases h
 | succ m ih=>intro v10 v11 v12 h;have h:yj K n v1 v2 v3 (qM K n v1 v2 v3 m) v10 v11 v12=some r:=h;exact aU (P5 hK ih h)
theorem RK(hK:am K)(h:zV K n v1 v2 v3=some r):aQ Tryz.prog 25 [.sl (lm az v1),.agg (aD v2),iI v3] (fun v s=>v=.tup [.ref 35,iI r.2]∧look 35 s.r=some ⟨55,67,lm ay r.1⟩):=by
 refine bF (cat Tryz.f25 (pn 1)) Tryz.func25 Tryz.ntmps25 fun M w0=>(bx ⟨[(0,.sl (lm az v1)),(1,.agg (aD v2)),(2,iI v3)],[],[],[]⟩ ?_);unfold zV at h;exact gx 122 0 31 10 (bI [0,2,4,8,9,10] [4] [] (eJ 35 8 55 67 (aj 0 (bP (p:=pn 122) n (abR hK n h)))))
end
noncomputable section
variable(M:Nat→Prop)(w0:aJ)(r:Int)(v1:ah)  
variable{M w0 r v1}{K:Kn}{n:Nat}
theorem UR(hK:am K)(h:BV K n v1=some r):aQ Tryz.prog 67 [.agg (aA v1)] (fun v _=>v=iI r):=by
 refine bF (cat Tryz.f67 (pn 1)) Tryz.func67 Tryz.ntmps67 fun M w0=>(bx ⟨[(0,.agg (aA v1))],[],[],[]⟩ ?_);unfold BV at h;refine aW 5 ?_;cases h;exact bW
end
noncomputable section
variable(M:Nat→Prop)(w0:aJ)(r:Bool)(v1:Int)  
variable{M w0 r v1}{K:Kn}{n:Nat}
theorem P7(hK:am K)(h:F8 K n v1=some r):aQ Tryz.prog 73 [iI v1] (fun v _=>v=.bool r):=by
 refine bF (cat Tryz.f73 (pn 1)) Tryz.func73 Tryz.ntmps73 fun M w0=>(bx ⟨[(0,iI v1)],[],[],[]⟩ ?_);unfold F8 at h;refine aW 5 ?_;cases h;exact bW
end
noncomputable section
variable(M:Nat→Prop)(w0:aJ)(r:Int)(v1:ah)  
variable{M w0 r v1}{K:Kn}{n:Nat}
theorem Wk(hK:am K)(h:E8 K n v1=some r):aQ Tryz.prog 78 [.agg (aA v1)] (fun v _=>v=iI r):=by
 refine bF (cat Tryz.f78 (pn 1)) Tryz.func78 Tryz.ntmps78 fun M w0=>(bx ⟨[(0,.agg (aA v1))],[],[],[]⟩ ?_);unfold E8 at h;refine aW 5 ?_;cases h;exact bW
end
end Go.Proofs.YtolhpahjgddjkaaGreat

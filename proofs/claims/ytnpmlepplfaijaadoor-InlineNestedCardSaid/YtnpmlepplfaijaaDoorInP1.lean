/- The runs of the functions that InlineNested reaches do what their plain forms say, part 1. Made by a program. -/
import Derived.Test.YtnpmlepplfaijaaDoorInGk
import Derived.Test.YtnpmlepplfaijaaDoorInP0
namespace Go.Proofs.YtnpmlepplfaijaaDoor
open Go.RowKit
set_option maxRecDepth 20000
set_option linter.all false
set_option linter.unusedVariables false
set_option linter.unusedSimpArgs false
noncomputable section
variable(M:Nat→Prop)(w0:aC)(r:ae)(v1:au)(v2:bD)(v3 v4:Bool)(v5:cq)(v6:(List au)×Bool)(v9:Int)(v10:List ae)(v15:Int)(v16:Bool)(v17 v18:aP)(v19:List ae)(v20 v21:aP)(v23:Bool)(v25:Int)(v26:aP)(v27:Bool)(v32:Int)(v33 v34:aP)(v35:Bool)(v36:Int×Bool)(v37:Bool)(v38 v39 v40 v47:Int)(v48 v50:(List ae))(v52:Bool)(v54:List ae)(m1 m2:Nat)(L1 L2:Int→(List ae)→Option ae)
abbrev mQ:Cx:=⟨Tryd.prog,259,M,w0⟩
abbrev ot:=bodyPost Tryd.prog Tryd.f47 (bu M w0 (fun v s=>v=.agg (List.set (aD ({ r with Kids:=[] }:ae)) 66 (.ref 1054))∧look 1054 s.r=some ⟨51,67,lm ax r.Kids⟩))
abbrev fz(ks:List av)(s:AS):=VE (mQ M w0) (ot M w0 r) ks .normal s
abbrev cE(n:Nat):av:=.c (cat Tryd.f47 (pn n))
abbrev s8:List av:=[.b 4,cE 131071]
abbrev nq:List av:=kl (mQ M w0) (ot M w0 r) s8 (cat Tryd.f47 (pn 1048564)) m2::s8
abbrev ul:List av:=[.b 0,cE 4075,cE 255]
abbrev Gl:List av:=kl (mQ M w0) (ot M w0 r) ul (cat Tryd.f47 (pn 32596)) m1::ul
def C3:AS:=⟨[(6,.ptr 6 0),(10,.ptr 10 0),(11,.ptr 11 0),(12,.sl (lm aW v6.1)),(13,.bool v6.2),(15,iI v25),(199,iI (v19.length:Int)),(200,iI v47)],[(6,bz v2),(10,List.set (aD bo) 66 (.nils)),(11,List.set (aD (⟨1,v1.Node,v2.Margin.a3,0,(aa (v2.Content+v39)),v40,0,⟨#[]⟩,v1.Style,v33,v34,v35,[]⟩:ae)) 66 (.ref 1054))],[(1054,⟨51,67,lm ax v54⟩)],[6,10,11,1054]⟩
def Lk:AS:=⟨[(6,.ptr 6 0),(10,.ptr 10 0),(11,.ptr 11 0),(12,.sl (lm aW v6.1)),(13,.bool v6.2),(15,iI v25),(24,iI v47),(199,iI (v19.length:Int)),(200,iI v47),(244,.bool v52)],[(6,bz v2),(10,List.set (aD bo) 66 (.nils)),(11,List.set (aD (⟨1,v1.Node,v2.Margin.a3,0,(aa (v2.Content+v39)),v40,0,⟨#[]⟩,v1.Style,v33,v34,v35,[]⟩:ae)) 66 (.ref 1054))],[(1054,⟨51,67,lm ax v50⟩)],[6,10,11,1054]⟩
def AH:AS:=⟨[(6,.ptr 6 0),(10,.ptr 10 0),(11,.ptr 11 0),(12,.sl (lm aW v6.1)),(13,.bool v6.2),(15,iI v25),(199,iI (v19.length:Int)),(200,iI v47)],[(6,bz v2),(10,List.set (aD bo) 66 (.nils)),(11,List.set (aD (⟨1,v1.Node,v2.Margin.a3,0,(aa (v2.Content+v39)),v40,0,⟨#[]⟩,v1.Style,v33,v34,v35,[]⟩:ae)) 66 (.ref 1054))],[(1054,⟨51,67,lm ax v48⟩)],[6,10,11,1054]⟩
def Ik:AS:=⟨[(6,.ptr 6 0),(10,.ptr 10 0),(11,.ptr 11 0),(12,.sl (lm aW v6.1)),(13,.bool v6.2),(14,iI v38),(15,iI v25)],[(6,bz v2),(10,List.set (aD bo) 66 (.nils)),(11,List.set (aD ({ bo with Kind:=1,Node:=v1.Node,Style:=v1.Style,Before:=v33,After:=v34,Empty:=v35 }:ae)) 66 (.ref 1054))],[(1054,⟨51,67,lm ax v19⟩)],[6,10,11,1054]⟩
def Gw:AS:=⟨[(6,.ptr 6 0),(10,.ptr 10 0),(11,.ptr 11 0),(12,.sl (lm aW v6.1)),(13,.bool v6.2),(14,iI (max v32 0)),(15,iI v25),(22,iI v36.1),(166,.bool v37)],[(6,bz v2),(10,List.set (aD bo) 66 (.nils)),(11,List.set (aD ({ bo with Kind:=1,Node:=v1.Node,Style:=v1.Style,Before:=v33,After:=v34,Empty:=v35 }:ae)) 66 (.ref 1054))],[(1054,⟨51,67,lm ax v19⟩)],[6,10,11,1054]⟩
def Jc:AS:=⟨[(5,.ptr 5 0),(6,.ptr 6 0),(10,.ptr 10 0),(11,.ptr 11 0),(12,.sl (lm aW v6.1)),(13,.bool v6.2),(14,iI v32),(15,iI v25)],[(5,aZ v1),(6,bz v2),(10,List.set (aD bo) 66 (.nils)),(11,List.set (aD ({ bo with Kind:=1,Node:=v1.Node,Style:=v1.Style,Before:=v33,After:=v34,Empty:=v35 }:ae)) 66 (.ref 1054))],[(1054,⟨51,67,lm ax v19⟩)],[5,6,10,11,1054]⟩
def Fx:AS:=⟨[(3,.bool v4),(5,.ptr 5 0),(6,.ptr 6 0),(10,.ptr 10 0),(11,.ptr 11 0),(12,.sl (lm aW v6.1)),(13,.bool v6.2),(14,iI v15),(15,iI v25),(16,.ptr 16 0),(17,.ptr 17 0),(18,.bool v16),(113,.bool v27)],[(5,aZ v1),(6,bz v2),(10,List.set (aD bo) 66 (.nils)),(11,List.set (aD ({ bo with Kind:=1,Node:=v1.Node,Style:=v1.Style,Before:=v26,After:=v21 }:ae)) 66 (.ref 1054)),(16,bJ v17),(17,bJ v18)],[(1054,⟨51,67,lm ax v19⟩)],[5,6,10,11,16,17,1054]⟩
def Dk:AS:=⟨[(2,.bool v3),(3,.bool v4),(5,.ptr 5 0),(6,.ptr 6 0),(10,.ptr 10 0),(11,.ptr 11 0),(12,.sl (lm aW v6.1)),(13,.bool v6.2),(14,iI v15),(15,iI v25),(16,.ptr 16 0),(17,.ptr 17 0),(18,.bool v16)],[(5,aZ v1),(6,bz v2),(10,List.set (aD bo) 66 (.nils)),(11,List.set (aD ({ bo with Kind:=1,Node:=v1.Node,Style:=v1.Style,Before:=v26,After:=v21 }:ae)) 66 (.ref 1054)),(16,bJ v17),(17,bJ v18)],[(1054,⟨51,67,lm ax v19⟩)],[5,6,10,11,16,17,1054]⟩
def EH:AS:=⟨[(2,.bool v3),(3,.bool v4),(5,.ptr 5 0),(6,.ptr 6 0),(10,.ptr 10 0),(11,.ptr 11 0),(12,.sl (lm aW v6.1)),(13,.bool v6.2),(14,iI v15),(15,iI 0),(16,.ptr 16 0),(17,.ptr 17 0),(18,.bool v16),(98,.bool v23)],[(5,aZ v1),(6,bz v2),(10,List.set (aD bo) 66 (.nils)),(11,List.set (aD ({ bo with Kind:=1,Node:=v1.Node,Style:=v1.Style,Before:=v20,After:=v21 }:ae)) 66 (.ref 1054)),(16,bJ v17),(17,bJ v18)],[(1054,⟨51,67,lm ax v19⟩)],[5,6,10,11,16,17,1054]⟩
def IG:AS:=⟨[(2,.bool v3),(3,.bool v4),(5,.ptr 5 0),(6,.ptr 6 0),(10,.ptr 10 0),(11,.ptr 11 0),(12,.sl (lm aW v6.1)),(13,.bool v6.2),(14,iI v15),(15,iI 0),(16,.ptr 16 0),(17,.ptr 17 0),(18,.bool v16)],[(5,aZ v1),(6,bz v2),(10,List.set (aD bo) 66 (.nils)),(11,List.set (aD ({ bo with Kind:=1,Node:=v1.Node,Style:=v1.Style }:ae)) 66 (.ref 1054)),(16,bJ v17),(17,bJ v18)],[(1054,⟨51,67,lm ax v19⟩)],[5,6,10,11,16,17,1054]⟩
def BI:AS:=⟨[(2,.bool v3),(3,.bool v4),(5,.ptr 5 0),(6,.ptr 6 0),(9,.ptr 9 0),(10,.ptr 10 0),(11,.ptr 11 0),(12,.sl (lm aW v6.1)),(13,.bool v6.2),(15,iI 0),(16,.ptr 16 0),(17,.ptr 17 0),(19,.ref 50),(36,.sl (lm aW v6.1)),(37,iI (v6.1.length:Int)),(38,iI v9)],[(5,aZ v1),(6,bz v2),(9,ct v5),(10,List.set (aD bo) 66 (.nils)),(11,List.set (aD ({ bo with Kind:=1,Node:=v1.Node,Style:=v1.Style }:ae)) 66 (.nils)),(16,bJ cr),(17,bJ cr)],[(50,⟨51,67,lm ax v10⟩)],[5,6,9,10,11,16,17,50]⟩
abbrev AU:Prop:=∀{v9:Int} {v10:(List ae)},L1 v9 v10=some r→LP (mQ M w0) (ot M w0 r) ul (cat Tryd.f47 (pn 32596)) m1 (BI v1 v2 v3 v4 v5 v6 v9 v10)
abbrev pr:Prop:=∀{v47:Int} {v48:(List ae)},L2 v47 v48=some r→LP (mQ M w0) (ot M w0 r) s8 (cat Tryd.f47 (pn 1048564)) m2 (AH v1 v2 v6 v19 v25 v33 v34 v35 v39 v40 v47 v48)
variable{M w0 r v1 v2 v3 v4 v5 v6 v9 v10 v15 v16 v17 v18 v19 v20 v21 v23 v25 v26 v27 v32 v33 v34 v35 v36 v37 v38 v39 v40 v47 v48 v50 v52 v54 m1 m2 L1 L2}{K:Kn}{n:Nat}
theorem yo(hK:aq K)(hL2:pr M w0 r v1 v2 v6 v19 v25 v33 v34 v35 v39 v40 m2 L2)(h:qJ K n v1 v2 v6 v19 v25 v33 v34 v35 v39 v40 v47 L2 v54=some r):fz M w0 r (.b 5::cE 8388519::nq M w0 r m2) (C3 v1 v2 v6 v19 v25 v33 v34 v35 v39 v40 v47 v54):=by
 unfold qJ at h;exact ah 2 (bB (hL2 h))
theorem BL(hK:aq K)(hL2:pr M w0 r v1 v2 v6 v19 v25 v33 v34 v35 v39 v40 m2 L2)(h:qx K n v1 v2 v6 v19 v25 v33 v34 v35 v39 v40 v47 v50 L2 v52=some r):fz M w0 r (cE 268432591 :: .b 5::cE 8388519::nq M w0 r m2) (Lk v1 v2 v6 v19 v25 v33 v34 v35 v39 v40 v47 v50 v52):=by
 unfold qx at h;obtain⟨h64,h⟩|⟨h64,h⟩:=ak h
 ·refine ai 244 h64 (ba 2 1 (bU [6,10,11,12,13,15,24,199,200] [6,10,11] [1054] ?_));obtain⟨h65,h⟩:=aU h;obtain⟨v53,h66,h⟩:=bind_some h;obtain⟨h67,h⟩:=aU h;exact bZ 1 (nu 245 [.ptr 11 66,.ref 1054,iI v47,.ptr 11 66,.ref 1054,iI v47,.eptr 1054 67 (v47.toNat) 0,.agg (aD (gD v50 v47)),.ptr 6 12,iI v2.Content,.agg (aD v53),.eptr 1054 67 (v47.toNat) 0]) [] [] [rR 1054 ⟨51,67,lm ax (List.set v50 v47.toNat v53)⟩] (aB (vz 6) (bd (cA 1054 67 ax (L:=v50) h65) (bd (bV 51 0 ax aD (cm h67).2 (bN)) (aB (vz 2) (aj (bG 0 1 255 (zq hK h66)) (bd (cA 1054 67 ax (L:=v50) h67) (aj (gw (m:=0) (uA 1054 51 67 0 ax aD v53 (cm h67).2 (bN))) bW))))))) (ah 0 (yo hK hL2 h))
 ·exact ai 244 h64 (ah 2 (yo hK hL2 h))
theorem Hb(hK:aq K)(hL2:pr M w0 r v1 v2 v6 v19 v25 v33 v34 v35 v39 v40 m2 L2)(h:rV K n v1 v2 v6 v19 v25 v33 v34 v35 v39 v40 L2 v47 v48=some r):fz M w0 r (cE 1048564::nq M w0 r m2) (AH v1 v2 v6 v19 v25 v33 v34 v35 v39 v40 v47 v48):=by
 unfold rV at h;refine aA 6 7 3 ?_;obtain⟨h54,h⟩|⟨h54,h⟩:=ak h
 ·refine ai 201 h54 (dv 18 19 5 3 7 (bU [6,10,11,12,13,15,24,199,200] [6,10,11] [1054] ?_));obtain⟨h55,h⟩:=aU h;obtain⟨h56,h⟩:=aU h;refine bZ 1 (nu 203 [.ptr 11 66,.ref 1054,iI v47,.eptr 1054 67 (v47.toNat) 0,.eptr 1054 67 (v47.toNat) 2,iI ((gD v48 v47).X),.ptr 6 4,.ptr 6 7,iI v2.Border.a3,.ptr 6 8,.ptr 6 11,iI v2.Padding.a3,iI (aa (v2.Border.a3+v2.Padding.a3)),iI (aa (((gD v48 v47).X)+(aa (v2.Border.a3+v2.Padding.a3)))),.eptr 1054 67 (v47.toNat) 0,.eptr 1054 67 (v47.toNat) 2]) [] [] [rR 1054 ⟨51,67,lm ax (List.set v48 v47.toNat ({ (gD v48 v47)with X:=(aa (((gD v48 v47).X)+(aa (v2.Border.a3+v2.Padding.a3)))) }:ae))⟩] (aB (vz 3) (bd (cA 1054 67 ax (L:=v48) h55) (aB [.v 0 1] (bd (bV 3 2 ax aD (cm h56).2 (bN)) (aB (vz 8) (aj (j7 (lo:=0) (k:=2) (iP ⟨(by kernel_rfl),(jL (cA 1054 67 ax (L:=v48) h56) (by kernel_rfl))⟩ (iP ⟨(by kernel_rfl),(jL (cA 1054 67 ax (L:=(List.set v48 v47.toNat ({ (gD v48 v47)with X:=(aa (((gD v48 v47).X)+(aa (v2.Border.a3+v2.Padding.a3)))) }:ae))) h56) (by kernel_rfl))⟩ ni))) (aB [.v 0 1] (aj (gw (m:=0) (uA 1054 51 67 2 ax aD ({ (gD v48 v47)with X:=(aa (((gD v48 v47).X)+(aa (v2.Border.a3+v2.Padding.a3)))) }:ae) (cm h56).2 (bN))) bW)))))))) ?_
  obtain⟨v49,h57,h⟩:=co h;refine bC (ks':=cE 134216294::cE 134216295 :: .b 5::cE 8388519::nq M w0 r m2) 1 ⟨[(6,.ptr 6 0),(10,.ptr 10 0),(11,.ptr 11 0),(12,.sl (lm aW v6.1)),(13,.bool v6.2),(15,iI v25),(24,iI v47),(199,iI (v19.length:Int)),(200,iI v47)],[(6,bz v2),(10,List.set (aD bo) 66 (.nils)),(11,List.set (aD (⟨1,v1.Node,v2.Margin.a3,0,(aa (v2.Content+v39)),v40,0,⟨#[]⟩,v1.Style,v33,v34,v35,[]⟩:ae)) 66 (.ref 1054))],[(1054,⟨51,67,lm ax v49⟩)],[6,10,11,1054]⟩ ?_ (by subst h57;kernel_rfl);obtain⟨h58,h⟩:=aU h;obtain⟨h59,h⟩:=aU h;refine bZ 1 (nu 219 [.ptr 11 66,.ref 1054,iI v47,.eptr 1054 67 (v47.toNat) 0,.eptr 1054 67 (v47.toNat) 3,iI ((gD v49 v47).Y),.ptr 6 4,.ptr 6 4,iI v2.Border.a0,.ptr 6 8,.ptr 6 8,iI v2.Padding.a0,iI (aa (v2.Border.a0+v2.Padding.a0)),iI v25,iI (aa ((aa (v2.Border.a0+v2.Padding.a0))+v25)),iI (aa (((gD v49 v47).Y)+(aa ((aa (v2.Border.a0+v2.Padding.a0))+v25)))),.eptr 1054 67 (v47.toNat) 0,.eptr 1054 67 (v47.toNat) 3]) [] [] [rR 1054 ⟨51,67,lm ax (List.set v49 v47.toNat ({ (gD v49 v47)with Y:=(aa (((gD v49 v47).Y)+(aa ((aa (v2.Border.a0+v2.Padding.a0))+v25)))) }:ae))⟩] (aB (vz 3) (bd (cA 1054 67 ax (L:=v49) h58) (aB [.v 0 1] (bd (bV 3 3 ax aD (cm h59).2 (bN)) (aB (vz 10) (aj (j7 (lo:=0) (k:=2) (iP ⟨(by kernel_rfl),(jL (cA 1054 67 ax (L:=v49) h59) (by kernel_rfl))⟩ (iP ⟨(by kernel_rfl),(jL (cA 1054 67 ax (L:=(List.set v49 v47.toNat ({ (gD v49 v47)with Y:=(aa (((gD v49 v47).Y)+(aa ((aa (v2.Border.a0+v2.Padding.a0))+v25)))) }:ae))) h59) (by kernel_rfl))⟩ ni))) (aB [.v 0 1] (aj (gw (m:=0) (uA 1054 51 67 3 ax aD ({ (gD v49 v47)with Y:=(aa (((gD v49 v47).Y)+(aa ((aa (v2.Border.a0+v2.Padding.a0))+v25)))) }:ae) (cm h59).2 (bN))) bW)))))))) ?_
  obtain⟨v50,h60,h⟩:=co h;refine bC (ks':=cE 268432590::cE 268432591 :: .b 5::cE 8388519::nq M w0 r m2) 1 ⟨[(6,.ptr 6 0),(10,.ptr 10 0),(11,.ptr 11 0),(12,.sl (lm aW v6.1)),(13,.bool v6.2),(15,iI v25),(24,iI v47),(199,iI (v19.length:Int)),(200,iI v47)],[(6,bz v2),(10,List.set (aD bo) 66 (.nils)),(11,List.set (aD (⟨1,v1.Node,v2.Margin.a3,0,(aa (v2.Content+v39)),v40,0,⟨#[]⟩,v1.Style,v33,v34,v35,[]⟩:ae)) 66 (.ref 1054))],[(1054,⟨51,67,lm ax v50⟩)],[6,10,11,1054]⟩ ?_ (by subst h60;kernel_rfl);refine am 2 ?_;obtain⟨h61,h⟩|⟨h61,h⟩:=ak h
  ·refine ay 238 h61 (aN 4 2 ?_);obtain⟨h62,h⟩:=aU h;refine aF (bO aW aZ h62 (fL) (ep)) (aN 6 1 ?_);obtain⟨v51,h63,h⟩:=bind_some h;exact aO (ya hK h63) (ac (ah 0 (BL hK hL2 h)))
  ·exact ay 238 h61 (ac (ah 0 (BL hK hL2 h)))
 ·refine ai 201 h54 (aJ 8 ?_);cases h;exact fl
theorem Di(hK:aq K)(m:Nat):pr M w0 r v1 v2 v6 v19 v25 v33 v34 v35 v39 v40 m (pW K n v1 v2 v6 v19 v25 v33 v34 v35 v39 v40 m):=by
 induction m with
 | zero=>intro v47 v48 h;cases h
 | succ m ih=>intro v47 v48 h;have h:rV K n v1 v2 v6 v19 v25 v33 v34 v35 v39 v40 (pW K n v1 v2 v6 v19 v25 v33 v34 v35 v39 v40 m) v47 v48=some r:=h;exact bt (Hb hK ih h)
theorem wK(hK:aq K)(h:rq K n v1 v2 v6 v19 v25 v33 v34 v35 v38=some r):fz M w0 r [cE 8191] (Ik v1 v2 v6 v19 v25 v33 v34 v35 v38):=by
 unfold rq at h;refine aA 6 7 3 (bU [6,10,11,12,13,14,15] [6,10,11] [1054] ?_);obtain⟨v39,h38,h⟩:=bind_some h;refine bZ 1 (nu 173 [.ptr 6 12,iI v2.Content,.agg (bz v2),iI v39,iI (aa (v2.Content+v39)),.ptr 11 4]) [] [] [bL Tryd.prog 259 Tryd.f47 (pn 32766) 6] (aB (vz 3) (aj (bG 0 1 176 (Li hK h38)) (aB (vz 2) (aj (bQ 0) bW)))) ?_;obtain⟨v40,h39,h⟩:=co h;refine bC (ks':=[cE 262140,cE 262141,cE 131071]) 4 ⟨[(6,.ptr 6 0),(10,.ptr 10 0),(11,.ptr 11 0),(12,.sl (lm aW v6.1)),(13,.bool v6.2),(15,iI v25)],[(6,bz v2),(10,List.set (aD bo) 66 (.nils)),(11,List.set (aD (⟨1,v1.Node,v2.Margin.a3,0,(aa (v2.Content+v39)),v40,0,⟨#[]⟩,v1.Style,v33,v34,v35,[]⟩:ae)) 66 (.ref 1054))],[(1054,⟨51,67,lm ax v19⟩)],[6,10,11,1054]⟩ ?_ (by subst h39;kernel_rfl);exact am 2 (aF (bE ax v19) (ac (ah 1 (cH (p:=pn 524282) n (Di hK n h)))))
theorem AP(hK:aq K)(h:qu K n v1 v2 v6 v19 v25 v32 v33 v34 v35 v36 v37=some r):fz M w0 r [cE 32763,cE 8191] (Gw v1 v2 v6 v19 v25 v32 v33 v34 v35 v36 v37):=by
 unfold qu at h;obtain⟨h37,h⟩|⟨h37,h⟩:=ak h
 ·exact ai 166 h37 (ah 2 (wK hK h))
 ·exact ai 166 h37 (ah 2 (wK hK h))
theorem nJ(hK:aq K)(h:jh K n v1 v2 v6 v19 v25 v32 v33 v34 v35=some r):fz M w0 r [.b 3,cE 2047] (Jc v1 v2 v6 v19 v25 v32 v33 v34 v35):=by
 unfold jh at h;refine mc 12 13 7 5 (am 3 ?_);obtain⟨v36,h35,h⟩:=bind_some h;refine aO (dR hK h35) (ac (aA 2 3 1 (am 2 ?_)));obtain⟨h36,h⟩|⟨h36,h⟩:=ak h
 ·exact ay 160 h36 (ac (ah 0 (AP hK h)))
 ·exact ay 160 h36 (ac (ah 0 (AP hK h)))
theorem tr(hK:aq K)(h:nI K n v1 v2 v4 v6 v15 v16 v17 v18 v19 v21 v25 v26 v27=some r):fz M w0 r [cE 8185,.b 3,cE 2047] (Fx v1 v2 v4 v6 v15 v16 v17 v18 v19 v21 v25 v26 v27):=by
 unfold nI at h;obtain⟨h27,h⟩|⟨h27,h⟩:=ak h
 ·refine ai 113 h27 (aA 4 5 2 (am 4 ?_));obtain⟨v28,h28,h⟩:=bind_some h;exact aO (ng hK h28) (ac (ah 5 (nJ hK h)))
 ·refine ai 113 h27 (ba 7 3 ?_);obtain⟨h29,h⟩|⟨h29,h⟩:=ak h
  ·refine ai 131 h29 (ba 11 5 ?_);obtain⟨h30,h⟩|⟨h30,h⟩:=ak h
   ·refine ai 134 h30 (ba 2 1 (am 3 ?_));obtain⟨v29,h31,h⟩:=bind_some h;exact aO (ng hK h31) (ac (ah 0 (nJ hK h)))
   ·exact ai 134 h30 (ah 2 (nJ hK h))
  ·refine ai 131 h29 (ba 7 3 ?_);obtain⟨h32,h⟩|⟨h32,h⟩:=ak h
   ·refine ai 140 h32 (aA 4 5 2 (am 3 ?_));obtain⟨v30,h33,h⟩:=bind_some h;exact aO (ng hK h33) (ac (ah 1 (nJ hK h)))
   ·refine ai 140 h32 (ba 3 1 (am 3 ?_));obtain⟨v31,h34,h⟩:=bind_some h;exact aO (jZ hK h34) (ac (ah 0 (nJ hK h)))
theorem vo(hK:aq K)(h:mf K n v1 v2 v3 v4 v6 v15 v16 v17 v18 v19 v21 v25 v26=some r):fz M w0 r [.b 2,cE 1023] (Dk v1 v2 v3 v4 v6 v15 v16 v17 v18 v19 v21 v25 v26):=by
 unfold mf at h;refine dv 8 9 3 3 4 (am 2 ?_);obtain⟨h25,h⟩|⟨h25,h⟩:=ak h
 ·refine ay 115 h25 (aN 5 3 ?_);obtain⟨h26,h⟩|⟨h26,h⟩:=ak h
  ·exact ay 118 h26 (ac (ah 0 (tr hK h)))
  ·exact ay 118 h26 (ac (ah 0 (tr hK h)))
 ·exact ay 115 h25 (ac (ah 0 (tr hK h)))
theorem yN(hK:aq K)(h:rp K n v1 v2 v3 v4 v6 v15 v16 v17 v18 v19 v20 v21 v23=some r):fz M w0 r [cE 16359,.b 2,cE 1023] (EH v1 v2 v3 v4 v6 v15 v16 v17 v18 v19 v20 v21 v23):=by
 unfold rp at h;obtain⟨h23,h⟩|⟨h23,h⟩:=ak h
 ·refine ai 98 h23 (ba 2 1 (am 1 ?_));obtain⟨v24,h24,h⟩:=bind_some h;exact aO (jZ hK h24) (ac (ah 0 (vo hK h)))
 ·exact ai 98 h23 (ah 2 (vo hK h))
theorem wY(hK:aq K)(h:pM K n v1 v2 v3 v4 v6 v15 v16 v17 v18 v19=some r):fz M w0 r [cE 255] (IG v1 v2 v3 v4 v6 v15 v16 v17 v18 v19):=by
 unfold pM at h;refine aA 2 3 1 (bU [2,3,5,6,10,11,12,13,14,15,16,17,18] [5,6,10,11,16,17] [1054] ?_);obtain⟨v20,h18,h⟩:=bind_some h;obtain⟨v21,h19,h⟩:=bind_some h;refine bZ 2 (nu 81 [.ptr 6 0,.ptr 6 0,iI v2.Margin.a0,.agg (bJ v20),.ptr 6 0,.ptr 6 2,iI v2.Margin.a2,.agg (bJ v21),.ptr 11 61,.ptr 11 63]) [] [] [bL Tryd.prog 259 Tryd.f47 (pn 510) 9,bL Tryd.prog 259 Tryd.f47 (pn 510) 11] (aB (vz 3) (aj (bG 0 1 84 (yg hK h18)) (aB [.v 0 2,.v 0 2,.v 0 2] (aj (bG 0 1 88 (yg hK h19)) (aB [.v 0 1] (aj (bQ 0) (aB [.v 1 1] (aj (bQ 1) bW)))))))) (iS 9 2 3 4 ?_);obtain⟨h20,h⟩|⟨h20,h⟩:=ak h
 ·refine ai 91 h20 (ba 2 1 (am 3 ?_));obtain⟨v22,h21,h⟩:=bind_some h;exact aO (ng hK h21) (ac (ah 0 (vo hK h)))
 ·refine ai 91 h20 (aA 6 7 2 (am 3 ?_));obtain⟨h22,h⟩|⟨h22,h⟩:=ak h
  ·exact ay 101 h22 (ac (ah 0 (yN hK h)))
  ·exact ay 101 h22 (ac (ah 0 (yN hK h)))
theorem Ga(hK:aq K)(hL1:AU M w0 r v1 v2 v3 v4 v5 v6 m1 L1)(h:qy K n v1 v2 v3 v4 v5 v6 L1 v9 v10=some r):fz M w0 r (cE 32596::Gl M w0 r m1) (BI v1 v2 v3 v4 v5 v6 v9 v10):=by
 unfold qy at h;refine aA 6 7 3 ?_;obtain⟨h11,h⟩|⟨h11,h⟩:=ak h
 ·refine ai 39 h11 (dv 8 9 1 3 5 (am 0 ?_));obtain⟨h12,h⟩:=aU h;refine aF (bO aW aZ h12 (fL) (ep)) (ac (am 6 ?_));obtain⟨v11,h13,h⟩:=bind_some h;refine kL (hK.qc h13) (aF (fh ax ([v11]:List ae) (new:=[aD v11]) (by simp only[List.map_cons,List.map_nil,bN])) ?_);obtain⟨h14,h⟩:=aU h;exact aF (cT 50 50 51 67 ax (rfl) (eN) h14) (ac (ah 2 (bB (hL1 h))))
 ·refine ai 39 h11 (cC (ks':=[cE 4075,cE 255]) 5 (am 1 (pJ 50 ?_)));obtain⟨v12,h15,h⟩:=bind_some h;exact gS 1054 (JP hK h15) (rg (i:=0) rfl) (ac (ah 0 (wY hK h)))
theorem Fi(hK:aq K)(m:Nat):AU M w0 r v1 v2 v3 v4 v5 v6 m (rA K n v1 v2 v3 v4 v5 v6 m):=by
 induction m with
 | zero=>intro v9 v10 h;cases h
 | succ m ih=>intro v9 v10 h;have h:qy K n v1 v2 v3 v4 v5 v6 (rA K n v1 v2 v3 v4 v5 v6 m) v9 v10=some r:=h;exact bt (Ga hK ih h)
theorem yi(hK:aq K)(h:ru K n v1 v2 v3 v4 v5=some r):aS Tryd.prog 47 [.agg (aZ v1),.agg (bz v2),.bool v3,.bool v4,.agg (ct v5)] (fun v s=>v=.agg (List.set (aD ({ r with Kids:=[] }:ae)) 66 (.ref 1054))∧look 1054 s.r=some ⟨51,67,lm ax r.Kids⟩):=by
 refine bl (cat Tryd.f47 (pn 1)) Tryd.func47 Tryd.ntmps47 fun M w0=>(bi ⟨[(0,.agg (aZ v1)),(1,.agg (bz v2)),(2,.bool v3),(3,.bool v4),(4,.agg (ct v5))],[],[],[]⟩ ?_);unfold ru at h;refine aA 14 15 5 (am 1 ?_);obtain⟨v6,h1,h⟩:=bind_some h;refine aO (A4 hK h1) (ac (aA 61 31 9 ?_));obtain⟨h2,h⟩|⟨h2,h⟩:=ak h
 ·exact ai 35 h2 (cj 20 21 11 5 (am 1 (aF (bE aW v6.1) (ac (gV 2 0 1 (bU [2,3,5,6,9,10,11,12,13,15,16,17,19,36,37,38] [5,6,9,10,11,16,17] [] (gA 50 19 51 67 (ah 0 (cH (p:=pn 16298) n (Fi hK n h))))))))))
 ·refine ai 35 h2 (aA 6 7 2 (am 7 ?_));obtain⟨v13,h16,h⟩:=bind_some h;refine kL (hK.po h16) (ac (aA 2 3 1 (am 2 ?_)));obtain⟨v14,h17,h⟩:=bind_some h;exact gS 1075 (F5 hK h17) (iG 5) (ac (am 2 (aF (bE ax v14) (ac (bU [2,3,5,6,10,11,12,13,14,15,16,17,18] [5,6,10,11,16,17] [1075] (Fc 1075 1054 (ah 0 (wY hK h))))))))
end
noncomputable section
variable(M:Nat→Prop)(w0:aC)(r:ae)(v1:au)(v2:bD)(v3:cq)  
variable{M w0 r v1 v2 v3}{K:Kn}{n:Nat}
theorem Hi(hK:aq K)(h:uQ K n v1 v2 v3=some r):aS Tryd.prog 29 [.agg (aZ v1),.agg (bz v2),.agg (ct v3)] (fun v s=>v=.agg (List.set (aD ({ r with Kids:=[] }:ae)) 66 (.ref 1010))∧look 1010 s.r=some ⟨51,67,lm ax r.Kids⟩):=by
 refine bl (cat Tryd.f29 (pn 1)) Tryd.func29 Tryd.ntmps29 fun M w0=>(bi ⟨[(0,.agg (aZ v1)),(1,.agg (bz v2)),(2,.agg (ct v3))],[],[],[]⟩ ?_);unfold uQ at h;refine aA 6 7 3 (am 3 ?_);obtain⟨v4,h1,h⟩:=bind_some h;refine gS 1010 (yi hK h1) (pE (i:=66) (by kernel_rfl)) (ac (aJ 1 ?_));cases h;exact fl
end
noncomputable section
variable(M:Nat→Prop)(w0:aC)(r:aw)(v1:au)(v2:Int)(v3:cq)  
variable{M w0 r v1 v2 v3}{K:Kn}{n:Nat}
theorem JW(hK:aq K)(h:pF K n v1 v2 v3=some r):aS Tryd.prog 25 [.agg (aZ v1),.cptr ([iI v2]),.cptr (ct v3)] (fun v _=>v=.agg (aM r)):=by
 refine bl (cat Tryd.f25 (pn 1)) Tryd.func25 Tryd.ntmps25 fun M w0=>(bi ⟨[(0,.agg (aZ v1)),(1,.cptr ([iI v2])),(2,.cptr (ct v3))],[],[],[]⟩ ?_);unfold pF at h;refine aA 6 7 3 (bU [1,2,3,4] [3,4] [] ?_);obtain⟨v4,h1,h⟩:=bind_some h;obtain⟨v5,h2,h⟩:=bind_some h;refine bZ 1 (nu 7 [.ptr 3 2,.agg (aG v1.Style),iI v2,.agg (aZ v1),iI v2,.agg (ct v3),iI v4,.agg (bz v5)]++nu 5 [.ptr 5 0]) [(5,bz fq)] [] [bL Tryd.prog 36 Tryd.f25 (pn 6) 9] (aB (vz 6) (aj (bG 0 1 13 (Dh hK h1)) (aj (bG 0 1 14 (nO hK h2)) (aj (tn 0 1 76 5 (bz fq)) (aj (bQ 0) bW))))) (aA 2 3 1 (bU [1,2,3,4,5] [3,4,5] [] ?_));obtain⟨v7,h4,h⟩:=bind_some h;obtain⟨v8,h5,h⟩:=bind_some h;refine bZ 1 (nu 15 [.agg (aZ v1),.agg (bz v5),.agg (ct v3),.agg (aD v7),iI v2,.agg (aD v8)]++nu 6 [.ptr 6 0]) [(6,List.set (aD bo) 66 (.nils))] [] [bL Tryd.prog 36 Tryd.f25 (pn 14) 7] (aB (vz 3) (aj (bG 0 1 18 (aS.br (Hi hK h4) (V':=.agg (aD v7)) (by kernel_rfl))) (aB [.v 0 1] (aj (bG 0 1 20 (zq hK h5)) (aj (tn 0 1 51 6 (List.set (aD bo) 66 (.nils))) (aj (bQ 0) bW)))))) (aA 2 3 1 (bU [4,5,6] [4,5,6] [] ?_))
 obtain⟨v9,h6,h⟩:=bind_some h;obtain⟨v10,h7,h⟩:=bind_some h;obtain⟨v11,h8,h⟩:=bind_some h;refine bZ 1 (nu 21 [.agg (bz v5),iI v9,.ptr 6 5,iI v8.H,.ptr 6 61,.agg (bJ v8.Before),iI v10,iI (aa (v8.H+v10)),.ptr 6 63,.agg (bJ v8.After),iI v11,iI (aa ((aa (v8.H+v10))+v11)),.agg (aD v8),.sl (lm ax [v8]),.agg (aM ({ cy with Width:=v9,Above:=(aa ((aa (v8.H+v10))+v11)),Box:=[v8] }:aw))]) [] [] [bL Tryd.prog 36 Tryd.f25 (pn 30) 15] (aB [.v 0 1] (aj (bG 0 1 22 (kD hK h6)) (aB (vz 4) (aj (bG 0 1 27 (jZ hK h7)) (aB (vz 3) (aj (bG 0 1 31 (jZ hK h8)) (aB (vz 2) (bd (fh ax ([v8]:List ae) (new:=[aD v8]) (by simp only[List.map_cons,List.map_nil,bN])) (aB [.v 0 1] (aj (bQ 0) bW)))))))))) (aJ 1 ?_);cases h;exact bc
end
noncomputable section
variable(M:Nat→Prop)(w0:aC)(r:List aw)(v1:List au)(v2:Int)(v3:cq)  
variable{M w0 r v1 v2 v3}{K:Kn}{n:Nat}
theorem G2(hK:aq K)(h:mC K n v1 v2 v3=some r):aS Tryd.prog 14 [.sl (lm aW v1),iI v2,.agg (ct v3)] (fun v s=>v=.ref 1009∧look 1009 s.r=some ⟨74,62,lm aM r⟩):=by
 refine bl (cat Tryd.f14 (pn 1)) Tryd.func14 Tryd.ntmps14 fun M w0=>(bi ⟨[(0,.sl (lm aW v1)),(1,iI v2),(2,.agg (ct v3))],[],[],[]⟩ ?_);unfold mC at h;refine aA 6 7 3 (am 1 (Bi 4 4 ([iI v2]) (Bi 5 5 (ct v3) (I4 25 #[(.tmp 4),(.tmp 5)] [.cptr ([iI v2]),.cptr (ct v3)] ?_))));obtain⟨v4,h1,h⟩:=bind_some h;refine gS 1009 (Gp hK h1) (iG 117) (ac (aJ 1 ?_));cases h;exact fl
end
noncomputable section
variable(M:Nat→Prop)(w0:aC)(r:Int)(v1:List aw)(v2 v4:Int)(v5:Bool)(m1:Nat)(L1:Int→Option Int)
abbrev uV:Cx:=⟨Tryd.prog,22,M,w0⟩
abbrev vt:=bodyPost Tryd.prog Tryd.f32 (bu M w0 (fun v _=>v=iI r))
abbrev zF(ks:List av)(s:AS):=VE (uV M w0) (vt M w0 r) ks .normal s
abbrev oU(n:Nat):av:=.c (cat Tryd.f32 (pn n))
abbrev u0:List av:=[.b 0,oU 15]
abbrev Ag:List av:=kl (uV M w0) (vt M w0 r) u0 (cat Tryd.f32 (pn 56)) m1::u0
def I7:AS:=⟨[(0,.sl (lm aM v1)),(5,iI v4),(18,.bool v5)],[],[],[]⟩
def AD:AS:=⟨[(0,.sl (lm aM v1)),(5,iI v4)],[],[],[]⟩
abbrev tB:Prop:=∀{v4:Int},L1 v4=some r→LP (uV M w0) (vt M w0 r) u0 (cat Tryd.f32 (pn 56)) m1 (AD v1 v4)
variable{M w0 r v1 v2 v4 v5 m1 L1}{K:Kn}{n:Nat}
theorem yS(hK:aq K)(hL1:tB M w0 r v1 m1 L1)(h:kO K n v1 v4 L1 v5=some r):zF M w0 r (oU 225::oU 113::Ag M w0 r m1) (I7 v1 v4 v5):=by
 unfold kO at h;obtain⟨h6,h⟩|⟨h6,h⟩:=ak h
 ·exact ai 18 h6 (ah 5 (bB (hL1 h)))
 ·refine ai 18 h6 (aJ 8 ?_);cases h;exact bc
theorem D9(hK:aq K)(hL1:tB M w0 r v1 m1 L1)(h:l6 K n v1 L1 v4=some r):zF M w0 r (oU 56::Ag M w0 r m1) (AD v1 v4):=by
 unfold l6 at h;refine cj 4 5 3 2 (am 2 (aF (bE aM v1) (aN 5 2 ?_)));obtain⟨h4,h⟩|⟨h4,h⟩:=ak h
 ·refine ay 12 h4 (aN 7 2 ?_);obtain⟨h5,h⟩:=aU h;exact aF (bO aM aM h5 (gj) ((fun _=>rfl))) (ac (ah 0 (yS hK hL1 h)))
 ·exact ay 12 h4 (ac (ah 0 (yS hK hL1 h)))
theorem Ge(hK:aq K)(m:Nat):tB M w0 r v1 m (lM K n v1 m):=by
 induction m with
 | zero=>intro v4 h;cases h
 | succ m ih=>intro v4 h;have h:l6 K n v1 (lM K n v1 m) v4=some r:=h;exact bt (D9 hK ih h)
theorem B7(hK:aq K)(h:l3 K n v1 v2=some r):aS Tryd.prog 32 [.sl (lm aM v1),iI v2] (fun v _=>v=iI r):=by
 refine bl (cat Tryd.f32 (pn 1)) Tryd.func32 Tryd.ntmps32 fun M w0=>(bi ⟨[(0,.sl (lm aM v1)),(1,iI v2)],[],[],[]⟩ ?_);unfold l3 at h;exact ah 6 (cH (p:=pn 28) n (Ge hK n h))
end
noncomputable section
variable(M:Nat→Prop)(w0:aC)(r:Int)(v1:List aw)(v3:Int)(m1:Nat)(L1:Int→Option Int)
abbrev vd:Cx:=⟨Tryd.prog,18,M,w0⟩
abbrev tN:=bodyPost Tryd.prog Tryd.f35 (bu M w0 (fun v _=>v=iI r))
abbrev E1(ks:List av)(s:AS):=VE (vd M w0) (tN M w0 r) ks .normal s
abbrev Cs(n:Nat):av:=.c (cat Tryd.f35 (pn n))
abbrev vF:List av:=[.b 0,Cs 7]
abbrev K4:List av:=kl (vd M w0) (tN M w0 r) vF (cat Tryd.f35 (pn 52)) m1::vF
def z6:AS:=⟨[(0,.sl (lm aM v1)),(3,iI v3)],[],[],[]⟩
abbrev y3:Prop:=∀{v3:Int},L1 v3=some r→LP (vd M w0) (tN M w0 r) vF (cat Tryd.f35 (pn 52)) m1 (z6 v1 v3)
variable{M w0 r v1 v3 m1 L1}{K:Kn}{n:Nat}
theorem Ka(hK:aq K)(hL1:y3 M w0 r v1 m1 L1)(h:iH K n v1 L1 v3=some r):E1 M w0 r (Cs 52::K4 M w0 r m1) (z6 v1 v3):=by
 unfold iH at h;refine aA 5 3 3 ?_;obtain⟨h5,h⟩|⟨h5,h⟩:=ak h
 ·refine ai 8 h5 (dv 8 9 1 3 5 (am 2 ?_));obtain⟨h6,h⟩:=aU h;refine aF (bO aM aM h6 (gj) ((fun _=>rfl))) (ac ?_);obtain⟨h7,h⟩|⟨h7,h⟩:=ak h
  ·refine ai 16 h7 (aJ 9 ?_);cases h;exact bc
  ·exact ai 16 h7 (ah 4 (bB (hL1 h)))
 ·refine ai 8 h5 (aJ 8 ?_);cases h;exact bc
theorem Jt(hK:aq K)(m:Nat):y3 M w0 r v1 m (im K n v1 m):=by
 induction m with
 | zero=>intro v3 h;cases h
 | succ m ih=>intro v3 h;have h:iH K n v1 (im K n v1 m) v3=some r:=h;exact bt (Ka hK ih h)
theorem ze(hK:aq K)(h:iE K n v1=some r):aS Tryd.prog 35 [.sl (lm aM v1)] (fun v _=>v=iI r):=by
 refine bl (cat Tryd.f35 (pn 1)) Tryd.func35 Tryd.ntmps35 fun M w0=>(bi ⟨[(0,.sl (lm aM v1))],[],[],[]⟩ ?_);unfold iE at h;exact cj 12 13 7 4 (am 1 (aF (bE aM v1) (ac (ah 1 (cH (p:=pn 26) n (Jt hK n h))))))
end
noncomputable section
variable(M:Nat→Prop)(w0:aC)(r:Int)(v1:List aw)(v2 v3 v5:Int)(m1:Nat)(L1:Int→Int→Option Int)
abbrev tv:Cx:=⟨Tryd.prog,33,M,w0⟩
abbrev sF:=bodyPost Tryd.prog Tryd.f33 (bu M w0 (fun v _=>v=iI r))
abbrev Bb(ks:List av)(s:AS):=VE (tv M w0) (sF M w0 r) ks .normal s
abbrev vy(n:Nat):av:=.c (cat Tryd.f33 (pn n))
abbrev wC:List av:=[.b 0,vy 15]
abbrev J2:List av:=kl (tv M w0) (sF M w0 r) wC (cat Tryd.f33 (pn 116)) m1::wC
def DD:AS:=⟨[(3,iI v5)],[],[],[]⟩
def zd:AS:=⟨[(0,.sl (lm aM v1)),(3,iI v2),(7,.sl (lm aM v1)),(8,iI (v1.length:Int)),(9,iI v3)],[],[],[]⟩
abbrev xm:Prop:=∀{v2:Int} {v3:Int},L1 v2 v3=some r→LP (tv M w0) (sF M w0 r) wC (cat Tryd.f33 (pn 116)) m1 (zd v1 v2 v3)
variable{M w0 r v1 v2 v3 v5 m1 L1}{K:Kn}{n:Nat}
theorem yT(hK:aq K)(h:nX K n v5=some r):Bb M w0 r [vy 31] (DD v5):=by
 unfold nX at h;refine aJ 3 ?_;cases h;exact bc
theorem Ji(hK:aq K)(hL1:xm M w0 r v1 m1 L1)(h:kG K n v1 L1 v2 v3=some r):Bb M w0 r (vy 116::J2 M w0 r m1) (zd v1 v2 v3):=by
 unfold kG at h;refine aA 6 7 3 ?_;obtain⟨h3,h⟩|⟨h3,h⟩:=ak h
 ·refine ai 10 h3 (dv 8 9 1 3 5 (am 0 ?_));obtain⟨h4,h⟩:=aU h;exact aF (bO aM aM h4 (gj) ((fun _=>rfl))) (ac (ah 3 (bB (hL1 h))))
 ·refine ai 10 h3 (Kg 4 5 3 7 (am 1 ?_));obtain⟨v4,h5,h⟩:=bind_some h;refine aO (ze hK h5) (ac (ba 3 2 ?_));obtain⟨h6,h⟩|⟨h6,h⟩:=ak h
  ·refine ai 24 h6 (ba 2 1 (am 3 ?_));obtain⟨h7,h⟩:=aU h;exact aF (bO aM aM h7 (gj) ((fun _=>rfl))) (ac (ah 0 (yT hK h)))
  ·exact ai 24 h6 (ah 2 (yT hK h))
theorem HL(hK:aq K)(m:Nat):xm M w0 r v1 m (kt K n v1 m):=by
 induction m with
 | zero=>intro v2 v3 h;cases h
 | succ m ih=>intro v2 v3 h;have h:kG K n v1 (kt K n v1 m) v2 v3=some r:=h;exact bt (Ji hK ih h)
theorem Cw(hK:aq K)(h:lZ K n v1=some r):aS Tryd.prog 33 [.sl (lm aM v1)] (fun v _=>v=iI r):=by
 refine bl (cat Tryd.f33 (pn 1)) Tryd.func33 Tryd.ntmps33 fun M w0=>(bi ⟨[(0,.sl (lm aM v1))],[],[],[]⟩ ?_);unfold lZ at h;exact cj 28 29 15 6 (am 1 (aF (bE aM v1) (ac (ah 1 (cH (p:=pn 58) n (HL hK n h))))))
end
noncomputable section
variable(M:Nat→Prop)(w0:aC)(r:List Int)(v1:List aw)(v2 v19:Int)(v20:List Int)(v25:Int)(v26:Bool)(m1 m2:Nat)(L1:Int→(List Int)→Option (List Int))(L2:Int→Option (List Int))
abbrev mF:Cx:=⟨Tryd.prog,46,M,w0⟩
abbrev mA:=bodyPost Tryd.prog Tryd.f15 (bu M w0 (fun v s=>v=.ref 16∧look 16 s.r=some ⟨3,1,lm (bp .i64) r⟩))
abbrev rG(ks:List av)(s:AS):=VE (mF M w0) (mA M w0 r) ks .normal s
abbrev fD(n:Nat):av:=.c (cat Tryd.f15 (pn n))
abbrev uv:List av:=[.b 0,fD 15]
abbrev o7:List av:=kl (mF M w0) (mA M w0 r) uv (cat Tryd.f15 (pn 116)) m1::uv
abbrev tK:List av:=.b 2::fD 3735 :: .b 1::o7 M w0 r m1
abbrev we:List av:=kl (mF M w0) (mA M w0 r) (tK M w0 r m1) (cat Tryd.f15 (pn 14936)) m2::(tK M w0 r m1)
def HT:AS:=⟨[(0,.sl (lm aM v1)),(1,iI v2),(5,.ref 16),(7,iI v25)],[],[(16,⟨3,1,lm (bp .i64) (v20++[v19])⟩)],[16]⟩
def I5:AS:=⟨[(0,.sl (lm aM v1)),(1,iI v2),(5,.ref 16),(6,iI v19),(7,iI v25),(32,.bool v26)],[],[(16,⟨3,1,lm (bp .i64) (v20++[v19])⟩)],[16]⟩
def yA:AS:=⟨[(0,.sl (lm aM v1)),(1,iI v2),(5,.ref 16),(6,iI v19),(7,iI v25)],[],[(16,⟨3,1,lm (bp .i64) (v20++[v19])⟩)],[16]⟩
def xi:AS:=⟨[(0,.sl (lm aM v1)),(1,iI v2),(5,.ref 16),(6,iI v19)],[],[(16,⟨3,1,lm (bp .i64) v20⟩)],[16]⟩
abbrev ki:Prop:=∀{v19:Int} {v20:(List Int)},L1 v19 v20=some r→LP (mF M w0) (mA M w0 r) uv (cat Tryd.f15 (pn 116)) m1 (xi v1 v2 v19 v20)
abbrev sI:Prop:=∀{v25:Int},L2 v25=some r→LP (mF M w0) (mA M w0 r) (tK M w0 r m1) (cat Tryd.f15 (pn 14936)) m2 (yA v1 v2 v19 v20 v25)
variable{M w0 r v1 v2 v19 v20 v25 v26 m1 m2 L1 L2}{K:Kn}{n:Nat}
theorem zm(hK:aq K)(hL1:ki M w0 r v1 v2 m1 L1)(h:qh K n v1 v2 v19 v20 v25 L1=some r):rG M w0 r (fD 3735 :: .b 1::o7 M w0 r m1) (HT v1 v2 v19 v20 v25):=by
 unfold qh at h;exact ah 2 (bB (hL1 h))
theorem zj(hK:aq K)(hL1:ki M w0 r v1 v2 m1 L1)(hL2:sI M w0 r v1 v2 v19 v20 m1 m2 L2)(h:kT K n v1 v2 v19 v20 v25 L1 L2 v26=some r):rG M w0 r (fD 59745::fD 29873::we M w0 r m1 m2) (I5 v1 v2 v19 v20 v25 v26):=by
 unfold kT at h;obtain⟨h47,h⟩|⟨h47,h⟩:=ak h
 ·refine ai 32 h47 (cC (ks':=fD 119492::fD 119493 :: .b 3::we M w0 r m1 m2) 4 (am 2 ?_));obtain⟨v27,h48,h⟩:=bind_some h;refine aO (B7 hK h48) (ac (cj 4 5 3 2 (am 3 ?_)));obtain⟨h49,h⟩:=aU h;refine aF (uD aM v1 v19 v27 64 (.tmp 36) (some (.tmp 37)) (some (.tmp 38)) 39 (e:=74) (sz:=62) (by kernel_rfl) (by kernel_rfl) (by kernel_rfl) (by kernel_rfl) (by kernel_rfl) (by kernel_rfl) (gj) (fun k hk=>by subst hk;kernel_rfl) h49) ?_;obtain⟨v28,h50,h⟩:=bind_some h;refine aO (Cw hK h50) (ac ?_);obtain⟨h51,h⟩|⟨h51,h⟩:=ak h
  ·exact ai 42 h51 (ah 6 (zm hK hL1 h))
  ·exact ai 42 h51 (ah 4 (bB (hL2 h)))
 ·exact ai 32 h47 (ah 5 (zm hK hL1 h))
theorem Ds(hK:aq K)(hL1:ki M w0 r v1 v2 m1 L1)(hL2:sI M w0 r v1 v2 v19 v20 m1 m2 L2)(h:kH K n v1 v2 v19 v20 L1 L2 v25=some r):rG M w0 r (fD 14936::we M w0 r m1 m2) (yA v1 v2 v19 v20 v25):=by
 unfold kH at h;refine cj 4 5 3 2 (am 2 (aF (bE aM v1) (aN 5 2 ?_)));obtain⟨h45,h⟩|⟨h45,h⟩:=ak h
 ·refine ay 24 h45 (aN 8 3 ?_);obtain⟨h46,h⟩:=aU h;exact aF (bO aM aM h46 (gj) ((fun _=>rfl))) (ac (ah 0 (zj hK hL1 hL2 h)))
 ·exact ay 24 h45 (ac (ah 0 (zj hK hL1 hL2 h)))
theorem Jw(hK:aq K)(hL1:ki M w0 r v1 v2 m1 L1)(m:Nat):sI M w0 r v1 v2 v19 v20 m1 m (kg K n v1 v2 v19 v20 L1 m):=by
 induction m with
 | zero=>intro v25 h;cases h
 | succ m ih=>intro v25 h;have h:kH K n v1 v2 v19 v20 L1 (kg K n v1 v2 v19 v20 L1 m) v25=some r:=h;exact bt (Ds hK hL1 ih h)
theorem HQ(hK:aq K)(hL1:ki M w0 r v1 v2 m1 L1)(h:kh K n v1 v2 L1 v19 v20=some r):rG M w0 r (fD 116::o7 M w0 r m1) (xi v1 v2 v19 v20):=by
 unfold kh at h;refine cj 4 5 3 2 (am 2 (aF (bE aM v1) (ac ?_)));obtain⟨h35,h⟩|⟨h35,h⟩:=ak h
 ·refine ai 12 h35 (cC (ks':=fD 932::fD 933 :: .b 1::o7 M w0 r m1) 4 (am 3 ?_));obtain⟨h36,h⟩:=aU h;refine aF (cT 16 16 3 1 (bp .i64) (rfl) ((fun _=>rfl)) h36) (ac (aA 2 3 1 (am 2 ?_)));obtain⟨v21,h37,h⟩:=bind_some h;exact aO (B7 hK h37) (ac (ah 2 (cH (p:=pn 7468) n (Jw hK hL1 n h))))
 ·refine ai 12 h35 (aJ 8 ?_);cases h;exact fl
theorem Ft(hK:aq K)(m:Nat):ki M w0 r v1 v2 m (j0 K n v1 v2 m):=by
 induction m with
 | zero=>intro v19 v20 h;cases h
 | succ m ih=>intro v19 v20 h;have h:kh K n v1 v2 (j0 K n v1 v2 m) v19 v20=some r:=h;exact bt (HQ hK ih h)
theorem Fn(hK:aq K)(h:mV K n v1 v2=some r):aS Tryd.prog 15 [.sl (lm aM v1),iI v2] (fun v s=>v=.ref 16∧look 16 s.r=some ⟨3,1,lm (bp .i64) r⟩):=by
 refine bl (cat Tryd.f15 (pn 1)) Tryd.func15 Tryd.ntmps15 fun M w0=>(bi ⟨[(0,.sl (lm aM v1)),(1,iI v2)],[],[],[]⟩ ?_);unfold mV at h;exact iS 58 0 15 8 (bU [0,1,5,6] [] [] (gA 16 5 3 1 (ah 0 (cH (p:=pn 58) n (Ft hK n h)))))
end
noncomputable section
variable(M:Nat→Prop)(w0:aC)(r:Int)(v1:aH)(v2 v3:Int)  
variable{M w0 r v1 v2 v3}{K:Kn}{n:Nat}
theorem JH(hK:aq K)(h:gX K n v1 v2 v3=some r):aS Tryd.prog 34 [.agg (aG v1),iI v2,iI v3] (fun v _=>v=iI r):=by
 refine bl (cat Tryd.f34 (pn 1)) Tryd.func34 Tryd.ntmps34 fun M w0=>(bi ⟨[(0,.agg (aG v1)),(1,iI v2),(2,iI v3)],[],[],[]⟩ ?_);unfold gX at h;refine aA 13 7 5 ?_;obtain⟨h1,h⟩|⟨h1,h⟩:=ak h
 ·refine ai 9 h1 (aJ 5 ?_);cases h;exact bc
 ·refine ai 9 h1 (Ei 21 0 3 8 ?_);obtain⟨h2,h⟩|⟨h2,h⟩:=ak h
  ·refine ai 12 h2 (aJ 6 ?_);cases h;exact bc
  ·refine ai 12 h2 (ba 7 3 ?_);obtain⟨h3,h⟩|⟨h3,h⟩:=ak h
   ·refine ai 18 h3 (aJ 6 ?_);cases h;exact bc
   ·refine ai 18 h3 (aJ 6 ?_);cases h;exact bc
end
noncomputable section
variable(M:Nat→Prop)(w0:aC)(r:Bool)(v1 v2:ByteArray)(v3:Bool)  
abbrev GG(n:Nat):av:=.c (cat Tryd.f48 (pn n))
abbrev Jz:Cx:=⟨Tryd.prog,21,M,w0⟩
abbrev GY:=bodyPost Tryd.prog Tryd.f48 (bu M w0 (fun v _=>v=.bool r))
abbrev DQ(ks:List av)(s:AS):=VE (Jz M w0) (GY M w0 r) ks .normal s
def DR:AS:=⟨[(4,.bool v3)],[],[],[]⟩
variable{M w0 r v1 v2 v3}{K:Kn}{n:Nat}
theorem AC(hK:aq K)(h:nV K n v3=some r):DQ M w0 r [GG 7] (DR v3):=by
 unfold nV at h;refine aJ 1 ?_;cases h;exact bc
theorem EZ(hK:aq K)(h:ql K n v1 v2=some r):aS Tryd.prog 48 [.str v1,.str v2] (fun v _=>v=.bool r):=by
 refine bl (cat Tryd.f48 (pn 1)) Tryd.func48 Tryd.ntmps48 fun M w0=>(bi ⟨[(0,.str v1),(1,.str v2)],[],[],[]⟩ ?_);unfold ql at h;refine aA 6 7 3 (am 6 ?_);obtain⟨h1,h⟩|⟨h1,h⟩:=ak h
 ·refine ay 10 h1 (aN 12 6 ?_);obtain⟨h2,h⟩:=aU h;exact aF (pB h2) (ac (ah 0 (AC hK h)))
 ·exact ay 10 h1 (ac (ah 0 (AC hK h)))
end
noncomputable section
variable(M:Nat→Prop)(w0:aC)(r:Bool)(v1 v2:ByteArray)  
variable{M w0 r v1 v2}{K:Kn}{n:Nat}
theorem DI(hK:aq K)(h:ou K n v1 v2=some r):aS Tryd.prog 36 [.str v1,.str v2] (fun v _=>v=.bool r):=by
 refine bl (cat Tryd.f36 (pn 1)) Tryd.func36 Tryd.ntmps36 fun M w0=>(bi ⟨[(0,.str v1),(1,.str v2)],[],[],[]⟩ ?_);unfold ou at h;refine aA 6 7 3 (am 2 ?_);obtain⟨v3,h1,h⟩:=bind_some h;refine aO (EZ hK h1) (ac (aJ 1 ?_));cases h;exact bc
end
noncomputable section
variable(M:Nat→Prop)(w0:aC)(r:ae)(v1:List aw)(v2:aH)(v3 v8 v9 v10 v11 v12 v15 v78 v79:Int)(v80:List ae)(v82:Bool)(v83:aw)(v87:List ae)(v104:Int)(v105:List ae)(m1 m2 m3:Nat)(L1:Int→Int→Int→Option ae)(L2:Int→Int→(List ae)→Option ae)(L3:Int→(List ae)→Option ae)
abbrev jX:Cx:=⟨Tryd.prog,156,M,w0⟩
abbrev jK:=bodyPost Tryd.prog Tryd.f16 (bu M w0 (fun v s=>v=.agg (List.set (aD ({ r with Kids:=[] }:ae)) 66 (.ref 114))∧look 114 s.r=some ⟨51,67,lm ax r.Kids⟩))
abbrev jm(ks:List av)(s:AS):=VE (jX M w0) (jK M w0 r) ks .normal s
abbrev c9(n:Nat):av:=.c (cat Tryd.f16 (pn n))
abbrev sQ:List av:=[.b 2,c9 255]
abbrev kN:List av:=kl (jX M w0) (jK M w0 r) sQ (cat Tryd.f16 (pn 2036)) m2::sQ
abbrev s4:List av:=[.b 0,c9 15]
abbrev zx:List av:=kl (jX M w0) (jK M w0 r) s4 (cat Tryd.f16 (pn 116)) m1::s4
abbrev wv:List av:=.b 4::c9 521423 :: .b 3::c9 16295::kN M w0 r m2
abbrev so:List av:=kl (jX M w0) (jK M w0 r) (wv M w0 r m2) (cat Tryd.f16 (pn 4171380)) m3::(wv M w0 r m2)
def Iv:AS:=⟨[(0,.sl (lm aM v1)),(2,iI v3),(4,.ptr 4 0),(6,.ptr 6 0),(7,iI v11),(8,iI v12),(24,.sl (lm aM v1)),(25,iI (v1.length:Int)),(26,iI v10)],[(4,aG v2),(6,List.set (aD bo) 66 (.nils))],[],[4,6]⟩
def Ar:AS:=⟨[(6,.ptr 6 0),(7,iI v8),(11,.ptr 11 0),(12,iI v78),(13,iI v15),(15,.ptr 15 0),(56,.sl (lm aM v1)),(57,iI (v1.length:Int)),(58,iI v79),(117,.sl (lm ax v83.Box)),(118,iI (v83.Box.length:Int)),(119,iI v104)],[(6,List.set (aD bo) 66 (.nils)),(11,List.set (aD ({ bo with Kind:=2,W:=v3,H:=(aa (v8+v9)),aC:=v8,Style:=v2 }:ae)) 66 (.ref 114)),(15,aM v83)],[(114,⟨51,67,lm ax v105⟩)],[6,11,15,114]⟩
def IV:AS:=⟨[(6,.ptr 6 0),(7,iI v8),(11,.ptr 11 0),(12,iI v78),(13,iI v15),(15,.ptr 15 0),(56,.sl (lm aM v1)),(57,iI (v1.length:Int)),(58,iI v79)],[(6,List.set (aD bo) 66 (.nils)),(11,List.set (aD ({ bo with Kind:=2,W:=v3,H:=(aa (v8+v9)),aC:=v8,Style:=v2 }:ae)) 66 (.ref 114)),(15,aM v83)],[(114,⟨51,67,lm ax v87⟩)],[6,11,15,114]⟩
def Iu:AS:=⟨[(6,.ptr 6 0),(7,iI v8),(11,.ptr 11 0),(12,iI v78),(13,iI v15),(15,.ptr 15 0),(56,.sl (lm aM v1)),(57,iI (v1.length:Int)),(58,iI v79)],[(6,List.set (aD bo) 66 (.nils)),(11,List.set (aD ({ bo with Kind:=2,W:=v3,H:=(aa (v8+v9)),aC:=v8,Style:=v2 }:ae)) 66 (.ref 114)),(15,aM v83)],[(114,⟨51,67,lm ax v80⟩)],[6,11,15,114]⟩
def Kh:AS:=⟨[(6,.ptr 6 0),(7,iI v8),(11,.ptr 11 0),(12,iI v78),(13,iI v15),(15,.ptr 15 0),(56,.sl (lm aM v1)),(57,iI (v1.length:Int)),(58,iI v79),(76,.bool v82)],[(6,List.set (aD bo) 66 (.nils)),(11,List.set (aD ({ bo with Kind:=2,W:=v3,H:=(aa (v8+v9)),aC:=v8,Style:=v2 }:ae)) 66 (.ref 114)),(15,aM (gD v1 v79))],[(114,⟨51,67,lm ax v80⟩)],[6,11,15,114]⟩
def zQ:AS:=⟨[(6,.ptr 6 0),(7,iI v8),(11,.ptr 11 0),(12,iI v78),(13,iI v15),(56,.sl (lm aM v1)),(57,iI (v1.length:Int)),(58,iI v79)],[(6,List.set (aD bo) 66 (.nils)),(11,List.set (aD ({ bo with Kind:=2,W:=v3,H:=(aa (v8+v9)),aC:=v8,Style:=v2 }:ae)) 66 (.ref 114))],[(114,⟨51,67,lm ax v80⟩)],[6,11,114]⟩
def yV:AS:=⟨[(0,.sl (lm aM v1)),(2,iI v3),(4,.ptr 4 0),(6,.ptr 6 0),(7,iI v8),(8,iI v9),(24,.sl (lm aM v1)),(25,iI (v1.length:Int)),(26,iI v10)],[(4,aG v2),(6,List.set (aD bo) 66 (.nils))],[],[4,6]⟩
abbrev uf:Prop:=∀{v8:Int} {v9:Int} {v10:Int},L1 v8 v9 v10=some r→LP (jX M w0) (jK M w0 r) s4 (cat Tryd.f16 (pn 116)) m1 (yV v1 v2 v3 v8 v9 v10)
abbrev jF:Prop:=∀{v78:Int} {v79:Int} {v80:(List ae)},L2 v78 v79 v80=some r→LP (jX M w0) (jK M w0 r) sQ (cat Tryd.f16 (pn 2036)) m2 (zQ v1 v2 v3 v8 v9 v15 v78 v79 v80)
abbrev xI:Prop:=∀{v104:Int} {v105:(List ae)},L3 v104 v105=some r→LP (jX M w0) (jK M w0 r) (wv M w0 r m2) (cat Tryd.f16 (pn 4171380)) m3 (Ar v1 v2 v3 v8 v9 v15 v78 v79 v83 v104 v105)
variable{M w0 r v1 v2 v3 v8 v9 v10 v11 v12 v15 v78 v79 v80 v82 v83 v87 v104 v105 m1 m2 m3 L1 L2 L3}{K:Kn}{n:Nat}
theorem zp(hK:aq K)(hL1:uf M w0 r v1 v2 v3 m1 L1)(h:me K n v1 v2 v3 v10 L1 v11 v12=some r):jm M w0 r (.b 1::c9 935::zx M w0 r m1) (Iv v1 v2 v3 v10 v11 v12):=by
 unfold me at h;exact ah 2 (bB (hL1 h))
theorem CY(hK:aq K)(hL2:jF M w0 r v1 v2 v3 v8 v9 v15 m2 L2)(hL3:xI M w0 r v1 v2 v3 v8 v9 v15 v78 v79 v83 m2 m3 L3)(h:kW K n v1 v2 v3 v8 v9 v15 v78 v79 v83 L2 L3 v104 v105=some r):jm M w0 r (c9 4171380::so M w0 r m2 m3) (Ar v1 v2 v3 v8 v9 v15 v78 v79 v83 v104 v105):=by
 unfold kW at h;refine aA 6 7 3 ?_;obtain⟨h123,h⟩|⟨h123,h⟩:=ak h
 ·refine ai 120 h123 (dv 8 9 5 3 5 (am 0 ?_));obtain⟨h124,h⟩:=aU h;refine aF (bO ax aD h124 (eN) (bN)) (ac ?_);obtain⟨v106,h125,h⟩:=co h;obtain⟨v107,h126,h⟩:=co h;obtain⟨v108,h127,h⟩:=co h;obtain⟨v109,h128,h⟩:=co h;obtain⟨v110,h129,h⟩:=co h;obtain⟨v111,h130,h⟩:=co h;obtain⟨v112,h131,h⟩:=co h;obtain⟨v113,h132,h⟩:=co h;obtain⟨v114,h133,h⟩:=co h;obtain⟨v115,h134,h⟩:=co h;refine bC (ks':=c9 533936742::c9 533936743 :: .b 5::c9 33371047::so M w0 r m2 m3) 3 ⟨[(6,.ptr 6 0),(7,iI v8),(11,.ptr 11 0),(12,iI v78),(13,iI v15),(15,.ptr 15 0),(18,.ptr 18 0),(56,.sl (lm aM v1)),(57,iI (v1.length:Int)),(58,iI v79),(117,.sl (lm ax v83.Box)),(118,iI (v83.Box.length:Int)),(119,iI v104)],[(6,List.set (aD bo) 66 (.nils)),(11,List.set (aD ({ bo with Kind:=2,W:=v3,H:=(aa (v8+v9)),aC:=v8,Style:=v2 }:ae)) 66 (.ref 114)),(15,aM v83),(18,aD (⟨v106,v107,v108,(gD v83.Box v104).Y,(gD v83.Box v104).W,(gD v83.Box v104).H,v109,v110,v111,v112,v113,v114,v115⟩:ae))],[(114,⟨51,67,lm ax v105⟩)],[6,11,15,18,114]⟩ ?_ (by subst h134;subst h133;subst h132;subst h131;subst h130;subst h129;subst h128;subst h127;subst h126;subst h125;kernel_rfl)
  obtain⟨v116,h135,h⟩:=bind_some h;refine bZ 1 (nu 128 [.ptr 18 3,iI ((gD v83.Box v104).Y),iI v8,.ptr 18 5,iI ((gD v83.Box v104).H),iI (aa (v8-((gD v83.Box v104).H))),.ptr 18 63,.agg (bJ v113),iI v116,iI (aa ((aa (v8-((gD v83.Box v104).H)))-v116)),iI (aa (((gD v83.Box v104).Y)+(aa ((aa (v8-((gD v83.Box v104).H)))-v116)))),.ptr 18 3]) [] [] [bL Tryd.prog 156 Tryd.f16 (pn 533936742) 12] (aB (vz 8) (aj (bG 0 1 136 (jZ hK h135)) (aB (vz 3) (aj (bQ 0) bW)))) ?_;obtain⟨v117,h136,h⟩:=co h;refine bC (ks':=c9 533936743 :: .b 5::c9 33371047::so M w0 r m2 m3) 0 ⟨[(6,.ptr 6 0),(7,iI v8),(11,.ptr 11 0),(12,iI v78),(13,iI v15),(15,.ptr 15 0),(18,.ptr 18 0),(56,.sl (lm aM v1)),(57,iI (v1.length:Int)),(58,iI v79),(117,.sl (lm ax v83.Box)),(118,iI (v83.Box.length:Int)),(119,iI v104)],[(6,List.set (aD bo) 66 (.nils)),(11,List.set (aD ({ bo with Kind:=2,W:=v3,H:=(aa (v8+v9)),aC:=v8,Style:=v2 }:ae)) 66 (.ref 114)),(15,aM v83),(18,aD (⟨v106,v107,v108,v117,(gD v83.Box v104).W,(gD v83.Box v104).H,v109,v110,v111,v112,v113,v114,v115⟩:ae))],[(114,⟨51,67,lm ax v105⟩)],[6,11,15,18,114]⟩ ?_ (by subst h136;kernel_rfl)
  refine am 3 (aF (fh ax ([(⟨v106,v107,v108,v117,(gD v83.Box v104).W,(gD v83.Box v104).H,v109,v110,v111,v112,v113,v114,v115⟩:ae)]:List ae) (new:=[aD (⟨v106,v107,v108,v117,(gD v83.Box v104).W,(gD v83.Box v104).H,v109,v110,v111,v112,v113,v114,v115⟩:ae)]) (by simp only[List.map_cons,List.map_nil,bN])) ?_);obtain⟨h137,h⟩:=aU h;exact aF (cT 144 114 51 67 ax (rfl) (eN) h137) (ac (ah 2 (bB (hL3 h))))
 ·exact ai 120 h123 (ah 8 (bB (hL2 h)))
theorem GF(hK:aq K)(hL2:jF M w0 r v1 v2 v3 v8 v9 v15 m2 L2)(m:Nat):xI M w0 r v1 v2 v3 v8 v9 v15 v78 v79 v83 m2 m (kq K n v1 v2 v3 v8 v9 v15 v78 v79 v83 L2 m):=by
 induction m with
 | zero=>intro v104 v105 h;cases h
 | succ m ih=>intro v104 v105 h;have h:kW K n v1 v2 v3 v8 v9 v15 v78 v79 v83 L2 (kq K n v1 v2 v3 v8 v9 v15 v78 v79 v83 L2 m) v104 v105=some r:=h;exact bt (CY hK hL2 ih h)
theorem yZ(hK:aq K)(hL2:jF M w0 r v1 v2 v3 v8 v9 v15 m2 L2)(h:l9 K n v1 v2 v3 v8 v9 v15 v78 v79 v83 L2 v87=some r):jm M w0 r (c9 260711 :: .b 3::c9 16295::kN M w0 r m2) (IV v1 v2 v3 v8 v9 v15 v78 v79 v83 v87):=by
 unfold l9 at h;exact cj 4 5 3 2 (am 2 (aF (bE ax v83.Box) (ac (ah 1 (cH (p:=pn 2085690) n (GF hK hL2 n h))))))
theorem zL(hK:aq K)(hL2:jF M w0 r v1 v2 v3 v8 v9 v15 m2 L2)(h:hZ K n v1 v2 v3 v8 v9 v15 v78 v79 v80 L2 v83=some r):jm M w0 r (c9 130355 :: .b 3::c9 16295::kN M w0 r m2) (Iu v1 v2 v3 v8 v9 v15 v78 v79 v80 v83):=by
 unfold hZ at h;obtain⟨v84,h99,h⟩:=co h;refine bC (ks':=c9 521421::c9 260711 :: .b 3::c9 16295::kN M w0 r m2) 3 ⟨[(6,.ptr 6 0),(7,iI v8),(11,.ptr 11 0),(12,iI v78),(13,iI v15),(15,.ptr 15 0),(56,.sl (lm aM v1)),(57,iI (v1.length:Int)),(58,iI v79),(88,.bool v84)],[(6,List.set (aD bo) 66 (.nils)),(11,List.set (aD ({ bo with Kind:=2,W:=v3,H:=(aa (v8+v9)),aC:=v8,Style:=v2 }:ae)) 66 (.ref 114)),(15,aM v83)],[(114,⟨51,67,lm ax v80⟩)],[6,11,15,114]⟩ ?_ (by subst h99;kernel_rfl);obtain⟨h100,h⟩|⟨h100,h⟩:=ak h
 ·refine ai 88 h100 (ba 5 3 (bU [6,7,11,12,13,15,16,56,57,58] [6,11,15] [114] ?_));obtain⟨v85,h101,h⟩:=bind_some h;obtain⟨v86,h102,h⟩:=bind_some h;obtain⟨h103,h⟩:=aU h;exact bZ 2 (nu 92 [.ptr 11 66,.ref 114,.ptr 15 0,iI v83.Node,.ptr 15 2,.agg (aG v83.Style),.ptr 15 1,.str v83.Text,iI v78,iI v8,iI v83.Style.FontSize,iI v85,iI (aa (v8-v85)),.ptr 15 55,iI v83.Width,.ptr 15 56,iI v83.Space,iI (aa (v83.Width+v83.Space)),iI v83.Style.FontSize,iI v86,.agg (List.set (aD (⟨3,v83.Node,v78,(aa (v8-v85)),(aa (v83.Width+v83.Space)),v86,0,v83.Text,v83.Style,cr,cr,false,[]⟩:ae)) 66 (.nils)),.sl (lm ax [(⟨3,v83.Node,v78,(aa (v8-v85)),(aa (v83.Width+v83.Space)),v86,0,v83.Text,v83.Style,cr,cr,false,[]⟩:ae)])]++nu 115 [.ptr 11 66]) [] [] [jx 114 114 ⟨51,67,lm ax (v80++[(⟨3,v83.Node,v78,(aa (v8-v85)),(aa (v83.Width+v83.Space)),v86,0,v83.Text,v83.Style,cr,cr,false,[]⟩:ae)])⟩,bL Tryd.prog 156 Tryd.f16 (pn 2085685) 24] (aB [.v 0 2,.v 0 1,.v 0 2,.v 0 2,.v 0 2,.v 0 2,.v 0 2,.v 0 2,.v 0 2,.v 0 2,.v 0 2] (aj (bG 0 2 103 (BC hK h101)) (aB [.v 0 2,.v 0 2,.v 0 2,.v 0 2,.v 0 2,.v 0 2,.v 0 2] (aj (bG 0 1 111 (Cc hK h102)) (aB [.v 0 2] (bd (fh ax ([(⟨3,v83.Node,v78,(aa (v8-v85)),(aa (v83.Width+v83.Space)),v86,0,v83.Text,v83.Style,cr,cr,false,[]⟩:ae)]:List ae) (new:=[aD (⟨3,v83.Node,v78,(aa (v8-v85)),(aa (v83.Width+v83.Space)),v86,0,v83.Text,v83.Style,cr,cr,false,[]⟩:ae)]) (by simp only[List.map_cons,List.map_nil,bN])) (aj (gw (m:=0) (cT 114 114 51 67 ax (rfl) (eN) h103)) (aB [.v 1 1] (aj (bQ 1) bW))))))))) (ah 0 (yZ hK hL2 h))
 ·exact ai 88 h100 (ah 2 (yZ hK hL2 h))
theorem sC(hK:aq K)(hL2:jF M w0 r v1 v2 v3 v8 v9 v15 m2 L2)(h:iD K n v1 v2 v3 v8 v9 v15 v78 v79 v80 L2 v82=some r):jm M w0 r (c9 260709::c9 130355 :: .b 3::c9 16295::kN M w0 r m2) (Kh v1 v2 v3 v8 v9 v15 v78 v79 v80 v82):=by
 unfold iD at h;obtain⟨h97,h⟩|⟨h97,h⟩:=ak h
 ·refine ai 76 h97 (aA 4 5 2 (am 6 ?_));obtain⟨h98,h⟩:=aU h;exact aF (pB h98) (ac (ah 1 (zL hK hL2 h)))
 ·exact ai 76 h97 (ah 2 (zL hK hL2 h))
theorem FN(hK:aq K)(hL2:jF M w0 r v1 v2 v3 v8 v9 v15 m2 L2)(h:kz K n v1 v2 v3 v8 v9 v15 L2 v78 v79 v80=some r):jm M w0 r (c9 2036::kN M w0 r m2) (zQ v1 v2 v3 v8 v9 v15 v78 v79 v80):=by
 unfold kz at h;refine aA 6 7 3 ?_;obtain⟨h92,h⟩|⟨h92,h⟩:=ak h
 ·refine ai 59 h92 (dv 8 9 3 3 5 (am 1 ?_));obtain⟨h93,h⟩:=aU h;refine aF (bO aM aM h93 (gj) ((fun _=>rfl))) (ac (cj 4 5 3 2 (am 4 ?_)));obtain⟨h94,h⟩|⟨h94,h⟩:=ak h
  ·refine ay 66 h94 (aN 6 2 ?_);obtain⟨v81,h95,h⟩:=bind_some h;refine aO (DI hK h95) (aN 9 2 ?_);obtain⟨h96,h⟩|⟨h96,h⟩:=ak h
   ·exact ay 71 h96 (ac (ah 0 (sC hK hL2 h)))
   ·exact ay 71 h96 (ac (ah 0 (sC hK hL2 h)))
  ·exact ay 66 h94 (ac (ah 0 (sC hK hL2 h)))
 ·refine ai 59 h92 (aJ 8 ?_);cases h;exact fl
theorem Dr(hK:aq K)(m:Nat):jF M w0 r v1 v2 v3 v8 v9 v15 m (gJ K n v1 v2 v3 v8 v9 v15 m):=by
 induction m with
 | zero=>intro v78 v79 v80 h;cases h
 | succ m ih=>intro v78 v79 v80 h;have h:kz K n v1 v2 v3 v8 v9 v15 (gJ K n v1 v2 v3 v8 v9 v15 m) v78 v79 v80=some r:=h;exact bt (FN hK ih h)
theorem Gg(hK:aq K)(hL1:uf M w0 r v1 v2 v3 m1 L1)(h:l8 K n v1 v2 v3 L1 v8 v9 v10=some r):jm M w0 r (c9 116::zx M w0 r m1) (yV v1 v2 v3 v8 v9 v10):=by
 unfold l8 at h;refine aA 6 7 3 ?_;obtain⟨h6,h⟩|⟨h6,h⟩:=ak h
 ·refine ai 27 h6 (dv 8 9 1 3 5 (am 0 ?_));obtain⟨h7,h⟩:=aU h;refine aF (bO aM aM h7 (gj) ((fun _=>rfl))) (ac (ba 3 2 ?_));obtain⟨h8,h⟩|⟨h8,h⟩:=ak h
  ·exact ai 32 h8 (ba 2 1 (bU [0,2,4,6,7,8,10,24,25,26] [4,6,10] [] (bZ 2 (nu 33 [iI v8,.ptr 10 57,iI ((gD v1 v10).Above),iI (max v8 ((gD v1 v10).Above)),iI v9,.ptr 10 58,iI ((gD v1 v10).Below),iI (max v9 ((gD v1 v10).Below))]) [] [] [bL Tryd.prog 156 Tryd.f16 (pn 14950) 8,bL Tryd.prog 156 Tryd.f16 (pn 14950) 9] (aB [.v 0 1,.v 0 1,.v 0 1,.v 0 1,.v 0 2,.v 0 2,.v 0 2,.v 0 2] (aj (bQ 0) (aj (bQ 1) bW))) (ah 0 (zp hK hL1 h)))))
  ·exact ai 32 h8 (ah 2 (zp hK hL1 h))
 ·refine ai 27 h6 (nz 6 7 8 (bU [0,2,4,6,7,11] [4,6,11] [] ?_));obtain⟨v13,h9,h⟩:=bind_some h;obtain⟨v14,h10,h⟩:=bind_some h;refine bZ 1 (nu 49 [.agg (aG v2),iI v3,.sl (lm aM v1),iI v13,iI v14]) [] [] [bL Tryd.prog 156 Tryd.f16 (pn 62) 5] (aB (vz 3) (aj (bG 0 1 52 (Cw hK h9)) (aj (bG 0 1 53 (JH hK h10)) (aj (bQ 0) bW)))) (aA 2 3 1 (am 1 ?_));obtain⟨v15,h11,h⟩:=bind_some h;exact aO (ze hK h11) (ac (cj 4 5 3 2 (am 1 (aF (bE aM v1) (ac (gV 2 2 1 (bU [6,7,11,12,13,56,57,58] [6,11] [] (yG 114 11 66 51 67 (ah 0 (cH (p:=pn 1018) n (Dr hK n h)))))))))))
theorem IU(hK:aq K)(m:Nat):uf M w0 r v1 v2 v3 m (kR K n v1 v2 v3 m):=by
 induction m with
 | zero=>intro v8 v9 v10 h;cases h
 | succ m ih=>intro v8 v9 v10 h;have h:l8 K n v1 v2 v3 (kR K n v1 v2 v3 m) v8 v9 v10=some r:=h;exact bt (Gg hK ih h)
theorem I1(hK:aq K)(h:m4 K n v1 v2 v3=some r):aS Tryd.prog 16 [.sl (lm aM v1),.agg (aG v2),iI v3] (fun v s=>v=.agg (List.set (aD ({ r with Kids:=[] }:ae)) 66 (.ref 114))∧look 114 s.r=some ⟨51,67,lm ax r.Kids⟩):=by
 refine bl (cat Tryd.f16 (pn 1)) Tryd.func16 Tryd.ntmps16 fun M w0=>(bi ⟨[(0,.sl (lm aM v1)),(1,.agg (aG v2)),(2,iI v3)],[],[],[]⟩ ?_);unfold m4 at h;refine aA 6 7 3 (am 1 ?_);obtain⟨v4,h1,h⟩:=bind_some h;exact aO (pL hK h1) (ac (cj 4 5 3 2 (am 1 (aF (bE aM v1) (ac (ah 1 (cH (p:=pn 58) n (IU hK n h))))))))
end
noncomputable section
variable(M:Nat→Prop)(w0:aC)(r:(List ae)×Int)(v1:List au)(v2:aH)(v3:Int)(v4:cq)(v5:List aw)(v6:List Int)(v13 v14 v15:Int)(v16:List ae)(m1:Nat)(L1:Int→Int→Int→(List ae)→Option ((List ae)×Int))
abbrev sJ:Cx:=⟨Tryd.prog,61,M,w0⟩
abbrev q7:=bodyPost Tryd.prog Tryd.f7 (bu M w0 (fun v s=>v=.tup [.ref 57,iI r.2]∧look 57 s.r=some ⟨51,67,lm ax r.1⟩))
abbrev Gd(ks:List av)(s:AS):=VE (sJ M w0) (q7 M w0 r) ks .normal s
abbrev zh(n:Nat):av:=.c (cat Tryd.f7 (pn n))
abbrev vu:List av:=[.b 0,zh 63]
abbrev F8:List av:=kl (sJ M w0) (q7 M w0 r) vu (cat Tryd.f7 (pn 500)) m1::vu
def xO:AS:=⟨[(2,iI (min (max v3 0) 1048576)),(5,.ptr 5 0),(8,.ref 57),(9,iI v13),(10,.sl (lm aM v5)),(11,.ref 1023),(30,iI v14),(31,iI v15)],[(5,aG v2)],[(57,⟨51,67,lm ax v16⟩),(1023,⟨3,1,lm (bp .i64) (v6++[(v5.length:Int)])⟩)],[5,57,1023]⟩
abbrev Bk:Prop:=∀{v13:Int} {v14:Int} {v15:Int} {v16:(List ae)},L1 v13 v14 v15 v16=some r→LP (sJ M w0) (q7 M w0 r) vu (cat Tryd.f7 (pn 500)) m1 (xO v2 v3 v5 v6 v13 v14 v15 v16)
variable{M w0 r v1 v2 v3 v4 v5 v6 v13 v14 v15 v16 m1 L1}{K:Kn}{n:Nat}
theorem FI(hK:aq K)(hL1:Bk M w0 r v2 v3 v5 v6 m1 L1)(h:kP K n v2 v3 v5 v6 L1 v13 v14 v15 v16=some r):Gd M w0 r (zh 500::F8 M w0 r m1) (xO v2 v3 v5 v6 v13 v14 v15 v16):=by
 unfold kP at h;refine aA 6 7 3 ?_;obtain⟨h20,h⟩|⟨h20,h⟩:=ak h
 ·refine ai 32 h20 (dv 18 19 1 3 7 (bU [2,5,8,9,10,11,12,30,31] [5] [57,1023] ?_));obtain⟨h21,h⟩:=aU h;obtain⟨h22,h⟩:=aU h;obtain⟨h23,h⟩:=aU h;obtain⟨v17,h24,h⟩:=bind_some h;refine bZ 1 (nu 34 [.sl (lm aM v5),.ref 1023,iI v15,.eptr 1023 1 (v15.toNat) 0,iI (gD (v6++[(v5.length:Int)]) v15),.ref 1023,iI v15,iI (aa (v15+1)),.eptr 1023 1 (((aa (v15+1))).toNat) 0,iI (gD (v6++[(v5.length:Int)]) ((aa (v15+1)))),.sl (lm aM (List.drop ((gD (v6++[(v5.length:Int)]) v15)).toNat (List.take ((gD (v6++[(v5.length:Int)]) ((aa (v15+1))))).toNat v5))),.agg (aG v2),iI (min (max v3 0) 1048576),.agg (List.set (aD ({ v17 with Kids:=[] }:ae)) 66 (.ref 47))]++nu 13 [.ptr 13 0]) [(13,List.set (aD bo) 66 (.nils))] [(47,⟨51,67,lm ax v17.Kids⟩)] [bL Tryd.prog 61 Tryd.f7 (pn 32050) 15] (aB (vz 3) (bd (cA 1023 1 (bp .i64) (L:=(v6++[(v5.length:Int)])) h21) (bd (bV 3 0 (bp .i64) (bp .i64) (cm h21).2 ((fun _=>rfl))) (aB (vz 3) (bd (cA 1023 1 (bp .i64) (L:=(v6++[(v5.length:Int)])) h22) (bd (bV 3 0 (bp .i64) (bp .i64) (cm h22).2 ((fun _=>rfl))) (bd (uD aM v5 (gD (v6++[(v5.length:Int)]) v15) (gD (v6++[(v5.length:Int)]) ((aa (v15+1)))) 64 (.tmp 34) (some (.tmp 38)) (some (.tmp 43)) 44 (e:=74) (sz:=62) (by kernel_rfl) (by kernel_rfl) (by kernel_rfl) (by kernel_rfl) (by kernel_rfl) (by kernel_rfl) (gj) (fun k hk=>by subst hk;kernel_rfl) h23) (aB (vz 2) (aj (mh 0 1 47 (I1 hK h24) (pE (i:=66) (by kernel_rfl))) (aj (tn 0 1 51 13 (List.set (aD bo) 66 (.nils))) (aj (bQ 0) bW))))))))))) (ba 7 4 (am 2 (pJ 47 (aF (fh ax ([({ v17 with Y:=v13 }:ae)]:List ae) (new:=[aD ({ v17 with Y:=v13 }:ae)]) (by simp only[List.map_cons,List.map_nil,bN])) ?_))))
  obtain⟨h25,h⟩:=aU h;exact aF (cT 57 57 51 67 ax (rfl) (eN) h25) (ac (ah 2 (bB (hL1 h))))
 ·refine ai 32 h20 (aJ 8 ?_);cases h;exact vL
theorem DZ(hK:aq K)(m:Nat):Bk M w0 r v2 v3 v5 v6 m (lC K n v2 v3 v5 v6 m):=by
 induction m with
 | zero=>intro v13 v14 v15 v16 h;cases h
 | succ m ih=>intro v13 v14 v15 v16 h;have h:kP K n v2 v3 v5 v6 (lC K n v2 v3 v5 v6 m) v13 v14 v15 v16=some r:=h;exact bt (FI hK ih h)
theorem sB(hK:aq K)(h:gM K n v1 v2 v3 v4=some r):aS Tryd.prog 7 [.sl (lm aW v1),.agg (aG v2),iI v3,.agg (ct v4)] (fun v s=>v=.tup [.ref 57,iI r.2]∧look 57 s.r=some ⟨51,67,lm ax r.1⟩):=by
 refine bl (cat Tryd.f7 (pn 1)) Tryd.func7 Tryd.ntmps7 fun M w0=>(bi ⟨[(0,.sl (lm aW v1)),(1,.agg (aG v2)),(2,iI v3),(3,.agg (ct v4))],[],[],[]⟩ ?_);unfold gM at h;refine aA 14 15 5 (am 3 ?_);obtain⟨v5,h1,h⟩:=bind_some h;refine gS 1020 (G2 hK h1) (iG 1009) (ac (aA 2 3 1 (am 2 (pJ 1020 ?_))));obtain⟨v6,h2,h⟩:=bind_some h;refine gS 1023 (Fn hK h2) (iG 16) (aN 4 1 (aF (bE aM v5) (aN 6 1 ?_)));obtain⟨h3,h⟩:=aU h;exact aF (cT 27 1023 3 1 (bp .i64) (rfl) ((fun _=>rfl)) h3) (ac (cj 4 5 3 2 (am 1 (aF (bE (bp .i64) (v6++[(v5.length:Int)])) (ac (gV 2 0 1 (bU [2,5,8,9,10,11,30,31] [5] [1023] (gA 57 8 51 67 (ah 0 (cH (p:=pn 250) n (DZ hK n h)))))))))))
end
noncomputable section
variable(M:Nat→Prop)(w0:aC)(r:cq)   
variable{M w0 r }{K:Kn}{n:Nat}
theorem oB(hK:aq K)(h:iz K n=some r):aS Tryd.prog 8 [] (fun v _=>v=.agg (ct r)):=by
 refine bl (cat Tryd.f8 (pn 1)) Tryd.func8 Tryd.ntmps8 fun M w0=>(bi ⟨[],[],[],[]⟩ ?_);unfold iz at h;refine aJ 5 ?_;cases h;exact bc
end
noncomputable section
variable(M:Nat→Prop)(w0:aC)(r v4:Bool)  
abbrev D6(n:Nat):av:=.c (cat Tryd.f4 (pn n))
abbrev IB:Cx:=⟨Tryd.prog,64,M,w0⟩
abbrev q4:=bodyPost Tryd.prog Tryd.f4 (bu M w0 (fun v _=>v=.bool r))
abbrev HM(ks:List av)(s:AS):=VE (IB M w0) (q4 M w0 r) ks .normal s
def FB:AS:=⟨[(0,.bool v4)],[],[],[]⟩
variable{M w0 r v4}{K:Kn}{n:Nat}
theorem jH(hK:aq K)(h:gF K n v4=some r):HM M w0 r [D6 63] (FB v4):=by
 unfold gF at h;refine aJ 1 ?_;cases h;exact bc
theorem Ev(hK:aq K)(h:nS K n=some r):aS Tryd.prog 4 [] (fun v _=>v=.bool r):=by
 refine bl (cat Tryd.f4 (pn 1)) Tryd.func4 Tryd.ntmps4 fun M w0=>(bi ⟨[],[],[],[]⟩ ?_);unfold nS at h;refine aA 14 15 5 (am 1 ?_);obtain⟨v1,h1,h⟩:=bind_some h;refine aO (pL hK h1) (ac (aA 2 3 1 (bU [1,2,3] [1] [] ?_)));obtain⟨v2,h2,h⟩:=bind_some h;obtain⟨v3,h3,h⟩:=bind_some h;refine bZ 2 (nu 13 [.agg (aG ({ cd with FontSize:=16,LineHeight:=30 }:aH)),.agg (List.set (aZ ({ cv with Kind:=3,Style:=({ cd with FontSize:=16,LineHeight:=30 }:aH),Text:=⟨#[97,98,32,32,99,100]⟩ }:au)) 58 (.nils)),.sl (lm aW [({ cv with Kind:=3,Style:=({ cd with FontSize:=16,LineHeight:=30 }:aH),Text:=⟨#[97,98,32,32,99,100]⟩ }:au)]),.agg (aG ({ cd with FontSize:=16,LineHeight:=30 }:aH)),.agg (ct v2),.tup [.ref 18,iI v3.2]]++nu 12 [.tup [.ref 18,iI v3.2]]++nu 19 [.ref 18,iI v3.2]) [] [(18,⟨51,67,lm ax v3.1⟩)] [bL Tryd.prog 64 Tryd.f4 (pn 30) 9,bL Tryd.prog 64 Tryd.f4 (pn 30) 10] (aB (vz 2) (bd (fh aW ([({ cv with Kind:=3,Style:=({ cd with FontSize:=16,LineHeight:=30 }:aH),Text:=⟨#[97,98,32,32,99,100]⟩ }:au)]:List au) (new:=[aZ ({ cv with Kind:=3,Style:=({ cd with FontSize:=16,LineHeight:=30 }:aH),Text:=⟨#[97,98,32,32,99,100]⟩ }:au)]) (by simp only[List.map_cons,List.map_nil,ep])) (aB [.v 0 1] (aj (bG 0 1 17 (oB hK h2)) (aj (mh 0 1 18 (sB hK h3) (rg (i:=0) rfl)) (aB [.v 0 1,.v 0 1,.v 0 2] (aj (bQ 0) (aj (bQ 1) bW)))))))) (aA 2 3 1 (am 3 ?_))
 obtain⟨h4,h⟩|⟨h4,h⟩:=ak h
 ·refine ay 23 h4 (aN 7 4 ?_);obtain⟨h5,h⟩|⟨h5,h⟩:=ak h
  ·refine ay 27 h5 (aN 8 1 (aF (bE ax v3.1) (aN 12 3 ?_)));obtain⟨h6,h⟩|⟨h6,h⟩:=ak h
   ·refine ay 32 h6 (aN 16 4 ?_);obtain⟨h7,h⟩|⟨h7,h⟩:=ak h
    ·refine ay 36 h7 (aN 17 1 ?_);obtain⟨h8,h⟩:=aU h;refine aF (d6 18 67 ax h8) (aN 19 1 (aF (bV 37 66 ax aD (cm h8).2 (bN)) (aF (bE ax ((gD v3.1 (0:Int)).Kids)) (aN 24 3 ?_))));obtain⟨h9,h⟩|⟨h9,h⟩:=ak h
     ·refine ay 44 h9 (aN 25 1 ?_);obtain⟨h10,h⟩:=aU h;refine aF (d6 18 67 ax h10) (aN 27 1 (aF (bV 37 66 ax aD (cm h10).2 (bN)) ?_));obtain⟨h11,h⟩:=aU h;refine aF (bO ax aD h11 (eN) (bN)) (aN 34 5 ?_);obtain⟨h12,h⟩|⟨h12,h⟩:=ak h
      ·refine ay 54 h12 (aN 35 1 ?_);obtain⟨h13,h⟩:=aU h;refine aF (d6 18 67 ax h13) (aN 37 1 (aF (bV 37 66 ax aD (cm h13).2 (bN)) ?_));obtain⟨h14,h⟩:=aU h;exact aF (bO ax aD h14 (eN) (bN)) (ac (ah 0 (jH hK h)))
      ·exact ay 54 h12 (ac (ah 0 (jH hK h)))
     ·exact ay 44 h9 (ac (ah 0 (jH hK h)))
    ·exact ay 36 h7 (ac (ah 0 (jH hK h)))
   ·exact ay 32 h6 (ac (ah 0 (jH hK h)))
  ·exact ay 27 h5 (ac (ah 0 (jH hK h)))
 ·exact ay 23 h4 (ac (ah 0 (jH hK h)))
end
noncomputable section
variable(M:Nat→Prop)(w0:aC)(r:Bool)(v1:dF)(v2:Bool)  
abbrev HO(n:Nat):av:=.c (cat Tryd.f23 (pn n))
abbrev FO:Cx:=⟨Tryd.prog,11,M,w0⟩
abbrev Dl:=bodyPost Tryd.prog Tryd.f23 (bu M w0 (fun v _=>v=.bool r))
abbrev Gr(ks:List av)(s:AS):=VE (FO M w0) (Dl M w0 r) ks .normal s
def Jd:AS:=⟨[(2,.bool v2)],[],[],[]⟩
variable{M w0 r v1 v2}{K:Kn}{n:Nat}
theorem Av(hK:aq K)(h:nZ K n v2=some r):Gr M w0 r [HO 7] (Jd v2):=by
 unfold nZ at h;refine aJ 1 ?_;cases h;exact bc
theorem eA(hK:aq K)(h:dJ K n v1=some r):aS Tryd.prog 23 [.agg (jY v1)] (fun v _=>v=.bool r):=by
 refine bl (cat Tryd.f23 (pn 1)) Tryd.func23 Tryd.ntmps23 fun M w0=>(bi ⟨[(0,.agg (jY v1))],[],[],[]⟩ ?_);unfold dJ at h;refine aA 6 7 3 (am 4 ?_);obtain⟨h1,h⟩|⟨h1,h⟩:=ak h
 ·exact ay 6 h1 (ac (ah 0 (Av hK h)))
 ·exact ay 6 h1 (ac (ah 0 (Av hK h)))
end
noncomputable section
variable(M:Nat→Prop)(w0:aC)(r:Bool)(v1:List cV)(v2 v23:Int)(v31 v34 v37 v40 v43:Bool)(m1:Nat)(L1:Int→Option Bool)
abbrev oH:Cx:=⟨Tryd.prog,130,M,w0⟩
abbrev o5:=bodyPost Tryd.prog Tryd.f12 (bu M w0 (fun v _=>v=.bool r))
abbrev lR(ks:List av)(s:AS):=VE (oH M w0) (o5 M w0 r) ks .normal s
abbrev dI(n:Nat):av:=.c (cat Tryd.f12 (pn n))
abbrev sS:List av:=[.b 0,dI 7]
abbrev oD:List av:=kl (oH M w0) (o5 M w0 r) sS (cat Tryd.f12 (pn 52)) m1::sS
def F6:AS:=⟨[(0,.sl (lm cN v1)),(1,iI v2),(5,iI v23),(6,.ptr 6 0),(7,iI 3),(125,.bool v43)],[(6,aG ((gD v1 v23).Style))],[],[6]⟩
def Jk:AS:=⟨[(0,.sl (lm cN v1)),(1,iI v2),(5,iI v23),(6,.ptr 6 0),(7,iI 2),(125,.bool v40)],[(6,aG ((gD v1 v23).Style))],[],[6]⟩
def Ef:AS:=⟨[(0,.sl (lm cN v1)),(1,iI v2),(5,iI v23),(6,.ptr 6 0),(7,iI 1),(125,.bool v37)],[(6,aG ((gD v1 v23).Style))],[],[6]⟩
def HB:AS:=⟨[(0,.sl (lm cN v1)),(1,iI v2),(5,iI v23),(6,.ptr 6 0),(7,iI 0),(125,.bool v34)],[(6,aG ((gD v1 v23).Style))],[],[6]⟩
def Lo:AS:=⟨[(0,.sl (lm cN v1)),(1,iI v2),(5,iI v23),(6,.ptr 6 0),(107,.bool v31)],[(6,aG ((gD v1 v23).Style))],[],[6]⟩
def AB:AS:=⟨[(0,.sl (lm cN v1)),(1,iI v2),(5,iI v23)],[],[],[]⟩
abbrev jC:Prop:=∀{v23:Int},L1 v23=some r→LP (oH M w0) (o5 M w0 r) sS (cat Tryd.f12 (pn 52)) m1 (AB v1 v2 v23)
abbrev gz(m:Nat):List av:=kl (oH M w0) (o5 M w0 r) (.b 2 :: .b 1::dI 211::oD M w0 r m1) (cat Tryd.f12 (pn 13468)) m::(.b 2 :: .b 1::dI 211::oD M w0 r m1)
variable{M w0 r v1 v2 v23 v31 v34 v37 v40 v43 m1 L1}{K:Kn}{n:Nat}
theorem B0(hK:aq K)(hL1:jC M w0 r v1 v2 m1 L1)(h:k9 K n v1 v2 v23 L1 v43=some r):lR M w0 r (dI 215497 :: .b 3::dI 53875::gz M w0 r m1 36) (F6 v1 v2 v23 v43):=by
 unfold k9 at h;obtain⟨h84,h⟩|⟨h84,h⟩:=ak h
 ·refine ai 125 h84 (aJ 13 ?_);cases h;exact bc
 ·exact ai 125 h84 (bC (ks':=gz M w0 r m1 36) 4 ⟨[(0,.sl (lm cN v1)),(1,iI v2),(5,iI v23),(6,.ptr 6 0),(7,iI 4)],[(6,aG ((gD v1 v23).Style))],[],[6]⟩ (bB (bt (ah 10 (bB (hL1 h))))))
theorem Cu(hK:aq K)(hL1:jC M w0 r v1 v2 m1 L1)(h:nA K n v1 v2 v23 L1 v40=some r):lR M w0 r (dI 215497 :: .b 3::dI 53875::gz M w0 r m1 37) (Jk v1 v2 v23 v40):=by
 unfold nA at h;obtain⟨h80,h⟩|⟨h80,h⟩:=ak h
 ·refine ai 125 h80 (aJ 13 ?_);cases h;exact bc
 ·refine ai 125 h80 (bC (ks':=gz M w0 r m1 37) 4 ⟨[(0,.sl (lm cN v1)),(1,iI v2),(5,iI v23),(6,.ptr 6 0),(7,iI 3)],[(6,aG ((gD v1 v23).Style))],[],[6]⟩ (bB (bt (du 24 25 3 7 8 (am 4 ?_)))));obtain⟨v41,h81,h⟩:=bind_some h;refine aO (eA hK h81) (aN 7 2 ?_);obtain⟨h82,h⟩|⟨h82,h⟩:=ak h
  ·exact ay 118 h82 (ac (ah 0 (B0 hK hL1 h)))
  ·refine ay 118 h82 (aN 11 4 ?_);obtain⟨v42,h83,h⟩:=bind_some h;exact aO (eA hK h83) (ac (ah 0 (B0 hK hL1 h)))
theorem Ay(hK:aq K)(hL1:jC M w0 r v1 v2 m1 L1)(h:nj K n v1 v2 v23 L1 v37=some r):lR M w0 r (dI 215497 :: .b 3::dI 53875::gz M w0 r m1 38) (Ef v1 v2 v23 v37):=by
 unfold nj at h;obtain⟨h76,h⟩|⟨h76,h⟩:=ak h
 ·refine ai 125 h76 (aJ 13 ?_);cases h;exact bc
 ·refine ai 125 h76 (bC (ks':=gz M w0 r m1 38) 4 ⟨[(0,.sl (lm cN v1)),(1,iI v2),(5,iI v23),(6,.ptr 6 0),(7,iI 2)],[(6,aG ((gD v1 v23).Style))],[],[6]⟩ (bB (bt (du 24 25 3 7 8 (am 4 ?_)))));obtain⟨v38,h77,h⟩:=bind_some h;refine aO (eA hK h77) (aN 7 2 ?_);obtain⟨h78,h⟩|⟨h78,h⟩:=ak h
  ·exact ay 118 h78 (ac (ah 0 (Cu hK hL1 h)))
  ·refine ay 118 h78 (aN 11 4 ?_);obtain⟨v39,h79,h⟩:=bind_some h;exact aO (eA hK h79) (ac (ah 0 (Cu hK hL1 h)))
theorem BW(hK:aq K)(hL1:jC M w0 r v1 v2 m1 L1)(h:nN K n v1 v2 v23 L1 v34=some r):lR M w0 r (dI 215497 :: .b 3::dI 53875::gz M w0 r m1 39) (HB v1 v2 v23 v34):=by
 unfold nN at h;obtain⟨h72,h⟩|⟨h72,h⟩:=ak h
 ·refine ai 125 h72 (aJ 13 ?_);cases h;exact bc
 ·refine ai 125 h72 (bC (ks':=gz M w0 r m1 39) 4 ⟨[(0,.sl (lm cN v1)),(1,iI v2),(5,iI v23),(6,.ptr 6 0),(7,iI 1)],[(6,aG ((gD v1 v23).Style))],[],[6]⟩ (bB (bt (du 24 25 3 7 8 (am 4 ?_)))));obtain⟨v35,h73,h⟩:=bind_some h;refine aO (eA hK h73) (aN 7 2 ?_);obtain⟨h74,h⟩|⟨h74,h⟩:=ak h
  ·exact ay 118 h74 (ac (ah 0 (Ay hK hL1 h)))
  ·refine ay 118 h74 (aN 11 4 ?_);obtain⟨v36,h75,h⟩:=bind_some h;exact aO (eA hK h75) (ac (ah 0 (Ay hK hL1 h)))
theorem ef(hK:aq K)(hL1:jC M w0 r v1 v2 m1 L1)(h:dj K n v1 v2 v23 L1 v31=some r):lR M w0 r (dI 3365::dI 1683 :: .b 1::dI 211::oD M w0 r m1) (Lo v1 v2 v23 v31):=by
 unfold dj at h;obtain⟨h68,h⟩|⟨h68,h⟩:=ak h
 ·refine ai 107 h68 (aJ 10 ?_);cases h;exact bc
 ·refine ai 107 h68 (bC (ks':=dI 6734 :: .b 2 :: .b 1::dI 211::oD M w0 r m1) 5 ⟨[(0,.sl (lm cN v1)),(1,iI v2),(5,iI v23),(6,.ptr 6 0),(7,iI 0)],[(6,aG ((gD v1 v23).Style))],[],[6]⟩ (mU 40 (c:=cat Tryd.f12 [1,0,1,0,0,1,0,0,1,1,1,0,0]) (by kernel_rfl) (bt (cC (ks':=dI 215496::dI 215497 :: .b 3::dI 53875::gz M w0 r m1 39) 8 (am 4 ?_)))));obtain⟨v32,h69,h⟩:=bind_some h;refine aO (eA hK h69) (aN 7 2 ?_);obtain⟨h70,h⟩|⟨h70,h⟩:=ak h
  ·exact ay 118 h70 (ac (ah 0 (BW hK hL1 h)))
  ·refine ay 118 h70 (aN 11 4 ?_);obtain⟨v33,h71,h⟩:=bind_some h;exact aO (eA hK h71) (ac (ah 0 (BW hK hL1 h)))
theorem Gs(hK:aq K)(hL1:jC M w0 r v1 v2 m1 L1)(h:gY K n v1 v2 L1 v23=some r):lR M w0 r (dI 52::oD M w0 r m1) (AB v1 v2 v23):=by
 unfold gY at h;refine cj 4 5 3 2 (am 2 (aF (bE cN v1) (ac ?_)));obtain⟨h43,h⟩|⟨h43,h⟩:=ak h
 ·refine ai 11 h43 (dv 8 9 1 3 5 (am 2 ?_));obtain⟨h44,h⟩:=aU h;refine aF (bO cN cN h44 (y8) ((fun _=>rfl))) (ac (cj 4 5 3 2 (am 2 ?_)));obtain⟨h45,h⟩:=aU h;refine aF (bO cN cN h45 (y8) ((fun _=>rfl))) (aN 8 5 ?_);obtain⟨h46,h⟩|⟨h46,h⟩:=ak h
  ·exact ay 26 h46 (ac (ah 0 (ef hK hL1 h)))
  ·refine ay 26 h46 (aN 10 2 ?_);obtain⟨v24,h47,h⟩:=bind_some h;refine aO (eA hK h47) (aN 14 3 ?_);obtain⟨h48,h⟩|⟨h48,h⟩:=ak h
   ·exact ay 32 h48 (ac (ah 0 (ef hK hL1 h)))
   ·refine ay 32 h48 (aN 16 2 ?_);obtain⟨v25,h49,h⟩:=bind_some h;refine aO (eA hK h49) (aN 20 3 ?_);obtain⟨h50,h⟩|⟨h50,h⟩:=ak h
    ·exact ay 38 h50 (ac (ah 0 (ef hK hL1 h)))
    ·refine ay 38 h50 (aN 22 2 ?_);obtain⟨v26,h51,h⟩:=bind_some h;refine aO (eA hK h51) (aN 26 3 ?_);obtain⟨h52,h⟩|⟨h52,h⟩:=ak h
     ·exact ay 44 h52 (ac (ah 0 (ef hK hL1 h)))
     ·refine ay 44 h52 (aN 28 2 ?_);obtain⟨v27,h53,h⟩:=bind_some h;refine aO (eA hK h53) (aN 32 3 ?_);obtain⟨h54,h⟩|⟨h54,h⟩:=ak h
      ·exact ay 50 h54 (ac (ah 0 (ef hK hL1 h)))
      ·refine ay 50 h54 (aN 34 2 ?_);obtain⟨v28,h55,h⟩:=bind_some h;refine aO (eA hK h55) (aN 38 3 ?_);obtain⟨h56,h⟩|⟨h56,h⟩:=ak h
       ·exact ay 56 h56 (ac (ah 0 (ef hK hL1 h)))
       ·refine ay 56 h56 (aN 40 2 ?_);obtain⟨v29,h57,h⟩:=bind_some h;refine aO (eA hK h57) (aN 44 3 ?_);obtain⟨h58,h⟩|⟨h58,h⟩:=ak h
        ·exact ay 62 h58 (ac (ah 0 (ef hK hL1 h)))
        ·refine ay 62 h58 (aN 46 2 ?_);obtain⟨v30,h59,h⟩:=bind_some h;refine aO (eA hK h59) (aN 50 3 ?_);obtain⟨h60,h⟩|⟨h60,h⟩:=ak h
         ·exact ay 68 h60 (ac (ah 0 (ef hK hL1 h)))
         ·refine ay 68 h60 (aN 55 5 ?_);obtain⟨h61,h⟩|⟨h61,h⟩:=ak h
          ·exact ay 73 h61 (ac (ah 0 (ef hK hL1 h)))
          ·refine ay 73 h61 (aN 60 5 ?_);obtain⟨h62,h⟩|⟨h62,h⟩:=ak h
           ·exact ay 78 h62 (ac (ah 0 (ef hK hL1 h)))
           ·refine ay 78 h62 (aN 65 5 ?_);obtain⟨h63,h⟩|⟨h63,h⟩:=ak h
            ·exact ay 83 h63 (ac (ah 0 (ef hK hL1 h)))
            ·refine ay 83 h63 (aN 70 5 ?_);obtain⟨h64,h⟩|⟨h64,h⟩:=ak h
             ·exact ay 88 h64 (ac (ah 0 (ef hK hL1 h)))
             ·refine ay 88 h64 (aN 75 5 ?_);obtain⟨h65,h⟩|⟨h65,h⟩:=ak h
              ·exact ay 93 h65 (ac (ah 0 (ef hK hL1 h)))
              ·refine ay 93 h65 (aN 80 5 ?_);obtain⟨h66,h⟩|⟨h66,h⟩:=ak h
               ·exact ay 98 h66 (ac (ah 0 (ef hK hL1 h)))
               ·refine ay 98 h66 (aN 85 5 ?_);obtain⟨h67,h⟩|⟨h67,h⟩:=ak h
                ·exact ay 103 h67 (ac (ah 0 (ef hK hL1 h)))
                ·exact ay 103 h67 (ac (ah 0 (ef hK hL1 h)))
 ·refine ai 11 h43 (nz 2 3 6 (am 1 (aF (bE cN v1) (ac (aJ 1 ?_)))));cases h;exact bc
theorem FU(hK:aq K)(m:Nat):jC M w0 r v1 v2 m (jz K n v1 v2 m):=by
 induction m with
 | zero=>intro v23 h;cases h
 | succ m ih=>intro v23 h;have h:gY K n v1 v2 (jz K n v1 v2 m) v23=some r:=h;exact bt (Gs hK ih h)
theorem Et(hK:aq K)(h:qT K n v1 v2=some r):aS Tryd.prog 12 [.sl (lm cN v1),iI v2] (fun v _=>v=.bool r):=by
 refine bl (cat Tryd.f12 (pn 1)) Tryd.func12 Tryd.ntmps12 fun M w0=>(bi ⟨[(0,.sl (lm cN v1)),(1,iI v2)],[],[],[]⟩ ?_);unfold qT at h;exact ah 6 (cH (p:=pn 26) n (FU hK n h))
end
noncomputable section
variable(M:Nat→Prop)(w0:aC)(r:Bool)(v1:List cV)  
abbrev q5:=bodyPost Tryd.prog Tryd.f5 (bu M w0 (fun v _=>v=.bool r))
variable{M w0 r v1}{K:Kn}{n:Nat}
theorem G4(hK:aq K)(h:qS K n v1=some r):aS Tryd.prog 5 [.sl (lm cN v1)] (fun v _=>v=.bool r):=by
 refine bl (cat Tryd.f5 (pn 1)) Tryd.func5 Tryd.ntmps5 fun M w0=>(bi ⟨[(0,.sl (lm cN v1))],[],[],[]⟩ ?_);unfold qS at h;refine aA 6 7 3 (am 1 ?_);obtain⟨v2,h1,h⟩:=bind_some h;refine aO (Et hK h1) (ac (aJ 1 ?_));cases h;exact bc
end
theorem zg{K:Kn}{n:Nat}{v1:ByteArray}{r:Bool}(hK:aq K)(h:mu K n v1=some r):gi Tryd.prog 6 [(.str v1)] (fun v _=>v=.bool r):=by
 unfold mu at h;rcases aU h with⟨h1,h⟩
 cases h;exact HN (of_decide_eq_true h1)
noncomputable section
variable(M:Nat→Prop)(w0:aC)(r:ByteArray)(v1:ae)(v5:ByteArray)(v6:Int)(v8:ByteArray)(m1:Nat)(L1:ByteArray→Int→Option ByteArray)
abbrev uK:Cx:=⟨Tryd.prog,22,M,w0⟩
abbrev q9:=bodyPost Tryd.prog Tryd.f9 (bu M w0 (fun v _=>v=.str r))
abbrev y0(ks:List av)(s:AS):=VE (uK M w0) (q9 M w0 r) ks .normal s
abbrev nQ(n:Nat):av:=.c (cat Tryd.f9 (pn n))
abbrev un:List av:=[.b 0,nQ 15]
abbrev uC:List av:=kl (uK M w0) (q9 M w0 r) un (cat Tryd.f9 (pn 116)) m1::un
def Dd:AS:=⟨[(3,.str v8),(7,.sl (lm ax v1.Kids)),(8,iI (v1.Kids.length:Int)),(9,iI v6)],[],[],[]⟩
def z8:AS:=⟨[(3,.str v5),(7,.sl (lm ax v1.Kids)),(8,iI (v1.Kids.length:Int)),(9,iI v6)],[],[],[]⟩
abbrev vZ:Prop:=∀{v5:ByteArray} {v6:Int},L1 v5 v6=some r→LP (uK M w0) (q9 M w0 r) un (cat Tryd.f9 (pn 116)) m1 (z8 v1 v5 v6)
variable{M w0 r v1 v5 v6 v8 m1 L1}{K:Kn}{n:Nat}
theorem AF(hK:aq K)(hL1:vZ M w0 r v1 m1 L1)(h:mK K n v1 v6 L1 v8=some r):y0 M w0 r (.b 1::nQ 935::uC M w0 r m1) (Dd v1 v6 v8):=by
 unfold mK at h;exact ah 2 (bB (hL1 h))
theorem En(hK:aq K)(hL1:vZ M w0 r v1 m1 L1)(h:lI K n v1 L1 v5 v6=some r):y0 M w0 r (nQ 116::uC M w0 r m1) (z8 v1 v5 v6):=by
 unfold lI at h;refine aA 6 7 3 ?_;obtain⟨h7,h⟩|⟨h7,h⟩:=ak h
 ·refine ai 10 h7 (dv 8 9 1 3 5 (am 0 ?_));obtain⟨h8,h⟩:=aU h;refine aF (bO ax aD h8 (eN) (bN)) (ac ?_);obtain⟨v7,h9,h⟩:=co h;refine bC (ks':=nQ 7475 :: .b 1::nQ 935::uC M w0 r m1) 2 ⟨[(3,.str v5),(5,.ptr 5 0),(7,.sl (lm ax v1.Kids)),(8,iI (v1.Kids.length:Int)),(9,iI v6),(15,.bool v7)],[(5,aD (gD v1.Kids v6))],[],[5]⟩ ?_ (by subst h9;kernel_rfl);obtain⟨h10,h⟩|⟨h10,h⟩:=ak h
  ·refine ai 15 h10 (ba 2 1 (am 3 ?_));obtain⟨h11,h⟩:=aU h;exact aF (yh h11) (ac (ah 0 (AF hK hL1 h)))
  ·exact ai 15 h10 (ah 2 (AF hK hL1 h))
 ·refine ai 10 h7 (aJ 8 ?_);cases h;exact bc
theorem Kq(hK:aq K)(m:Nat):vZ M w0 r v1 m (kX K n v1 m):=by
 induction m with
 | zero=>intro v5 v6 h;cases h
 | succ m ih=>intro v5 v6 h;have h:lI K n v1 (kX K n v1 m) v5 v6=some r:=h;exact bt (En hK ih h)
theorem ix(hK:aq K)(h:kp K n v1=some r):aS Tryd.prog 9 [.agg (aD v1)] (fun v _=>v=.str r):=by
 refine bl (cat Tryd.f9 (pn 1)) Tryd.func9 Tryd.ntmps9 fun M w0=>(bi ⟨[(0,.agg (aD v1))],[],[],[]⟩ ?_);unfold kp at h;exact cj 28 29 15 6 (am 2 (aF (bE ax v1.Kids) (ac (ah 1 (cH (p:=pn 58) n (Kq hK n h))))))
end
noncomputable section
variable(M:Nat→Prop)(w0:aC)(r:V2 Int)(v1:ae)  
abbrev zk(n:Nat):av:=.c (cat Tryd.f10 (pn n))
variable{M w0 r v1}{K:Kn}{n:Nat}
theorem CO(hK:aq K)(h:lu K n v1=some r):aS Tryd.prog 10 [.agg (aD v1)] (fun v _=>v=.agg ((m7 (bp .i64)) r)):=by
 refine bl (cat Tryd.f10 (pn 1)) Tryd.func10 Tryd.ntmps10 fun M w0=>(bi ⟨[(0,.agg (aD v1))],[],[],[]⟩ ?_);unfold lu at h;refine cj 12 13 7 4 (am 2 (aF (bE ax v1.Kids) (ac ?_)));obtain⟨h1,h⟩|⟨h1,h⟩:=ak h
 ·refine ai 7 h1 (aJ 5 ?_);cases h;exact bc
 ·refine ai 7 h1 (gm 2 3 3 (am 4 (aF (bE ax v1.Kids) (aN 6 1 ?_))));obtain⟨h2,h⟩:=aU h;refine aF (bO ax aD h2 (eN) (bN)) (ac ?_);obtain⟨v2,h3,h⟩:=co h;refine bC (ks':=[zk 30,zk 31]) 1 ⟨[(1,.ptr 1 0),(2,.ptr 2 0),(3,.ptr 3 0)],[(1,aD v1),(2,(m7 (bp .i64)) (⟨0,0⟩)),(3,aD v2)],[],[1,2,3]⟩ ?_ (by subst h3;kernel_rfl);obtain⟨h4,h⟩:=aU h;refine bZ 1 (nu 17 [.ptr 1 66,.sl (lm ax v1.Kids),.cptr (aD (gD v1.Kids (0:Int))),.cptr (List.drop 2 (aD (gD v1.Kids (0:Int)))),iI ((gD v1.Kids (0:Int)).X),.ptr 3 2,iI v2.X,.ptr 3 4,iI v2.W,iI (aa (v2.X+v2.W)),.agg ((m7 (bp .i64)) (⟨(gD v1.Kids (0:Int)).X,(aa (v2.X+v2.W))⟩))]) [] [] [bL Tryd.prog 28 Tryd.f10 (pn 30) 11] (aB (vz 2) (bd (bO ax aD h4 (eN) (bN)) (aB (vz 8) (aj (bQ 0) bW)))) (aJ 1 ?_);cases h;exact bc
end
noncomputable section
variable(M:Nat→Prop)(w0:aC)(r:Bool)(v1:cV)(v2:ByteArray)(v3:Int)(v8:Bool)(v10 v12:((List ae)×Int))(v13:Bool)(v19:Int)(v24:Bool)(m1:Nat)(L1:Int→Option Bool)
abbrev tc:Cx:=⟨Tryd.prog,148,M,w0⟩
abbrev q3:=bodyPost Tryd.prog Tryd.f3 (bu M w0 (fun v _=>v=.bool r))
abbrev ri(ks:List av)(s:AS):=VE (tc M w0) (q3 M w0 r) ks .normal s
abbrev fI(n:Nat):av:=.c (cat Tryd.f3 (pn n))
abbrev vr:List av:=[.b 0,fI 1023]
abbrev Cj:List av:=kl (tc M w0) (q3 M w0 r) vr (cat Tryd.f3 (pn 8180)) m1::vr
def C9:AS:=⟨[(9,.ref 70),(11,.ref 79),(93,iI (v10.1.length:Int)),(94,iI v19),(146,.bool v24)],[],[(70,⟨51,67,lm ax v10.1⟩),(79,⟨51,67,lm ax v12.1⟩)],[70,79]⟩
def zt:AS:=⟨[(9,.ref 70),(11,.ref 79),(93,iI (v10.1.length:Int)),(94,iI v19)],[],[(70,⟨51,67,lm ax v10.1⟩),(79,⟨51,67,lm ax v12.1⟩)],[70,79]⟩
def Im:AS:=⟨[(9,.ref 70),(11,.ref 79),(91,.bool v13)],[],[(70,⟨51,67,lm ax v10.1⟩),(79,⟨51,67,lm ax v12.1⟩)],[70,79]⟩
def DC:AS:=⟨[(1,.str v2),(2,iI v3),(3,.ptr 3 0),(41,.bool v8)],[(3,cN v1)],[],[3]⟩
abbrev tQ:Prop:=∀{v19:Int},L1 v19=some r→LP (tc M w0) (q3 M w0 r) vr (cat Tryd.f3 (pn 8180)) m1 (zt v10 v12 v19)
variable{M w0 r v1 v2 v3 v8 v10 v12 v13 v19 v24 m1 L1}{K:Kn}{n:Nat}[TF w0]
theorem rj(hK:aq K)(hL1:tQ M w0 r v10 v12 m1 L1)(h:jc K n v10 v12 v19 L1 v24=some r):ri M w0 r (fI 523571 :: .b 1::fI 65447::Cj M w0 r m1) (C9 v10 v12 v19 v24):=by
 unfold jc at h;obtain⟨h51,h⟩|⟨h51,h⟩:=ak h
 ·refine ai 146 h51 (aJ 9 ?_);cases h;exact bc
 ·exact ai 146 h51 (ah 4 (bB (hL1 h)))
theorem Ih(hK:aq K)(hL1:tQ M w0 r v10 v12 m1 L1)(h:j6 K n v10 v12 L1 v19=some r):ri M w0 r (fI 8180::Cj M w0 r m1) (zt v10 v12 v19):=by
 unfold j6 at h;refine aA 6 7 3 ?_;obtain⟨h35,h⟩|⟨h35,h⟩:=ak h
 ·refine ai 95 h35 (dv 18 19 1 3 7 (bU [9,11,13,93,94] [] [70,79] ?_));obtain⟨h36,h⟩:=aU h;obtain⟨v20,h37,h⟩:=bind_some h;obtain⟨h38,h⟩:=aU h;obtain⟨v21,h39,h⟩:=bind_some h;obtain⟨h40,h⟩|⟨h40,h⟩:=ak h
  ·exact bZ 0 (nu 97 [.ref 70,iI v19,.eptr 70 67 (v19.toNat) 0,.agg (aD (gD v10.1 v19)),.str v20,.ref 79,iI v19,.eptr 79 67 (v19.toNat) 0,.agg (aD (gD v12.1 v19)),.str v21,.bool (!(v20.toList == v21.toList)),.bool true,.tup [],.tup [],.tup [],.tup [],.tup [],.tup [],.tup [],.tup [],.tup [],.tup [],.tup [],.bool true,.bool true,.tup [],.tup [],.tup [],.tup [],.tup [],.tup [],.tup [],.tup [],.tup [],.tup [],.tup [],.bool true,.bool true,.tup [],.tup [],.tup [],.tup [],.tup [],.tup [],.tup [],.tup [],.tup [],.tup [],.tup [],.bool true]) [] [] [] (aB (vz 2) (bd (cA 70 67 ax (L:=v10.1) h36) (bd (bV 51 0 ax aD (cm h36).2 (bN)) (aj (bG 0 1 101 (ix hK h37)) (aB (vz 2) (bd (cA 79 67 ax (L:=v12.1) h38) (bd (bV 51 0 ax aD (cm h38).2 (bN)) (aj (bG 0 1 106 (ix hK h39)) (aB [.v 0 1] (aj (c7 0 108 (e:=(!(v20.toList == v21.toList))) (b:=true) h40) (aj (aE 0 1) (aj (aE 0 1) (aj (aE 0 1) (aj (aE 0 1) (aj (aE 0 1) (aj (aE 0 1) (aj (aE 0 1) (aj (aE 0 1) (aj (aE 0 1) (aj (aE 0 1) (aj (aE 0 1) (aB (vz 2) (aj (aE 0 1) (aj (aE 0 1) (aj (aE 0 1) (aj (aE 0 1) (aj (aE 0 1) (aj (aE 0 1) (aj (aE 0 1) (aj (aE 0 1) (aj (aE 0 1) (aj (aE 0 1) (aj (aE 0 1) (aB (vz 2) (aj (aE 0 1) (aj (aE 0 1) (aj (aE 0 1) (aj (aE 0 1) (aj (aE 0 1) (aj (aE 0 1) (aj (aE 0 1) (aj (aE 0 1) (aj (aE 0 1) (aj (aE 0 1) (aj (aE 0 1) (aB [.v 0 1] bW)))))))))))))))))))))))))))))))))))))))))))))) (ah 0 (rj hK hL1 h))
  ·obtain⟨h41,h⟩:=aU h;obtain⟨h42,h⟩:=aU h;obtain⟨h43,h⟩|⟨h43,h⟩:=ak h
   ·exact bZ 0 (nu 97 [.ref 70,iI v19,.eptr 70 67 (v19.toNat) 0,.agg (aD (gD v10.1 v19)),.str v20,.ref 79,iI v19,.eptr 79 67 (v19.toNat) 0,.agg (aD (gD v12.1 v19)),.str v21,.bool (!(v20.toList == v21.toList)),.bool false,.ref 70,iI v19,.eptr 70 67 (v19.toNat) 0,.eptr 70 67 (v19.toNat) 5,iI ((gD v10.1 v19).H),.ref 79,iI v19,.eptr 79 67 (v19.toNat) 0,.eptr 79 67 (v19.toNat) 5,iI ((gD v12.1 v19).H),.bool (((gD v10.1 v19).H) != ((gD v12.1 v19).H)),.bool (((gD v10.1 v19).H) != ((gD v12.1 v19).H)),.bool true,.tup [],.tup [],.tup [],.tup [],.tup [],.tup [],.tup [],.tup [],.tup [],.tup [],.tup [],.bool true,.bool true,.tup [],.tup [],.tup [],.tup [],.tup [],.tup [],.tup [],.tup [],.tup [],.tup [],.tup [],.bool true]) [] [] [] (aB (vz 2) (bd (cA 70 67 ax (L:=v10.1) h36) (bd (bV 51 0 ax aD (cm h41).2 (bN)) (aj (bG 0 1 101 (ix hK h37)) (aB (vz 2) (bd (cA 79 67 ax (L:=v12.1) h38) (bd (bV 51 0 ax aD (cm h42).2 (bN)) (aj (bG 0 1 106 (ix hK h39)) (aB [.v 0 1] (aj (c7 0 108 (e:=(!(v20.toList == v21.toList))) (b:=false) h40) (aB (vz 2) (bd (cA 70 67 ax (L:=v10.1) h41) (aB [.v 0 1] (bd (bV 3 5 ax aD (cm h41).2 (bN)) (aB (vz 2) (bd (cA 79 67 ax (L:=v12.1) h42) (aB [.v 0 1] (bd (bV 3 5 ax aD (cm h42).2 (bN)) (aB (vz 2) (aj (c7 0 121 (e:=(((gD v10.1 v19).H) != ((gD v12.1 v19).H))) (b:=true) h43) (aj (aE 0 1) (aj (aE 0 1) (aj (aE 0 1) (aj (aE 0 1) (aj (aE 0 1) (aj (aE 0 1) (aj (aE 0 1) (aj (aE 0 1) (aj (aE 0 1) (aj (aE 0 1) (aj (aE 0 1) (aB (vz 2) (aj (aE 0 1) (aj (aE 0 1) (aj (aE 0 1) (aj (aE 0 1) (aj (aE 0 1) (aj (aE 0 1) (aj (aE 0 1) (aj (aE 0 1) (aj (aE 0 1) (aj (aE 0 1) (aj (aE 0 1) (aB [.v 0 1] bW)))))))))))))))))))))))))))))))))))))))))))) (ah 0 (rj hK hL1 h))
   ·obtain⟨h44,h⟩:=aU h;obtain⟨h45,h⟩:=aU h;obtain⟨h46,h⟩|⟨h46,h⟩:=ak h
    ·exact bZ 0 (nu 97 [.ref 70,iI v19,.eptr 70 67 (v19.toNat) 0,.agg (aD (gD v10.1 v19)),.str v20,.ref 79,iI v19,.eptr 79 67 (v19.toNat) 0,.agg (aD (gD v12.1 v19)),.str v21,.bool (!(v20.toList == v21.toList)),.bool false,.ref 70,iI v19,.eptr 70 67 (v19.toNat) 0,.eptr 70 67 (v19.toNat) 5,iI ((gD v10.1 v19).H),.ref 79,iI v19,.eptr 79 67 (v19.toNat) 0,.eptr 79 67 (v19.toNat) 5,iI ((gD v12.1 v19).H),.bool (((gD v10.1 v19).H) != ((gD v12.1 v19).H)),.bool (((gD v10.1 v19).H) != ((gD v12.1 v19).H)),.bool false,.ref 70,iI v19,.eptr 70 67 (v19.toNat) 0,.eptr 70 67 (v19.toNat) 6,iI ((gD v10.1 v19).aC),.ref 79,iI v19,.eptr 79 67 (v19.toNat) 0,.eptr 79 67 (v19.toNat) 6,iI ((gD v12.1 v19).aC),.bool (((gD v10.1 v19).aC) != ((gD v12.1 v19).aC)),.bool (((gD v10.1 v19).aC) != ((gD v12.1 v19).aC)),.bool true,.tup [],.tup [],.tup [],.tup [],.tup [],.tup [],.tup [],.tup [],.tup [],.tup [],.tup [],.bool true]) [] [] [] (aB (vz 2) (bd (cA 70 67 ax (L:=v10.1) h36) (bd (bV 51 0 ax aD (cm h44).2 (bN)) (aj (bG 0 1 101 (ix hK h37)) (aB (vz 2) (bd (cA 79 67 ax (L:=v12.1) h38) (bd (bV 51 0 ax aD (cm h45).2 (bN)) (aj (bG 0 1 106 (ix hK h39)) (aB [.v 0 1] (aj (c7 0 108 (e:=(!(v20.toList == v21.toList))) (b:=false) h40) (aB (vz 2) (bd (cA 70 67 ax (L:=v10.1) h41) (aB [.v 0 1] (bd (bV 3 5 ax aD (cm h44).2 (bN)) (aB (vz 2) (bd (cA 79 67 ax (L:=v12.1) h42) (aB [.v 0 1] (bd (bV 3 5 ax aD (cm h45).2 (bN)) (aB (vz 2) (aj (c7 0 121 (e:=(((gD v10.1 v19).H) != ((gD v12.1 v19).H))) (b:=false) h43) (aB (vz 2) (bd (cA 70 67 ax (L:=v10.1) h44) (aB [.v 0 1] (bd (bV 3 6 ax aD (cm h44).2 (bN)) (aB (vz 2) (bd (cA 79 67 ax (L:=v12.1) h45) (aB [.v 0 1] (bd (bV 3 6 ax aD (cm h45).2 (bN)) (aB (vz 2) (aj (c7 0 134 (e:=(((gD v10.1 v19).aC) != ((gD v12.1 v19).aC))) (b:=true) h46) (aj (aE 0 1) (aj (aE 0 1) (aj (aE 0 1) (aj (aE 0 1) (aj (aE 0 1) (aj (aE 0 1) (aj (aE 0 1) (aj (aE 0 1) (aj (aE 0 1) (aj (aE 0 1) (aj (aE 0 1) (aB [.v 0 1] bW)))))))))))))))))))))))))))))))))))))))))) (ah 0 (rj hK hL1 h))
    ·obtain⟨h47,h⟩:=aU h;obtain⟨v22,h48,h⟩:=bind_some h;obtain⟨h49,h⟩:=aU h;obtain⟨v23,h50,h⟩:=bind_some h;exact bZ 0 (nu 97 [.ref 70,iI v19,.eptr 70 67 (v19.toNat) 0,.agg (aD (gD v10.1 v19)),.str v20,.ref 79,iI v19,.eptr 79 67 (v19.toNat) 0,.agg (aD (gD v12.1 v19)),.str v21,.bool (!(v20.toList == v21.toList)),.bool false,.ref 70,iI v19,.eptr 70 67 (v19.toNat) 0,.eptr 70 67 (v19.toNat) 5,iI ((gD v10.1 v19).H),.ref 79,iI v19,.eptr 79 67 (v19.toNat) 0,.eptr 79 67 (v19.toNat) 5,iI ((gD v12.1 v19).H),.bool (((gD v10.1 v19).H) != ((gD v12.1 v19).H)),.bool (((gD v10.1 v19).H) != ((gD v12.1 v19).H)),.bool false,.ref 70,iI v19,.eptr 70 67 (v19.toNat) 0,.eptr 70 67 (v19.toNat) 6,iI ((gD v10.1 v19).aC),.ref 79,iI v19,.eptr 79 67 (v19.toNat) 0,.eptr 79 67 (v19.toNat) 6,iI ((gD v12.1 v19).aC),.bool (((gD v10.1 v19).aC) != ((gD v12.1 v19).aC)),.bool (((gD v10.1 v19).aC) != ((gD v12.1 v19).aC)),.bool false,.ref 70,iI v19,.eptr 70 67 (v19.toNat) 0,.agg (aD (gD v10.1 v19)),.agg ((m7 (bp .i64)) v22),.ref 79,iI v19,.eptr 79 67 (v19.toNat) 0,.agg (aD (gD v12.1 v19)),.agg ((m7 (bp .i64)) v23),.bool (!((v22.a0 == v23.a0)&&((v22.a1 == v23.a1)&&true))),.bool (!((v22.a0 == v23.a0)&&((v22.a1 == v23.a1)&&true)))]) [] [] [] (aB (vz 2) (bd (cA 70 67 ax (L:=v10.1) h36) (bd (bV 51 0 ax aD (cm h47).2 (bN)) (aj (bG 0 1 101 (ix hK h37)) (aB (vz 2) (bd (cA 79 67 ax (L:=v12.1) h38) (bd (bV 51 0 ax aD (cm h49).2 (bN)) (aj (bG 0 1 106 (ix hK h39)) (aB [.v 0 1] (aj (c7 0 108 (e:=(!(v20.toList == v21.toList))) (b:=false) h40) (aB (vz 2) (bd (cA 70 67 ax (L:=v10.1) h41) (aB [.v 0 1] (bd (bV 3 5 ax aD (cm h47).2 (bN)) (aB (vz 2) (bd (cA 79 67 ax (L:=v12.1) h42) (aB [.v 0 1] (bd (bV 3 5 ax aD (cm h49).2 (bN)) (aB (vz 2) (aj (c7 0 121 (e:=(((gD v10.1 v19).H) != ((gD v12.1 v19).H))) (b:=false) h43) (aB (vz 2) (bd (cA 70 67 ax (L:=v10.1) h44) (aB [.v 0 1] (bd (bV 3 6 ax aD (cm h47).2 (bN)) (aB (vz 2) (bd (cA 79 67 ax (L:=v12.1) h45) (aB [.v 0 1] (bd (bV 3 6 ax aD (cm h49).2 (bN)) (aB (vz 2) (aj (c7 0 134 (e:=(((gD v10.1 v19).aC) != ((gD v12.1 v19).aC))) (b:=false) h46) (aB (vz 2) (bd (cA 70 67 ax (L:=v10.1) h47) (bd (bV 51 0 ax aD (cm h47).2 (bN)) (aj (bG 0 1 139 (CO hK h48)) (aB (vz 2) (bd (cA 79 67 ax (L:=v12.1) h49) (bd (bV 51 0 ax aD (cm h49).2 (bN)) (aj (bG 0 1 144 (CO hK h50)) (aB (vz 2) bW))))))))))))))))))))))))))))))))))))))) (ah 0 (rj hK hL1 h))
 ·refine ai 95 h35 (aJ 8 ?_);cases h;exact bc
theorem Lc(hK:aq K)(m:Nat):tQ M w0 r v10 v12 m (kM K n v10 v12 m):=by
 induction m with
 | zero=>intro v19 h;cases h
 | succ m ih=>intro v19 h;have h:j6 K n v10 v12 (kM K n v10 v12 m) v19=some r:=h;exact bt (Ih hK ih h)
theorem Cl(hK:aq K)(h:mZ K n v10 v12 v13=some r):ri M w0 r [fI 1021,fI 511] (Im v10 v12 v13):=by
 unfold mZ at h;obtain⟨h17,h⟩|⟨h17,h⟩:=ak h
 ·refine ai 91 h17 (aJ 5 ?_);cases h;exact bc
 ·exact ai 91 h17 (mc 4 5 3 4 (am 1 (aF (bE ax v10.1) (ac (ah 1 (cH (p:=pn 4090) n (Lc hK n h)))))))
theorem nl(hK:aq K)(h:gK K n v1 v2 v3 v8=some r):ri M w0 r [fI 29,fI 15] (DC v1 v2 v3 v8):=by
 unfold gK at h;obtain⟨h10,h⟩|⟨h10,h⟩:=ak h
 ·refine ai 41 h10 (aJ 5 ?_);cases h;exact bc
 ·refine ai 41 h10 (gm 2 3 3 (am 5 ?_));obtain⟨h11,h⟩:=aU h;refine aF (yh h11) (aN 7 1 (aF (fh aW ([({ cv with Kind:=3,Style:=v1.Style,Text:=(v1.Text++v2) }:au)]:List au) (new:=[aZ ({ cv with Kind:=3,Style:=v1.Style,Text:=(v1.Text++v2) }:au)]) (by simp only[List.map_cons,List.map_nil,ep])) (ac (aA 2 3 1 (am 11 (aF (fh aW ([({ cv with Kind:=3,Style:=v1.Style,Text:=v2 }:au)]:List au) (new:=[aZ ({ cv with Kind:=3,Style:=v1.Style,Text:=v2 }:au)]) (by simp only[List.map_cons,List.map_nil,ep])) (aN 13 1 (aF (fh aW ([({ cv with Kind:=3,Style:=v1.Style,Text:=v1.Text }:au),({ cv with Kind:=2,Style:=v1.Style,Kids:=[({ cv with Kind:=3,Style:=v1.Style,Text:=v2 }:au)] }:au)]:List au) (new:=[aZ ({ cv with Kind:=3,Style:=v1.Style,Text:=v1.Text }:au),aZ ({ cv with Kind:=2,Style:=v1.Style,Kids:=[({ cv with Kind:=3,Style:=v1.Style,Text:=v2 }:au)] }:au)]) (by simp only[List.map_cons,List.map_nil,ep])) (ac (aA 2 3 1 (bU [2,3,7,8] [3] [] ?_)))))))))))
  obtain⟨v9,h12,h⟩:=bind_some h;obtain⟨v10,h13,h⟩:=bind_some h;refine bZ 2 (nu 65 [.sl (lm aW [({ cv with Kind:=3,Style:=v1.Style,Text:=(v1.Text++v2) }:au)]),.ptr 3 5,.agg (aG v1.Style),iI v3,.agg (ct v9),.tup [.ref 70,iI v10.2]]++nu 64 [.tup [.ref 70,iI v10.2]]++nu 71 [.ref 70,iI v10.2]) [] [(70,⟨51,67,lm ax v10.1⟩)] [bL Tryd.prog 148 Tryd.f3 (pn 126) 9,bL Tryd.prog 148 Tryd.f3 (pn 126) 10] (aB (vz 4) (aj (bG 0 1 69 (oB hK h12)) (aj (mh 0 1 70 (sB hK h13) (rg (i:=0) rfl)) (aB [.v 0 1,.v 0 1,.v 0 2] (aj (bQ 0) (aj (bQ 1) bW)))))) (aA 2 3 1 (bU [2,3,8,9,10] [3] [70] ?_));obtain⟨v11,h14,h⟩:=bind_some h;obtain⟨v12,h15,h⟩:=bind_some h;refine bZ 2 (nu 74 [.sl (lm aW [({ cv with Kind:=3,Style:=v1.Style,Text:=v1.Text }:au),({ cv with Kind:=2,Style:=v1.Style,Kids:=[({ cv with Kind:=3,Style:=v1.Style,Text:=v2 }:au)] }:au)]),.ptr 3 5,.agg (aG v1.Style),iI v3,.agg (ct v11),.tup [.ref 79,iI v12.2]]++nu 73 [.tup [.ref 79,iI v12.2]]++nu 80 [.ref 79,iI v12.2]) [] [(79,⟨51,67,lm ax v12.1⟩)] [bL Tryd.prog 148 Tryd.f3 (pn 254) 9,bL Tryd.prog 148 Tryd.f3 (pn 254) 10] (aB (vz 4) (aj (bG 0 1 78 (oB hK h14)) (aj (mh 0 1 79 (sB hK h15) (rg (i:=0) rfl)) (aB [.v 0 1,.v 0 1,.v 0 2] (aj (bQ 0) (aj (bQ 1) bW)))))) (bC (ks':=[fI 1020,fI 1021,fI 511]) 2 ⟨[(9,.ref 70),(10,iI v10.2),(11,.ref 79),(12,iI v12.2)],[],[(70,⟨51,67,lm ax v10.1⟩),(79,⟨51,67,lm ax v12.1⟩)],[70,79]⟩ (am 4 ?_))
  obtain⟨h16,h⟩|⟨h16,h⟩:=ak h
  ·exact ay 85 h16 (ac (ah 0 (Cl hK h)))
  ·exact ay 85 h16 (aN 5 1 (aF (bE ax v10.1) (aN 7 1 (aF (bE ax v12.1) (ac (ah 0 (Cl hK h)))))))
theorem Ii(hK:aq K)(h:rO K n v1 v2 v3=some r):gi Tryd.prog 3 [.agg (cN v1),.str v2,iI v3] (fun v _=>v=.bool r):=by
 refine Ld (c:=cat Tryd.f3 (pn 1)) Tryd.func3 (by kernel_rfl) _ Tryd.ntmps3 (of_decide_eq_true (by kernel_rfl)) fun M w0 hT=>?_;haveI:=hT;refine bi ⟨[(0,.agg (cN v1)),(1,.str v2),(2,iI v3)],[],[],[]⟩ ?_;unfold rO at h;refine cj 12 13 7 4 (am 0 ?_);obtain⟨v4,h1,h⟩:=bind_some h;refine aO (Ev hK h1) (ac ?_);obtain⟨h2,h⟩|⟨h2,h⟩:=ak h
 ·refine ai 15 h2 (aJ 5 ?_);cases h;exact bc
 ·refine ai 15 h2 (mc 4 5 3 4 (am 2 ?_));obtain⟨v5,h3,h⟩:=bind_some h;refine aO (G4 hK h3) (aN 5 2 ?_);obtain⟨h4,h⟩|⟨h4,h⟩:=ak h
  ·exact ay 20 h4 (ac (ah 0 (nl hK h)))
  ·refine ay 20 h4 (aN 10 5 ?_);obtain⟨h5,h⟩|⟨h5,h⟩:=ak h
   ·exact ay 25 h5 (ac (ah 0 (nl hK h)))
   ·refine ay 25 h5 (aN 12 2 ?_);obtain⟨v6,h6,h⟩:=bind_some h;refine xz (zg hK h6) (aN 16 3 ?_);obtain⟨h7,h⟩|⟨h7,h⟩:=ak h
    ·exact ay 31 h7 (ac (ah 0 (nl hK h)))
    ·refine ay 31 h7 (aN 17 1 ?_);obtain⟨v7,h8,h⟩:=bind_some h;refine xz (zg hK h8) (aN 21 3 ?_);obtain⟨h9,h⟩|⟨h9,h⟩:=ak h
     ·exact ay 36 h9 (ac (ah 0 (nl hK h)))
     ·exact ay 36 h9 (ac (ah 0 (nl hK h)))
end
noncomputable section
variable(M:Nat→Prop)(w0:aC)(r:bD)(v1:aH)(v2 v3:Int)(v4:bD)(v7 v8 v9:Int)(v10 v11:(Int×Bool))(v12:Bool)(v13:V4 Int)  
abbrev qW(n:Nat):av:=.c (cat Tryd.f49 (pn n))
abbrev IJ:Cx:=⟨Tryd.prog,89,M,w0⟩
abbrev C0:=bodyPost Tryd.prog Tryd.f49 (bu M w0 (fun v _=>v=.agg (bz r)))
abbrev tX(ks:List av)(s:AS):=VE (IJ M w0) (C0 M w0 r) ks .normal s
def G3:AS:=⟨[(4,.ptr 4 0),(5,.ptr 5 0)],[(4,bz fq),(5,bz ({ v4 with Margin:=v13,Content:=v8 }:bD))],[],[4,5]⟩
def Fl:AS:=⟨[(4,.ptr 4 0),(5,.ptr 5 0),(8,iI (aa (v3-v9))),(10,.bool v10.2),(12,.bool v11.2),(59,.bool v12)],[(4,bz fq),(5,bz ({ v4 with Content:=v8 }:bD))],[],[4,5]⟩
def KL:AS:=⟨[(1,iI v3),(2,.ptr 2 0),(4,.ptr 4 0),(5,.ptr 5 0),(6,iI v7)],[(2,aG v1),(4,bz fq),(5,bz v4)],[],[2,4,5]⟩
variable{M w0 r v1 v2 v3 v4 v7 v8 v9 v10 v11 v12 v13}{K:Kn}{n:Nat}
theorem rk(hK:aq K)(h:kf K n v4 v8 v13=some r):tX M w0 r [.b 0,qW 4095] (G3 v4 v8 v13):=by
 unfold kf at h;refine aJ 4 ?_;cases h;exact bc
theorem yO(hK:aq K)(h:rx K n v3 v4 v8 v9 v10 v11 v12=some r):tX M w0 r [qW 16377,.b 0,qW 4095] (Fl v3 v4 v8 v9 v10 v11 v12):=by
 unfold rx at h;obtain⟨h12,h⟩|⟨h12,h⟩:=ak h
 ·exact ai 59 h12 (ah 4 (rk hK h))
 ·refine ai 59 h12 (ba 7 3 ?_);obtain⟨h13,h⟩|⟨h13,h⟩:=ak h
  ·exact ai 76 h13 (ah 2 (rk hK h))
  ·refine ai 76 h13 (ba 7 3 ?_);obtain⟨h14,h⟩|⟨h14,h⟩:=ak h
   ·exact ai 82 h14 (ah 2 (rk hK h))
   ·exact ai 82 h14 (ah 2 (rk hK h))
theorem yX(hK:aq K)(h:qF K n v1 v3 v4 v7=some r):tX M w0 r [qW 63] (KL v1 v3 v4 v7):=by
 unfold qF at h;refine aA 2 3 1 (am 3 ?_);obtain⟨v8,h6,h⟩:=bind_some h;refine aO (rS hK h6) (ac (aA 2 3 1 (am 2 ?_)));obtain⟨v9,h7,h⟩:=bind_some h;refine aO (kD hK h7) (ac (aA 5 3 3 ?_));obtain⟨h8,h⟩|⟨h8,h⟩:=ak h
 ·refine ai 41 h8 (aJ 5 ?_);cases h;exact bc
 ·refine ai 41 h8 (gm 2 3 3 (am 4 ?_));obtain⟨v10,h9,h⟩:=bind_some h;refine aO (dR hK h9) (ac (aA 2 3 1 (am 4 ?_)));obtain⟨v11,h10,h⟩:=bind_some h;refine aO (dR hK h10) (ac (du 8 9 0 3 3 (am 3 ?_)));obtain⟨h11,h⟩|⟨h11,h⟩:=ak h
  ·exact ay 62 h11 (ac (ah 0 (yO hK h)))
  ·exact ay 62 h11 (ac (ah 0 (yO hK h)))
theorem DT(hK:aq K)(h:t8 K n v1 v2=some r):aS Tryd.prog 49 [.agg (aG v1),iI v2] (fun v _=>v=.agg (bz r)):=by
 refine bl (cat Tryd.f49 (pn 1)) Tryd.func49 Tryd.ntmps49 fun M w0=>(bi ⟨[(0,.agg (aG v1)),(1,iI v2)],[],[],[]⟩ ?_);unfold t8 at h;refine aA 6 7 3 (am 1 ?_);obtain⟨v3,h1,h⟩:=bind_some h;refine aO (fg hK h1) (ac (aA 2 3 1 (am 2 ?_)));obtain⟨v4,h2,h⟩:=bind_some h;refine aO (nO hK h2) (ac (aA 2 3 1 (am 3 ?_)));obtain⟨v5,h3,h⟩:=bind_some h;refine aO (dR hK h3) (ac (aA 5 3 3 ?_));obtain⟨h4,h⟩|⟨h4,h⟩:=ak h
 ·refine ai 26 h4 (ba 2 1 (am 2 ?_));obtain⟨v6,h5,h⟩:=bind_some h;exact aO (kD hK h5) (ac (ah 0 (yX hK h)))
 ·exact ai 26 h4 (ah 2 (yX hK h))
end
noncomputable section
variable(M:Nat→Prop)(w0:aC)(r:ae)(v1:au)(v2:Int)(v3:cq)(v4:bD)(v5 v6:Bool)  
abbrev ye(n:Nat):av:=.c (cat Tryd.f37 (pn n))
abbrev Kj:Cx:=⟨Tryd.prog,58,M,w0⟩
abbrev Jv:=bodyPost Tryd.prog Tryd.f37 (bu M w0 (fun v s=>v=.agg (List.set (aD ({ r with Kids:=[] }:ae)) 66 (.ref 1057))∧look 1057 s.r=some ⟨51,67,lm ax r.Kids⟩))
abbrev Aq(ks:List av)(s:AS):=VE (Kj M w0) (Jv M w0 r) ks .normal s
def HG:AS:=⟨[(3,.ptr 3 0),(5,.ptr 5 0),(6,.ptr 6 0),(7,.ptr 7 0),(9,.bool v5),(10,.bool v6)],[(3,aZ v1),(5,ct v3),(6,List.set (aD bo) 66 (.nils)),(7,bz v4)],[],[3,5,6,7]⟩
def EA:AS:=⟨[(3,.ptr 3 0),(5,.ptr 5 0),(6,.ptr 6 0),(7,.ptr 7 0),(8,.bool (v1.Style.Overflow == 0)),(9,.bool v5)],[(3,aZ v1),(5,ct v3),(6,List.set (aD bo) 66 (.nils)),(7,bz v4)],[],[3,5,6,7]⟩
variable{M w0 r v1 v2 v3 v4 v5 v6}{K:Kn}{n:Nat}
theorem qC(hK:aq K)(h:lU K n v1 v3 v4 v5 v6=some r):Aq M w0 r [ye 63] (HG v1 v3 v4 v5 v6):=by
 unfold lU at h;refine aA 2 3 1 (am 5 ?_);obtain⟨v7,h7,h⟩:=bind_some h;refine gS 1057 (yi hK h7) (pE (i:=66) (by kernel_rfl)) (ac (aJ 1 ?_));cases h;exact fl
theorem sM(hK:aq K)(h:nh K n v1 v3 v4 v5=some r):Aq M w0 r [ye 31] (EA v1 v3 v4 v5):=by
 unfold nh at h;refine aA 2 3 1 (am 2 ?_);obtain⟨h4,h⟩|⟨h4,h⟩:=ak h
 ·refine ay 33 h4 (aN 8 6 ?_);obtain⟨h5,h⟩|⟨h5,h⟩:=ak h
  ·refine ay 39 h5 (aN 14 6 ?_);obtain⟨h6,h⟩|⟨h6,h⟩:=ak h
   ·exact ay 45 h6 (ac (ah 0 (qC hK h)))
   ·exact ay 45 h6 (ac (ah 0 (qC hK h)))
  ·exact ay 39 h5 (ac (ah 0 (qC hK h)))
 ·exact ay 33 h4 (ac (ah 0 (qC hK h)))
theorem Ez(hK:aq K)(h:vB K n v1 v2 v3=some r):aS Tryd.prog 37 [.agg (aZ v1),iI v2,.agg (ct v3)] (fun v s=>v=.agg (List.set (aD ({ r with Kids:=[] }:ae)) 66 (.ref 1057))∧look 1057 s.r=some ⟨51,67,lm ax r.Kids⟩):=by
 refine bl (cat Tryd.f37 (pn 1)) Tryd.func37 Tryd.ntmps37 fun M w0=>(bi ⟨[(0,.agg (aZ v1)),(1,iI v2),(2,.agg (ct v3))],[],[],[]⟩ ?_);unfold vB at h;refine aA 6 7 3 (am 3 ?_);obtain⟨v4,h1,h⟩:=bind_some h;refine aO (DT hK h1) (ac (aA 6 7 3 (am 2 ?_)));obtain⟨h2,h⟩|⟨h2,h⟩:=ak h
 ·refine ay 20 h2 (aN 8 6 ?_);obtain⟨h3,h⟩|⟨h3,h⟩:=ak h
  ·exact ay 26 h3 (ac (ah 0 (sM hK h)))
  ·exact ay 26 h3 (ac (ah 0 (sM hK h)))
 ·exact ay 20 h2 (ac (ah 0 (sM hK h)))
end
noncomputable section
variable(M:Nat→Prop)(w0:aC)(r:ae)(v1:au)(v2:Int)  
variable{M w0 r v1 v2}{K:Kn}{n:Nat}
theorem HX(hK:aq K)(h:vc K n v1 v2=some r):aS Tryd.prog 17 [.agg (aZ v1),iI v2] (fun v s=>v=.agg (List.set (aD ({ r with Kids:=[] }:ae)) 66 (.ref 8))∧look 8 s.r=some ⟨51,67,lm ax r.Kids⟩):=by
 refine bl (cat Tryd.f17 (pn 1)) Tryd.func17 Tryd.ntmps17 fun M w0=>(bi ⟨[(0,.agg (aZ v1)),(1,iI v2)],[],[],[]⟩ ?_);unfold vc at h;refine aA 6 7 3 (bU [1,2,4] [2,4] [] ?_);obtain⟨v3,h1,h⟩:=bind_some h;obtain⟨v4,h2,h⟩:=bind_some h;refine bZ 1 (nu 5 [.agg (aZ v1),iI v2,.agg (ct v3),.agg (List.set (aD ({ v4 with Kids:=[] }:ae)) 66 (.ref 8))]) [] [(8,⟨51,67,lm ax v4.Kids⟩)] [bL Tryd.prog 9 Tryd.f17 (pn 6) 4] (aB (vz 2) (aj (bG 0 1 7 (oB hK h1)) (aj (mh 0 1 8 (Ez hK h2) (pE (i:=66) (by kernel_rfl))) (aj (bQ 0) bW)))) (aJ 1 ?_);cases h;exact fl
end
noncomputable section
variable(M:Nat→Prop)(w0:aC)(r:Int×Int)(v1:au)(v2:cq)  
variable{M w0 r v1 v2}{K:Kn}{n:Nat}
theorem GO(hK:aq K)(h:tL K n v1 v2=some r):aS Tryd.prog 38 [.agg (aZ v1),.agg (ct v2)] (fun v _=>v=.tup [iI r.1,iI r.2]):=by
 refine bl (cat Tryd.f38 (pn 1)) Tryd.func38 Tryd.ntmps38 fun M w0=>(bi ⟨[(0,.agg (aZ v1)),(1,.agg (ct v2))],[],[],[]⟩ ?_);unfold tL at h;refine aA 6 7 3 (am 2 ?_);obtain⟨v3,h1,h⟩:=bind_some h;refine aO (wV hK h1) (ac (aA 2 3 1 (am 2 ?_)));obtain⟨v4,h2,h⟩:=bind_some h;refine aO (Cz hK h2) (ac (aA 2 3 1 (bU [4,5,6] [6] [] ?_)));obtain⟨v5,h3,h⟩:=bind_some h;obtain⟨v6,h4,h⟩:=bind_some h;obtain⟨v7,h5,h⟩:=bind_some h;obtain⟨v8,h6,h⟩:=bind_some h;obtain⟨v9,h7,h⟩:=bind_some h;obtain⟨v10,h8,h⟩:=bind_some h;refine bZ 2 (nu 16 [.agg (aG v4),.agg (aG v4),iI v3.1,iI v5,.agg (bz v6),iI v7,.agg (aG v4),.agg (aG v4),iI v3.2,iI v8,.agg (bz v9),iI v10]) [] [] [bL Tryd.prog 28 Tryd.f38 (pn 30) 12,bL Tryd.prog 28 Tryd.f38 (pn 30) 13] (aB (vz 3) (aj (bG 0 1 19 (rS hK h3)) (aj (bG 0 1 20 (nO hK h4)) (aj (bG 0 1 21 (kD hK h5)) (aB [.v 0 2,.v 0 2,.v 0 2] (aj (bG 0 2 25 (rS hK h6)) (aj (bG 0 2 26 (nO hK h7)) (aj (bG 0 1 27 (kD hK h8)) (aj (bQ 0) (aj (bQ 1) bW)))))))))) (aJ 1 ?_)
 cases h;exact fT
end
noncomputable section
variable(M:Nat→Prop)(w0:aC)(r:Int×Int)(v1:au)  
variable{M w0 r v1}{K:Kn}{n:Nat}
theorem Eg(hK:aq K)(h:tw K n v1=some r):aS Tryd.prog 18 [.agg (aZ v1)] (fun v _=>v=.tup [iI r.1,iI r.2]):=by
 refine bl (cat Tryd.f18 (pn 1)) Tryd.func18 Tryd.ntmps18 fun M w0=>(bi ⟨[(0,.agg (aZ v1))],[],[],[]⟩ ?_);unfold tw at h;refine aA 6 7 3 (bU [1] [1] [] ?_);obtain⟨v2,h1,h⟩:=bind_some h;obtain⟨v3,h2,h⟩:=bind_some h;refine bZ 2 (nu 4 [.agg (aZ v1),.agg (ct v2),.tup [iI v3.1,iI v3.2],iI v3.1,iI v3.2]) [] [] [bL Tryd.prog 9 Tryd.f18 (pn 6) 5,bL Tryd.prog 9 Tryd.f18 (pn 6) 6] (aB [.v 0 1] (aj (bG 0 1 5 (oB hK h1)) (aj (bG 0 1 6 (GO hK h2)) (aB (vz 2) (aj (bQ 0) (aj (bQ 1) bW)))))) (aJ 1 ?_);cases h;exact fT
end
noncomputable section
variable(M:Nat→Prop)(w0:aC)(r:(List ae)×Int)(v1:List au)(v2:aH)(v3 v10 v11:Int)(v12:List ae)(v14:Int)(v15:List ae)(m1:Nat)(L1:Int→Int→(List ae)→Option ((List ae)×Int))
abbrev ut:Cx:=⟨Tryd.prog,42,M,w0⟩
abbrev tp:=bodyPost Tryd.prog Tryd.f19 (bu M w0 (fun v s=>v=.tup [.ref 35,iI r.2]∧look 35 s.r=some ⟨51,67,lm ax r.1⟩))
abbrev xh(ks:List av)(s:AS):=VE (ut M w0) (tp M w0 r) ks .normal s
abbrev oh(n:Nat):av:=.c (cat Tryd.f19 (pn n))
abbrev uJ:List av:=[.b 0,oh 31]
abbrev sq:List av:=kl (ut M w0) (tp M w0 r) uJ (cat Tryd.f19 (pn 244)) m1::uJ
def KW:AS:=⟨[(0,.sl (lm aW v1)),(2,iI v3),(4,.ptr 4 0),(8,.ref 35),(9,iI v14),(10,iI v11)],[(4,aG v2)],[(35,⟨51,67,lm ax v15⟩)],[4,35]⟩
def Cv:AS:=⟨[(0,.sl (lm aW v1)),(2,iI v3),(4,.ptr 4 0),(8,.ref 35),(9,iI v10),(10,iI v11)],[(4,aG v2)],[(35,⟨51,67,lm ax v12⟩)],[4,35]⟩
abbrev vC:Prop:=∀{v10:Int} {v11:Int} {v12:(List ae)},L1 v10 v11 v12=some r→LP (ut M w0) (tp M w0 r) uJ (cat Tryd.f19 (pn 244)) m1 (Cv v1 v2 v3 v10 v11 v12)
variable{M w0 r v1 v2 v3 v10 v11 v12 v14 v15 m1 L1}{K:Kn}{n:Nat}
theorem CK(hK:aq K)(hL1:vC M w0 r v1 v2 v3 m1 L1)(h:qA K n v1 v2 v3 v11 L1 v14 v15=some r):xh M w0 r (.b 1::oh 979::sq M w0 r m1) (KW v1 v2 v3 v11 v14 v15):=by
 unfold qA at h;exact ah 2 (bB (hL1 h))
theorem F7(hK:aq K)(hL1:vC M w0 r v1 v2 v3 m1 L1)(h:pG K n v1 v2 v3 L1 v10 v11 v12=some r):xh M w0 r (oh 244::sq M w0 r m1) (Cv v1 v2 v3 v10 v11 v12):=by
 unfold pG at h;refine cj 4 5 3 2 (am 2 (aF (bE aW v1) (ac ?_)));obtain⟨h13,h⟩|⟨h13,h⟩:=ak h
 ·refine ai 14 h13 (dv 8 9 1 3 5 (am 2 ?_));obtain⟨h14,h⟩:=aU h;refine aF (bO aW aZ h14 (fL) (ep)) (ac ?_);obtain⟨v13,h15,h⟩:=co h;refine bC (ks':=oh 3913 :: .b 1::oh 979::sq M w0 r m1) 0 ⟨[(0,.sl (lm aW v1)),(2,iI v3),(4,.ptr 4 0),(8,.ref 35),(9,iI v10),(10,iI v11),(22,.bool v13)],[(4,aG v2)],[(35,⟨51,67,lm ax v12⟩)],[4,35]⟩ ?_ (by subst h15;kernel_rfl);obtain⟨h16,h⟩|⟨h16,h⟩:=ak h
  ·refine ai 22 h16 (aA 4 5 2 (bU [0,2,4,8,9,10] [4] [35] ?_));obtain⟨h17,h⟩:=aU h;obtain⟨h18,h⟩:=aU h;exact bZ 2 (nu 23 [.ref 35,iI v10,iI v3,.ptr 4 38,iI v2.LineHeight,.sl (lm aW v1),iI v11,.cptr (aZ (gD v1 v11)),.cptr (List.drop 55 (aZ (gD v1 v11))),.str ((gD v1 v11).Text),.agg (List.set (aD ({ bo with Kind:=2,Y:=v10,W:=v3,H:=v2.LineHeight,Text:=(gD v1 v11).Text }:ae)) 66 (.nils)),.sl (lm ax [({ bo with Kind:=2,Y:=v10,W:=v3,H:=v2.LineHeight,Text:=(gD v1 v11).Text }:ae)])]) [] [] [jx 35 35 ⟨51,67,lm ax (v12++[({ bo with Kind:=2,Y:=v10,W:=v3,H:=v2.LineHeight,Text:=(gD v1 v11).Text }:ae)])⟩,bL Tryd.prog 42 Tryd.f19 (pn 15652) 13] (aB [.v 0 1,.v 0 2,.v 0 2,.v 0 2,.v 0 2,.v 0 2,.v 0 2] (aj (j7 (lo:=0) (k:=2) (iP ⟨(by kernel_rfl),(jL (bO aW aZ h17 (fL) (ep)) (by kernel_rfl))⟩ (iP ⟨(by kernel_rfl),(jL (bO aW aZ h17 (fL) (ep)) (by kernel_rfl))⟩ ni))) (aB [.v 0 2,.v 0 2,.v 0 2] (bd (fh ax ([({ bo with Kind:=2,Y:=v10,W:=v3,H:=v2.LineHeight,Text:=(gD v1 v11).Text }:ae)]:List ae) (new:=[aD ({ bo with Kind:=2,Y:=v10,W:=v3,H:=v2.LineHeight,Text:=(gD v1 v11).Text }:ae)]) (by simp only[List.map_cons,List.map_nil,bN])) (aj (gw (m:=0) (cT 35 35 51 67 ax (rfl) (eN) h18)) (aj (bQ 1) bW)))))) (ah 1 (CK hK hL1 h))
  ·exact ai 22 h16 (ah 2 (CK hK hL1 h))
 ·refine ai 14 h13 (aJ 8 ?_);cases h;exact vL
theorem Hf(hK:aq K)(m:Nat):vC M w0 r v1 v2 v3 m (pD K n v1 v2 v3 m):=by
 induction m with
 | zero=>intro v10 v11 v12 h;cases h
 | succ m ih=>intro v10 v11 v12 h;have h:pG K n v1 v2 v3 (pD K n v1 v2 v3 m) v10 v11 v12=some r:=h;exact bt (F7 hK ih h)
theorem GS(hK:aq K)(h:wg K n v1 v2 v3=some r):aS Tryd.prog 19 [.sl (lm aW v1),.agg (aG v2),iI v3] (fun v s=>v=.tup [.ref 35,iI r.2]∧look 35 s.r=some ⟨51,67,lm ax r.1⟩):=by
 refine bl (cat Tryd.f19 (pn 1)) Tryd.func19 Tryd.ntmps19 fun M w0=>(bi ⟨[(0,.sl (lm aW v1)),(1,.agg (aG v2)),(2,iI v3)],[],[],[]⟩ ?_);unfold wg at h;exact iS 122 0 31 10 (bU [0,2,4,8,9,10] [4] [] (gA 35 8 51 67 (ah 0 (cH (p:=pn 122) n (Hf hK n h)))))
end
noncomputable section
variable(M:Nat→Prop)(w0:aC)(r:Int×Int)(v1:List au)(v2:aH)(v3 v4 v5:Int)(m1:Nat)(L1:Int→Int→Int→Option (Int×Int))
abbrev sP:Cx:=⟨Tryd.prog,31,M,w0⟩
abbrev uh:=bodyPost Tryd.prog Tryd.f20 (bu M w0 (fun v _=>v=.tup [iI r.1,iI r.2]))
abbrev ID(ks:List av)(s:AS):=VE (sP M w0) (uh M w0 r) ks .normal s
abbrev xy(n:Nat):av:=.c (cat Tryd.f20 (pn n))
abbrev uW:List av:=[.b 0,xy 31]
abbrev JF:List av:=kl (sP M w0) (uh M w0 r) uW (cat Tryd.f20 (pn 244)) m1::uW
def zy:AS:=⟨[(0,.sl (lm aW v1)),(6,iI v3),(7,iI v4),(8,iI v5)],[],[],[]⟩
abbrev w7:Prop:=∀{v3:Int} {v4:Int} {v5:Int},L1 v3 v4 v5=some r→LP (sP M w0) (uh M w0 r) uW (cat Tryd.f20 (pn 244)) m1 (zy v1 v3 v4 v5)
variable{M w0 r v1 v2 v3 v4 v5 m1 L1}{K:Kn}{n:Nat}
theorem Il(hK:aq K)(hL1:w7 M w0 r v1 m1 L1)(h:oN K n v1 L1 v3 v4 v5=some r):ID M w0 r (xy 244::JF M w0 r m1) (zy v1 v3 v4 v5):=by
 unfold oN at h;refine cj 4 5 3 2 (am 2 (aF (bE aW v1) (ac ?_)));obtain⟨h3,h⟩|⟨h3,h⟩:=ak h
 ·refine ai 13 h3 (dv 8 9 1 3 5 (am 2 ?_));obtain⟨h4,h⟩:=aU h;exact aF (bO aW aZ h4 (fL) (ep)) (ac (ah 5 (bB (hL1 h))))
 ·refine ai 13 h3 (aJ 8 ?_);cases h;exact fT
theorem Lh(hK:aq K)(m:Nat):w7 M w0 r v1 m (pi K n v1 m):=by
 induction m with
 | zero=>intro v3 v4 v5 h;cases h
 | succ m ih=>intro v3 v4 v5 h;have h:oN K n v1 (pi K n v1 m) v3 v4 v5=some r:=h;exact bt (Il hK ih h)
theorem Jh(hK:aq K)(h:tP K n v1 v2=some r):aS Tryd.prog 20 [.sl (lm aW v1),.agg (aG v2)] (fun v _=>v=.tup [iI r.1,iI r.2]):=by
 refine bl (cat Tryd.f20 (pn 1)) Tryd.func20 Tryd.ntmps20 fun M w0=>(bi ⟨[(0,.sl (lm aW v1)),(1,.agg (aG v2))],[],[],[]⟩ ?_);unfold tP at h;exact ah 10 (cH (p:=pn 122) n (Lh hK n h))
end
end Go.Proofs.YtnpmlepplfaijaaDoor

/- The runs of the functions that InlineRuns reaches do what their plain forms say, part 1. Made by a program. -/
import Derived.Test.YtnpmlepplfaijaaGreatIrGk
import Derived.Test.YtnpmlepplfaijaaGreatIrP0
namespace Go.Proofs.YtnpmlepplfaijaaGreat
open Go.RowKit
set_option maxRecDepth 20000
set_option linter.all false
set_option linter.unusedVariables false
set_option linter.unusedSimpArgs false
noncomputable section
variable(M:Nat→Prop)(w0:aH)(r:ae)(v1:aj)(v2:aP)(v3 v4:Bool)(v5:cA)(v6:(List aj)×Bool)(v9:Int)(v10:List ae)(v15:Int)(v16:Bool)(v17 v18:au)(v19:List ae)(v20 v21:au)(v23:Bool)(v25:Int)(v26:au)(v27:Bool)(v32:Int)(v33 v34:au)(v35:Bool)(v36:Int×Bool)(v37:Bool)(v38 v39 v40 v47:Int)(v48 v50:(List ae))(v52:Bool)(v54:List ae)(m1 m2:Nat)(L1 L2:Int→(List ae)→Option ae)
abbrev rG:Cx:=⟨Tryz.prog,259,M,w0⟩
abbrev rq:=bodyPost Tryz.prog Tryz.f59 (bq M w0 (fun v s=>v=.agg (List.set (aF ({ r with Kids:=[] }:ae)) 66 (.ref 1054))∧look 1054 s.r=some ⟨59,67,lm aC r.Kids⟩))
abbrev gS(ks:List av)(s:AS):=VE (rG M w0) (rq M w0 r) ks .normal s
abbrev cV(n:Nat):av:=.c (cat Tryz.f59 (pn n))
abbrev AL:List av:=[.b 4,cV 131071]
abbrev tq:List av:=kl (rG M w0) (rq M w0 r) AL (cat Tryz.f59 (pn 1048564)) m2::AL
abbrev Bp:List av:=[.b 0,cV 4075,cV 255]
abbrev Vj:List av:=kl (rG M w0) (rq M w0 r) Bp (cat Tryz.f59 (pn 32596)) m1::Bp
def O9:AS:=⟨[(6,.ptr 6 0),(10,.ptr 10 0),(11,.ptr 11 0),(12,.sl (lm aO v6.1)),(13,.bool v6.2),(15,iI v25),(199,iI (v19.length:Int)),(200,iI v47)],[(6,bg v2),(10,List.set (aF bp) 66 (.nils)),(11,List.set (aF (⟨1,v1.Node,v2.Margin.a3,0,(ab (v2.Content+v39)),v40,0,⟨#[]⟩,v1.Style,v33,v34,v35,[]⟩:ae)) 66 (.ref 1054))],[(1054,⟨59,67,lm aC v54⟩)],[6,10,11,1054]⟩
def Pd:AS:=⟨[(6,.ptr 6 0),(10,.ptr 10 0),(11,.ptr 11 0),(12,.sl (lm aO v6.1)),(13,.bool v6.2),(15,iI v25),(24,iI v47),(199,iI (v19.length:Int)),(200,iI v47),(244,.bool v52)],[(6,bg v2),(10,List.set (aF bp) 66 (.nils)),(11,List.set (aF (⟨1,v1.Node,v2.Margin.a3,0,(ab (v2.Content+v39)),v40,0,⟨#[]⟩,v1.Style,v33,v34,v35,[]⟩:ae)) 66 (.ref 1054))],[(1054,⟨59,67,lm aC v50⟩)],[6,10,11,1054]⟩
def El:AS:=⟨[(6,.ptr 6 0),(10,.ptr 10 0),(11,.ptr 11 0),(12,.sl (lm aO v6.1)),(13,.bool v6.2),(15,iI v25),(199,iI (v19.length:Int)),(200,iI v47)],[(6,bg v2),(10,List.set (aF bp) 66 (.nils)),(11,List.set (aF (⟨1,v1.Node,v2.Margin.a3,0,(ab (v2.Content+v39)),v40,0,⟨#[]⟩,v1.Style,v33,v34,v35,[]⟩:ae)) 66 (.ref 1054))],[(1054,⟨59,67,lm aC v48⟩)],[6,10,11,1054]⟩
def T5:AS:=⟨[(6,.ptr 6 0),(10,.ptr 10 0),(11,.ptr 11 0),(12,.sl (lm aO v6.1)),(13,.bool v6.2),(14,iI v38),(15,iI v25)],[(6,bg v2),(10,List.set (aF bp) 66 (.nils)),(11,List.set (aF ({ bp with Kind:=1,Node:=v1.Node,Style:=v1.Style,Before:=v33,After:=v34,Empty:=v35 }:ae)) 66 (.ref 1054))],[(1054,⟨59,67,lm aC v19⟩)],[6,10,11,1054]⟩
def LD:AS:=⟨[(6,.ptr 6 0),(10,.ptr 10 0),(11,.ptr 11 0),(12,.sl (lm aO v6.1)),(13,.bool v6.2),(14,iI (max v32 0)),(15,iI v25),(22,iI v36.1),(166,.bool v37)],[(6,bg v2),(10,List.set (aF bp) 66 (.nils)),(11,List.set (aF ({ bp with Kind:=1,Node:=v1.Node,Style:=v1.Style,Before:=v33,After:=v34,Empty:=v35 }:ae)) 66 (.ref 1054))],[(1054,⟨59,67,lm aC v19⟩)],[6,10,11,1054]⟩
def Mc:AS:=⟨[(5,.ptr 5 0),(6,.ptr 6 0),(10,.ptr 10 0),(11,.ptr 11 0),(12,.sl (lm aO v6.1)),(13,.bool v6.2),(14,iI v32),(15,iI v25)],[(5,aV v1),(6,bg v2),(10,List.set (aF bp) 66 (.nils)),(11,List.set (aF ({ bp with Kind:=1,Node:=v1.Node,Style:=v1.Style,Before:=v33,After:=v34,Empty:=v35 }:ae)) 66 (.ref 1054))],[(1054,⟨59,67,lm aC v19⟩)],[5,6,10,11,1054]⟩
def PO:AS:=⟨[(3,.bool v4),(5,.ptr 5 0),(6,.ptr 6 0),(10,.ptr 10 0),(11,.ptr 11 0),(12,.sl (lm aO v6.1)),(13,.bool v6.2),(14,iI v15),(15,iI v25),(16,.ptr 16 0),(17,.ptr 17 0),(18,.bool v16),(113,.bool v27)],[(5,aV v1),(6,bg v2),(10,List.set (aF bp) 66 (.nils)),(11,List.set (aF ({ bp with Kind:=1,Node:=v1.Node,Style:=v1.Style,Before:=v26,After:=v21 }:ae)) 66 (.ref 1054)),(16,bI v17),(17,bI v18)],[(1054,⟨59,67,lm aC v19⟩)],[5,6,10,11,16,17,1054]⟩
def Pm:AS:=⟨[(2,.bool v3),(3,.bool v4),(5,.ptr 5 0),(6,.ptr 6 0),(10,.ptr 10 0),(11,.ptr 11 0),(12,.sl (lm aO v6.1)),(13,.bool v6.2),(14,iI v15),(15,iI v25),(16,.ptr 16 0),(17,.ptr 17 0),(18,.bool v16)],[(5,aV v1),(6,bg v2),(10,List.set (aF bp) 66 (.nils)),(11,List.set (aF ({ bp with Kind:=1,Node:=v1.Node,Style:=v1.Style,Before:=v26,After:=v21 }:ae)) 66 (.ref 1054)),(16,bI v17),(17,bI v18)],[(1054,⟨59,67,lm aC v19⟩)],[5,6,10,11,16,17,1054]⟩
def VQ:AS:=⟨[(2,.bool v3),(3,.bool v4),(5,.ptr 5 0),(6,.ptr 6 0),(10,.ptr 10 0),(11,.ptr 11 0),(12,.sl (lm aO v6.1)),(13,.bool v6.2),(14,iI v15),(15,iI 0),(16,.ptr 16 0),(17,.ptr 17 0),(18,.bool v16),(98,.bool v23)],[(5,aV v1),(6,bg v2),(10,List.set (aF bp) 66 (.nils)),(11,List.set (aF ({ bp with Kind:=1,Node:=v1.Node,Style:=v1.Style,Before:=v20,After:=v21 }:ae)) 66 (.ref 1054)),(16,bI v17),(17,bI v18)],[(1054,⟨59,67,lm aC v19⟩)],[5,6,10,11,16,17,1054]⟩
def Rb:AS:=⟨[(2,.bool v3),(3,.bool v4),(5,.ptr 5 0),(6,.ptr 6 0),(10,.ptr 10 0),(11,.ptr 11 0),(12,.sl (lm aO v6.1)),(13,.bool v6.2),(14,iI v15),(15,iI 0),(16,.ptr 16 0),(17,.ptr 17 0),(18,.bool v16)],[(5,aV v1),(6,bg v2),(10,List.set (aF bp) 66 (.nils)),(11,List.set (aF ({ bp with Kind:=1,Node:=v1.Node,Style:=v1.Style }:ae)) 66 (.ref 1054)),(16,bI v17),(17,bI v18)],[(1054,⟨59,67,lm aC v19⟩)],[5,6,10,11,16,17,1054]⟩
def Jl:AS:=⟨[(2,.bool v3),(3,.bool v4),(5,.ptr 5 0),(6,.ptr 6 0),(9,.ptr 9 0),(10,.ptr 10 0),(11,.ptr 11 0),(12,.sl (lm aO v6.1)),(13,.bool v6.2),(15,iI 0),(16,.ptr 16 0),(17,.ptr 17 0),(19,.ref 50),(36,.sl (lm aO v6.1)),(37,iI (v6.1.length:Int)),(38,iI v9)],[(5,aV v1),(6,bg v2),(9,cR v5),(10,List.set (aF bp) 66 (.nils)),(11,List.set (aF ({ bp with Kind:=1,Node:=v1.Node,Style:=v1.Style }:ae)) 66 (.nils)),(16,bI cp),(17,bI cp)],[(50,⟨59,67,lm aC v10⟩)],[5,6,9,10,11,16,17,50]⟩
abbrev D1:Prop:=∀{v9:Int} {v10:(List ae)},L1 v9 v10=some r→LP (rG M w0) (rq M w0 r) Bp (cat Tryz.f59 (pn 32596)) m1 (Jl v1 v2 v3 v4 v5 v6 v9 v10)
abbrev vD:Prop:=∀{v47:Int} {v48:(List ae)},L2 v47 v48=some r→LP (rG M w0) (rq M w0 r) AL (cat Tryz.f59 (pn 1048564)) m2 (El v1 v2 v6 v19 v25 v33 v34 v35 v39 v40 v47 v48)
variable{M w0 r v1 v2 v3 v4 v5 v6 v9 v10 v15 v16 v17 v18 v19 v20 v21 v23 v25 v26 v27 v32 v33 v34 v35 v36 v37 v38 v39 v40 v47 v48 v50 v52 v54 m1 m2 L1 L2}{K:Kn}{n:Nat}
theorem Gv(hK:aq K)(hL2:vD M w0 r v1 v2 v6 v19 v25 v33 v34 v35 v39 v40 m2 L2)(h:qS K n v1 v2 v6 v19 v25 v33 v34 v35 v39 v40 v47 L2 v54=some r):gS M w0 r (.b 5::cV 8388519::tq M w0 r m2) (O9 v1 v2 v6 v19 v25 v33 v34 v35 v39 v40 v47 v54):=by
 unfold qS at h;exact ag 2 (bu (hL2 h))
theorem H5(hK:aq K)(hL2:vD M w0 r v1 v2 v6 v19 v25 v33 v34 v35 v39 v40 m2 L2)(h:pg K n v1 v2 v6 v19 v25 v33 v34 v35 v39 v40 v47 v50 L2 v52=some r):gS M w0 r (cV 268432591 :: .b 5::cV 8388519::tq M w0 r m2) (Pd v1 v2 v6 v19 v25 v33 v34 v35 v39 v40 v47 v50 v52):=by
 unfold pg at h;obtain⟨h64,h⟩|⟨h64,h⟩:=am h
 ·refine ai 244 h64 (bd 2 1 (bJ [6,10,11,12,13,15,24,199,200] [6,10,11] [1054] ?_));obtain⟨h65,h⟩:=aS h;obtain⟨v53,h66,h⟩:=bind_some h;obtain⟨h67,h⟩:=aS h;exact bD 1 (nu 245 [.ptr 11 66,.ref 1054,iI v47,.ptr 11 66,.ref 1054,iI v47,.eptr 1054 67 (v47.toNat) 0,.agg (aF (gD v50 v47)),.ptr 6 12,iI v2.Content,.agg (aF v53),.eptr 1054 67 (v47.toNat) 0]) [] [] [qx 1054 ⟨59,67,lm aC (List.set v50 v47.toNat v53)⟩] (ao (vz 6) (bC (dx 1054 67 aC (L:=v50) h65) (bC (ci 59 0 aC aF (ca h67).2 (cQ)) (ao (vz 2) (aa (bL 0 1 255 (Fg hK h66)) (bC (dx 1054 67 aC (L:=v50) h67) (aa (gv (m:=0) (ug 1054 59 67 0 aC aF v53 (ca h67).2 (cQ))) bE))))))) (ag 0 (Gv hK hL2 h))
 ·exact ai 244 h64 (ag 2 (Gv hK hL2 h))
theorem JL(hK:aq K)(hL2:vD M w0 r v1 v2 v6 v19 v25 v33 v34 v35 v39 v40 m2 L2)(h:nP K n v1 v2 v6 v19 v25 v33 v34 v35 v39 v40 L2 v47 v48=some r):gS M w0 r (cV 1048564::tq M w0 r m2) (El v1 v2 v6 v19 v25 v33 v34 v35 v39 v40 v47 v48):=by
 unfold nP at h;refine aw 6 7 3 ?_;obtain⟨h54,h⟩|⟨h54,h⟩:=am h
 ·refine ai 201 h54 (cN 18 19 5 3 7 (bJ [6,10,11,12,13,15,24,199,200] [6,10,11] [1054] ?_));obtain⟨h55,h⟩:=aS h;obtain⟨h56,h⟩:=aS h;refine bD 1 (nu 203 [.ptr 11 66,.ref 1054,iI v47,.eptr 1054 67 (v47.toNat) 0,.eptr 1054 67 (v47.toNat) 2,iI ((gD v48 v47).X),.ptr 6 4,.ptr 6 7,iI v2.Border.a3,.ptr 6 8,.ptr 6 11,iI v2.Padding.a3,iI (ab (v2.Border.a3+v2.Padding.a3)),iI (ab (((gD v48 v47).X)+(ab (v2.Border.a3+v2.Padding.a3)))),.eptr 1054 67 (v47.toNat) 0,.eptr 1054 67 (v47.toNat) 2]) [] [] [qx 1054 ⟨59,67,lm aC (List.set v48 v47.toNat ({ (gD v48 v47)with X:=(ab (((gD v48 v47).X)+(ab (v2.Border.a3+v2.Padding.a3)))) }:ae))⟩] (ao (vz 3) (bC (dx 1054 67 aC (L:=v48) h55) (ao [.v 0 1] (bC (ci 3 2 aC aF (ca h56).2 (cQ)) (ao (vz 8) (aa (hI (lo:=0) (k:=2) (eo ⟨(by kernel_rfl),(eI (dx 1054 67 aC (L:=v48) h56) (by kernel_rfl))⟩ (eo ⟨(by kernel_rfl),(eI (dx 1054 67 aC (L:=(List.set v48 v47.toNat ({ (gD v48 v47)with X:=(ab (((gD v48 v47).X)+(ab (v2.Border.a3+v2.Padding.a3)))) }:ae))) h56) (by kernel_rfl))⟩ iQ))) (ao [.v 0 1] (aa (gv (m:=0) (ug 1054 59 67 2 aC aF ({ (gD v48 v47)with X:=(ab (((gD v48 v47).X)+(ab (v2.Border.a3+v2.Padding.a3)))) }:ae) (ca h56).2 (cQ))) bE)))))))) ?_
  obtain⟨v49,h57,h⟩:=bW h;refine bB (ks':=cV 134216294::cV 134216295 :: .b 5::cV 8388519::tq M w0 r m2) 1 ⟨[(6,.ptr 6 0),(10,.ptr 10 0),(11,.ptr 11 0),(12,.sl (lm aO v6.1)),(13,.bool v6.2),(15,iI v25),(24,iI v47),(199,iI (v19.length:Int)),(200,iI v47)],[(6,bg v2),(10,List.set (aF bp) 66 (.nils)),(11,List.set (aF (⟨1,v1.Node,v2.Margin.a3,0,(ab (v2.Content+v39)),v40,0,⟨#[]⟩,v1.Style,v33,v34,v35,[]⟩:ae)) 66 (.ref 1054))],[(1054,⟨59,67,lm aC v49⟩)],[6,10,11,1054]⟩ ?_ (by subst h57;kernel_rfl);obtain⟨h58,h⟩:=aS h;obtain⟨h59,h⟩:=aS h;refine bD 1 (nu 219 [.ptr 11 66,.ref 1054,iI v47,.eptr 1054 67 (v47.toNat) 0,.eptr 1054 67 (v47.toNat) 3,iI ((gD v49 v47).Y),.ptr 6 4,.ptr 6 4,iI v2.Border.a0,.ptr 6 8,.ptr 6 8,iI v2.Padding.a0,iI (ab (v2.Border.a0+v2.Padding.a0)),iI v25,iI (ab ((ab (v2.Border.a0+v2.Padding.a0))+v25)),iI (ab (((gD v49 v47).Y)+(ab ((ab (v2.Border.a0+v2.Padding.a0))+v25)))),.eptr 1054 67 (v47.toNat) 0,.eptr 1054 67 (v47.toNat) 3]) [] [] [qx 1054 ⟨59,67,lm aC (List.set v49 v47.toNat ({ (gD v49 v47)with Y:=(ab (((gD v49 v47).Y)+(ab ((ab (v2.Border.a0+v2.Padding.a0))+v25)))) }:ae))⟩] (ao (vz 3) (bC (dx 1054 67 aC (L:=v49) h58) (ao [.v 0 1] (bC (ci 3 3 aC aF (ca h59).2 (cQ)) (ao (vz 10) (aa (hI (lo:=0) (k:=2) (eo ⟨(by kernel_rfl),(eI (dx 1054 67 aC (L:=v49) h59) (by kernel_rfl))⟩ (eo ⟨(by kernel_rfl),(eI (dx 1054 67 aC (L:=(List.set v49 v47.toNat ({ (gD v49 v47)with Y:=(ab (((gD v49 v47).Y)+(ab ((ab (v2.Border.a0+v2.Padding.a0))+v25)))) }:ae))) h59) (by kernel_rfl))⟩ iQ))) (ao [.v 0 1] (aa (gv (m:=0) (ug 1054 59 67 3 aC aF ({ (gD v49 v47)with Y:=(ab (((gD v49 v47).Y)+(ab ((ab (v2.Border.a0+v2.Padding.a0))+v25)))) }:ae) (ca h59).2 (cQ))) bE)))))))) ?_
  obtain⟨v50,h60,h⟩:=bW h;refine bB (ks':=cV 268432590::cV 268432591 :: .b 5::cV 8388519::tq M w0 r m2) 1 ⟨[(6,.ptr 6 0),(10,.ptr 10 0),(11,.ptr 11 0),(12,.sl (lm aO v6.1)),(13,.bool v6.2),(15,iI v25),(24,iI v47),(199,iI (v19.length:Int)),(200,iI v47)],[(6,bg v2),(10,List.set (aF bp) 66 (.nils)),(11,List.set (aF (⟨1,v1.Node,v2.Margin.a3,0,(ab (v2.Content+v39)),v40,0,⟨#[]⟩,v1.Style,v33,v34,v35,[]⟩:ae)) 66 (.ref 1054))],[(1054,⟨59,67,lm aC v50⟩)],[6,10,11,1054]⟩ ?_ (by subst h60;kernel_rfl);refine ak 2 ?_;obtain⟨h61,h⟩|⟨h61,h⟩:=am h
  ·refine ay 238 h61 (aL 4 2 ?_);obtain⟨h62,h⟩:=aS h;refine aA (bM aO aV h62 (eC) (dp)) (aL 6 1 ?_);obtain⟨v51,h63,h⟩:=bind_some h;exact aB (F3 hK h63) (ac (ag 0 (H5 hK hL2 h)))
  ·exact ay 238 h61 (ac (ag 0 (H5 hK hL2 h)))
 ·refine ai 201 h54 (aG 8 ?_);cases h;exact eg
theorem Ls(hK:aq K)(m:Nat):vD M w0 r v1 v2 v6 v19 v25 v33 v34 v35 v39 v40 m (kO K n v1 v2 v6 v19 v25 v33 v34 v35 v39 v40 m):=by
 induction m with
 | zero=>intro v47 v48 h;cases h
 | succ m ih=>intro v47 v48 h;have h:nP K n v1 v2 v6 v19 v25 v33 v34 v35 v39 v40 (kO K n v1 v2 v6 v19 v25 v33 v34 v35 v39 v40 m) v47 v48=some r:=h;exact br (JL hK ih h)
theorem Eg(hK:aq K)(h:mW K n v1 v2 v6 v19 v25 v33 v34 v35 v38=some r):gS M w0 r [cV 8191] (T5 v1 v2 v6 v19 v25 v33 v34 v35 v38):=by
 unfold mW at h;refine aw 6 7 3 (bJ [6,10,11,12,13,14,15] [6,10,11] [1054] ?_);obtain⟨v39,h38,h⟩:=bind_some h;refine bD 1 (nu 173 [.ptr 6 12,iI v2.Content,.agg (bg v2),iI v39,iI (ab (v2.Content+v39)),.ptr 11 4]) [] [] [bT Tryz.prog 259 Tryz.f59 (pn 32766) 6] (ao (vz 3) (aa (bL 0 1 176 (SF hK h38)) (ao (vz 2) (aa (bU 0) bE)))) ?_;obtain⟨v40,h39,h⟩:=bW h;refine bB (ks':=[cV 262140,cV 262141,cV 131071]) 4 ⟨[(6,.ptr 6 0),(10,.ptr 10 0),(11,.ptr 11 0),(12,.sl (lm aO v6.1)),(13,.bool v6.2),(15,iI v25)],[(6,bg v2),(10,List.set (aF bp) 66 (.nils)),(11,List.set (aF (⟨1,v1.Node,v2.Margin.a3,0,(ab (v2.Content+v39)),v40,0,⟨#[]⟩,v1.Style,v33,v34,v35,[]⟩:ae)) 66 (.ref 1054))],[(1054,⟨59,67,lm aC v19⟩)],[6,10,11,1054]⟩ ?_ (by subst h39;kernel_rfl);exact ak 2 (aA (bz aC v19) (ac (ag 1 (cm (p:=pn 524282) n (Ls hK n h)))))
theorem Ek(hK:aq K)(h:pE K n v1 v2 v6 v19 v25 v32 v33 v34 v35 v36 v37=some r):gS M w0 r [cV 32763,cV 8191] (LD v1 v2 v6 v19 v25 v32 v33 v34 v35 v36 v37):=by
 unfold pE at h;obtain⟨h37,h⟩|⟨h37,h⟩:=am h
 ·exact ai 166 h37 (ag 2 (Eg hK h))
 ·exact ai 166 h37 (ag 2 (Eg hK h))
theorem sF(hK:aq K)(h:gH K n v1 v2 v6 v19 v25 v32 v33 v34 v35=some r):gS M w0 r [.b 3,cV 2047] (Mc v1 v2 v6 v19 v25 v32 v33 v34 v35):=by
 unfold gH at h;refine gp 12 13 7 5 (ak 3 ?_);obtain⟨v36,h35,h⟩:=bind_some h;refine aB (ef hK h35) (ac (aw 2 3 1 (ak 2 ?_)));obtain⟨h36,h⟩|⟨h36,h⟩:=am h
 ·exact ay 160 h36 (ac (ag 0 (Ek hK h)))
 ·exact ay 160 h36 (ac (ag 0 (Ek hK h)))
theorem xT(hK:aq K)(h:kU K n v1 v2 v4 v6 v15 v16 v17 v18 v19 v21 v25 v26 v27=some r):gS M w0 r [cV 8185,.b 3,cV 2047] (PO v1 v2 v4 v6 v15 v16 v17 v18 v19 v21 v25 v26 v27):=by
 unfold kU at h;obtain⟨h27,h⟩|⟨h27,h⟩:=am h
 ·refine ai 113 h27 (aw 4 5 2 (ak 4 ?_));obtain⟨v28,h28,h⟩:=bind_some h;exact aB (tr hK h28) (ac (ag 5 (sF hK h)))
 ·refine ai 113 h27 (bd 7 3 ?_);obtain⟨h29,h⟩|⟨h29,h⟩:=am h
  ·refine ai 131 h29 (bd 11 5 ?_);obtain⟨h30,h⟩|⟨h30,h⟩:=am h
   ·refine ai 134 h30 (bd 2 1 (ak 3 ?_));obtain⟨v29,h31,h⟩:=bind_some h;exact aB (tr hK h31) (ac (ag 0 (sF hK h)))
   ·exact ai 134 h30 (ag 2 (sF hK h))
  ·refine ai 131 h29 (bd 7 3 ?_);obtain⟨h32,h⟩|⟨h32,h⟩:=am h
   ·refine ai 140 h32 (aw 4 5 2 (ak 3 ?_));obtain⟨v30,h33,h⟩:=bind_some h;exact aB (tr hK h33) (ac (ag 1 (sF hK h)))
   ·refine ai 140 h32 (bd 3 1 (ak 3 ?_));obtain⟨v31,h34,h⟩:=bind_some h;exact aB (pu hK h34) (ac (ag 0 (sF hK h)))
theorem AG(hK:aq K)(h:lB K n v1 v2 v3 v4 v6 v15 v16 v17 v18 v19 v21 v25 v26=some r):gS M w0 r [.b 2,cV 1023] (Pm v1 v2 v3 v4 v6 v15 v16 v17 v18 v19 v21 v25 v26):=by
 unfold lB at h;refine cN 8 9 3 3 4 (ak 2 ?_);obtain⟨h25,h⟩|⟨h25,h⟩:=am h
 ·refine ay 115 h25 (aL 5 3 ?_);obtain⟨h26,h⟩|⟨h26,h⟩:=am h
  ·exact ay 118 h26 (ac (ag 0 (xT hK h)))
  ·exact ay 118 h26 (ac (ag 0 (xT hK h)))
 ·exact ay 115 h25 (ac (ag 0 (xT hK h)))
theorem Ck(hK:aq K)(h:nV K n v1 v2 v3 v4 v6 v15 v16 v17 v18 v19 v20 v21 v23=some r):gS M w0 r [cV 16359,.b 2,cV 1023] (VQ v1 v2 v3 v4 v6 v15 v16 v17 v18 v19 v20 v21 v23):=by
 unfold nV at h;obtain⟨h23,h⟩|⟨h23,h⟩:=am h
 ·refine ai 98 h23 (bd 2 1 (ak 1 ?_));obtain⟨v24,h24,h⟩:=bind_some h;exact aB (pu hK h24) (ac (ag 0 (AG hK h)))
 ·exact ai 98 h23 (ag 2 (AG hK h))
theorem HH(hK:aq K)(h:kh K n v1 v2 v3 v4 v6 v15 v16 v17 v18 v19=some r):gS M w0 r [cV 255] (Rb v1 v2 v3 v4 v6 v15 v16 v17 v18 v19):=by
 unfold kh at h;refine aw 2 3 1 (bJ [2,3,5,6,10,11,12,13,14,15,16,17,18] [5,6,10,11,16,17] [1054] ?_);obtain⟨v20,h18,h⟩:=bind_some h;obtain⟨v21,h19,h⟩:=bind_some h;refine bD 2 (nu 81 [.ptr 6 0,.ptr 6 0,iI v2.Margin.a0,.agg (bI v20),.ptr 6 0,.ptr 6 2,iI v2.Margin.a2,.agg (bI v21),.ptr 11 61,.ptr 11 63]) [] [] [bT Tryz.prog 259 Tryz.f59 (pn 510) 9,bT Tryz.prog 259 Tryz.f59 (pn 510) 11] (ao (vz 3) (aa (bL 0 1 84 (Hs hK h18)) (ao [.v 0 2,.v 0 2,.v 0 2] (aa (bL 0 1 88 (Hs hK h19)) (ao [.v 0 1] (aa (bU 0) (ao [.v 1 1] (aa (bU 1) bE)))))))) (fp 9 2 3 4 ?_);obtain⟨h20,h⟩|⟨h20,h⟩:=am h
 ·refine ai 91 h20 (bd 2 1 (ak 3 ?_));obtain⟨v22,h21,h⟩:=bind_some h;exact aB (tr hK h21) (ac (ag 0 (AG hK h)))
 ·refine ai 91 h20 (aw 6 7 2 (ak 3 ?_));obtain⟨h22,h⟩|⟨h22,h⟩:=am h
  ·exact ay 101 h22 (ac (ag 0 (Ck hK h)))
  ·exact ay 101 h22 (ac (ag 0 (Ck hK h)))
theorem MN(hK:aq K)(hL1:D1 M w0 r v1 v2 v3 v4 v5 v6 m1 L1)(h:tK K n v1 v2 v3 v4 v5 v6 L1 v9 v10=some r):gS M w0 r (cV 32596::Vj M w0 r m1) (Jl v1 v2 v3 v4 v5 v6 v9 v10):=by
 unfold tK at h;refine aw 6 7 3 ?_;obtain⟨h11,h⟩|⟨h11,h⟩:=am h
 ·refine ai 39 h11 (cN 8 9 1 3 5 (ak 0 ?_));obtain⟨h12,h⟩:=aS h;refine aA (bM aO aV h12 (eC) (dp)) (ac (ak 6 ?_));obtain⟨v11,h13,h⟩:=bind_some h;refine pc (hK.mM h13) (aA (eV aC ([v11]:List ae) (new:=[aF v11]) (by simp only[List.map_cons,List.map_nil,cQ])) ?_);obtain⟨h14,h⟩:=aS h;exact aA (cy 50 50 59 67 aC (rfl) (dP) h14) (ac (ag 2 (bu (hL1 h))))
 ·refine ai 39 h11 (cr (ks':=[cV 4075,cV 255]) 5 (ak 1 (kA 50 ?_)));obtain⟨v12,h15,h⟩:=bind_some h;exact dE 1054 (KX hK h15) (rd (i:=0) rfl) (ac (ag 0 (HH hK h)))
theorem Mw(hK:aq K)(m:Nat):D1 M w0 r v1 v2 v3 v4 v5 v6 m (n4 K n v1 v2 v3 v4 v5 v6 m):=by
 induction m with
 | zero=>intro v9 v10 h;cases h
 | succ m ih=>intro v9 v10 h;have h:tK K n v1 v2 v3 v4 v5 v6 (n4 K n v1 v2 v3 v4 v5 v6 m) v9 v10=some r:=h;exact br (MN hK ih h)
theorem DQ(hK:aq K)(h:li K n v1 v2 v3 v4 v5=some r):aN Tryz.prog 59 [.agg (aV v1),.agg (bg v2),.bool v3,.bool v4,.agg (cR v5)] (fun v s=>v=.agg (List.set (aF ({ r with Kids:=[] }:ae)) 66 (.ref 1054))∧look 1054 s.r=some ⟨59,67,lm aC r.Kids⟩):=by
 refine bc (cat Tryz.f59 (pn 1)) Tryz.func59 Tryz.ntmps59 fun M w0=>(aZ ⟨[(0,.agg (aV v1)),(1,.agg (bg v2)),(2,.bool v3),(3,.bool v4),(4,.agg (cR v5))],[],[],[]⟩ ?_);unfold li at h;refine aw 14 15 5 (ak 1 ?_);obtain⟨v6,h1,h⟩:=bind_some h;refine aB (FZ hK h1) (ac (aw 61 31 9 ?_));obtain⟨h2,h⟩|⟨h2,h⟩:=am h
 ·exact ai 35 h2 (bP 20 21 11 5 (ak 1 (aA (bz aO v6.1) (ac (iD 2 0 1 (bJ [2,3,5,6,9,10,11,12,13,15,16,17,19,36,37,38] [5,6,9,10,11,16,17] [] (fk 50 19 59 67 (ag 0 (cm (p:=pn 16298) n (Mw hK n h))))))))))
 ·refine ai 35 h2 (aw 6 7 2 (ak 7 ?_));obtain⟨v13,h16,h⟩:=bind_some h;refine pc (hK.pL h16) (ac (aw 2 3 1 (ak 2 ?_)));obtain⟨v14,h17,h⟩:=bind_some h;exact dE 1075 (PT hK h17) (fm 5) (ac (ak 2 (aA (bz aC v14) (ac (bJ [2,3,5,6,10,11,12,13,14,15,16,17,18] [5,6,10,11,16,17] [1075] (GF 1075 1054 (ag 0 (HH hK h))))))))
end
noncomputable section
variable(M:Nat→Prop)(w0:aH)(r:ae)(v1:aj)(v2:aP)(v3:cA)  
variable{M w0 r v1 v2 v3}{K:Kn}{n:Nat}
theorem MW(hK:aq K)(h:nS K n v1 v2 v3=some r):aN Tryz.prog 27 [.agg (aV v1),.agg (bg v2),.agg (cR v3)] (fun v s=>v=.agg (List.set (aF ({ r with Kids:=[] }:ae)) 66 (.ref 1010))∧look 1010 s.r=some ⟨59,67,lm aC r.Kids⟩):=by
 refine bc (cat Tryz.f27 (pn 1)) Tryz.func27 Tryz.ntmps27 fun M w0=>(aZ ⟨[(0,.agg (aV v1)),(1,.agg (bg v2)),(2,.agg (cR v3))],[],[],[]⟩ ?_);unfold nS at h;refine aw 6 7 3 (ak 3 ?_);obtain⟨v4,h1,h⟩:=bind_some h;refine dE 1010 (DQ hK h1) (nU (i:=66) (by kernel_rfl)) (ac (aG 1 ?_));cases h;exact eg
end
noncomputable section
variable(M:Nat→Prop)(w0:aH)(r:aM)(v1:aj)(v2:Int)(v3:cA)  
variable{M w0 r v1 v2 v3}{K:Kn}{n:Nat}
theorem Ro(hK:aq K)(h:km K n v1 v2 v3=some r):aN Tryz.prog 23 [.agg (aV v1),.cptr ([iI v2]),.cptr (cR v3)] (fun v _=>v=.agg (aY r)):=by
 refine bc (cat Tryz.f23 (pn 1)) Tryz.func23 Tryz.ntmps23 fun M w0=>(aZ ⟨[(0,.agg (aV v1)),(1,.cptr ([iI v2])),(2,.cptr (cR v3))],[],[],[]⟩ ?_);unfold km at h;refine aw 6 7 3 (bJ [1,2,3,4] [3,4] [] ?_);obtain⟨v4,h1,h⟩:=bind_some h;obtain⟨v5,h2,h⟩:=bind_some h;refine bD 1 (nu 7 [.ptr 3 2,.agg (aE v1.Style),iI v2,.agg (aV v1),iI v2,.agg (cR v3),iI v4,.agg (bg v5)]++nu 5 [.ptr 5 0]) [(5,bg dr)] [] [bT Tryz.prog 36 Tryz.f23 (pn 6) 9] (ao (vz 6) (aa (bL 0 1 13 (Lk hK h1)) (aa (bL 0 1 14 (sE hK h2)) (aa (nT 0 1 75 5 (bg dr)) (aa (bU 0) bE))))) (aw 2 3 1 (bJ [1,2,3,4,5] [3,4,5] [] ?_));obtain⟨v7,h4,h⟩:=bind_some h;obtain⟨v8,h5,h⟩:=bind_some h;refine bD 1 (nu 15 [.agg (aV v1),.agg (bg v5),.agg (cR v3),.agg (aF v7),iI v2,.agg (aF v8)]++nu 6 [.ptr 6 0]) [(6,List.set (aF bp) 66 (.nils))] [] [bT Tryz.prog 36 Tryz.f23 (pn 14) 7] (ao (vz 3) (aa (bL 0 1 18 (aN.bQ (MW hK h4) (V':=.agg (aF v7)) (by kernel_rfl))) (ao [.v 0 1] (aa (bL 0 1 20 (Fg hK h5)) (aa (nT 0 1 59 6 (List.set (aF bp) 66 (.nils))) (aa (bU 0) bE)))))) (aw 2 3 1 (bJ [4,5,6] [4,5,6] [] ?_))
 obtain⟨v9,h6,h⟩:=bind_some h;obtain⟨v10,h7,h⟩:=bind_some h;obtain⟨v11,h8,h⟩:=bind_some h;refine bD 1 (nu 21 [.agg (bg v5),iI v9,.ptr 6 5,iI v8.H,.ptr 6 61,.agg (bI v8.Before),iI v10,iI (ab (v8.H+v10)),.ptr 6 63,.agg (bI v8.After),iI v11,iI (ab ((ab (v8.H+v10))+v11)),.agg (aF v8),.sl (lm aC [v8]),.agg (aY ({ cO with Width:=v9,Above:=(ab ((ab (v8.H+v10))+v11)),Box:=[v8] }:aM))]) [] [] [bT Tryz.prog 36 Tryz.f23 (pn 30) 15] (ao [.v 0 1] (aa (bL 0 1 22 (qT hK h6)) (ao (vz 4) (aa (bL 0 1 27 (pu hK h7)) (ao (vz 3) (aa (bL 0 1 31 (pu hK h8)) (ao (vz 2) (bC (eV aC ([v8]:List ae) (new:=[aF v8]) (by simp only[List.map_cons,List.map_nil,cQ])) (ao [.v 0 1] (aa (bU 0) bE)))))))))) (aG 1 ?_);cases h;exact aU
end
noncomputable section
variable(M:Nat→Prop)(w0:aH)(r:List aM)(v1:List aj)(v2:Int)(v3:cA)  
variable{M w0 r v1 v2 v3}{K:Kn}{n:Nat}
theorem DA(hK:aq K)(h:mG K n v1 v2 v3=some r):aN Tryz.prog 8 [.sl (lm aO v1),iI v2,.agg (cR v3)] (fun v s=>v=.ref 1009∧look 1009 s.r=some ⟨46,62,lm aY r⟩):=by
 refine bc (cat Tryz.f8 (pn 1)) Tryz.func8 Tryz.ntmps8 fun M w0=>(aZ ⟨[(0,.sl (lm aO v1)),(1,iI v2),(2,.agg (cR v3))],[],[],[]⟩ ?_);unfold mG at h;refine aw 6 7 3 (ak 1 (C8 4 4 ([iI v2]) (C8 5 5 (cR v3) (RX 23 #[(.tmp 4),(.tmp 5)] [.cptr ([iI v2]),.cptr (cR v3)] ?_))));obtain⟨v4,h1,h⟩:=bind_some h;refine dE 1009 (Kp hK h1) (fm 117) (ac (aG 1 ?_));cases h;exact eg
end
noncomputable section
variable(M:Nat→Prop)(w0:aH)(r:Int)(v1:List aM)(v2 v4:Int)(v5:Bool)(m1:Nat)(L1:Int→Option Int)
abbrev A9:Cx:=⟨Tryz.prog,22,M,w0⟩
abbrev yV:=bodyPost Tryz.prog Tryz.f44 (bq M w0 (fun v _=>v=iI r))
abbrev HG(ks:List av)(s:AS):=VE (A9 M w0) (yV M w0 r) ks .normal s
abbrev uJ(n:Nat):av:=.c (cat Tryz.f44 (pn n))
abbrev Ab:List av:=[.b 0,uJ 15]
abbrev Ds:List av:=kl (A9 M w0) (yV M w0 r) Ab (cat Tryz.f44 (pn 56)) m1::Ab
def Kg:AS:=⟨[(0,.sl (lm aY v1)),(5,iI v4),(18,.bool v5)],[],[],[]⟩
def FM:AS:=⟨[(0,.sl (lm aY v1)),(5,iI v4)],[],[],[]⟩
abbrev Ag:Prop:=∀{v4:Int},L1 v4=some r→LP (A9 M w0) (yV M w0 r) Ab (cat Tryz.f44 (pn 56)) m1 (FM v1 v4)
variable{M w0 r v1 v2 v4 v5 m1 L1}{K:Kn}{n:Nat}
theorem FE(hK:aq K)(hL1:Ag M w0 r v1 m1 L1)(h:vX K n v1 v4 L1 v5=some r):HG M w0 r (uJ 225::uJ 113::Ds M w0 r m1) (Kg v1 v4 v5):=by
 unfold vX at h;obtain⟨h6,h⟩|⟨h6,h⟩:=am h
 ·exact ai 18 h6 (ag 5 (bu (hL1 h)))
 ·refine ai 18 h6 (aG 8 ?_);cases h;exact aU
theorem QL(hK:aq K)(hL1:Ag M w0 r v1 m1 L1)(h:xg K n v1 L1 v4=some r):HG M w0 r (uJ 56::Ds M w0 r m1) (FM v1 v4):=by
 unfold xg at h;refine bP 4 5 3 2 (ak 2 (aA (bz aY v1) (aL 5 2 ?_)));obtain⟨h4,h⟩|⟨h4,h⟩:=am h
 ·refine ay 12 h4 (aL 7 2 ?_);obtain⟨h5,h⟩:=aS h;exact aA (bM aY aY h5 (iz) ((fun _=>rfl))) (ac (ag 0 (FE hK hL1 h)))
 ·exact ay 12 h4 (ac (ag 0 (FE hK hL1 h)))
theorem Qa(hK:aq K)(m:Nat):Ag M w0 r v1 m (uD K n v1 m):=by
 induction m with
 | zero=>intro v4 h;cases h
 | succ m ih=>intro v4 h;have h:xg K n v1 (uD K n v1 m) v4=some r:=h;exact br (QL hK ih h)
theorem Hj(hK:aq K)(h:ui K n v1 v2=some r):aN Tryz.prog 44 [.sl (lm aY v1),iI v2] (fun v _=>v=iI r):=by
 refine bc (cat Tryz.f44 (pn 1)) Tryz.func44 Tryz.ntmps44 fun M w0=>(aZ ⟨[(0,.sl (lm aY v1)),(1,iI v2)],[],[],[]⟩ ?_);unfold ui at h;exact ag 6 (cm (p:=pn 28) n (Qa hK n h))
end
noncomputable section
variable(M:Nat→Prop)(w0:aH)(r:Int)(v1:List aM)(v3:Int)(m1:Nat)(L1:Int→Option Int)
abbrev yh:Cx:=⟨Tryz.prog,18,M,w0⟩
abbrev A5:=bodyPost Tryz.prog Tryz.f77 (bq M w0 (fun v _=>v=iI r))
abbrev TJ(ks:List av)(s:AS):=VE (yh M w0) (A5 M w0 r) ks .normal s
abbrev Iu(n:Nat):av:=.c (cat Tryz.f77 (pn n))
abbrev BX:List av:=[.b 0,Iu 7]
abbrev VV:List av:=kl (yh M w0) (A5 M w0 r) BX (cat Tryz.f77 (pn 52)) m1::BX
def Dq:AS:=⟨[(0,.sl (lm aY v1)),(3,iI v3)],[],[],[]⟩
abbrev HK:Prop:=∀{v3:Int},L1 v3=some r→LP (yh M w0) (A5 M w0 r) BX (cat Tryz.f77 (pn 52)) m1 (Dq v1 v3)
variable{M w0 r v1 v3 m1 L1}{K:Kn}{n:Nat}
theorem Ok(hK:aq K)(hL1:HK M w0 r v1 m1 L1)(h:vw K n v1 L1 v3=some r):TJ M w0 r (Iu 52::VV M w0 r m1) (Dq v1 v3):=by
 unfold vw at h;refine aw 5 3 3 ?_;obtain⟨h5,h⟩|⟨h5,h⟩:=am h
 ·refine ai 8 h5 (cN 8 9 1 3 5 (ak 2 ?_));obtain⟨h6,h⟩:=aS h;refine aA (bM aY aY h6 (iz) ((fun _=>rfl))) (ac ?_);obtain⟨h7,h⟩|⟨h7,h⟩:=am h
  ·refine ai 16 h7 (aG 9 ?_);cases h;exact aU
  ·exact ai 16 h7 (ag 4 (bu (hL1 h)))
 ·refine ai 8 h5 (aG 8 ?_);cases h;exact aU
theorem Wb(hK:aq K)(m:Nat):HK M w0 r v1 m (uE K n v1 m):=by
 induction m with
 | zero=>intro v3 h;cases h
 | succ m ih=>intro v3 h;have h:vw K n v1 (uE K n v1 m) v3=some r:=h;exact br (Ok hK ih h)
theorem Jk(hK:aq K)(h:uK K n v1=some r):aN Tryz.prog 77 [.sl (lm aY v1)] (fun v _=>v=iI r):=by
 refine bc (cat Tryz.f77 (pn 1)) Tryz.func77 Tryz.ntmps77 fun M w0=>(aZ ⟨[(0,.sl (lm aY v1))],[],[],[]⟩ ?_);unfold uK at h;exact bP 12 13 7 4 (ak 1 (aA (bz aY v1) (ac (ag 1 (cm (p:=pn 26) n (Wb hK n h))))))
end
noncomputable section
variable(M:Nat→Prop)(w0:aH)(r:Int)(v1:List aM)(v2 v3 v5:Int)(m1:Nat)(L1:Int→Int→Option Int)
abbrev z5:Cx:=⟨Tryz.prog,33,M,w0⟩
abbrev zx:=bodyPost Tryz.prog Tryz.f45 (bq M w0 (fun v _=>v=iI r))
abbrev Cq(ks:List av)(s:AS):=VE (z5 M w0) (zx M w0 r) ks .normal s
abbrev BH(n:Nat):av:=.c (cat Tryz.f45 (pn n))
abbrev BU:List av:=[.b 0,BH 15]
abbrev T2:List av:=kl (z5 M w0) (zx M w0 r) BU (cat Tryz.f45 (pn 116)) m1::BU
def Wc:AS:=⟨[(3,iI v5)],[],[],[]⟩
def Ip:AS:=⟨[(0,.sl (lm aY v1)),(3,iI v2),(7,.sl (lm aY v1)),(8,iI (v1.length:Int)),(9,iI v3)],[],[],[]⟩
abbrev CZ:Prop:=∀{v2:Int} {v3:Int},L1 v2 v3=some r→LP (z5 M w0) (zx M w0 r) BU (cat Tryz.f45 (pn 116)) m1 (Ip v1 v2 v3)
variable{M w0 r v1 v2 v3 v5 m1 L1}{K:Kn}{n:Nat}
theorem Fe(hK:aq K)(h:vf K n v5=some r):Cq M w0 r [BH 31] (Wc v5):=by
 unfold vf at h;refine aG 3 ?_;cases h;exact aU
theorem Tz(hK:aq K)(hL1:CZ M w0 r v1 m1 L1)(h:vg K n v1 L1 v2 v3=some r):Cq M w0 r (BH 116::T2 M w0 r m1) (Ip v1 v2 v3):=by
 unfold vg at h;refine aw 6 7 3 ?_;obtain⟨h3,h⟩|⟨h3,h⟩:=am h
 ·refine ai 10 h3 (cN 8 9 1 3 5 (ak 0 ?_));obtain⟨h4,h⟩:=aS h;exact aA (bM aY aY h4 (iz) ((fun _=>rfl))) (ac (ag 3 (bu (hL1 h))))
 ·refine ai 10 h3 (QN 4 5 3 7 (ak 1 ?_));obtain⟨v4,h5,h⟩:=bind_some h;refine aB (Jk hK h5) (ac (bd 3 2 ?_));obtain⟨h6,h⟩|⟨h6,h⟩:=am h
  ·refine ai 24 h6 (bd 2 1 (ak 3 ?_));obtain⟨h7,h⟩:=aS h;exact aA (bM aY aY h7 (iz) ((fun _=>rfl))) (ac (ag 0 (Fe hK h)))
  ·exact ai 24 h6 (ag 2 (Fe hK h))
theorem KK(hK:aq K)(m:Nat):CZ M w0 r v1 m (uH K n v1 m):=by
 induction m with
 | zero=>intro v2 v3 h;cases h
 | succ m ih=>intro v2 v3 h;have h:vg K n v1 (uH K n v1 m) v2 v3=some r:=h;exact br (Tz hK ih h)
theorem G0(hK:aq K)(h:tY K n v1=some r):aN Tryz.prog 45 [.sl (lm aY v1)] (fun v _=>v=iI r):=by
 refine bc (cat Tryz.f45 (pn 1)) Tryz.func45 Tryz.ntmps45 fun M w0=>(aZ ⟨[(0,.sl (lm aY v1))],[],[],[]⟩ ?_);unfold tY at h;exact bP 28 29 15 6 (ak 1 (aA (bz aY v1) (ac (ag 1 (cm (p:=pn 58) n (KK hK n h))))))
end
noncomputable section
variable(M:Nat→Prop)(w0:aH)(r:List Int)(v1:List aM)(v2 v19:Int)(v20:List Int)(v25:Int)(v26:Bool)(m1 m2:Nat)(L1:Int→(List Int)→Option (List Int))(L2:Int→Option (List Int))
abbrev q8:Cx:=⟨Tryz.prog,46,M,w0⟩
abbrev se:=bodyPost Tryz.prog Tryz.f19 (bq M w0 (fun v s=>v=.ref 16∧look 16 s.r=some ⟨3,1,lm (bG .i64) r⟩))
abbrev vd(ks:List av)(s:AS):=VE (q8 M w0) (se M w0 r) ks .normal s
abbrev iy(n:Nat):av:=.c (cat Tryz.f19 (pn n))
abbrev zQ:List av:=[.b 0,iy 15]
abbrev wv:List av:=kl (q8 M w0) (se M w0 r) zQ (cat Tryz.f19 (pn 116)) m1::zQ
abbrev yR:List av:=.b 2::iy 3735 :: .b 1::wv M w0 r m1
abbrev Aw:List av:=kl (q8 M w0) (se M w0 r) (yR M w0 r m1) (cat Tryz.f19 (pn 14936)) m2::(yR M w0 r m1)
def VK:AS:=⟨[(0,.sl (lm aY v1)),(1,iI v2),(5,.ref 16),(7,iI v25)],[],[(16,⟨3,1,lm (bG .i64) (v20++[v19])⟩)],[16]⟩
def Tv:AS:=⟨[(0,.sl (lm aY v1)),(1,iI v2),(5,.ref 16),(6,iI v19),(7,iI v25),(32,.bool v26)],[],[(16,⟨3,1,lm (bG .i64) (v20++[v19])⟩)],[16]⟩
def D0:AS:=⟨[(0,.sl (lm aY v1)),(1,iI v2),(5,.ref 16),(6,iI v19),(7,iI v25)],[],[(16,⟨3,1,lm (bG .i64) (v20++[v19])⟩)],[16]⟩
def HN:AS:=⟨[(0,.sl (lm aY v1)),(1,iI v2),(5,.ref 16),(6,iI v19)],[],[(16,⟨3,1,lm (bG .i64) v20⟩)],[16]⟩
abbrev pa:Prop:=∀{v19:Int} {v20:(List Int)},L1 v19 v20=some r→LP (q8 M w0) (se M w0 r) zQ (cat Tryz.f19 (pn 116)) m1 (HN v1 v2 v19 v20)
abbrev AN:Prop:=∀{v25:Int},L2 v25=some r→LP (q8 M w0) (se M w0 r) (yR M w0 r m1) (cat Tryz.f19 (pn 14936)) m2 (D0 v1 v2 v19 v20 v25)
variable{M w0 r v1 v2 v19 v20 v25 v26 m1 m2 L1 L2}{K:Kn}{n:Nat}
theorem GB(hK:aq K)(hL1:pa M w0 r v1 v2 m1 L1)(h:uM K n v1 v2 v19 v20 v25 L1=some r):vd M w0 r (iy 3735 :: .b 1::wv M w0 r m1) (VK v1 v2 v19 v20 v25):=by
 unfold uM at h;exact ag 2 (bu (hL1 h))
theorem Fk(hK:aq K)(hL1:pa M w0 r v1 v2 m1 L1)(hL2:AN M w0 r v1 v2 v19 v20 m1 m2 L2)(h:wK K n v1 v2 v19 v20 v25 L1 L2 v26=some r):vd M w0 r (iy 59745::iy 29873::Aw M w0 r m1 m2) (Tv v1 v2 v19 v20 v25 v26):=by
 unfold wK at h;obtain⟨h47,h⟩|⟨h47,h⟩:=am h
 ·refine ai 32 h47 (cr (ks':=iy 119492::iy 119493 :: .b 3::Aw M w0 r m1 m2) 4 (ak 2 ?_));obtain⟨v27,h48,h⟩:=bind_some h;refine aB (Hj hK h48) (ac (bP 4 5 3 2 (ak 3 ?_)));obtain⟨h49,h⟩:=aS h;refine aA (zM aY v1 v19 v27 25 (.tmp 36) (some (.tmp 37)) (some (.tmp 38)) 39 (e:=46) (sz:=62) (by kernel_rfl) (by kernel_rfl) (by kernel_rfl) (by kernel_rfl) (by kernel_rfl) (by kernel_rfl) (iz) (fun k hk=>by subst hk;kernel_rfl) h49) ?_;obtain⟨v28,h50,h⟩:=bind_some h;refine aB (G0 hK h50) (ac ?_);obtain⟨h51,h⟩|⟨h51,h⟩:=am h
  ·exact ai 42 h51 (ag 6 (GB hK hL1 h))
  ·exact ai 42 h51 (ag 4 (bu (hL2 h)))
 ·exact ai 32 h47 (ag 5 (GB hK hL1 h))
theorem OH(hK:aq K)(hL1:pa M w0 r v1 v2 m1 L1)(hL2:AN M w0 r v1 v2 v19 v20 m1 m2 L2)(h:w6 K n v1 v2 v19 v20 L1 L2 v25=some r):vd M w0 r (iy 14936::Aw M w0 r m1 m2) (D0 v1 v2 v19 v20 v25):=by
 unfold w6 at h;refine bP 4 5 3 2 (ak 2 (aA (bz aY v1) (aL 5 2 ?_)));obtain⟨h45,h⟩|⟨h45,h⟩:=am h
 ·refine ay 24 h45 (aL 8 3 ?_);obtain⟨h46,h⟩:=aS h;exact aA (bM aY aY h46 (iz) ((fun _=>rfl))) (ac (ag 0 (Fk hK hL1 hL2 h)))
 ·exact ay 24 h45 (ac (ag 0 (Fk hK hL1 hL2 h)))
theorem RV(hK:aq K)(hL1:pa M w0 r v1 v2 m1 L1)(m:Nat):AN M w0 r v1 v2 v19 v20 m1 m (uO K n v1 v2 v19 v20 L1 m):=by
 induction m with
 | zero=>intro v25 h;cases h
 | succ m ih=>intro v25 h;have h:w6 K n v1 v2 v19 v20 L1 (uO K n v1 v2 v19 v20 L1 m) v25=some r:=h;exact br (OH hK hL1 ih h)
theorem Sc(hK:aq K)(hL1:pa M w0 r v1 v2 m1 L1)(h:uy K n v1 v2 L1 v19 v20=some r):vd M w0 r (iy 116::wv M w0 r m1) (HN v1 v2 v19 v20):=by
 unfold uy at h;refine bP 4 5 3 2 (ak 2 (aA (bz aY v1) (ac ?_)));obtain⟨h35,h⟩|⟨h35,h⟩:=am h
 ·refine ai 12 h35 (cr (ks':=iy 932::iy 933 :: .b 1::wv M w0 r m1) 4 (ak 3 ?_));obtain⟨h36,h⟩:=aS h;refine aA (cy 16 16 3 1 (bG .i64) (rfl) ((fun _=>rfl)) h36) (ac (aw 2 3 1 (ak 2 ?_)));obtain⟨v21,h37,h⟩:=bind_some h;exact aB (Hj hK h37) (ac (ag 2 (cm (p:=pn 7468) n (RV hK hL1 n h))))
 ·refine ai 12 h35 (aG 8 ?_);cases h;exact eg
theorem MF(hK:aq K)(m:Nat):pa M w0 r v1 v2 m (wh K n v1 v2 m):=by
 induction m with
 | zero=>intro v19 v20 h;cases h
 | succ m ih=>intro v19 v20 h;have h:uy K n v1 v2 (wh K n v1 v2 m) v19 v20=some r:=h;exact br (Sc hK ih h)
theorem Kt(hK:aq K)(h:xJ K n v1 v2=some r):aN Tryz.prog 19 [.sl (lm aY v1),iI v2] (fun v s=>v=.ref 16∧look 16 s.r=some ⟨3,1,lm (bG .i64) r⟩):=by
 refine bc (cat Tryz.f19 (pn 1)) Tryz.func19 Tryz.ntmps19 fun M w0=>(aZ ⟨[(0,.sl (lm aY v1)),(1,iI v2)],[],[],[]⟩ ?_);unfold xJ at h;exact fp 58 0 15 8 (bJ [0,1,5,6] [] [] (fk 16 5 3 1 (ag 0 (cm (p:=pn 58) n (MF hK n h)))))
end
noncomputable section
variable(M:Nat→Prop)(w0:aH)(r:Int)(v1:aJ)(v2 v3:Int)  
variable{M w0 r v1 v2 v3}{K:Kn}{n:Nat}
theorem N4(hK:aq K)(h:zh K n v1 v2 v3=some r):aN Tryz.prog 76 [.agg (aE v1),iI v2,iI v3] (fun v _=>v=iI r):=by
 refine bc (cat Tryz.f76 (pn 1)) Tryz.func76 Tryz.ntmps76 fun M w0=>(aZ ⟨[(0,.agg (aE v1)),(1,iI v2),(2,iI v3)],[],[],[]⟩ ?_);unfold zh at h;refine aw 13 7 5 ?_;obtain⟨h1,h⟩|⟨h1,h⟩:=am h
 ·refine ai 9 h1 (aG 5 ?_);cases h;exact aU
 ·refine ai 9 h1 (uI 21 0 3 8 ?_);obtain⟨h2,h⟩|⟨h2,h⟩:=am h
  ·refine ai 12 h2 (aG 6 ?_);cases h;exact aU
  ·refine ai 12 h2 (bd 7 3 ?_);obtain⟨h3,h⟩|⟨h3,h⟩:=am h
   ·refine ai 18 h3 (aG 6 ?_);cases h;exact aU
   ·refine ai 18 h3 (aG 6 ?_);cases h;exact aU
end
noncomputable section
variable(M:Nat→Prop)(w0:aH)(r:Bool)(v1 v2:ByteArray)(v3:Bool)  
abbrev LU(n:Nat):av:=.c (cat Tryz.f109 (pn n))
abbrev SL:Cx:=⟨Tryz.prog,21,M,w0⟩
abbrev J6:=bodyPost Tryz.prog Tryz.f109 (bq M w0 (fun v _=>v=.bool r))
abbrev N0(ks:List av)(s:AS):=VE (SL M w0) (J6 M w0 r) ks .normal s
def Sm:AS:=⟨[(4,.bool v3)],[],[],[]⟩
variable{M w0 r v1 v2 v3}{K:Kn}{n:Nat}
theorem G1(hK:aq K)(h:wy K n v3=some r):N0 M w0 r [LU 7] (Sm v3):=by
 unfold wy at h;refine aG 1 ?_;cases h;exact aU
theorem Qq(hK:aq K)(h:xO K n v1 v2=some r):aN Tryz.prog 109 [.str v1,.str v2] (fun v _=>v=.bool r):=by
 refine bc (cat Tryz.f109 (pn 1)) Tryz.func109 Tryz.ntmps109 fun M w0=>(aZ ⟨[(0,.str v1),(1,.str v2)],[],[],[]⟩ ?_);unfold xO at h;refine aw 6 7 3 (ak 6 ?_);obtain⟨h1,h⟩|⟨h1,h⟩:=am h
 ·refine ay 10 h1 (aL 12 6 ?_);obtain⟨h2,h⟩:=aS h;exact aA (ve h2) (ac (ag 0 (G1 hK h)))
 ·exact ay 10 h1 (ac (ag 0 (G1 hK h)))
end
noncomputable section
variable(M:Nat→Prop)(w0:aH)(r:Bool)(v1 v2:ByteArray)  
variable{M w0 r v1 v2}{K:Kn}{n:Nat}
theorem Q9(hK:aq K)(h:Bo K n v1 v2=some r):aN Tryz.prog 78 [.str v1,.str v2] (fun v _=>v=.bool r):=by
 refine bc (cat Tryz.f78 (pn 1)) Tryz.func78 Tryz.ntmps78 fun M w0=>(aZ ⟨[(0,.str v1),(1,.str v2)],[],[],[]⟩ ?_);unfold Bo at h;refine aw 6 7 3 (ak 2 ?_);obtain⟨v3,h1,h⟩:=bind_some h;refine aB (Qq hK h1) (ac (aG 1 ?_));cases h;exact aU
end
noncomputable section
variable(M:Nat→Prop)(w0:aH)(r:ae)(v1:List aM)(v2:aJ)(v3 v8 v9 v10 v11 v12 v15 v78 v79:Int)(v80:List ae)(v82:Bool)(v83:aM)(v87:List ae)(v104:Int)(v105:List ae)(m1 m2 m3:Nat)(L1:Int→Int→Int→Option ae)(L2:Int→Int→(List ae)→Option ae)(L3:Int→(List ae)→Option ae)
abbrev oN:Cx:=⟨Tryz.prog,156,M,w0⟩
abbrev oH:=bodyPost Tryz.prog Tryz.f38 (bq M w0 (fun v s=>v=.agg (List.set (aF ({ r with Kids:=[] }:ae)) 66 (.ref 114))∧look 114 s.r=some ⟨59,67,lm aC r.Kids⟩))
abbrev mK(ks:List av)(s:AS):=VE (oN M w0) (oH M w0 r) ks .normal s
abbrev dn(n:Nat):av:=.c (cat Tryz.f38 (pn n))
abbrev Bz:List av:=[.b 2,dn 255]
abbrev pX:List av:=kl (oN M w0) (oH M w0 r) Bz (cat Tryz.f38 (pn 2036)) m2::Bz
abbrev zT:List av:=[.b 0,dn 15]
abbrev Hv:List av:=kl (oN M w0) (oH M w0 r) zT (cat Tryz.f38 (pn 116)) m1::zT
abbrev BN:List av:=.b 4::dn 521423 :: .b 3::dn 16295::pX M w0 r m2
abbrev yt:List av:=kl (oN M w0) (oH M w0 r) (BN M w0 r m2) (cat Tryz.f38 (pn 4171380)) m3::(BN M w0 r m2)
def RB:AS:=⟨[(0,.sl (lm aY v1)),(2,iI v3),(4,.ptr 4 0),(6,.ptr 6 0),(7,iI v11),(8,iI v12),(24,.sl (lm aY v1)),(25,iI (v1.length:Int)),(26,iI v10)],[(4,aE v2),(6,List.set (aF bp) 66 (.nils))],[],[4,6]⟩
def Gq:AS:=⟨[(6,.ptr 6 0),(7,iI v8),(11,.ptr 11 0),(12,iI v78),(13,iI v15),(15,.ptr 15 0),(56,.sl (lm aY v1)),(57,iI (v1.length:Int)),(58,iI v79),(117,.sl (lm aC v83.Box)),(118,iI (v83.Box.length:Int)),(119,iI v104)],[(6,List.set (aF bp) 66 (.nils)),(11,List.set (aF ({ bp with Kind:=2,W:=v3,H:=(ab (v8+v9)),aH:=v8,Style:=v2 }:ae)) 66 (.ref 114)),(15,aY v83)],[(114,⟨59,67,lm aC v105⟩)],[6,11,15,114]⟩
def Oe:AS:=⟨[(6,.ptr 6 0),(7,iI v8),(11,.ptr 11 0),(12,iI v78),(13,iI v15),(15,.ptr 15 0),(56,.sl (lm aY v1)),(57,iI (v1.length:Int)),(58,iI v79)],[(6,List.set (aF bp) 66 (.nils)),(11,List.set (aF ({ bp with Kind:=2,W:=v3,H:=(ab (v8+v9)),aH:=v8,Style:=v2 }:ae)) 66 (.ref 114)),(15,aY v83)],[(114,⟨59,67,lm aC v87⟩)],[6,11,15,114]⟩
def Oj:AS:=⟨[(6,.ptr 6 0),(7,iI v8),(11,.ptr 11 0),(12,iI v78),(13,iI v15),(15,.ptr 15 0),(56,.sl (lm aY v1)),(57,iI (v1.length:Int)),(58,iI v79)],[(6,List.set (aF bp) 66 (.nils)),(11,List.set (aF ({ bp with Kind:=2,W:=v3,H:=(ab (v8+v9)),aH:=v8,Style:=v2 }:ae)) 66 (.ref 114)),(15,aY v83)],[(114,⟨59,67,lm aC v80⟩)],[6,11,15,114]⟩
def UH:AS:=⟨[(6,.ptr 6 0),(7,iI v8),(11,.ptr 11 0),(12,iI v78),(13,iI v15),(15,.ptr 15 0),(56,.sl (lm aY v1)),(57,iI (v1.length:Int)),(58,iI v79),(76,.bool v82)],[(6,List.set (aF bp) 66 (.nils)),(11,List.set (aF ({ bp with Kind:=2,W:=v3,H:=(ab (v8+v9)),aH:=v8,Style:=v2 }:ae)) 66 (.ref 114)),(15,aY (gD v1 v79))],[(114,⟨59,67,lm aC v80⟩)],[6,11,15,114]⟩
def CC:AS:=⟨[(6,.ptr 6 0),(7,iI v8),(11,.ptr 11 0),(12,iI v78),(13,iI v15),(56,.sl (lm aY v1)),(57,iI (v1.length:Int)),(58,iI v79)],[(6,List.set (aF bp) 66 (.nils)),(11,List.set (aF ({ bp with Kind:=2,W:=v3,H:=(ab (v8+v9)),aH:=v8,Style:=v2 }:ae)) 66 (.ref 114))],[(114,⟨59,67,lm aC v80⟩)],[6,11,114]⟩
def DZ:AS:=⟨[(0,.sl (lm aY v1)),(2,iI v3),(4,.ptr 4 0),(6,.ptr 6 0),(7,iI v8),(8,iI v9),(24,.sl (lm aY v1)),(25,iI (v1.length:Int)),(26,iI v10)],[(4,aE v2),(6,List.set (aF bp) 66 (.nils))],[],[4,6]⟩
abbrev zV:Prop:=∀{v8:Int} {v9:Int} {v10:Int},L1 v8 v9 v10=some r→LP (oN M w0) (oH M w0 r) zT (cat Tryz.f38 (pn 116)) m1 (DZ v1 v2 v3 v8 v9 v10)
abbrev nK:Prop:=∀{v78:Int} {v79:Int} {v80:(List ae)},L2 v78 v79 v80=some r→LP (oN M w0) (oH M w0 r) Bz (cat Tryz.f38 (pn 2036)) m2 (CC v1 v2 v3 v8 v9 v15 v78 v79 v80)
abbrev CX:Prop:=∀{v104:Int} {v105:(List ae)},L3 v104 v105=some r→LP (oN M w0) (oH M w0 r) (BN M w0 r m2) (cat Tryz.f38 (pn 4171380)) m3 (Gq v1 v2 v3 v8 v9 v15 v78 v79 v83 v104 v105)
variable{M w0 r v1 v2 v3 v8 v9 v10 v11 v12 v15 v78 v79 v80 v82 v83 v87 v104 v105 m1 m2 m3 L1 L2 L3}{K:Kn}{n:Nat}
theorem EV(hK:aq K)(hL1:zV M w0 r v1 v2 v3 m1 L1)(h:vS K n v1 v2 v3 v10 L1 v11 v12=some r):mK M w0 r (.b 1::dn 935::Hv M w0 r m1) (RB v1 v2 v3 v10 v11 v12):=by
 unfold vS at h;exact ag 2 (bu (hL1 h))
theorem NJ(hK:aq K)(hL2:nK M w0 r v1 v2 v3 v8 v9 v15 m2 L2)(hL3:CX M w0 r v1 v2 v3 v8 v9 v15 v78 v79 v83 m2 m3 L3)(h:wE K n v1 v2 v3 v8 v9 v15 v78 v79 v83 L2 L3 v104 v105=some r):mK M w0 r (dn 4171380::yt M w0 r m2 m3) (Gq v1 v2 v3 v8 v9 v15 v78 v79 v83 v104 v105):=by
 unfold wE at h;refine aw 6 7 3 ?_;obtain⟨h123,h⟩|⟨h123,h⟩:=am h
 ·refine ai 120 h123 (cN 8 9 5 3 5 (ak 0 ?_));obtain⟨h124,h⟩:=aS h;refine aA (bM aC aF h124 (dP) (cQ)) (ac ?_);obtain⟨v106,h125,h⟩:=bW h;obtain⟨v107,h126,h⟩:=bW h;obtain⟨v108,h127,h⟩:=bW h;obtain⟨v109,h128,h⟩:=bW h;obtain⟨v110,h129,h⟩:=bW h;obtain⟨v111,h130,h⟩:=bW h;obtain⟨v112,h131,h⟩:=bW h;obtain⟨v113,h132,h⟩:=bW h;obtain⟨v114,h133,h⟩:=bW h;obtain⟨v115,h134,h⟩:=bW h;refine bB (ks':=dn 533936742::dn 533936743 :: .b 5::dn 33371047::yt M w0 r m2 m3) 3 ⟨[(6,.ptr 6 0),(7,iI v8),(11,.ptr 11 0),(12,iI v78),(13,iI v15),(15,.ptr 15 0),(18,.ptr 18 0),(56,.sl (lm aY v1)),(57,iI (v1.length:Int)),(58,iI v79),(117,.sl (lm aC v83.Box)),(118,iI (v83.Box.length:Int)),(119,iI v104)],[(6,List.set (aF bp) 66 (.nils)),(11,List.set (aF ({ bp with Kind:=2,W:=v3,H:=(ab (v8+v9)),aH:=v8,Style:=v2 }:ae)) 66 (.ref 114)),(15,aY v83),(18,aF (⟨v106,v107,v108,(gD v83.Box v104).Y,(gD v83.Box v104).W,(gD v83.Box v104).H,v109,v110,v111,v112,v113,v114,v115⟩:ae))],[(114,⟨59,67,lm aC v105⟩)],[6,11,15,18,114]⟩ ?_ (by subst h134;subst h133;subst h132;subst h131;subst h130;subst h129;subst h128;subst h127;subst h126;subst h125;kernel_rfl)
  obtain⟨v116,h135,h⟩:=bind_some h;refine bD 1 (nu 128 [.ptr 18 3,iI ((gD v83.Box v104).Y),iI v8,.ptr 18 5,iI ((gD v83.Box v104).H),iI (ab (v8-((gD v83.Box v104).H))),.ptr 18 63,.agg (bI v113),iI v116,iI (ab ((ab (v8-((gD v83.Box v104).H)))-v116)),iI (ab (((gD v83.Box v104).Y)+(ab ((ab (v8-((gD v83.Box v104).H)))-v116)))),.ptr 18 3]) [] [] [bT Tryz.prog 156 Tryz.f38 (pn 533936742) 12] (ao (vz 8) (aa (bL 0 1 136 (pu hK h135)) (ao (vz 3) (aa (bU 0) bE)))) ?_;obtain⟨v117,h136,h⟩:=bW h;refine bB (ks':=dn 533936743 :: .b 5::dn 33371047::yt M w0 r m2 m3) 0 ⟨[(6,.ptr 6 0),(7,iI v8),(11,.ptr 11 0),(12,iI v78),(13,iI v15),(15,.ptr 15 0),(18,.ptr 18 0),(56,.sl (lm aY v1)),(57,iI (v1.length:Int)),(58,iI v79),(117,.sl (lm aC v83.Box)),(118,iI (v83.Box.length:Int)),(119,iI v104)],[(6,List.set (aF bp) 66 (.nils)),(11,List.set (aF ({ bp with Kind:=2,W:=v3,H:=(ab (v8+v9)),aH:=v8,Style:=v2 }:ae)) 66 (.ref 114)),(15,aY v83),(18,aF (⟨v106,v107,v108,v117,(gD v83.Box v104).W,(gD v83.Box v104).H,v109,v110,v111,v112,v113,v114,v115⟩:ae))],[(114,⟨59,67,lm aC v105⟩)],[6,11,15,18,114]⟩ ?_ (by subst h136;kernel_rfl)
  refine ak 3 (aA (eV aC ([(⟨v106,v107,v108,v117,(gD v83.Box v104).W,(gD v83.Box v104).H,v109,v110,v111,v112,v113,v114,v115⟩:ae)]:List ae) (new:=[aF (⟨v106,v107,v108,v117,(gD v83.Box v104).W,(gD v83.Box v104).H,v109,v110,v111,v112,v113,v114,v115⟩:ae)]) (by simp only[List.map_cons,List.map_nil,cQ])) ?_);obtain⟨h137,h⟩:=aS h;exact aA (cy 144 114 59 67 aC (rfl) (dP) h137) (ac (ag 2 (bu (hL3 h))))
 ·exact ai 120 h123 (ag 8 (bu (hL2 h)))
theorem UQ(hK:aq K)(hL2:nK M w0 r v1 v2 v3 v8 v9 v15 m2 L2)(m:Nat):CX M w0 r v1 v2 v3 v8 v9 v15 v78 v79 v83 m2 m (wY K n v1 v2 v3 v8 v9 v15 v78 v79 v83 L2 m):=by
 induction m with
 | zero=>intro v104 v105 h;cases h
 | succ m ih=>intro v104 v105 h;have h:wE K n v1 v2 v3 v8 v9 v15 v78 v79 v83 L2 (wY K n v1 v2 v3 v8 v9 v15 v78 v79 v83 L2 m) v104 v105=some r:=h;exact br (NJ hK hL2 ih h)
theorem GX(hK:aq K)(hL2:nK M w0 r v1 v2 v3 v8 v9 v15 m2 L2)(h:ua K n v1 v2 v3 v8 v9 v15 v78 v79 v83 L2 v87=some r):mK M w0 r (dn 260711 :: .b 3::dn 16295::pX M w0 r m2) (Oe v1 v2 v3 v8 v9 v15 v78 v79 v83 v87):=by
 unfold ua at h;exact bP 4 5 3 2 (ak 2 (aA (bz aC v83.Box) (ac (ag 1 (cm (p:=pn 2085690) n (UQ hK hL2 n h))))))
theorem Ey(hK:aq K)(hL2:nK M w0 r v1 v2 v3 v8 v9 v15 m2 L2)(h:wt K n v1 v2 v3 v8 v9 v15 v78 v79 v80 L2 v83=some r):mK M w0 r (dn 130355 :: .b 3::dn 16295::pX M w0 r m2) (Oj v1 v2 v3 v8 v9 v15 v78 v79 v80 v83):=by
 unfold wt at h;obtain⟨v84,h99,h⟩:=bW h;refine bB (ks':=dn 521421::dn 260711 :: .b 3::dn 16295::pX M w0 r m2) 3 ⟨[(6,.ptr 6 0),(7,iI v8),(11,.ptr 11 0),(12,iI v78),(13,iI v15),(15,.ptr 15 0),(56,.sl (lm aY v1)),(57,iI (v1.length:Int)),(58,iI v79),(88,.bool v84)],[(6,List.set (aF bp) 66 (.nils)),(11,List.set (aF ({ bp with Kind:=2,W:=v3,H:=(ab (v8+v9)),aH:=v8,Style:=v2 }:ae)) 66 (.ref 114)),(15,aY v83)],[(114,⟨59,67,lm aC v80⟩)],[6,11,15,114]⟩ ?_ (by subst h99;kernel_rfl);obtain⟨h100,h⟩|⟨h100,h⟩:=am h
 ·refine ai 88 h100 (bd 5 3 (bJ [6,7,11,12,13,15,16,56,57,58] [6,11,15] [114] ?_));obtain⟨v85,h101,h⟩:=bind_some h;obtain⟨v86,h102,h⟩:=bind_some h;obtain⟨h103,h⟩:=aS h;exact bD 2 (nu 92 [.ptr 11 66,.ref 114,.ptr 15 0,iI v83.Node,.ptr 15 2,.agg (aE v83.Style),.ptr 15 1,.str v83.Text,iI v78,iI v8,iI v83.Style.FontSize,iI v85,iI (ab (v8-v85)),.ptr 15 55,iI v83.Width,.ptr 15 56,iI v83.Space,iI (ab (v83.Width+v83.Space)),iI v83.Style.FontSize,iI v86,.agg (List.set (aF (⟨3,v83.Node,v78,(ab (v8-v85)),(ab (v83.Width+v83.Space)),v86,0,v83.Text,v83.Style,cp,cp,false,[]⟩:ae)) 66 (.nils)),.sl (lm aC [(⟨3,v83.Node,v78,(ab (v8-v85)),(ab (v83.Width+v83.Space)),v86,0,v83.Text,v83.Style,cp,cp,false,[]⟩:ae)])]++nu 115 [.ptr 11 66]) [] [] [gW 114 114 ⟨59,67,lm aC (v80++[(⟨3,v83.Node,v78,(ab (v8-v85)),(ab (v83.Width+v83.Space)),v86,0,v83.Text,v83.Style,cp,cp,false,[]⟩:ae)])⟩,bT Tryz.prog 156 Tryz.f38 (pn 2085685) 24] (ao [.v 0 2,.v 0 1,.v 0 2,.v 0 2,.v 0 2,.v 0 2,.v 0 2,.v 0 2,.v 0 2,.v 0 2,.v 0 2] (aa (bL 0 2 103 (Gm hK h101)) (ao [.v 0 2,.v 0 2,.v 0 2,.v 0 2,.v 0 2,.v 0 2,.v 0 2] (aa (bL 0 1 111 (Jg hK h102)) (ao [.v 0 2] (bC (eV aC ([(⟨3,v83.Node,v78,(ab (v8-v85)),(ab (v83.Width+v83.Space)),v86,0,v83.Text,v83.Style,cp,cp,false,[]⟩:ae)]:List ae) (new:=[aF (⟨3,v83.Node,v78,(ab (v8-v85)),(ab (v83.Width+v83.Space)),v86,0,v83.Text,v83.Style,cp,cp,false,[]⟩:ae)]) (by simp only[List.map_cons,List.map_nil,cQ])) (aa (gv (m:=0) (cy 114 114 59 67 aC (rfl) (dP) h103)) (ao [.v 1 1] (aa (bU 1) bE))))))))) (ag 0 (GX hK hL2 h))
 ·exact ai 88 h100 (ag 2 (GX hK hL2 h))
theorem A0(hK:aq K)(hL2:nK M w0 r v1 v2 v3 v8 v9 v15 m2 L2)(h:rU K n v1 v2 v3 v8 v9 v15 v78 v79 v80 L2 v82=some r):mK M w0 r (dn 260709::dn 130355 :: .b 3::dn 16295::pX M w0 r m2) (UH v1 v2 v3 v8 v9 v15 v78 v79 v80 v82):=by
 unfold rU at h;obtain⟨h97,h⟩|⟨h97,h⟩:=am h
 ·refine ai 76 h97 (aw 4 5 2 (ak 6 ?_));obtain⟨h98,h⟩:=aS h;exact aA (ve h98) (ac (ag 1 (Ey hK hL2 h)))
 ·exact ai 76 h97 (ag 2 (Ey hK hL2 h))
theorem SB(hK:aq K)(hL2:nK M w0 r v1 v2 v3 v8 v9 v15 m2 L2)(h:vF K n v1 v2 v3 v8 v9 v15 L2 v78 v79 v80=some r):mK M w0 r (dn 2036::pX M w0 r m2) (CC v1 v2 v3 v8 v9 v15 v78 v79 v80):=by
 unfold vF at h;refine aw 6 7 3 ?_;obtain⟨h92,h⟩|⟨h92,h⟩:=am h
 ·refine ai 59 h92 (cN 8 9 3 3 5 (ak 1 ?_));obtain⟨h93,h⟩:=aS h;refine aA (bM aY aY h93 (iz) ((fun _=>rfl))) (ac (bP 4 5 3 2 (ak 4 ?_)));obtain⟨h94,h⟩|⟨h94,h⟩:=am h
  ·refine ay 66 h94 (aL 6 2 ?_);obtain⟨v81,h95,h⟩:=bind_some h;refine aB (Q9 hK h95) (aL 9 2 ?_);obtain⟨h96,h⟩|⟨h96,h⟩:=am h
   ·exact ay 71 h96 (ac (ag 0 (A0 hK hL2 h)))
   ·exact ay 71 h96 (ac (ag 0 (A0 hK hL2 h)))
  ·exact ay 66 h94 (ac (ag 0 (A0 hK hL2 h)))
 ·refine ai 59 h92 (aG 8 ?_);cases h;exact eg
theorem SY(hK:aq K)(m:Nat):nK M w0 r v1 v2 v3 v8 v9 v15 m (uR K n v1 v2 v3 v8 v9 v15 m):=by
 induction m with
 | zero=>intro v78 v79 v80 h;cases h
 | succ m ih=>intro v78 v79 v80 h;have h:vF K n v1 v2 v3 v8 v9 v15 (uR K n v1 v2 v3 v8 v9 v15 m) v78 v79 v80=some r:=h;exact br (SB hK ih h)
theorem Ww(hK:aq K)(hL1:zV M w0 r v1 v2 v3 m1 L1)(h:uT K n v1 v2 v3 L1 v8 v9 v10=some r):mK M w0 r (dn 116::Hv M w0 r m1) (DZ v1 v2 v3 v8 v9 v10):=by
 unfold uT at h;refine aw 6 7 3 ?_;obtain⟨h6,h⟩|⟨h6,h⟩:=am h
 ·refine ai 27 h6 (cN 8 9 1 3 5 (ak 0 ?_));obtain⟨h7,h⟩:=aS h;refine aA (bM aY aY h7 (iz) ((fun _=>rfl))) (ac (bd 3 2 ?_));obtain⟨h8,h⟩|⟨h8,h⟩:=am h
  ·exact ai 32 h8 (bd 2 1 (bJ [0,2,4,6,7,8,10,24,25,26] [4,6,10] [] (bD 2 (nu 33 [iI v8,.ptr 10 57,iI ((gD v1 v10).Above),iI (max v8 ((gD v1 v10).Above)),iI v9,.ptr 10 58,iI ((gD v1 v10).Below),iI (max v9 ((gD v1 v10).Below))]) [] [] [bT Tryz.prog 156 Tryz.f38 (pn 14950) 8,bT Tryz.prog 156 Tryz.f38 (pn 14950) 9] (ao [.v 0 1,.v 0 1,.v 0 1,.v 0 1,.v 0 2,.v 0 2,.v 0 2,.v 0 2] (aa (bU 0) (aa (bU 1) bE))) (ag 0 (EV hK hL1 h)))))
  ·exact ai 32 h8 (ag 2 (EV hK hL1 h))
 ·refine ai 27 h6 (mI 6 7 8 (bJ [0,2,4,6,7,11] [4,6,11] [] ?_));obtain⟨v13,h9,h⟩:=bind_some h;obtain⟨v14,h10,h⟩:=bind_some h;refine bD 1 (nu 49 [.agg (aE v2),iI v3,.sl (lm aY v1),iI v13,iI v14]) [] [] [bT Tryz.prog 156 Tryz.f38 (pn 62) 5] (ao (vz 3) (aa (bL 0 1 52 (G0 hK h9)) (aa (bL 0 1 53 (N4 hK h10)) (aa (bU 0) bE)))) (aw 2 3 1 (ak 1 ?_));obtain⟨v15,h11,h⟩:=bind_some h;exact aB (Jk hK h11) (ac (bP 4 5 3 2 (ak 1 (aA (bz aY v1) (ac (iD 2 2 1 (bJ [6,7,11,12,13,56,57,58] [6,11] [] (wu 114 11 66 59 67 (ag 0 (cm (p:=pn 1018) n (SY hK n h)))))))))))
theorem Sa(hK:aq K)(m:Nat):zV M w0 r v1 v2 v3 m (vB K n v1 v2 v3 m):=by
 induction m with
 | zero=>intro v8 v9 v10 h;cases h
 | succ m ih=>intro v8 v9 v10 h;have h:uT K n v1 v2 v3 (vB K n v1 v2 v3 m) v8 v9 v10=some r:=h;exact br (Ww hK ih h)
theorem RM(hK:aq K)(h:zW K n v1 v2 v3=some r):aN Tryz.prog 38 [.sl (lm aY v1),.agg (aE v2),iI v3] (fun v s=>v=.agg (List.set (aF ({ r with Kids:=[] }:ae)) 66 (.ref 114))∧look 114 s.r=some ⟨59,67,lm aC r.Kids⟩):=by
 refine bc (cat Tryz.f38 (pn 1)) Tryz.func38 Tryz.ntmps38 fun M w0=>(aZ ⟨[(0,.sl (lm aY v1)),(1,.agg (aE v2)),(2,iI v3)],[],[],[]⟩ ?_);unfold zW at h;refine aw 6 7 3 (ak 1 ?_);obtain⟨v4,h1,h⟩:=bind_some h;exact aB (xe hK h1) (ac (bP 4 5 3 2 (ak 1 (aA (bz aY v1) (ac (ag 1 (cm (p:=pn 58) n (Sa hK n h))))))))
end
noncomputable section
variable(M:Nat→Prop)(w0:aH)(r:(List ae)×Int)(v1:List aj)(v2:aJ)(v3:Int)(v4:cA)(v5:List aM)(v6:List Int)(v13 v14 v15:Int)(v16:List ae)(m1:Nat)(L1:Int→Int→Int→(List ae)→Option ((List ae)×Int))
abbrev ze:Cx:=⟨Tryz.prog,61,M,w0⟩
abbrev Aa:=bodyPost Tryz.prog Tryz.f14 (bq M w0 (fun v s=>v=.tup [.ref 57,iI r.2]∧look 57 s.r=some ⟨59,67,lm aC r.1⟩))
abbrev Lf(ks:List av)(s:AS):=VE (ze M w0) (Aa M w0 r) ks .normal s
abbrev Jn(n:Nat):av:=.c (cat Tryz.f14 (pn n))
abbrev zG:List av:=[.b 0,Jn 63]
abbrev So:List av:=kl (ze M w0) (Aa M w0 r) zG (cat Tryz.f14 (pn 500)) m1::zG
def Db:AS:=⟨[(2,iI (min (max v3 0) 1048576)),(5,.ptr 5 0),(8,.ref 57),(9,iI v13),(10,.sl (lm aY v5)),(11,.ref 1023),(30,iI v14),(31,iI v15)],[(5,aE v2)],[(57,⟨59,67,lm aC v16⟩),(1023,⟨3,1,lm (bG .i64) (v6++[(v5.length:Int)])⟩)],[5,57,1023]⟩
abbrev F0:Prop:=∀{v13:Int} {v14:Int} {v15:Int} {v16:(List ae)},L1 v13 v14 v15 v16=some r→LP (ze M w0) (Aa M w0 r) zG (cat Tryz.f14 (pn 500)) m1 (Db v2 v3 v5 v6 v13 v14 v15 v16)
variable{M w0 r v1 v2 v3 v4 v5 v6 v13 v14 v15 v16 m1 L1}{K:Kn}{n:Nat}
theorem Ss(hK:aq K)(hL1:F0 M w0 r v2 v3 v5 v6 m1 L1)(h:vu K n v2 v3 v5 v6 L1 v13 v14 v15 v16=some r):Lf M w0 r (Jn 500::So M w0 r m1) (Db v2 v3 v5 v6 v13 v14 v15 v16):=by
 unfold vu at h;refine aw 6 7 3 ?_;obtain⟨h20,h⟩|⟨h20,h⟩:=am h
 ·refine ai 32 h20 (cN 18 19 1 3 7 (bJ [2,5,8,9,10,11,12,30,31] [5] [57,1023] ?_));obtain⟨h21,h⟩:=aS h;obtain⟨h22,h⟩:=aS h;obtain⟨h23,h⟩:=aS h;obtain⟨v17,h24,h⟩:=bind_some h;refine bD 1 (nu 34 [.sl (lm aY v5),.ref 1023,iI v15,.eptr 1023 1 (v15.toNat) 0,iI (gD (v6++[(v5.length:Int)]) v15),.ref 1023,iI v15,iI (ab (v15+1)),.eptr 1023 1 (((ab (v15+1))).toNat) 0,iI (gD (v6++[(v5.length:Int)]) ((ab (v15+1)))),.sl (lm aY (List.drop ((gD (v6++[(v5.length:Int)]) v15)).toNat (List.take ((gD (v6++[(v5.length:Int)]) ((ab (v15+1))))).toNat v5))),.agg (aE v2),iI (min (max v3 0) 1048576),.agg (List.set (aF ({ v17 with Kids:=[] }:ae)) 66 (.ref 47))]++nu 13 [.ptr 13 0]) [(13,List.set (aF bp) 66 (.nils))] [(47,⟨59,67,lm aC v17.Kids⟩)] [bT Tryz.prog 61 Tryz.f14 (pn 32050) 15] (ao (vz 3) (bC (dx 1023 1 (bG .i64) (L:=(v6++[(v5.length:Int)])) h21) (bC (ci 3 0 (bG .i64) (bG .i64) (ca h21).2 ((fun _=>rfl))) (ao (vz 3) (bC (dx 1023 1 (bG .i64) (L:=(v6++[(v5.length:Int)])) h22) (bC (ci 3 0 (bG .i64) (bG .i64) (ca h22).2 ((fun _=>rfl))) (bC (zM aY v5 (gD (v6++[(v5.length:Int)]) v15) (gD (v6++[(v5.length:Int)]) ((ab (v15+1)))) 25 (.tmp 34) (some (.tmp 38)) (some (.tmp 43)) 44 (e:=46) (sz:=62) (by kernel_rfl) (by kernel_rfl) (by kernel_rfl) (by kernel_rfl) (by kernel_rfl) (by kernel_rfl) (iz) (fun k hk=>by subst hk;kernel_rfl) h23) (ao (vz 2) (aa (xA 0 1 47 (RM hK h24) (nU (i:=66) (by kernel_rfl))) (aa (nT 0 1 59 13 (List.set (aF bp) 66 (.nils))) (aa (bU 0) bE))))))))))) (bd 7 4 (ak 2 (kA 47 (aA (eV aC ([({ v17 with Y:=v13 }:ae)]:List ae) (new:=[aF ({ v17 with Y:=v13 }:ae)]) (by simp only[List.map_cons,List.map_nil,cQ])) ?_))))
  obtain⟨h25,h⟩:=aS h;exact aA (cy 57 57 59 67 aC (rfl) (dP) h25) (ac (ag 2 (bu (hL1 h))))
 ·refine ai 32 h20 (aG 8 ?_);cases h;exact tm
theorem Wd(hK:aq K)(m:Nat):F0 M w0 r v2 v3 v5 v6 m (vU K n v2 v3 v5 v6 m):=by
 induction m with
 | zero=>intro v13 v14 v15 v16 h;cases h
 | succ m ih=>intro v13 v14 v15 v16 h;have h:vu K n v2 v3 v5 v6 (vU K n v2 v3 v5 v6 m) v13 v14 v15 v16=some r:=h;exact br (Ss hK ih h)
theorem Sp(hK:aq K)(h:zZ K n v1 v2 v3 v4=some r):aN Tryz.prog 14 [.sl (lm aO v1),.agg (aE v2),iI v3,.agg (cR v4)] (fun v s=>v=.tup [.ref 57,iI r.2]∧look 57 s.r=some ⟨59,67,lm aC r.1⟩):=by
 refine bc (cat Tryz.f14 (pn 1)) Tryz.func14 Tryz.ntmps14 fun M w0=>(aZ ⟨[(0,.sl (lm aO v1)),(1,.agg (aE v2)),(2,iI v3),(3,.agg (cR v4))],[],[],[]⟩ ?_);unfold zZ at h;refine aw 14 15 5 (ak 3 ?_);obtain⟨v5,h1,h⟩:=bind_some h;refine dE 1020 (DA hK h1) (fm 1009) (ac (aw 2 3 1 (ak 2 (kA 1020 ?_))));obtain⟨v6,h2,h⟩:=bind_some h;refine dE 1023 (Kt hK h2) (fm 16) (aL 4 1 (aA (bz aY v5) (aL 6 1 ?_)));obtain⟨h3,h⟩:=aS h;exact aA (cy 27 1023 3 1 (bG .i64) (rfl) ((fun _=>rfl)) h3) (ac (bP 4 5 3 2 (ak 1 (aA (bz (bG .i64) (v6++[(v5.length:Int)])) (ac (iD 2 0 1 (bJ [2,5,8,9,10,11,30,31] [5] [1023] (fk 57 8 59 67 (ag 0 (cm (p:=pn 250) n (Wd hK n h)))))))))))
end
noncomputable section
variable(M:Nat→Prop)(w0:aH)(r v4:Bool)  
abbrev Vf(n:Nat):av:=.c (cat Tryz.f6 (pn n))
abbrev MT:Cx:=⟨Tryz.prog,64,M,w0⟩
abbrev q6:=bodyPost Tryz.prog Tryz.f6 (bq M w0 (fun v _=>v=.bool r))
abbrev Wl(ks:List av)(s:AS):=VE (MT M w0) (q6 M w0 r) ks .normal s
def UR:AS:=⟨[(0,.bool v4)],[],[],[]⟩
variable{M w0 r v4}{K:Kn}{n:Nat}
theorem nh(hK:aq K)(h:ki K n v4=some r):Wl M w0 r [Vf 63] (UR v4):=by
 unfold ki at h;refine aG 1 ?_;cases h;exact aU
theorem Ue(hK:aq K)(h:rK K n=some r):aN Tryz.prog 6 [] (fun v _=>v=.bool r):=by
 refine bc (cat Tryz.f6 (pn 1)) Tryz.func6 Tryz.ntmps6 fun M w0=>(aZ ⟨[],[],[],[]⟩ ?_);unfold rK at h;refine aw 14 15 5 (ak 1 ?_);obtain⟨v1,h1,h⟩:=bind_some h;refine aB (xe hK h1) (ac (aw 2 3 1 (bJ [1,2,3] [1] [] ?_)));obtain⟨v2,h2,h⟩:=bind_some h;obtain⟨v3,h3,h⟩:=bind_some h;refine bD 2 (nu 13 [.agg (aE ({ ce with FontSize:=16,LineHeight:=30 }:aJ)),.agg (List.set (aV ({ fJ with Kind:=3,Style:=({ ce with FontSize:=16,LineHeight:=30 }:aJ),Text:=⟨#[97,98,32,32,99,100]⟩ }:aj)) 58 (.nils)),.sl (lm aO [({ fJ with Kind:=3,Style:=({ ce with FontSize:=16,LineHeight:=30 }:aJ),Text:=⟨#[97,98,32,32,99,100]⟩ }:aj)]),.agg (aE ({ ce with FontSize:=16,LineHeight:=30 }:aJ)),.agg (cR v2),.tup [.ref 18,iI v3.2]]++nu 12 [.tup [.ref 18,iI v3.2]]++nu 19 [.ref 18,iI v3.2]) [] [(18,⟨59,67,lm aC v3.1⟩)] [bT Tryz.prog 64 Tryz.f6 (pn 30) 9,bT Tryz.prog 64 Tryz.f6 (pn 30) 10] (ao (vz 2) (bC (eV aO ([({ fJ with Kind:=3,Style:=({ ce with FontSize:=16,LineHeight:=30 }:aJ),Text:=⟨#[97,98,32,32,99,100]⟩ }:aj)]:List aj) (new:=[aV ({ fJ with Kind:=3,Style:=({ ce with FontSize:=16,LineHeight:=30 }:aJ),Text:=⟨#[97,98,32,32,99,100]⟩ }:aj)]) (by simp only[List.map_cons,List.map_nil,dp])) (ao [.v 0 1] (aa (bL 0 1 17 (wR hK h2)) (aa (xA 0 1 18 (Sp hK h3) (rd (i:=0) rfl)) (ao [.v 0 1,.v 0 1,.v 0 2] (aa (bU 0) (aa (bU 1) bE)))))))) (aw 2 3 1 (ak 3 ?_))
 obtain⟨h4,h⟩|⟨h4,h⟩:=am h
 ·refine ay 23 h4 (aL 7 4 ?_);obtain⟨h5,h⟩|⟨h5,h⟩:=am h
  ·refine ay 27 h5 (aL 8 1 (aA (bz aC v3.1) (aL 12 3 ?_)));obtain⟨h6,h⟩|⟨h6,h⟩:=am h
   ·refine ay 32 h6 (aL 16 4 ?_);obtain⟨h7,h⟩|⟨h7,h⟩:=am h
    ·refine ay 36 h7 (aL 17 1 ?_);obtain⟨h8,h⟩:=aS h;refine aA (c9 18 67 aC h8) (aL 19 1 (aA (ci 44 66 aC aF (ca h8).2 (cQ)) (aA (bz aC ((gD v3.1 (0:Int)).Kids)) (aL 24 3 ?_))));obtain⟨h9,h⟩|⟨h9,h⟩:=am h
     ·refine ay 44 h9 (aL 25 1 ?_);obtain⟨h10,h⟩:=aS h;refine aA (c9 18 67 aC h10) (aL 27 1 (aA (ci 44 66 aC aF (ca h10).2 (cQ)) ?_));obtain⟨h11,h⟩:=aS h;refine aA (bM aC aF h11 (dP) (cQ)) (aL 34 5 ?_);obtain⟨h12,h⟩|⟨h12,h⟩:=am h
      ·refine ay 54 h12 (aL 35 1 ?_);obtain⟨h13,h⟩:=aS h;refine aA (c9 18 67 aC h13) (aL 37 1 (aA (ci 44 66 aC aF (ca h13).2 (cQ)) ?_));obtain⟨h14,h⟩:=aS h;exact aA (bM aC aF h14 (dP) (cQ)) (ac (ag 0 (nh hK h)))
      ·exact ay 54 h12 (ac (ag 0 (nh hK h)))
     ·exact ay 44 h9 (ac (ag 0 (nh hK h)))
    ·exact ay 36 h7 (ac (ag 0 (nh hK h)))
   ·exact ay 32 h6 (ac (ag 0 (nh hK h)))
  ·exact ay 27 h5 (ac (ag 0 (nh hK h)))
 ·exact ay 23 h4 (ac (ag 0 (nh hK h)))
end
noncomputable section
variable(M:Nat→Prop)(w0:aH)(r:Bool)(v1:cj)(v2:Bool)  
abbrev Qz(n:Nat):av:=.c (cat Tryz.f51 (pn n))
abbrev JZ:Cx:=⟨Tryz.prog,11,M,w0⟩
abbrev Mv:=bodyPost Tryz.prog Tryz.f51 (bq M w0 (fun v _=>v=.bool r))
abbrev MA(ks:List av)(s:AS):=VE (JZ M w0) (Mv M w0 r) ks .normal s
def Lh:AS:=⟨[(2,.bool v2)],[],[],[]⟩
variable{M w0 r v1 v2}{K:Kn}{n:Nat}
theorem Js(hK:aq K)(h:rg K n v2=some r):MA M w0 r [Qz 7] (Lh v2):=by
 unfold rg at h;refine aG 1 ?_;cases h;exact aU
theorem fl(hK:aq K)(h:dW K n v1=some r):aN Tryz.prog 51 [.agg (fX v1)] (fun v _=>v=.bool r):=by
 refine bc (cat Tryz.f51 (pn 1)) Tryz.func51 Tryz.ntmps51 fun M w0=>(aZ ⟨[(0,.agg (fX v1))],[],[],[]⟩ ?_);unfold dW at h;refine aw 6 7 3 (ak 4 ?_);obtain⟨h1,h⟩|⟨h1,h⟩:=am h
 ·exact ay 6 h1 (ac (ag 0 (Js hK h)))
 ·exact ay 6 h1 (ac (ag 0 (Js hK h)))
end
noncomputable section
variable(M:Nat→Prop)(w0:aH)(r:Bool)(v1:List b9)(v2 v23:Int)(v31 v34 v37 v40 v43:Bool)(m1:Nat)(L1:Int→Option Bool)
abbrev va:Cx:=⟨Tryz.prog,130,M,w0⟩
abbrev wG:=bodyPost Tryz.prog Tryz.f21 (bq M w0 (fun v _=>v=.bool r))
abbrev qD(ks:List av)(s:AS):=VE (va M w0) (wG M w0 r) ks .normal s
abbrev dU(n:Nat):av:=.c (cat Tryz.f21 (pn n))
abbrev BB:List av:=[.b 0,dU 7]
abbrev sa:List av:=kl (va M w0) (wG M w0 r) BB (cat Tryz.f21 (pn 52)) m1::BB
def Qi:AS:=⟨[(0,.sl (lm cd v1)),(1,iI v2),(5,iI v23),(6,.ptr 6 0),(7,iI 3),(125,.bool v43)],[(6,aE ((gD v1 v23).Style))],[],[6]⟩
def LV:AS:=⟨[(0,.sl (lm cd v1)),(1,iI v2),(5,iI v23),(6,.ptr 6 0),(7,iI 2),(125,.bool v40)],[(6,aE ((gD v1 v23).Style))],[],[6]⟩
def Qr:AS:=⟨[(0,.sl (lm cd v1)),(1,iI v2),(5,iI v23),(6,.ptr 6 0),(7,iI 1),(125,.bool v37)],[(6,aE ((gD v1 v23).Style))],[],[6]⟩
def Pz:AS:=⟨[(0,.sl (lm cd v1)),(1,iI v2),(5,iI v23),(6,.ptr 6 0),(7,iI 0),(125,.bool v34)],[(6,aE ((gD v1 v23).Style))],[],[6]⟩
def Tg:AS:=⟨[(0,.sl (lm cd v1)),(1,iI v2),(5,iI v23),(6,.ptr 6 0),(107,.bool v31)],[(6,aE ((gD v1 v23).Style))],[],[6]⟩
def CD:AS:=⟨[(0,.sl (lm cd v1)),(1,iI v2),(5,iI v23)],[],[],[]⟩
abbrev ox:Prop:=∀{v23:Int},L1 v23=some r→LP (va M w0) (wG M w0 r) BB (cat Tryz.f21 (pn 52)) m1 (CD v1 v2 v23)
abbrev jZ(m:Nat):List av:=kl (va M w0) (wG M w0 r) (.b 2 :: .b 1::dU 211::sa M w0 r m1) (cat Tryz.f21 (pn 13468)) m::(.b 2 :: .b 1::dU 211::sa M w0 r m1)
variable{M w0 r v1 v2 v23 v31 v34 v37 v40 v43 m1 L1}{K:Kn}{n:Nat}
theorem Is(hK:aq K)(hL1:ox M w0 r v1 v2 m1 L1)(h:pO K n v1 v2 v23 L1 v43=some r):qD M w0 r (dU 215497 :: .b 3::dU 53875::jZ M w0 r m1 36) (Qi v1 v2 v23 v43):=by
 unfold pO at h;obtain⟨h84,h⟩|⟨h84,h⟩:=am h
 ·refine ai 125 h84 (aG 13 ?_);cases h;exact aU
 ·exact ai 125 h84 (bB (ks':=jZ M w0 r m1 36) 4 ⟨[(0,.sl (lm cd v1)),(1,iI v2),(5,iI v23),(6,.ptr 6 0),(7,iI 4)],[(6,aE ((gD v1 v23).Style))],[],[6]⟩ (bu (br (ag 10 (bu (hL1 h))))))
theorem DJ(hK:aq K)(hL1:ox M w0 r v1 v2 m1 L1)(h:rH K n v1 v2 v23 L1 v40=some r):qD M w0 r (dU 215497 :: .b 3::dU 53875::jZ M w0 r m1 37) (LV v1 v2 v23 v40):=by
 unfold rH at h;obtain⟨h80,h⟩|⟨h80,h⟩:=am h
 ·refine ai 125 h80 (aG 13 ?_);cases h;exact aU
 ·refine ai 125 h80 (bB (ks':=jZ M w0 r m1 37) 4 ⟨[(0,.sl (lm cd v1)),(1,iI v2),(5,iI v23),(6,.ptr 6 0),(7,iI 3)],[(6,aE ((gD v1 v23).Style))],[],[6]⟩ (bu (br (cZ 24 25 3 7 8 (ak 4 ?_)))));obtain⟨v41,h81,h⟩:=bind_some h;refine aB (fl hK h81) (aL 7 2 ?_);obtain⟨h82,h⟩|⟨h82,h⟩:=am h
  ·exact ay 118 h82 (ac (ag 0 (Is hK hL1 h)))
  ·refine ay 118 h82 (aL 11 4 ?_);obtain⟨v42,h83,h⟩:=bind_some h;exact aB (fl hK h83) (ac (ag 0 (Is hK hL1 h)))
theorem F6(hK:aq K)(hL1:ox M w0 r v1 v2 m1 L1)(h:rk K n v1 v2 v23 L1 v37=some r):qD M w0 r (dU 215497 :: .b 3::dU 53875::jZ M w0 r m1 38) (Qr v1 v2 v23 v37):=by
 unfold rk at h;obtain⟨h76,h⟩|⟨h76,h⟩:=am h
 ·refine ai 125 h76 (aG 13 ?_);cases h;exact aU
 ·refine ai 125 h76 (bB (ks':=jZ M w0 r m1 38) 4 ⟨[(0,.sl (lm cd v1)),(1,iI v2),(5,iI v23),(6,.ptr 6 0),(7,iI 2)],[(6,aE ((gD v1 v23).Style))],[],[6]⟩ (bu (br (cZ 24 25 3 7 8 (ak 4 ?_)))));obtain⟨v38,h77,h⟩:=bind_some h;refine aB (fl hK h77) (aL 7 2 ?_);obtain⟨h78,h⟩|⟨h78,h⟩:=am h
  ·exact ay 118 h78 (ac (ag 0 (DJ hK hL1 h)))
  ·refine ay 118 h78 (aL 11 4 ?_);obtain⟨v39,h79,h⟩:=bind_some h;exact aB (fl hK h79) (ac (ag 0 (DJ hK hL1 h)))
theorem FB(hK:aq K)(hL1:ox M w0 r v1 v2 m1 L1)(h:sD K n v1 v2 v23 L1 v34=some r):qD M w0 r (dU 215497 :: .b 3::dU 53875::jZ M w0 r m1 39) (Pz v1 v2 v23 v34):=by
 unfold sD at h;obtain⟨h72,h⟩|⟨h72,h⟩:=am h
 ·refine ai 125 h72 (aG 13 ?_);cases h;exact aU
 ·refine ai 125 h72 (bB (ks':=jZ M w0 r m1 39) 4 ⟨[(0,.sl (lm cd v1)),(1,iI v2),(5,iI v23),(6,.ptr 6 0),(7,iI 1)],[(6,aE ((gD v1 v23).Style))],[],[6]⟩ (bu (br (cZ 24 25 3 7 8 (ak 4 ?_)))));obtain⟨v35,h73,h⟩:=bind_some h;refine aB (fl hK h73) (aL 7 2 ?_);obtain⟨h74,h⟩|⟨h74,h⟩:=am h
  ·exact ay 118 h74 (ac (ag 0 (F6 hK hL1 h)))
  ·refine ay 118 h74 (aL 11 4 ?_);obtain⟨v36,h75,h⟩:=bind_some h;exact aB (fl hK h75) (ac (ag 0 (F6 hK hL1 h)))
theorem eX(hK:aq K)(hL1:ox M w0 r v1 v2 m1 L1)(h:dw K n v1 v2 v23 L1 v31=some r):qD M w0 r (dU 3365::dU 1683 :: .b 1::dU 211::sa M w0 r m1) (Tg v1 v2 v23 v31):=by
 unfold dw at h;obtain⟨h68,h⟩|⟨h68,h⟩:=am h
 ·refine ai 107 h68 (aG 10 ?_);cases h;exact aU
 ·refine ai 107 h68 (bB (ks':=dU 6734 :: .b 2 :: .b 1::dU 211::sa M w0 r m1) 5 ⟨[(0,.sl (lm cd v1)),(1,iI v2),(5,iI v23),(6,.ptr 6 0),(7,iI 0)],[(6,aE ((gD v1 v23).Style))],[],[6]⟩ (nR 40 (c:=cat Tryz.f21 [1,0,1,0,0,1,0,0,1,1,1,0,0]) (by kernel_rfl) (br (cr (ks':=dU 215496::dU 215497 :: .b 3::dU 53875::jZ M w0 r m1 39) 8 (ak 4 ?_)))));obtain⟨v32,h69,h⟩:=bind_some h;refine aB (fl hK h69) (aL 7 2 ?_);obtain⟨h70,h⟩|⟨h70,h⟩:=am h
  ·exact ay 118 h70 (ac (ag 0 (FB hK hL1 h)))
  ·refine ay 118 h70 (aL 11 4 ?_);obtain⟨v33,h71,h⟩:=bind_some h;exact aB (fl hK h71) (ac (ag 0 (FB hK hL1 h)))
theorem VR(hK:aq K)(hL1:ox M w0 r v1 v2 m1 L1)(h:j8 K n v1 v2 L1 v23=some r):qD M w0 r (dU 52::sa M w0 r m1) (CD v1 v2 v23):=by
 unfold j8 at h;refine bP 4 5 3 2 (ak 2 (aA (bz cd v1) (ac ?_)));obtain⟨h43,h⟩|⟨h43,h⟩:=am h
 ·refine ai 11 h43 (cN 8 9 1 3 5 (ak 2 ?_));obtain⟨h44,h⟩:=aS h;refine aA (bM cd cd h44 (xl) ((fun _=>rfl))) (ac (bP 4 5 3 2 (ak 2 ?_)));obtain⟨h45,h⟩:=aS h;refine aA (bM cd cd h45 (xl) ((fun _=>rfl))) (aL 8 5 ?_);obtain⟨h46,h⟩|⟨h46,h⟩:=am h
  ·exact ay 26 h46 (ac (ag 0 (eX hK hL1 h)))
  ·refine ay 26 h46 (aL 10 2 ?_);obtain⟨v24,h47,h⟩:=bind_some h;refine aB (fl hK h47) (aL 14 3 ?_);obtain⟨h48,h⟩|⟨h48,h⟩:=am h
   ·exact ay 32 h48 (ac (ag 0 (eX hK hL1 h)))
   ·refine ay 32 h48 (aL 16 2 ?_);obtain⟨v25,h49,h⟩:=bind_some h;refine aB (fl hK h49) (aL 20 3 ?_);obtain⟨h50,h⟩|⟨h50,h⟩:=am h
    ·exact ay 38 h50 (ac (ag 0 (eX hK hL1 h)))
    ·refine ay 38 h50 (aL 22 2 ?_);obtain⟨v26,h51,h⟩:=bind_some h;refine aB (fl hK h51) (aL 26 3 ?_);obtain⟨h52,h⟩|⟨h52,h⟩:=am h
     ·exact ay 44 h52 (ac (ag 0 (eX hK hL1 h)))
     ·refine ay 44 h52 (aL 28 2 ?_);obtain⟨v27,h53,h⟩:=bind_some h;refine aB (fl hK h53) (aL 32 3 ?_);obtain⟨h54,h⟩|⟨h54,h⟩:=am h
      ·exact ay 50 h54 (ac (ag 0 (eX hK hL1 h)))
      ·refine ay 50 h54 (aL 34 2 ?_);obtain⟨v28,h55,h⟩:=bind_some h;refine aB (fl hK h55) (aL 38 3 ?_);obtain⟨h56,h⟩|⟨h56,h⟩:=am h
       ·exact ay 56 h56 (ac (ag 0 (eX hK hL1 h)))
       ·refine ay 56 h56 (aL 40 2 ?_);obtain⟨v29,h57,h⟩:=bind_some h;refine aB (fl hK h57) (aL 44 3 ?_);obtain⟨h58,h⟩|⟨h58,h⟩:=am h
        ·exact ay 62 h58 (ac (ag 0 (eX hK hL1 h)))
        ·refine ay 62 h58 (aL 46 2 ?_);obtain⟨v30,h59,h⟩:=bind_some h;refine aB (fl hK h59) (aL 50 3 ?_);obtain⟨h60,h⟩|⟨h60,h⟩:=am h
         ·exact ay 68 h60 (ac (ag 0 (eX hK hL1 h)))
         ·refine ay 68 h60 (aL 55 5 ?_);obtain⟨h61,h⟩|⟨h61,h⟩:=am h
          ·exact ay 73 h61 (ac (ag 0 (eX hK hL1 h)))
          ·refine ay 73 h61 (aL 60 5 ?_);obtain⟨h62,h⟩|⟨h62,h⟩:=am h
           ·exact ay 78 h62 (ac (ag 0 (eX hK hL1 h)))
           ·refine ay 78 h62 (aL 65 5 ?_);obtain⟨h63,h⟩|⟨h63,h⟩:=am h
            ·exact ay 83 h63 (ac (ag 0 (eX hK hL1 h)))
            ·refine ay 83 h63 (aL 70 5 ?_);obtain⟨h64,h⟩|⟨h64,h⟩:=am h
             ·exact ay 88 h64 (ac (ag 0 (eX hK hL1 h)))
             ·refine ay 88 h64 (aL 75 5 ?_);obtain⟨h65,h⟩|⟨h65,h⟩:=am h
              ·exact ay 93 h65 (ac (ag 0 (eX hK hL1 h)))
              ·refine ay 93 h65 (aL 80 5 ?_);obtain⟨h66,h⟩|⟨h66,h⟩:=am h
               ·exact ay 98 h66 (ac (ag 0 (eX hK hL1 h)))
               ·refine ay 98 h66 (aL 85 5 ?_);obtain⟨h67,h⟩|⟨h67,h⟩:=am h
                ·exact ay 103 h67 (ac (ag 0 (eX hK hL1 h)))
                ·exact ay 103 h67 (ac (ag 0 (eX hK hL1 h)))
 ·refine ai 11 h43 (mI 2 3 6 (ak 1 (aA (bz cd v1) (ac (aG 1 ?_)))));cases h;exact aU
theorem RN(hK:aq K)(m:Nat):ox M w0 r v1 v2 m (oD K n v1 v2 m):=by
 induction m with
 | zero=>intro v23 h;cases h
 | succ m ih=>intro v23 h;have h:j8 K n v1 v2 (oD K n v1 v2 m) v23=some r:=h;exact br (VR hK ih h)
theorem Sl(hK:aq K)(h:vo K n v1 v2=some r):aN Tryz.prog 21 [.sl (lm cd v1),iI v2] (fun v _=>v=.bool r):=by
 refine bc (cat Tryz.f21 (pn 1)) Tryz.func21 Tryz.ntmps21 fun M w0=>(aZ ⟨[(0,.sl (lm cd v1)),(1,iI v2)],[],[],[]⟩ ?_);unfold vo at h;exact ag 6 (cm (p:=pn 26) n (RN hK n h))
end
noncomputable section
variable(M:Nat→Prop)(w0:aH)(r:Bool)(v1:List b9)  
variable{M w0 r v1}{K:Kn}{n:Nat}
theorem ME(hK:aq K)(h:uY K n v1=some r):aN Tryz.prog 7 [.sl (lm cd v1)] (fun v _=>v=.bool r):=by
 refine bc (cat Tryz.f7 (pn 1)) Tryz.func7 Tryz.ntmps7 fun M w0=>(aZ ⟨[(0,.sl (lm cd v1))],[],[],[]⟩ ?_);unfold uY at h;refine aw 6 7 3 (ak 1 ?_);obtain⟨v2,h1,h⟩:=bind_some h;refine aB (Sl hK h1) (ac (aG 1 ?_));cases h;exact aU
end
noncomputable section
variable(M:Nat→Prop)(w0:aH)(r:(List aj)×Int)(v1:List b9)(v2 v3 v20:Int)(v21:List aj)(v22:Bool)(v26 v27:Int)(v28:ByteArray)(v29:List aj)(m1:Nat)(L1:Int→(List aj)→Option ((List aj)×Int))
abbrev zb:Cx:=⟨Tryz.prog,84,M,w0⟩
abbrev zw:=bodyPost Tryz.prog Tryz.f30 (bq M w0 (fun v s=>v=.tup [.ref 81,iI r.2]∧look 81 s.r=some ⟨52,59,lm aO r.1⟩))
abbrev y7(ks:List av)(s:AS):=VE (zb M w0) (zw M w0 r) ks .normal s
abbrev gq(n:Nat):av:=.c (cat Tryz.f30 (pn n))
abbrev AE:List av:=[.b 0,gq 15]
abbrev mb:List av:=kl (zb M w0) (zw M w0 r) AE (cat Tryz.f30 (pn 56)) m1::AE
def Sq:AS:=⟨[(0,.sl (lm cd v1)),(1,iI v26),(2,.int .u8 v3),(8,.ref 81),(10,.ptr 10 0)],[(10,aV (⟨v27,(ab (10+v20)),(gD v1 v20).Style,v28,0,0,v29⟩:aj))],[(81,⟨52,59,lm aO v21⟩)],[10,81]⟩
def SE:AS:=⟨[(0,.sl (lm cd v1)),(1,iI v20),(2,.int .u8 v3),(8,.ref 81),(26,.bool v22)],[],[(81,⟨52,59,lm aO v21⟩)],[81]⟩
def De:AS:=⟨[(0,.sl (lm cd v1)),(1,iI v20),(2,.int .u8 v3),(8,.ref 81)],[],[(81,⟨52,59,lm aO v21⟩)],[81]⟩
abbrev wa:Prop:=∀{v20:Int} {v21:(List aj)},L1 v20 v21=some r→LP (zb M w0) (zw M w0 r) AE (cat Tryz.f30 (pn 56)) m1 (De v1 v3 v20 v21)
variable{M w0 r v1 v2 v3 v20 v21 v22 v26 v27 v28 v29 m1 L1}{K:Kn}{n:Nat}
theorem wc(hK:aq K)(hL1:wa M w0 r v1 v3 m1 L1)(h:lI K n v1 v3 v20 v21 L1 v26 v27 v28 v29=some r):y7 M w0 r (.b 2::gq 3631 :: .b 1::mb M w0 r m1) (Sq v1 v3 v20 v21 v26 v27 v28 v29):=by
 unfold lI at h;refine cr (ks':=gq 3631 :: .b 1::mb M w0 r m1) 1 (ak 2 (aA (eV aO ([(⟨v27,(ab (10+v20)),(gD v1 v20).Style,v28,0,0,v29⟩:aj)]:List aj) (new:=[aV (⟨v27,(ab (10+v20)),(gD v1 v20).Style,v28,0,0,v29⟩:aj)]) (by simp only[List.map_cons,List.map_nil,dp])) ?_));obtain⟨h36,h⟩:=aS h;exact aA (cy 81 81 52 59 aO (rfl) (eC) h36) (ac (ag 1 (bu (hL1 h))))
theorem Ex(hK:aq K)(hL1:wa M w0 r v1 v3 m1 L1)(h:kH K n v1 v3 v20 v21 L1 v22=some r):y7 M w0 r (gq 225::gq 113::mb M w0 r m1) (SE v1 v3 v20 v21 v22):=by
 unfold kH at h;obtain⟨h27,h⟩|⟨h27,h⟩:=am h
 ·refine ai 26 h27 (cr (ks':=gq 452::gq 453 :: .b 1::mb M w0 r m1) 4 (ak 2 ?_));obtain⟨h28,h⟩:=aS h;refine aA (bM cd cd h28 (xl) ((fun _=>rfl))) (ac ?_);obtain⟨v23,h29,h⟩:=bW h;obtain⟨v24,h30,h⟩:=bW h;refine bB (ks':=gq 29045 :: .b 2::gq 3631 :: .b 1::mb M w0 r m1) 10 ⟨[(0,.sl (lm cd v1)),(1,iI (ab (v20+1))),(2,.int .u8 v3),(8,.ref 81),(9,.ptr 9 0),(10,.ptr 10 0),(42,.int .u8 v23),(43,.bool v24)],[(9,cd (gD v1 v20)),(10,List.set (aV (⟨3,(ab (10+v20)),(gD v1 v20).Style,(gD v1 v20).Text,0,0,[]⟩:aj)) 58 (.nils))],[(81,⟨52,59,lm aO v21⟩)],[9,10,81]⟩ ?_ (by subst h30;subst h29;kernel_rfl);obtain⟨h31,h⟩|⟨h31,h⟩:=am h
  ·exact ai 43 h31 (cr (ks':=.b 2::gq 3631 :: .b 1::mb M w0 r m1) 4 (rM 10 (ag 0 (wc hK hL1 h))))
  ·refine ai 43 h31 (bd 7 3 ?_);obtain⟨h32,h⟩|⟨h32,h⟩:=am h
   ·refine ai 47 h32 (bd 23 7 (ak 3 (aA (eV aO ([({ fJ with Kind:=3,Style:=(gD v1 v20).Style,Text:=(gD v1 v20).Text }:aj)]:List aj) (new:=[aV ({ fJ with Kind:=3,Style:=(gD v1 v20).Style,Text:=(gD v1 v20).Text }:aj)]) (by simp only[List.map_cons,List.map_nil,dp])) ?_)));obtain⟨h33,h⟩:=aS h;exact aA (Bc 60 52 59 aO (rfl) (eC) h33) (ac (sX 60 (ag 0 (wc hK hL1 h))))
   ·refine ai 47 h32 (bd 7 3 ?_);obtain⟨h34,h⟩|⟨h34,h⟩:=am h
    ·refine ai 62 h34 (aw 4 5 2 (ak 5 ?_));obtain⟨v25,h35,h⟩:=bind_some h;exact aB (hK.wj h35) (ac (ag 7 (wc hK hL1 h)))
    ·exact ai 62 h34 (cr (ks':=.b 2::gq 3631 :: .b 1::mb M w0 r m1) 2 (rM 10 (ag 0 (wc hK hL1 h))))
 ·refine ai 26 h27 (aG 8 ?_);cases h;exact tm
theorem Nv(hK:aq K)(hL1:wa M w0 r v1 v3 m1 L1)(h:lO K n v1 v3 L1 v20 v21=some r):y7 M w0 r (gq 56::mb M w0 r m1) (De v1 v3 v20 v21):=by
 unfold lO at h;refine bP 4 5 3 2 (ak 2 (aA (bz cd v1) (aL 5 2 ?_)));obtain⟨h25,h⟩|⟨h25,h⟩:=am h
 ·refine ay 18 h25 (aL 7 2 ?_);obtain⟨h26,h⟩:=aS h;exact aA (bM cd cd h26 (xl) ((fun _=>rfl))) (ac (ag 0 (Ex hK hL1 h)))
 ·exact ay 18 h25 (ac (ag 0 (Ex hK hL1 h)))
theorem Nr(hK:aq K)(m:Nat):wa M w0 r v1 v3 m (jX K n v1 v3 m):=by
 induction m with
 | zero=>intro v20 v21 h;cases h
 | succ m ih=>intro v20 v21 h;have h:lO K n v1 v3 (jX K n v1 v3 m) v20 v21=some r:=h;exact br (Nv hK ih h)
theorem Gi(hK:aq K)(h:kn K n v1 v2 v3=some r):aN Tryz.prog 30 [.sl (lm cd v1),iI v2,.int .u8 v3] (fun v s=>v=.tup [.ref 81,iI r.2]∧look 81 s.r=some ⟨52,59,lm aO r.1⟩):=by
 refine bc (cat Tryz.f30 (pn 1)) Tryz.func30 Tryz.ntmps30 fun M w0=>(aZ ⟨[(0,.sl (lm cd v1)),(1,iI v2),(2,.int .u8 v3)],[],[],[]⟩ ?_);unfold kn at h;exact fp 28 0 15 6 (bJ [0,1,2,8] [] [] (fk 81 8 52 59 (ag 0 (cm (p:=pn 28) n (Nr hK n h)))))
end
noncomputable section
variable(M:Nat→Prop)(w0:aH)(r:List aj)(v1:List b9)  
variable{M w0 r v1}{K:Kn}{n:Nat}
theorem Es(hK:aq K)(h:oV K n v1=some r):aN Tryz.prog 9 [.sl (lm cd v1)] (fun v s=>v=.ref 1007∧look 1007 s.r=some ⟨52,59,lm aO r⟩):=by
 refine bc (cat Tryz.f9 (pn 1)) Tryz.func9 Tryz.ntmps9 fun M w0=>(aZ ⟨[(0,.sl (lm cd v1))],[],[],[]⟩ ?_);unfold oV at h;refine aw 6 7 3 (ak 1 ?_);obtain⟨v2,h1,h⟩:=bind_some h;refine dE 1007 (Gi hK h1) (rd (i:=0) rfl) (ac (aG 3 ?_));cases h;exact eg
end
noncomputable section
variable(M:Nat→Prop)(w0:aH)(r:Bool)(v1:aj)(v2:Bool)  
abbrev Od(n:Nat):av:=.c (cat Tryz.f62 (pn n))
abbrev Mi:Cx:=⟨Tryz.prog,12,M,w0⟩
abbrev RF:=bodyPost Tryz.prog Tryz.f62 (bq M w0 (fun v _=>v=.bool r))
abbrev NZ(ks:List av)(s:AS):=VE (Mi M w0) (RF M w0 r) ks .normal s
def Lp:AS:=⟨[(2,.bool v2)],[],[],[]⟩
variable{M w0 r v1 v2}{K:Kn}{n:Nat}
theorem IP(hK:aq K)(h:ly K n v2=some r):NZ M w0 r [Od 7] (Lp v2):=by
 unfold ly at h;refine aG 1 ?_;cases h;exact aU
theorem Du(hK:aq K)(h:hH K n v1=some r):aN Tryz.prog 62 [.agg (aV v1)] (fun v _=>v=.bool r):=by
 refine bc (cat Tryz.f62 (pn 1)) Tryz.func62 Tryz.ntmps62 fun M w0=>(aZ ⟨[(0,.agg (aV v1))],[],[],[]⟩ ?_);unfold hH at h;refine aw 6 7 3 (ak 4 ?_);obtain⟨h1,h⟩|⟨h1,h⟩:=am h
 ·exact ay 6 h1 (ac (ag 0 (IP hK h)))
 ·exact ay 6 h1 (ac (ag 0 (IP hK h)))
end
noncomputable section
variable(M:Nat→Prop)(w0:aH)(r:(List Int)×(List Int))(v1:ByteArray)(v2 v4:Nat)(v5 v6:(List Int))(m1:Nat)(L1:Nat→(List Int)→(List Int)→Option ((List Int)×(List Int)))
abbrev yo:Cx:=⟨Tryz.prog,28,M,w0⟩
abbrev AD:=bodyPost Tryz.prog Tryz.f63 (bq M w0 (fun v s=>v=.tup [.ref 17,.sl (lm (bG .i64) r.2)]∧look 17 s.r=some ⟨21,1,lm (bG .i32) r.1⟩))
abbrev Oq(ks:List av)(s:AS):=VE (yo M w0) (AD M w0 r) ks .normal s
abbrev EW(n:Nat):av:=.c (cat Tryz.f63 (pn n))
abbrev xu:List av:=[.b 0,EW 31]
abbrev Pi:List av:=kl (yo M w0) (AD M w0 r) xu (cat Tryz.f63 (pn 244)) m1::xu
def Ea:AS:=⟨[(0,.str v1),(4,.ref 17),(5,.ref 21),(9,.sit 320009 v2 v1 v4)],[],[(17,⟨21,1,lm (bG .i32) v5⟩),(21,⟨3,1,lm (bG .i64) v6⟩)],[17,21,320009]⟩
abbrev E8:Prop:=∀{v4:Nat} {v5:(List Int)} {v6:(List Int)},L1 v4 v5 v6=some r→LP (yo M w0) (AD M w0 r) xu (cat Tryz.f63 (pn 244)) m1 (Ea v1 v2 v4 v5 v6)
variable{M w0 r v1 v2 v4 v5 v6 m1 L1}{K:Kn}{n:Nat}
theorem Pe(hK:aq K)(hv2:w0.w.heap.size≤v2)(hL1:E8 M w0 r v1 v2 m1 L1)(h:qF K n v1 L1 v4 v5 v6=some r):Oq M w0 r (EW 244::Pi M w0 r m1) (Ea v1 v2 v4 v5 v6):=by
 unfold qF at h;refine aw 2 3 1 (ak 0 ?_);obtain⟨h8,h⟩|⟨h8,h⟩:=am h
 ·refine w2 9 (id:=320009) (g:=v2) h8 hv2 (ac (Og 26 27 1 7 (ak 3 ?_)));obtain⟨h9,h⟩:=aS h;refine aA (cy 17 17 21 1 (bG .i32) (rfl) ((fun _=>rfl)) h9) (ac (ak 3 ?_));obtain⟨h10,h⟩:=aS h;exact aA (cy 21 21 3 1 (bG .i64) (rfl) ((fun _=>rfl)) h10) (ac (ag 1 (bu (hL1 h))))
 ·refine t7 9 (id:=320009) (g:=v2) h8 (ac (Fp 2 3 7 (ak 5 ?_)));obtain⟨h11,h⟩:=aS h;refine aA (cy 27 21 3 1 (bG .i64) (rfl) ((fun _=>rfl)) h11) (ac (aG 1 (sX 21 ?_)));cases h;exact tm
theorem RD(hK:aq K)(hv2:w0.w.heap.size≤v2)(m:Nat):E8 M w0 r v1 v2 m (qQ K n v1 m):=by
 induction m with
 | zero=>intro v4 v5 v6 h;cases h
 | succ m ih=>intro v4 v5 v6 h;have h:qF K n v1 (qQ K n v1 m) v4 v5 v6=some r:=h;exact br (Pe hK hv2 ih h)
theorem Wv(hK:aq K)(h:vQ K n v1=some r):aN Tryz.prog 63 [.str v1] (fun v s=>v=.tup [.ref 17,.sl (lm (bG .i64) r.2)]∧look 17 s.r=some ⟨21,1,lm (bG .i32) r.1⟩):=by
 refine bc (cat Tryz.f63 (pn 1)) Tryz.func63 Tryz.ntmps63 fun M w0=>(aZ ⟨[(0,.str v1)],[],[],[]⟩ ?_);unfold vQ at h;exact bP 60 61 31 8 (ak 1 (vG 320009 (b:=v1) fun v2 hv2=>(ac (iD 2 0 1 (bJ [0,4,5,9] [] [] (fk 17 4 21 1 (fk 21 5 3 1 (ag 0 (cm (p:=pn 122) n (RD hK (v2:=v2) hv2 n h))))))))))
end
noncomputable section
variable(M:Nat→Prop)(w0:aH)(r:Bool)(v1:Int)(v2:Bool)  
abbrev NH(n:Nat):av:=.c (cat Tryz.f66 (pn n))
abbrev M6:Cx:=⟨Tryz.prog,17,M,w0⟩
abbrev Pb:=bodyPost Tryz.prog Tryz.f66 (bq M w0 (fun v _=>v=.bool r))
abbrev Qp(ks:List av)(s:AS):=VE (M6 M w0) (Pb M w0 r) ks .normal s
def SM:AS:=⟨[(2,.bool v2)],[],[],[]⟩
variable{M w0 r v1 v2}{K:Kn}{n:Nat}
theorem wM(hK:aq K)(h:n6 K n v2=some r):Qp M w0 r [NH 7] (SM v2):=by
 unfold n6 at h;refine aG 1 ?_;cases h;exact aU
theorem vO(hK:aq K)(h:k8 K n v1=some r):aN Tryz.prog 66 [.int .i32 v1] (fun v _=>v=.bool r):=by
 refine bc (cat Tryz.f66 (pn 1)) Tryz.func66 Tryz.ntmps66 fun M w0=>(aZ ⟨[(0,.int .i32 v1)],[],[],[]⟩ ?_);unfold k8 at h;refine aw 6 7 3 (ak 3 ?_);obtain⟨h1,h⟩|⟨h1,h⟩:=am h
 ·exact ay 5 h1 (ac (ag 0 (wM hK h)))
 ·refine ay 5 h1 (aL 7 4 ?_);obtain⟨h2,h⟩|⟨h2,h⟩:=am h
  ·exact ay 9 h2 (ac (ag 0 (wM hK h)))
  ·refine ay 9 h2 (aL 11 4 ?_);obtain⟨h3,h⟩|⟨h3,h⟩:=am h
   ·exact ay 13 h3 (ac (ag 0 (wM hK h)))
   ·exact ay 13 h3 (ac (ag 0 (wM hK h)))
end
noncomputable section
variable(M:Nat→Prop)(w0:aH)(r:List aI)(v1:aI)(v2:List aI)(v4 v5:aI)(v6:Bool)(v7:aI)  
abbrev lG(n:Nat):av:=.c (cat Tryz.f64 (pn n))
abbrev Ra:Cx:=⟨Tryz.prog,60,M,w0⟩
abbrev Vw:=bodyPost Tryz.prog Tryz.f64 (bq M w0 (fun v s=>v=.ref 9∧dt s.o []∧look 9 s.r=some ⟨54,64,lm aD r⟩))
abbrev wV(ks:List av)(s:AS):=VE (Ra M w0) (Vw M w0 r) ks .normal s
def Tr:AS:=⟨[(0,.ref 9),(3,.ptr 3 0)],[(3,aD v5)],[(9,⟨54,64,lm aD v2⟩)],[3,9]⟩
def WG:AS:=⟨[(0,.ref 9),(3,.ptr 3 0)],[(3,aD v4)],[(9,⟨54,64,lm aD v2⟩)],[3,9]⟩
def UW:AS:=⟨[(0,.ref 9),(3,.ptr 3 0)],[(3,aD v7)],[(9,⟨54,64,lm aD v2⟩)],[3,9]⟩
def VS:AS:=⟨[(0,.ref 9),(3,.ptr 3 0),(52,.bool v6)],[(3,aD v1)],[(9,⟨54,64,lm aD v2⟩)],[3,9]⟩
variable{M w0 r v1 v2 v4 v5 v6 v7}{K:Kn}{n:Nat}
theorem GS(hK:aq K)(h:rS K n v2 v5=some r):wV M w0 r [lG 471,lG 15] (Tr v2 v5):=by
 unfold rS at h;refine aw 2 3 1 (ak 3 ?_);obtain⟨h6,h⟩:=aS h;refine aA (cy 30 9 54 64 aD (rfl) (eE) h6) (ac (aG 2 ?_));cases h;exact fg
theorem Hi(hK:aq K)(h:tN K n v2 v4=some r):wV M w0 r [lG 235,lG 15] (WG v2 v4):=by
 unfold tN at h;refine aw 5 3 3 ?_;obtain⟨h5,h⟩|⟨h5,h⟩:=am h
 ·exact ai 25 h5 (ag 2 (GS hK h))
 ·exact ai 25 h5 (ag 2 (GS hK h))
theorem EZ(hK:aq K)(h:qc K n v2 v7=some r):wV M w0 r [lG 31] (UW v2 v7):=by
 unfold qc at h;refine aw 2 3 1 (ak 3 ?_);obtain⟨h13,h⟩:=aS h;refine aA (cy 59 9 54 64 aD (rfl) (eE) h13) (ac (aG 1 ?_));cases h;exact fg
theorem xK(hK:aq K)(h:pW K n v1 v2 v6=some r):wV M w0 r [lG 489,lG 245,lG 31] (VS v1 v2 v6):=by
 unfold pW at h;obtain⟨h12,h⟩|⟨h12,h⟩:=am h
 ·refine ai 52 h12 (aG 6 ?_);cases h;exact fg
 ·exact ai 52 h12 (ag 5 (EZ hK h))
theorem Kv(hK:aq K)(h:sw K n v1 v2=some r):f0 Tryz.prog 64 [.ref 9,.agg (aD v1)] [] 9 ⟨54,64,lm aD v2⟩ [9] (fun v s=>v=.ref 9∧dt s.o []∧look 9 s.r=some ⟨54,64,lm aD r⟩):=by
 refine mX (c:=cat Tryz.f64 (pn 1)) Tryz.func64 (by kernel_rfl) _ Tryz.ntmps64 (of_decide_eq_true (by kernel_rfl)) fun M w0=>(aZ ⟨[(0,.ref 9),(1,.agg (aD v1))],[],[(9,⟨54,64,lm aD v2⟩)],[9]⟩ ?_);unfold sw at h;refine aw 6 7 3 (ak 2 ?_);obtain⟨v3,h1,h⟩:=bind_some h;refine aB (vO hK h1) (ac (aw 5 3 3 ?_));obtain⟨h2,h⟩|⟨h2,h⟩:=am h
 ·refine ai 13 h2 (aw 9 5 4 ?_);obtain⟨h3,h⟩|⟨h3,h⟩:=am h
  ·refine ai 16 h3 (aG 6 ?_);cases h;exact fg
  ·refine ai 16 h3 (dJ 5 3 5 ?_);obtain⟨h4,h⟩|⟨h4,h⟩:=am h
   ·exact ai 20 h4 (ag 4 (Hi hK h))
   ·exact ai 20 h4 (ag 2 (Hi hK h))
 ·refine ai 13 h2 (dJ 5 3 5 ?_);obtain⟨h7,h⟩|⟨h7,h⟩:=am h
  ·refine ai 31 h7 (bP 8 9 5 3 (ak 1 (aA (bz aD v2) (aL 4 2 ?_))));obtain⟨h8,h⟩|⟨h8,h⟩:=am h
   ·exact ay 35 h8 (ac (ag 0 (xK hK h)))
   ·refine ay 35 h8 (aL 6 2 (aA (bz aD v2) (aL 8 1 ?_)));obtain⟨h9,h⟩:=aS h;refine aA (c9 9 64 aD h9) (aL 10 1 (aA (ci 4 61 aD aD (ca h9).2 ((fun _=>rfl))) (aL 13 2 ?_)));obtain⟨h10,h⟩|⟨h10,h⟩:=am h
    ·exact ay 44 h10 (ac (ag 0 (xK hK h)))
    ·refine ay 44 h10 (aL 15 2 (aA (bz aD v2) (aL 17 1 ?_)));obtain⟨h11,h⟩:=aS h;exact aA (c9 9 64 aD h11) (aL 19 1 (aA (ci 4 62 aD aD (ca h11).2 ((fun _=>rfl))) (ac (ag 0 (xK hK h)))))
  ·exact ai 31 h7 (ag 2 (EZ hK h))
end
noncomputable section
variable(M:Nat→Prop)(w0:aH)(r:List aI)(v1:List aj)(v2:List aI)(v16:Int)(v17:List aI)(v24:(List Int)×(List Int))(v26:Int)(v27 v29 v30:(List aI))(m1 m2:Nat)(L1 L2:Int→(List aI)→Option (List aI))
abbrev s8:Cx:=⟨Tryz.prog,74,M,w0⟩
abbrev tQ:=bodyPost Tryz.prog Tryz.f35 (bq M w0 (fun v s=>v=.ref 9∧dt s.o []∧look 9 s.r=some ⟨54,64,lm aD r⟩))
abbrev xh(ks:List av)(s:AS):=VE (s8 M w0) (tQ M w0 r) ks .normal s
abbrev fG(n:Nat):av:=.c (cat Tryz.f35 (pn n))
abbrev yI:List av:=[.b 0,fG 7]
abbrev lp:List av:=kl (s8 M w0) (tQ M w0 r) yI (cat Tryz.f35 (pn 52)) m1::yI
abbrev Ax:List av:=.b 3 :: .b 2 :: .b 1::fG 211::lp M w0 r m1
abbrev Uc:List av:=kl (s8 M w0) (tQ M w0 r) (Ax M w0 r m1) (cat Tryz.f35 (pn 55177196)) m2::(Ax M w0 r m1)
def J0:AS:=⟨[(0,.ref 9),(1,.sl (lm aO v1)),(5,iI v16)],[],[(9,⟨54,64,lm aD v30⟩)],[9]⟩
def M9:AS:=⟨[(0,.ref 9),(1,.sl (lm aO v1)),(5,iI v16)],[],[(9,⟨54,64,lm aD v29⟩)],[9]⟩
def IL:AS:=⟨[(0,.ref 9),(1,.sl (lm aO v1)),(5,iI v16),(6,.ptr 6 0),(7,iI (v17.length:Int)),(8,.ref 1055),(10,iI v26)],[(6,aV (gD v1 v16))],[(9,⟨54,64,lm aD v27⟩),(1055,⟨21,1,lm (bG .i32) v24.1⟩)],[6,9,1055]⟩
def Dy:AS:=⟨[(0,.ref 9),(1,.sl (lm aO v1)),(5,iI v16)],[],[(9,⟨54,64,lm aD v17⟩)],[9]⟩
abbrev qM:Prop:=∀{v16:Int} {v17:(List aI)},L1 v16 v17=some r→LP (s8 M w0) (tQ M w0 r) yI (cat Tryz.f35 (pn 52)) m1 (Dy v1 v16 v17)
abbrev C3:Prop:=∀{v26:Int} {v27:(List aI)},L2 v26 v27=some r→LP (s8 M w0) (tQ M w0 r) (Ax M w0 r m1) (cat Tryz.f35 (pn 55177196)) m2 (IL v1 v16 v17 v24 v26 v27)
variable{M w0 r v1 v2 v16 v17 v24 v26 v27 v29 v30 m1 m2 L1 L2}{K:Kn}{n:Nat}
theorem GW(hK:aq K)(hL1:qM M w0 r v1 m1 L1)(h:jz K n v1 v16 L1 v30=some r):xh M w0 r (fG 211::lp M w0 r m1) (J0 v1 v16 v30):=by
 unfold jz at h;exact ag 1 (bu (hL1 h))
theorem rL(hK:aq K)(hL1:qM M w0 r v1 m1 L1)(h:gm K n v1 v16 L1 v29=some r):xh M w0 r (.b 2 :: .b 1::fG 211::lp M w0 r m1) (M9 v1 v16 v29):=by
 unfold gm at h;exact ag 2 (GW hK hL1 h)
theorem SN(hK:aq K)(hL1:qM M w0 r v1 m1 L1)(hL2:C3 M w0 r v1 v16 v17 v24 m1 m2 L2)(h:oT K n v1 v16 v17 v24 L1 L2 v26 v27=some r):xh M w0 r (fG 55177196::Uc M w0 r m1 m2) (IL v1 v16 v17 v24 v26 v27):=by
 unfold oT at h;refine bP 4 5 3 2 (ak 2 (aA (bz (bG .i32) v24.1) (ac ?_)));obtain⟨h42,h⟩|⟨h42,h⟩:=am h
 ·refine ai 61 h42 (uI 4 4 3 4 (bJ [0,1,5,6,7,8,10] [6] [9,1055] ?_));obtain⟨h43,h⟩:=aS h;refine I1 8 0 [(64,.ref 9),(65,.agg (aV (gD v1 v16))),(66,iI (v17.length:Int)),(67,.ref 1055),(68,iI v26),(69,.eptr 1055 1 (v26.toNat) 0),(70,.int .i32 (gD v24.1 v26)),(71,.agg (aD ({ ln with Box:=(gD v1 v16),Number:=(v17.length:Int),Char:=(gD v24.1 v26) }:aI)))] [] [] [] (ao (vz 5) (bC (dx 1055 1 (bG .i32) (L:=v24.1) h43) (bC (ci 21 0 (bG .i32) (bG .i32) (ca h43).2 ((fun _=>rfl))) (ao [.v 0 1] (xL))))) ?_;obtain⟨v28,h44,h⟩:=bind_some h;exact jj 9 9 [] (Kv hK h44) (ac (ag 2 (bu (hL2 h))))
 ·exact ai 61 h42 (ag 5 (rL hK hL1 h))
theorem V6(hK:aq K)(hL1:qM M w0 r v1 m1 L1)(m:Nat):C3 M w0 r v1 v16 v17 v24 m1 m (pi K n v1 v16 v17 v24 L1 m):=by
 induction m with
 | zero=>intro v26 v27 h;cases h
 | succ m ih=>intro v26 v27 h;have h:oT K n v1 v16 v17 v24 L1 (pi K n v1 v16 v17 v24 L1 m) v26 v27=some r:=h;exact br (SN hK hL1 ih h)
theorem PI(hK:aq K)(hL1:qM M w0 r v1 m1 L1)(h:oX K n v1 L1 v16 v17=some r):xh M w0 r (fG 52::lp M w0 r m1) (Dy v1 v16 v17):=by
 unfold oX at h;refine bP 4 5 3 2 (ak 2 (aA (bz aO v1) (ac ?_)));obtain⟨h23,h⟩|⟨h23,h⟩:=am h
 ·refine ai 14 h23 (cN 8 9 1 3 5 (ak 2 ?_));obtain⟨h24,h⟩:=aS h;refine aA (bM aO aV h24 (eC) (dp)) (ac (aw 2 3 1 (ak 1 (aA (bz aD v17) (ac (bP 4 5 3 2 (ak 1 ?_)))))));obtain⟨v18,h25,h⟩:=bind_some h;refine aB (Du hK h25) (ac ?_);obtain⟨h26,h⟩|⟨h26,h⟩:=am h
  ·exact ai 25 h26 (ag 4 (GW hK hL1 h))
  ·refine ai 25 h26 ?_;obtain⟨v19,h27,h⟩:=bW h;refine bB (ks':=fG 26941 :: .b 2 :: .b 1::fG 211::lp M w0 r m1) 7 ⟨[(0,.ref 9),(1,.sl (lm aO v1)),(5,iI v16),(6,.ptr 6 0),(7,iI (v17.length:Int)),(27,iI ((gD v1 v16).Kind)),(28,.bool v19)],[(6,aV (gD v1 v16))],[(9,⟨54,64,lm aD v17⟩)],[6,9]⟩ ?_ (by subst h27;kernel_rfl);obtain⟨h28,h⟩|⟨h28,h⟩:=am h
   ·refine ai 28 h28 (bd 2 1 (ak 3 ?_));obtain⟨v20,h29,h⟩:=bind_some h;exact jj 9 9 [] (hK.tZ h29) (ac (ag 0 (rL hK hL1 h)))
   ·refine ai 28 h28 ?_;obtain⟨v21,h30,h⟩:=bW h;refine bB (ks':=fG 107767 :: .b 2 :: .b 1::fG 211::lp M w0 r m1) 3 ⟨[(0,.ref 9),(1,.sl (lm aO v1)),(5,iI v16),(6,.ptr 6 0),(7,iI (v17.length:Int)),(27,iI ((gD v1 v16).Kind)),(34,.bool v21)],[(6,aV (gD v1 v16))],[(9,⟨54,64,lm aD v17⟩)],[6,9]⟩ ?_ (by subst h30;kernel_rfl);obtain⟨h31,h⟩|⟨h31,h⟩:=am h
    ·refine ai 34 h31 (bd 2 1 (ak 5 ?_));obtain⟨h32,h⟩:=aS h;exact aA (cy 41 9 54 64 aD (rfl) (eE) h32) (ac (ag 0 (rL hK hL1 h)))
    ·refine ai 34 h31 ?_;obtain⟨v22,h33,h⟩:=bW h;refine bB (ks':=fG 431071 :: .b 2 :: .b 1::fG 211::lp M w0 r m1) 3 ⟨[(0,.ref 9),(1,.sl (lm aO v1)),(5,iI v16),(6,.ptr 6 0),(7,iI (v17.length:Int)),(27,iI ((gD v1 v16).Kind)),(42,.bool v22)],[(6,aV (gD v1 v16))],[(9,⟨54,64,lm aD v17⟩)],[6,9]⟩ ?_ (by subst h33;kernel_rfl);obtain⟨h34,h⟩|⟨h34,h⟩:=am h
     ·refine ai 42 h34 (bd 2 1 (ak 5 ?_));obtain⟨h35,h⟩:=aS h;exact aA (cy 49 9 54 64 aD (rfl) (eE) h35) (ac (ag 0 (rL hK hL1 h)))
     ·refine ai 42 h34 ?_;obtain⟨v23,h36,h⟩:=bW h;refine bB (ks':=fG 1724287 :: .b 2 :: .b 1::fG 211::lp M w0 r m1) 3 ⟨[(0,.ref 9),(1,.sl (lm aO v1)),(5,iI v16),(6,.ptr 6 0),(7,iI (v17.length:Int)),(50,.bool v23)],[(6,aV (gD v1 v16))],[(9,⟨54,64,lm aD v17⟩)],[6,9]⟩ ?_ (by subst h36;kernel_rfl);obtain⟨h37,h⟩|⟨h37,h⟩:=am h
      ·refine ai 50 h37 (aw 4 5 2 (ak 2 ?_));obtain⟨v24,h38,h⟩:=bind_some h;exact dE 1055 (Wv hK h38) (rd (i:=0) rfl) (ac (ag 3 (cm (p:=pn 27588598) n (V6 hK hL1 n h))))
      ·exact ai 50 h37 (ag 2 (rL hK hL1 h))
 ·refine ai 14 h23 (aG 8 ?_);cases h;exact fg
theorem S6(hK:aq K)(m:Nat):qM M w0 r v1 m (kk K n v1 m):=by
 induction m with
 | zero=>intro v16 v17 h;cases h
 | succ m ih=>intro v16 v17 h;have h:oX K n v1 (kk K n v1 m) v16 v17=some r:=h;exact br (PI hK ih h)
theorem D3(hK:aq K)(h:my K n v1 v2=some r):f0 Tryz.prog 35 [.ref 9,.sl (lm aO v1)] [] 9 ⟨54,64,lm aD v2⟩ [9] (fun v s=>v=.ref 9∧dt s.o []∧look 9 s.r=some ⟨54,64,lm aD r⟩):=by
 refine mX (c:=cat Tryz.f35 (pn 1)) Tryz.func35 (by kernel_rfl) _ Tryz.ntmps35 (of_decide_eq_true (by kernel_rfl)) fun M w0=>(aZ ⟨[(0,.ref 9),(1,.sl (lm aO v1))],[],[(9,⟨54,64,lm aD v2⟩)],[9]⟩ ?_);unfold my at h;exact ag 6 (cm (p:=pn 26) n (S6 hK n h))
end
noncomputable section
variable(M:Nat→Prop)(w0:aH)(r:Bool)(v1:aI)(v2:Bool)  
abbrev WC(n:Nat):av:=.c (cat Tryz.f65 (pn n))
abbrev QG:Cx:=⟨Tryz.prog,15,M,w0⟩
abbrev UD:=bodyPost Tryz.prog Tryz.f65 (bq M w0 (fun v _=>v=.bool r))
abbrev Mq(ks:List av)(s:AS):=VE (QG M w0) (UD M w0 r) ks .normal s
def T3:AS:=⟨[(2,.bool v2)],[],[],[]⟩
variable{M w0 r v1 v2}{K:Kn}{n:Nat}
theorem Ct(hK:aq K)(h:rI K n v2=some r):Mq M w0 r [WC 7] (T3 v2):=by
 unfold rI at h;refine aG 1 ?_;cases h;exact aU
theorem tf(hK:aq K)(h:jq K n v1=some r):aN Tryz.prog 65 [.agg (aD v1)] (fun v _=>v=.bool r):=by
 refine bc (cat Tryz.f65 (pn 1)) Tryz.func65 Tryz.ntmps65 fun M w0=>(aZ ⟨[(0,.agg (aD v1))],[],[],[]⟩ ?_);unfold jq at h;refine aw 6 7 3 (ak 6 ?_);obtain⟨h1,h⟩|⟨h1,h⟩:=am h
 ·exact ay 8 h1 (ac (ag 0 (Ct hK h)))
 ·exact ay 8 h1 (ac (ag 0 (Ct hK h)))
end
noncomputable section
variable(M:Nat→Prop)(w0:aH)(r:Bool)(v1:ByteArray)(v2 v4:Int)(m1:Nat)(L1:Int→Option Bool)
abbrev BF:Cx:=⟨Tryz.prog,18,M,w0⟩
abbrev Ay:=bodyPost Tryz.prog Tryz.f119 (bq M w0 (fun v _=>v=.bool r))
abbrev Vz(ks:List av)(s:AS):=VE (BF M w0) (Ay M w0 r) ks .normal s
abbrev vT(n:Nat):av:=.c (cat Tryz.f119 (pn n))
abbrev yB:List av:=[.b 0,vT 7]
abbrev DF:List av:=kl (BF M w0) (Ay M w0 r) yB (cat Tryz.f119 (pn 52)) m1::yB
def Hd:AS:=⟨[(0,.str v1),(1,.int .i32 v2),(5,iI v4)],[],[],[]⟩
abbrev Fw:Prop:=∀{v4:Int},L1 v4=some r→LP (BF M w0) (Ay M w0 r) yB (cat Tryz.f119 (pn 52)) m1 (Hd v1 v2 v4)
variable{M w0 r v1 v2 v4 m1 L1}{K:Kn}{n:Nat}
theorem VA(hK:aq K)(hL1:Fw M w0 r v1 v2 m1 L1)(h:py K n v1 v2 L1 v4=some r):Vz M w0 r (vT 52::DF M w0 r m1) (Hd v1 v2 v4):=by
 unfold py at h;refine aw 5 3 3 ?_;obtain⟨h5,h⟩|⟨h5,h⟩:=am h
 ·refine ai 9 h5 (cN 8 9 1 3 5 (ak 2 ?_));obtain⟨h6,h⟩:=aS h;refine aA (LX h6) (ac ?_);obtain⟨v5,h7,h⟩:=bW h;refine bB (ks':=vT 841 :: .b 1::vT 211::DF M w0 r m1) 0 ⟨[(0,.str v1),(1,.int .i32 v2),(5,iI v4),(17,.bool v5)],[],[],[]⟩ ?_ (by subst h7;kernel_rfl);obtain⟨h8,h⟩|⟨h8,h⟩:=am h
  ·refine ai 17 h8 (aG 9 ?_);cases h;exact aU
  ·exact ai 17 h8 (ag 4 (bu (hL1 h)))
 ·refine ai 9 h5 (aG 8 ?_);cases h;exact aU
theorem PZ(hK:aq K)(m:Nat):Fw M w0 r v1 v2 m (pf K n v1 v2 m):=by
 induction m with
 | zero=>intro v4 h;cases h
 | succ m ih=>intro v4 h;have h:py K n v1 v2 (pf K n v1 v2 m) v4=some r:=h;exact br (VA hK ih h)
theorem zq(hK:aq K)(h:nY K n v1 v2=some r):aN Tryz.prog 119 [.str v1,.int .i32 v2] (fun v _=>v=.bool r):=by
 refine bc (cat Tryz.f119 (pn 1)) Tryz.func119 Tryz.ntmps119 fun M w0=>(aZ ⟨[(0,.str v1),(1,.int .i32 v2)],[],[],[]⟩ ?_);unfold nY at h;exact ag 6 (cm (p:=pn 26) n (PZ hK n h))
end
noncomputable section
variable(M:Nat→Prop)(w0:aH)(r v1:Int)(v2 v4 v7:Bool)  
abbrev qJ(n:Nat):av:=.c (cat Tryz.f104 (pn n))
abbrev Ph:Cx:=⟨Tryz.prog,43,M,w0⟩
abbrev OO:=bodyPost Tryz.prog Tryz.f104 (bq M w0 (fun v _=>v=iI r))
abbrev B0(ks:List av)(s:AS):=VE (Ph M w0) (OO M w0 r) ks .normal s
def Wm:AS:=⟨[(42,.bool v7)],[],[],[]⟩
def Uz:AS:=⟨[(0,.int .i32 v1),(32,.bool v4)],[],[],[]⟩
def SK:AS:=⟨[(0,.int .i32 v1),(24,.bool v2)],[],[],[]⟩
variable{M w0 r v1 v2 v4 v7}{K:Kn}{n:Nat}
theorem DT(hK:aq K)(h:oQ K n v7=some r):B0 M w0 r [qJ 509,qJ 255] (Wm v7):=by
 unfold oQ at h;obtain⟨h17,h⟩|⟨h17,h⟩:=am h
 ·refine ai 42 h17 (aG 5 ?_);cases h;exact aU
 ·refine ai 42 h17 (aG 5 ?_);cases h;exact aU
theorem Eh(hK:aq K)(h:kD K n v1 v4=some r):B0 M w0 r [qJ 61,qJ 31] (Uz v1 v4):=by
 unfold kD at h;obtain⟨h11,h⟩|⟨h11,h⟩:=am h
 ·refine ai 32 h11 (aG 5 ?_);cases h;exact aU
 ·refine ai 32 h11 (gp 4 5 3 4 (ak 1 ?_));obtain⟨v5,h12,h⟩:=bind_some h;refine aB (zq hK h12) (ac ?_);obtain⟨h13,h⟩|⟨h13,h⟩:=am h
  ·refine ai 34 h13 (aG 5 ?_);cases h;exact aU
  ·refine ai 34 h13 (gp 4 5 3 4 (ak 1 ?_));obtain⟨v6,h14,h⟩:=bind_some h;refine aB (zq hK h14) (ac ?_);obtain⟨h15,h⟩|⟨h15,h⟩:=am h
   ·refine ai 36 h15 (aG 5 ?_);cases h;exact aU
   ·refine ai 36 h15 (gp 4 5 3 4 (ak 3 ?_));obtain⟨h16,h⟩|⟨h16,h⟩:=am h
    ·exact ay 39 h16 (ac (ag 0 (DT hK h)))
    ·exact ay 39 h16 (ac (ag 0 (DT hK h)))
theorem oq(hK:aq K)(h:ir K n v1 v2=some r):B0 M w0 r [qJ 13,qJ 7] (SK v1 v2):=by
 unfold ir at h;obtain⟨h7,h⟩|⟨h7,h⟩:=am h
 ·refine ai 24 h7 (aG 5 ?_);cases h;exact aU
 ·refine ai 24 h7 (dJ 5 3 5 ?_);obtain⟨h8,h⟩|⟨h8,h⟩:=am h
  ·refine ai 26 h8 (aG 5 ?_);cases h;exact aU
  ·refine ai 26 h8 (gp 4 5 3 4 (ak 3 ?_));obtain⟨h9,h⟩|⟨h9,h⟩:=am h
   ·exact ay 29 h9 (ac (ag 0 (Eh hK h)))
   ·refine ay 29 h9 (aL 4 1 ?_);obtain⟨v3,h10,h⟩:=bind_some h;exact aB (zq hK h10) (ac (ag 0 (Eh hK h)))
theorem EF(hK:aq K)(h:qH K n v1=some r):aN Tryz.prog 104 [.int .i32 v1] (fun v _=>v=iI r):=by
 refine bc (cat Tryz.f104 (pn 1)) Tryz.func104 Tryz.ntmps104 fun M w0=>(aZ ⟨[(0,.int .i32 v1)],[],[],[]⟩ ?_);unfold qH at h;refine bP 12 13 7 4 (ak 3 ?_);obtain⟨h1,h⟩|⟨h1,h⟩:=am h
 ·exact ay 5 h1 (ac (ag 0 (oq hK h)))
 ·refine ay 5 h1 (aL 7 4 ?_);obtain⟨h2,h⟩|⟨h2,h⟩:=am h
  ·exact ay 9 h2 (ac (ag 0 (oq hK h)))
  ·refine ay 9 h2 (aL 10 3 ?_);obtain⟨h3,h⟩|⟨h3,h⟩:=am h
   ·refine ay 12 h3 (aL 15 5 ?_);obtain⟨h4,h⟩|⟨h4,h⟩:=am h
    ·exact ay 17 h4 (ac (ag 0 (oq hK h)))
    ·refine ay 17 h4 (aL 18 3 ?_);obtain⟨h5,h⟩|⟨h5,h⟩:=am h
     ·exact ay 20 h5 (ac (ag 0 (oq hK h)))
     ·exact ay 20 h5 (ac (ag 0 (oq hK h)))
   ·refine ay 12 h3 (aL 18 8 ?_);obtain⟨h6,h⟩|⟨h6,h⟩:=am h
    ·exact ay 20 h6 (ac (ag 0 (oq hK h)))
    ·exact ay 20 h6 (ac (ag 0 (oq hK h)))
end
noncomputable section
variable(M:Nat→Prop)(w0:aH)(r:Bool)(v1 v2:Int)(v5 v7 v8:Bool)  
abbrev ss(n:Nat):av:=.c (cat Tryz.f67 (pn n))
abbrev OI:Cx:=⟨Tryz.prog,28,M,w0⟩
abbrev Mg:=bodyPost Tryz.prog Tryz.f67 (bq M w0 (fun v _=>v=.bool r))
abbrev xy(ks:List av)(s:AS):=VE (OI M w0) (Mg M w0 r) ks .normal s
def Nw:AS:=⟨[(4,.bool v8)],[],[],[]⟩
def Vb:AS:=⟨[(0,.int .i32 v1),(1,.int .i32 v2),(21,.bool v7)],[],[],[]⟩
def JN:AS:=⟨[(0,.int .i32 v1),(1,.int .i32 v2),(11,.bool v5)],[],[],[]⟩
variable{M w0 r v1 v2 v5 v7 v8}{K:Kn}{n:Nat}
theorem F5(hK:aq K)(h:s5 K n v8=some r):xy M w0 r [ss 31] (Nw v8):=by
 unfold s5 at h;refine aG 1 ?_;cases h;exact aU
theorem B6(hK:aq K)(h:pD K n v1 v2 v7=some r):xy M w0 r [ss 29,ss 15] (Vb v1 v2 v7):=by
 unfold pD at h;obtain⟨h8,h⟩|⟨h8,h⟩:=am h
 ·refine ai 21 h8 (aG 5 ?_);cases h;exact aU
 ·refine ai 21 h8 (dJ 2 3 3 (ak 3 ?_));obtain⟨h9,h⟩|⟨h9,h⟩:=am h
  ·exact ay 24 h9 (ac (ag 0 (F5 hK h)))
  ·exact ay 24 h9 (ac (ag 0 (F5 hK h)))
theorem Hw(hK:aq K)(h:mF K n v1 v2 v5=some r):xy M w0 r [ss 13,ss 7] (JN v1 v2 v5):=by
 unfold mF at h;obtain⟨h4,h⟩|⟨h4,h⟩:=am h
 ·refine ai 11 h4 (aG 5 ?_);cases h;exact aU
 ·refine ai 11 h4 (gp 4 5 3 4 (ak 1 ?_));obtain⟨v6,h5,h⟩:=bind_some h;refine aB (vO hK h5) (aL 3 1 ?_);obtain⟨h6,h⟩|⟨h6,h⟩:=am h
  ·exact ay 14 h6 (ac (ag 0 (B6 hK h)))
  ·refine ay 14 h6 (aL 6 3 ?_);obtain⟨h7,h⟩|⟨h7,h⟩:=am h
   ·exact ay 17 h7 (ac (ag 0 (B6 hK h)))
   ·exact ay 17 h7 (ac (ag 0 (B6 hK h)))
theorem Wp(hK:aq K)(h:oy K n v1 v2=some r):aN Tryz.prog 67 [.int .i32 v1,.int .i32 v2] (fun v _=>v=.bool r):=by
 refine bc (cat Tryz.f67 (pn 1)) Tryz.func67 Tryz.ntmps67 fun M w0=>(aZ ⟨[(0,.int .i32 v1),(1,.int .i32 v2)],[],[],[]⟩ ?_);unfold oy at h;refine bP 12 13 7 4 (ak 1 ?_);obtain⟨v3,h1,h⟩:=bind_some h;refine aB (vO hK h1) (aL 3 1 ?_);obtain⟨h2,h⟩|⟨h2,h⟩:=am h
 ·exact ay 7 h2 (ac (ag 0 (Hw hK h)))
 ·refine ay 7 h2 (aL 4 1 ?_);obtain⟨v4,h3,h⟩:=bind_some h;exact aB (EF hK h3) (ac (ag 0 (Hw hK h)))
end
noncomputable section
variable(M:Nat→Prop)(w0:aH)(r:Bool)(v1 v2:aI)(v3 v4 v8 v12:Bool)  
abbrev lc(n:Nat):av:=.c (cat Tryz.f36 (pn n))
abbrev MR:Cx:=⟨Tryz.prog,50,M,w0⟩
abbrev Tq:=bodyPost Tryz.prog Tryz.f36 (bq M w0 (fun v _=>v=.bool r))
abbrev wD(ks:List av)(s:AS):=VE (MR M w0) (Tq M w0 r) ks .normal s
def J5:AS:=⟨[(4,.bool v8)],[],[],[]⟩
def Pk:AS:=⟨[(2,.ptr 2 0),(3,.ptr 3 0),(44,.bool v12)],[(2,aD v1),(3,aD v2)],[],[2,3]⟩
def Qk:AS:=⟨[(2,.ptr 2 0),(3,.ptr 3 0),(16,.bool v4)],[(2,aD v1),(3,aD v2)],[],[2,3]⟩
def Qm:AS:=⟨[(2,.ptr 2 0),(3,.ptr 3 0),(10,.bool v3)],[(2,aD v1),(3,aD v2)],[],[2,3]⟩
variable{M w0 r v1 v2 v3 v4 v8 v12}{K:Kn}{n:Nat}
theorem tI(hK:aq K)(h:mq K n v8=some r):wD M w0 r [lc 117,lc 15] (J5 v8):=by
 unfold mq at h;refine aG 2 ?_;cases h;exact aU
theorem yP(hK:aq K)(h:mJ K n v1 v2 v12=some r):wD M w0 r [lc 61,lc 31] (Pk v1 v2 v12):=by
 unfold mJ at h;obtain⟨h17,h⟩|⟨h17,h⟩:=am h
 ·refine ai 44 h17 (aG 5 ?_);cases h;exact aU
 ·refine ai 44 h17 (dJ 2 3 3 (ak 4 ?_));obtain⟨v13,h18,h⟩:=bind_some h;refine aB (Wp hK h18) (ac (aG 1 ?_));cases h;exact aU
theorem Gn(hK:aq K)(h:oL K n v1 v2 v4=some r):wD M w0 r [lc 29,lc 15] (Qk v1 v2 v4):=by
 unfold oL at h;obtain⟨h4,h⟩|⟨h4,h⟩:=am h
 ·refine ai 16 h4 (aw 4 5 2 (ak 3 ?_));obtain⟨h5,h⟩|⟨h5,h⟩:=am h
  ·refine ay 19 h5 (aL 10 7 ?_);obtain⟨h6,h⟩|⟨h6,h⟩:=am h
   ·exact ay 26 h6 (ac (ag 0 (tI hK h)))
   ·refine ay 26 h6 (aL 11 1 ?_);obtain⟨v5,h7,h⟩:=bind_some h;exact aB (tf hK h7) (ac (ag 0 (tI hK h)))
  ·refine ay 19 h5 (aL 4 1 ?_);obtain⟨v6,h8,h⟩:=bind_some h;refine aB (tf hK h8) (aL 7 2 ?_);obtain⟨h9,h⟩|⟨h9,h⟩:=am h
   ·refine ay 23 h9 (aL 10 3 ?_);obtain⟨h10,h⟩|⟨h10,h⟩:=am h
    ·exact ay 26 h10 (ac (ag 0 (tI hK h)))
    ·refine ay 26 h10 (aL 11 1 ?_);obtain⟨v7,h11,h⟩:=bind_some h;exact aB (tf hK h11) (ac (ag 0 (tI hK h)))
   ·exact ay 23 h9 (ac (ag 0 (tI hK h)))
 ·refine ai 16 h4 (gp 4 5 3 4 (ak 1 ?_));obtain⟨v9,h12,h⟩:=bind_some h;refine aB (tf hK h12) (aL 4 2 ?_);obtain⟨h13,h⟩|⟨h13,h⟩:=am h
  ·exact ay 34 h13 (ac (ag 0 (yP hK h)))
  ·refine ay 34 h13 (aL 6 2 ?_);obtain⟨v10,h14,h⟩:=bind_some h;refine aB (vO hK h14) (aL 9 2 ?_);obtain⟨h15,h⟩|⟨h15,h⟩:=am h
   ·refine ay 39 h15 (aL 10 1 ?_);obtain⟨v11,h16,h⟩:=bind_some h;exact aB (tf hK h16) (ac (ag 0 (yP hK h)))
   ·exact ay 39 h15 (ac (ag 0 (yP hK h)))
theorem Jb(hK:aq K)(h:jH K n v1 v2 v3=some r):wD M w0 r [lc 13,lc 7] (Qm v1 v2 v3):=by
 unfold jH at h;obtain⟨h2,h⟩|⟨h2,h⟩:=am h
 ·refine ai 10 h2 (aG 5 ?_);cases h;exact aU
 ·refine ai 10 h2 (gp 4 5 3 4 (ak 3 ?_));obtain⟨h3,h⟩|⟨h3,h⟩:=am h
  ·exact ay 13 h3 (ac (ag 0 (Gn hK h)))
  ·exact ay 13 h3 (ac (ag 0 (Gn hK h)))
theorem L8(hK:aq K)(h:sM K n v1 v2=some r):aN Tryz.prog 36 [.agg (aD v1),.agg (aD v2)] (fun v _=>v=.bool r):=by
 refine bc (cat Tryz.f36 (pn 1)) Tryz.func36 Tryz.ntmps36 fun M w0=>(aZ ⟨[(0,.agg (aD v1)),(1,.agg (aD v2))],[],[],[]⟩ ?_);unfold sM at h;refine bP 12 13 7 4 (ak 3 ?_);obtain⟨h1,h⟩|⟨h1,h⟩:=am h
 ·exact ay 7 h1 (ac (ag 0 (Jb hK h)))
 ·exact ay 7 h1 (ac (ag 0 (Jb hK h)))
end
noncomputable section
variable(M:Nat→Prop)(w0:aH)(r v1:Int)  
variable{M w0 r v1}{K:Kn}{n:Nat}
theorem gj(hK:aq K)(h:dS K n v1=some r):aN Tryz.prog 39 [iI v1] (fun v _=>v=iI r):=by
 refine bc (cat Tryz.f39 (pn 1)) Tryz.func39 Tryz.ntmps39 fun M w0=>(aZ ⟨[(0,iI v1)],[],[],[]⟩ ?_);unfold dS at h;refine aG 5 ?_;cases h;exact aU
end
noncomputable section
variable(M:Nat→Prop)(w0:aH)(r v1:Int)  
variable{M w0 r v1}{K:Kn}{n:Nat}
theorem yJ(hK:aq K)(h:g8 K n v1=some r):aN Tryz.prog 120 [iI v1] (fun v _=>v=iI r):=by
 refine bc (cat Tryz.f120 (pn 1)) Tryz.func120 Tryz.ntmps120 fun M w0=>(aZ ⟨[(0,iI v1)],[],[],[]⟩ ?_);unfold g8 at h;refine aG 5 ?_;cases h;exact aU
end
noncomputable section
variable(M:Nat→Prop)(w0:aH)(r:Int×Bool)(v1:cj)(v2:Int)  
variable{M w0 r v1 v2}{K:Kn}{n:Nat}
theorem eO(hK:aq K)(h:dq K n v1 v2=some r):aN Tryz.prog 105 [.agg (fX v1),iI v2] (fun v _=>v=.tup [iI r.1,.bool r.2]):=by
 refine bc (cat Tryz.f105 (pn 1)) Tryz.func105 Tryz.ntmps105 fun M w0=>(aZ ⟨[(0,.agg (fX v1)),(1,iI v2)],[],[],[]⟩ ?_);unfold dq at h;refine fp 53 0 7 8 ?_;obtain⟨h1,h⟩|⟨h1,h⟩:=am h
 ·refine ai 8 h1 (aw 4 5 2 (ak 2 ?_));obtain⟨v3,h2,h⟩:=bind_some h;refine aB (yJ hK h2) (ac (aG 3 ?_));cases h;exact dV
 ·refine ai 8 h1 (bd 7 3 ?_);obtain⟨h3,h⟩|⟨h3,h⟩:=am h
  ·refine ai 13 h3 (aw 4 5 2 (bJ [1,2] [2] [] ?_));obtain⟨v4,h4,h⟩:=bind_some h;obtain⟨v5,h5,h⟩:=bind_some h;refine bD 2 (nu 15 [iI v2,iI v4,.ptr 2 1,iI v1.Value,iI (max v1.Value (-1000000)),iI (min (max v1.Value (-1000000)) 1000000),iI (ab (v4*(min (max v1.Value (-1000000)) 1000000))),iI (ab (Int.tdiv (ab (v4*(min (max v1.Value (-1000000)) 1000000))) 10000)),iI v5]) [] [] [bT Tryz.prog 24 Tryz.f105 (pn 860) 9,bT Tryz.prog 24 Tryz.f105 (pn 860) 10] (ao [.v 0 1] (aa (bL 0 1 16 (gj hK h4)) (ao (vz 6) (aa (bL 0 1 23 (yJ hK h5)) (aa (bU 0) (aa (bU 1) bE)))))) (aG 3 ?_);cases h;exact dV
  ·refine ai 13 h3 (aG 6 ?_);cases h;exact dV
end
noncomputable section
variable(M:Nat→Prop)(w0:aH)(r:aP)(v1:aJ)(v2 v3:Int)  
abbrev nX(n:Nat):av:=.c (cat Tryz.f68 (pn n))
abbrev Tf:Cx:=⟨Tryz.prog,55,M,w0⟩
abbrev Pn:=bodyPost Tryz.prog Tryz.f68 (bq M w0 (fun v _=>v=.agg (bg r)))
abbrev rO(m:Nat):List av:=kl (Tf M w0) (Pn M w0 r) [.b 0,nX 15] (cat Tryz.f68 (pn 116)) m::[.b 0,nX 15]
variable{M w0 r v1 v2 v3}{K:Kn}{n:Nat}
theorem w3(hK:aq K)(h:iw K n v1 v2 v3=some r):aN Tryz.prog 68 [.agg (aE v1),iI v2,iI v3] (fun v _=>v=.agg (bg r)):=by
 refine bc (cat Tryz.f68 (pn 1)) Tryz.func68 Tryz.ntmps68 fun M w0=>(aZ ⟨[(0,.agg (aE v1)),(1,iI v2),(2,iI v3)],[],[],[]⟩ ?_);unfold iw at h;refine bB (ks':=[nX 58,.b 0,nX 15]) 8 ⟨[(1,iI v2),(3,.ptr 3 0),(6,.ptr 6 0),(7,.ptr 7 0),(8,iI 0)],[(3,aE v1),(6,bg dr),(7,bg ({ dr with Content:=v3 }:aP))],[],[3,6,7]⟩ (nR 40 (c:=cat Tryz.f68 [1,1,0,1,0,0]) (by kernel_rfl) (br (cr (ks':=nX 1864::nX 1865 :: .b 1::nX 467::rO M w0 r 39) 8 (ak 5 ?_))));obtain⟨v4,h1,h⟩:=bind_some h;refine aB (eO hK h1) (ac (aw 2 3 1 (ak 5 ?_)));obtain⟨v5,h2,h⟩:=bind_some h;refine aB (eO hK h2) (ac (bd 7 4 (ak 5 ?_)));obtain⟨v6,h3,h⟩:=bind_some h;refine aB (gj hK h3) (ac (bB (ks':=rO M w0 r 39) 2 ⟨[(1,iI v2),(3,.ptr 3 0),(6,.ptr 6 0),(7,.ptr 7 0),(8,iI 1)],[(3,aE v1),(6,bg dr),(7,bg (⟨⟨v4.1,0,0,0⟩,⟨v6,0,0,0⟩,⟨(max v5.1 0),0,0,0⟩,v3⟩:aP))],[],[3,6,7]⟩ (bu (br (cZ 24 25 1 7 8 (ak 5 ?_))))));obtain⟨v7,h4,h⟩:=bind_some h
 refine aB (eO hK h4) (ac (aw 2 3 1 (ak 5 ?_)));obtain⟨v8,h5,h⟩:=bind_some h;refine aB (eO hK h5) (ac (bd 7 4 (ak 5 ?_)));obtain⟨v9,h6,h⟩:=bind_some h;refine aB (gj hK h6) (ac (bB (ks':=rO M w0 r 38) 2 ⟨[(1,iI v2),(3,.ptr 3 0),(6,.ptr 6 0),(7,.ptr 7 0),(8,iI 2)],[(3,aE v1),(6,bg dr),(7,bg (⟨⟨v4.1,v7.1,0,0⟩,⟨v6,v9,0,0⟩,⟨(max v5.1 0),(max v8.1 0),0,0⟩,v3⟩:aP))],[],[3,6,7]⟩ (bu (br (cZ 24 25 1 7 8 (ak 5 ?_))))));obtain⟨v10,h7,h⟩:=bind_some h;refine aB (eO hK h7) (ac (aw 2 3 1 (ak 5 ?_)));obtain⟨v11,h8,h⟩:=bind_some h;refine aB (eO hK h8) (ac (bd 7 4 (ak 5 ?_)));obtain⟨v12,h9,h⟩:=bind_some h;refine aB (gj hK h9) (ac (bB (ks':=rO M w0 r 37) 2 ⟨[(1,iI v2),(3,.ptr 3 0),(6,.ptr 6 0),(7,.ptr 7 0),(8,iI 3)],[(3,aE v1),(6,bg dr),(7,bg (⟨⟨v4.1,v7.1,v10.1,0⟩,⟨v6,v9,v12,0⟩,⟨(max v5.1 0),(max v8.1 0),(max v11.1 0),0⟩,v3⟩:aP))],[],[3,6,7]⟩ (bu (br (cZ 24 25 1 7 8 (ak 5 ?_))))));obtain⟨v13,h10,h⟩:=bind_some h
 refine aB (eO hK h10) (ac (aw 2 3 1 (ak 5 ?_)));obtain⟨v14,h11,h⟩:=bind_some h;refine aB (eO hK h11) (ac (bd 7 4 (ak 5 ?_)));obtain⟨v15,h12,h⟩:=bind_some h;refine aB (gj hK h12) (ac (bB (ks':=rO M w0 r 36) 2 ⟨[(1,iI v2),(3,.ptr 3 0),(6,.ptr 6 0),(7,.ptr 7 0),(8,iI 4)],[(3,aE v1),(6,bg dr),(7,bg (⟨⟨v4.1,v7.1,v10.1,v13.1⟩,⟨v6,v9,v12,v15⟩,⟨(max v5.1 0),(max v8.1 0),(max v11.1 0),(max v14.1 0)⟩,v3⟩:aP))],[],[3,6,7]⟩ (bu (br (aG 11 ?_)))));cases h;exact aU
end
noncomputable section
variable(M:Nat→Prop)(w0:aH)(r:Int)(v1:aP)  
variable{M w0 r v1}{K:Kn}{n:Nat}
theorem sA(hK:aq K)(h:g9 K n v1=some r):aN Tryz.prog 71 [.agg (bg v1)] (fun v _=>v=iI r):=by
 refine bc (cat Tryz.f71 (pn 1)) Tryz.func71 Tryz.ntmps71 fun M w0=>(aZ ⟨[(0,.agg (bg v1))],[],[],[]⟩ ?_);unfold g9 at h;refine aG 5 ?_;cases h;exact aU
end
noncomputable section
variable(M:Nat→Prop)(w0:aH)(r:Int×Int)(v1:List aj)(v2:aJ)(v3 v4 v5:Int)(m1:Nat)(L1:Int→Int→Int→Option (Int×Int))
abbrev yG:Cx:=⟨Tryz.prog,31,M,w0⟩
abbrev Bd:=bodyPost Tryz.prog Tryz.f34 (bq M w0 (fun v _=>v=.tup [iI r.1,iI r.2]))
abbrev PA(ks:List av)(s:AS):=VE (yG M w0) (Bd M w0 r) ks .normal s
abbrev EP(n:Nat):av:=.c (cat Tryz.f34 (pn n))
abbrev Bn:List av:=[.b 0,EP 31]
abbrev VC:List av:=kl (yG M w0) (Bd M w0 r) Bn (cat Tryz.f34 (pn 244)) m1::Bn
def CA:AS:=⟨[(0,.sl (lm aO v1)),(6,iI v3),(7,iI v4),(8,iI v5)],[],[],[]⟩
abbrev Iq:Prop:=∀{v3:Int} {v4:Int} {v5:Int},L1 v3 v4 v5=some r→LP (yG M w0) (Bd M w0 r) Bn (cat Tryz.f34 (pn 244)) m1 (CA v1 v3 v4 v5)
variable{M w0 r v1 v2 v3 v4 v5 m1 L1}{K:Kn}{n:Nat}
theorem Vq(hK:aq K)(hL1:Iq M w0 r v1 m1 L1)(h:gl K n v1 L1 v3 v4 v5=some r):PA M w0 r (EP 244::VC M w0 r m1) (CA v1 v3 v4 v5):=by
 unfold gl at h;refine bP 4 5 3 2 (ak 2 (aA (bz aO v1) (ac ?_)));obtain⟨h3,h⟩|⟨h3,h⟩:=am h
 ·refine ai 13 h3 (cN 8 9 1 3 5 (ak 2 ?_));obtain⟨h4,h⟩:=aS h;exact aA (bM aO aV h4 (eC) (dp)) (ac (ag 5 (bu (hL1 h))))
 ·refine ai 13 h3 (aG 8 ?_);cases h;exact dV
theorem RP(hK:aq K)(m:Nat):Iq M w0 r v1 m (iL K n v1 m):=by
 induction m with
 | zero=>intro v3 v4 v5 h;cases h
 | succ m ih=>intro v3 v4 v5 h;have h:gl K n v1 (iL K n v1 m) v3 v4 v5=some r:=h;exact br (Vq hK ih h)
theorem It(hK:aq K)(h:iA K n v1 v2=some r):aN Tryz.prog 34 [.sl (lm aO v1),.agg (aE v2)] (fun v _=>v=.tup [iI r.1,iI r.2]):=by
 refine bc (cat Tryz.f34 (pn 1)) Tryz.func34 Tryz.ntmps34 fun M w0=>(aZ ⟨[(0,.sl (lm aO v1)),(1,.agg (aE v2))],[],[],[]⟩ ?_);unfold iA at h;exact ag 10 (cm (p:=pn 122) n (RP hK n h))
end
noncomputable section
variable(M:Nat→Prop)(w0:aH)(r:Int)(v1:aJ)(v2 v3 v5 v7:Int)  
abbrev GZ(n:Nat):av:=.c (cat Tryz.f106 (pn n))
abbrev SA:Cx:=⟨Tryz.prog,37,M,w0⟩
abbrev VP:=bodyPost Tryz.prog Tryz.f106 (bq M w0 (fun v _=>v=iI r))
abbrev Eo(ks:List av)(s:AS):=VE (SA M w0) (VP M w0 r) ks .normal s
def OM:AS:=⟨[(7,iI v7)],[],[],[]⟩
def Mm:AS:=⟨[(1,iI v2),(3,.ptr 3 0),(7,iI v5)],[(3,aE v1)],[],[3]⟩
variable{M w0 r v1 v2 v3 v5 v7}{K:Kn}{n:Nat}
theorem EQ(hK:aq K)(h:kP K n v7=some r):Eo M w0 r [GZ 127] (OM v7):=by
 unfold kP at h;refine aG 3 ?_;cases h;exact aU
theorem Gp(hK:aq K)(h:lg K n v1 v2 v5=some r):Eo M w0 r [GZ 31] (Mm v1 v2 v5):=by
 unfold lg at h;refine aw 2 3 1 (ak 3 ?_);obtain⟨v6,h3,h⟩:=bind_some h;refine aB (eO hK h3) (ac (aw 5 3 3 ?_));obtain⟨h4,h⟩|⟨h4,h⟩:=am h
 ·exact ai 32 h4 (ag 2 (EQ hK h))
 ·exact ai 32 h4 (ag 2 (EQ hK h))
theorem t6(hK:aq K)(h:gR K n v1 v2 v3=some r):aN Tryz.prog 106 [.agg (aE v1),iI v2,iI v3] (fun v _=>v=iI r):=by
 refine bc (cat Tryz.f106 (pn 1)) Tryz.func106 Tryz.ntmps106 fun M w0=>(aZ ⟨[(0,.agg (aE v1)),(1,iI v2),(2,iI v3)],[],[],[]⟩ ?_);unfold gR at h;refine aw 14 15 5 (ak 3 ?_);obtain⟨v4,h1,h⟩:=bind_some h;refine aB (eO hK h1) (ac (aw 5 3 3 ?_));obtain⟨h2,h⟩|⟨h2,h⟩:=am h
 ·exact ai 20 h2 (ag 2 (Gp hK h))
 ·exact ai 20 h2 (ag 2 (Gp hK h))
end
noncomputable section
variable(M:Nat→Prop)(w0:aH)(r v1:cj)  
variable{M w0 r v1}{K:Kn}{n:Nat}
theorem g7(hK:aq K)(h:eL K n v1=some r):aN Tryz.prog 125 [.agg (fX v1)] (fun v _=>v=.agg (fX r)):=by
 refine bc (cat Tryz.f125 (pn 1)) Tryz.func125 Tryz.ntmps125 fun M w0=>(aZ ⟨[(0,.agg (fX v1))],[],[],[]⟩ ?_);unfold eL at h;refine aw 13 7 5 ?_;obtain⟨h1,h⟩|⟨h1,h⟩:=am h
 ·refine ai 5 h1 (aG 5 ?_);cases h;exact aU
 ·refine ai 5 h1 (aG 5 ?_);cases h;exact aU
end
noncomputable section
variable(M:Nat→Prop)(w0:aH)(r v1:aJ)  
abbrev m8(n:Nat):av:=.c (cat Tryz.f112 (pn n))
abbrev Pa:Cx:=⟨Tryz.prog,37,M,w0⟩
abbrev J7:=bodyPost Tryz.prog Tryz.f112 (bq M w0 (fun v _=>v=.agg (aE r)))
abbrev sT(m:Nat):List av:=kl (Pa M w0) (J7 M w0 r) [.b 0,m8 7] (cat Tryz.f112 (pn 52)) m::[.b 0,m8 7]
variable{M w0 r v1}{K:Kn}{n:Nat}
theorem Wj(hK:aq K)(h:pZ K n v1=some r):aN Tryz.prog 112 [.agg (aE v1)] (fun v _=>v=.agg (aE r)):=by
 refine bc (cat Tryz.f112 (pn 1)) Tryz.func112 Tryz.ntmps112 fun M w0=>(aZ ⟨[(0,.agg (aE v1))],[],[],[]⟩ ?_);unfold pZ at h;refine bB (ks':=[m8 26,.b 0,m8 7]) 6 ⟨[(1,.ptr 1 0),(2,.ptr 2 0),(3,iI 0)],[(1,aE v1),(2,aE ce)],[],[1,2]⟩ (nR 40 (c:=cat Tryz.f112 [1,0,1,0,0]) (by kernel_rfl) (br (cr (ks':=m8 840::m8 841 :: .b 1::m8 211::sT M w0 r 39) 8 (ak 5 ?_))));obtain⟨v2,h1,h⟩:=bind_some h;refine aB (g7 hK h1) (ac (ak 5 ?_));obtain⟨v3,h2,h⟩:=bind_some h;refine aB (g7 hK h2) (ac (bB (ks':=sT M w0 r 39) 2 ⟨[(1,.ptr 1 0),(2,.ptr 2 0),(3,iI 1)],[(1,aE ({ v1 with Margin:=⟨v2,v1.Margin.a1,v1.Margin.a2,v1.Margin.a3⟩,Padding:=⟨v3,v1.Padding.a1,v1.Padding.a2,v1.Padding.a3⟩ }:aJ)),(2,aE ce)],[],[1,2]⟩ (bu (br (cZ 24 25 1 7 8 (ak 5 ?_))))));obtain⟨v4,h3,h⟩:=bind_some h;refine aB (g7 hK h3) (ac (ak 5 ?_));obtain⟨v5,h4,h⟩:=bind_some h;refine aB (g7 hK h4) (ac (bB (ks':=sT M w0 r 38) 2 ⟨[(1,.ptr 1 0),(2,.ptr 2 0),(3,iI 2)],[(1,aE ({ v1 with Margin:=⟨v2,v4,v1.Margin.a2,v1.Margin.a3⟩,Padding:=⟨v3,v5,v1.Padding.a2,v1.Padding.a3⟩ }:aJ)),(2,aE ce)],[],[1,2]⟩ (bu (br (cZ 24 25 1 7 8 (ak 5 ?_))))))
 obtain⟨v6,h5,h⟩:=bind_some h;refine aB (g7 hK h5) (ac (ak 5 ?_));obtain⟨v7,h6,h⟩:=bind_some h;refine aB (g7 hK h6) (ac (bB (ks':=sT M w0 r 37) 2 ⟨[(1,.ptr 1 0),(2,.ptr 2 0),(3,iI 3)],[(1,aE ({ v1 with Margin:=⟨v2,v4,v6,v1.Margin.a3⟩,Padding:=⟨v3,v5,v7,v1.Padding.a3⟩ }:aJ)),(2,aE ce)],[],[1,2]⟩ (bu (br (cZ 24 25 1 7 8 (ak 5 ?_))))));obtain⟨v8,h7,h⟩:=bind_some h;refine aB (g7 hK h7) (ac (ak 5 ?_));obtain⟨v9,h8,h⟩:=bind_some h;refine aB (g7 hK h8) (ac (bB (ks':=sT M w0 r 36) 2 ⟨[(1,.ptr 1 0),(2,.ptr 2 0),(3,iI 4)],[(1,aE ({ v1 with Margin:=⟨v2,v4,v6,v8⟩,Padding:=⟨v3,v5,v7,v9⟩ }:aJ)),(2,aE ce)],[],[1,2]⟩ (bu (br (Fp 2 3 9 (ak 2 ?_))))));obtain⟨v10,h9,h⟩:=bind_some h;refine aB (g7 hK h9) (ac (aw 2 3 1 (ak 2 ?_)));obtain⟨v11,h10,h⟩:=bind_some h;refine aB (g7 hK h10) (ac (aw 2 3 1 (ak 2 ?_)));obtain⟨v12,h11,h⟩:=bind_some h;refine aB (g7 hK h11) (ac (aG 3 ?_));cases h;exact aU
end
noncomputable section
variable(M:Nat→Prop)(w0:aH)(r:Int×Bool)(v1:cj)  
variable{M w0 r v1}{K:Kn}{n:Nat}
theorem Hy(hK:aq K)(h:j0 K n v1=some r):aN Tryz.prog 113 [.agg (fX v1)] (fun v _=>v=.tup [iI r.1,.bool r.2]):=by
 refine bc (cat Tryz.f113 (pn 1)) Tryz.func113 Tryz.ntmps113 fun M w0=>(aZ ⟨[(0,.agg (fX v1))],[],[],[]⟩ ?_);unfold j0 at h;refine aw 13 7 5 ?_;obtain⟨h1,h⟩|⟨h1,h⟩:=am h
 ·refine ai 6 h1 (aG 5 ?_);cases h;exact dV
 ·refine ai 6 h1 (dJ 2 3 3 (ak 2 ?_));obtain⟨v2,h2,h⟩:=bind_some h;refine aB (yJ hK h2) (ac (aG 1 ?_));cases h;exact dV
end
noncomputable section
variable(M:Nat→Prop)(w0:aH)(r:Int×Int)(v1:aJ)(v2 v3:Int)(v4:aJ)(v8 v9:Int)  
abbrev L0(n:Nat):av:=.c (cat Tryz.f84 (pn n))
abbrev Qy:Cx:=⟨Tryz.prog,39,M,w0⟩
abbrev PF:=bodyPost Tryz.prog Tryz.f84 (bq M w0 (fun v _=>v=.tup [iI r.1,iI r.2]))
abbrev Ns(ks:List av)(s:AS):=VE (Qy M w0) (PF M w0 r) ks .normal s
def OV:AS:=⟨[(1,iI v8),(2,iI v9),(3,.ptr 3 0)],[(3,aE v4)],[],[3]⟩
variable{M w0 r v1 v2 v3 v4 v8 v9}{K:Kn}{n:Nat}
theorem G3(hK:aq K)(h:oG K n v4 v8 v9=some r):Ns M w0 r [L0 127] (OV v4 v8 v9):=by
 unfold oG at h;refine aw 2 3 1 (ak 1 ?_);obtain⟨v10,h6,h⟩:=bind_some h;refine aB (w3 hK h6) ?_;obtain⟨v11,h7,h⟩:=bind_some h;refine aB (sA hK h7) (ac (aw 2 3 1 (bJ [1,2,3,10] [3] [] ?_)));obtain⟨v12,h8,h⟩:=bind_some h;obtain⟨v13,h9,h⟩:=bind_some h;refine bD 2 (nu 29 [.agg (aE v4),iI v8,iI v12,iI v11,iI (ab (v12+v11)),.agg (aE v4),iI v9,iI v13,iI v11,iI (ab (v13+v11))]) [] [] [bT Tryz.prog 39 Tryz.f84 (pn 510) 10,bT Tryz.prog 39 Tryz.f84 (pn 510) 11] (ao (vz 2) (aa (bL 0 1 31 (t6 hK h8)) (ao [.v 0 1,.v 0 1,.v 0 2,.v 0 2] (aa (bL 0 1 36 (t6 hK h9)) (ao [.v 0 2,.v 0 2] (aa (bU 0) (aa (bU 1) bE))))))) (aG 1 ?_);cases h;exact dV
theorem Sd(hK:aq K)(h:pP K n v1 v2 v3=some r):aN Tryz.prog 84 [.agg (aE v1),iI v2,iI v3] (fun v _=>v=.tup [iI r.1,iI r.2]):=by
 refine bc (cat Tryz.f84 (pn 1)) Tryz.func84 Tryz.ntmps84 fun M w0=>(aZ ⟨[(0,.agg (aE v1)),(1,iI v2),(2,iI v3)],[],[],[]⟩ ?_);unfold pP at h;refine aw 6 7 3 (ak 1 ?_);obtain⟨v4,h1,h⟩:=bind_some h;refine aB (Wj hK h1) (ac (aw 2 3 1 (ak 1 ?_)));obtain⟨v5,h2,h⟩:=bind_some h;refine aB (gj hK h2) (ac (aw 2 3 1 (ak 1 ?_)));obtain⟨v6,h3,h⟩:=bind_some h;refine aB (gj hK h3) (ac (aw 2 3 1 (ak 2 ?_)));obtain⟨v7,h4,h⟩:=bind_some h;refine aB (Hy hK h4) (ac (aw 5 3 3 ?_));obtain⟨h5,h⟩|⟨h5,h⟩:=am h
 ·exact ai 23 h5 (ag 4 (G3 hK h))
 ·exact ai 23 h5 (ag 2 (G3 hK h))
end
noncomputable section
variable(M:Nat→Prop)(w0:aH)(r:Int×Int)(v1:aj)  
variable{M w0 r v1}{K:Kn}{n:Nat}
theorem QM(hK:aq K)(h:pF K n v1=some r):aN Tryz.prog 46 [.agg (aV v1)] (fun v _=>v=.tup [iI r.1,iI r.2]):=by
 refine bc (cat Tryz.f46 (pn 1)) Tryz.func46 Tryz.ntmps46 fun M w0=>(aZ ⟨[(0,.agg (aV v1))],[],[],[]⟩ ?_);unfold pF at h;refine aw 6 7 3 (ak 1 ?_);obtain⟨v2,h1,h⟩:=bind_some h;refine aB (hK.lr h1) (ac (aw 2 3 1 (ak 4 ?_)));obtain⟨v3,h2,h⟩:=bind_some h;refine aB (Sd hK h2) (ac (aG 1 ?_));cases h;exact dV
end
noncomputable section
variable(M:Nat→Prop)(w0:aH)(r:List aj)(v1:aj)(v8:Int)(v9 v11:(List aj))(m1:Nat)(L1:Int→(List aj)→Option (List aj))
abbrev zU:Cx:=⟨Tryz.prog,27,M,w0⟩
abbrev zJ:=bodyPost Tryz.prog Tryz.f110 (bq M w0 (fun v s=>v=.ref 25∧look 25 s.r=some ⟨52,59,lm aO r⟩))
abbrev HX(ks:List av)(s:AS):=VE (zU M w0) (zJ M w0 r) ks .normal s
abbrev zu(n:Nat):av:=.c (cat Tryz.f110 (pn n))
abbrev yb:List av:=[.b 0,zu 15]
abbrev Jo:List av:=kl (zU M w0) (zJ M w0 r) yb (cat Tryz.f110 (pn 116)) m1::yb
def NU:AS:=⟨[(1,.ptr 1 0),(3,.ref 25),(4,iI v8)],[(1,aV v1)],[(25,⟨52,59,lm aO v11⟩)],[1,25]⟩
def GT:AS:=⟨[(1,.ptr 1 0),(3,.ref 25),(4,iI v8)],[(1,aV v1)],[(25,⟨52,59,lm aO v9⟩)],[1,25]⟩
abbrev BM:Prop:=∀{v8:Int} {v9:(List aj)},L1 v8 v9=some r→LP (zU M w0) (zJ M w0 r) yb (cat Tryz.f110 (pn 116)) m1 (GT v1 v8 v9)
variable{M w0 r v1 v8 v9 v11 m1 L1}{K:Kn}{n:Nat}
theorem Dl(hK:aq K)(hL1:BM M w0 r v1 m1 L1)(h:lK K n v1 v8 L1 v11=some r):HX M w0 r (.b 1::zu 467::Jo M w0 r m1) (NU v1 v8 v11):=by
 unfold lK at h;exact ag 2 (bu (hL1 h))
theorem KE(hK:aq K)(hL1:BM M w0 r v1 m1 L1)(h:mi K n v1 L1 v8 v9=some r):HX M w0 r (zu 116::Jo M w0 r m1) (GT v1 v8 v9):=by
 unfold mi at h;refine bP 4 5 3 2 (ak 3 (aA (bz aO v1.Kids) (ac ?_)));obtain⟨h15,h⟩|⟨h15,h⟩:=am h
 ·refine ai 9 h15 (cN 8 9 1 3 5 (ak 3 ?_));obtain⟨h16,h⟩:=aS h;refine aA (bM aO aV h16 (eC) (dp)) (aL 5 1 ?_);obtain⟨v10,h17,h⟩:=bind_some h;refine aB (Du hK h17) (ac ?_);obtain⟨h18,h⟩|⟨h18,h⟩:=am h
  ·refine ai 17 h18 (bd 2 1 (ak 4 ?_));obtain⟨h19,h⟩:=aS h;refine aA (bM aO aV h19 (eC) (dp)) (aL 6 1 (aA (eV aO ([(gD v1.Kids v8)]:List aj) (new:=[aV (gD v1.Kids v8)]) (by simp only[List.map_cons,List.map_nil,dp])) ?_));obtain⟨h20,h⟩:=aS h;exact aA (cy 25 25 52 59 aO (rfl) (eC) h20) (ac (ag 0 (Dl hK hL1 h)))
  ·exact ai 17 h18 (ag 2 (Dl hK hL1 h))
 ·refine ai 9 h15 (aG 8 ?_);cases h;exact eg
theorem SZ(hK:aq K)(m:Nat):BM M w0 r v1 m (lz K n v1 m):=by
 induction m with
 | zero=>intro v8 v9 h;cases h
 | succ m ih=>intro v8 v9 h;have h:mi K n v1 (lz K n v1 m) v8 v9=some r:=h;exact br (KE hK ih h)
theorem B4(hK:aq K)(h:kt K n v1=some r):aN Tryz.prog 110 [.agg (aV v1)] (fun v s=>v=.ref 25∧look 25 s.r=some ⟨52,59,lm aO r⟩):=by
 refine bc (cat Tryz.f110 (pn 1)) Tryz.func110 Tryz.ntmps110 fun M w0=>(aZ ⟨[(0,.agg (aV v1))],[],[],[]⟩ ?_);unfold kt at h;exact fp 58 0 15 8 (bJ [1,3,4] [1] [] (fk 25 3 52 59 (ag 0 (cm (p:=pn 58) n (SZ hK n h)))))
end
noncomputable section
variable(M:Nat→Prop)(w0:aH)(r:Bool)(v1:aj)(v2:List aj)(v4:Int)(m1:Nat)(L1:Int→Option Bool)
abbrev Bi:Cx:=⟨Tryz.prog,19,M,w0⟩
abbrev As:=bodyPost Tryz.prog Tryz.f111 (bq M w0 (fun v _=>v=.bool r))
abbrev LR(ks:List av)(s:AS):=VE (Bi M w0) (As M w0 r) ks .normal s
abbrev w4(n:Nat):av:=.c (cat Tryz.f111 (pn n))
abbrev yj:List av:=[.b 0,w4 15]
abbrev Ei:List av:=kl (Bi M w0) (As M w0 r) yj (cat Tryz.f111 (pn 116)) m1::yj
def HF:AS:=⟨[(3,.ref 1006),(4,iI v4)],[],[(1006,⟨52,59,lm aO v2⟩)],[1006]⟩
abbrev Hn:Prop:=∀{v4:Int},L1 v4=some r→LP (Bi M w0) (As M w0 r) yj (cat Tryz.f111 (pn 116)) m1 (HF v2 v4)
variable{M w0 r v1 v2 v4 m1 L1}{K:Kn}{n:Nat}
theorem SX(hK:aq K)(hL1:Hn M w0 r v2 m1 L1)(h:ls K n v2 L1 v4=some r):LR M w0 r (w4 116::Ei M w0 r m1) (HF v2 v4):=by
 unfold ls at h;refine bP 4 5 3 2 (ak 2 (aA (bz aO v2) (ac ?_)));obtain⟨h6,h⟩|⟨h6,h⟩:=am h
 ·refine ai 10 h6 (cN 8 9 1 3 5 (ak 2 ?_));obtain⟨h7,h⟩:=aS h;refine aA (c9 1006 59 aO h7) (aL 4 1 (aA (ci 3 0 aO aV (ca h7).2 (dp)) (ac ?_)));obtain⟨v5,h8,h⟩:=bW h;refine bB (ks':=w4 1865 :: .b 1::w4 467::Ei M w0 r m1) 0 ⟨[(3,.ref 1006),(4,iI v4),(18,.bool v5)],[],[(1006,⟨52,59,lm aO v2⟩)],[1006]⟩ ?_ (by subst h8;kernel_rfl);obtain⟨h9,h⟩|⟨h9,h⟩:=am h
  ·refine ai 18 h9 (aG 9 ?_);cases h;exact aU
  ·exact ai 18 h9 (ag 4 (bu (hL1 h)))
 ·refine ai 10 h6 (aG 8 ?_);cases h;exact aU
theorem NR(hK:aq K)(m:Nat):Hn M w0 r v2 m (lF K n v2 m):=by
 induction m with
 | zero=>intro v4 h;cases h
 | succ m ih=>intro v4 h;have h:ls K n v2 (lF K n v2 m) v4=some r:=h;exact br (SX hK ih h)
theorem Ff(hK:aq K)(h:jv K n v1=some r):aN Tryz.prog 111 [.agg (aV v1)] (fun v _=>v=.bool r):=by
 refine bc (cat Tryz.f111 (pn 1)) Tryz.func111 Tryz.ntmps111 fun M w0=>(aZ ⟨[(0,.agg (aV v1))],[],[],[]⟩ ?_);unfold jv at h;refine aw 6 7 3 (ak 1 ?_);obtain⟨v2,h1,h⟩:=bind_some h;exact dE 1006 (B4 hK h1) (fm 25) (ac (ag 4 (cm (p:=pn 58) n (NR hK n h))))
end
noncomputable section
variable(M:Nat→Prop)(w0:aH)(r:Int×Int)(v1:aj)(v2:List aj)(v8 v9 v10:Int)(m1:Nat)(L1:Int→Int→Int→Option (Int×Int))
abbrev zj:Cx:=⟨Tryz.prog,52,M,w0⟩
abbrev AA:=bodyPost Tryz.prog Tryz.f83 (bq M w0 (fun v _=>v=.tup [iI r.1,iI r.2]))
abbrev Na(ks:List av)(s:AS):=VE (zj M w0) (AA M w0 r) ks .normal s
abbrev Ji(n:Nat):av:=.c (cat Tryz.f83 (pn n))
abbrev BK:List av:=[.b 0,Ji 127]
abbrev Ri:List av:=kl (zj M w0) (AA M w0 r) BK (cat Tryz.f83 (pn 1012)) m1::BK
def Fy:AS:=⟨[(4,.ref 1013),(7,iI v8),(8,iI v9),(9,iI v10)],[],[(1013,⟨52,59,lm aO v2⟩)],[1013]⟩
abbrev DS:Prop:=∀{v8:Int} {v9:Int} {v10:Int},L1 v8 v9 v10=some r→LP (zj M w0) (AA M w0 r) BK (cat Tryz.f83 (pn 1012)) m1 (Fy v2 v8 v9 v10)
variable{M w0 r v1 v2 v8 v9 v10 m1 L1}{K:Kn}{n:Nat}
theorem M0(hK:aq K)(hL1:DS M w0 r v2 m1 L1)(h:mN K n v2 L1 v8 v9 v10=some r):Na M w0 r (Ji 1012::Ri M w0 r m1) (Fy v2 v8 v9 v10):=by
 unfold mN at h;refine bP 4 5 3 2 (ak 2 (aA (bz aO v2) (ac ?_)));obtain⟨h10,h⟩|⟨h10,h⟩:=am h
 ·refine ai 31 h10 (cN 8 9 1 3 5 (ak 2 ?_));obtain⟨h11,h⟩:=aS h;refine aA (c9 1013 59 aO h11) (aA (ci 52 0 aO aV (ca h11).2 (dp)) ?_);obtain⟨v11,h12,h⟩:=bind_some h;exact aB (QM hK h12) (ac (ag 5 (bu (hL1 h))))
 ·refine ai 31 h10 (mI 2 3 6 (ak 1 ?_));obtain⟨v12,h13,h⟩:=bind_some h;refine aB (gj hK h13) (aL 3 1 ?_);obtain⟨v13,h14,h⟩:=bind_some h;refine aB (gj hK h14) (ac (aG 1 ?_));cases h;exact dV
theorem KV(hK:aq K)(m:Nat):DS M w0 r v2 m (pd K n v2 m):=by
 induction m with
 | zero=>intro v8 v9 v10 h;cases h
 | succ m ih=>intro v8 v9 v10 h;have h:mN K n v2 (pd K n v2 m) v8 v9 v10=some r:=h;exact br (M0 hK ih h)
theorem HR(hK:aq K)(h:js K n v1=some r):aN Tryz.prog 83 [.agg (aV v1)] (fun v _=>v=.tup [iI r.1,iI r.2]):=by
 refine bc (cat Tryz.f83 (pn 1)) Tryz.func83 Tryz.ntmps83 fun M w0=>(aZ ⟨[(0,.agg (aV v1))],[],[],[]⟩ ?_);unfold js at h;refine aw 6 7 3 (ak 1 ?_);obtain⟨v2,h1,h⟩:=bind_some h;refine dE 1013 (B4 hK h1) (fm 25) (ac (bP 4 5 3 2 (ak 1 ?_)));obtain⟨v3,h2,h⟩:=bind_some h;refine aB (Ff hK h2) (ac ?_);obtain⟨h3,h⟩|⟨h3,h⟩:=am h
 ·refine ai 16 h3 (aw 4 5 2 (ak 3 (kA 1013 ?_)));obtain⟨v4,h4,h⟩:=bind_some h;refine aB (It hK h4) (ac (aw 2 3 1 (ak 1 ?_)));obtain⟨v5,h5,h⟩:=bind_some h;refine aB (gj hK h5) (aL 3 1 ?_);obtain⟨v6,h6,h⟩:=bind_some h;refine aB (gj hK h6) (ac (aG 2 ?_));cases h;exact dV
 ·exact ai 16 h3 (ag 10 (cm (p:=pn 506) n (KV hK n h)))
end
noncomputable section
variable(M:Nat→Prop)(w0:aH)(r:Int)(v1:aj)(v2 v3 v8:Int)  
abbrev Lj(n:Nat):av:=.c (cat Tryz.f69 (pn n))
abbrev Mn:Cx:=⟨Tryz.prog,42,M,w0⟩
abbrev MC:=bodyPost Tryz.prog Tryz.f69 (bq M w0 (fun v _=>v=iI r))
abbrev Wg(ks:List av)(s:AS):=VE (Mn M w0) (MC M w0 r) ks .normal s
def Jv:AS:=⟨[(1,iI v3),(2,.ptr 2 0),(5,iI v8)],[(2,aV v1)],[],[2]⟩
variable{M w0 r v1 v2 v3 v8}{K:Kn}{n:Nat}
theorem HD(hK:aq K)(h:jw K n v1 v3 v8=some r):Wg M w0 r [Lj 31] (Jv v1 v3 v8):=by
 unfold jw at h;refine aw 2 3 1 (ak 4 ?_);obtain⟨v9,h7,h⟩:=bind_some h;refine aB (t6 hK h7) (ac (aG 1 ?_));cases h;exact aU
theorem Uh(hK:aq K)(h:jL K n v1 v2=some r):aN Tryz.prog 69 [.agg (aV v1),iI v2] (fun v _=>v=iI r):=by
 refine bc (cat Tryz.f69 (pn 1)) Tryz.func69 Tryz.ntmps69 fun M w0=>(aZ ⟨[(0,.agg (aV v1)),(1,iI v2)],[],[],[]⟩ ?_);unfold jL at h;refine aw 6 7 3 (ak 1 ?_);obtain⟨v3,h1,h⟩:=bind_some h;refine aB (gj hK h1) (ac (aw 2 3 1 (ak 4 ?_)));obtain⟨v4,h2,h⟩:=bind_some h;refine aB (eO hK h2) (ac (aw 5 3 3 ?_));obtain⟨h3,h⟩|⟨h3,h⟩:=am h
 ·refine ai 20 h3 (aw 4 5 2 (ak 1 ?_));obtain⟨v5,h4,h⟩:=bind_some h;refine aB (HR hK h4) (ac (ak 4 ?_));obtain⟨v6,h5,h⟩:=bind_some h;refine aB (w3 hK h5) ?_;obtain⟨v7,h6,h⟩:=bind_some h;exact aB (sA hK h6) (ac (ag 0 (HD hK h)))
 ·exact ai 20 h3 (ag 2 (HD hK h))
end
end Go.Proofs.YtnpmlepplfaijaaGreat

/- The runs of the functions that InlineStyles reaches do what their plain forms say, part 1. Made by a program. -/
import Derived.Test.YtnpmlepplfaijaaIsGk
import Derived.Test.YtnpmlepplfaijaaIsP0
namespace Go.Proofs.Ytnpmlepplfaijaa
open Go.RowKit
set_option maxRecDepth 20000
set_option linter.all false
set_option linter.unusedVariables false
set_option linter.unusedSimpArgs false
noncomputable section
variable(M:Nat→Prop)(w0:aw)(r:Bool)(v1:aq)(v2:Bool)  
abbrev xH(n:Nat):ak:=.c (cat Try.f81 (pn n))
abbrev Es:Cx:=⟨Try.prog,16,M,w0⟩
abbrev yt:=bodyPost Try.prog Try.f81 (bn M w0 (fun v _=>v=.bool r))
abbrev CN(ks:List ak)(s:AS):=VE (Es M w0) (yt M w0 r) ks .normal s
def yT:AS:=⟨[(2,.bool v2)],[],[],[]⟩
variable{M w0 r v1 v2}{K:Kn}{n:Nat}
theorem rU(hK:aj K)(h:jT K n v2=some r):CN M w0 r [xH 7] (yT v2):=by
 unfold jT at h;refine aC 1 ?_;cases h;exact aV
theorem w5(hK:aj K)(h:mq K n v1=some r):aI Try.prog 81 [.agg (aX v1)] (fun v _=>v=.bool r):=by
 refine aZ (cat Try.f81 (pn 1)) Try.func81 Try.ntmps81 fun M w0=>(aY ⟨[(0,.agg (aX v1))],[],[],[]⟩ ?_);unfold mq at h;refine ao 6 7 3 (ai 4 ?_);obtain⟨h1,h⟩|⟨h1,h⟩:=ah h
 ·exact ap 6 h1 (aa (ab 0 (rU hK h)))
 ·refine ap 6 h1 (aN 9 5 ?_);obtain⟨h2,h⟩|⟨h2,h⟩:=ah h
  ·exact ap 11 h2 (aa (ab 0 (rU hK h)))
  ·exact ap 11 h2 (aa (ab 0 (rU hK h)))
end
noncomputable section
variable(M:Nat→Prop)(w0:aw)(r:ae)(v1:aq)(v2:bp)(v3 v4:Bool)(v5:bP)(v6:(List aq)×Bool)(v9:Int)(v10:List ae)(v15:Int)(v16:Bool)(v17 v18:aK)(v19:List ae)(v20 v21:aK)(v23:Bool)(v25:Int)(v26:aK)(v27:Bool)(v32:Int)(v33 v34:aK)(v35:Bool)(v36:Int×Bool)(v37:Bool)(v38 v39 v40 v47:Int)(v48 v50:(List ae))(v52:Bool)(v54:List ae)(m1 m2:Nat)(L1 L2:Int→(List ae)→Option ae)
abbrev jR:Cx:=⟨Try.prog,259,M,w0⟩
abbrev jv:=bodyPost Try.prog Try.f62 (bn M w0 (fun v s=>v=.agg (List.set (aG ({ r with Kids:=[] }:ae)) 66 (.ref 1054))∧look 1054 s.r=some ⟨64,67,lm az r.Kids⟩))
abbrev d9(ks:List ak)(s:AS):=VE (jR M w0) (jv M w0 r) ks .normal s
abbrev bU(n:Nat):ak:=.c (cat Try.f62 (pn n))
abbrev oT:List ak:=[.b 4,bU 131071]
abbrev jg:List ak:=kl (jR M w0) (jv M w0 r) oT (cat Try.f62 (pn 1048564)) m2::oT
abbrev pS:List ak:=[.b 0,bU 4075,bU 255]
abbrev Ba:List ak:=kl (jR M w0) (jv M w0 r) pS (cat Try.f62 (pn 32596)) m1::pS
def A9:AS:=⟨[(6,.ptr 6 0),(10,.ptr 10 0),(11,.ptr 11 0),(12,.sl (lm aO v6.1)),(13,.bool v6.2),(15,iI v25),(199,iI (v19.length:Int)),(200,iI v47)],[(6,bl v2),(10,List.set (aG bf) 66 (.nils)),(11,List.set (aG (⟨1,v1.Node,v2.Margin.a3,0,(af (v2.Content+v39)),v40,0,⟨#[]⟩,v1.Style,v33,v34,v35,[]⟩:ae)) 66 (.ref 1054))],[(1054,⟨64,67,lm az v54⟩)],[6,10,11,1054]⟩
def EC:AS:=⟨[(6,.ptr 6 0),(10,.ptr 10 0),(11,.ptr 11 0),(12,.sl (lm aO v6.1)),(13,.bool v6.2),(15,iI v25),(24,iI v47),(199,iI (v19.length:Int)),(200,iI v47),(244,.bool v52)],[(6,bl v2),(10,List.set (aG bf) 66 (.nils)),(11,List.set (aG (⟨1,v1.Node,v2.Margin.a3,0,(af (v2.Content+v39)),v40,0,⟨#[]⟩,v1.Style,v33,v34,v35,[]⟩:ae)) 66 (.ref 1054))],[(1054,⟨64,67,lm az v50⟩)],[6,10,11,1054]⟩
def um:AS:=⟨[(6,.ptr 6 0),(10,.ptr 10 0),(11,.ptr 11 0),(12,.sl (lm aO v6.1)),(13,.bool v6.2),(15,iI v25),(199,iI (v19.length:Int)),(200,iI v47)],[(6,bl v2),(10,List.set (aG bf) 66 (.nils)),(11,List.set (aG (⟨1,v1.Node,v2.Margin.a3,0,(af (v2.Content+v39)),v40,0,⟨#[]⟩,v1.Style,v33,v34,v35,[]⟩:ae)) 66 (.ref 1054))],[(1054,⟨64,67,lm az v48⟩)],[6,10,11,1054]⟩
def Au:AS:=⟨[(6,.ptr 6 0),(10,.ptr 10 0),(11,.ptr 11 0),(12,.sl (lm aO v6.1)),(13,.bool v6.2),(14,iI v38),(15,iI v25)],[(6,bl v2),(10,List.set (aG bf) 66 (.nils)),(11,List.set (aG ({ bf with Kind:=1,Node:=v1.Node,Style:=v1.Style,Before:=v33,After:=v34,Empty:=v35 }:ae)) 66 (.ref 1054))],[(1054,⟨64,67,lm az v19⟩)],[6,10,11,1054]⟩
def AQ:AS:=⟨[(6,.ptr 6 0),(10,.ptr 10 0),(11,.ptr 11 0),(12,.sl (lm aO v6.1)),(13,.bool v6.2),(14,iI (max v32 0)),(15,iI v25),(22,iI v36.1),(166,.bool v37)],[(6,bl v2),(10,List.set (aG bf) 66 (.nils)),(11,List.set (aG ({ bf with Kind:=1,Node:=v1.Node,Style:=v1.Style,Before:=v33,After:=v34,Empty:=v35 }:ae)) 66 (.ref 1054))],[(1054,⟨64,67,lm az v19⟩)],[6,10,11,1054]⟩
def Ez:AS:=⟨[(5,.ptr 5 0),(6,.ptr 6 0),(10,.ptr 10 0),(11,.ptr 11 0),(12,.sl (lm aO v6.1)),(13,.bool v6.2),(14,iI v32),(15,iI v25)],[(5,aX v1),(6,bl v2),(10,List.set (aG bf) 66 (.nils)),(11,List.set (aG ({ bf with Kind:=1,Node:=v1.Node,Style:=v1.Style,Before:=v33,After:=v34,Empty:=v35 }:ae)) 66 (.ref 1054))],[(1054,⟨64,67,lm az v19⟩)],[5,6,10,11,1054]⟩
def ED:AS:=⟨[(3,.bool v4),(5,.ptr 5 0),(6,.ptr 6 0),(10,.ptr 10 0),(11,.ptr 11 0),(12,.sl (lm aO v6.1)),(13,.bool v6.2),(14,iI v15),(15,iI v25),(16,.ptr 16 0),(17,.ptr 17 0),(18,.bool v16),(113,.bool v27)],[(5,aX v1),(6,bl v2),(10,List.set (aG bf) 66 (.nils)),(11,List.set (aG ({ bf with Kind:=1,Node:=v1.Node,Style:=v1.Style,Before:=v26,After:=v21 }:ae)) 66 (.ref 1054)),(16,bv v17),(17,bv v18)],[(1054,⟨64,67,lm az v19⟩)],[5,6,10,11,16,17,1054]⟩
def xP:AS:=⟨[(2,.bool v3),(3,.bool v4),(5,.ptr 5 0),(6,.ptr 6 0),(10,.ptr 10 0),(11,.ptr 11 0),(12,.sl (lm aO v6.1)),(13,.bool v6.2),(14,iI v15),(15,iI v25),(16,.ptr 16 0),(17,.ptr 17 0),(18,.bool v16)],[(5,aX v1),(6,bl v2),(10,List.set (aG bf) 66 (.nils)),(11,List.set (aG ({ bf with Kind:=1,Node:=v1.Node,Style:=v1.Style,Before:=v26,After:=v21 }:ae)) 66 (.ref 1054)),(16,bv v17),(17,bv v18)],[(1054,⟨64,67,lm az v19⟩)],[5,6,10,11,16,17,1054]⟩
def EE:AS:=⟨[(2,.bool v3),(3,.bool v4),(5,.ptr 5 0),(6,.ptr 6 0),(10,.ptr 10 0),(11,.ptr 11 0),(12,.sl (lm aO v6.1)),(13,.bool v6.2),(14,iI v15),(15,iI 0),(16,.ptr 16 0),(17,.ptr 17 0),(18,.bool v16),(98,.bool v23)],[(5,aX v1),(6,bl v2),(10,List.set (aG bf) 66 (.nils)),(11,List.set (aG ({ bf with Kind:=1,Node:=v1.Node,Style:=v1.Style,Before:=v20,After:=v21 }:ae)) 66 (.ref 1054)),(16,bv v17),(17,bv v18)],[(1054,⟨64,67,lm az v19⟩)],[5,6,10,11,16,17,1054]⟩
def DK:AS:=⟨[(2,.bool v3),(3,.bool v4),(5,.ptr 5 0),(6,.ptr 6 0),(10,.ptr 10 0),(11,.ptr 11 0),(12,.sl (lm aO v6.1)),(13,.bool v6.2),(14,iI v15),(15,iI 0),(16,.ptr 16 0),(17,.ptr 17 0),(18,.bool v16)],[(5,aX v1),(6,bl v2),(10,List.set (aG bf) 66 (.nils)),(11,List.set (aG ({ bf with Kind:=1,Node:=v1.Node,Style:=v1.Style }:ae)) 66 (.ref 1054)),(16,bv v17),(17,bv v18)],[(1054,⟨64,67,lm az v19⟩)],[5,6,10,11,16,17,1054]⟩
def uJ:AS:=⟨[(2,.bool v3),(3,.bool v4),(5,.ptr 5 0),(6,.ptr 6 0),(9,.ptr 9 0),(10,.ptr 10 0),(11,.ptr 11 0),(12,.sl (lm aO v6.1)),(13,.bool v6.2),(15,iI 0),(16,.ptr 16 0),(17,.ptr 17 0),(19,.ref 50),(36,.sl (lm aO v6.1)),(37,iI (v6.1.length:Int)),(38,iI v9)],[(5,aX v1),(6,bl v2),(9,bS v5),(10,List.set (aG bf) 66 (.nils)),(11,List.set (aG ({ bf with Kind:=1,Node:=v1.Node,Style:=v1.Style }:ae)) 66 (.nils)),(16,bv cc),(17,bv cc)],[(50,⟨64,67,lm az v10⟩)],[5,6,9,10,11,16,17,50]⟩
abbrev uz:Prop:=∀{v9:Int} {v10:(List ae)},L1 v9 v10=some r→LP (jR M w0) (jv M w0 r) pS (cat Try.f62 (pn 32596)) m1 (uJ v1 v2 v3 v4 v5 v6 v9 v10)
abbrev kL:Prop:=∀{v47:Int} {v48:(List ae)},L2 v47 v48=some r→LP (jR M w0) (jv M w0 r) oT (cat Try.f62 (pn 1048564)) m2 (um v1 v2 v6 v19 v25 v33 v34 v35 v39 v40 v47 v48)
variable{M w0 r v1 v2 v3 v4 v5 v6 v9 v10 v15 v16 v17 v18 v19 v20 v21 v23 v25 v26 v27 v32 v33 v34 v35 v36 v37 v38 v39 v40 v47 v48 v50 v52 v54 m1 m2 L1 L2}{K:Kn}{n:Nat}
theorem uq(hK:aj K)(hL2:kL M w0 r v1 v2 v6 v19 v25 v33 v34 v35 v39 v40 m2 L2)(h:kC K n v1 v2 v6 v19 v25 v33 v34 v35 v39 v40 v47 L2 v54=some r):d9 M w0 r (.b 5::bU 8388519::jg M w0 r m2) (A9 v1 v2 v6 v19 v25 v33 v34 v35 v39 v40 v47 v54):=by
 unfold kC at h;exact ab 2 (bo (hL2 h))
theorem vd(hK:aj K)(hL2:kL M w0 r v1 v2 v6 v19 v25 v33 v34 v35 v39 v40 m2 L2)(h:mg K n v1 v2 v6 v19 v25 v33 v34 v35 v39 v40 v47 v50 L2 v52=some r):d9 M w0 r (bU 268432591 :: .b 5::bU 8388519::jg M w0 r m2) (EC v1 v2 v6 v19 v25 v33 v34 v35 v39 v40 v47 v50 v52):=by
 unfold mg at h;obtain⟨h64,h⟩|⟨h64,h⟩:=ah h
 ·refine ac 244 h64 (aU 2 1 (bE [6,10,11,12,13,15,24,199,200] [6,10,11] [1054] ?_));obtain⟨h65,h⟩:=aS h;obtain⟨v53,h66,h⟩:=bind_some h;obtain⟨h67,h⟩:=aS h;exact bJ 1 (nu 245 [.ptr 11 66,.ref 1054,iI v47,.ptr 11 66,.ref 1054,iI v47,.eptr 1054 67 (v47.toNat) 0,.agg (aG (gD v50 v47)),.ptr 6 12,iI v2.Content,.agg (aG v53),.eptr 1054 67 (v47.toNat) 0]) [] [] [kN 1054 ⟨64,67,lm az (List.set v50 v47.toNat v53)⟩] (ay (vz 6) (bQ (eo 1054 67 az (L:=v50) h65) (bQ (cw 64 0 az aG (di h67).2 (cy)) (ay (vz 2) (ag (bI 0 1 255 (w8 hK h66)) (bQ (eo 1054 67 az (L:=v50) h67) (ag (eE (m:=0) (qi 1054 64 67 0 az aG v53 (di h67).2 (cy))) bG))))))) (ab 0 (uq hK hL2 h))
 ·exact ac 244 h64 (ab 2 (uq hK hL2 h))
theorem yG(hK:aj K)(hL2:kL M w0 r v1 v2 v6 v19 v25 v33 v34 v35 v39 v40 m2 L2)(h:mc K n v1 v2 v6 v19 v25 v33 v34 v35 v39 v40 L2 v47 v48=some r):d9 M w0 r (bU 1048564::jg M w0 r m2) (um v1 v2 v6 v19 v25 v33 v34 v35 v39 v40 v47 v48):=by
 unfold mc at h;refine ao 6 7 3 ?_;obtain⟨h54,h⟩|⟨h54,h⟩:=ah h
 ·refine ac 201 h54 (cN 18 19 5 3 7 (bE [6,10,11,12,13,15,24,199,200] [6,10,11] [1054] ?_));obtain⟨h55,h⟩:=aS h;obtain⟨h56,h⟩:=aS h;refine bJ 1 (nu 203 [.ptr 11 66,.ref 1054,iI v47,.eptr 1054 67 (v47.toNat) 0,.eptr 1054 67 (v47.toNat) 2,iI ((gD v48 v47).X),.ptr 6 4,.ptr 6 7,iI v2.Border.a3,.ptr 6 8,.ptr 6 11,iI v2.Padding.a3,iI (af (v2.Border.a3+v2.Padding.a3)),iI (af (((gD v48 v47).X)+(af (v2.Border.a3+v2.Padding.a3)))),.eptr 1054 67 (v47.toNat) 0,.eptr 1054 67 (v47.toNat) 2]) [] [] [kN 1054 ⟨64,67,lm az (List.set v48 v47.toNat ({ (gD v48 v47)with X:=(af (((gD v48 v47).X)+(af (v2.Border.a3+v2.Padding.a3)))) }:ae))⟩] (ay (vz 3) (bQ (eo 1054 67 az (L:=v48) h55) (ay [.v 0 1] (bQ (cw 3 2 az aG (di h56).2 (cy)) (ay (vz 8) (ag (ii (lo:=0) (k:=2) (eZ ⟨(by kernel_rfl),(gz (eo 1054 67 az (L:=v48) h56) (by kernel_rfl))⟩ (eZ ⟨(by kernel_rfl),(gz (eo 1054 67 az (L:=(List.set v48 v47.toNat ({ (gD v48 v47)with X:=(af (((gD v48 v47).X)+(af (v2.Border.a3+v2.Padding.a3)))) }:ae))) h56) (by kernel_rfl))⟩ jD))) (ay [.v 0 1] (ag (eE (m:=0) (qi 1054 64 67 2 az aG ({ (gD v48 v47)with X:=(af (((gD v48 v47).X)+(af (v2.Border.a3+v2.Padding.a3)))) }:ae) (di h56).2 (cy))) bG)))))))) ?_
  obtain⟨v49,h57,h⟩:=bO h;refine bq (ks':=bU 134216294::bU 134216295 :: .b 5::bU 8388519::jg M w0 r m2) 1 ⟨[(6,.ptr 6 0),(10,.ptr 10 0),(11,.ptr 11 0),(12,.sl (lm aO v6.1)),(13,.bool v6.2),(15,iI v25),(24,iI v47),(199,iI (v19.length:Int)),(200,iI v47)],[(6,bl v2),(10,List.set (aG bf) 66 (.nils)),(11,List.set (aG (⟨1,v1.Node,v2.Margin.a3,0,(af (v2.Content+v39)),v40,0,⟨#[]⟩,v1.Style,v33,v34,v35,[]⟩:ae)) 66 (.ref 1054))],[(1054,⟨64,67,lm az v49⟩)],[6,10,11,1054]⟩ ?_ (by subst h57;kernel_rfl);obtain⟨h58,h⟩:=aS h;obtain⟨h59,h⟩:=aS h;refine bJ 1 (nu 219 [.ptr 11 66,.ref 1054,iI v47,.eptr 1054 67 (v47.toNat) 0,.eptr 1054 67 (v47.toNat) 3,iI ((gD v49 v47).Y),.ptr 6 4,.ptr 6 4,iI v2.Border.a0,.ptr 6 8,.ptr 6 8,iI v2.Padding.a0,iI (af (v2.Border.a0+v2.Padding.a0)),iI v25,iI (af ((af (v2.Border.a0+v2.Padding.a0))+v25)),iI (af (((gD v49 v47).Y)+(af ((af (v2.Border.a0+v2.Padding.a0))+v25)))),.eptr 1054 67 (v47.toNat) 0,.eptr 1054 67 (v47.toNat) 3]) [] [] [kN 1054 ⟨64,67,lm az (List.set v49 v47.toNat ({ (gD v49 v47)with Y:=(af (((gD v49 v47).Y)+(af ((af (v2.Border.a0+v2.Padding.a0))+v25)))) }:ae))⟩] (ay (vz 3) (bQ (eo 1054 67 az (L:=v49) h58) (ay [.v 0 1] (bQ (cw 3 3 az aG (di h59).2 (cy)) (ay (vz 10) (ag (ii (lo:=0) (k:=2) (eZ ⟨(by kernel_rfl),(gz (eo 1054 67 az (L:=v49) h59) (by kernel_rfl))⟩ (eZ ⟨(by kernel_rfl),(gz (eo 1054 67 az (L:=(List.set v49 v47.toNat ({ (gD v49 v47)with Y:=(af (((gD v49 v47).Y)+(af ((af (v2.Border.a0+v2.Padding.a0))+v25)))) }:ae))) h59) (by kernel_rfl))⟩ jD))) (ay [.v 0 1] (ag (eE (m:=0) (qi 1054 64 67 3 az aG ({ (gD v49 v47)with Y:=(af (((gD v49 v47).Y)+(af ((af (v2.Border.a0+v2.Padding.a0))+v25)))) }:ae) (di h59).2 (cy))) bG)))))))) ?_
  obtain⟨v50,h60,h⟩:=bO h;refine bq (ks':=bU 268432590::bU 268432591 :: .b 5::bU 8388519::jg M w0 r m2) 1 ⟨[(6,.ptr 6 0),(10,.ptr 10 0),(11,.ptr 11 0),(12,.sl (lm aO v6.1)),(13,.bool v6.2),(15,iI v25),(24,iI v47),(199,iI (v19.length:Int)),(200,iI v47)],[(6,bl v2),(10,List.set (aG bf) 66 (.nils)),(11,List.set (aG (⟨1,v1.Node,v2.Margin.a3,0,(af (v2.Content+v39)),v40,0,⟨#[]⟩,v1.Style,v33,v34,v35,[]⟩:ae)) 66 (.ref 1054))],[(1054,⟨64,67,lm az v50⟩)],[6,10,11,1054]⟩ ?_ (by subst h60;kernel_rfl);refine ai 2 ?_;obtain⟨h61,h⟩|⟨h61,h⟩:=ah h
  ·refine ap 238 h61 (aN 4 2 ?_);obtain⟨h62,h⟩:=aS h;refine ax (bD aO aX h62 (d7) (dJ)) (aN 6 1 ?_);obtain⟨v51,h63,h⟩:=bind_some h;exact aD (w5 hK h63) (aa (ab 0 (vd hK hL2 h)))
  ·exact ap 238 h61 (aa (ab 0 (vd hK hL2 h)))
 ·refine ac 201 h54 (aC 8 ?_);cases h;exact dQ
theorem y0(hK:aj K)(m:Nat):kL M w0 r v1 v2 v6 v19 v25 v33 v34 v35 v39 v40 m (mW K n v1 v2 v6 v19 v25 v33 v34 v35 v39 v40 m):=by
 induction m with
 | zero=>intro v47 v48 h;cases h
 | succ m ih=>intro v47 v48 h;have h:mc K n v1 v2 v6 v19 v25 v33 v34 v35 v39 v40 (mW K n v1 v2 v6 v19 v25 v33 v34 v35 v39 v40 m) v47 v48=some r:=h;exact bm (yG hK ih h)
theorem ue(hK:aj K)(h:ml K n v1 v2 v6 v19 v25 v33 v34 v35 v38=some r):d9 M w0 r [bU 8191] (Au v1 v2 v6 v19 v25 v33 v34 v35 v38):=by
 unfold ml at h;refine ao 6 7 3 (bE [6,10,11,12,13,14,15] [6,10,11] [1054] ?_);obtain⟨v39,h38,h⟩:=bind_some h;refine bJ 1 (nu 173 [.ptr 6 12,iI v2.Content,.agg (bl v2),iI v39,iI (af (v2.Content+v39)),.ptr 11 4]) [] [] [bz Try.prog 259 Try.f62 (pn 32766) 6] (ay (vz 3) (ag (bI 0 1 176 (Eh hK h38)) (ay (vz 2) (ag (bw 0) bG)))) ?_;obtain⟨v40,h39,h⟩:=bO h;refine bq (ks':=[bU 262140,bU 262141,bU 131071]) 4 ⟨[(6,.ptr 6 0),(10,.ptr 10 0),(11,.ptr 11 0),(12,.sl (lm aO v6.1)),(13,.bool v6.2),(15,iI v25)],[(6,bl v2),(10,List.set (aG bf) 66 (.nils)),(11,List.set (aG (⟨1,v1.Node,v2.Margin.a3,0,(af (v2.Content+v39)),v40,0,⟨#[]⟩,v1.Style,v33,v34,v35,[]⟩:ae)) 66 (.ref 1054))],[(1054,⟨64,67,lm az v19⟩)],[6,10,11,1054]⟩ ?_ (by subst h39;kernel_rfl);exact ai 2 (ax (bA az v19) (aa (ab 1 (ce (p:=pn 524282) n (y0 hK n h)))))
theorem wx(hK:aj K)(h:n4 K n v1 v2 v6 v19 v25 v32 v33 v34 v35 v36 v37=some r):d9 M w0 r [bU 32763,bU 8191] (AQ v1 v2 v6 v19 v25 v32 v33 v34 v35 v36 v37):=by
 unfold n4 at h;obtain⟨h37,h⟩|⟨h37,h⟩:=ah h
 ·exact ac 166 h37 (ab 2 (ue hK h))
 ·exact ac 166 h37 (ab 2 (ue hK h))
theorem iC(hK:aj K)(h:fT K n v1 v2 v6 v19 v25 v32 v33 v34 v35=some r):d9 M w0 r [.b 3,bU 2047] (Ez v1 v2 v6 v19 v25 v32 v33 v34 v35):=by
 unfold fT at h;refine oh 12 13 7 5 (ai 3 ?_);obtain⟨v36,h35,h⟩:=bind_some h;refine aD (cU hK h35) (aa (ao 2 3 1 (ai 2 ?_)));obtain⟨h36,h⟩|⟨h36,h⟩:=ah h
 ·exact ap 160 h36 (aa (ab 0 (wx hK h)))
 ·exact ap 160 h36 (aa (ab 0 (wx hK h)))
theorem qG(hK:aj K)(h:jl K n v1 v2 v4 v6 v15 v16 v17 v18 v19 v21 v25 v26 v27=some r):d9 M w0 r [bU 8185,.b 3,bU 2047] (ED v1 v2 v4 v6 v15 v16 v17 v18 v19 v21 v25 v26 v27):=by
 unfold jl at h;obtain⟨h27,h⟩|⟨h27,h⟩:=ah h
 ·refine ac 113 h27 (ao 4 5 2 (ai 4 ?_));obtain⟨v28,h28,h⟩:=bind_some h;exact aD (i7 hK h28) (aa (ab 5 (iC hK h)))
 ·refine ac 113 h27 (aU 7 3 ?_);obtain⟨h29,h⟩|⟨h29,h⟩:=ah h
  ·refine ac 131 h29 (aU 11 5 ?_);obtain⟨h30,h⟩|⟨h30,h⟩:=ah h
   ·refine ac 134 h30 (aU 2 1 (ai 3 ?_));obtain⟨v29,h31,h⟩:=bind_some h;exact aD (i7 hK h31) (aa (ab 0 (iC hK h)))
   ·exact ac 134 h30 (ab 2 (iC hK h))
  ·refine ac 131 h29 (aU 7 3 ?_);obtain⟨h32,h⟩|⟨h32,h⟩:=ah h
   ·refine ac 140 h32 (ao 4 5 2 (ai 3 ?_));obtain⟨v30,h33,h⟩:=bind_some h;exact aD (i7 hK h33) (aa (ab 1 (iC hK h)))
   ·refine ac 140 h32 (aU 3 1 (ai 3 ?_));obtain⟨v31,h34,h⟩:=bind_some h;exact aD (gY hK h34) (aa (ab 0 (iC hK h)))
theorem qw(hK:aj K)(h:iR K n v1 v2 v3 v4 v6 v15 v16 v17 v18 v19 v21 v25 v26=some r):d9 M w0 r [.b 2,bU 1023] (xP v1 v2 v3 v4 v6 v15 v16 v17 v18 v19 v21 v25 v26):=by
 unfold iR at h;refine cN 8 9 3 3 4 (ai 2 ?_);obtain⟨h25,h⟩|⟨h25,h⟩:=ah h
 ·refine ap 115 h25 (aN 5 3 ?_);obtain⟨h26,h⟩|⟨h26,h⟩:=ah h
  ·exact ap 118 h26 (aa (ab 0 (qG hK h)))
  ·exact ap 118 h26 (aa (ab 0 (qG hK h)))
 ·exact ap 115 h25 (aa (ab 0 (qG hK h)))
theorem so(hK:aj K)(h:ou K n v1 v2 v3 v4 v6 v15 v16 v17 v18 v19 v20 v21 v23=some r):d9 M w0 r [bU 16359,.b 2,bU 1023] (EE v1 v2 v3 v4 v6 v15 v16 v17 v18 v19 v20 v21 v23):=by
 unfold ou at h;obtain⟨h23,h⟩|⟨h23,h⟩:=ah h
 ·refine ac 98 h23 (aU 2 1 (ai 1 ?_));obtain⟨v24,h24,h⟩:=bind_some h;exact aD (gY hK h24) (aa (ab 0 (qw hK h)))
 ·exact ac 98 h23 (ab 2 (qw hK h))
theorem vC(hK:aj K)(h:kx K n v1 v2 v3 v4 v6 v15 v16 v17 v18 v19=some r):d9 M w0 r [bU 255] (DK v1 v2 v3 v4 v6 v15 v16 v17 v18 v19):=by
 unfold kx at h;refine ao 2 3 1 (bE [2,3,5,6,10,11,12,13,14,15,16,17,18] [5,6,10,11,16,17] [1054] ?_);obtain⟨v20,h18,h⟩:=bind_some h;obtain⟨v21,h19,h⟩:=bind_some h;refine bJ 2 (nu 81 [.ptr 6 0,.ptr 6 0,iI v2.Margin.a0,.agg (bv v20),.ptr 6 0,.ptr 6 2,iI v2.Margin.a2,.agg (bv v21),.ptr 11 61,.ptr 11 63]) [] [] [bz Try.prog 259 Try.f62 (pn 510) 9,bz Try.prog 259 Try.f62 (pn 510) 11] (ay (vz 3) (ag (bI 0 1 84 (tp hK h18)) (ay [.v 0 2,.v 0 2,.v 0 2] (ag (bI 0 1 88 (tp hK h19)) (ay [.v 0 1] (ag (bw 0) (ay [.v 1 1] (ag (bw 1) bG)))))))) (fA 9 2 3 4 ?_);obtain⟨h20,h⟩|⟨h20,h⟩:=ah h
 ·refine ac 91 h20 (aU 2 1 (ai 3 ?_));obtain⟨v22,h21,h⟩:=bind_some h;exact aD (i7 hK h21) (aa (ab 0 (qw hK h)))
 ·refine ac 91 h20 (ao 6 7 2 (ai 3 ?_));obtain⟨h22,h⟩|⟨h22,h⟩:=ah h
  ·exact ap 101 h22 (aa (ab 0 (so hK h)))
  ·exact ap 101 h22 (aa (ab 0 (so hK h)))
theorem BO(hK:aj K)(hL1:uz M w0 r v1 v2 v3 v4 v5 v6 m1 L1)(h:mV K n v1 v2 v3 v4 v5 v6 L1 v9 v10=some r):d9 M w0 r (bU 32596::Ba M w0 r m1) (uJ v1 v2 v3 v4 v5 v6 v9 v10):=by
 unfold mV at h;refine ao 6 7 3 ?_;obtain⟨h11,h⟩|⟨h11,h⟩:=ah h
 ·refine ac 39 h11 (cN 8 9 1 3 5 (ai 0 ?_));obtain⟨h12,h⟩:=aS h;refine ax (bD aO aX h12 (d7) (dJ)) (aa (ai 6 ?_));obtain⟨v11,h13,h⟩:=bind_some h;refine gK (hK.lq h13) (ax (eK az ([v11]:List ae) (new:=[aG v11]) (by simp only[List.map_cons,List.map_nil,cy])) ?_);obtain⟨h14,h⟩:=aS h;exact ax (cf 50 50 64 67 az (rfl) (d6) h14) (aa (ab 2 (bo (hL1 h))))
 ·refine ac 39 h11 (bX (ks':=[bU 4075,bU 255]) 5 (ai 1 (mi 50 ?_)));obtain⟨v12,h15,h⟩:=bind_some h;exact eF 1054 (Az hK h15) (sO (i:=0) rfl) (aa (ab 0 (vC hK h)))
theorem Cc(hK:aj K)(m:Nat):uz M w0 r v1 v2 v3 v4 v5 v6 m (nJ K n v1 v2 v3 v4 v5 v6 m):=by
 induction m with
 | zero=>intro v9 v10 h;cases h
 | succ m ih=>intro v9 v10 h;have h:mV K n v1 v2 v3 v4 v5 v6 (nJ K n v1 v2 v3 v4 v5 v6 m) v9 v10=some r:=h;exact bm (BO hK ih h)
theorem uf(hK:aj K)(h:oi K n v1 v2 v3 v4 v5=some r):aI Try.prog 62 [.agg (aX v1),.agg (bl v2),.bool v3,.bool v4,.agg (bS v5)] (fun v s=>v=.agg (List.set (aG ({ r with Kids:=[] }:ae)) 66 (.ref 1054))∧look 1054 s.r=some ⟨64,67,lm az r.Kids⟩):=by
 refine aZ (cat Try.f62 (pn 1)) Try.func62 Try.ntmps62 fun M w0=>(aY ⟨[(0,.agg (aX v1)),(1,.agg (bl v2)),(2,.bool v3),(3,.bool v4),(4,.agg (bS v5))],[],[],[]⟩ ?_);unfold oi at h;refine ao 14 15 5 (ai 1 ?_);obtain⟨v6,h1,h⟩:=bind_some h;refine aD (tZ hK h1) (aa (ao 61 31 9 ?_));obtain⟨h2,h⟩|⟨h2,h⟩:=ah h
 ·exact ac 35 h2 (bK 20 21 11 5 (ai 1 (ax (bA aO v6.1) (aa (eI 2 0 1 (bE [2,3,5,6,9,10,11,12,13,15,16,17,19,36,37,38] [5,6,9,10,11,16,17] [] (eV 50 19 64 67 (ab 0 (ce (p:=pn 16298) n (Cc hK n h))))))))))
 ·refine ac 35 h2 (ao 6 7 2 (ai 7 ?_));obtain⟨v13,h16,h⟩:=bind_some h;refine gK (hK.lC h16) (aa (ao 2 3 1 (ai 2 ?_)));obtain⟨v14,h17,h⟩:=bind_some h;exact eF 1075 (C6 hK h17) (fD 5) (aa (ai 2 (ax (bA az v14) (aa (bE [2,3,5,6,10,11,12,13,14,15,16,17,18] [5,6,10,11,16,17] [1075] (zS 1075 1054 (ab 0 (vC hK h))))))))
end
noncomputable section
variable(M:Nat→Prop)(w0:aw)(r:ae)(v1:aq)(v2:bp)(v3:bP)  
variable{M w0 r v1 v2 v3}{K:Kn}{n:Nat}
theorem Ef(hK:aj K)(h:rW K n v1 v2 v3=some r):aI Try.prog 46 [.agg (aX v1),.agg (bl v2),.agg (bS v3)] (fun v s=>v=.agg (List.set (aG ({ r with Kids:=[] }:ae)) 66 (.ref 1010))∧look 1010 s.r=some ⟨64,67,lm az r.Kids⟩):=by
 refine aZ (cat Try.f46 (pn 1)) Try.func46 Try.ntmps46 fun M w0=>(aY ⟨[(0,.agg (aX v1)),(1,.agg (bl v2)),(2,.agg (bS v3))],[],[],[]⟩ ?_);unfold rW at h;refine ao 6 7 3 (ai 3 ?_);obtain⟨v4,h1,h⟩:=bind_some h;refine eF 1010 (uf hK h1) (nK (i:=66) (by kernel_rfl)) (aa (aC 1 ?_));cases h;exact dQ
end
noncomputable section
variable(M:Nat→Prop)(w0:aw)(r:aB)(v1:aq)(v2:Int)(v3:bP)  
variable{M w0 r v1 v2 v3}{K:Kn}{n:Nat}
theorem Cv(hK:aj K)(h:qJ K n v1 v2 v3=some r):aI Try.prog 42 [.agg (aX v1),.cptr ([iI v2]),.cptr (bS v3)] (fun v _=>v=.agg (aE r)):=by
 refine aZ (cat Try.f42 (pn 1)) Try.func42 Try.ntmps42 fun M w0=>(aY ⟨[(0,.agg (aX v1)),(1,.cptr ([iI v2])),(2,.cptr (bS v3))],[],[],[]⟩ ?_);unfold qJ at h;refine ao 6 7 3 (bE [1,2,3,4] [3,4] [] ?_);obtain⟨v4,h1,h⟩:=bind_some h;obtain⟨v5,h2,h⟩:=bind_some h;refine bJ 1 (nu 7 [.ptr 3 2,.agg (au v1.Style),iI v2,.agg (aX v1),iI v2,.agg (bS v3),iI v4,.agg (bl v5)]++nu 5 [.ptr 5 0]) [(5,bl dR)] [] [bz Try.prog 36 Try.f42 (pn 6) 9] (ay (vz 6) (ag (bI 0 1 13 (BB hK h1)) (ag (bI 0 1 14 (kh hK h2)) (ag (rG 0 1 84 5 (bl dR)) (ag (bw 0) bG))))) (ao 2 3 1 (bE [1,2,3,4,5] [3,4,5] [] ?_));obtain⟨v7,h4,h⟩:=bind_some h;obtain⟨v8,h5,h⟩:=bind_some h;refine bJ 1 (nu 15 [.agg (aX v1),.agg (bl v5),.agg (bS v3),.agg (aG v7),iI v2,.agg (aG v8)]++nu 6 [.ptr 6 0]) [(6,List.set (aG bf) 66 (.nils))] [] [bz Try.prog 36 Try.f42 (pn 14) 7] (ay (vz 3) (ag (bI 0 1 18 (aI.bh (Ef hK h4) (V':=.agg (aG v7)) (by kernel_rfl))) (ay [.v 0 1] (ag (bI 0 1 20 (w8 hK h5)) (ag (rG 0 1 64 6 (List.set (aG bf) 66 (.nils))) (ag (bw 0) bG)))))) (ao 2 3 1 (bE [4,5,6] [4,5,6] [] ?_))
 obtain⟨v9,h6,h⟩:=bind_some h;obtain⟨v10,h7,h⟩:=bind_some h;obtain⟨v11,h8,h⟩:=bind_some h;refine bJ 1 (nu 21 [.agg (bl v5),iI v9,.ptr 6 5,iI v8.H,.ptr 6 61,.agg (bv v8.Before),iI v10,iI (af (v8.H+v10)),.ptr 6 63,.agg (bv v8.After),iI v11,iI (af ((af (v8.H+v10))+v11)),.agg (aG v8),.sl (lm az [v8]),.agg (aE ({ cd with Width:=v9,Above:=(af ((af (v8.H+v10))+v11)),Box:=[v8] }:aB))]) [] [] [bz Try.prog 36 Try.f42 (pn 30) 15] (ay [.v 0 1] (ag (bI 0 1 22 (gX hK h6)) (ay (vz 4) (ag (bI 0 1 27 (gY hK h7)) (ay (vz 3) (ag (bI 0 1 31 (gY hK h8)) (ay (vz 2) (bQ (eK az ([v8]:List ae) (new:=[aG v8]) (by simp only[List.map_cons,List.map_nil,cy])) (ay [.v 0 1] (ag (bw 0) bG)))))))))) (aC 1 ?_);cases h;exact aV
end
noncomputable section
variable(M:Nat→Prop)(w0:aw)(r:List aB)(v1:List aq)(v2:Int)(v3:bP)  
variable{M w0 r v1 v2 v3}{K:Kn}{n:Nat}
theorem yu(hK:aj K)(h:oK K n v1 v2 v3=some r):aI Try.prog 22 [.sl (lm aO v1),iI v2,.agg (bS v3)] (fun v s=>v=.ref 1009∧look 1009 s.r=some ⟨41,62,lm aE r⟩):=by
 refine aZ (cat Try.f22 (pn 1)) Try.func22 Try.ntmps22 fun M w0=>(aY ⟨[(0,.sl (lm aO v1)),(1,iI v2),(2,.agg (bS v3))],[],[],[]⟩ ?_);unfold oK at h;refine ao 6 7 3 (ai 1 (vj 4 4 ([iI v2]) (vj 5 5 (bS v3) (Ct 42 #[(.tmp 4),(.tmp 5)] [.cptr ([iI v2]),.cptr (bS v3)] ?_))));obtain⟨v4,h1,h⟩:=bind_some h;refine eF 1009 (C4 hK h1) (fD 117) (aa (aC 1 ?_));cases h;exact dQ
end
noncomputable section
variable(M:Nat→Prop)(w0:aw)(r:Int)(v1:aH)(v2 v3:Int)  
variable{M w0 r v1 v2 v3}{K:Kn}{n:Nat}
theorem uE(hK:aj K)(h:gI K n v1 v2 v3=some r):aI Try.prog 11 [.agg (au v1),iI v2,iI v3] (fun v _=>v=iI r):=by
 refine aZ (cat Try.f11 (pn 1)) Try.func11 Try.ntmps11 fun M w0=>(aY ⟨[(0,.agg (au v1)),(1,iI v2),(2,iI v3)],[],[],[]⟩ ?_);unfold gI at h;refine ao 13 7 5 ?_;obtain⟨h1,h⟩|⟨h1,h⟩:=ah h
 ·refine ac 9 h1 (aC 5 ?_);cases h;exact aV
 ·refine ac 9 h1 (uK 21 0 3 8 ?_);obtain⟨h2,h⟩|⟨h2,h⟩:=ah h
  ·refine ac 12 h2 (aC 6 ?_);cases h;exact aV
  ·refine ac 12 h2 (aU 7 3 ?_);obtain⟨h3,h⟩|⟨h3,h⟩:=ah h
   ·refine ac 18 h3 (aC 6 ?_);cases h;exact aV
   ·refine ac 18 h3 (aC 6 ?_);cases h;exact aV
end
noncomputable section
variable(M:Nat→Prop)(w0:aw)(r:Bool)(v1 v2:ByteArray)(v3:Bool)  
abbrev Bs(n:Nat):ak:=.c (cat Try.f63 (pn n))
abbrev Eg:Cx:=⟨Try.prog,21,M,w0⟩
abbrev xO:=bodyPost Try.prog Try.f63 (bn M w0 (fun v _=>v=.bool r))
abbrev EQ(ks:List ak)(s:AS):=VE (Eg M w0) (xO M w0 r) ks .normal s
def Cq:AS:=⟨[(4,.bool v3)],[],[],[]⟩
variable{M w0 r v1 v2 v3}{K:Kn}{n:Nat}
theorem uT(hK:aj K)(h:lf K n v3=some r):EQ M w0 r [Bs 7] (Cq v3):=by
 unfold lf at h;refine aC 1 ?_;cases h;exact aV
theorem xU(hK:aj K)(h:o3 K n v1 v2=some r):aI Try.prog 63 [.str v1,.str v2] (fun v _=>v=.bool r):=by
 refine aZ (cat Try.f63 (pn 1)) Try.func63 Try.ntmps63 fun M w0=>(aY ⟨[(0,.str v1),(1,.str v2)],[],[],[]⟩ ?_);unfold o3 at h;refine ao 6 7 3 (ai 6 ?_);obtain⟨h1,h⟩|⟨h1,h⟩:=ah h
 ·refine ap 10 h1 (aN 12 6 ?_);obtain⟨h2,h⟩:=aS h;exact ax (lu h2) (aa (ab 0 (uT hK h)))
 ·exact ap 10 h1 (aa (ab 0 (uT hK h)))
end
noncomputable section
variable(M:Nat→Prop)(w0:aw)(r:Bool)(v1 v2:ByteArray)  
variable{M w0 r v1 v2}{K:Kn}{n:Nat}
theorem CV(hK:aj K)(h:ri K n v1 v2=some r):aI Try.prog 52 [.str v1,.str v2] (fun v _=>v=.bool r):=by
 refine aZ (cat Try.f52 (pn 1)) Try.func52 Try.ntmps52 fun M w0=>(aY ⟨[(0,.str v1),(1,.str v2)],[],[],[]⟩ ?_);unfold ri at h;refine ao 6 7 3 (ai 2 ?_);obtain⟨v3,h1,h⟩:=bind_some h;refine aD (xU hK h1) (aa (aC 1 ?_));cases h;exact aV
end
noncomputable section
variable(M:Nat→Prop)(w0:aw)(r:ae)(v1:List aB)(v2:aH)(v3 v8 v9 v10 v11 v12 v15 v78 v79:Int)(v80:List ae)(v82:Bool)(v83:aB)(v87:List ae)(v104:Int)(v105:List ae)(m1 m2 m3:Nat)(L1:Int→Int→Int→Option ae)(L2:Int→Int→(List ae)→Option ae)(L3:Int→(List ae)→Option ae)
abbrev gb:Cx:=⟨Try.prog,156,M,w0⟩
abbrev gf:=bodyPost Try.prog Try.f35 (bn M w0 (fun v s=>v=.agg (List.set (aG ({ r with Kids:=[] }:ae)) 66 (.ref 114))∧look 114 s.r=some ⟨64,67,lm az r.Kids⟩))
abbrev f0(ks:List ak)(s:AS):=VE (gb M w0) (gf M w0 r) ks .normal s
abbrev cm(n:Nat):ak:=.c (cat Try.f35 (pn n))
abbrev oB:List ak:=[.b 2,cm 255]
abbrev iv:List ak:=kl (gb M w0) (gf M w0 r) oB (cat Try.f35 (pn 2036)) m2::oB
abbrev qH:List ak:=[.b 0,cm 15]
abbrev uD:List ak:=kl (gb M w0) (gf M w0 r) qH (cat Try.f35 (pn 116)) m1::qH
abbrev pj:List ak:=.b 4::cm 521423 :: .b 3::cm 16295::iv M w0 r m2
abbrev ph:List ak:=kl (gb M w0) (gf M w0 r) (pj M w0 r m2) (cat Try.f35 (pn 4171380)) m3::(pj M w0 r m2)
def yy:AS:=⟨[(0,.sl (lm aE v1)),(2,iI v3),(4,.ptr 4 0),(6,.ptr 6 0),(7,iI v11),(8,iI v12),(24,.sl (lm aE v1)),(25,iI (v1.length:Int)),(26,iI v10)],[(4,au v2),(6,List.set (aG bf) 66 (.nils))],[],[4,6]⟩
def vS:AS:=⟨[(6,.ptr 6 0),(7,iI v8),(11,.ptr 11 0),(12,iI v78),(13,iI v15),(15,.ptr 15 0),(56,.sl (lm aE v1)),(57,iI (v1.length:Int)),(58,iI v79),(117,.sl (lm az v83.Box)),(118,iI (v83.Box.length:Int)),(119,iI v104)],[(6,List.set (aG bf) 66 (.nils)),(11,List.set (aG ({ bf with Kind:=2,W:=v3,H:=(af (v8+v9)),aw:=v8,Style:=v2 }:ae)) 66 (.ref 114)),(15,aE v83)],[(114,⟨64,67,lm az v105⟩)],[6,11,15,114]⟩
def xM:AS:=⟨[(6,.ptr 6 0),(7,iI v8),(11,.ptr 11 0),(12,iI v78),(13,iI v15),(15,.ptr 15 0),(56,.sl (lm aE v1)),(57,iI (v1.length:Int)),(58,iI v79)],[(6,List.set (aG bf) 66 (.nils)),(11,List.set (aG ({ bf with Kind:=2,W:=v3,H:=(af (v8+v9)),aw:=v8,Style:=v2 }:ae)) 66 (.ref 114)),(15,aE v83)],[(114,⟨64,67,lm az v87⟩)],[6,11,15,114]⟩
def zq:AS:=⟨[(6,.ptr 6 0),(7,iI v8),(11,.ptr 11 0),(12,iI v78),(13,iI v15),(15,.ptr 15 0),(56,.sl (lm aE v1)),(57,iI (v1.length:Int)),(58,iI v79)],[(6,List.set (aG bf) 66 (.nils)),(11,List.set (aG ({ bf with Kind:=2,W:=v3,H:=(af (v8+v9)),aw:=v8,Style:=v2 }:ae)) 66 (.ref 114)),(15,aE v83)],[(114,⟨64,67,lm az v80⟩)],[6,11,15,114]⟩
def D0:AS:=⟨[(6,.ptr 6 0),(7,iI v8),(11,.ptr 11 0),(12,iI v78),(13,iI v15),(15,.ptr 15 0),(56,.sl (lm aE v1)),(57,iI (v1.length:Int)),(58,iI v79),(76,.bool v82)],[(6,List.set (aG bf) 66 (.nils)),(11,List.set (aG ({ bf with Kind:=2,W:=v3,H:=(af (v8+v9)),aw:=v8,Style:=v2 }:ae)) 66 (.ref 114)),(15,aE (gD v1 v79))],[(114,⟨64,67,lm az v80⟩)],[6,11,15,114]⟩
def xg:AS:=⟨[(6,.ptr 6 0),(7,iI v8),(11,.ptr 11 0),(12,iI v78),(13,iI v15),(56,.sl (lm aE v1)),(57,iI (v1.length:Int)),(58,iI v79)],[(6,List.set (aG bf) 66 (.nils)),(11,List.set (aG ({ bf with Kind:=2,W:=v3,H:=(af (v8+v9)),aw:=v8,Style:=v2 }:ae)) 66 (.ref 114))],[(114,⟨64,67,lm az v80⟩)],[6,11,114]⟩
def ut:AS:=⟨[(0,.sl (lm aE v1)),(2,iI v3),(4,.ptr 4 0),(6,.ptr 6 0),(7,iI v8),(8,iI v9),(24,.sl (lm aE v1)),(25,iI (v1.length:Int)),(26,iI v10)],[(4,au v2),(6,List.set (aG bf) 66 (.nils))],[],[4,6]⟩
abbrev pD:Prop:=∀{v8:Int} {v9:Int} {v10:Int},L1 v8 v9 v10=some r→LP (gb M w0) (gf M w0 r) qH (cat Try.f35 (pn 116)) m1 (ut v1 v2 v3 v8 v9 v10)
abbrev gr:Prop:=∀{v78:Int} {v79:Int} {v80:(List ae)},L2 v78 v79 v80=some r→LP (gb M w0) (gf M w0 r) oB (cat Try.f35 (pn 2036)) m2 (xg v1 v2 v3 v8 v9 v15 v78 v79 v80)
abbrev vA:Prop:=∀{v104:Int} {v105:(List ae)},L3 v104 v105=some r→LP (gb M w0) (gf M w0 r) (pj M w0 r m2) (cat Try.f35 (pn 4171380)) m3 (vS v1 v2 v3 v8 v9 v15 v78 v79 v83 v104 v105)
variable{M w0 r v1 v2 v3 v8 v9 v10 v11 v12 v15 v78 v79 v80 v82 v83 v87 v104 v105 m1 m2 m3 L1 L2 L3}{K:Kn}{n:Nat}
theorem w7(hK:aj K)(hL1:pD M w0 r v1 v2 v3 m1 L1)(h:n6 K n v1 v2 v3 v10 L1 v11 v12=some r):f0 M w0 r (.b 1::cm 935::uD M w0 r m1) (yy v1 v2 v3 v10 v11 v12):=by
 unfold n6 at h;exact ab 2 (bo (hL1 h))
theorem yf(hK:aj K)(hL2:gr M w0 r v1 v2 v3 v8 v9 v15 m2 L2)(hL3:vA M w0 r v1 v2 v3 v8 v9 v15 v78 v79 v83 m2 m3 L3)(h:lR K n v1 v2 v3 v8 v9 v15 v78 v79 v83 L2 L3 v104 v105=some r):f0 M w0 r (cm 4171380::ph M w0 r m2 m3) (vS v1 v2 v3 v8 v9 v15 v78 v79 v83 v104 v105):=by
 unfold lR at h;refine ao 6 7 3 ?_;obtain⟨h123,h⟩|⟨h123,h⟩:=ah h
 ·refine ac 120 h123 (cN 8 9 5 3 5 (ai 0 ?_));obtain⟨h124,h⟩:=aS h;refine ax (bD az aG h124 (d6) (cy)) (aa ?_);obtain⟨v106,h125,h⟩:=bO h;obtain⟨v107,h126,h⟩:=bO h;obtain⟨v108,h127,h⟩:=bO h;obtain⟨v109,h128,h⟩:=bO h;obtain⟨v110,h129,h⟩:=bO h;obtain⟨v111,h130,h⟩:=bO h;obtain⟨v112,h131,h⟩:=bO h;obtain⟨v113,h132,h⟩:=bO h;obtain⟨v114,h133,h⟩:=bO h;obtain⟨v115,h134,h⟩:=bO h;refine bq (ks':=cm 533936742::cm 533936743 :: .b 5::cm 33371047::ph M w0 r m2 m3) 3 ⟨[(6,.ptr 6 0),(7,iI v8),(11,.ptr 11 0),(12,iI v78),(13,iI v15),(15,.ptr 15 0),(18,.ptr 18 0),(56,.sl (lm aE v1)),(57,iI (v1.length:Int)),(58,iI v79),(117,.sl (lm az v83.Box)),(118,iI (v83.Box.length:Int)),(119,iI v104)],[(6,List.set (aG bf) 66 (.nils)),(11,List.set (aG ({ bf with Kind:=2,W:=v3,H:=(af (v8+v9)),aw:=v8,Style:=v2 }:ae)) 66 (.ref 114)),(15,aE v83),(18,aG (⟨v106,v107,v108,(gD v83.Box v104).Y,(gD v83.Box v104).W,(gD v83.Box v104).H,v109,v110,v111,v112,v113,v114,v115⟩:ae))],[(114,⟨64,67,lm az v105⟩)],[6,11,15,18,114]⟩ ?_ (by subst h134;subst h133;subst h132;subst h131;subst h130;subst h129;subst h128;subst h127;subst h126;subst h125;kernel_rfl)
  obtain⟨v116,h135,h⟩:=bind_some h;refine bJ 1 (nu 128 [.ptr 18 3,iI ((gD v83.Box v104).Y),iI v8,.ptr 18 5,iI ((gD v83.Box v104).H),iI (af (v8-((gD v83.Box v104).H))),.ptr 18 63,.agg (bv v113),iI v116,iI (af ((af (v8-((gD v83.Box v104).H)))-v116)),iI (af (((gD v83.Box v104).Y)+(af ((af (v8-((gD v83.Box v104).H)))-v116)))),.ptr 18 3]) [] [] [bz Try.prog 156 Try.f35 (pn 533936742) 12] (ay (vz 8) (ag (bI 0 1 136 (gY hK h135)) (ay (vz 3) (ag (bw 0) bG)))) ?_;obtain⟨v117,h136,h⟩:=bO h;refine bq (ks':=cm 533936743 :: .b 5::cm 33371047::ph M w0 r m2 m3) 0 ⟨[(6,.ptr 6 0),(7,iI v8),(11,.ptr 11 0),(12,iI v78),(13,iI v15),(15,.ptr 15 0),(18,.ptr 18 0),(56,.sl (lm aE v1)),(57,iI (v1.length:Int)),(58,iI v79),(117,.sl (lm az v83.Box)),(118,iI (v83.Box.length:Int)),(119,iI v104)],[(6,List.set (aG bf) 66 (.nils)),(11,List.set (aG ({ bf with Kind:=2,W:=v3,H:=(af (v8+v9)),aw:=v8,Style:=v2 }:ae)) 66 (.ref 114)),(15,aE v83),(18,aG (⟨v106,v107,v108,v117,(gD v83.Box v104).W,(gD v83.Box v104).H,v109,v110,v111,v112,v113,v114,v115⟩:ae))],[(114,⟨64,67,lm az v105⟩)],[6,11,15,18,114]⟩ ?_ (by subst h136;kernel_rfl)
  refine ai 3 (ax (eK az ([(⟨v106,v107,v108,v117,(gD v83.Box v104).W,(gD v83.Box v104).H,v109,v110,v111,v112,v113,v114,v115⟩:ae)]:List ae) (new:=[aG (⟨v106,v107,v108,v117,(gD v83.Box v104).W,(gD v83.Box v104).H,v109,v110,v111,v112,v113,v114,v115⟩:ae)]) (by simp only[List.map_cons,List.map_nil,cy])) ?_);obtain⟨h137,h⟩:=aS h;exact ax (cf 144 114 64 67 az (rfl) (d6) h137) (aa (ab 2 (bo (hL3 h))))
 ·exact ac 120 h123 (ab 8 (bo (hL2 h)))
theorem DJ(hK:aj K)(hL2:gr M w0 r v1 v2 v3 v8 v9 v15 m2 L2)(m:Nat):vA M w0 r v1 v2 v3 v8 v9 v15 v78 v79 v83 m2 m (m6 K n v1 v2 v3 v8 v9 v15 v78 v79 v83 L2 m):=by
 induction m with
 | zero=>intro v104 v105 h;cases h
 | succ m ih=>intro v104 v105 h;have h:lR K n v1 v2 v3 v8 v9 v15 v78 v79 v83 L2 (m6 K n v1 v2 v3 v8 v9 v15 v78 v79 v83 L2 m) v104 v105=some r:=h;exact bm (yf hK hL2 ih h)
theorem vT(hK:aj K)(hL2:gr M w0 r v1 v2 v3 v8 v9 v15 m2 L2)(h:ox K n v1 v2 v3 v8 v9 v15 v78 v79 v83 L2 v87=some r):f0 M w0 r (cm 260711 :: .b 3::cm 16295::iv M w0 r m2) (xM v1 v2 v3 v8 v9 v15 v78 v79 v83 v87):=by
 unfold ox at h;exact bK 4 5 3 2 (ai 2 (ax (bA az v83.Box) (aa (ab 1 (ce (p:=pn 2085690) n (DJ hK hL2 n h))))))
theorem wX(hK:aj K)(hL2:gr M w0 r v1 v2 v3 v8 v9 v15 m2 L2)(h:oe K n v1 v2 v3 v8 v9 v15 v78 v79 v80 L2 v83=some r):f0 M w0 r (cm 130355 :: .b 3::cm 16295::iv M w0 r m2) (zq v1 v2 v3 v8 v9 v15 v78 v79 v80 v83):=by
 unfold oe at h;obtain⟨v84,h99,h⟩:=bO h;refine bq (ks':=cm 521421::cm 260711 :: .b 3::cm 16295::iv M w0 r m2) 3 ⟨[(6,.ptr 6 0),(7,iI v8),(11,.ptr 11 0),(12,iI v78),(13,iI v15),(15,.ptr 15 0),(56,.sl (lm aE v1)),(57,iI (v1.length:Int)),(58,iI v79),(88,.bool v84)],[(6,List.set (aG bf) 66 (.nils)),(11,List.set (aG ({ bf with Kind:=2,W:=v3,H:=(af (v8+v9)),aw:=v8,Style:=v2 }:ae)) 66 (.ref 114)),(15,aE v83)],[(114,⟨64,67,lm az v80⟩)],[6,11,15,114]⟩ ?_ (by subst h99;kernel_rfl);obtain⟨h100,h⟩|⟨h100,h⟩:=ah h
 ·refine ac 88 h100 (aU 5 3 (bE [6,7,11,12,13,15,16,56,57,58] [6,11,15] [114] ?_));obtain⟨v85,h101,h⟩:=bind_some h;obtain⟨v86,h102,h⟩:=bind_some h;obtain⟨h103,h⟩:=aS h;exact bJ 2 (nu 92 [.ptr 11 66,.ref 114,.ptr 15 0,iI v83.Node,.ptr 15 2,.agg (au v83.Style),.ptr 15 1,.str v83.Text,iI v78,iI v8,iI v83.Style.FontSize,iI v85,iI (af (v8-v85)),.ptr 15 55,iI v83.Width,.ptr 15 56,iI v83.Space,iI (af (v83.Width+v83.Space)),iI v83.Style.FontSize,iI v86,.agg (List.set (aG (⟨3,v83.Node,v78,(af (v8-v85)),(af (v83.Width+v83.Space)),v86,0,v83.Text,v83.Style,cc,cc,false,[]⟩:ae)) 66 (.nils)),.sl (lm az [(⟨3,v83.Node,v78,(af (v8-v85)),(af (v83.Width+v83.Space)),v86,0,v83.Text,v83.Style,cc,cc,false,[]⟩:ae)])]++nu 115 [.ptr 11 66]) [] [] [gc 114 114 ⟨64,67,lm az (v80++[(⟨3,v83.Node,v78,(af (v8-v85)),(af (v83.Width+v83.Space)),v86,0,v83.Text,v83.Style,cc,cc,false,[]⟩:ae)])⟩,bz Try.prog 156 Try.f35 (pn 2085685) 24] (ay [.v 0 2,.v 0 1,.v 0 2,.v 0 2,.v 0 2,.v 0 2,.v 0 2,.v 0 2,.v 0 2,.v 0 2,.v 0 2] (ag (bI 0 2 103 (u0 hK h101)) (ay [.v 0 2,.v 0 2,.v 0 2,.v 0 2,.v 0 2,.v 0 2,.v 0 2] (ag (bI 0 1 111 (tG hK h102)) (ay [.v 0 2] (bQ (eK az ([(⟨3,v83.Node,v78,(af (v8-v85)),(af (v83.Width+v83.Space)),v86,0,v83.Text,v83.Style,cc,cc,false,[]⟩:ae)]:List ae) (new:=[aG (⟨3,v83.Node,v78,(af (v8-v85)),(af (v83.Width+v83.Space)),v86,0,v83.Text,v83.Style,cc,cc,false,[]⟩:ae)]) (by simp only[List.map_cons,List.map_nil,cy])) (ag (eE (m:=0) (cf 114 114 64 67 az (rfl) (d6) h103)) (ay [.v 1 1] (ag (bw 1) bG))))))))) (ab 0 (vT hK hL2 h))
 ·exact ac 88 h100 (ab 2 (vT hK hL2 h))
theorem qX(hK:aj K)(hL2:gr M w0 r v1 v2 v3 v8 v9 v15 m2 L2)(h:jS K n v1 v2 v3 v8 v9 v15 v78 v79 v80 L2 v82=some r):f0 M w0 r (cm 260709::cm 130355 :: .b 3::cm 16295::iv M w0 r m2) (D0 v1 v2 v3 v8 v9 v15 v78 v79 v80 v82):=by
 unfold jS at h;obtain⟨h97,h⟩|⟨h97,h⟩:=ah h
 ·refine ac 76 h97 (ao 4 5 2 (ai 6 ?_));obtain⟨h98,h⟩:=aS h;exact ax (lu h98) (aa (ab 1 (wX hK hL2 h)))
 ·exact ac 76 h97 (ab 2 (wX hK hL2 h))
theorem y9(hK:aj K)(hL2:gr M w0 r v1 v2 v3 v8 v9 v15 m2 L2)(h:l4 K n v1 v2 v3 v8 v9 v15 L2 v78 v79 v80=some r):f0 M w0 r (cm 2036::iv M w0 r m2) (xg v1 v2 v3 v8 v9 v15 v78 v79 v80):=by
 unfold l4 at h;refine ao 6 7 3 ?_;obtain⟨h92,h⟩|⟨h92,h⟩:=ah h
 ·refine ac 59 h92 (cN 8 9 3 3 5 (ai 1 ?_));obtain⟨h93,h⟩:=aS h;refine ax (bD aE aE h93 (ex) (fun _=>rfl)) (aa (bK 4 5 3 2 (ai 4 ?_)));obtain⟨h94,h⟩|⟨h94,h⟩:=ah h
  ·refine ap 66 h94 (aN 6 2 ?_);obtain⟨v81,h95,h⟩:=bind_some h;refine aD (CV hK h95) (aN 9 2 ?_);obtain⟨h96,h⟩|⟨h96,h⟩:=ah h
   ·exact ap 71 h96 (aa (ab 0 (qX hK hL2 h)))
   ·exact ap 71 h96 (aa (ab 0 (qX hK hL2 h)))
  ·exact ap 66 h94 (aa (ab 0 (qX hK hL2 h)))
 ·refine ac 59 h92 (aC 8 ?_);cases h;exact dQ
theorem y6(hK:aj K)(m:Nat):gr M w0 r v1 v2 v3 v8 v9 v15 m (lK K n v1 v2 v3 v8 v9 v15 m):=by
 induction m with
 | zero=>intro v78 v79 v80 h;cases h
 | succ m ih=>intro v78 v79 v80 h;have h:l4 K n v1 v2 v3 v8 v9 v15 (lK K n v1 v2 v3 v8 v9 v15 m) v78 v79 v80=some r:=h;exact bm (y9 hK ih h)
theorem zd(hK:aj K)(hL1:pD M w0 r v1 v2 v3 m1 L1)(h:kI K n v1 v2 v3 L1 v8 v9 v10=some r):f0 M w0 r (cm 116::uD M w0 r m1) (ut v1 v2 v3 v8 v9 v10):=by
 unfold kI at h;refine ao 6 7 3 ?_;obtain⟨h6,h⟩|⟨h6,h⟩:=ah h
 ·refine ac 27 h6 (cN 8 9 1 3 5 (ai 0 ?_));obtain⟨h7,h⟩:=aS h;refine ax (bD aE aE h7 (ex) (fun _=>rfl)) (aa (aU 3 2 ?_));obtain⟨h8,h⟩|⟨h8,h⟩:=ah h
  ·exact ac 32 h8 (aU 2 1 (bE [0,2,4,6,7,8,10,24,25,26] [4,6,10] [] (bJ 2 (nu 33 [iI v8,.ptr 10 57,iI ((gD v1 v10).Above),iI (max v8 ((gD v1 v10).Above)),iI v9,.ptr 10 58,iI ((gD v1 v10).Below),iI (max v9 ((gD v1 v10).Below))]) [] [] [bz Try.prog 156 Try.f35 (pn 14950) 8,bz Try.prog 156 Try.f35 (pn 14950) 9] (ay [.v 0 1,.v 0 1,.v 0 1,.v 0 1,.v 0 2,.v 0 2,.v 0 2,.v 0 2] (ag (bw 0) (ag (bw 1) bG))) (ab 0 (w7 hK hL1 h)))))
  ·exact ac 32 h8 (ab 2 (w7 hK hL1 h))
 ·refine ac 27 h6 (jd 6 7 8 (bE [0,2,4,6,7,11] [4,6,11] [] ?_));obtain⟨v13,h9,h⟩:=bind_some h;obtain⟨v14,h10,h⟩:=bind_some h;refine bJ 1 (nu 49 [.agg (au v2),iI v3,.sl (lm aE v1),iI v13,iI v14]) [] [] [bz Try.prog 156 Try.f35 (pn 62) 5] (ay (vz 3) (ag (bI 0 1 52 (tM hK h9)) (ag (bI 0 1 53 (uE hK h10)) (ag (bw 0) bG)))) (ao 2 3 1 (ai 1 ?_));obtain⟨v15,h11,h⟩:=bind_some h;exact aD (wg hK h11) (aa (bK 4 5 3 2 (ai 1 (ax (bA aE v1) (aa (eI 2 2 1 (bE [6,7,11,12,13,56,57,58] [6,11] [] (uS 114 11 66 64 67 (ab 0 (ce (p:=pn 1018) n (y6 hK n h)))))))))))
theorem D1(hK:aj K)(m:Nat):pD M w0 r v1 v2 v3 m (mK K n v1 v2 v3 m):=by
 induction m with
 | zero=>intro v8 v9 v10 h;cases h
 | succ m ih=>intro v8 v9 v10 h;have h:kI K n v1 v2 v3 (mK K n v1 v2 v3 m) v8 v9 v10=some r:=h;exact bm (zd hK ih h)
theorem y5(hK:aj K)(h:qM K n v1 v2 v3=some r):aI Try.prog 35 [.sl (lm aE v1),.agg (au v2),iI v3] (fun v s=>v=.agg (List.set (aG ({ r with Kids:=[] }:ae)) 66 (.ref 114))∧look 114 s.r=some ⟨64,67,lm az r.Kids⟩):=by
 refine aZ (cat Try.f35 (pn 1)) Try.func35 Try.ntmps35 fun M w0=>(aY ⟨[(0,.sl (lm aE v1)),(1,.agg (au v2)),(2,iI v3)],[],[],[]⟩ ?_);unfold qM at h;refine ao 6 7 3 (ai 1 ?_);obtain⟨v4,h1,h⟩:=bind_some h;exact aD (jm hK h1) (aa (bK 4 5 3 2 (ai 1 (ax (bA aE v1) (aa (ab 1 (ce (p:=pn 58) n (D1 hK n h))))))))
end
noncomputable section
variable(M:Nat→Prop)(w0:aw)(r:(List ae)×Int)(v1:List aq)(v2:aH)(v3:Int)(v4:bP)(v5:List aB)(v6:List Int)(v13 v14 v15:Int)(v16:List ae)(m1:Nat)(L1:Int→Int→Int→(List ae)→Option ((List ae)×Int))
abbrev re:Cx:=⟨Try.prog,61,M,w0⟩
abbrev rR:=bodyPost Try.prog Try.f16 (bn M w0 (fun v s=>v=.tup [.ref 57,iI r.2]∧look 57 s.r=some ⟨64,67,lm az r.1⟩))
abbrev Bh(ks:List ak)(s:AS):=VE (re M w0) (rR M w0 r) ks .normal s
abbrev un(n:Nat):ak:=.c (cat Try.f16 (pn n))
abbrev rK:List ak:=[.b 0,un 63]
abbrev zb:List ak:=kl (re M w0) (rR M w0 r) rK (cat Try.f16 (pn 500)) m1::rK
def sD:AS:=⟨[(2,iI (min (max v3 0) 1048576)),(5,.ptr 5 0),(8,.ref 57),(9,iI v13),(10,.sl (lm aE v5)),(11,.ref 1023),(30,iI v14),(31,iI v15)],[(5,au v2)],[(57,⟨64,67,lm az v16⟩),(1023,⟨3,1,lm (bi .i64) (v6++[(v5.length:Int)])⟩)],[5,57,1023]⟩
abbrev wV:Prop:=∀{v13:Int} {v14:Int} {v15:Int} {v16:(List ae)},L1 v13 v14 v15 v16=some r→LP (re M w0) (rR M w0 r) rK (cat Try.f16 (pn 500)) m1 (sD v2 v3 v5 v6 v13 v14 v15 v16)
variable{M w0 r v1 v2 v3 v4 v5 v6 v13 v14 v15 v16 m1 L1}{K:Kn}{n:Nat}
theorem BR(hK:aj K)(hL1:wV M w0 r v2 v3 v5 v6 m1 L1)(h:lN K n v2 v3 v5 v6 L1 v13 v14 v15 v16=some r):Bh M w0 r (un 500::zb M w0 r m1) (sD v2 v3 v5 v6 v13 v14 v15 v16):=by
 unfold lN at h;refine ao 6 7 3 ?_;obtain⟨h20,h⟩|⟨h20,h⟩:=ah h
 ·refine ac 32 h20 (cN 18 19 1 3 7 (bE [2,5,8,9,10,11,12,30,31] [5] [57,1023] ?_));obtain⟨h21,h⟩:=aS h;obtain⟨h22,h⟩:=aS h;obtain⟨h23,h⟩:=aS h;obtain⟨v17,h24,h⟩:=bind_some h;refine bJ 1 (nu 34 [.sl (lm aE v5),.ref 1023,iI v15,.eptr 1023 1 (v15.toNat) 0,iI (gD (v6++[(v5.length:Int)]) v15),.ref 1023,iI v15,iI (af (v15+1)),.eptr 1023 1 (((af (v15+1))).toNat) 0,iI (gD (v6++[(v5.length:Int)]) ((af (v15+1)))),.sl (lm aE (List.drop ((gD (v6++[(v5.length:Int)]) v15)).toNat (List.take ((gD (v6++[(v5.length:Int)]) ((af (v15+1))))).toNat v5))),.agg (au v2),iI (min (max v3 0) 1048576),.agg (List.set (aG ({ v17 with Kids:=[] }:ae)) 66 (.ref 47))]++nu 13 [.ptr 13 0]) [(13,List.set (aG bf) 66 (.nils))] [(47,⟨64,67,lm az v17.Kids⟩)] [bz Try.prog 61 Try.f16 (pn 32050) 15] (ay (vz 3) (bQ (eo 1023 1 (bi .i64) (L:=(v6++[(v5.length:Int)])) h21) (bQ (cw 3 0 (bi .i64) (bi .i64) (di h21).2 (fun _=>rfl)) (ay (vz 3) (bQ (eo 1023 1 (bi .i64) (L:=(v6++[(v5.length:Int)])) h22) (bQ (cw 3 0 (bi .i64) (bi .i64) (di h22).2 (fun _=>rfl)) (bQ (pC aE v5 (gD (v6++[(v5.length:Int)]) v15) (gD (v6++[(v5.length:Int)]) ((af (v15+1)))) 37 (.tmp 34) (some (.tmp 38)) (some (.tmp 43)) 44 (e:=41) (sz:=62) (by kernel_rfl) (by kernel_rfl) (by kernel_rfl) (by kernel_rfl) (by kernel_rfl) (by kernel_rfl) (ex) (fun k hk=>by subst hk;kernel_rfl) h23) (ay (vz 2) (ag (pb 0 1 47 (y5 hK h24) (nK (i:=66) (by kernel_rfl))) (ag (rG 0 1 64 13 (List.set (aG bf) 66 (.nils))) (ag (bw 0) bG))))))))))) (aU 7 4 (ai 2 (mi 47 (ax (eK az ([({ v17 with Y:=v13 }:ae)]:List ae) (new:=[aG ({ v17 with Y:=v13 }:ae)]) (by simp only[List.map_cons,List.map_nil,cy])) ?_))))
  obtain⟨h25,h⟩:=aS h;exact ax (cf 57 57 64 67 az (rfl) (d6) h25) (aa (ab 2 (bo (hL1 h))))
 ·refine ac 32 h20 (aC 8 ?_);cases h;exact rM
theorem CB(hK:aj K)(m:Nat):wV M w0 r v2 v3 v5 v6 m (l7 K n v2 v3 v5 v6 m):=by
 induction m with
 | zero=>intro v13 v14 v15 v16 h;cases h
 | succ m ih=>intro v13 v14 v15 v16 h;have h:lN K n v2 v3 v5 v6 (l7 K n v2 v3 v5 v6 m) v13 v14 v15 v16=some r:=h;exact bm (BR hK ih h)
theorem Ck(hK:aj K)(h:rm K n v1 v2 v3 v4=some r):aI Try.prog 16 [.sl (lm aO v1),.agg (au v2),iI v3,.agg (bS v4)] (fun v s=>v=.tup [.ref 57,iI r.2]∧look 57 s.r=some ⟨64,67,lm az r.1⟩):=by
 refine aZ (cat Try.f16 (pn 1)) Try.func16 Try.ntmps16 fun M w0=>(aY ⟨[(0,.sl (lm aO v1)),(1,.agg (au v2)),(2,iI v3),(3,.agg (bS v4))],[],[],[]⟩ ?_);unfold rm at h;refine ao 14 15 5 (ai 3 ?_);obtain⟨v5,h1,h⟩:=bind_some h;refine eF 1020 (yu hK h1) (fD 1009) (aa (ao 2 3 1 (ai 2 (mi 1020 ?_))));obtain⟨v6,h2,h⟩:=bind_some h;refine eF 1023 (Co hK h2) (fD 16) (aN 4 1 (ax (bA aE v5) (aN 6 1 ?_)));obtain⟨h3,h⟩:=aS h;exact ax (cf 27 1023 3 1 (bi .i64) (rfl) (fun _=>rfl) h3) (aa (bK 4 5 3 2 (ai 1 (ax (bA (bi .i64) (v6++[(v5.length:Int)])) (aa (eI 2 0 1 (bE [2,5,8,9,10,11,30,31] [5] [1023] (eV 57 8 64 67 (ab 0 (ce (p:=pn 250) n (CB hK n h)))))))))))
end
noncomputable section
variable(M:Nat→Prop)(w0:aw)(r:bP)   
variable{M w0 r }{K:Kn}{n:Nat}
theorem qx(hK:aj K)(h:jG K n=some r):aI Try.prog 18 [] (fun v _=>v=.agg (bS r)):=by
 refine aZ (cat Try.f18 (pn 1)) Try.func18 Try.ntmps18 fun M w0=>(aY ⟨[],[],[],[]⟩ ?_);unfold jG at h;refine aC 5 ?_;cases h;exact aV
end
noncomputable section
variable(M:Nat→Prop)(w0:aw)(r v4:Bool)  
abbrev DU(n:Nat):ak:=.c (cat Try.f7 (pn n))
abbrev yc:Cx:=⟨Try.prog,64,M,w0⟩
abbrev q7:=bodyPost Try.prog Try.f7 (bn M w0 (fun v _=>v=.bool r))
abbrev BV(ks:List ak)(s:AS):=VE (yc M w0) (q7 M w0 r) ks .normal s
def DR:AS:=⟨[(0,.bool v4)],[],[],[]⟩
variable{M w0 r v4}{K:Kn}{n:Nat}
theorem gq(hK:aj K)(h:eQ K n v4=some r):BV M w0 r [DU 63] (DR v4):=by
 unfold eQ at h;refine aC 1 ?_;cases h;exact aV
theorem Cz(hK:aj K)(h:mQ K n=some r):aI Try.prog 7 [] (fun v _=>v=.bool r):=by
 refine aZ (cat Try.f7 (pn 1)) Try.func7 Try.ntmps7 fun M w0=>(aY ⟨[],[],[],[]⟩ ?_);unfold mQ at h;refine ao 14 15 5 (ai 1 ?_);obtain⟨v1,h1,h⟩:=bind_some h;refine aD (jm hK h1) (aa (ao 2 3 1 (bE [1,2,3] [1] [] ?_)));obtain⟨v2,h2,h⟩:=bind_some h;obtain⟨v3,h3,h⟩:=bind_some h;refine bJ 2 (nu 13 [.agg (au ({ bH with FontSize:=16,LineHeight:=30 }:aH)),.agg (List.set (aX ({ gi with Kind:=3,Style:=({ bH with FontSize:=16,LineHeight:=30 }:aH),Text:=⟨#[97,98,32,32,99,100]⟩ }:aq)) 58 (.nils)),.sl (lm aO [({ gi with Kind:=3,Style:=({ bH with FontSize:=16,LineHeight:=30 }:aH),Text:=⟨#[97,98,32,32,99,100]⟩ }:aq)]),.agg (au ({ bH with FontSize:=16,LineHeight:=30 }:aH)),.agg (bS v2),.tup [.ref 18,iI v3.2]]++nu 12 [.tup [.ref 18,iI v3.2]]++nu 19 [.ref 18,iI v3.2]) [] [(18,⟨64,67,lm az v3.1⟩)] [bz Try.prog 64 Try.f7 (pn 30) 9,bz Try.prog 64 Try.f7 (pn 30) 10] (ay (vz 2) (bQ (eK aO ([({ gi with Kind:=3,Style:=({ bH with FontSize:=16,LineHeight:=30 }:aH),Text:=⟨#[97,98,32,32,99,100]⟩ }:aq)]:List aq) (new:=[aX ({ gi with Kind:=3,Style:=({ bH with FontSize:=16,LineHeight:=30 }:aH),Text:=⟨#[97,98,32,32,99,100]⟩ }:aq)]) (by simp only[List.map_cons,List.map_nil,dJ])) (ay [.v 0 1] (ag (bI 0 1 17 (qx hK h2)) (ag (pb 0 1 18 (Ck hK h3) (sO (i:=0) rfl)) (ay [.v 0 1,.v 0 1,.v 0 2] (ag (bw 0) (ag (bw 1) bG)))))))) (ao 2 3 1 (ai 3 ?_))
 obtain⟨h4,h⟩|⟨h4,h⟩:=ah h
 ·refine ap 23 h4 (aN 7 4 ?_);obtain⟨h5,h⟩|⟨h5,h⟩:=ah h
  ·refine ap 27 h5 (aN 8 1 (ax (bA az v3.1) (aN 12 3 ?_)));obtain⟨h6,h⟩|⟨h6,h⟩:=ah h
   ·refine ap 32 h6 (aN 16 4 ?_);obtain⟨h7,h⟩|⟨h7,h⟩:=ah h
    ·refine ap 36 h7 (aN 17 1 ?_);obtain⟨h8,h⟩:=aS h;refine ax (c9 18 67 az h8) (aN 19 1 (ax (cw 39 66 az aG (di h8).2 (cy)) (ax (bA az ((gD v3.1 (0:Int)).Kids)) (aN 24 3 ?_))));obtain⟨h9,h⟩|⟨h9,h⟩:=ah h
     ·refine ap 44 h9 (aN 25 1 ?_);obtain⟨h10,h⟩:=aS h;refine ax (c9 18 67 az h10) (aN 27 1 (ax (cw 39 66 az aG (di h10).2 (cy)) ?_));obtain⟨h11,h⟩:=aS h;refine ax (bD az aG h11 (d6) (cy)) (aN 34 5 ?_);obtain⟨h12,h⟩|⟨h12,h⟩:=ah h
      ·refine ap 54 h12 (aN 35 1 ?_);obtain⟨h13,h⟩:=aS h;refine ax (c9 18 67 az h13) (aN 37 1 (ax (cw 39 66 az aG (di h13).2 (cy)) ?_));obtain⟨h14,h⟩:=aS h;exact ax (bD az aG h14 (d6) (cy)) (aa (ab 0 (gq hK h)))
      ·exact ap 54 h12 (aa (ab 0 (gq hK h)))
     ·exact ap 44 h9 (aa (ab 0 (gq hK h)))
    ·exact ap 36 h7 (aa (ab 0 (gq hK h)))
   ·exact ap 32 h6 (aa (ab 0 (gq hK h)))
  ·exact ap 27 h5 (aa (ab 0 (gq hK h)))
 ·exact ap 23 h4 (aa (ab 0 (gq hK h)))
end
noncomputable section
variable(M:Nat→Prop)(w0:aw)(r:Bool)(v1:cB)(v2:Bool)  
abbrev y1(n:Nat):ak:=.c (cat Try.f49 (pn n))
abbrev AR:Cx:=⟨Try.prog,11,M,w0⟩
abbrev zK:=bodyPost Try.prog Try.f49 (bn M w0 (fun v _=>v=.bool r))
abbrev yI(ks:List ak)(s:AS):=VE (AR M w0) (zK M w0 r) ks .normal s
def Ea:AS:=⟨[(2,.bool v2)],[],[],[]⟩
variable{M w0 r v1 v2}{K:Kn}{n:Nat}
theorem vJ(hK:aj K)(h:kk K n v2=some r):yI M w0 r [y1 7] (Ea v2):=by
 unfold kk at h;refine aC 1 ?_;cases h;exact aV
theorem dh(hK:aj K)(h:cJ K n v1=some r):aI Try.prog 49 [.agg (iq v1)] (fun v _=>v=.bool r):=by
 refine aZ (cat Try.f49 (pn 1)) Try.func49 Try.ntmps49 fun M w0=>(aY ⟨[(0,.agg (iq v1))],[],[],[]⟩ ?_);unfold cJ at h;refine ao 6 7 3 (ai 4 ?_);obtain⟨h1,h⟩|⟨h1,h⟩:=ah h
 ·exact ap 6 h1 (aa (ab 0 (vJ hK h)))
 ·exact ap 6 h1 (aa (ab 0 (vJ hK h)))
end
noncomputable section
variable(M:Nat→Prop)(w0:aw)(r:Bool)(v1:List cg)(v2 v23:Int)(v31 v34 v37 v40 v43:Bool)(m1:Nat)(L1:Int→Option Bool)
abbrev oo:Cx:=⟨Try.prog,130,M,w0⟩
abbrev nd:=bodyPost Try.prog Try.f24 (bn M w0 (fun v _=>v=.bool r))
abbrev g9(ks:List ak)(s:AS):=VE (oo M w0) (nd M w0 r) ks .normal s
abbrev cI(n:Nat):ak:=.c (cat Try.f24 (pn n))
abbrev qb:List ak:=[.b 0,cI 7]
abbrev jy:List ak:=kl (oo M w0) (nd M w0 r) qb (cat Try.f24 (pn 52)) m1::qb
def D5:AS:=⟨[(0,.sl (lm bZ v1)),(1,iI v2),(5,iI v23),(6,.ptr 6 0),(7,iI 3),(125,.bool v43)],[(6,au ((gD v1 v23).Style))],[],[6]⟩
def zR:AS:=⟨[(0,.sl (lm bZ v1)),(1,iI v2),(5,iI v23),(6,.ptr 6 0),(7,iI 2),(125,.bool v40)],[(6,au ((gD v1 v23).Style))],[],[6]⟩
def DE:AS:=⟨[(0,.sl (lm bZ v1)),(1,iI v2),(5,iI v23),(6,.ptr 6 0),(7,iI 1),(125,.bool v37)],[(6,au ((gD v1 v23).Style))],[],[6]⟩
def EG:AS:=⟨[(0,.sl (lm bZ v1)),(1,iI v2),(5,iI v23),(6,.ptr 6 0),(7,iI 0),(125,.bool v34)],[(6,au ((gD v1 v23).Style))],[],[6]⟩
def zz:AS:=⟨[(0,.sl (lm bZ v1)),(1,iI v2),(5,iI v23),(6,.ptr 6 0),(107,.bool v31)],[(6,au ((gD v1 v23).Style))],[],[6]⟩
def tI:AS:=⟨[(0,.sl (lm bZ v1)),(1,iI v2),(5,iI v23)],[],[],[]⟩
abbrev fU:Prop:=∀{v23:Int},L1 v23=some r→LP (oo M w0) (nd M w0 r) qb (cat Try.f24 (pn 52)) m1 (tI v1 v2 v23)
abbrev eG(m:Nat):List ak:=kl (oo M w0) (nd M w0 r) (.b 2 :: .b 1::cI 211::jy M w0 r m1) (cat Try.f24 (pn 13468)) m::(.b 2 :: .b 1::cI 211::jy M w0 r m1)
variable{M w0 r v1 v2 v23 v31 v34 v37 v40 v43 m1 L1}{K:Kn}{n:Nat}
theorem xi(hK:aj K)(hL1:fU M w0 r v1 v2 m1 L1)(h:gV K n v1 v2 v23 L1 v43=some r):g9 M w0 r (cI 215497 :: .b 3::cI 53875::eG M w0 r m1 36) (D5 v1 v2 v23 v43):=by
 unfold gV at h;obtain⟨h84,h⟩|⟨h84,h⟩:=ah h
 ·refine ac 125 h84 (aC 13 ?_);cases h;exact aV
 ·exact ac 125 h84 (bq (ks':=eG M w0 r m1 36) 4 ⟨[(0,.sl (lm bZ v1)),(1,iI v2),(5,iI v23),(6,.ptr 6 0),(7,iI 4)],[(6,au ((gD v1 v23).Style))],[],[6]⟩ (bo (bm (ab 10 (bo (hL1 h))))))
theorem wY(hK:aj K)(hL1:fU M w0 r v1 v2 m1 L1)(h:km K n v1 v2 v23 L1 v40=some r):g9 M w0 r (cI 215497 :: .b 3::cI 53875::eG M w0 r m1 37) (zR v1 v2 v23 v40):=by
 unfold km at h;obtain⟨h80,h⟩|⟨h80,h⟩:=ah h
 ·refine ac 125 h80 (aC 13 ?_);cases h;exact aV
 ·refine ac 125 h80 (bq (ks':=eG M w0 r m1 37) 4 ⟨[(0,.sl (lm bZ v1)),(1,iI v2),(5,iI v23),(6,.ptr 6 0),(7,iI 3)],[(6,au ((gD v1 v23).Style))],[],[6]⟩ (bo (bm (cA 24 25 3 7 8 (ai 4 ?_)))));obtain⟨v41,h81,h⟩:=bind_some h;refine aD (dh hK h81) (aN 7 2 ?_);obtain⟨h82,h⟩|⟨h82,h⟩:=ah h
  ·exact ap 118 h82 (aa (ab 0 (xi hK hL1 h)))
  ·refine ap 118 h82 (aN 11 4 ?_);obtain⟨v42,h83,h⟩:=bind_some h;exact aD (dh hK h83) (aa (ab 0 (xi hK hL1 h)))
theorem wQ(hK:aj K)(hL1:fU M w0 r v1 v2 m1 L1)(h:jb K n v1 v2 v23 L1 v37=some r):g9 M w0 r (cI 215497 :: .b 3::cI 53875::eG M w0 r m1 38) (DE v1 v2 v23 v37):=by
 unfold jb at h;obtain⟨h76,h⟩|⟨h76,h⟩:=ah h
 ·refine ac 125 h76 (aC 13 ?_);cases h;exact aV
 ·refine ac 125 h76 (bq (ks':=eG M w0 r m1 38) 4 ⟨[(0,.sl (lm bZ v1)),(1,iI v2),(5,iI v23),(6,.ptr 6 0),(7,iI 2)],[(6,au ((gD v1 v23).Style))],[],[6]⟩ (bo (bm (cA 24 25 3 7 8 (ai 4 ?_)))));obtain⟨v38,h77,h⟩:=bind_some h;refine aD (dh hK h77) (aN 7 2 ?_);obtain⟨h78,h⟩|⟨h78,h⟩:=ah h
  ·exact ap 118 h78 (aa (ab 0 (wY hK hL1 h)))
  ·refine ap 118 h78 (aN 11 4 ?_);obtain⟨v39,h79,h⟩:=bind_some h;exact aD (dh hK h79) (aa (ab 0 (wY hK hL1 h)))
theorem sn(hK:aj K)(hL1:fU M w0 r v1 v2 m1 L1)(h:iG K n v1 v2 v23 L1 v34=some r):g9 M w0 r (cI 215497 :: .b 3::cI 53875::eG M w0 r m1 39) (EG v1 v2 v23 v34):=by
 unfold iG at h;obtain⟨h72,h⟩|⟨h72,h⟩:=ah h
 ·refine ac 125 h72 (aC 13 ?_);cases h;exact aV
 ·refine ac 125 h72 (bq (ks':=eG M w0 r m1 39) 4 ⟨[(0,.sl (lm bZ v1)),(1,iI v2),(5,iI v23),(6,.ptr 6 0),(7,iI 1)],[(6,au ((gD v1 v23).Style))],[],[6]⟩ (bo (bm (cA 24 25 3 7 8 (ai 4 ?_)))));obtain⟨v35,h73,h⟩:=bind_some h;refine aD (dh hK h73) (aN 7 2 ?_);obtain⟨h74,h⟩|⟨h74,h⟩:=ah h
  ·exact ap 118 h74 (aa (ab 0 (wQ hK hL1 h)))
  ·refine ap 118 h74 (aN 11 4 ?_);obtain⟨v36,h75,h⟩:=bind_some h;exact aD (dh hK h75) (aa (ab 0 (wQ hK hL1 h)))
theorem de(hK:aj K)(hL1:fU M w0 r v1 v2 m1 L1)(h:cr K n v1 v2 v23 L1 v31=some r):g9 M w0 r (cI 3365::cI 1683 :: .b 1::cI 211::jy M w0 r m1) (zz v1 v2 v23 v31):=by
 unfold cr at h;obtain⟨h68,h⟩|⟨h68,h⟩:=ah h
 ·refine ac 107 h68 (aC 10 ?_);cases h;exact aV
 ·refine ac 107 h68 (bq (ks':=cI 6734 :: .b 2 :: .b 1::cI 211::jy M w0 r m1) 5 ⟨[(0,.sl (lm bZ v1)),(1,iI v2),(5,iI v23),(6,.ptr 6 0),(7,iI 0)],[(6,au ((gD v1 v23).Style))],[],[6]⟩ (jq 40 (c:=cat Try.f24 [1,0,1,0,0,1,0,0,1,1,1,0,0]) (by kernel_rfl) (bm (bX (ks':=cI 215496::cI 215497 :: .b 3::cI 53875::eG M w0 r m1 39) 8 (ai 4 ?_)))));obtain⟨v32,h69,h⟩:=bind_some h;refine aD (dh hK h69) (aN 7 2 ?_);obtain⟨h70,h⟩|⟨h70,h⟩:=ah h
  ·exact ap 118 h70 (aa (ab 0 (sn hK hL1 h)))
  ·refine ap 118 h70 (aN 11 4 ?_);obtain⟨v33,h71,h⟩:=bind_some h;exact aD (dh hK h71) (aa (ab 0 (sn hK hL1 h)))
theorem Cl(hK:aj K)(hL1:fU M w0 r v1 v2 m1 L1)(h:eJ K n v1 v2 L1 v23=some r):g9 M w0 r (cI 52::jy M w0 r m1) (tI v1 v2 v23):=by
 unfold eJ at h;refine bK 4 5 3 2 (ai 2 (ax (bA bZ v1) (aa ?_)));obtain⟨h43,h⟩|⟨h43,h⟩:=ah h
 ·refine ac 11 h43 (cN 8 9 1 3 5 (ai 2 ?_));obtain⟨h44,h⟩:=aS h;refine ax (bD bZ bZ h44 (vp) (fun _=>rfl)) (aa (bK 4 5 3 2 (ai 2 ?_)));obtain⟨h45,h⟩:=aS h;refine ax (bD bZ bZ h45 (vp) (fun _=>rfl)) (aN 8 5 ?_);obtain⟨h46,h⟩|⟨h46,h⟩:=ah h
  ·exact ap 26 h46 (aa (ab 0 (de hK hL1 h)))
  ·refine ap 26 h46 (aN 10 2 ?_);obtain⟨v24,h47,h⟩:=bind_some h;refine aD (dh hK h47) (aN 14 3 ?_);obtain⟨h48,h⟩|⟨h48,h⟩:=ah h
   ·exact ap 32 h48 (aa (ab 0 (de hK hL1 h)))
   ·refine ap 32 h48 (aN 16 2 ?_);obtain⟨v25,h49,h⟩:=bind_some h;refine aD (dh hK h49) (aN 20 3 ?_);obtain⟨h50,h⟩|⟨h50,h⟩:=ah h
    ·exact ap 38 h50 (aa (ab 0 (de hK hL1 h)))
    ·refine ap 38 h50 (aN 22 2 ?_);obtain⟨v26,h51,h⟩:=bind_some h;refine aD (dh hK h51) (aN 26 3 ?_);obtain⟨h52,h⟩|⟨h52,h⟩:=ah h
     ·exact ap 44 h52 (aa (ab 0 (de hK hL1 h)))
     ·refine ap 44 h52 (aN 28 2 ?_);obtain⟨v27,h53,h⟩:=bind_some h;refine aD (dh hK h53) (aN 32 3 ?_);obtain⟨h54,h⟩|⟨h54,h⟩:=ah h
      ·exact ap 50 h54 (aa (ab 0 (de hK hL1 h)))
      ·refine ap 50 h54 (aN 34 2 ?_);obtain⟨v28,h55,h⟩:=bind_some h;refine aD (dh hK h55) (aN 38 3 ?_);obtain⟨h56,h⟩|⟨h56,h⟩:=ah h
       ·exact ap 56 h56 (aa (ab 0 (de hK hL1 h)))
       ·refine ap 56 h56 (aN 40 2 ?_);obtain⟨v29,h57,h⟩:=bind_some h;refine aD (dh hK h57) (aN 44 3 ?_);obtain⟨h58,h⟩|⟨h58,h⟩:=ah h
        ·exact ap 62 h58 (aa (ab 0 (de hK hL1 h)))
        ·refine ap 62 h58 (aN 46 2 ?_);obtain⟨v30,h59,h⟩:=bind_some h;refine aD (dh hK h59) (aN 50 3 ?_);obtain⟨h60,h⟩|⟨h60,h⟩:=ah h
         ·exact ap 68 h60 (aa (ab 0 (de hK hL1 h)))
         ·refine ap 68 h60 (aN 55 5 ?_);obtain⟨h61,h⟩|⟨h61,h⟩:=ah h
          ·exact ap 73 h61 (aa (ab 0 (de hK hL1 h)))
          ·refine ap 73 h61 (aN 60 5 ?_);obtain⟨h62,h⟩|⟨h62,h⟩:=ah h
           ·exact ap 78 h62 (aa (ab 0 (de hK hL1 h)))
           ·refine ap 78 h62 (aN 65 5 ?_);obtain⟨h63,h⟩|⟨h63,h⟩:=ah h
            ·exact ap 83 h63 (aa (ab 0 (de hK hL1 h)))
            ·refine ap 83 h63 (aN 70 5 ?_);obtain⟨h64,h⟩|⟨h64,h⟩:=ah h
             ·exact ap 88 h64 (aa (ab 0 (de hK hL1 h)))
             ·refine ap 88 h64 (aN 75 5 ?_);obtain⟨h65,h⟩|⟨h65,h⟩:=ah h
              ·exact ap 93 h65 (aa (ab 0 (de hK hL1 h)))
              ·refine ap 93 h65 (aN 80 5 ?_);obtain⟨h66,h⟩|⟨h66,h⟩:=ah h
               ·exact ap 98 h66 (aa (ab 0 (de hK hL1 h)))
               ·refine ap 98 h66 (aN 85 5 ?_);obtain⟨h67,h⟩|⟨h67,h⟩:=ah h
                ·exact ap 103 h67 (aa (ab 0 (de hK hL1 h)))
                ·exact ap 103 h67 (aa (ab 0 (de hK hL1 h)))
 ·refine ac 11 h43 (jd 2 3 6 (ai 1 (ax (bA bZ v1) (aa (aC 1 ?_)))));cases h;exact aV
theorem Br(hK:aj K)(m:Nat):fU M w0 r v1 v2 m (gx K n v1 v2 m):=by
 induction m with
 | zero=>intro v23 h;cases h
 | succ m ih=>intro v23 h;have h:eJ K n v1 v2 (gx K n v1 v2 m) v23=some r:=h;exact bm (Cl hK ih h)
theorem DW(hK:aj K)(h:mL K n v1 v2=some r):aI Try.prog 24 [.sl (lm bZ v1),iI v2] (fun v _=>v=.bool r):=by
 refine aZ (cat Try.f24 (pn 1)) Try.func24 Try.ntmps24 fun M w0=>(aY ⟨[(0,.sl (lm bZ v1)),(1,iI v2)],[],[],[]⟩ ?_);unfold mL at h;exact ab 6 (ce (p:=pn 26) n (Br hK n h))
end
noncomputable section
variable(M:Nat→Prop)(w0:aw)(r:Bool)(v1:List cg)  
variable{M w0 r v1}{K:Kn}{n:Nat}
theorem EN(hK:aj K)(h:kF K n v1=some r):aI Try.prog 8 [.sl (lm bZ v1)] (fun v _=>v=.bool r):=by
 refine aZ (cat Try.f8 (pn 1)) Try.func8 Try.ntmps8 fun M w0=>(aY ⟨[(0,.sl (lm bZ v1))],[],[],[]⟩ ?_);unfold kF at h;refine ao 6 7 3 (ai 1 ?_);obtain⟨v2,h1,h⟩:=bind_some h;refine aD (DW hK h1) (aa (aC 1 ?_));cases h;exact aV
end
noncomputable section
variable(M:Nat→Prop)(w0:aw)(r v1:Int)  
variable{M w0 r v1}{K:Kn}{n:Nat}
theorem vY(hK:aj K)(h:ir K n v1=some r):aI Try.prog 27 [iI v1] (fun v _=>v=iI r):=by
 refine aZ (cat Try.f27 (pn 1)) Try.func27 Try.ntmps27 fun M w0=>(aY ⟨[(0,iI v1)],[],[],[]⟩ ?_);unfold ir at h;refine aC 5 ?_;cases h;exact aV
end
noncomputable section
variable(M:Nat→Prop)(w0:aw)(r v1:Int)  
variable{M w0 r v1}{K:Kn}{n:Nat}
theorem Cw(hK:aj K)(h:jQ K n v1=some r):aI Try.prog 28 [iI v1] (fun v _=>v=iI r):=by
 refine aZ (cat Try.f28 (pn 1)) Try.func28 Try.ntmps28 fun M w0=>(aY ⟨[(0,iI v1)],[],[],[]⟩ ?_);unfold jQ at h;refine ao 13 7 5 ?_;obtain⟨h1,h⟩|⟨h1,h⟩:=ah h
 ·refine ac 4 h1 (aC 5 ?_);cases h;exact aV
 ·refine ac 4 h1 (aC 5 ?_);cases h;exact aV
end
noncomputable section
variable(M:Nat→Prop)(w0:aw)(r v1:Int)  
variable{M w0 r v1}{K:Kn}{n:Nat}
theorem Cd(hK:aj K)(h:kH K n v1=some r):aI Try.prog 29 [iI v1] (fun v _=>v=iI r):=by
 refine aZ (cat Try.f29 (pn 1)) Try.func29 Try.ntmps29 fun M w0=>(aY ⟨[(0,iI v1)],[],[],[]⟩ ?_);unfold kH at h;refine ao 6 7 3 (ai 1 ?_);obtain⟨v2,h1,h⟩:=bind_some h;refine aD (vY hK h1) (aa (aC 3 ?_));cases h;exact aV
end
noncomputable section
variable(M:Nat→Prop)(w0:aw)(r:Int×Int)(v1:aH)  
variable{M w0 r v1}{K:Kn}{n:Nat}
theorem yQ(hK:aj K)(h:iV K n v1=some r):aI Try.prog 10 [.agg (au v1)] (fun v _=>v=.tup [iI r.1,iI r.2]):=by
 refine aZ (cat Try.f10 (pn 1)) Try.func10 Try.ntmps10 fun M w0=>(aY ⟨[(0,.agg (au v1))],[],[],[]⟩ ?_);unfold iV at h;refine ao 14 15 5 (bE [1,4] [1] [] ?_);obtain⟨v2,h1,h⟩:=bind_some h;obtain⟨v3,h2,h⟩:=bind_some h;obtain⟨v4,h3,h⟩:=bind_some h;refine bJ 1 (nu 9 [.ptr 1 37,iI v1.FontSize,iI v2,iI (max v1.LineHeight 0),.ptr 1 37,iI v1.FontSize,iI v3,iI (af ((max v1.LineHeight 0)-v3)),iI v4,iI (af (v2+v4))]) [] [] [bz Try.prog 23 Try.f10 (pn 14) 10] (ay (vz 2) (ag (bI 0 1 11 (vY hK h1)) (ay (vz 3) (ag (bI 0 1 15 (Cd hK h2)) (ay [.v 0 1] (ag (bI 0 1 17 (Cw hK h3)) (ay [.v 0 1] (ag (bw 0) bG)))))))) (aC 3 ?_);cases h;exact dW
end
noncomputable section
variable(M:Nat→Prop)(w0:aw)(r:Int)(v1:aH)(v2 v3:Int)  
variable{M w0 r v1 v2 v3}{K:Kn}{n:Nat}
theorem Ex(hK:aj K)(h:jW K n v1 v2 v3=some r):aI Try.prog 12 [.agg (au v1),iI v2,iI v3] (fun v _=>v=iI r):=by
 refine aZ (cat Try.f12 (pn 1)) Try.func12 Try.ntmps12 fun M w0=>(aY ⟨[(0,.agg (au v1)),(1,iI v2),(2,iI v3)],[],[],[]⟩ ?_);unfold jW at h;refine ao 13 7 5 ?_;obtain⟨h1,h⟩|⟨h1,h⟩:=ah h
 ·refine ac 9 h1 (aC 5 ?_);cases h;exact aV
 ·refine ac 9 h1 (uK 21 0 3 8 ?_);obtain⟨h2,h⟩|⟨h2,h⟩:=ah h
  ·refine ac 12 h2 (aC 6 ?_);cases h;exact aV
  ·refine ac 12 h2 (aU 7 3 ?_);obtain⟨h3,h⟩|⟨h3,h⟩:=ah h
   ·refine ac 18 h3 (aC 6 ?_);cases h;exact aV
   ·refine ac 18 h3 (aC 6 ?_);cases h;exact aV
end
noncomputable section
variable(M:Nat→Prop)(w0:aw)(r:Bool)(v1:cg)(v2 v3:Int)(v6 v11:Bool)  
abbrev ru(n:Nat):ak:=.c (cat Try.f3 (pn n))
abbrev Bf:Cx:=⟨Try.prog,76,M,w0⟩
abbrev q3:=bodyPost Try.prog Try.f3 (bn M w0 (fun v _=>v=.bool r))
abbrev wF(ks:List ak)(s:AS):=VE (Bf M w0) (q3 M w0 r) ks .normal s
def yH:AS:=⟨[(6,.bool v11)],[],[],[]⟩
def ya:AS:=⟨[(1,iI v2),(2,iI v3),(3,.ptr 3 0),(32,.bool v6)],[(3,bZ v1)],[],[3]⟩
variable{M w0 r v1 v2 v3 v6 v11}{K:Kn}{n:Nat}
theorem lj(hK:aj K)(h:gA K n v11=some r):wF M w0 r [ru 127] (yH v11):=by
 unfold gA at h;refine aC 1 ?_;cases h;exact aV
theorem jr(hK:aj K)(h:d5 K n v1 v2 v3 v6=some r):wF M w0 r [ru 29,ru 15] (ya v1 v2 v3 v6):=by
 unfold d5 at h;obtain⟨h8,h⟩|⟨h8,h⟩:=ah h
 ·refine ac 32 h8 (aC 5 ?_);cases h;exact aV
 ·refine ac 32 h8 (eW 2 3 3 (ai 2 ?_));obtain⟨v7,h9,h⟩:=bind_some h;refine aD (jm hK h9) (aa (ao 2 3 1 (ai 2 ?_)));obtain⟨v8,h10,h⟩:=bind_some h;refine aD (yQ hK h10) (aa (ao 2 3 1 (bE [1,2,3,7,8,9,10] [3] [] ?_)));obtain⟨h11,h⟩|⟨h11,h⟩:=ah h
  ·obtain⟨h12,h⟩|⟨h12,h⟩:=ah h
   ·obtain⟨h13,h⟩|⟨h13,h⟩:=ah h
    ·obtain⟨v9,h14,h⟩:=bind_some h;obtain⟨v10,h15,h⟩:=bind_some h;exact bJ 1 (nu 45 [iI v7.1,iI v8.1,.bool (v7.1 == v8.1),.bool true,iI v7.2,iI v8.2,.bool (v7.2 == v8.2),.bool (v7.2 == v8.2),.bool true,iI v7.1,iI v7.2,iI (af (v7.1+v7.2)),.ptr 3 5,.ptr 3 43,iI v1.Style.LineHeight,iI (max v1.Style.LineHeight 0),.bool ((af (v7.1+v7.2)) == (max v1.Style.LineHeight 0)),.bool ((af (v7.1+v7.2)) == (max v1.Style.LineHeight 0)),.bool true,.ptr 3 5,.agg (au v1.Style),iI v2,iI v3,iI v9,.ptr 3 5,.agg (au v1.Style),iI v2,iI v3,iI v10,.bool (v9 == v10),.bool (v9 == v10)]) [] [] [bz Try.prog 76 Try.f3 (pn 126) 31] (ay (vz 3) (ag (ci 0 48 (e:=(v7.1 == v8.1)) (b:=true) h11) (ay (vz 4) (ag (ci 0 53 (e:=(v7.2 == v8.2)) (b:=true) h12) (ay (vz 9) (ag (ci 0 63 (e:=((af (v7.1+v7.2)) == (max v1.Style.LineHeight 0))) (b:=true) h13) (ay (vz 4) (ag (bI 0 1 68 (uE hK h14)) (ay (vz 4) (ag (bI 0 1 73 (Ex hK h15)) (ay (vz 2) (ag (bw 0) bG)))))))))))) (ab 0 (lj hK h))
    ·exact bJ 1 (nu 45 [iI v7.1,iI v8.1,.bool (v7.1 == v8.1),.bool true,iI v7.2,iI v8.2,.bool (v7.2 == v8.2),.bool (v7.2 == v8.2),.bool true,iI v7.1,iI v7.2,iI (af (v7.1+v7.2)),.ptr 3 5,.ptr 3 43,iI v1.Style.LineHeight,iI (max v1.Style.LineHeight 0),.bool ((af (v7.1+v7.2)) == (max v1.Style.LineHeight 0)),.bool ((af (v7.1+v7.2)) == (max v1.Style.LineHeight 0)),.bool false,.tup [],.tup [],.tup [],.tup [],.tup [],.tup [],.tup [],.tup [],.tup [],.tup [],.tup [],.bool false]) [] [] [bz Try.prog 76 Try.f3 (pn 126) 31] (ay (vz 3) (ag (ci 0 48 (e:=(v7.1 == v8.1)) (b:=true) h11) (ay (vz 4) (ag (ci 0 53 (e:=(v7.2 == v8.2)) (b:=true) h12) (ay (vz 9) (ag (ci 0 63 (e:=((af (v7.1+v7.2)) == (max v1.Style.LineHeight 0))) (b:=false) h13) (ag (av 0 1) (ag (av 0 1) (ag (av 0 1) (ag (av 0 1) (ag (av 0 1) (ag (av 0 1) (ag (av 0 1) (ag (av 0 1) (ag (av 0 1) (ag (av 0 1) (ag (av 0 1) (ay [.v 0 1] (ag (bw 0) bG))))))))))))))))))) (ab 0 (lj hK h))
   ·exact bJ 1 (nu 45 [iI v7.1,iI v8.1,.bool (v7.1 == v8.1),.bool true,iI v7.2,iI v8.2,.bool (v7.2 == v8.2),.bool (v7.2 == v8.2),.bool false,.tup [],.tup [],.tup [],.tup [],.tup [],.tup [],.tup [],.tup [],.bool false,.bool false,.tup [],.tup [],.tup [],.tup [],.tup [],.tup [],.tup [],.tup [],.tup [],.tup [],.tup [],.bool false]) [] [] [bz Try.prog 76 Try.f3 (pn 126) 31] (ay (vz 3) (ag (ci 0 48 (e:=(v7.1 == v8.1)) (b:=true) h11) (ay (vz 4) (ag (ci 0 53 (e:=(v7.2 == v8.2)) (b:=false) h12) (ag (av 0 1) (ag (av 0 1) (ag (av 0 1) (ag (av 0 1) (ag (av 0 1) (ag (av 0 1) (ag (av 0 1) (ag (av 0 1) (ay (vz 2) (ag (av 0 1) (ag (av 0 1) (ag (av 0 1) (ag (av 0 1) (ag (av 0 1) (ag (av 0 1) (ag (av 0 1) (ag (av 0 1) (ag (av 0 1) (ag (av 0 1) (ag (av 0 1) (ay [.v 0 1] (ag (bw 0) bG)))))))))))))))))))))))))) (ab 0 (lj hK h))
  ·exact bJ 1 (nu 45 [iI v7.1,iI v8.1,.bool (v7.1 == v8.1),.bool false,.tup [],.tup [],.tup [],.bool false,.bool false,.tup [],.tup [],.tup [],.tup [],.tup [],.tup [],.tup [],.tup [],.bool false,.bool false,.tup [],.tup [],.tup [],.tup [],.tup [],.tup [],.tup [],.tup [],.tup [],.tup [],.tup [],.bool false]) [] [] [bz Try.prog 76 Try.f3 (pn 126) 31] (ay (vz 3) (ag (ci 0 48 (e:=(v7.1 == v8.1)) (b:=false) h11) (ag (av 0 1) (ag (av 0 1) (ag (av 0 1) (ay (vz 2) (ag (av 0 1) (ag (av 0 1) (ag (av 0 1) (ag (av 0 1) (ag (av 0 1) (ag (av 0 1) (ag (av 0 1) (ag (av 0 1) (ay (vz 2) (ag (av 0 1) (ag (av 0 1) (ag (av 0 1) (ag (av 0 1) (ag (av 0 1) (ag (av 0 1) (ag (av 0 1) (ag (av 0 1) (ag (av 0 1) (ag (av 0 1) (ag (av 0 1) (ay [.v 0 1] (ag (bw 0) bG)))))))))))))))))))))))))))) (ab 0 (lj hK h))
theorem EM(hK:aj K)(h:kZ K n v1 v2 v3=some r):aI Try.prog 3 [.agg (bZ v1),iI v2,iI v3] (fun v _=>v=.bool r):=by
 refine aZ (cat Try.f3 (pn 1)) Try.func3 Try.ntmps3 fun M w0=>(aY ⟨[(0,.agg (bZ v1)),(1,iI v2),(2,iI v3)],[],[],[]⟩ ?_);unfold kZ at h;refine bK 12 13 7 4 (ai 0 ?_);obtain⟨v4,h1,h⟩:=bind_some h;refine aD (Cz hK h1) (aa ?_);obtain⟨h2,h⟩|⟨h2,h⟩:=ah h
 ·refine ac 12 h2 (aC 5 ?_);cases h;exact aV
 ·refine ac 12 h2 (oh 4 5 3 4 (ai 2 ?_));obtain⟨v5,h3,h⟩:=bind_some h;refine aD (EN hK h3) (aN 5 2 ?_);obtain⟨h4,h⟩|⟨h4,h⟩:=ah h
  ·exact ap 17 h4 (aa (ab 0 (jr hK h)))
  ·refine ap 17 h4 (aN 9 4 ?_);obtain⟨h5,h⟩|⟨h5,h⟩:=ah h
   ·exact ap 21 h5 (aa (ab 0 (jr hK h)))
   ·refine ap 21 h5 (aN 13 4 ?_);obtain⟨h6,h⟩|⟨h6,h⟩:=ah h
    ·exact ap 25 h6 (aa (ab 0 (jr hK h)))
    ·refine ap 25 h6 (aN 17 4 ?_);obtain⟨h7,h⟩|⟨h7,h⟩:=ah h
     ·exact ap 29 h7 (aa (ab 0 (jr hK h)))
     ·exact ap 29 h7 (aa (ab 0 (jr hK h)))
end
noncomputable section
variable(M:Nat→Prop)(w0:aw)(r:bp)(v1:aH)(v2 v3:Int)(v4:bp)(v7 v8 v9:Int)(v10 v11:(Int×Bool))(v12:Bool)(v13:V4 Int)  
abbrev kX(n:Nat):ak:=.c (cat Try.f64 (pn n))
abbrev BX:Cx:=⟨Try.prog,89,M,w0⟩
abbrev Dr:=bodyPost Try.prog Try.f64 (bn M w0 (fun v _=>v=.agg (bl r)))
abbrev rI(ks:List ak)(s:AS):=VE (BX M w0) (Dr M w0 r) ks .normal s
def Ap:AS:=⟨[(4,.ptr 4 0),(5,.ptr 5 0)],[(4,bl dR),(5,bl ({ v4 with Margin:=v13,Content:=v8 }:bp))],[],[4,5]⟩
def z1:AS:=⟨[(4,.ptr 4 0),(5,.ptr 5 0),(8,iI (af (v3-v9))),(10,.bool v10.2),(12,.bool v11.2),(59,.bool v12)],[(4,bl dR),(5,bl ({ v4 with Content:=v8 }:bp))],[],[4,5]⟩
def Bx:AS:=⟨[(1,iI v3),(2,.ptr 2 0),(4,.ptr 4 0),(5,.ptr 5 0),(6,iI v7)],[(2,au v1),(4,bl dR),(5,bl v4)],[],[2,4,5]⟩
variable{M w0 r v1 v2 v3 v4 v7 v8 v9 v10 v11 v12 v13}{K:Kn}{n:Nat}
theorem ly(hK:aj K)(h:iz K n v4 v8 v13=some r):rI M w0 r [.b 0,kX 4095] (Ap v4 v8 v13):=by
 unfold iz at h;refine aC 4 ?_;cases h;exact aV
theorem vf(hK:aj K)(h:ld K n v3 v4 v8 v9 v10 v11 v12=some r):rI M w0 r [kX 16377,.b 0,kX 4095] (z1 v3 v4 v8 v9 v10 v11 v12):=by
 unfold ld at h;obtain⟨h12,h⟩|⟨h12,h⟩:=ah h
 ·exact ac 59 h12 (ab 4 (ly hK h))
 ·refine ac 59 h12 (aU 7 3 ?_);obtain⟨h13,h⟩|⟨h13,h⟩:=ah h
  ·exact ac 76 h13 (ab 2 (ly hK h))
  ·refine ac 76 h13 (aU 7 3 ?_);obtain⟨h14,h⟩|⟨h14,h⟩:=ah h
   ·exact ac 82 h14 (ab 2 (ly hK h))
   ·exact ac 82 h14 (ab 2 (ly hK h))
theorem wy(hK:aj K)(h:mH K n v1 v3 v4 v7=some r):rI M w0 r [kX 63] (Bx v1 v3 v4 v7):=by
 unfold mH at h;refine ao 2 3 1 (ai 3 ?_);obtain⟨v8,h6,h⟩:=bind_some h;refine aD (lS hK h6) (aa (ao 2 3 1 (ai 2 ?_)));obtain⟨v9,h7,h⟩:=bind_some h;refine aD (gX hK h7) (aa (ao 5 3 3 ?_));obtain⟨h8,h⟩|⟨h8,h⟩:=ah h
 ·refine ac 41 h8 (aC 5 ?_);cases h;exact aV
 ·refine ac 41 h8 (eW 2 3 3 (ai 4 ?_));obtain⟨v10,h9,h⟩:=bind_some h;refine aD (cU hK h9) (aa (ao 2 3 1 (ai 4 ?_)));obtain⟨v11,h10,h⟩:=bind_some h;refine aD (cU hK h10) (aa (cA 8 9 0 3 3 (ai 3 ?_)));obtain⟨h11,h⟩|⟨h11,h⟩:=ah h
  ·exact ap 62 h11 (aa (ab 0 (vf hK h)))
  ·exact ap 62 h11 (aa (ab 0 (vf hK h)))
theorem De(hK:aj K)(h:qz K n v1 v2=some r):aI Try.prog 64 [.agg (au v1),iI v2] (fun v _=>v=.agg (bl r)):=by
 refine aZ (cat Try.f64 (pn 1)) Try.func64 Try.ntmps64 fun M w0=>(aY ⟨[(0,.agg (au v1)),(1,iI v2)],[],[],[]⟩ ?_);unfold qz at h;refine ao 6 7 3 (ai 1 ?_);obtain⟨v3,h1,h⟩:=bind_some h;refine aD (dK hK h1) (aa (ao 2 3 1 (ai 2 ?_)));obtain⟨v4,h2,h⟩:=bind_some h;refine aD (kh hK h2) (aa (ao 2 3 1 (ai 3 ?_)));obtain⟨v5,h3,h⟩:=bind_some h;refine aD (cU hK h3) (aa (ao 5 3 3 ?_));obtain⟨h4,h⟩|⟨h4,h⟩:=ah h
 ·refine ac 26 h4 (aU 2 1 (ai 2 ?_));obtain⟨v6,h5,h⟩:=bind_some h;exact aD (gX hK h5) (aa (ab 0 (wy hK h)))
 ·exact ac 26 h4 (ab 2 (wy hK h))
end
noncomputable section
variable(M:Nat→Prop)(w0:aw)(r:ae)(v1:aq)(v2:Int)(v3:bP)(v4:bp)(v5 v6:Bool)  
abbrev wW(n:Nat):ak:=.c (cat Try.f53 (pn n))
abbrev Ac:Cx:=⟨Try.prog,58,M,w0⟩
abbrev xK:=bodyPost Try.prog Try.f53 (bn M w0 (fun v s=>v=.agg (List.set (aG ({ r with Kids:=[] }:ae)) 66 (.ref 1057))∧look 1057 s.r=some ⟨64,67,lm az r.Kids⟩))
abbrev wE(ks:List ak)(s:AS):=VE (Ac M w0) (xK M w0 r) ks .normal s
def Ei:AS:=⟨[(3,.ptr 3 0),(5,.ptr 5 0),(6,.ptr 6 0),(7,.ptr 7 0),(9,.bool v5),(10,.bool v6)],[(3,aX v1),(5,bS v3),(6,List.set (aG bf) 66 (.nils)),(7,bl v4)],[],[3,5,6,7]⟩
def EP:AS:=⟨[(3,.ptr 3 0),(5,.ptr 5 0),(6,.ptr 6 0),(7,.ptr 7 0),(8,.bool (v1.Style.Overflow == 0)),(9,.bool v5)],[(3,aX v1),(5,bS v3),(6,List.set (aG bf) 66 (.nils)),(7,bl v4)],[],[3,5,6,7]⟩
variable{M w0 r v1 v2 v3 v4 v5 v6}{K:Kn}{n:Nat}
theorem ne(hK:aj K)(h:ic K n v1 v3 v4 v5 v6=some r):wE M w0 r [wW 63] (Ei v1 v3 v4 v5 v6):=by
 unfold ic at h;refine ao 2 3 1 (ai 5 ?_);obtain⟨v7,h7,h⟩:=bind_some h;refine eF 1057 (uf hK h7) (nK (i:=66) (by kernel_rfl)) (aa (aC 1 ?_));cases h;exact dQ
theorem oL(hK:aj K)(h:j6 K n v1 v3 v4 v5=some r):wE M w0 r [wW 31] (EP v1 v3 v4 v5):=by
 unfold j6 at h;refine ao 2 3 1 (ai 2 ?_);obtain⟨h4,h⟩|⟨h4,h⟩:=ah h
 ·refine ap 33 h4 (aN 8 6 ?_);obtain⟨h5,h⟩|⟨h5,h⟩:=ah h
  ·refine ap 39 h5 (aN 14 6 ?_);obtain⟨h6,h⟩|⟨h6,h⟩:=ah h
   ·exact ap 45 h6 (aa (ab 0 (ne hK h)))
   ·exact ap 45 h6 (aa (ab 0 (ne hK h)))
  ·exact ap 39 h5 (aa (ab 0 (ne hK h)))
 ·exact ap 33 h4 (aa (ab 0 (ne hK h)))
theorem z5(hK:aj K)(h:qP K n v1 v2 v3=some r):aI Try.prog 53 [.agg (aX v1),iI v2,.agg (bS v3)] (fun v s=>v=.agg (List.set (aG ({ r with Kids:=[] }:ae)) 66 (.ref 1057))∧look 1057 s.r=some ⟨64,67,lm az r.Kids⟩):=by
 refine aZ (cat Try.f53 (pn 1)) Try.func53 Try.ntmps53 fun M w0=>(aY ⟨[(0,.agg (aX v1)),(1,iI v2),(2,.agg (bS v3))],[],[],[]⟩ ?_);unfold qP at h;refine ao 6 7 3 (ai 3 ?_);obtain⟨v4,h1,h⟩:=bind_some h;refine aD (De hK h1) (aa (ao 6 7 3 (ai 2 ?_)));obtain⟨h2,h⟩|⟨h2,h⟩:=ah h
 ·refine ap 20 h2 (aN 8 6 ?_);obtain⟨h3,h⟩|⟨h3,h⟩:=ah h
  ·exact ap 26 h3 (aa (ab 0 (oL hK h)))
  ·exact ap 26 h3 (aa (ab 0 (oL hK h)))
 ·exact ap 20 h2 (aa (ab 0 (oL hK h)))
end
noncomputable section
variable(M:Nat→Prop)(w0:aw)(r:ae)(v1:aq)(v2:Int)  
variable{M w0 r v1 v2}{K:Kn}{n:Nat}
theorem B1(hK:aj K)(h:q8 K n v1 v2=some r):aI Try.prog 36 [.agg (aX v1),iI v2] (fun v s=>v=.agg (List.set (aG ({ r with Kids:=[] }:ae)) 66 (.ref 8))∧look 8 s.r=some ⟨64,67,lm az r.Kids⟩):=by
 refine aZ (cat Try.f36 (pn 1)) Try.func36 Try.ntmps36 fun M w0=>(aY ⟨[(0,.agg (aX v1)),(1,iI v2)],[],[],[]⟩ ?_);unfold q8 at h;refine ao 6 7 3 (bE [1,2,4] [2,4] [] ?_);obtain⟨v3,h1,h⟩:=bind_some h;obtain⟨v4,h2,h⟩:=bind_some h;refine bJ 1 (nu 5 [.agg (aX v1),iI v2,.agg (bS v3),.agg (List.set (aG ({ v4 with Kids:=[] }:ae)) 66 (.ref 8))]) [] [(8,⟨64,67,lm az v4.Kids⟩)] [bz Try.prog 9 Try.f36 (pn 6) 4] (ay (vz 2) (ag (bI 0 1 7 (qx hK h1)) (ag (pb 0 1 8 (z5 hK h2) (nK (i:=66) (by kernel_rfl))) (ag (bw 0) bG)))) (aC 1 ?_);cases h;exact dQ
end
noncomputable section
variable(M:Nat→Prop)(w0:aw)(r:Int×Int)(v1:aq)(v2:bP)  
variable{M w0 r v1 v2}{K:Kn}{n:Nat}
theorem Aj(hK:aj K)(h:qy K n v1 v2=some r):aI Try.prog 54 [.agg (aX v1),.agg (bS v2)] (fun v _=>v=.tup [iI r.1,iI r.2]):=by
 refine aZ (cat Try.f54 (pn 1)) Try.func54 Try.ntmps54 fun M w0=>(aY ⟨[(0,.agg (aX v1)),(1,.agg (bS v2))],[],[],[]⟩ ?_);unfold qy at h;refine ao 6 7 3 (ai 2 ?_);obtain⟨v3,h1,h⟩:=bind_some h;refine aD (tc hK h1) (aa (ao 2 3 1 (ai 2 ?_)));obtain⟨v4,h2,h⟩:=bind_some h;refine aD (t7 hK h2) (aa (ao 2 3 1 (bE [4,5,6] [6] [] ?_)));obtain⟨v5,h3,h⟩:=bind_some h;obtain⟨v6,h4,h⟩:=bind_some h;obtain⟨v7,h5,h⟩:=bind_some h;obtain⟨v8,h6,h⟩:=bind_some h;obtain⟨v9,h7,h⟩:=bind_some h;obtain⟨v10,h8,h⟩:=bind_some h;refine bJ 2 (nu 16 [.agg (au v4),.agg (au v4),iI v3.1,iI v5,.agg (bl v6),iI v7,.agg (au v4),.agg (au v4),iI v3.2,iI v8,.agg (bl v9),iI v10]) [] [] [bz Try.prog 28 Try.f54 (pn 30) 12,bz Try.prog 28 Try.f54 (pn 30) 13] (ay (vz 3) (ag (bI 0 1 19 (lS hK h3)) (ag (bI 0 1 20 (kh hK h4)) (ag (bI 0 1 21 (gX hK h5)) (ay [.v 0 2,.v 0 2,.v 0 2] (ag (bI 0 2 25 (lS hK h6)) (ag (bI 0 2 26 (kh hK h7)) (ag (bI 0 1 27 (gX hK h8)) (ag (bw 0) (ag (bw 1) bG)))))))))) (aC 1 ?_)
 cases h;exact dW
end
noncomputable section
variable(M:Nat→Prop)(w0:aw)(r:Int×Int)(v1:aq)  
variable{M w0 r v1}{K:Kn}{n:Nat}
theorem B4(hK:aj K)(h:ry K n v1=some r):aI Try.prog 37 [.agg (aX v1)] (fun v _=>v=.tup [iI r.1,iI r.2]):=by
 refine aZ (cat Try.f37 (pn 1)) Try.func37 Try.ntmps37 fun M w0=>(aY ⟨[(0,.agg (aX v1))],[],[],[]⟩ ?_);unfold ry at h;refine ao 6 7 3 (bE [1] [1] [] ?_);obtain⟨v2,h1,h⟩:=bind_some h;obtain⟨v3,h2,h⟩:=bind_some h;refine bJ 2 (nu 4 [.agg (aX v1),.agg (bS v2),.tup [iI v3.1,iI v3.2],iI v3.1,iI v3.2]) [] [] [bz Try.prog 9 Try.f37 (pn 6) 5,bz Try.prog 9 Try.f37 (pn 6) 6] (ay [.v 0 1] (ag (bI 0 1 5 (qx hK h1)) (ag (bI 0 1 6 (Aj hK h2)) (ay (vz 2) (ag (bw 0) (ag (bw 1) bG)))))) (aC 1 ?_);cases h;exact dW
end
noncomputable section
variable(M:Nat→Prop)(w0:aw)(r:(List ae)×Int)(v1:List aq)(v2:aH)(v3 v10 v11:Int)(v12:List ae)(v14:Int)(v15:List ae)(m1:Nat)(L1:Int→Int→(List ae)→Option ((List ae)×Int))
abbrev o1:Cx:=⟨Try.prog,42,M,w0⟩
abbrev rZ:=bodyPost Try.prog Try.f38 (bn M w0 (fun v s=>v=.tup [.ref 35,iI r.2]∧look 35 s.r=some ⟨64,67,lm az r.1⟩))
abbrev vi(ks:List ak)(s:AS):=VE (o1 M w0) (rZ M w0 r) ks .normal s
abbrev jB(n:Nat):ak:=.c (cat Try.f38 (pn n))
abbrev rO:List ak:=[.b 0,jB 31]
abbrev pq:List ak:=kl (o1 M w0) (rZ M w0 r) rO (cat Try.f38 (pn 244)) m1::rO
def Dv:AS:=⟨[(0,.sl (lm aO v1)),(2,iI v3),(4,.ptr 4 0),(8,.ref 35),(9,iI v14),(10,iI v11)],[(4,au v2)],[(35,⟨64,67,lm az v15⟩)],[4,35]⟩
def sW:AS:=⟨[(0,.sl (lm aO v1)),(2,iI v3),(4,.ptr 4 0),(8,.ref 35),(9,iI v10),(10,iI v11)],[(4,au v2)],[(35,⟨64,67,lm az v12⟩)],[4,35]⟩
abbrev pZ:Prop:=∀{v10:Int} {v11:Int} {v12:(List ae)},L1 v10 v11 v12=some r→LP (o1 M w0) (rZ M w0 r) rO (cat Try.f38 (pn 244)) m1 (sW v1 v2 v3 v10 v11 v12)
variable{M w0 r v1 v2 v3 v10 v11 v12 v14 v15 m1 L1}{K:Kn}{n:Nat}
theorem wa(hK:aj K)(hL1:pZ M w0 r v1 v2 v3 m1 L1)(h:ot K n v1 v2 v3 v11 L1 v14 v15=some r):vi M w0 r (.b 1::jB 979::pq M w0 r m1) (Dv v1 v2 v3 v11 v14 v15):=by
 unfold ot at h;exact ab 2 (bo (hL1 h))
theorem zW(hK:aj K)(hL1:pZ M w0 r v1 v2 v3 m1 L1)(h:nC K n v1 v2 v3 L1 v10 v11 v12=some r):vi M w0 r (jB 244::pq M w0 r m1) (sW v1 v2 v3 v10 v11 v12):=by
 unfold nC at h;refine bK 4 5 3 2 (ai 2 (ax (bA aO v1) (aa ?_)));obtain⟨h13,h⟩|⟨h13,h⟩:=ah h
 ·refine ac 14 h13 (cN 8 9 1 3 5 (ai 2 ?_));obtain⟨h14,h⟩:=aS h;refine ax (bD aO aX h14 (d7) (dJ)) (aa ?_);obtain⟨v13,h15,h⟩:=bO h;refine bq (ks':=jB 3913 :: .b 1::jB 979::pq M w0 r m1) 0 ⟨[(0,.sl (lm aO v1)),(2,iI v3),(4,.ptr 4 0),(8,.ref 35),(9,iI v10),(10,iI v11),(22,.bool v13)],[(4,au v2)],[(35,⟨64,67,lm az v12⟩)],[4,35]⟩ ?_ (by subst h15;kernel_rfl);obtain⟨h16,h⟩|⟨h16,h⟩:=ah h
  ·refine ac 22 h16 (ao 4 5 2 (bE [0,2,4,8,9,10] [4] [35] ?_));obtain⟨h17,h⟩:=aS h;obtain⟨h18,h⟩:=aS h;exact bJ 2 (nu 23 [.ref 35,iI v10,iI v3,.ptr 4 38,iI v2.LineHeight,.sl (lm aO v1),iI v11,.cptr (aX (gD v1 v11)),.cptr (List.drop 55 (aX (gD v1 v11))),.str ((gD v1 v11).Text),.agg (List.set (aG ({ bf with Kind:=2,Y:=v10,W:=v3,H:=v2.LineHeight,Text:=(gD v1 v11).Text }:ae)) 66 (.nils)),.sl (lm az [({ bf with Kind:=2,Y:=v10,W:=v3,H:=v2.LineHeight,Text:=(gD v1 v11).Text }:ae)])]) [] [] [gc 35 35 ⟨64,67,lm az (v12++[({ bf with Kind:=2,Y:=v10,W:=v3,H:=v2.LineHeight,Text:=(gD v1 v11).Text }:ae)])⟩,bz Try.prog 42 Try.f38 (pn 15652) 13] (ay [.v 0 1,.v 0 2,.v 0 2,.v 0 2,.v 0 2,.v 0 2,.v 0 2] (ag (ii (lo:=0) (k:=2) (eZ ⟨(by kernel_rfl),(gz (bD aO aX h17 (d7) (dJ)) (by kernel_rfl))⟩ (eZ ⟨(by kernel_rfl),(gz (bD aO aX h17 (d7) (dJ)) (by kernel_rfl))⟩ jD))) (ay [.v 0 2,.v 0 2,.v 0 2] (bQ (eK az ([({ bf with Kind:=2,Y:=v10,W:=v3,H:=v2.LineHeight,Text:=(gD v1 v11).Text }:ae)]:List ae) (new:=[aG ({ bf with Kind:=2,Y:=v10,W:=v3,H:=v2.LineHeight,Text:=(gD v1 v11).Text }:ae)]) (by simp only[List.map_cons,List.map_nil,cy])) (ag (eE (m:=0) (cf 35 35 64 67 az (rfl) (d6) h18)) (ag (bw 1) bG)))))) (ab 1 (wa hK hL1 h))
  ·exact ac 22 h16 (ab 2 (wa hK hL1 h))
 ·refine ac 14 h13 (aC 8 ?_);cases h;exact rM
theorem Ag(hK:aj K)(m:Nat):pZ M w0 r v1 v2 v3 m (kS K n v1 v2 v3 m):=by
 induction m with
 | zero=>intro v10 v11 v12 h;cases h
 | succ m ih=>intro v10 v11 v12 h;have h:nC K n v1 v2 v3 (kS K n v1 v2 v3 m) v10 v11 v12=some r:=h;exact bm (zW hK ih h)
theorem As(hK:aj K)(h:qQ K n v1 v2 v3=some r):aI Try.prog 38 [.sl (lm aO v1),.agg (au v2),iI v3] (fun v s=>v=.tup [.ref 35,iI r.2]∧look 35 s.r=some ⟨64,67,lm az r.1⟩):=by
 refine aZ (cat Try.f38 (pn 1)) Try.func38 Try.ntmps38 fun M w0=>(aY ⟨[(0,.sl (lm aO v1)),(1,.agg (au v2)),(2,iI v3)],[],[],[]⟩ ?_);unfold qQ at h;exact fA 122 0 31 10 (bE [0,2,4,8,9,10] [4] [] (eV 35 8 64 67 (ab 0 (ce (p:=pn 122) n (Ag hK n h)))))
end
noncomputable section
variable(M:Nat→Prop)(w0:aw)(r:Int×Int)(v1:List aq)(v2:aH)(v3 v4 v5:Int)(m1:Nat)(L1:Int→Int→Int→Option (Int×Int))
abbrev rb:Cx:=⟨Try.prog,31,M,w0⟩
abbrev rN:=bodyPost Try.prog Try.f39 (bn M w0 (fun v _=>v=.tup [iI r.1,iI r.2]))
abbrev AG(ks:List ak)(s:AS):=VE (rb M w0) (rN M w0 r) ks .normal s
abbrev wA(n:Nat):ak:=.c (cat Try.f39 (pn n))
abbrev oJ:List ak:=[.b 0,wA 31]
abbrev En:List ak:=kl (rb M w0) (rN M w0 r) oJ (cat Try.f39 (pn 244)) m1::oJ
def ta:AS:=⟨[(0,.sl (lm aO v1)),(6,iI v3),(7,iI v4),(8,iI v5)],[],[],[]⟩
abbrev vM:Prop:=∀{v3:Int} {v4:Int} {v5:Int},L1 v3 v4 v5=some r→LP (rb M w0) (rN M w0 r) oJ (cat Try.f39 (pn 244)) m1 (ta v1 v3 v4 v5)
variable{M w0 r v1 v2 v3 v4 v5 m1 L1}{K:Kn}{n:Nat}
theorem C3(hK:aj K)(hL1:vM M w0 r v1 m1 L1)(h:m5 K n v1 L1 v3 v4 v5=some r):AG M w0 r (wA 244::En M w0 r m1) (ta v1 v3 v4 v5):=by
 unfold m5 at h;refine bK 4 5 3 2 (ai 2 (ax (bA aO v1) (aa ?_)));obtain⟨h3,h⟩|⟨h3,h⟩:=ah h
 ·refine ac 13 h3 (cN 8 9 1 3 5 (ai 2 ?_));obtain⟨h4,h⟩:=aS h;exact ax (bD aO aX h4 (d7) (dJ)) (aa (ab 5 (bo (hL1 h))))
 ·refine ac 13 h3 (aC 8 ?_);cases h;exact dW
theorem CZ(hK:aj K)(m:Nat):vM M w0 r v1 m (kw K n v1 m):=by
 induction m with
 | zero=>intro v3 v4 v5 h;cases h
 | succ m ih=>intro v3 v4 v5 h;have h:m5 K n v1 (kw K n v1 m) v3 v4 v5=some r:=h;exact bm (C3 hK ih h)
theorem Aq(hK:aj K)(h:oS K n v1 v2=some r):aI Try.prog 39 [.sl (lm aO v1),.agg (au v2)] (fun v _=>v=.tup [iI r.1,iI r.2]):=by
 refine aZ (cat Try.f39 (pn 1)) Try.func39 Try.ntmps39 fun M w0=>(aY ⟨[(0,.sl (lm aO v1)),(1,.agg (au v2))],[],[],[]⟩ ?_);unfold oS at h;exact ab 10 (ce (p:=pn 122) n (CZ hK n h))
end
end Go.Proofs.Ytnpmlepplfaijaa

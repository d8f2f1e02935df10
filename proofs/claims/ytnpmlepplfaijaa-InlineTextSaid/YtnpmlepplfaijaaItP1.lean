/- The runs of the functions that InlineText reaches do what their plain forms say, part 1. Made by a program. -/
import Derived.Test.YtnpmlepplfaijaaItGk
import Derived.Test.YtnpmlepplfaijaaItP0
namespace Go.Proofs.Ytnpmlepplfaijaa
open Go.RowKit
set_option maxRecDepth 20000
set_option linter.all false
set_option linter.unusedVariables false
set_option linter.unusedSimpArgs false
noncomputable section
variable(M:Nat→Prop)(w0:ay)(r:Bool)(v1:ag)(v2:Bool)  
abbrev MC(n:Nat):am:=.c (cat Try.f81 (pn n))
abbrev FM:Cx:=⟨Try.prog,16,M,w0⟩
abbrev Kp:=bodyPost Try.prog Try.f81 (bo M w0 (fun v _=>v=.bool r))
abbrev Gj(ks:List am)(s:AS):=VE (FM M w0) (Kp M w0 r) ks .normal s
def DQ:AS:=⟨[(2,.bool v2)],[],[],[]⟩
variable{M w0 r v1 v2}{K:Kn}{n:Nat}
theorem vJ(hK:ak K)(h:lc K n v2=some r):Gj M w0 r [MC 7] (DQ v2):=by
 unfold lc at h;refine aD 1 ?_;cases h;exact aY
theorem AA(hK:ak K)(h:lr K n v1=some r):aH Try.prog 81 [.agg (aS v1)] (fun v _=>v=.bool r):=by
 refine bc (cat Try.f81 (pn 1)) Try.func81 Try.ntmps81 fun M w0=>(aZ ⟨[(0,.agg (aS v1))],[],[],[]⟩ ?_);unfold lr at h;refine av 6 7 3 (ah 4 ?_);obtain⟨h1,h⟩|⟨h1,h⟩:=ai h
 ·exact au 6 h1 (ab (ac 0 (vJ hK h)))
 ·refine au 6 h1 (aL 9 5 ?_);obtain⟨h2,h⟩|⟨h2,h⟩:=ai h
  ·exact au 11 h2 (ab (ac 0 (vJ hK h)))
  ·exact au 11 h2 (ab (ac 0 (vJ hK h)))
end
noncomputable section
variable(M:Nat→Prop)(w0:ay)(r:af)(v1:ag)(v2:bt)(v3 v4:Bool)(v5:ca)(v6:(List ag)×Bool)(v9:Int)(v10:List af)(v15:Int)(v16:Bool)(v17 v18:aM)(v19:List af)(v20 v21:aM)(v23:Bool)(v25:Int)(v26:aM)(v27:Bool)(v32:Int)(v33 v34:aM)(v35:Bool)(v36:Int×Bool)(v37:Bool)(v38 v39 v40 v47:Int)(v48 v50:(List af))(v52:Bool)(v54:List af)(m1 m2:Nat)(L1 L2:Int→(List af)→Option af)
abbrev oh:Cx:=⟨Try.prog,259,M,w0⟩
abbrev oW:=bodyPost Try.prog Try.f62 (bo M w0 (fun v s=>v=.agg (List.set (aG ({ r with Kids:=[] }:af)) 66 (.ref 1054))∧look 1054 s.r=some ⟨64,67,lm az r.Kids⟩))
abbrev fw(ks:List am)(s:AS):=VE (oh M w0) (oW M w0 r) ks .normal s
abbrev cw(n:Nat):am:=.c (cat Try.f62 (pn n))
abbrev t8:List am:=[.b 4,cw 131071]
abbrev nd:List am:=kl (oh M w0) (oW M w0 r) t8 (cat Try.f62 (pn 1048564)) m2::t8
abbrev vh:List am:=[.b 0,cw 4075,cw 255]
abbrev Iw:List am:=kl (oh M w0) (oW M w0 r) vh (cat Try.f62 (pn 32596)) m1::vh
def HT:AS:=⟨[(6,.ptr 6 0),(10,.ptr 10 0),(11,.ptr 11 0),(12,.sl (lm aF v6.1)),(13,.bool v6.2),(15,iI v25),(199,iI (v19.length:Int)),(200,iI v47)],[(6,bw v2),(10,List.set (aG bj) 66 (.nils)),(11,List.set (aG (⟨1,v1.Node,v2.Margin.a3,0,(aa (v2.Content+v39)),v40,0,⟨#[]⟩,v1.Style,v33,v34,v35,[]⟩:af)) 66 (.ref 1054))],[(1054,⟨64,67,lm az v54⟩)],[6,10,11,1054]⟩
def Gs:AS:=⟨[(6,.ptr 6 0),(10,.ptr 10 0),(11,.ptr 11 0),(12,.sl (lm aF v6.1)),(13,.bool v6.2),(15,iI v25),(24,iI v47),(199,iI (v19.length:Int)),(200,iI v47),(244,.bool v52)],[(6,bw v2),(10,List.set (aG bj) 66 (.nils)),(11,List.set (aG (⟨1,v1.Node,v2.Margin.a3,0,(aa (v2.Content+v39)),v40,0,⟨#[]⟩,v1.Style,v33,v34,v35,[]⟩:af)) 66 (.ref 1054))],[(1054,⟨64,67,lm az v50⟩)],[6,10,11,1054]⟩
def Cf:AS:=⟨[(6,.ptr 6 0),(10,.ptr 10 0),(11,.ptr 11 0),(12,.sl (lm aF v6.1)),(13,.bool v6.2),(15,iI v25),(199,iI (v19.length:Int)),(200,iI v47)],[(6,bw v2),(10,List.set (aG bj) 66 (.nils)),(11,List.set (aG (⟨1,v1.Node,v2.Margin.a3,0,(aa (v2.Content+v39)),v40,0,⟨#[]⟩,v1.Style,v33,v34,v35,[]⟩:af)) 66 (.ref 1054))],[(1054,⟨64,67,lm az v48⟩)],[6,10,11,1054]⟩
def Hr:AS:=⟨[(6,.ptr 6 0),(10,.ptr 10 0),(11,.ptr 11 0),(12,.sl (lm aF v6.1)),(13,.bool v6.2),(14,iI v38),(15,iI v25)],[(6,bw v2),(10,List.set (aG bj) 66 (.nils)),(11,List.set (aG ({ bj with Kind:=1,Node:=v1.Node,Style:=v1.Style,Before:=v33,After:=v34,Empty:=v35 }:af)) 66 (.ref 1054))],[(1054,⟨64,67,lm az v19⟩)],[6,10,11,1054]⟩
def HR:AS:=⟨[(6,.ptr 6 0),(10,.ptr 10 0),(11,.ptr 11 0),(12,.sl (lm aF v6.1)),(13,.bool v6.2),(14,iI (max v32 0)),(15,iI v25),(22,iI v36.1),(166,.bool v37)],[(6,bw v2),(10,List.set (aG bj) 66 (.nils)),(11,List.set (aG ({ bj with Kind:=1,Node:=v1.Node,Style:=v1.Style,Before:=v33,After:=v34,Empty:=v35 }:af)) 66 (.ref 1054))],[(1054,⟨64,67,lm az v19⟩)],[6,10,11,1054]⟩
def GS:AS:=⟨[(5,.ptr 5 0),(6,.ptr 6 0),(10,.ptr 10 0),(11,.ptr 11 0),(12,.sl (lm aF v6.1)),(13,.bool v6.2),(14,iI v32),(15,iI v25)],[(5,aS v1),(6,bw v2),(10,List.set (aG bj) 66 (.nils)),(11,List.set (aG ({ bj with Kind:=1,Node:=v1.Node,Style:=v1.Style,Before:=v33,After:=v34,Empty:=v35 }:af)) 66 (.ref 1054))],[(1054,⟨64,67,lm az v19⟩)],[5,6,10,11,1054]⟩
def DN:AS:=⟨[(3,.bool v4),(5,.ptr 5 0),(6,.ptr 6 0),(10,.ptr 10 0),(11,.ptr 11 0),(12,.sl (lm aF v6.1)),(13,.bool v6.2),(14,iI v15),(15,iI v25),(16,.ptr 16 0),(17,.ptr 17 0),(18,.bool v16),(113,.bool v27)],[(5,aS v1),(6,bw v2),(10,List.set (aG bj) 66 (.nils)),(11,List.set (aG ({ bj with Kind:=1,Node:=v1.Node,Style:=v1.Style,Before:=v26,After:=v21 }:af)) 66 (.ref 1054)),(16,bK v17),(17,bK v18)],[(1054,⟨64,67,lm az v19⟩)],[5,6,10,11,16,17,1054]⟩
def Dy:AS:=⟨[(2,.bool v3),(3,.bool v4),(5,.ptr 5 0),(6,.ptr 6 0),(10,.ptr 10 0),(11,.ptr 11 0),(12,.sl (lm aF v6.1)),(13,.bool v6.2),(14,iI v15),(15,iI v25),(16,.ptr 16 0),(17,.ptr 17 0),(18,.bool v16)],[(5,aS v1),(6,bw v2),(10,List.set (aG bj) 66 (.nils)),(11,List.set (aG ({ bj with Kind:=1,Node:=v1.Node,Style:=v1.Style,Before:=v26,After:=v21 }:af)) 66 (.ref 1054)),(16,bK v17),(17,bK v18)],[(1054,⟨64,67,lm az v19⟩)],[5,6,10,11,16,17,1054]⟩
def Jh:AS:=⟨[(2,.bool v3),(3,.bool v4),(5,.ptr 5 0),(6,.ptr 6 0),(10,.ptr 10 0),(11,.ptr 11 0),(12,.sl (lm aF v6.1)),(13,.bool v6.2),(14,iI v15),(15,iI 0),(16,.ptr 16 0),(17,.ptr 17 0),(18,.bool v16),(98,.bool v23)],[(5,aS v1),(6,bw v2),(10,List.set (aG bj) 66 (.nils)),(11,List.set (aG ({ bj with Kind:=1,Node:=v1.Node,Style:=v1.Style,Before:=v20,After:=v21 }:af)) 66 (.ref 1054)),(16,bK v17),(17,bK v18)],[(1054,⟨64,67,lm az v19⟩)],[5,6,10,11,16,17,1054]⟩
def Kt:AS:=⟨[(2,.bool v3),(3,.bool v4),(5,.ptr 5 0),(6,.ptr 6 0),(10,.ptr 10 0),(11,.ptr 11 0),(12,.sl (lm aF v6.1)),(13,.bool v6.2),(14,iI v15),(15,iI 0),(16,.ptr 16 0),(17,.ptr 17 0),(18,.bool v16)],[(5,aS v1),(6,bw v2),(10,List.set (aG bj) 66 (.nils)),(11,List.set (aG ({ bj with Kind:=1,Node:=v1.Node,Style:=v1.Style }:af)) 66 (.ref 1054)),(16,bK v17),(17,bK v18)],[(1054,⟨64,67,lm az v19⟩)],[5,6,10,11,16,17,1054]⟩
def yq:AS:=⟨[(2,.bool v3),(3,.bool v4),(5,.ptr 5 0),(6,.ptr 6 0),(9,.ptr 9 0),(10,.ptr 10 0),(11,.ptr 11 0),(12,.sl (lm aF v6.1)),(13,.bool v6.2),(15,iI 0),(16,.ptr 16 0),(17,.ptr 17 0),(19,.ref 50),(36,.sl (lm aF v6.1)),(37,iI (v6.1.length:Int)),(38,iI v9)],[(5,aS v1),(6,bw v2),(9,cr v5),(10,List.set (aG bj) 66 (.nils)),(11,List.set (aG ({ bj with Kind:=1,Node:=v1.Node,Style:=v1.Style }:af)) 66 (.nils)),(16,bK cy),(17,bK cy)],[(50,⟨64,67,lm az v10⟩)],[5,6,9,10,11,16,17,50]⟩
abbrev yD:Prop:=∀{v9:Int} {v10:(List af)},L1 v9 v10=some r→LP (oh M w0) (oW M w0 r) vh (cat Try.f62 (pn 32596)) m1 (yq v1 v2 v3 v4 v5 v6 v9 v10)
abbrev qO:Prop:=∀{v47:Int} {v48:(List af)},L2 v47 v48=some r→LP (oh M w0) (oW M w0 r) t8 (cat Try.f62 (pn 1048564)) m2 (Cf v1 v2 v6 v19 v25 v33 v34 v35 v39 v40 v47 v48)
variable{M w0 r v1 v2 v3 v4 v5 v6 v9 v10 v15 v16 v17 v18 v19 v20 v21 v23 v25 v26 v27 v32 v33 v34 v35 v36 v37 v38 v39 v40 v47 v48 v50 v52 v54 m1 m2 L1 L2}{K:Kn}{n:Nat}
theorem xq(hK:ak K)(hL2:qO M w0 r v1 v2 v6 v19 v25 v33 v34 v35 v39 v40 m2 L2)(h:nV K n v1 v2 v6 v19 v25 v33 v34 v35 v39 v40 v47 L2 v54=some r):fw M w0 r (.b 5::cw 8388519::nd M w0 r m2) (HT v1 v2 v6 v19 v25 v33 v34 v35 v39 v40 v47 v54):=by
 unfold nV at h;exact ac 2 (br (hL2 h))
theorem yP(hK:ak K)(hL2:qO M w0 r v1 v2 v6 v19 v25 v33 v34 v35 v39 v40 m2 L2)(h:pP K n v1 v2 v6 v19 v25 v33 v34 v35 v39 v40 v47 v50 L2 v52=some r):fw M w0 r (cw 268432591 :: .b 5::cw 8388519::nd M w0 r m2) (Gs v1 v2 v6 v19 v25 v33 v34 v35 v39 v40 v47 v50 v52):=by
 unfold pP at h;obtain⟨h64,h⟩|⟨h64,h⟩:=ai h
 ·refine ae 244 h64 (aU 2 1 (bS [6,10,11,12,13,15,24,199,200] [6,10,11] [1054] ?_));obtain⟨h65,h⟩:=aQ h;obtain⟨v53,h66,h⟩:=bind_some h;obtain⟨h67,h⟩:=aQ h;exact cg 1 (nu 245 [.ptr 11 66,.ref 1054,iI v47,.ptr 11 66,.ref 1054,iI v47,.eptr 1054 67 (v47.toNat) 0,.agg (aG (gD v50 v47)),.ptr 6 12,iI v2.Content,.agg (aG v53),.eptr 1054 67 (v47.toNat) 0]) [] [] [qF 1054 ⟨64,67,lm az (List.set v50 v47.toNat v53)⟩] (aO (vz 6) (ct (fU 1054 67 az (L:=v50) h65) (ct (cR 64 0 az aG (dM h67).2 (cK)) (aO (vz 2) (ao (ci 0 1 255 (xH hK h66)) (ct (fU 1054 67 az (L:=v50) h67) (ao (gk (m:=0) (sQ 1054 64 67 0 az aG v53 (dM h67).2 (cK))) ce))))))) (ac 0 (xq hK hL2 h))
 ·exact ae 244 h64 (ac 2 (xq hK hL2 h))
theorem LW(hK:ak K)(hL2:qO M w0 r v1 v2 v6 v19 v25 v33 v34 v35 v39 v40 m2 L2)(h:lN K n v1 v2 v6 v19 v25 v33 v34 v35 v39 v40 L2 v47 v48=some r):fw M w0 r (cw 1048564::nd M w0 r m2) (Cf v1 v2 v6 v19 v25 v33 v34 v35 v39 v40 v47 v48):=by
 unfold lN at h;refine av 6 7 3 ?_;obtain⟨h54,h⟩|⟨h54,h⟩:=ai h
 ·refine ae 201 h54 (cN 18 19 5 3 7 (bS [6,10,11,12,13,15,24,199,200] [6,10,11] [1054] ?_));obtain⟨h55,h⟩:=aQ h;obtain⟨h56,h⟩:=aQ h;refine cg 1 (nu 203 [.ptr 11 66,.ref 1054,iI v47,.eptr 1054 67 (v47.toNat) 0,.eptr 1054 67 (v47.toNat) 2,iI ((gD v48 v47).X),.ptr 6 4,.ptr 6 7,iI v2.Border.a3,.ptr 6 8,.ptr 6 11,iI v2.Padding.a3,iI (aa (v2.Border.a3+v2.Padding.a3)),iI (aa (((gD v48 v47).X)+(aa (v2.Border.a3+v2.Padding.a3)))),.eptr 1054 67 (v47.toNat) 0,.eptr 1054 67 (v47.toNat) 2]) [] [] [qF 1054 ⟨64,67,lm az (List.set v48 v47.toNat ({ (gD v48 v47)with X:=(aa (((gD v48 v47).X)+(aa (v2.Border.a3+v2.Padding.a3)))) }:af))⟩] (aO (vz 3) (ct (fU 1054 67 az (L:=v48) h55) (aO [.v 0 1] (ct (cR 3 2 az aG (dM h56).2 (cK)) (aO (vz 8) (ao (mT (lo:=0) (k:=2) (iv ⟨(by kernel_rfl),(j2 (fU 1054 67 az (L:=v48) h56) (by kernel_rfl))⟩ (iv ⟨(by kernel_rfl),(j2 (fU 1054 67 az (L:=(List.set v48 v47.toNat ({ (gD v48 v47)with X:=(aa (((gD v48 v47).X)+(aa (v2.Border.a3+v2.Padding.a3)))) }:af))) h56) (by kernel_rfl))⟩ pC))) (aO [.v 0 1] (ao (gk (m:=0) (sQ 1054 64 67 2 az aG ({ (gD v48 v47)with X:=(aa (((gD v48 v47).X)+(aa (v2.Border.a3+v2.Padding.a3)))) }:af) (dM h56).2 (cK))) ce)))))))) ?_
  obtain⟨v49,h57,h⟩:=bZ h;refine bC (ks':=cw 134216294::cw 134216295 :: .b 5::cw 8388519::nd M w0 r m2) 1 ⟨[(6,.ptr 6 0),(10,.ptr 10 0),(11,.ptr 11 0),(12,.sl (lm aF v6.1)),(13,.bool v6.2),(15,iI v25),(24,iI v47),(199,iI (v19.length:Int)),(200,iI v47)],[(6,bw v2),(10,List.set (aG bj) 66 (.nils)),(11,List.set (aG (⟨1,v1.Node,v2.Margin.a3,0,(aa (v2.Content+v39)),v40,0,⟨#[]⟩,v1.Style,v33,v34,v35,[]⟩:af)) 66 (.ref 1054))],[(1054,⟨64,67,lm az v49⟩)],[6,10,11,1054]⟩ ?_ (by subst h57;kernel_rfl);obtain⟨h58,h⟩:=aQ h;obtain⟨h59,h⟩:=aQ h;refine cg 1 (nu 219 [.ptr 11 66,.ref 1054,iI v47,.eptr 1054 67 (v47.toNat) 0,.eptr 1054 67 (v47.toNat) 3,iI ((gD v49 v47).Y),.ptr 6 4,.ptr 6 4,iI v2.Border.a0,.ptr 6 8,.ptr 6 8,iI v2.Padding.a0,iI (aa (v2.Border.a0+v2.Padding.a0)),iI v25,iI (aa ((aa (v2.Border.a0+v2.Padding.a0))+v25)),iI (aa (((gD v49 v47).Y)+(aa ((aa (v2.Border.a0+v2.Padding.a0))+v25)))),.eptr 1054 67 (v47.toNat) 0,.eptr 1054 67 (v47.toNat) 3]) [] [] [qF 1054 ⟨64,67,lm az (List.set v49 v47.toNat ({ (gD v49 v47)with Y:=(aa (((gD v49 v47).Y)+(aa ((aa (v2.Border.a0+v2.Padding.a0))+v25)))) }:af))⟩] (aO (vz 3) (ct (fU 1054 67 az (L:=v49) h58) (aO [.v 0 1] (ct (cR 3 3 az aG (dM h59).2 (cK)) (aO (vz 10) (ao (mT (lo:=0) (k:=2) (iv ⟨(by kernel_rfl),(j2 (fU 1054 67 az (L:=v49) h59) (by kernel_rfl))⟩ (iv ⟨(by kernel_rfl),(j2 (fU 1054 67 az (L:=(List.set v49 v47.toNat ({ (gD v49 v47)with Y:=(aa (((gD v49 v47).Y)+(aa ((aa (v2.Border.a0+v2.Padding.a0))+v25)))) }:af))) h59) (by kernel_rfl))⟩ pC))) (aO [.v 0 1] (ao (gk (m:=0) (sQ 1054 64 67 3 az aG ({ (gD v49 v47)with Y:=(aa (((gD v49 v47).Y)+(aa ((aa (v2.Border.a0+v2.Padding.a0))+v25)))) }:af) (dM h59).2 (cK))) ce)))))))) ?_
  obtain⟨v50,h60,h⟩:=bZ h;refine bC (ks':=cw 268432590::cw 268432591 :: .b 5::cw 8388519::nd M w0 r m2) 1 ⟨[(6,.ptr 6 0),(10,.ptr 10 0),(11,.ptr 11 0),(12,.sl (lm aF v6.1)),(13,.bool v6.2),(15,iI v25),(24,iI v47),(199,iI (v19.length:Int)),(200,iI v47)],[(6,bw v2),(10,List.set (aG bj) 66 (.nils)),(11,List.set (aG (⟨1,v1.Node,v2.Margin.a3,0,(aa (v2.Content+v39)),v40,0,⟨#[]⟩,v1.Style,v33,v34,v35,[]⟩:af)) 66 (.ref 1054))],[(1054,⟨64,67,lm az v50⟩)],[6,10,11,1054]⟩ ?_ (by subst h60;kernel_rfl);refine ah 2 ?_;obtain⟨h61,h⟩|⟨h61,h⟩:=ai h
  ·refine au 238 h61 (aL 4 2 ?_);obtain⟨h62,h⟩:=aQ h;refine ax (bH aF aS h62 (eE) (dS)) (aL 6 1 ?_);obtain⟨v51,h63,h⟩:=bind_some h;exact aE (AA hK h63) (ab (ac 0 (yP hK hL2 h)))
  ·exact au 238 h61 (ab (ac 0 (yP hK hL2 h)))
 ·refine ae 201 h54 (aD 8 ?_);cases h;exact eG
theorem J9(hK:ak K)(m:Nat):qO M w0 r v1 v2 v6 v19 v25 v33 v34 v35 v39 v40 m (mU K n v1 v2 v6 v19 v25 v33 v34 v35 v39 v40 m):=by
 induction m with
 | zero=>intro v47 v48 h;cases h
 | succ m ih=>intro v47 v48 h;have h:lN K n v1 v2 v6 v19 v25 v33 v34 v35 v39 v40 (mU K n v1 v2 v6 v19 v25 v33 v34 v35 v39 v40 m) v47 v48=some r:=h;exact bl (LW hK ih h)
theorem xK(hK:ak K)(h:nP K n v1 v2 v6 v19 v25 v33 v34 v35 v38=some r):fw M w0 r [cw 8191] (Hr v1 v2 v6 v19 v25 v33 v34 v35 v38):=by
 unfold nP at h;refine av 6 7 3 (bS [6,10,11,12,13,14,15] [6,10,11] [1054] ?_);obtain⟨v39,h38,h⟩:=bind_some h;refine cg 1 (nu 173 [.ptr 6 12,iI v2.Content,.agg (bw v2),iI v39,iI (aa (v2.Content+v39)),.ptr 11 4]) [] [] [bV Try.prog 259 Try.f62 (pn 32766) 6] (aO (vz 3) (ao (ci 0 1 176 (Dt hK h38)) (aO (vz 2) (ao (bW 0) ce)))) ?_;obtain⟨v40,h39,h⟩:=bZ h;refine bC (ks':=[cw 262140,cw 262141,cw 131071]) 4 ⟨[(6,.ptr 6 0),(10,.ptr 10 0),(11,.ptr 11 0),(12,.sl (lm aF v6.1)),(13,.bool v6.2),(15,iI v25)],[(6,bw v2),(10,List.set (aG bj) 66 (.nils)),(11,List.set (aG (⟨1,v1.Node,v2.Margin.a3,0,(aa (v2.Content+v39)),v40,0,⟨#[]⟩,v1.Style,v33,v34,v35,[]⟩:af)) 66 (.ref 1054))],[(1054,⟨64,67,lm az v19⟩)],[6,10,11,1054]⟩ ?_ (by subst h39;kernel_rfl);exact ah 2 (ax (bF az v19) (ab (ac 1 (cp (p:=pn 524282) n (J9 hK n h)))))
theorem AW(hK:ak K)(h:nY K n v1 v2 v6 v19 v25 v32 v33 v34 v35 v36 v37=some r):fw M w0 r [cw 32763,cw 8191] (HR v1 v2 v6 v19 v25 v32 v33 v34 v35 v36 v37):=by
 unfold nY at h;obtain⟨h37,h⟩|⟨h37,h⟩:=ai h
 ·exact ae 166 h37 (ac 2 (xK hK h))
 ·exact ae 166 h37 (ac 2 (xK hK h))
theorem oJ(hK:ak K)(h:gj K n v1 v2 v6 v19 v25 v32 v33 v34 v35=some r):fw M w0 r [.b 3,cw 2047] (GS v1 v2 v6 v19 v25 v32 v33 v34 v35):=by
 unfold gj at h;refine nA 12 13 7 5 (ah 3 ?_);obtain⟨v36,h35,h⟩:=bind_some h;refine aE (dx hK h35) (ab (av 2 3 1 (ah 2 ?_)));obtain⟨h36,h⟩|⟨h36,h⟩:=ai h
 ·exact au 160 h36 (ab (ac 0 (AW hK h)))
 ·exact au 160 h36 (ab (ac 0 (AW hK h)))
theorem vw(hK:ak K)(h:jP K n v1 v2 v4 v6 v15 v16 v17 v18 v19 v21 v25 v26 v27=some r):fw M w0 r [cw 8185,.b 3,cw 2047] (DN v1 v2 v4 v6 v15 v16 v17 v18 v19 v21 v25 v26 v27):=by
 unfold jP at h;obtain⟨h27,h⟩|⟨h27,h⟩:=ai h
 ·refine ae 113 h27 (av 4 5 2 (ah 4 ?_));obtain⟨v28,h28,h⟩:=bind_some h;exact aE (nq hK h28) (ab (ac 5 (oJ hK h)))
 ·refine ae 113 h27 (aU 7 3 ?_);obtain⟨h29,h⟩|⟨h29,h⟩:=ai h
  ·refine ae 131 h29 (aU 11 5 ?_);obtain⟨h30,h⟩|⟨h30,h⟩:=ai h
   ·refine ae 134 h30 (aU 2 1 (ah 3 ?_));obtain⟨v29,h31,h⟩:=bind_some h;exact aE (nq hK h31) (ab (ac 0 (oJ hK h)))
   ·exact ae 134 h30 (ac 2 (oJ hK h))
  ·refine ae 131 h29 (aU 7 3 ?_);obtain⟨h32,h⟩|⟨h32,h⟩:=ai h
   ·refine ae 140 h32 (av 4 5 2 (ah 3 ?_));obtain⟨v30,h33,h⟩:=bind_some h;exact aE (nq hK h33) (ab (ac 1 (oJ hK h)))
   ·refine ae 140 h32 (aU 3 1 (ah 3 ?_));obtain⟨v31,h34,h⟩:=bind_some h;exact aE (ls hK h34) (ab (ac 0 (oJ hK h)))
theorem wd(hK:ak K)(h:jQ K n v1 v2 v3 v4 v6 v15 v16 v17 v18 v19 v21 v25 v26=some r):fw M w0 r [.b 2,cw 1023] (Dy v1 v2 v3 v4 v6 v15 v16 v17 v18 v19 v21 v25 v26):=by
 unfold jQ at h;refine cN 8 9 3 3 4 (ah 2 ?_);obtain⟨h25,h⟩|⟨h25,h⟩:=ai h
 ·refine au 115 h25 (aL 5 3 ?_);obtain⟨h26,h⟩|⟨h26,h⟩:=ai h
  ·exact au 118 h26 (ab (ac 0 (vw hK h)))
  ·exact au 118 h26 (ab (ac 0 (vw hK h)))
 ·exact au 115 h25 (ab (ac 0 (vw hK h)))
theorem zm(hK:ak K)(h:mu K n v1 v2 v3 v4 v6 v15 v16 v17 v18 v19 v20 v21 v23=some r):fw M w0 r [cw 16359,.b 2,cw 1023] (Jh v1 v2 v3 v4 v6 v15 v16 v17 v18 v19 v20 v21 v23):=by
 unfold mu at h;obtain⟨h23,h⟩|⟨h23,h⟩:=ai h
 ·refine ae 98 h23 (aU 2 1 (ah 1 ?_));obtain⟨v24,h24,h⟩:=bind_some h;exact aE (ls hK h24) (ab (ac 0 (wd hK h)))
 ·exact ae 98 h23 (ac 2 (wd hK h))
theorem CG(hK:ak K)(h:nk K n v1 v2 v3 v4 v6 v15 v16 v17 v18 v19=some r):fw M w0 r [cw 255] (Kt v1 v2 v3 v4 v6 v15 v16 v17 v18 v19):=by
 unfold nk at h;refine av 2 3 1 (bS [2,3,5,6,10,11,12,13,14,15,16,17,18] [5,6,10,11,16,17] [1054] ?_);obtain⟨v20,h18,h⟩:=bind_some h;obtain⟨v21,h19,h⟩:=bind_some h;refine cg 2 (nu 81 [.ptr 6 0,.ptr 6 0,iI v2.Margin.a0,.agg (bK v20),.ptr 6 0,.ptr 6 2,iI v2.Margin.a2,.agg (bK v21),.ptr 11 61,.ptr 11 63]) [] [] [bV Try.prog 259 Try.f62 (pn 510) 9,bV Try.prog 259 Try.f62 (pn 510) 11] (aO (vz 3) (ao (ci 0 1 84 (AJ hK h18)) (aO [.v 0 2,.v 0 2,.v 0 2] (ao (ci 0 1 88 (AJ hK h19)) (aO [.v 0 1] (ao (bW 0) (aO [.v 1 1] (ao (bW 1) ce)))))))) (gC 9 2 3 4 ?_);obtain⟨h20,h⟩|⟨h20,h⟩:=ai h
 ·refine ae 91 h20 (aU 2 1 (ah 3 ?_));obtain⟨v22,h21,h⟩:=bind_some h;exact aE (nq hK h21) (ab (ac 0 (wd hK h)))
 ·refine ae 91 h20 (av 6 7 2 (ah 3 ?_));obtain⟨h22,h⟩|⟨h22,h⟩:=ai h
  ·exact au 101 h22 (ab (ac 0 (zm hK h)))
  ·exact au 101 h22 (ab (ac 0 (zm hK h)))
theorem Ii(hK:ak K)(hL1:yD M w0 r v1 v2 v3 v4 v5 v6 m1 L1)(h:qZ K n v1 v2 v3 v4 v5 v6 L1 v9 v10=some r):fw M w0 r (cw 32596::Iw M w0 r m1) (yq v1 v2 v3 v4 v5 v6 v9 v10):=by
 unfold qZ at h;refine av 6 7 3 ?_;obtain⟨h11,h⟩|⟨h11,h⟩:=ai h
 ·refine ae 39 h11 (cN 8 9 1 3 5 (ah 0 ?_));obtain⟨h12,h⟩:=aQ h;refine ax (bH aF aS h12 (eE) (dS)) (ab (ah 6 ?_));obtain⟨v11,h13,h⟩:=bind_some h;refine kJ (hK.sw h13) (ax (fD az ([v11]:List af) (new:=[aG v11]) (by simp only[List.map_cons,List.map_nil,cK])) ?_);obtain⟨h14,h⟩:=aQ h;exact ax (cD 50 50 64 67 az (rfl) (eY) h14) (ab (ac 2 (br (hL1 h))))
 ·refine ae 39 h11 (b9 (ks':=[cw 4075,cw 255]) 5 (ah 1 (pg 50 ?_)));obtain⟨v12,h15,h⟩:=bind_some h;exact fb 1054 (D0 hK h15) (sA (i:=0) rfl) (ab (ac 0 (CG hK h)))
theorem DW(hK:ak K)(m:Nat):yD M w0 r v1 v2 v3 v4 v5 v6 m (qY K n v1 v2 v3 v4 v5 v6 m):=by
 induction m with
 | zero=>intro v9 v10 h;cases h
 | succ m ih=>intro v9 v10 h;have h:qZ K n v1 v2 v3 v4 v5 v6 (qY K n v1 v2 v3 v4 v5 v6 m) v9 v10=some r:=h;exact bl (Ii hK ih h)
theorem C0(hK:ak K)(h:mh K n v1 v2 v3 v4 v5=some r):aH Try.prog 62 [.agg (aS v1),.agg (bw v2),.bool v3,.bool v4,.agg (cr v5)] (fun v s=>v=.agg (List.set (aG ({ r with Kids:=[] }:af)) 66 (.ref 1054))∧look 1054 s.r=some ⟨64,67,lm az r.Kids⟩):=by
 refine bc (cat Try.f62 (pn 1)) Try.func62 Try.ntmps62 fun M w0=>(aZ ⟨[(0,.agg (aS v1)),(1,.agg (bw v2)),(2,.bool v3),(3,.bool v4),(4,.agg (cr v5))],[],[],[]⟩ ?_);unfold mh at h;refine av 14 15 5 (ah 1 ?_);obtain⟨v6,h1,h⟩:=bind_some h;refine aE (y3 hK h1) (ab (av 61 31 9 ?_));obtain⟨h2,h⟩|⟨h2,h⟩:=ai h
 ·exact ae 35 h2 (bO 20 21 11 5 (ah 1 (ax (bF aF v6.1) (ab (gz 2 0 1 (bS [2,3,5,6,9,10,11,12,13,15,16,17,19,36,37,38] [5,6,9,10,11,16,17] [] (fZ 50 19 64 67 (ac 0 (cp (p:=pn 16298) n (DW hK n h))))))))))
 ·refine ae 35 h2 (av 6 7 2 (ah 7 ?_));obtain⟨v13,h16,h⟩:=bind_some h;refine kJ (hK.ou h16) (ab (av 2 3 1 (ah 2 ?_)));obtain⟨v14,h17,h⟩:=bind_some h;exact fb 1075 (Lx hK h17) (g8 5) (ab (ah 2 (ax (bF az v14) (ab (bS [2,3,5,6,10,11,12,13,14,15,16,17,18] [5,6,10,11,16,17] [1075] (EI 1075 1054 (ac 0 (CG hK h))))))))
end
noncomputable section
variable(M:Nat→Prop)(w0:ay)(r:af)(v1:ag)(v2:bt)(v3:ca)  
variable{M w0 r v1 v2 v3}{K:Kn}{n:Nat}
theorem JT(hK:ak K)(h:sE K n v1 v2 v3=some r):aH Try.prog 46 [.agg (aS v1),.agg (bw v2),.agg (cr v3)] (fun v s=>v=.agg (List.set (aG ({ r with Kids:=[] }:af)) 66 (.ref 1010))∧look 1010 s.r=some ⟨64,67,lm az r.Kids⟩):=by
 refine bc (cat Try.f46 (pn 1)) Try.func46 Try.ntmps46 fun M w0=>(aZ ⟨[(0,.agg (aS v1)),(1,.agg (bw v2)),(2,.agg (cr v3))],[],[],[]⟩ ?_);unfold sE at h;refine av 6 7 3 (ah 3 ?_);obtain⟨v4,h1,h⟩:=bind_some h;refine fb 1010 (C0 hK h1) (rI (i:=66) (by kernel_rfl)) (ab (aD 1 ?_));cases h;exact eG
end
noncomputable section
variable(M:Nat→Prop)(w0:ay)(r:aq)(v1:ag)(v2:Int)(v3:ca)  
variable{M w0 r v1 v2 v3}{K:Kn}{n:Nat}
theorem Ml(hK:ak K)(h:gK K n v1 v2 v3=some r):aH Try.prog 42 [.agg (aS v1),.cptr ([iI v2]),.cptr (cr v3)] (fun v _=>v=.agg (aI r)):=by
 refine bc (cat Try.f42 (pn 1)) Try.func42 Try.ntmps42 fun M w0=>(aZ ⟨[(0,.agg (aS v1)),(1,.cptr ([iI v2])),(2,.cptr (cr v3))],[],[],[]⟩ ?_);unfold gK at h;refine av 6 7 3 (bS [1,2,3,4] [3,4] [] ?_);obtain⟨v4,h1,h⟩:=bind_some h;obtain⟨v5,h2,h⟩:=bind_some h;refine cg 1 (nu 7 [.ptr 3 2,.agg (aA v1.Style),iI v2,.agg (aS v1),iI v2,.agg (cr v3),iI v4,.agg (bw v5)]++nu 5 [.ptr 5 0]) [(5,bw fe)] [] [bV Try.prog 36 Try.f42 (pn 6) 9] (aO (vz 6) (ao (ci 0 1 13 (Ji hK h1)) (ao (ci 0 1 14 (oB hK h2)) (ao (vU 0 1 84 5 (bw fe)) (ao (bW 0) ce))))) (av 2 3 1 (bS [1,2,3,4,5] [3,4,5] [] ?_));obtain⟨v7,h4,h⟩:=bind_some h;obtain⟨v8,h5,h⟩:=bind_some h;refine cg 1 (nu 15 [.agg (aS v1),.agg (bw v5),.agg (cr v3),.agg (aG v7),iI v2,.agg (aG v8)]++nu 6 [.ptr 6 0]) [(6,List.set (aG bj) 66 (.nils))] [] [bV Try.prog 36 Try.f42 (pn 14) 7] (aO (vz 3) (ao (ci 0 1 18 (aH.bp (JT hK h4) (V':=.agg (aG v7)) (by kernel_rfl))) (aO [.v 0 1] (ao (ci 0 1 20 (xH hK h5)) (ao (vU 0 1 64 6 (List.set (aG bj) 66 (.nils))) (ao (bW 0) ce)))))) (av 2 3 1 (bS [4,5,6] [4,5,6] [] ?_))
 obtain⟨v9,h6,h⟩:=bind_some h;obtain⟨v10,h7,h⟩:=bind_some h;obtain⟨v11,h8,h⟩:=bind_some h;refine cg 1 (nu 21 [.agg (bw v5),iI v9,.ptr 6 5,iI v8.H,.ptr 6 61,.agg (bK v8.Before),iI v10,iI (aa (v8.H+v10)),.ptr 6 63,.agg (bK v8.After),iI v11,iI (aa ((aa (v8.H+v10))+v11)),.agg (aG v8),.sl (lm az [v8]),.agg (aI ({ co with Width:=v9,Above:=(aa ((aa (v8.H+v10))+v11)),Box:=[v8] }:aq))]) [] [] [bV Try.prog 36 Try.f42 (pn 30) 15] (aO [.v 0 1] (ao (ci 0 1 22 (lS hK h6)) (aO (vz 4) (ao (ci 0 1 27 (ls hK h7)) (aO (vz 3) (ao (ci 0 1 31 (ls hK h8)) (aO (vz 2) (ct (fD az ([v8]:List af) (new:=[aG v8]) (by simp only[List.map_cons,List.map_nil,cK])) (aO [.v 0 1] (ao (bW 0) ce)))))))))) (aD 1 ?_);cases h;exact aY
end
noncomputable section
variable(M:Nat→Prop)(w0:ay)(r:List aq)(v1:List ag)(v2:Int)(v3:ca)  
variable{M w0 r v1 v2 v3}{K:Kn}{n:Nat}
theorem GI(hK:ak K)(h:nE K n v1 v2 v3=some r):aH Try.prog 22 [.sl (lm aF v1),iI v2,.agg (cr v3)] (fun v s=>v=.ref 1009∧look 1009 s.r=some ⟨41,62,lm aI r⟩):=by
 refine bc (cat Try.f22 (pn 1)) Try.func22 Try.ntmps22 fun M w0=>(aZ ⟨[(0,.sl (lm aF v1)),(1,iI v2),(2,.agg (cr v3))],[],[],[]⟩ ?_);unfold nE at h;refine av 6 7 3 (ah 1 (xk 4 4 ([iI v2]) (xk 5 5 (cr v3) (JS 42 #[(.tmp 4),(.tmp 5)] [.cptr ([iI v2]),.cptr (cr v3)] ?_))));obtain⟨v4,h1,h⟩:=bind_some h;refine fb 1009 (GX hK h1) (g8 117) (ab (aD 1 ?_));cases h;exact eG
end
noncomputable section
variable(M:Nat→Prop)(w0:ay)(r:Int)(v1:aB)(v2 v3:Int)  
variable{M w0 r v1 v2 v3}{K:Kn}{n:Nat}
theorem G5(hK:ak K)(h:gn K n v1 v2 v3=some r):aH Try.prog 11 [.agg (aA v1),iI v2,iI v3] (fun v _=>v=iI r):=by
 refine bc (cat Try.f11 (pn 1)) Try.func11 Try.ntmps11 fun M w0=>(aZ ⟨[(0,.agg (aA v1)),(1,iI v2),(2,iI v3)],[],[],[]⟩ ?_);unfold gn at h;refine av 13 7 5 ?_;obtain⟨h1,h⟩|⟨h1,h⟩:=ai h
 ·refine ae 9 h1 (aD 5 ?_);cases h;exact aY
 ·refine ae 9 h1 (Hv 21 0 3 8 ?_);obtain⟨h2,h⟩|⟨h2,h⟩:=ai h
  ·refine ae 12 h2 (aD 6 ?_);cases h;exact aY
  ·refine ae 12 h2 (aU 7 3 ?_);obtain⟨h3,h⟩|⟨h3,h⟩:=ai h
   ·refine ae 18 h3 (aD 6 ?_);cases h;exact aY
   ·refine ae 18 h3 (aD 6 ?_);cases h;exact aY
end
noncomputable section
variable(M:Nat→Prop)(w0:ay)(r:Bool)(v1 v2:ByteArray)(v3:Bool)  
abbrev Hq(n:Nat):am:=.c (cat Try.f63 (pn n))
abbrev FE:Cx:=⟨Try.prog,21,M,w0⟩
abbrev KY:=bodyPost Try.prog Try.f63 (bo M w0 (fun v _=>v=.bool r))
abbrev GB(ks:List am)(s:AS):=VE (FE M w0) (KY M w0 r) ks .normal s
def Ip:AS:=⟨[(4,.bool v3)],[],[],[]⟩
variable{M w0 r v1 v2 v3}{K:Kn}{n:Nat}
theorem BC(hK:ak K)(h:nj K n v3=some r):GB M w0 r [Hq 7] (Ip v3):=by
 unfold nj at h;refine aD 1 ?_;cases h;exact aY
theorem Jr(hK:ak K)(h:q8 K n v1 v2=some r):aH Try.prog 63 [.str v1,.str v2] (fun v _=>v=.bool r):=by
 refine bc (cat Try.f63 (pn 1)) Try.func63 Try.ntmps63 fun M w0=>(aZ ⟨[(0,.str v1),(1,.str v2)],[],[],[]⟩ ?_);unfold q8 at h;refine av 6 7 3 (ah 6 ?_);obtain⟨h1,h⟩|⟨h1,h⟩:=ai h
 ·refine au 10 h1 (aL 12 6 ?_);obtain⟨h2,h⟩:=aQ h;exact ax (rQ h2) (ab (ac 0 (BC hK h)))
 ·exact au 10 h1 (ab (ac 0 (BC hK h)))
end
noncomputable section
variable(M:Nat→Prop)(w0:ay)(r:Bool)(v1 v2:ByteArray)  
variable{M w0 r v1 v2}{K:Kn}{n:Nat}
theorem Gd(hK:ak K)(h:n4 K n v1 v2=some r):aH Try.prog 52 [.str v1,.str v2] (fun v _=>v=.bool r):=by
 refine bc (cat Try.f52 (pn 1)) Try.func52 Try.ntmps52 fun M w0=>(aZ ⟨[(0,.str v1),(1,.str v2)],[],[],[]⟩ ?_);unfold n4 at h;refine av 6 7 3 (ah 2 ?_);obtain⟨v3,h1,h⟩:=bind_some h;refine aE (Jr hK h1) (ab (aD 1 ?_));cases h;exact aY
end
noncomputable section
variable(M:Nat→Prop)(w0:ay)(r:af)(v1:List aq)(v2:aB)(v3 v8 v9 v10 v11 v12 v15 v78 v79:Int)(v80:List af)(v82:Bool)(v83:aq)(v87:List af)(v104:Int)(v105:List af)(m1 m2 m3:Nat)(L1:Int→Int→Int→Option af)(L2:Int→Int→(List af)→Option af)(L3:Int→(List af)→Option af)
abbrev j9:Cx:=⟨Try.prog,156,M,w0⟩
abbrev jL:=bodyPost Try.prog Try.f35 (bo M w0 (fun v s=>v=.agg (List.set (aG ({ r with Kids:=[] }:af)) 66 (.ref 114))∧look 114 s.r=some ⟨64,67,lm az r.Kids⟩))
abbrev jp(ks:List am)(s:AS):=VE (j9 M w0) (jL M w0 r) ks .normal s
abbrev cJ(n:Nat):am:=.c (cat Try.f35 (pn n))
abbrev wv:List am:=[.b 2,cJ 255]
abbrev lg:List am:=kl (j9 M w0) (jL M w0 r) wv (cat Try.f35 (pn 2036)) m2::wv
abbrev tI:List am:=[.b 0,cJ 15]
abbrev xl:List am:=kl (j9 M w0) (jL M w0 r) tI (cat Try.f35 (pn 116)) m1::tI
abbrev s8:List am:=.b 4::cJ 521423 :: .b 3::cJ 16295::lg M w0 r m2
abbrev vu:List am:=kl (j9 M w0) (jL M w0 r) (s8 M w0 r m2) (cat Try.f35 (pn 4171380)) m3::(s8 M w0 r m2)
def F2:AS:=⟨[(0,.sl (lm aI v1)),(2,iI v3),(4,.ptr 4 0),(6,.ptr 6 0),(7,iI v11),(8,iI v12),(24,.sl (lm aI v1)),(25,iI (v1.length:Int)),(26,iI v10)],[(4,aA v2),(6,List.set (aG bj) 66 (.nils))],[],[4,6]⟩
def yy:AS:=⟨[(6,.ptr 6 0),(7,iI v8),(11,.ptr 11 0),(12,iI v78),(13,iI v15),(15,.ptr 15 0),(56,.sl (lm aI v1)),(57,iI (v1.length:Int)),(58,iI v79),(117,.sl (lm az v83.Box)),(118,iI (v83.Box.length:Int)),(119,iI v104)],[(6,List.set (aG bj) 66 (.nils)),(11,List.set (aG ({ bj with Kind:=2,W:=v3,H:=(aa (v8+v9)),ay:=v8,Style:=v2 }:af)) 66 (.ref 114)),(15,aI v83)],[(114,⟨64,67,lm az v105⟩)],[6,11,15,114]⟩
def Fq:AS:=⟨[(6,.ptr 6 0),(7,iI v8),(11,.ptr 11 0),(12,iI v78),(13,iI v15),(15,.ptr 15 0),(56,.sl (lm aI v1)),(57,iI (v1.length:Int)),(58,iI v79)],[(6,List.set (aG bj) 66 (.nils)),(11,List.set (aG ({ bj with Kind:=2,W:=v3,H:=(aa (v8+v9)),ay:=v8,Style:=v2 }:af)) 66 (.ref 114)),(15,aI v83)],[(114,⟨64,67,lm az v87⟩)],[6,11,15,114]⟩
def Kf:AS:=⟨[(6,.ptr 6 0),(7,iI v8),(11,.ptr 11 0),(12,iI v78),(13,iI v15),(15,.ptr 15 0),(56,.sl (lm aI v1)),(57,iI (v1.length:Int)),(58,iI v79)],[(6,List.set (aG bj) 66 (.nils)),(11,List.set (aG ({ bj with Kind:=2,W:=v3,H:=(aa (v8+v9)),ay:=v8,Style:=v2 }:af)) 66 (.ref 114)),(15,aI v83)],[(114,⟨64,67,lm az v80⟩)],[6,11,15,114]⟩
def K0:AS:=⟨[(6,.ptr 6 0),(7,iI v8),(11,.ptr 11 0),(12,iI v78),(13,iI v15),(15,.ptr 15 0),(56,.sl (lm aI v1)),(57,iI (v1.length:Int)),(58,iI v79),(76,.bool v82)],[(6,List.set (aG bj) 66 (.nils)),(11,List.set (aG ({ bj with Kind:=2,W:=v3,H:=(aa (v8+v9)),ay:=v8,Style:=v2 }:af)) 66 (.ref 114)),(15,aI (gD v1 v79))],[(114,⟨64,67,lm az v80⟩)],[6,11,15,114]⟩
def CF:AS:=⟨[(6,.ptr 6 0),(7,iI v8),(11,.ptr 11 0),(12,iI v78),(13,iI v15),(56,.sl (lm aI v1)),(57,iI (v1.length:Int)),(58,iI v79)],[(6,List.set (aG bj) 66 (.nils)),(11,List.set (aG ({ bj with Kind:=2,W:=v3,H:=(aa (v8+v9)),ay:=v8,Style:=v2 }:af)) 66 (.ref 114))],[(114,⟨64,67,lm az v80⟩)],[6,11,114]⟩
def Cm:AS:=⟨[(0,.sl (lm aI v1)),(2,iI v3),(4,.ptr 4 0),(6,.ptr 6 0),(7,iI v8),(8,iI v9),(24,.sl (lm aI v1)),(25,iI (v1.length:Int)),(26,iI v10)],[(4,aA v2),(6,List.set (aG bj) 66 (.nils))],[],[4,6]⟩
abbrev uT:Prop:=∀{v8:Int} {v9:Int} {v10:Int},L1 v8 v9 v10=some r→LP (j9 M w0) (jL M w0 r) tI (cat Try.f35 (pn 116)) m1 (Cm v1 v2 v3 v8 v9 v10)
abbrev kg:Prop:=∀{v78:Int} {v79:Int} {v80:(List af)},L2 v78 v79 v80=some r→LP (j9 M w0) (jL M w0 r) wv (cat Try.f35 (pn 2036)) m2 (CF v1 v2 v3 v8 v9 v15 v78 v79 v80)
abbrev xt:Prop:=∀{v104:Int} {v105:(List af)},L3 v104 v105=some r→LP (j9 M w0) (jL M w0 r) (s8 M w0 r m2) (cat Try.f35 (pn 4171380)) m3 (yy v1 v2 v3 v8 v9 v15 v78 v79 v83 v104 v105)
variable{M w0 r v1 v2 v3 v8 v9 v10 v11 v12 v15 v78 v79 v80 v82 v83 v87 v104 v105 m1 m2 m3 L1 L2 L3}{K:Kn}{n:Nat}
theorem Dh(hK:ak K)(hL1:uT M w0 r v1 v2 v3 m1 L1)(h:o8 K n v1 v2 v3 v10 L1 v11 v12=some r):jp M w0 r (.b 1::cJ 935::xl M w0 r m1) (F2 v1 v2 v3 v10 v11 v12):=by
 unfold o8 at h;exact ac 2 (br (hL1 h))
theorem DS(hK:ak K)(hL2:kg M w0 r v1 v2 v3 v8 v9 v15 m2 L2)(hL3:xt M w0 r v1 v2 v3 v8 v9 v15 v78 v79 v83 m2 m3 L3)(h:l9 K n v1 v2 v3 v8 v9 v15 v78 v79 v83 L2 L3 v104 v105=some r):jp M w0 r (cJ 4171380::vu M w0 r m2 m3) (yy v1 v2 v3 v8 v9 v15 v78 v79 v83 v104 v105):=by
 unfold l9 at h;refine av 6 7 3 ?_;obtain⟨h123,h⟩|⟨h123,h⟩:=ai h
 ·refine ae 120 h123 (cN 8 9 5 3 5 (ah 0 ?_));obtain⟨h124,h⟩:=aQ h;refine ax (bH az aG h124 (eY) (cK)) (ab ?_);obtain⟨v106,h125,h⟩:=bZ h;obtain⟨v107,h126,h⟩:=bZ h;obtain⟨v108,h127,h⟩:=bZ h;obtain⟨v109,h128,h⟩:=bZ h;obtain⟨v110,h129,h⟩:=bZ h;obtain⟨v111,h130,h⟩:=bZ h;obtain⟨v112,h131,h⟩:=bZ h;obtain⟨v113,h132,h⟩:=bZ h;obtain⟨v114,h133,h⟩:=bZ h;obtain⟨v115,h134,h⟩:=bZ h;refine bC (ks':=cJ 533936742::cJ 533936743 :: .b 5::cJ 33371047::vu M w0 r m2 m3) 3 ⟨[(6,.ptr 6 0),(7,iI v8),(11,.ptr 11 0),(12,iI v78),(13,iI v15),(15,.ptr 15 0),(18,.ptr 18 0),(56,.sl (lm aI v1)),(57,iI (v1.length:Int)),(58,iI v79),(117,.sl (lm az v83.Box)),(118,iI (v83.Box.length:Int)),(119,iI v104)],[(6,List.set (aG bj) 66 (.nils)),(11,List.set (aG ({ bj with Kind:=2,W:=v3,H:=(aa (v8+v9)),ay:=v8,Style:=v2 }:af)) 66 (.ref 114)),(15,aI v83),(18,aG (⟨v106,v107,v108,(gD v83.Box v104).Y,(gD v83.Box v104).W,(gD v83.Box v104).H,v109,v110,v111,v112,v113,v114,v115⟩:af))],[(114,⟨64,67,lm az v105⟩)],[6,11,15,18,114]⟩ ?_ (by subst h134;subst h133;subst h132;subst h131;subst h130;subst h129;subst h128;subst h127;subst h126;subst h125;kernel_rfl)
  obtain⟨v116,h135,h⟩:=bind_some h;refine cg 1 (nu 128 [.ptr 18 3,iI ((gD v83.Box v104).Y),iI v8,.ptr 18 5,iI ((gD v83.Box v104).H),iI (aa (v8-((gD v83.Box v104).H))),.ptr 18 63,.agg (bK v113),iI v116,iI (aa ((aa (v8-((gD v83.Box v104).H)))-v116)),iI (aa (((gD v83.Box v104).Y)+(aa ((aa (v8-((gD v83.Box v104).H)))-v116)))),.ptr 18 3]) [] [] [bV Try.prog 156 Try.f35 (pn 533936742) 12] (aO (vz 8) (ao (ci 0 1 136 (ls hK h135)) (aO (vz 3) (ao (bW 0) ce)))) ?_;obtain⟨v117,h136,h⟩:=bZ h;refine bC (ks':=cJ 533936743 :: .b 5::cJ 33371047::vu M w0 r m2 m3) 0 ⟨[(6,.ptr 6 0),(7,iI v8),(11,.ptr 11 0),(12,iI v78),(13,iI v15),(15,.ptr 15 0),(18,.ptr 18 0),(56,.sl (lm aI v1)),(57,iI (v1.length:Int)),(58,iI v79),(117,.sl (lm az v83.Box)),(118,iI (v83.Box.length:Int)),(119,iI v104)],[(6,List.set (aG bj) 66 (.nils)),(11,List.set (aG ({ bj with Kind:=2,W:=v3,H:=(aa (v8+v9)),ay:=v8,Style:=v2 }:af)) 66 (.ref 114)),(15,aI v83),(18,aG (⟨v106,v107,v108,v117,(gD v83.Box v104).W,(gD v83.Box v104).H,v109,v110,v111,v112,v113,v114,v115⟩:af))],[(114,⟨64,67,lm az v105⟩)],[6,11,15,18,114]⟩ ?_ (by subst h136;kernel_rfl)
  refine ah 3 (ax (fD az ([(⟨v106,v107,v108,v117,(gD v83.Box v104).W,(gD v83.Box v104).H,v109,v110,v111,v112,v113,v114,v115⟩:af)]:List af) (new:=[aG (⟨v106,v107,v108,v117,(gD v83.Box v104).W,(gD v83.Box v104).H,v109,v110,v111,v112,v113,v114,v115⟩:af)]) (by simp only[List.map_cons,List.map_nil,cK])) ?_);obtain⟨h137,h⟩:=aQ h;exact ax (cD 144 114 64 67 az (rfl) (eY) h137) (ab (ac 2 (br (hL3 h))))
 ·exact ae 120 h123 (ac 8 (br (hL2 h)))
theorem Lf(hK:ak K)(hL2:kg M w0 r v1 v2 v3 v8 v9 v15 m2 L2)(m:Nat):xt M w0 r v1 v2 v3 v8 v9 v15 v78 v79 v83 m2 m (me K n v1 v2 v3 v8 v9 v15 v78 v79 v83 L2 m):=by
 induction m with
 | zero=>intro v104 v105 h;cases h
 | succ m ih=>intro v104 v105 h;have h:l9 K n v1 v2 v3 v8 v9 v15 v78 v79 v83 L2 (me K n v1 v2 v3 v8 v9 v15 v78 v79 v83 L2 m) v104 v105=some r:=h;exact bl (DS hK hL2 ih h)
theorem Cb(hK:ak K)(hL2:kg M w0 r v1 v2 v3 v8 v9 v15 m2 L2)(h:kV K n v1 v2 v3 v8 v9 v15 v78 v79 v83 L2 v87=some r):jp M w0 r (cJ 260711 :: .b 3::cJ 16295::lg M w0 r m2) (Fq v1 v2 v3 v8 v9 v15 v78 v79 v83 v87):=by
 unfold kV at h;exact bO 4 5 3 2 (ah 2 (ax (bF az v83.Box) (ab (ac 1 (cp (p:=pn 2085690) n (Lf hK hL2 n h))))))
theorem yI(hK:ak K)(hL2:kg M w0 r v1 v2 v3 v8 v9 v15 m2 L2)(h:iY K n v1 v2 v3 v8 v9 v15 v78 v79 v80 L2 v83=some r):jp M w0 r (cJ 130355 :: .b 3::cJ 16295::lg M w0 r m2) (Kf v1 v2 v3 v8 v9 v15 v78 v79 v80 v83):=by
 unfold iY at h;obtain⟨v84,h99,h⟩:=bZ h;refine bC (ks':=cJ 521421::cJ 260711 :: .b 3::cJ 16295::lg M w0 r m2) 3 ⟨[(6,.ptr 6 0),(7,iI v8),(11,.ptr 11 0),(12,iI v78),(13,iI v15),(15,.ptr 15 0),(56,.sl (lm aI v1)),(57,iI (v1.length:Int)),(58,iI v79),(88,.bool v84)],[(6,List.set (aG bj) 66 (.nils)),(11,List.set (aG ({ bj with Kind:=2,W:=v3,H:=(aa (v8+v9)),ay:=v8,Style:=v2 }:af)) 66 (.ref 114)),(15,aI v83)],[(114,⟨64,67,lm az v80⟩)],[6,11,15,114]⟩ ?_ (by subst h99;kernel_rfl);obtain⟨h100,h⟩|⟨h100,h⟩:=ai h
 ·refine ae 88 h100 (aU 5 3 (bS [6,7,11,12,13,15,16,56,57,58] [6,11,15] [114] ?_));obtain⟨v85,h101,h⟩:=bind_some h;obtain⟨v86,h102,h⟩:=bind_some h;obtain⟨h103,h⟩:=aQ h;exact cg 2 (nu 92 [.ptr 11 66,.ref 114,.ptr 15 0,iI v83.Node,.ptr 15 2,.agg (aA v83.Style),.ptr 15 1,.str v83.Text,iI v78,iI v8,iI v83.Style.FontSize,iI v85,iI (aa (v8-v85)),.ptr 15 55,iI v83.Width,.ptr 15 56,iI v83.Space,iI (aa (v83.Width+v83.Space)),iI v83.Style.FontSize,iI v86,.agg (List.set (aG (⟨3,v83.Node,v78,(aa (v8-v85)),(aa (v83.Width+v83.Space)),v86,0,v83.Text,v83.Style,cy,cy,false,[]⟩:af)) 66 (.nils)),.sl (lm az [(⟨3,v83.Node,v78,(aa (v8-v85)),(aa (v83.Width+v83.Space)),v86,0,v83.Text,v83.Style,cy,cy,false,[]⟩:af)])]++nu 115 [.ptr 11 66]) [] [] [jy 114 114 ⟨64,67,lm az (v80++[(⟨3,v83.Node,v78,(aa (v8-v85)),(aa (v83.Width+v83.Space)),v86,0,v83.Text,v83.Style,cy,cy,false,[]⟩:af)])⟩,bV Try.prog 156 Try.f35 (pn 2085685) 24] (aO [.v 0 2,.v 0 1,.v 0 2,.v 0 2,.v 0 2,.v 0 2,.v 0 2,.v 0 2,.v 0 2,.v 0 2,.v 0 2] (ao (ci 0 2 103 (Ch hK h101)) (aO [.v 0 2,.v 0 2,.v 0 2,.v 0 2,.v 0 2,.v 0 2,.v 0 2] (ao (ci 0 1 111 (De hK h102)) (aO [.v 0 2] (ct (fD az ([(⟨3,v83.Node,v78,(aa (v8-v85)),(aa (v83.Width+v83.Space)),v86,0,v83.Text,v83.Style,cy,cy,false,[]⟩:af)]:List af) (new:=[aG (⟨3,v83.Node,v78,(aa (v8-v85)),(aa (v83.Width+v83.Space)),v86,0,v83.Text,v83.Style,cy,cy,false,[]⟩:af)]) (by simp only[List.map_cons,List.map_nil,cK])) (ao (gk (m:=0) (cD 114 114 64 67 az (rfl) (eY) h103)) (aO [.v 1 1] (ao (bW 1) ce))))))))) (ac 0 (Cb hK hL2 h))
 ·exact ae 88 h100 (ac 2 (Cb hK hL2 h))
theorem s5(hK:ak K)(hL2:kg M w0 r v1 v2 v3 v8 v9 v15 m2 L2)(h:il K n v1 v2 v3 v8 v9 v15 v78 v79 v80 L2 v82=some r):jp M w0 r (cJ 260709::cJ 130355 :: .b 3::cJ 16295::lg M w0 r m2) (K0 v1 v2 v3 v8 v9 v15 v78 v79 v80 v82):=by
 unfold il at h;obtain⟨h97,h⟩|⟨h97,h⟩:=ai h
 ·refine ae 76 h97 (av 4 5 2 (ah 6 ?_));obtain⟨h98,h⟩:=aQ h;exact ax (rQ h98) (ab (ac 1 (yI hK hL2 h)))
 ·exact ae 76 h97 (ac 2 (yI hK hL2 h))
theorem Ea(hK:ak K)(hL2:kg M w0 r v1 v2 v3 v8 v9 v15 m2 L2)(h:mg K n v1 v2 v3 v8 v9 v15 L2 v78 v79 v80=some r):jp M w0 r (cJ 2036::lg M w0 r m2) (CF v1 v2 v3 v8 v9 v15 v78 v79 v80):=by
 unfold mg at h;refine av 6 7 3 ?_;obtain⟨h92,h⟩|⟨h92,h⟩:=ai h
 ·refine ae 59 h92 (cN 8 9 3 3 5 (ah 1 ?_));obtain⟨h93,h⟩:=aQ h;refine ax (bH aI aI h93 (fP) ((fun _=>rfl))) (ab (bO 4 5 3 2 (ah 4 ?_)));obtain⟨h94,h⟩|⟨h94,h⟩:=ai h
  ·refine au 66 h94 (aL 6 2 ?_);obtain⟨v81,h95,h⟩:=bind_some h;refine aE (Gd hK h95) (aL 9 2 ?_);obtain⟨h96,h⟩|⟨h96,h⟩:=ai h
   ·exact au 71 h96 (ab (ac 0 (s5 hK hL2 h)))
   ·exact au 71 h96 (ab (ac 0 (s5 hK hL2 h)))
  ·exact au 66 h94 (ab (ac 0 (s5 hK hL2 h)))
 ·refine ae 59 h92 (aD 8 ?_);cases h;exact eG
theorem JQ(hK:ak K)(m:Nat):kg M w0 r v1 v2 v3 v8 v9 v15 m (gX K n v1 v2 v3 v8 v9 v15 m):=by
 induction m with
 | zero=>intro v78 v79 v80 h;cases h
 | succ m ih=>intro v78 v79 v80 h;have h:mg K n v1 v2 v3 v8 v9 v15 (gX K n v1 v2 v3 v8 v9 v15 m) v78 v79 v80=some r:=h;exact bl (Ea hK ih h)
theorem I8(hK:ak K)(hL1:uT M w0 r v1 v2 v3 m1 L1)(h:ld K n v1 v2 v3 L1 v8 v9 v10=some r):jp M w0 r (cJ 116::xl M w0 r m1) (Cm v1 v2 v3 v8 v9 v10):=by
 unfold ld at h;refine av 6 7 3 ?_;obtain⟨h6,h⟩|⟨h6,h⟩:=ai h
 ·refine ae 27 h6 (cN 8 9 1 3 5 (ah 0 ?_));obtain⟨h7,h⟩:=aQ h;refine ax (bH aI aI h7 (fP) ((fun _=>rfl))) (ab (aU 3 2 ?_));obtain⟨h8,h⟩|⟨h8,h⟩:=ai h
  ·exact ae 32 h8 (aU 2 1 (bS [0,2,4,6,7,8,10,24,25,26] [4,6,10] [] (cg 2 (nu 33 [iI v8,.ptr 10 57,iI ((gD v1 v10).Above),iI (max v8 ((gD v1 v10).Above)),iI v9,.ptr 10 58,iI ((gD v1 v10).Below),iI (max v9 ((gD v1 v10).Below))]) [] [] [bV Try.prog 156 Try.f35 (pn 14950) 8,bV Try.prog 156 Try.f35 (pn 14950) 9] (aO [.v 0 1,.v 0 1,.v 0 1,.v 0 1,.v 0 2,.v 0 2,.v 0 2,.v 0 2] (ao (bW 0) (ao (bW 1) ce))) (ac 0 (Dh hK hL1 h)))))
  ·exact ae 32 h8 (ac 2 (Dh hK hL1 h))
 ·refine ae 27 h6 (jH 6 7 8 (bS [0,2,4,6,7,11] [4,6,11] [] ?_));obtain⟨v13,h9,h⟩:=bind_some h;obtain⟨v14,h10,h⟩:=bind_some h;refine cg 1 (nu 49 [.agg (aA v2),iI v3,.sl (lm aI v1),iI v13,iI v14]) [] [] [bV Try.prog 156 Try.f35 (pn 62) 5] (aO (vz 3) (ao (ci 0 1 52 (zI hK h9)) (ao (ci 0 1 53 (G5 hK h10)) (ao (bW 0) ce)))) (av 2 3 1 (ah 1 ?_));obtain⟨v15,h11,h⟩:=bind_some h;exact aE (yZ hK h11) (ab (bO 4 5 3 2 (ah 1 (ax (bF aI v1) (ab (gz 2 2 1 (bS [6,7,11,12,13,56,57,58] [6,11] [] (y5 114 11 66 64 67 (ac 0 (cp (p:=pn 1018) n (JQ hK n h)))))))))))
theorem Gx(hK:ak K)(m:Nat):uT M w0 r v1 v2 v3 m (mQ K n v1 v2 v3 m):=by
 induction m with
 | zero=>intro v8 v9 v10 h;cases h
 | succ m ih=>intro v8 v9 v10 h;have h:ld K n v1 v2 v3 (mQ K n v1 v2 v3 m) v8 v9 v10=some r:=h;exact bl (I8 hK ih h)
theorem Ic(hK:ak K)(h:nT K n v1 v2 v3=some r):aH Try.prog 35 [.sl (lm aI v1),.agg (aA v2),iI v3] (fun v s=>v=.agg (List.set (aG ({ r with Kids:=[] }:af)) 66 (.ref 114))∧look 114 s.r=some ⟨64,67,lm az r.Kids⟩):=by
 refine bc (cat Try.f35 (pn 1)) Try.func35 Try.ntmps35 fun M w0=>(aZ ⟨[(0,.sl (lm aI v1)),(1,.agg (aA v2)),(2,iI v3)],[],[],[]⟩ ?_);unfold nT at h;refine av 6 7 3 (ah 1 ?_);obtain⟨v4,h1,h⟩:=bind_some h;exact aE (qS hK h1) (ab (bO 4 5 3 2 (ah 1 (ax (bF aI v1) (ab (ac 1 (cp (p:=pn 58) n (Gx hK n h))))))))
end
noncomputable section
variable(M:Nat→Prop)(w0:ay)(r:(List af)×Int)(v1:List ag)(v2:aB)(v3:Int)(v4:ca)(v5:List aq)(v6:List Int)(v13 v14 v15:Int)(v16:List af)(m1:Nat)(L1:Int→Int→Int→(List af)→Option ((List af)×Int))
abbrev s6:Cx:=⟨Try.prog,61,M,w0⟩
abbrev uY:=bodyPost Try.prog Try.f16 (bo M w0 (fun v s=>v=.tup [.ref 57,iI r.2]∧look 57 s.r=some ⟨64,67,lm az r.1⟩))
abbrev Lr(ks:List am)(s:AS):=VE (s6 M w0) (uY M w0 r) ks .normal s
abbrev Au(n:Nat):am:=.c (cat Try.f16 (pn n))
abbrev tN:List am:=[.b 0,Au 63]
abbrev Ev:List am:=kl (s6 M w0) (uY M w0 r) tN (cat Try.f16 (pn 500)) m1::tN
def y0:AS:=⟨[(2,iI (min (max v3 0) 1048576)),(5,.ptr 5 0),(8,.ref 57),(9,iI v13),(10,.sl (lm aI v5)),(11,.ref 1023),(30,iI v14),(31,iI v15)],[(5,aA v2)],[(57,⟨64,67,lm az v16⟩),(1023,⟨3,1,lm (bz .i64) (v6++[(v5.length:Int)])⟩)],[5,57,1023]⟩
abbrev BD:Prop:=∀{v13:Int} {v14:Int} {v15:Int} {v16:(List af)},L1 v13 v14 v15 v16=some r→LP (s6 M w0) (uY M w0 r) tN (cat Try.f16 (pn 500)) m1 (y0 v2 v3 v5 v6 v13 v14 v15 v16)
variable{M w0 r v1 v2 v3 v4 v5 v6 v13 v14 v15 v16 m1 L1}{K:Kn}{n:Nat}
theorem JD(hK:ak K)(hL1:BD M w0 r v2 v3 v5 v6 m1 L1)(h:lu K n v2 v3 v5 v6 L1 v13 v14 v15 v16=some r):Lr M w0 r (Au 500::Ev M w0 r m1) (y0 v2 v3 v5 v6 v13 v14 v15 v16):=by
 unfold lu at h;refine av 6 7 3 ?_;obtain⟨h20,h⟩|⟨h20,h⟩:=ai h
 ·refine ae 32 h20 (cN 18 19 1 3 7 (bS [2,5,8,9,10,11,12,30,31] [5] [57,1023] ?_));obtain⟨h21,h⟩:=aQ h;obtain⟨h22,h⟩:=aQ h;obtain⟨h23,h⟩:=aQ h;obtain⟨v17,h24,h⟩:=bind_some h;refine cg 1 (nu 34 [.sl (lm aI v5),.ref 1023,iI v15,.eptr 1023 1 (v15.toNat) 0,iI (gD (v6++[(v5.length:Int)]) v15),.ref 1023,iI v15,iI (aa (v15+1)),.eptr 1023 1 (((aa (v15+1))).toNat) 0,iI (gD (v6++[(v5.length:Int)]) ((aa (v15+1)))),.sl (lm aI (List.drop ((gD (v6++[(v5.length:Int)]) v15)).toNat (List.take ((gD (v6++[(v5.length:Int)]) ((aa (v15+1))))).toNat v5))),.agg (aA v2),iI (min (max v3 0) 1048576),.agg (List.set (aG ({ v17 with Kids:=[] }:af)) 66 (.ref 47))]++nu 13 [.ptr 13 0]) [(13,List.set (aG bj) 66 (.nils))] [(47,⟨64,67,lm az v17.Kids⟩)] [bV Try.prog 61 Try.f16 (pn 32050) 15] (aO (vz 3) (ct (fU 1023 1 (bz .i64) (L:=(v6++[(v5.length:Int)])) h21) (ct (cR 3 0 (bz .i64) (bz .i64) (dM h21).2 ((fun _=>rfl))) (aO (vz 3) (ct (fU 1023 1 (bz .i64) (L:=(v6++[(v5.length:Int)])) h22) (ct (cR 3 0 (bz .i64) (bz .i64) (dM h22).2 ((fun _=>rfl))) (ct (vm aI v5 (gD (v6++[(v5.length:Int)]) v15) (gD (v6++[(v5.length:Int)]) ((aa (v15+1)))) 37 (.tmp 34) (some (.tmp 38)) (some (.tmp 43)) 44 (e:=41) (sz:=62) (by kernel_rfl) (by kernel_rfl) (by kernel_rfl) (by kernel_rfl) (by kernel_rfl) (by kernel_rfl) (fP) (fun k hk=>by subst hk;kernel_rfl) h23) (aO (vz 2) (ao (wH 0 1 47 (Ic hK h24) (rI (i:=66) (by kernel_rfl))) (ao (vU 0 1 64 13 (List.set (aG bj) 66 (.nils))) (ao (bW 0) ce))))))))))) (aU 7 4 (ah 2 (pg 47 (ax (fD az ([({ v17 with Y:=v13 }:af)]:List af) (new:=[aG ({ v17 with Y:=v13 }:af)]) (by simp only[List.map_cons,List.map_nil,cK])) ?_))))
  obtain⟨h25,h⟩:=aQ h;exact ax (cD 57 57 64 67 az (rfl) (eY) h25) (ab (ac 2 (br (hL1 h))))
 ·refine ae 32 h20 (aD 8 ?_);cases h;exact qy
theorem Gb(hK:ak K)(m:Nat):BD M w0 r v2 v3 v5 v6 m (ml K n v2 v3 v5 v6 m):=by
 induction m with
 | zero=>intro v13 v14 v15 v16 h;cases h
 | succ m ih=>intro v13 v14 v15 v16 h;have h:lu K n v2 v3 v5 v6 (ml K n v2 v3 v5 v6 m) v13 v14 v15 v16=some r:=h;exact bl (JD hK ih h)
theorem zn(hK:ak K)(h:ix K n v1 v2 v3 v4=some r):aH Try.prog 16 [.sl (lm aF v1),.agg (aA v2),iI v3,.agg (cr v4)] (fun v s=>v=.tup [.ref 57,iI r.2]∧look 57 s.r=some ⟨64,67,lm az r.1⟩):=by
 refine bc (cat Try.f16 (pn 1)) Try.func16 Try.ntmps16 fun M w0=>(aZ ⟨[(0,.sl (lm aF v1)),(1,.agg (aA v2)),(2,iI v3),(3,.agg (cr v4))],[],[],[]⟩ ?_);unfold ix at h;refine av 14 15 5 (ah 3 ?_);obtain⟨v5,h1,h⟩:=bind_some h;refine fb 1020 (GI hK h1) (g8 1009) (ab (av 2 3 1 (ah 2 (pg 1020 ?_))));obtain⟨v6,h2,h⟩:=bind_some h;refine fb 1023 (H6 hK h2) (g8 16) (aL 4 1 (ax (bF aI v5) (aL 6 1 ?_)));obtain⟨h3,h⟩:=aQ h;exact ax (cD 27 1023 3 1 (bz .i64) (rfl) ((fun _=>rfl)) h3) (ab (bO 4 5 3 2 (ah 1 (ax (bF (bz .i64) (v6++[(v5.length:Int)])) (ab (gz 2 0 1 (bS [2,5,8,9,10,11,30,31] [5] [1023] (fZ 57 8 64 67 (ac 0 (cp (p:=pn 250) n (Gb hK n h)))))))))))
end
noncomputable section
variable(M:Nat→Prop)(w0:ay)(r:ca)   
variable{M w0 r }{K:Kn}{n:Nat}
theorem rW(hK:ak K)(h:iy K n=some r):aH Try.prog 18 [] (fun v _=>v=.agg (cr r)):=by
 refine bc (cat Try.f18 (pn 1)) Try.func18 Try.ntmps18 fun M w0=>(aZ ⟨[],[],[],[]⟩ ?_);unfold iy at h;refine aD 5 ?_;cases h;exact aY
end
noncomputable section
variable(M:Nat→Prop)(w0:ay)(r v4:Bool)  
abbrev HN(n:Nat):am:=.c (cat Try.f7 (pn n))
abbrev JI:Cx:=⟨Try.prog,64,M,w0⟩
abbrev q7:=bodyPost Try.prog Try.f7 (bo M w0 (fun v _=>v=.bool r))
abbrev J6(ks:List am)(s:AS):=VE (JI M w0) (q7 M w0 r) ks .normal s
def KE:AS:=⟨[(0,.bool v4)],[],[],[]⟩
variable{M w0 r v4}{K:Kn}{n:Nat}
theorem jw(hK:ak K)(h:gZ K n v4=some r):J6 M w0 r [HN 63] (KE v4):=by
 unfold gZ at h;refine aD 1 ?_;cases h;exact aY
theorem LV(hK:ak K)(h:m5 K n=some r):aH Try.prog 7 [] (fun v _=>v=.bool r):=by
 refine bc (cat Try.f7 (pn 1)) Try.func7 Try.ntmps7 fun M w0=>(aZ ⟨[],[],[],[]⟩ ?_);unfold m5 at h;refine av 14 15 5 (ah 1 ?_);obtain⟨v1,h1,h⟩:=bind_some h;refine aE (qS hK h1) (ab (av 2 3 1 (bS [1,2,3] [1] [] ?_)));obtain⟨v2,h2,h⟩:=bind_some h;obtain⟨v3,h3,h⟩:=bind_some h;refine cg 2 (nu 13 [.agg (aA ({ bR with FontSize:=16,LineHeight:=30 }:aB)),.agg (List.set (aS ({ ek with Kind:=3,Style:=({ bR with FontSize:=16,LineHeight:=30 }:aB),Text:=⟨#[97,98,32,32,99,100]⟩ }:ag)) 58 (.nils)),.sl (lm aF [({ ek with Kind:=3,Style:=({ bR with FontSize:=16,LineHeight:=30 }:aB),Text:=⟨#[97,98,32,32,99,100]⟩ }:ag)]),.agg (aA ({ bR with FontSize:=16,LineHeight:=30 }:aB)),.agg (cr v2),.tup [.ref 18,iI v3.2]]++nu 12 [.tup [.ref 18,iI v3.2]]++nu 19 [.ref 18,iI v3.2]) [] [(18,⟨64,67,lm az v3.1⟩)] [bV Try.prog 64 Try.f7 (pn 30) 9,bV Try.prog 64 Try.f7 (pn 30) 10] (aO (vz 2) (ct (fD aF ([({ ek with Kind:=3,Style:=({ bR with FontSize:=16,LineHeight:=30 }:aB),Text:=⟨#[97,98,32,32,99,100]⟩ }:ag)]:List ag) (new:=[aS ({ ek with Kind:=3,Style:=({ bR with FontSize:=16,LineHeight:=30 }:aB),Text:=⟨#[97,98,32,32,99,100]⟩ }:ag)]) (by simp only[List.map_cons,List.map_nil,dS])) (aO [.v 0 1] (ao (ci 0 1 17 (rW hK h2)) (ao (wH 0 1 18 (zn hK h3) (sA (i:=0) rfl)) (aO [.v 0 1,.v 0 1,.v 0 2] (ao (bW 0) (ao (bW 1) ce)))))))) (av 2 3 1 (ah 3 ?_))
 obtain⟨h4,h⟩|⟨h4,h⟩:=ai h
 ·refine au 23 h4 (aL 7 4 ?_);obtain⟨h5,h⟩|⟨h5,h⟩:=ai h
  ·refine au 27 h5 (aL 8 1 (ax (bF az v3.1) (aL 12 3 ?_)));obtain⟨h6,h⟩|⟨h6,h⟩:=ai h
   ·refine au 32 h6 (aL 16 4 ?_);obtain⟨h7,h⟩|⟨h7,h⟩:=ai h
    ·refine au 36 h7 (aL 17 1 ?_);obtain⟨h8,h⟩:=aQ h;refine ax (dE 18 67 az h8) (aL 19 1 (ax (cR 39 66 az aG (dM h8).2 (cK)) (ax (bF az ((gD v3.1 (0:Int)).Kids)) (aL 24 3 ?_))));obtain⟨h9,h⟩|⟨h9,h⟩:=ai h
     ·refine au 44 h9 (aL 25 1 ?_);obtain⟨h10,h⟩:=aQ h;refine ax (dE 18 67 az h10) (aL 27 1 (ax (cR 39 66 az aG (dM h10).2 (cK)) ?_));obtain⟨h11,h⟩:=aQ h;refine ax (bH az aG h11 (eY) (cK)) (aL 34 5 ?_);obtain⟨h12,h⟩|⟨h12,h⟩:=ai h
      ·refine au 54 h12 (aL 35 1 ?_);obtain⟨h13,h⟩:=aQ h;refine ax (dE 18 67 az h13) (aL 37 1 (ax (cR 39 66 az aG (dM h13).2 (cK)) ?_));obtain⟨h14,h⟩:=aQ h;exact ax (bH az aG h14 (eY) (cK)) (ab (ac 0 (jw hK h)))
      ·exact au 54 h12 (ab (ac 0 (jw hK h)))
     ·exact au 44 h9 (ab (ac 0 (jw hK h)))
    ·exact au 36 h7 (ab (ac 0 (jw hK h)))
   ·exact au 32 h6 (ab (ac 0 (jw hK h)))
  ·exact au 27 h5 (ab (ac 0 (jw hK h)))
 ·exact au 23 h4 (ab (ac 0 (jw hK h)))
end
noncomputable section
variable(M:Nat→Prop)(w0:ay)(r:Bool)(v1:cV)(v2:Bool)  
abbrev Jw(n:Nat):am:=.c (cat Try.f49 (pn n))
abbrev Jf:Cx:=⟨Try.prog,11,M,w0⟩
abbrev Lq:=bodyPost Try.prog Try.f49 (bo M w0 (fun v _=>v=.bool r))
abbrev He(ks:List am)(s:AS):=VE (Jf M w0) (Lq M w0 r) ks .normal s
def G6:AS:=⟨[(2,.bool v2)],[],[],[]⟩
variable{M w0 r v1 v2}{K:Kn}{n:Nat}
theorem A6(hK:ak K)(h:na K n v2=some r):He M w0 r [Jw 7] (G6 v2):=by
 unfold na at h;refine aD 1 ?_;cases h;exact aY
theorem ed(hK:ak K)(h:dn K n v1=some r):aH Try.prog 49 [.agg (lT v1)] (fun v _=>v=.bool r):=by
 refine bc (cat Try.f49 (pn 1)) Try.func49 Try.ntmps49 fun M w0=>(aZ ⟨[(0,.agg (lT v1))],[],[],[]⟩ ?_);unfold dn at h;refine av 6 7 3 (ah 4 ?_);obtain⟨h1,h⟩|⟨h1,h⟩:=ai h
 ·exact au 6 h1 (ab (ac 0 (A6 hK h)))
 ·exact au 6 h1 (ab (ac 0 (A6 hK h)))
end
noncomputable section
variable(M:Nat→Prop)(w0:ay)(r:Bool)(v1:List bB)(v2 v23:Int)(v31 v34 v37 v40 v43:Bool)(m1:Nat)(L1:Int→Option Bool)
abbrev rf:Cx:=⟨Try.prog,130,M,w0⟩
abbrev qc:=bodyPost Try.prog Try.f24 (bo M w0 (fun v _=>v=.bool r))
abbrev lG(ks:List am)(s:AS):=VE (rf M w0) (qc M w0 r) ks .normal s
abbrev dj(n:Nat):am:=.c (cat Try.f24 (pn n))
abbrev vb:List am:=[.b 0,dj 7]
abbrev oD:List am:=kl (rf M w0) (qc M w0 r) vb (cat Try.f24 (pn 52)) m1::vb
def Jz:AS:=⟨[(0,.sl (lm bu v1)),(1,iI v2),(5,iI v23),(6,.ptr 6 0),(7,iI 3),(125,.bool v43)],[(6,aA ((gD v1 v23).Style))],[],[6]⟩
def I9:AS:=⟨[(0,.sl (lm bu v1)),(1,iI v2),(5,iI v23),(6,.ptr 6 0),(7,iI 2),(125,.bool v40)],[(6,aA ((gD v1 v23).Style))],[],[6]⟩
def Jj:AS:=⟨[(0,.sl (lm bu v1)),(1,iI v2),(5,iI v23),(6,.ptr 6 0),(7,iI 1),(125,.bool v37)],[(6,aA ((gD v1 v23).Style))],[],[6]⟩
def JN:AS:=⟨[(0,.sl (lm bu v1)),(1,iI v2),(5,iI v23),(6,.ptr 6 0),(7,iI 0),(125,.bool v34)],[(6,aA ((gD v1 v23).Style))],[],[6]⟩
def ET:AS:=⟨[(0,.sl (lm bu v1)),(1,iI v2),(5,iI v23),(6,.ptr 6 0),(107,.bool v31)],[(6,aA ((gD v1 v23).Style))],[],[6]⟩
def y9:AS:=⟨[(0,.sl (lm bu v1)),(1,iI v2),(5,iI v23)],[],[],[]⟩
abbrev jG:Prop:=∀{v23:Int},L1 v23=some r→LP (rf M w0) (qc M w0 r) vb (cat Try.f24 (pn 52)) m1 (y9 v1 v2 v23)
abbrev gl(m:Nat):List am:=kl (rf M w0) (qc M w0 r) (.b 2 :: .b 1::dj 211::oD M w0 r m1) (cat Try.f24 (pn 13468)) m::(.b 2 :: .b 1::dj 211::oD M w0 r m1)
variable{M w0 r v1 v2 v23 v31 v34 v37 v40 v43 m1 L1}{K:Kn}{n:Nat}
theorem A1(hK:ak K)(hL1:jG M w0 r v1 v2 m1 L1)(h:kL K n v1 v2 v23 L1 v43=some r):lG M w0 r (dj 215497 :: .b 3::dj 53875::gl M w0 r m1 36) (Jz v1 v2 v23 v43):=by
 unfold kL at h;obtain⟨h84,h⟩|⟨h84,h⟩:=ai h
 ·refine ae 125 h84 (aD 13 ?_);cases h;exact aY
 ·exact ae 125 h84 (bC (ks':=gl M w0 r m1 36) 4 ⟨[(0,.sl (lm bu v1)),(1,iI v2),(5,iI v23),(6,.ptr 6 0),(7,iI 4)],[(6,aA ((gD v1 v23).Style))],[],[6]⟩ (br (bl (ac 10 (br (hL1 h))))))
theorem A5(hK:ak K)(hL1:jG M w0 r v1 v2 m1 L1)(h:pR K n v1 v2 v23 L1 v40=some r):lG M w0 r (dj 215497 :: .b 3::dj 53875::gl M w0 r m1 37) (I9 v1 v2 v23 v40):=by
 unfold pR at h;obtain⟨h80,h⟩|⟨h80,h⟩:=ai h
 ·refine ae 125 h80 (aD 13 ?_);cases h;exact aY
 ·refine ae 125 h80 (bC (ks':=gl M w0 r m1 37) 4 ⟨[(0,.sl (lm bu v1)),(1,iI v2),(5,iI v23),(6,.ptr 6 0),(7,iI 3)],[(6,aA ((gD v1 v23).Style))],[],[6]⟩ (br (bl (c7 24 25 3 7 8 (ah 4 ?_)))));obtain⟨v41,h81,h⟩:=bind_some h;refine aE (ed hK h81) (aL 7 2 ?_);obtain⟨h82,h⟩|⟨h82,h⟩:=ai h
  ·exact au 118 h82 (ab (ac 0 (A1 hK hL1 h)))
  ·refine au 118 h82 (aL 11 4 ?_);obtain⟨v42,h83,h⟩:=bind_some h;exact aE (ed hK h83) (ab (ac 0 (A1 hK hL1 h)))
theorem Ac(hK:ak K)(hL1:jG M w0 r v1 v2 m1 L1)(h:po K n v1 v2 v23 L1 v37=some r):lG M w0 r (dj 215497 :: .b 3::dj 53875::gl M w0 r m1 38) (Jj v1 v2 v23 v37):=by
 unfold po at h;obtain⟨h76,h⟩|⟨h76,h⟩:=ai h
 ·refine ae 125 h76 (aD 13 ?_);cases h;exact aY
 ·refine ae 125 h76 (bC (ks':=gl M w0 r m1 38) 4 ⟨[(0,.sl (lm bu v1)),(1,iI v2),(5,iI v23),(6,.ptr 6 0),(7,iI 2)],[(6,aA ((gD v1 v23).Style))],[],[6]⟩ (br (bl (c7 24 25 3 7 8 (ah 4 ?_)))));obtain⟨v38,h77,h⟩:=bind_some h;refine aE (ed hK h77) (aL 7 2 ?_);obtain⟨h78,h⟩|⟨h78,h⟩:=ai h
  ·exact au 118 h78 (ab (ac 0 (A5 hK hL1 h)))
  ·refine au 118 h78 (aL 11 4 ?_);obtain⟨v39,h79,h⟩:=bind_some h;exact aE (ed hK h79) (ab (ac 0 (A5 hK hL1 h)))
theorem AL(hK:ak K)(hL1:jG M w0 r v1 v2 m1 L1)(h:oL K n v1 v2 v23 L1 v34=some r):lG M w0 r (dj 215497 :: .b 3::dj 53875::gl M w0 r m1 39) (JN v1 v2 v23 v34):=by
 unfold oL at h;obtain⟨h72,h⟩|⟨h72,h⟩:=ai h
 ·refine ae 125 h72 (aD 13 ?_);cases h;exact aY
 ·refine ae 125 h72 (bC (ks':=gl M w0 r m1 39) 4 ⟨[(0,.sl (lm bu v1)),(1,iI v2),(5,iI v23),(6,.ptr 6 0),(7,iI 1)],[(6,aA ((gD v1 v23).Style))],[],[6]⟩ (br (bl (c7 24 25 3 7 8 (ah 4 ?_)))));obtain⟨v35,h73,h⟩:=bind_some h;refine aE (ed hK h73) (aL 7 2 ?_);obtain⟨h74,h⟩|⟨h74,h⟩:=ai h
  ·exact au 118 h74 (ab (ac 0 (Ac hK hL1 h)))
  ·refine au 118 h74 (aL 11 4 ?_);obtain⟨v36,h75,h⟩:=bind_some h;exact aE (ed hK h75) (ab (ac 0 (Ac hK hL1 h)))
theorem dY(hK:ak K)(hL1:jG M w0 r v1 v2 m1 L1)(h:cW K n v1 v2 v23 L1 v31=some r):lG M w0 r (dj 3365::dj 1683 :: .b 1::dj 211::oD M w0 r m1) (ET v1 v2 v23 v31):=by
 unfold cW at h;obtain⟨h68,h⟩|⟨h68,h⟩:=ai h
 ·refine ae 107 h68 (aD 10 ?_);cases h;exact aY
 ·refine ae 107 h68 (bC (ks':=dj 6734 :: .b 2 :: .b 1::dj 211::oD M w0 r m1) 5 ⟨[(0,.sl (lm bu v1)),(1,iI v2),(5,iI v23),(6,.ptr 6 0),(7,iI 0)],[(6,aA ((gD v1 v23).Style))],[],[6]⟩ (oK 40 (c:=cat Try.f24 [1,0,1,0,0,1,0,0,1,1,1,0,0]) (by kernel_rfl) (bl (b9 (ks':=dj 215496::dj 215497 :: .b 3::dj 53875::gl M w0 r m1 39) 8 (ah 4 ?_)))));obtain⟨v32,h69,h⟩:=bind_some h;refine aE (ed hK h69) (aL 7 2 ?_);obtain⟨h70,h⟩|⟨h70,h⟩:=ai h
  ·exact au 118 h70 (ab (ac 0 (AL hK hL1 h)))
  ·refine au 118 h70 (aL 11 4 ?_);obtain⟨v33,h71,h⟩:=bind_some h;exact aE (ed hK h71) (ab (ac 0 (AL hK hL1 h)))
theorem D3(hK:ak K)(hL1:jG M w0 r v1 v2 m1 L1)(h:gM K n v1 v2 L1 v23=some r):lG M w0 r (dj 52::oD M w0 r m1) (y9 v1 v2 v23):=by
 unfold gM at h;refine bO 4 5 3 2 (ah 2 (ax (bF bu v1) (ab ?_)));obtain⟨h43,h⟩|⟨h43,h⟩:=ai h
 ·refine ae 11 h43 (cN 8 9 1 3 5 (ah 2 ?_));obtain⟨h44,h⟩:=aQ h;refine ax (bH bu bu h44 (kE) ((fun _=>rfl))) (ab (bO 4 5 3 2 (ah 2 ?_)));obtain⟨h45,h⟩:=aQ h;refine ax (bH bu bu h45 (kE) ((fun _=>rfl))) (aL 8 5 ?_);obtain⟨h46,h⟩|⟨h46,h⟩:=ai h
  ·exact au 26 h46 (ab (ac 0 (dY hK hL1 h)))
  ·refine au 26 h46 (aL 10 2 ?_);obtain⟨v24,h47,h⟩:=bind_some h;refine aE (ed hK h47) (aL 14 3 ?_);obtain⟨h48,h⟩|⟨h48,h⟩:=ai h
   ·exact au 32 h48 (ab (ac 0 (dY hK hL1 h)))
   ·refine au 32 h48 (aL 16 2 ?_);obtain⟨v25,h49,h⟩:=bind_some h;refine aE (ed hK h49) (aL 20 3 ?_);obtain⟨h50,h⟩|⟨h50,h⟩:=ai h
    ·exact au 38 h50 (ab (ac 0 (dY hK hL1 h)))
    ·refine au 38 h50 (aL 22 2 ?_);obtain⟨v26,h51,h⟩:=bind_some h;refine aE (ed hK h51) (aL 26 3 ?_);obtain⟨h52,h⟩|⟨h52,h⟩:=ai h
     ·exact au 44 h52 (ab (ac 0 (dY hK hL1 h)))
     ·refine au 44 h52 (aL 28 2 ?_);obtain⟨v27,h53,h⟩:=bind_some h;refine aE (ed hK h53) (aL 32 3 ?_);obtain⟨h54,h⟩|⟨h54,h⟩:=ai h
      ·exact au 50 h54 (ab (ac 0 (dY hK hL1 h)))
      ·refine au 50 h54 (aL 34 2 ?_);obtain⟨v28,h55,h⟩:=bind_some h;refine aE (ed hK h55) (aL 38 3 ?_);obtain⟨h56,h⟩|⟨h56,h⟩:=ai h
       ·exact au 56 h56 (ab (ac 0 (dY hK hL1 h)))
       ·refine au 56 h56 (aL 40 2 ?_);obtain⟨v29,h57,h⟩:=bind_some h;refine aE (ed hK h57) (aL 44 3 ?_);obtain⟨h58,h⟩|⟨h58,h⟩:=ai h
        ·exact au 62 h58 (ab (ac 0 (dY hK hL1 h)))
        ·refine au 62 h58 (aL 46 2 ?_);obtain⟨v30,h59,h⟩:=bind_some h;refine aE (ed hK h59) (aL 50 3 ?_);obtain⟨h60,h⟩|⟨h60,h⟩:=ai h
         ·exact au 68 h60 (ab (ac 0 (dY hK hL1 h)))
         ·refine au 68 h60 (aL 55 5 ?_);obtain⟨h61,h⟩|⟨h61,h⟩:=ai h
          ·exact au 73 h61 (ab (ac 0 (dY hK hL1 h)))
          ·refine au 73 h61 (aL 60 5 ?_);obtain⟨h62,h⟩|⟨h62,h⟩:=ai h
           ·exact au 78 h62 (ab (ac 0 (dY hK hL1 h)))
           ·refine au 78 h62 (aL 65 5 ?_);obtain⟨h63,h⟩|⟨h63,h⟩:=ai h
            ·exact au 83 h63 (ab (ac 0 (dY hK hL1 h)))
            ·refine au 83 h63 (aL 70 5 ?_);obtain⟨h64,h⟩|⟨h64,h⟩:=ai h
             ·exact au 88 h64 (ab (ac 0 (dY hK hL1 h)))
             ·refine au 88 h64 (aL 75 5 ?_);obtain⟨h65,h⟩|⟨h65,h⟩:=ai h
              ·exact au 93 h65 (ab (ac 0 (dY hK hL1 h)))
              ·refine au 93 h65 (aL 80 5 ?_);obtain⟨h66,h⟩|⟨h66,h⟩:=ai h
               ·exact au 98 h66 (ab (ac 0 (dY hK hL1 h)))
               ·refine au 98 h66 (aL 85 5 ?_);obtain⟨h67,h⟩|⟨h67,h⟩:=ai h
                ·exact au 103 h67 (ab (ac 0 (dY hK hL1 h)))
                ·exact au 103 h67 (ab (ac 0 (dY hK hL1 h)))
 ·refine ae 11 h43 (jH 2 3 6 (ah 1 (ax (bF bu v1) (ab (aD 1 ?_)))));cases h;exact aY
theorem KK(hK:ak K)(m:Nat):jG M w0 r v1 v2 m (km K n v1 v2 m):=by
 induction m with
 | zero=>intro v23 h;cases h
 | succ m ih=>intro v23 h;have h:gM K n v1 v2 (km K n v1 v2 m) v23=some r:=h;exact bl (D3 hK ih h)
theorem Gn(hK:ak K)(h:rr K n v1 v2=some r):aH Try.prog 24 [.sl (lm bu v1),iI v2] (fun v _=>v=.bool r):=by
 refine bc (cat Try.f24 (pn 1)) Try.func24 Try.ntmps24 fun M w0=>(aZ ⟨[(0,.sl (lm bu v1)),(1,iI v2)],[],[],[]⟩ ?_);unfold rr at h;exact ac 6 (cp (p:=pn 26) n (KK hK n h))
end
noncomputable section
variable(M:Nat→Prop)(w0:ay)(r:Bool)(v1:List bB)  
variable{M w0 r v1}{K:Kn}{n:Nat}
theorem DJ(hK:ak K)(h:ql K n v1=some r):aH Try.prog 8 [.sl (lm bu v1)] (fun v _=>v=.bool r):=by
 refine bc (cat Try.f8 (pn 1)) Try.func8 Try.ntmps8 fun M w0=>(aZ ⟨[(0,.sl (lm bu v1))],[],[],[]⟩ ?_);unfold ql at h;refine av 6 7 3 (ah 1 ?_);obtain⟨v2,h1,h⟩:=bind_some h;refine aE (Gn hK h1) (ab (aD 1 ?_));cases h;exact aY
end
noncomputable section
variable(M:Nat→Prop)(w0:ay)(r:(List ag)×Int)(v1:List bB)(v2 v3 v20:Int)(v21:List ag)(v22:Bool)(v26 v27:Int)(v28:ByteArray)(v29:List ag)(m1:Nat)(L1:Int→(List ag)→Option ((List ag)×Int))
abbrev uF:Cx:=⟨Try.prog,84,M,w0⟩
abbrev uo:=bodyPost Try.prog Try.f34 (bo M w0 (fun v s=>v=.tup [.ref 81,iI r.2]∧look 81 s.r=some ⟨72,59,lm aF r.1⟩))
abbrev w5(ks:List am)(s:AS):=VE (uF M w0) (uo M w0 r) ks .normal s
abbrev ff(n:Nat):am:=.c (cat Try.f34 (pn n))
abbrev vL:List am:=[.b 0,ff 15]
abbrev jh:List am:=kl (uF M w0) (uo M w0 r) vL (cat Try.f34 (pn 56)) m1::vL
def GP:AS:=⟨[(0,.sl (lm bu v1)),(1,iI v26),(2,.int .u8 v3),(8,.ref 81),(10,.ptr 10 0)],[(10,aS (⟨v27,(aa (10+v20)),(gD v1 v20).Style,v28,0,0,v29⟩:ag))],[(81,⟨72,59,lm aF v21⟩)],[10,81]⟩
def Du:AS:=⟨[(0,.sl (lm bu v1)),(1,iI v20),(2,.int .u8 v3),(8,.ref 81),(26,.bool v22)],[],[(81,⟨72,59,lm aF v21⟩)],[81]⟩
def yO:AS:=⟨[(0,.sl (lm bu v1)),(1,iI v20),(2,.int .u8 v3),(8,.ref 81)],[],[(81,⟨72,59,lm aF v21⟩)],[81]⟩
abbrev qh:Prop:=∀{v20:Int} {v21:(List ag)},L1 v20 v21=some r→LP (uF M w0) (uo M w0 r) vL (cat Try.f34 (pn 56)) m1 (yO v1 v3 v20 v21)
variable{M w0 r v1 v2 v3 v20 v21 v22 v26 v27 v28 v29 m1 L1}{K:Kn}{n:Nat}
theorem pY(hK:ak K)(hL1:qh M w0 r v1 v3 m1 L1)(h:iV K n v1 v3 v20 v21 L1 v26 v27 v28 v29=some r):w5 M w0 r (.b 2::ff 3631 :: .b 1::jh M w0 r m1) (GP v1 v3 v20 v21 v26 v27 v28 v29):=by
 unfold iV at h;refine b9 (ks':=ff 3631 :: .b 1::jh M w0 r m1) 1 (ah 2 (ax (fD aF ([(⟨v27,(aa (10+v20)),(gD v1 v20).Style,v28,0,0,v29⟩:ag)]:List ag) (new:=[aS (⟨v27,(aa (10+v20)),(gD v1 v20).Style,v28,0,0,v29⟩:ag)]) (by simp only[List.map_cons,List.map_nil,dS])) ?_));obtain⟨h36,h⟩:=aQ h;exact ax (cD 81 81 72 59 aF (rfl) (eE) h36) (ab (ac 1 (br (hL1 h))))
theorem xg(hK:ak K)(hL1:qh M w0 r v1 v3 m1 L1)(h:iQ K n v1 v3 v20 v21 L1 v22=some r):w5 M w0 r (ff 225::ff 113::jh M w0 r m1) (Du v1 v3 v20 v21 v22):=by
 unfold iQ at h;obtain⟨h27,h⟩|⟨h27,h⟩:=ai h
 ·refine ae 26 h27 (b9 (ks':=ff 452::ff 453 :: .b 1::jh M w0 r m1) 4 (ah 2 ?_));obtain⟨h28,h⟩:=aQ h;refine ax (bH bu bu h28 (kE) ((fun _=>rfl))) (ab ?_);obtain⟨v23,h29,h⟩:=bZ h;obtain⟨v24,h30,h⟩:=bZ h;refine bC (ks':=ff 29045 :: .b 2::ff 3631 :: .b 1::jh M w0 r m1) 10 ⟨[(0,.sl (lm bu v1)),(1,iI (aa (v20+1))),(2,.int .u8 v3),(8,.ref 81),(9,.ptr 9 0),(10,.ptr 10 0),(42,.int .u8 v23),(43,.bool v24)],[(9,bu (gD v1 v20)),(10,List.set (aS (⟨3,(aa (10+v20)),(gD v1 v20).Style,(gD v1 v20).Text,0,0,[]⟩:ag)) 58 (.nils))],[(81,⟨72,59,lm aF v21⟩)],[9,10,81]⟩ ?_ (by subst h30;subst h29;kernel_rfl);obtain⟨h31,h⟩|⟨h31,h⟩:=ai h
  ·exact ae 43 h31 (b9 (ks':=.b 2::ff 3631 :: .b 1::jh M w0 r m1) 4 (pO 10 (ac 0 (pY hK hL1 h))))
  ·refine ae 43 h31 (aU 7 3 ?_);obtain⟨h32,h⟩|⟨h32,h⟩:=ai h
   ·refine ae 47 h32 (aU 23 7 (ah 3 (ax (fD aF ([({ ek with Kind:=3,Style:=(gD v1 v20).Style,Text:=(gD v1 v20).Text }:ag)]:List ag) (new:=[aS ({ ek with Kind:=3,Style:=(gD v1 v20).Style,Text:=(gD v1 v20).Text }:ag)]) (by simp only[List.map_cons,List.map_nil,dS])) ?_)));obtain⟨h33,h⟩:=aQ h;exact ax (Ln 60 72 59 aF (rfl) (eE) h33) (ab (Bz 60 (ac 0 (pY hK hL1 h))))
   ·refine ae 47 h32 (aU 7 3 ?_);obtain⟨h34,h⟩|⟨h34,h⟩:=ai h
    ·refine ae 62 h34 (av 4 5 2 (ah 5 ?_));obtain⟨v25,h35,h⟩:=bind_some h;exact aE (hK.rA h35) (ab (ac 7 (pY hK hL1 h)))
    ·exact ae 62 h34 (b9 (ks':=.b 2::ff 3631 :: .b 1::jh M w0 r m1) 2 (pO 10 (ac 0 (pY hK hL1 h))))
 ·refine ae 26 h27 (aD 8 ?_);cases h;exact qy
theorem H9(hK:ak K)(hL1:qh M w0 r v1 v3 m1 L1)(h:ir K n v1 v3 L1 v20 v21=some r):w5 M w0 r (ff 56::jh M w0 r m1) (yO v1 v3 v20 v21):=by
 unfold ir at h;refine bO 4 5 3 2 (ah 2 (ax (bF bu v1) (aL 5 2 ?_)));obtain⟨h25,h⟩|⟨h25,h⟩:=ai h
 ·refine au 18 h25 (aL 7 2 ?_);obtain⟨h26,h⟩:=aQ h;exact ax (bH bu bu h26 (kE) ((fun _=>rfl))) (ab (ac 0 (xg hK hL1 h)))
 ·exact au 18 h25 (ab (ac 0 (xg hK hL1 h)))
theorem D4(hK:ak K)(m:Nat):qh M w0 r v1 v3 m (gu K n v1 v3 m):=by
 induction m with
 | zero=>intro v20 v21 h;cases h
 | succ m ih=>intro v20 v21 h;have h:ir K n v1 v3 (gu K n v1 v3 m) v20 v21=some r:=h;exact bl (H9 hK ih h)
theorem yE(hK:ak K)(h:gA K n v1 v2 v3=some r):aH Try.prog 34 [.sl (lm bu v1),iI v2,.int .u8 v3] (fun v s=>v=.tup [.ref 81,iI r.2]∧look 81 s.r=some ⟨72,59,lm aF r.1⟩):=by
 refine bc (cat Try.f34 (pn 1)) Try.func34 Try.ntmps34 fun M w0=>(aZ ⟨[(0,.sl (lm bu v1)),(1,iI v2),(2,.int .u8 v3)],[],[],[]⟩ ?_);unfold gA at h;exact gC 28 0 15 6 (bS [0,1,2,8] [] [] (fZ 81 8 72 59 (ac 0 (cp (p:=pn 28) n (D4 hK n h)))))
end
noncomputable section
variable(M:Nat→Prop)(w0:ay)(r:List ag)(v1:List bB)  
variable{M w0 r v1}{K:Kn}{n:Nat}
theorem HM(hK:ak K)(h:lY K n v1=some r):aH Try.prog 15 [.sl (lm bu v1)] (fun v s=>v=.ref 1007∧look 1007 s.r=some ⟨72,59,lm aF r⟩):=by
 refine bc (cat Try.f15 (pn 1)) Try.func15 Try.ntmps15 fun M w0=>(aZ ⟨[(0,.sl (lm bu v1))],[],[],[]⟩ ?_);unfold lY at h;refine av 6 7 3 (ah 1 ?_);obtain⟨v2,h1,h⟩:=bind_some h;refine fb 1007 (yE hK h1) (sA (i:=0) rfl) (ab (aD 3 ?_));cases h;exact eG
end
noncomputable section
variable(M:Nat→Prop)(w0:ay)(r:aB)(v1:List bB)  
variable{M w0 r v1}{K:Kn}{n:Nat}
theorem Kd(hK:ak K)(h:lz K n v1=some r):aH Try.prog 17 [.sl (lm bu v1)] (fun v _=>v=.agg (aA r)):=by
 refine bc (cat Try.f17 (pn 1)) Try.func17 Try.ntmps17 fun M w0=>(aZ ⟨[(0,.sl (lm bu v1))],[],[],[]⟩ ?_);unfold lz at h;refine bO 12 13 7 4 (ah 1 (ax (bF bu v1) (ab ?_)));obtain⟨h1,h⟩|⟨h1,h⟩:=ai h
 ·refine ae 5 h1 (aD 5 ?_);cases h;exact aY
 ·refine ae 5 h1 (gV 2 3 3 (ah 1 ?_));obtain⟨h2,h⟩:=aQ h;refine ax (bH bu bu h2 (kE) ((fun _=>rfl))) (ab (aD 1 ?_));cases h;exact aY
end
noncomputable section
variable(M:Nat→Prop)(w0:ay)(r:ByteArray)(v1:af)(v5:ByteArray)(v6:Int)(v8:ByteArray)(m1:Nat)(L1:ByteArray→Int→Option ByteArray)
abbrev uI:Cx:=⟨Try.prog,22,M,w0⟩
abbrev wJ:=bodyPost Try.prog Try.f19 (bo M w0 (fun v _=>v=.str r))
abbrev AD(ks:List am)(s:AS):=VE (uI M w0) (wJ M w0 r) ks .normal s
abbrev nB(n:Nat):am:=.c (cat Try.f19 (pn n))
abbrev vV:List am:=[.b 0,nB 15]
abbrev sH:List am:=kl (uI M w0) (wJ M w0 r) vV (cat Try.f19 (pn 116)) m1::vV
def IR:AS:=⟨[(3,.str v8),(7,.sl (lm az v1.Kids)),(8,iI (v1.Kids.length:Int)),(9,iI v6)],[],[],[]⟩
def zw:AS:=⟨[(3,.str v5),(7,.sl (lm az v1.Kids)),(8,iI (v1.Kids.length:Int)),(9,iI v6)],[],[],[]⟩
abbrev w7:Prop:=∀{v5:ByteArray} {v6:Int},L1 v5 v6=some r→LP (uI M w0) (wJ M w0 r) vV (cat Try.f19 (pn 116)) m1 (zw v1 v5 v6)
variable{M w0 r v1 v5 v6 v8 m1 L1}{K:Kn}{n:Nat}
theorem Ci(hK:ak K)(hL1:w7 M w0 r v1 m1 L1)(h:oE K n v1 v6 L1 v8=some r):AD M w0 r (.b 1::nB 935::sH M w0 r m1) (IR v1 v6 v8):=by
 unfold oE at h;exact ac 2 (br (hL1 h))
theorem Es(hK:ak K)(hL1:w7 M w0 r v1 m1 L1)(h:k7 K n v1 L1 v5 v6=some r):AD M w0 r (nB 116::sH M w0 r m1) (zw v1 v5 v6):=by
 unfold k7 at h;refine av 6 7 3 ?_;obtain⟨h7,h⟩|⟨h7,h⟩:=ai h
 ·refine ae 10 h7 (cN 8 9 1 3 5 (ah 0 ?_));obtain⟨h8,h⟩:=aQ h;refine ax (bH az aG h8 (eY) (cK)) (ab ?_);obtain⟨v7,h9,h⟩:=bZ h;refine bC (ks':=nB 7475 :: .b 1::nB 935::sH M w0 r m1) 2 ⟨[(3,.str v5),(5,.ptr 5 0),(7,.sl (lm az v1.Kids)),(8,iI (v1.Kids.length:Int)),(9,iI v6),(15,.bool v7)],[(5,aG (gD v1.Kids v6))],[],[5]⟩ ?_ (by subst h9;kernel_rfl);obtain⟨h10,h⟩|⟨h10,h⟩:=ai h
  ·refine ae 15 h10 (aU 2 1 (ah 3 ?_));obtain⟨h11,h⟩:=aQ h;exact ax (oZ h11) (ab (ac 0 (Ci hK hL1 h)))
  ·exact ae 15 h10 (ac 2 (Ci hK hL1 h))
 ·refine ae 10 h7 (aD 8 ?_);cases h;exact aY
theorem GG(hK:ak K)(m:Nat):w7 M w0 r v1 m (jJ K n v1 m):=by
 induction m with
 | zero=>intro v5 v6 h;cases h
 | succ m ih=>intro v5 v6 h;have h:k7 K n v1 (jJ K n v1 m) v5 v6=some r:=h;exact bl (Es hK ih h)
theorem Ie(hK:ak K)(h:ot K n v1=some r):aH Try.prog 19 [.agg (aG v1)] (fun v _=>v=.str r):=by
 refine bc (cat Try.f19 (pn 1)) Try.func19 Try.ntmps19 fun M w0=>(aZ ⟨[(0,.agg (aG v1))],[],[],[]⟩ ?_);unfold ot at h;exact bO 28 29 15 6 (ah 2 (ax (bF az v1.Kids) (ab (ac 1 (cp (p:=pn 58) n (GG hK n h))))))
end
noncomputable section
variable(M:Nat→Prop)(w0:ay)(r v1:ByteArray)(v2:Nat)(v5:ByteArray)(v6:Nat)(v7:Bool)(v8:ByteArray)(m1:Nat)(L1:ByteArray→Nat→Option ByteArray)
abbrev vr:Cx:=⟨Try.prog,30,M,w0⟩
abbrev uP:=bodyPost Try.prog Try.f20 (bo M w0 (fun v _=>v=.str r))
abbrev vX(ks:List am)(s:AS):=VE (vr M w0) (uP M w0 r) ks .normal s
abbrev tu(n:Nat):am:=.c (cat Try.f20 (pn n))
abbrev uj:List am:=[.b 0,tu 15]
abbrev uE:List am:=kl (vr M w0) (uP M w0 r) uj (cat Try.f20 (pn 116)) m1::uj
def HA:AS:=⟨[(3,.str v8),(7,.sit 320007 v2 v1 (v6+(Utf8.decode v1 v6).2))],[],[],[320007]⟩
def Mq:AS:=⟨[(3,.str v5),(5,.int .i32 ((Utf8.decode v1 v6).1:Int)),(7,.sit 320007 v2 v1 (v6+(Utf8.decode v1 v6).2)),(24,.bool v7)],[],[],[320007]⟩
def Bw:AS:=⟨[(3,.str v5),(7,.sit 320007 v2 v1 v6)],[],[],[320007]⟩
abbrev qn:Prop:=∀{v5:ByteArray} {v6:Nat},L1 v5 v6=some r→LP (vr M w0) (uP M w0 r) uj (cat Try.f20 (pn 116)) m1 (Bw v1 v2 v5 v6)
variable{M w0 r v1 v2 v5 v6 v7 v8 m1 L1}{K:Kn}{n:Nat}
theorem y2(hK:ak K)(hv2:w0.w.heap.size≤v2)(hL1:qn M w0 r v1 v2 m1 L1)(h:k9 K n v1 v6 L1 v8=some r):vX M w0 r (.b 1::uE M w0 r m1) (HA v1 v2 v6 v8):=by
 unfold k9 at h;exact ac 1 (br (hL1 h))
theorem qP(hK:ak K)(hv2:w0.w.heap.size≤v2)(hL1:qn M w0 r v1 v2 m1 L1)(h:gf K n v1 v5 v6 L1 v7=some r):vX M w0 r (tu 3739 :: .b 1::uE M w0 r m1) (Mq v1 v2 v5 v6 v7):=by
 unfold gf at h;obtain⟨h11,h⟩|⟨h11,h⟩:=ai h
 ·refine ae 24 h11 (aU 2 1 (ah 3 ?_));obtain⟨h12,h⟩:=aQ h;exact ax (oZ h12) (ab (ac 0 (y2 hK (v2:=v2) hv2 hL1 h)))
 ·exact ae 24 h11 (ac 2 (y2 hK (v2:=v2) hv2 hL1 h))
theorem Jy(hK:ak K)(hv2:w0.w.heap.size≤v2)(hL1:qn M w0 r v1 v2 m1 L1)(h:k8 K n v1 L1 v5 v6=some r):vX M w0 r (tu 116::uE M w0 r m1) (Bw v1 v2 v5 v6):=by
 unfold k8 at h;refine av 2 3 1 (ah 0 ?_);obtain⟨h7,h⟩|⟨h7,h⟩:=ai h
 ·refine rt 7 (id:=320007) (g:=v2) h7 hv2 (ab (DX 26 27 1 7 (ah 3 ?_)));obtain⟨h8,h⟩|⟨h8,h⟩:=ai h
  ·refine au 13 h8 (aL 7 4 ?_);obtain⟨h9,h⟩|⟨h9,h⟩:=ai h
   ·refine au 17 h9 (aL 11 4 ?_);obtain⟨h10,h⟩|⟨h10,h⟩:=ai h
    ·exact au 21 h10 (ab (ac 0 (qP hK (v2:=v2) hv2 hL1 h)))
    ·exact au 21 h10 (ab (ac 0 (qP hK (v2:=v2) hv2 hL1 h)))
   ·exact au 17 h9 (ab (ac 0 (qP hK (v2:=v2) hv2 hL1 h)))
  ·exact au 13 h8 (ab (ac 0 (qP hK (v2:=v2) hv2 hL1 h)))
 ·refine pZ 7 (id:=320007) (g:=v2) h7 (ab (aD 9 ?_));cases h;exact aY
theorem Mu(hK:ak K)(hv2:w0.w.heap.size≤v2)(m:Nat):qn M w0 r v1 v2 m (jc K n v1 m):=by
 induction m with
 | zero=>intro v5 v6 h;cases h
 | succ m ih=>intro v5 v6 h;have h:k8 K n v1 (jc K n v1 m) v5 v6=some r:=h;exact bl (Jy hK hv2 ih h)
theorem Cc(hK:ak K)(h:mH K n v1=some r):aH Try.prog 20 [.str v1] (fun v _=>v=.str r):=by
 refine bc (cat Try.f20 (pn 1)) Try.func20 Try.ntmps20 fun M w0=>(aZ ⟨[(0,.str v1)],[],[],[]⟩ ?_);unfold mH at h;exact bO 28 29 15 6 (ah 1 (pX 320007 (b:=v1) fun v2 hv2=>(ab (ac 1 (cp (p:=pn 58) n (Mu hK (v2:=v2) hv2 n h))))))
end
noncomputable section
variable(M:Nat→Prop)(w0:ay)(r:Bool)(v1:ag)(v2:Bool)  
abbrev HC(n:Nat):am:=.c (cat Try.f40 (pn n))
abbrev H5:Cx:=⟨Try.prog,12,M,w0⟩
abbrev FV:=bodyPost Try.prog Try.f40 (bo M w0 (fun v _=>v=.bool r))
abbrev FR(ks:List am)(s:AS):=VE (H5 M w0) (FV M w0 r) ks .normal s
def Jp:AS:=⟨[(2,.bool v2)],[],[],[]⟩
variable{M w0 r v1 v2}{K:Kn}{n:Nat}
theorem B6(hK:ak K)(h:qu K n v2=some r):FR M w0 r [HC 7] (Jp v2):=by
 unfold qu at h;refine aD 1 ?_;cases h;exact aY
theorem Ek(hK:ak K)(h:pS K n v1=some r):aH Try.prog 40 [.agg (aS v1)] (fun v _=>v=.bool r):=by
 refine bc (cat Try.f40 (pn 1)) Try.func40 Try.ntmps40 fun M w0=>(aZ ⟨[(0,.agg (aS v1))],[],[],[]⟩ ?_);unfold pS at h;refine av 6 7 3 (ah 4 ?_);obtain⟨h1,h⟩|⟨h1,h⟩:=ai h
 ·exact au 6 h1 (ab (ac 0 (B6 hK h)))
 ·exact au 6 h1 (ab (ac 0 (B6 hK h)))
end
noncomputable section
variable(M:Nat→Prop)(w0:ay)(r:ByteArray)(v1:List ag)(v10:ByteArray)(v11:Int)(v15 v18 v19:ByteArray)(m1:Nat)(L1:ByteArray→Int→Option ByteArray)
abbrev sF:Cx:=⟨Try.prog,33,M,w0⟩
abbrev sP:=bodyPost Try.prog Try.f21 (bo M w0 (fun v _=>v=.str r))
abbrev sC(ks:List am)(s:AS):=VE (sF M w0) (sP M w0 r) ks .normal s
abbrev ft(n:Nat):am:=.c (cat Try.f21 (pn n))
abbrev tY:List am:=[.b 0,ft 15]
abbrev kP:List am:=kl (sF M w0) (sP M w0 r) tY (cat Try.f21 (pn 116)) m1::tY
def G7:AS:=⟨[(3,.str v19),(6,.sl (lm aF v1)),(7,iI (v1.length:Int)),(8,iI v11)],[],[],[]⟩
def Hp:AS:=⟨[(3,.str v18),(6,.sl (lm aF v1)),(7,iI (v1.length:Int)),(8,iI v11)],[],[],[]⟩
def GA:AS:=⟨[(3,.str v15),(5,.ptr 5 0),(6,.sl (lm aF v1)),(7,iI (v1.length:Int)),(8,iI v11)],[(5,aS (gD v1 v11))],[],[5]⟩
def CI:AS:=⟨[(3,.str v10),(6,.sl (lm aF v1)),(7,iI (v1.length:Int)),(8,iI v11)],[],[],[]⟩
abbrev o9:Prop:=∀{v10:ByteArray} {v11:Int},L1 v10 v11=some r→LP (sF M w0) (sP M w0 r) tY (cat Try.f21 (pn 116)) m1 (CI v1 v10 v11)
variable{M w0 r v1 v10 v11 v15 v18 v19 m1 L1}{K:Kn}{n:Nat}
theorem Ap(hK:ak K)(hL1:o9 M w0 r v1 m1 L1)(h:mA K n v1 v11 L1 v19=some r):sC M w0 r (ft 935::kP M w0 r m1) (G7 v1 v11 v19):=by
 unfold mA at h;exact ac 1 (br (hL1 h))
theorem xG(hK:ak K)(hL1:o9 M w0 r v1 m1 L1)(h:n9 K n v1 v11 L1 v18=some r):sC M w0 r (.b 1::ft 935::kP M w0 r m1) (Hp v1 v11 v18):=by
 unfold n9 at h;exact ac 1 (Ap hK hL1 h)
theorem xb(hK:ak K)(hL1:o9 M w0 r v1 m1 L1)(h:lH K n v1 v11 L1 v15=some r):sC M w0 r (ft 14951 :: .b 1::ft 935::kP M w0 r m1) (GA v1 v11 v15):=by
 unfold lH at h;obtain⟨v16,h21,h⟩:=bZ h;refine bC (ks':=ft 29903 :: .b 1::ft 935::kP M w0 r m1) 2 ⟨[(3,.str v15),(5,.ptr 5 0),(6,.sl (lm aF v1)),(7,iI (v1.length:Int)),(8,iI v11),(25,.bool v16)],[(5,aS (gD v1 v11))],[],[5]⟩ ?_ (by subst h21;kernel_rfl);obtain⟨h22,h⟩|⟨h22,h⟩:=ai h
 ·refine ae 25 h22 (aU 2 1 (ah 3 ?_));obtain⟨v17,h23,h⟩:=bind_some h;refine aE (Cc hK h23) ?_;obtain⟨h24,h⟩:=aQ h;exact ax (oZ h24) (ab (ac 0 (xG hK hL1 h)))
 ·exact ae 25 h22 (ac 2 (xG hK hL1 h))
theorem HB(hK:ak K)(hL1:o9 M w0 r v1 m1 L1)(h:ma K n v1 L1 v10 v11=some r):sC M w0 r (ft 116::kP M w0 r m1) (CI v1 v10 v11):=by
 unfold ma at h;refine av 6 7 3 ?_;obtain⟨h13,h⟩|⟨h13,h⟩:=ai h
 ·refine ae 9 h13 (cN 8 9 1 3 5 (ah 0 ?_));obtain⟨h14,h⟩:=aQ h;refine ax (bH aF aS h14 (eE) (dS)) (ab (bO 4 5 3 2 (ah 1 ?_)));obtain⟨v12,h15,h⟩:=bind_some h;refine aE (Ek hK h15) (ab ?_);obtain⟨h16,h⟩|⟨h16,h⟩:=ai h
  ·exact ae 14 h16 (ac 4 (Ap hK hL1 h))
  ·refine ae 14 h16 ?_;obtain⟨v13,h17,h⟩:=bZ h;refine bC (ks':=ft 29901::ft 14951 :: .b 1::ft 935::kP M w0 r m1) 5 ⟨[(3,.str v10),(5,.ptr 5 0),(6,.sl (lm aF v1)),(7,iI (v1.length:Int)),(8,iI v11),(17,.bool v13)],[(5,aS (gD v1 v11))],[],[5]⟩ ?_ (by subst h17;kernel_rfl);obtain⟨h18,h⟩|⟨h18,h⟩:=ai h
   ·refine ae 17 h18 (aU 2 1 (ah 3 ?_));obtain⟨v14,h19,h⟩:=bind_some h;refine aE (hK.qf h19) ?_;obtain⟨h20,h⟩:=aQ h;exact ax (oZ h20) (ab (ac 0 (xb hK hL1 h)))
   ·exact ae 17 h18 (ac 2 (xb hK hL1 h))
 ·refine ae 9 h13 (aD 8 ?_);cases h;exact aY
theorem KJ(hK:ak K)(m:Nat):o9 M w0 r v1 m (iK K n v1 m):=by
 induction m with
 | zero=>intro v10 v11 h;cases h
 | succ m ih=>intro v10 v11 h;have h:ma K n v1 (iK K n v1 m) v10 v11=some r:=h;exact bl (HB hK ih h)
theorem Cp(hK:ak K)(h:iP K n v1=some r):aH Try.prog 21 [.sl (lm aF v1)] (fun v _=>v=.str r):=by
 refine bc (cat Try.f21 (pn 1)) Try.func21 Try.ntmps21 fun M w0=>(aZ ⟨[(0,.sl (lm aF v1))],[],[],[]⟩ ?_);unfold iP at h;exact bO 28 29 15 6 (ah 1 (ax (bF aF v1) (ab (ac 1 (cp (p:=pn 58) n (KJ hK n h))))))
end
noncomputable section
variable(M:Nat→Prop)(w0:ay)(r:Bool)(v1:List bB)(v2:Int)(v6:Bool)(v7:Int)(v8:Bool)(v9:List ag)(v12:(List af)×Int)(v15:ByteArray)(v16:Int)(v17:ByteArray)(v18:Bool)(m1 m2:Nat)(L1:Bool→Int→Option Bool)(L2:ByteArray→Int→Option Bool)
abbrev ov:Cx:=⟨Try.prog,82,M,w0⟩
abbrev q5:=bodyPost Try.prog Try.f5 (bo M w0 (fun v _=>v=.bool r))
abbrev qi(ks:List am)(s:AS):=VE (ov M w0) (q5 M w0 r) ks .normal s
abbrev fT(n:Nat):am:=.c (cat Try.f5 (pn n))
abbrev vA:List am:=[.b 2,fT 1023]
abbrev vP:List am:=kl (ov M w0) (q5 M w0 r) vA (cat Try.f5 (pn 8180)) m2::vA
abbrev tn:List am:=[.b 0,fT 63]
abbrev AM:List am:=kl (ov M w0) (q5 M w0 r) tn (cat Try.f5 (pn 500)) m1::tn
def JO:AS:=⟨[(0,.sl (lm bu v1)),(1,iI v2),(5,.bool v8),(20,.sl (lm bu v1)),(21,iI (v1.length:Int)),(22,iI v7)],[],[],[]⟩
def Er:AS:=⟨[(5,.bool v6),(8,.sl (lm aF v9)),(11,.str v15),(14,.str v17),(51,.ref 1048),(52,iI (v12.1.length:Int)),(53,iI v16),(72,.bool v18)],[],[(1048,⟨64,67,lm az v12.1⟩)],[1048]⟩
def xL:AS:=⟨[(5,.bool v6),(8,.sl (lm aF v9)),(11,.str v15),(51,.ref 1048),(52,iI (v12.1.length:Int)),(53,iI v16)],[],[(1048,⟨64,67,lm az v12.1⟩)],[1048]⟩
def B4:AS:=⟨[(0,.sl (lm bu v1)),(1,iI v2),(5,.bool v6),(20,.sl (lm bu v1)),(21,iI (v1.length:Int)),(22,iI v7)],[],[],[]⟩
abbrev tB:Prop:=∀{v6:Bool} {v7:Int},L1 v6 v7=some r→LP (ov M w0) (q5 M w0 r) tn (cat Try.f5 (pn 500)) m1 (B4 v1 v2 v6 v7)
abbrev vH:Prop:=∀{v15:ByteArray} {v16:Int},L2 v15 v16=some r→LP (ov M w0) (q5 M w0 r) vA (cat Try.f5 (pn 8180)) m2 (xL v6 v9 v12 v15 v16)
variable{M w0 r v1 v2 v6 v7 v8 v9 v12 v15 v16 v17 v18 m1 m2 L1 L2}{K:Kn}{n:Nat}
theorem tD(hK:ak K)(hL1:tB M w0 r v1 v2 m1 L1)(h:lJ K n v1 v2 v7 L1 v8=some r):qi M w0 r (.b 1::fT 4007::AM M w0 r m1) (JO v1 v2 v7 v8):=by
 unfold lJ at h;exact ac 2 (br (hL1 h))
theorem vE(hK:ak K)(hL2:vH M w0 r v6 v9 v12 m2 L2)(h:jx K n v6 v9 v12 v15 v16 v17 L2 v18=some r):qi M w0 r (fT 2094285::fT 1047143 :: .b 3::fT 65447::vP M w0 r m2) (Er v6 v9 v12 v15 v16 v17 v18):=by
 unfold jx at h;obtain⟨h30,h⟩|⟨h30,h⟩:=ai h
 ·refine ae 72 h30 (aD 10 ?_);cases h;exact aY
 ·refine ae 72 h30 (b9 (ks':=fT 1047143 :: .b 3::fT 65447::vP M w0 r m2) 2 (ah 2 ?_));obtain⟨h31,h⟩:=aQ h;exact ax (oZ h31) (ab (ac 2 (br (hL2 h))))
theorem FC(hK:ak K)(hL2:vH M w0 r v6 v9 v12 m2 L2)(h:lB K n v6 v9 v12 L2 v15 v16=some r):qi M w0 r (fT 8180::vP M w0 r m2) (xL v6 v9 v12 v15 v16):=by
 unfold lB at h;refine av 6 7 3 ?_;obtain⟨h24,h⟩|⟨h24,h⟩:=ai h
 ·refine ae 54 h24 (cN 8 9 3 3 5 (ah 0 ?_));obtain⟨h25,h⟩:=aQ h;refine ax (dE 1048 67 az h25) (ax (cR 64 0 az aG (dM h25).2 (cK)) (ab (av 2 3 1 (ah 1 ?_))));obtain⟨v17,h26,h⟩:=bind_some h;refine aE (Ie hK h26) (ab (bO 4 5 3 2 (ah 3 ?_)));obtain⟨h27,h⟩|⟨h27,h⟩:=ai h
  ·refine au 61 h27 (aL 7 4 ?_);obtain⟨h28,h⟩|⟨h28,h⟩:=ai h
   ·refine au 65 h28 (aL 11 4 ?_);obtain⟨h29,h⟩:=aQ h;exact ax (Kg h29) (ab (ac 0 (vE hK hL2 h)))
   ·exact au 65 h28 (ab (ac 0 (vE hK hL2 h)))
  ·exact au 61 h27 (ab (ac 0 (vE hK hL2 h)))
 ·refine ae 54 h24 (jH 2 3 6 (ah 1 ?_));obtain⟨v19,h32,h⟩:=bind_some h;refine aE (Cc hK h32) (aL 3 1 ?_);obtain⟨v20,h33,h⟩:=bind_some h;refine aE (Cp hK h33) (ab (aD 1 ?_));cases h;exact aY
theorem Lu(hK:ak K)(m:Nat):vH M w0 r v6 v9 v12 m (iW K n v6 v9 v12 m):=by
 induction m with
 | zero=>intro v15 v16 h;cases h
 | succ m ih=>intro v15 v16 h;have h:lB K n v6 v9 v12 (iW K n v6 v9 v12 m) v15 v16=some r:=h;exact bl (FC hK ih h)
theorem KR(hK:ak K)(hL1:tB M w0 r v1 v2 m1 L1)(h:mM K n v1 v2 L1 v6 v7=some r):qi M w0 r (fT 500::AM M w0 r m1) (B4 v1 v2 v6 v7):=by
 unfold mM at h;refine av 6 7 3 ?_;obtain⟨h8,h⟩|⟨h8,h⟩:=ai h
 ·refine ae 23 h8 (cN 8 9 1 3 5 (ah 0 ?_));obtain⟨h9,h⟩:=aQ h;refine ax (bH bu bu h9 (kE) ((fun _=>rfl))) (ab (ah 2 ?_));obtain⟨h10,h⟩|⟨h10,h⟩:=ai h
  ·exact au 27 h10 (ab (ac 0 (tD hK hL1 h)))
  ·refine au 27 h10 (aL 8 6 ?_);obtain⟨h11,h⟩|⟨h11,h⟩:=ai h
   ·exact au 33 h11 (ab (ac 0 (tD hK hL1 h)))
   ·exact au 33 h11 (ab (ac 0 (tD hK hL1 h)))
 ·refine ae 23 h8 (jH 2 3 6 (ah 1 ?_));obtain⟨v9,h12,h⟩:=bind_some h;refine fb 1041 (HM hK h12) (g8 1007) (ab (av 2 3 1 (ah 2 ?_)));obtain⟨v10,h13,h⟩:=bind_some h;refine aE (Kd hK h13) (aL 4 1 ?_);obtain⟨v11,h14,h⟩:=bind_some h;refine aE (rW hK h14) (pg 1041 ?_);obtain⟨v12,h15,h⟩:=bind_some h;exact fb 1048 (zn hK h15) (sA (i:=0) rfl) (ab (bO 12 13 7 4 (ah 1 (ax (bF az v12.1) (ab (ac 1 (cp (p:=pn 4090) n (Lu hK n h))))))))
theorem Hn(hK:ak K)(m:Nat):tB M w0 r v1 v2 m (kZ K n v1 v2 m):=by
 induction m with
 | zero=>intro v6 v7 h;cases h
 | succ m ih=>intro v6 v7 h;have h:mM K n v1 v2 (kZ K n v1 v2 m) v6 v7=some r:=h;exact bl (KR hK ih h)
theorem G2(hK:ak K)(h:sr K n v1 v2=some r):aH Try.prog 5 [.sl (lm bu v1),iI v2] (fun v _=>v=.bool r):=by
 refine bc (cat Try.f5 (pn 1)) Try.func5 Try.ntmps5 fun M w0=>(aZ ⟨[(0,.sl (lm bu v1)),(1,iI v2)],[],[],[]⟩ ?_);unfold sr at h;refine bO 12 13 7 4 (ah 0 ?_);obtain⟨v3,h1,h⟩:=bind_some h;refine aE (LV hK h1) (ab ?_);obtain⟨h2,h⟩|⟨h2,h⟩:=ai h
 ·refine ae 16 h2 (aD 5 ?_);cases h;exact aY
 ·refine ae 16 h2 (nA 4 5 3 4 (ah 1 ?_));obtain⟨v4,h3,h⟩:=bind_some h;refine aE (DJ hK h3) (ab ?_);obtain⟨h4,h⟩|⟨h4,h⟩:=ai h
  ·refine ae 19 h4 (aD 5 ?_);cases h;exact aY
  ·exact ae 19 h4 (nA 12 13 7 6 (ah 1 (ax (bF bu v1) (ab (ac 1 (cp (p:=pn 250) n (Hn hK n h)))))))
end
noncomputable section
variable(M:Nat→Prop)(w0:ay)(r:bt)(v1:aB)(v2 v3:Int)(v4:bt)(v7 v8 v9:Int)(v10 v11:(Int×Bool))(v12:Bool)(v13:V4 Int)  
abbrev qx(n:Nat):am:=.c (cat Try.f64 (pn n))
abbrev LR:Cx:=⟨Try.prog,89,M,w0⟩
abbrev JP:=bodyPost Try.prog Try.f64 (bo M w0 (fun v _=>v=.agg (bw r)))
abbrev vQ(ks:List am)(s:AS):=VE (LR M w0) (JP M w0 r) ks .normal s
def It:AS:=⟨[(4,.ptr 4 0),(5,.ptr 5 0)],[(4,bw fe),(5,bw ({ v4 with Margin:=v13,Content:=v8 }:bt))],[],[4,5]⟩
def Gk:AS:=⟨[(4,.ptr 4 0),(5,.ptr 5 0),(8,iI (aa (v3-v9))),(10,.bool v10.2),(12,.bool v11.2),(59,.bool v12)],[(4,bw fe),(5,bw ({ v4 with Content:=v8 }:bt))],[],[4,5]⟩
def F0:AS:=⟨[(1,iI v3),(2,.ptr 2 0),(4,.ptr 4 0),(5,.ptr 5 0),(6,iI v7)],[(2,aA v1),(4,bw fe),(5,bw v4)],[],[2,4,5]⟩
variable{M w0 r v1 v2 v3 v4 v7 v8 v9 v10 v11 v12 v13}{K:Kn}{n:Nat}
theorem rb(hK:ak K)(h:kI K n v4 v8 v13=some r):vQ M w0 r [.b 0,qx 4095] (It v4 v8 v13):=by
 unfold kI at h;refine aD 4 ?_;cases h;exact aY
theorem A7(hK:ak K)(h:qT K n v3 v4 v8 v9 v10 v11 v12=some r):vQ M w0 r [qx 16377,.b 0,qx 4095] (Gk v3 v4 v8 v9 v10 v11 v12):=by
 unfold qT at h;obtain⟨h12,h⟩|⟨h12,h⟩:=ai h
 ·exact ae 59 h12 (ac 4 (rb hK h))
 ·refine ae 59 h12 (aU 7 3 ?_);obtain⟨h13,h⟩|⟨h13,h⟩:=ai h
  ·exact ae 76 h13 (ac 2 (rb hK h))
  ·refine ae 76 h13 (aU 7 3 ?_);obtain⟨h14,h⟩|⟨h14,h⟩:=ai h
   ·exact ae 82 h14 (ac 2 (rb hK h))
   ·exact ae 82 h14 (ac 2 (rb hK h))
theorem zC(hK:ak K)(h:qq K n v1 v3 v4 v7=some r):vQ M w0 r [qx 63] (F0 v1 v3 v4 v7):=by
 unfold qq at h;refine av 2 3 1 (ah 3 ?_);obtain⟨v8,h6,h⟩:=bind_some h;refine aE (qr hK h6) (ab (av 2 3 1 (ah 2 ?_)));obtain⟨v9,h7,h⟩:=bind_some h;refine aE (lS hK h7) (ab (av 5 3 3 ?_));obtain⟨h8,h⟩|⟨h8,h⟩:=ai h
 ·refine ae 41 h8 (aD 5 ?_);cases h;exact aY
 ·refine ae 41 h8 (gV 2 3 3 (ah 4 ?_));obtain⟨v10,h9,h⟩:=bind_some h;refine aE (dx hK h9) (ab (av 2 3 1 (ah 4 ?_)));obtain⟨v11,h10,h⟩:=bind_some h;refine aE (dx hK h10) (ab (c7 8 9 0 3 3 (ah 3 ?_)));obtain⟨h11,h⟩|⟨h11,h⟩:=ai h
  ·exact au 62 h11 (ab (ac 0 (A7 hK h)))
  ·exact au 62 h11 (ab (ac 0 (A7 hK h)))
theorem Gh(hK:ak K)(h:uu K n v1 v2=some r):aH Try.prog 64 [.agg (aA v1),iI v2] (fun v _=>v=.agg (bw r)):=by
 refine bc (cat Try.f64 (pn 1)) Try.func64 Try.ntmps64 fun M w0=>(aZ ⟨[(0,.agg (aA v1)),(1,iI v2)],[],[],[]⟩ ?_);unfold uu at h;refine av 6 7 3 (ah 1 ?_);obtain⟨v3,h1,h⟩:=bind_some h;refine aE (eV hK h1) (ab (av 2 3 1 (ah 2 ?_)));obtain⟨v4,h2,h⟩:=bind_some h;refine aE (oB hK h2) (ab (av 2 3 1 (ah 3 ?_)));obtain⟨v5,h3,h⟩:=bind_some h;refine aE (dx hK h3) (ab (av 5 3 3 ?_));obtain⟨h4,h⟩|⟨h4,h⟩:=ai h
 ·refine ae 26 h4 (aU 2 1 (ah 2 ?_));obtain⟨v6,h5,h⟩:=bind_some h;exact aE (lS hK h5) (ab (ac 0 (zC hK h)))
 ·exact ae 26 h4 (ac 2 (zC hK h))
end
noncomputable section
variable(M:Nat→Prop)(w0:ay)(r:af)(v1:ag)(v2:Int)(v3:ca)(v4:bt)(v5 v6:Bool)  
abbrev Dj(n:Nat):am:=.c (cat Try.f53 (pn n))
abbrev La:Cx:=⟨Try.prog,58,M,w0⟩
abbrev Mg:=bodyPost Try.prog Try.f53 (bo M w0 (fun v s=>v=.agg (List.set (aG ({ r with Kids:=[] }:af)) 66 (.ref 1057))∧look 1057 s.r=some ⟨64,67,lm az r.Kids⟩))
abbrev CY(ks:List am)(s:AS):=VE (La M w0) (Mg M w0 r) ks .normal s
def KQ:AS:=⟨[(3,.ptr 3 0),(5,.ptr 5 0),(6,.ptr 6 0),(7,.ptr 7 0),(9,.bool v5),(10,.bool v6)],[(3,aS v1),(5,cr v3),(6,List.set (aG bj) 66 (.nils)),(7,bw v4)],[],[3,5,6,7]⟩
def H1:AS:=⟨[(3,.ptr 3 0),(5,.ptr 5 0),(6,.ptr 6 0),(7,.ptr 7 0),(8,.bool (v1.Style.Overflow == 0)),(9,.bool v5)],[(3,aS v1),(5,cr v3),(6,List.set (aG bj) 66 (.nils)),(7,bw v4)],[],[3,5,6,7]⟩
variable{M w0 r v1 v2 v3 v4 v5 v6}{K:Kn}{n:Nat}
theorem rp(hK:ak K)(h:lV K n v1 v3 v4 v5 v6=some r):CY M w0 r [Dj 63] (KQ v1 v3 v4 v5 v6):=by
 unfold lV at h;refine av 2 3 1 (ah 5 ?_);obtain⟨v7,h7,h⟩:=bind_some h;refine fb 1057 (C0 hK h7) (rI (i:=66) (by kernel_rfl)) (ab (aD 1 ?_));cases h;exact eG
theorem uc(hK:ak K)(h:pG K n v1 v3 v4 v5=some r):CY M w0 r [Dj 31] (H1 v1 v3 v4 v5):=by
 unfold pG at h;refine av 2 3 1 (ah 2 ?_);obtain⟨h4,h⟩|⟨h4,h⟩:=ai h
 ·refine au 33 h4 (aL 8 6 ?_);obtain⟨h5,h⟩|⟨h5,h⟩:=ai h
  ·refine au 39 h5 (aL 14 6 ?_);obtain⟨h6,h⟩|⟨h6,h⟩:=ai h
   ·exact au 45 h6 (ab (ac 0 (rp hK h)))
   ·exact au 45 h6 (ab (ac 0 (rp hK h)))
  ·exact au 39 h5 (ab (ac 0 (rp hK h)))
 ·exact au 33 h4 (ab (ac 0 (rp hK h)))
theorem I7(hK:ak K)(h:s9 K n v1 v2 v3=some r):aH Try.prog 53 [.agg (aS v1),iI v2,.agg (cr v3)] (fun v s=>v=.agg (List.set (aG ({ r with Kids:=[] }:af)) 66 (.ref 1057))∧look 1057 s.r=some ⟨64,67,lm az r.Kids⟩):=by
 refine bc (cat Try.f53 (pn 1)) Try.func53 Try.ntmps53 fun M w0=>(aZ ⟨[(0,.agg (aS v1)),(1,iI v2),(2,.agg (cr v3))],[],[],[]⟩ ?_);unfold s9 at h;refine av 6 7 3 (ah 3 ?_);obtain⟨v4,h1,h⟩:=bind_some h;refine aE (Gh hK h1) (ab (av 6 7 3 (ah 2 ?_)));obtain⟨h2,h⟩|⟨h2,h⟩:=ai h
 ·refine au 20 h2 (aL 8 6 ?_);obtain⟨h3,h⟩|⟨h3,h⟩:=ai h
  ·exact au 26 h3 (ab (ac 0 (uc hK h)))
  ·exact au 26 h3 (ab (ac 0 (uc hK h)))
 ·exact au 20 h2 (ab (ac 0 (uc hK h)))
end
noncomputable section
variable(M:Nat→Prop)(w0:ay)(r:af)(v1:ag)(v2:Int)  
variable{M w0 r v1 v2}{K:Kn}{n:Nat}
theorem EO(hK:ak K)(h:wt K n v1 v2=some r):aH Try.prog 36 [.agg (aS v1),iI v2] (fun v s=>v=.agg (List.set (aG ({ r with Kids:=[] }:af)) 66 (.ref 8))∧look 8 s.r=some ⟨64,67,lm az r.Kids⟩):=by
 refine bc (cat Try.f36 (pn 1)) Try.func36 Try.ntmps36 fun M w0=>(aZ ⟨[(0,.agg (aS v1)),(1,iI v2)],[],[],[]⟩ ?_);unfold wt at h;refine av 6 7 3 (bS [1,2,4] [2,4] [] ?_);obtain⟨v3,h1,h⟩:=bind_some h;obtain⟨v4,h2,h⟩:=bind_some h;refine cg 1 (nu 5 [.agg (aS v1),iI v2,.agg (cr v3),.agg (List.set (aG ({ v4 with Kids:=[] }:af)) 66 (.ref 8))]) [] [(8,⟨64,67,lm az v4.Kids⟩)] [bV Try.prog 9 Try.f36 (pn 6) 4] (aO (vz 2) (ao (ci 0 1 7 (rW hK h1)) (ao (wH 0 1 8 (I7 hK h2) (rI (i:=66) (by kernel_rfl))) (ao (bW 0) ce)))) (aD 1 ?_);cases h;exact eG
end
noncomputable section
variable(M:Nat→Prop)(w0:ay)(r:Int×Int)(v1:ag)(v2:ca)  
variable{M w0 r v1 v2}{K:Kn}{n:Nat}
theorem EA(hK:ak K)(h:wj K n v1 v2=some r):aH Try.prog 54 [.agg (aS v1),.agg (cr v2)] (fun v _=>v=.tup [iI r.1,iI r.2]):=by
 refine bc (cat Try.f54 (pn 1)) Try.func54 Try.ntmps54 fun M w0=>(aZ ⟨[(0,.agg (aS v1)),(1,.agg (cr v2))],[],[],[]⟩ ?_);unfold wj at h;refine av 6 7 3 (ah 2 ?_);obtain⟨v3,h1,h⟩:=bind_some h;refine aE (Bs hK h1) (ab (av 2 3 1 (ah 2 ?_)));obtain⟨v4,h2,h⟩:=bind_some h;refine aE (Ag hK h2) (ab (av 2 3 1 (bS [4,5,6] [6] [] ?_)));obtain⟨v5,h3,h⟩:=bind_some h;obtain⟨v6,h4,h⟩:=bind_some h;obtain⟨v7,h5,h⟩:=bind_some h;obtain⟨v8,h6,h⟩:=bind_some h;obtain⟨v9,h7,h⟩:=bind_some h;obtain⟨v10,h8,h⟩:=bind_some h;refine cg 2 (nu 16 [.agg (aA v4),.agg (aA v4),iI v3.1,iI v5,.agg (bw v6),iI v7,.agg (aA v4),.agg (aA v4),iI v3.2,iI v8,.agg (bw v9),iI v10]) [] [] [bV Try.prog 28 Try.f54 (pn 30) 12,bV Try.prog 28 Try.f54 (pn 30) 13] (aO (vz 3) (ao (ci 0 1 19 (qr hK h3)) (ao (ci 0 1 20 (oB hK h4)) (ao (ci 0 1 21 (lS hK h5)) (aO [.v 0 2,.v 0 2,.v 0 2] (ao (ci 0 2 25 (qr hK h6)) (ao (ci 0 2 26 (oB hK h7)) (ao (ci 0 1 27 (lS hK h8)) (ao (bW 0) (ao (bW 1) ce)))))))))) (aD 1 ?_)
 cases h;exact fW
end
noncomputable section
variable(M:Nat→Prop)(w0:ay)(r:Int×Int)(v1:ag)  
variable{M w0 r v1}{K:Kn}{n:Nat}
theorem Gz(hK:ak K)(h:wb K n v1=some r):aH Try.prog 37 [.agg (aS v1)] (fun v _=>v=.tup [iI r.1,iI r.2]):=by
 refine bc (cat Try.f37 (pn 1)) Try.func37 Try.ntmps37 fun M w0=>(aZ ⟨[(0,.agg (aS v1))],[],[],[]⟩ ?_);unfold wb at h;refine av 6 7 3 (bS [1] [1] [] ?_);obtain⟨v2,h1,h⟩:=bind_some h;obtain⟨v3,h2,h⟩:=bind_some h;refine cg 2 (nu 4 [.agg (aS v1),.agg (cr v2),.tup [iI v3.1,iI v3.2],iI v3.1,iI v3.2]) [] [] [bV Try.prog 9 Try.f37 (pn 6) 5,bV Try.prog 9 Try.f37 (pn 6) 6] (aO [.v 0 1] (ao (ci 0 1 5 (rW hK h1)) (ao (ci 0 1 6 (EA hK h2)) (aO (vz 2) (ao (bW 0) (ao (bW 1) ce)))))) (aD 1 ?_);cases h;exact fW
end
noncomputable section
variable(M:Nat→Prop)(w0:ay)(r:(List af)×Int)(v1:List ag)(v2:aB)(v3 v10 v11:Int)(v12:List af)(v14:Int)(v15:List af)(m1:Nat)(L1:Int→Int→(List af)→Option ((List af)×Int))
abbrev tG:Cx:=⟨Try.prog,42,M,w0⟩
abbrev uB:=bodyPost Try.prog Try.f38 (bo M w0 (fun v s=>v=.tup [.ref 35,iI r.2]∧look 35 s.r=some ⟨64,67,lm az r.1⟩))
abbrev Cv(ks:List am)(s:AS):=VE (tG M w0) (uB M w0 r) ks .normal s
abbrev pQ(n:Nat):am:=.c (cat Try.f38 (pn n))
abbrev vt:List am:=[.b 0,pQ 31]
abbrev wD:List am:=kl (tG M w0) (uB M w0 r) vt (cat Try.f38 (pn 244)) m1::vt
def Gq:AS:=⟨[(0,.sl (lm aF v1)),(2,iI v3),(4,.ptr 4 0),(8,.ref 35),(9,iI v14),(10,iI v11)],[(4,aA v2)],[(35,⟨64,67,lm az v15⟩)],[4,35]⟩
def Bo:AS:=⟨[(0,.sl (lm aF v1)),(2,iI v3),(4,.ptr 4 0),(8,.ref 35),(9,iI v10),(10,iI v11)],[(4,aA v2)],[(35,⟨64,67,lm az v12⟩)],[4,35]⟩
abbrev wN:Prop:=∀{v10:Int} {v11:Int} {v12:(List af)},L1 v10 v11 v12=some r→LP (tG M w0) (uB M w0 r) vt (cat Try.f38 (pn 244)) m1 (Bo v1 v2 v3 v10 v11 v12)
variable{M w0 r v1 v2 v3 v10 v11 v12 v14 v15 m1 L1}{K:Kn}{n:Nat}
theorem Ak(hK:ak K)(hL1:wN M w0 r v1 v2 v3 m1 L1)(h:ky K n v1 v2 v3 v11 L1 v14 v15=some r):Cv M w0 r (.b 1::pQ 979::wD M w0 r m1) (Gq v1 v2 v3 v11 v14 v15):=by
 unfold ky at h;exact ac 2 (br (hL1 h))
theorem Eu(hK:ak K)(hL1:wN M w0 r v1 v2 v3 m1 L1)(h:ij K n v1 v2 v3 L1 v10 v11 v12=some r):Cv M w0 r (pQ 244::wD M w0 r m1) (Bo v1 v2 v3 v10 v11 v12):=by
 unfold ij at h;refine bO 4 5 3 2 (ah 2 (ax (bF aF v1) (ab ?_)));obtain⟨h13,h⟩|⟨h13,h⟩:=ai h
 ·refine ae 14 h13 (cN 8 9 1 3 5 (ah 2 ?_));obtain⟨h14,h⟩:=aQ h;refine ax (bH aF aS h14 (eE) (dS)) (ab ?_);obtain⟨v13,h15,h⟩:=bZ h;refine bC (ks':=pQ 3913 :: .b 1::pQ 979::wD M w0 r m1) 0 ⟨[(0,.sl (lm aF v1)),(2,iI v3),(4,.ptr 4 0),(8,.ref 35),(9,iI v10),(10,iI v11),(22,.bool v13)],[(4,aA v2)],[(35,⟨64,67,lm az v12⟩)],[4,35]⟩ ?_ (by subst h15;kernel_rfl);obtain⟨h16,h⟩|⟨h16,h⟩:=ai h
  ·refine ae 22 h16 (av 4 5 2 (bS [0,2,4,8,9,10] [4] [35] ?_));obtain⟨h17,h⟩:=aQ h;obtain⟨h18,h⟩:=aQ h;exact cg 2 (nu 23 [.ref 35,iI v10,iI v3,.ptr 4 38,iI v2.LineHeight,.sl (lm aF v1),iI v11,.cptr (aS (gD v1 v11)),.cptr (List.drop 55 (aS (gD v1 v11))),.str ((gD v1 v11).Text),.agg (List.set (aG ({ bj with Kind:=2,Y:=v10,W:=v3,H:=v2.LineHeight,Text:=(gD v1 v11).Text }:af)) 66 (.nils)),.sl (lm az [({ bj with Kind:=2,Y:=v10,W:=v3,H:=v2.LineHeight,Text:=(gD v1 v11).Text }:af)])]) [] [] [jy 35 35 ⟨64,67,lm az (v12++[({ bj with Kind:=2,Y:=v10,W:=v3,H:=v2.LineHeight,Text:=(gD v1 v11).Text }:af)])⟩,bV Try.prog 42 Try.f38 (pn 15652) 13] (aO [.v 0 1,.v 0 2,.v 0 2,.v 0 2,.v 0 2,.v 0 2,.v 0 2] (ao (mT (lo:=0) (k:=2) (iv ⟨(by kernel_rfl),(j2 (bH aF aS h17 (eE) (dS)) (by kernel_rfl))⟩ (iv ⟨(by kernel_rfl),(j2 (bH aF aS h17 (eE) (dS)) (by kernel_rfl))⟩ pC))) (aO [.v 0 2,.v 0 2,.v 0 2] (ct (fD az ([({ bj with Kind:=2,Y:=v10,W:=v3,H:=v2.LineHeight,Text:=(gD v1 v11).Text }:af)]:List af) (new:=[aG ({ bj with Kind:=2,Y:=v10,W:=v3,H:=v2.LineHeight,Text:=(gD v1 v11).Text }:af)]) (by simp only[List.map_cons,List.map_nil,cK])) (ao (gk (m:=0) (cD 35 35 64 67 az (rfl) (eY) h18)) (ao (bW 1) ce)))))) (ac 1 (Ak hK hL1 h))
  ·exact ae 22 h16 (ac 2 (Ak hK hL1 h))
 ·refine ae 14 h13 (aD 8 ?_);cases h;exact qy
theorem D5(hK:ak K)(m:Nat):wN M w0 r v1 v2 v3 m (kq K n v1 v2 v3 m):=by
 induction m with
 | zero=>intro v10 v11 v12 h;cases h
 | succ m ih=>intro v10 v11 v12 h;have h:ij K n v1 v2 v3 (kq K n v1 v2 v3 m) v10 v11 v12=some r:=h;exact bl (Eu hK ih h)
theorem FB(hK:ak K)(h:m8 K n v1 v2 v3=some r):aH Try.prog 38 [.sl (lm aF v1),.agg (aA v2),iI v3] (fun v s=>v=.tup [.ref 35,iI r.2]∧look 35 s.r=some ⟨64,67,lm az r.1⟩):=by
 refine bc (cat Try.f38 (pn 1)) Try.func38 Try.ntmps38 fun M w0=>(aZ ⟨[(0,.sl (lm aF v1)),(1,.agg (aA v2)),(2,iI v3)],[],[],[]⟩ ?_);unfold m8 at h;exact gC 122 0 31 10 (bS [0,2,4,8,9,10] [4] [] (fZ 35 8 64 67 (ac 0 (cp (p:=pn 122) n (D5 hK n h)))))
end
noncomputable section
variable(M:Nat→Prop)(w0:ay)(r:Int×Int)(v1:List ag)(v2:aB)(v3 v4 v5:Int)(m1:Nat)(L1:Int→Int→Int→Option (Int×Int))
abbrev sI:Cx:=⟨Try.prog,31,M,w0⟩
abbrev w2:=bodyPost Try.prog Try.f39 (bo M w0 (fun v _=>v=.tup [iI r.1,iI r.2]))
abbrev Fu(ks:List am)(s:AS):=VE (sI M w0) (w2 M w0 r) ks .normal s
abbrev yT(n:Nat):am:=.c (cat Try.f39 (pn n))
abbrev td:List am:=[.b 0,yT 31]
abbrev EX:List am:=kl (sI M w0) (w2 M w0 r) td (cat Try.f39 (pn 244)) m1::td
def BK:AS:=⟨[(0,.sl (lm aF v1)),(6,iI v3),(7,iI v4),(8,iI v5)],[],[],[]⟩
abbrev AP:Prop:=∀{v3:Int} {v4:Int} {v5:Int},L1 v3 v4 v5=some r→LP (sI M w0) (w2 M w0 r) td (cat Try.f39 (pn 244)) m1 (BK v1 v3 v4 v5)
variable{M w0 r v1 v2 v3 v4 v5 m1 L1}{K:Kn}{n:Nat}
theorem LF(hK:ak K)(hL1:AP M w0 r v1 m1 L1)(h:ik K n v1 L1 v3 v4 v5=some r):Fu M w0 r (yT 244::EX M w0 r m1) (BK v1 v3 v4 v5):=by
 unfold ik at h;refine bO 4 5 3 2 (ah 2 (ax (bF aF v1) (ab ?_)));obtain⟨h3,h⟩|⟨h3,h⟩:=ai h
 ·refine ae 13 h3 (cN 8 9 1 3 5 (ah 2 ?_));obtain⟨h4,h⟩:=aQ h;exact ax (bH aF aS h4 (eE) (dS)) (ab (ac 5 (br (hL1 h))))
 ·refine ae 13 h3 (aD 8 ?_);cases h;exact fW
theorem Ef(hK:ak K)(m:Nat):AP M w0 r v1 m (kW K n v1 m):=by
 induction m with
 | zero=>intro v3 v4 v5 h;cases h
 | succ m ih=>intro v3 v4 v5 h;have h:ik K n v1 (kW K n v1 m) v3 v4 v5=some r:=h;exact bl (LF hK ih h)
theorem Gg(hK:ak K)(h:pi K n v1 v2=some r):aH Try.prog 39 [.sl (lm aF v1),.agg (aA v2)] (fun v _=>v=.tup [iI r.1,iI r.2]):=by
 refine bc (cat Try.f39 (pn 1)) Try.func39 Try.ntmps39 fun M w0=>(aZ ⟨[(0,.sl (lm aF v1)),(1,.agg (aA v2))],[],[],[]⟩ ?_);unfold pi at h;exact ac 10 (cp (p:=pn 122) n (Ef hK n h))
end
end Go.Proofs.Ytnpmlepplfaijaa

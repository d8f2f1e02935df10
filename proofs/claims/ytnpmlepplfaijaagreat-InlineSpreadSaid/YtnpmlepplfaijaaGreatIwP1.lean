/- The runs of the functions that InlineSpread reaches do what their plain forms say, part 1. Made by a program. -/
import Derived.Test.YtnpmlepplfaijaaGreatIwGk
import Derived.Test.YtnpmlepplfaijaaGreatIwP0
namespace Go.Proofs.YtnpmlepplfaijaaGreat
open Go.RowKit
set_option maxRecDepth 20000
set_option linter.all false
set_option linter.unusedVariables false
set_option linter.unusedSimpArgs false
noncomputable section
variable(M:Nat→Prop)(w0:aF)(r:ah)(v1:ai)(v2:aV)(v3 v4:Bool)(v5:cg)(v6:(List ai)×Bool)(v9:Int)(v10:List ah)(v15:Int)(v16:Bool)(v17 v18:ax)(v19:List ah)(v20 v21:ax)(v23:Bool)(v25:Int)(v26:ax)(v27:Bool)(v32:Int)(v33 v34:ax)(v35:Bool)(v36:Int×Bool)(v37:Bool)(v38 v39 v40 v47:Int)(v48 v50:(List ah))(v52:Bool)(v54:List ah)(m1 m2:Nat)(L1 L2:Int→(List ah)→Option ah)
abbrev vS:Cx:=⟨Tryz.prog,259,M,w0⟩
abbrev uc:=bodyPost Tryz.prog Tryz.f59 (bu M w0 (fun v s=>v=.agg (List.set (aH ({ r with Kids:=[] }:ah)) 66 (.ref 1054))∧look 1054 s.r=some ⟨59,67,lm aG r.Kids⟩))
abbrev jh(ks:List aq)(s:AS):=VE (vS M w0) (uc M w0 r) ks .normal s
abbrev df(n:Nat):aq:=.c (cat Tryz.f59 (pn n))
abbrev Dj:List aq:=[.b 4,df 131071]
abbrev uU:List aq:=kl (vS M w0) (uc M w0 r) Dj (cat Tryz.f59 (pn 1048564)) m2::Dj
abbrev D8:List aq:=[.b 0,df 4075,df 255]
abbrev PO:List aq:=kl (vS M w0) (uc M w0 r) D8 (cat Tryz.f59 (pn 32596)) m1::D8
def acA:AS:=⟨[(6,.ptr 6 0),(10,.ptr 10 0),(11,.ptr 11 0),(12,.sl (lm aQ v6.1)),(13,.bool v6.2),(15,iI v25),(199,iI (v19.length:Int)),(200,iI v47)],[(6,bm v2),(10,List.set (aH bA) 66 (.nils)),(11,List.set (aH (⟨1,v1.Node,v2.Margin.a3,0,(aa (v2.Content+v39)),v40,0,⟨#[]⟩,v1.Style,v33,v34,v35,[]⟩:ah)) 66 (.ref 1054))],[(1054,⟨59,67,lm aG v54⟩)],[6,10,11,1054]⟩
def aaG:AS:=⟨[(6,.ptr 6 0),(10,.ptr 10 0),(11,.ptr 11 0),(12,.sl (lm aQ v6.1)),(13,.bool v6.2),(15,iI v25),(24,iI v47),(199,iI (v19.length:Int)),(200,iI v47),(244,.bool v52)],[(6,bm v2),(10,List.set (aH bA) 66 (.nils)),(11,List.set (aH (⟨1,v1.Node,v2.Margin.a3,0,(aa (v2.Content+v39)),v40,0,⟨#[]⟩,v1.Style,v33,v34,v35,[]⟩:ah)) 66 (.ref 1054))],[(1054,⟨59,67,lm aG v50⟩)],[6,10,11,1054]⟩
def Gy:AS:=⟨[(6,.ptr 6 0),(10,.ptr 10 0),(11,.ptr 11 0),(12,.sl (lm aQ v6.1)),(13,.bool v6.2),(15,iI v25),(199,iI (v19.length:Int)),(200,iI v47)],[(6,bm v2),(10,List.set (aH bA) 66 (.nils)),(11,List.set (aH (⟨1,v1.Node,v2.Margin.a3,0,(aa (v2.Content+v39)),v40,0,⟨#[]⟩,v1.Style,v33,v34,v35,[]⟩:ah)) 66 (.ref 1054))],[(1054,⟨59,67,lm aG v48⟩)],[6,10,11,1054]⟩
def ace:AS:=⟨[(6,.ptr 6 0),(10,.ptr 10 0),(11,.ptr 11 0),(12,.sl (lm aQ v6.1)),(13,.bool v6.2),(14,iI v38),(15,iI v25)],[(6,bm v2),(10,List.set (aH bA) 66 (.nils)),(11,List.set (aH ({ bA with Kind:=1,Node:=v1.Node,Style:=v1.Style,Before:=v33,After:=v34,Empty:=v35 }:ah)) 66 (.ref 1054))],[(1054,⟨59,67,lm aG v19⟩)],[6,10,11,1054]⟩
def aba:AS:=⟨[(6,.ptr 6 0),(10,.ptr 10 0),(11,.ptr 11 0),(12,.sl (lm aQ v6.1)),(13,.bool v6.2),(14,iI (max v32 0)),(15,iI v25),(22,iI v36.1),(166,.bool v37)],[(6,bm v2),(10,List.set (aH bA) 66 (.nils)),(11,List.set (aH ({ bA with Kind:=1,Node:=v1.Node,Style:=v1.Style,Before:=v33,After:=v34,Empty:=v35 }:ah)) 66 (.ref 1054))],[(1054,⟨59,67,lm aG v19⟩)],[6,10,11,1054]⟩
def aar:AS:=⟨[(5,.ptr 5 0),(6,.ptr 6 0),(10,.ptr 10 0),(11,.ptr 11 0),(12,.sl (lm aQ v6.1)),(13,.bool v6.2),(14,iI v32),(15,iI v25)],[(5,aW v1),(6,bm v2),(10,List.set (aH bA) 66 (.nils)),(11,List.set (aH ({ bA with Kind:=1,Node:=v1.Node,Style:=v1.Style,Before:=v33,After:=v34,Empty:=v35 }:ah)) 66 (.ref 1054))],[(1054,⟨59,67,lm aG v19⟩)],[5,6,10,11,1054]⟩
def UD:AS:=⟨[(3,.bool v4),(5,.ptr 5 0),(6,.ptr 6 0),(10,.ptr 10 0),(11,.ptr 11 0),(12,.sl (lm aQ v6.1)),(13,.bool v6.2),(14,iI v15),(15,iI v25),(16,.ptr 16 0),(17,.ptr 17 0),(18,.bool v16),(113,.bool v27)],[(5,aW v1),(6,bm v2),(10,List.set (aH bA) 66 (.nils)),(11,List.set (aH ({ bA with Kind:=1,Node:=v1.Node,Style:=v1.Style,Before:=v26,After:=v21 }:ah)) 66 (.ref 1054)),(16,bS v17),(17,bS v18)],[(1054,⟨59,67,lm aG v19⟩)],[5,6,10,11,16,17,1054]⟩
def Vy:AS:=⟨[(2,.bool v3),(3,.bool v4),(5,.ptr 5 0),(6,.ptr 6 0),(10,.ptr 10 0),(11,.ptr 11 0),(12,.sl (lm aQ v6.1)),(13,.bool v6.2),(14,iI v15),(15,iI v25),(16,.ptr 16 0),(17,.ptr 17 0),(18,.bool v16)],[(5,aW v1),(6,bm v2),(10,List.set (aH bA) 66 (.nils)),(11,List.set (aH ({ bA with Kind:=1,Node:=v1.Node,Style:=v1.Style,Before:=v26,After:=v21 }:ah)) 66 (.ref 1054)),(16,bS v17),(17,bS v18)],[(1054,⟨59,67,lm aG v19⟩)],[5,6,10,11,16,17,1054]⟩
def We:AS:=⟨[(2,.bool v3),(3,.bool v4),(5,.ptr 5 0),(6,.ptr 6 0),(10,.ptr 10 0),(11,.ptr 11 0),(12,.sl (lm aQ v6.1)),(13,.bool v6.2),(14,iI v15),(15,iI 0),(16,.ptr 16 0),(17,.ptr 17 0),(18,.bool v16),(98,.bool v23)],[(5,aW v1),(6,bm v2),(10,List.set (aH bA) 66 (.nils)),(11,List.set (aH ({ bA with Kind:=1,Node:=v1.Node,Style:=v1.Style,Before:=v20,After:=v21 }:ah)) 66 (.ref 1054)),(16,bS v17),(17,bS v18)],[(1054,⟨59,67,lm aG v19⟩)],[5,6,10,11,16,17,1054]⟩
def VV:AS:=⟨[(2,.bool v3),(3,.bool v4),(5,.ptr 5 0),(6,.ptr 6 0),(10,.ptr 10 0),(11,.ptr 11 0),(12,.sl (lm aQ v6.1)),(13,.bool v6.2),(14,iI v15),(15,iI 0),(16,.ptr 16 0),(17,.ptr 17 0),(18,.bool v16)],[(5,aW v1),(6,bm v2),(10,List.set (aH bA) 66 (.nils)),(11,List.set (aH ({ bA with Kind:=1,Node:=v1.Node,Style:=v1.Style }:ah)) 66 (.ref 1054)),(16,bS v17),(17,bS v18)],[(1054,⟨59,67,lm aG v19⟩)],[5,6,10,11,16,17,1054]⟩
def K1:AS:=⟨[(2,.bool v3),(3,.bool v4),(5,.ptr 5 0),(6,.ptr 6 0),(9,.ptr 9 0),(10,.ptr 10 0),(11,.ptr 11 0),(12,.sl (lm aQ v6.1)),(13,.bool v6.2),(15,iI 0),(16,.ptr 16 0),(17,.ptr 17 0),(19,.ref 50),(36,.sl (lm aQ v6.1)),(37,iI (v6.1.length:Int)),(38,iI v9)],[(5,aW v1),(6,bm v2),(9,ct v5),(10,List.set (aH bA) 66 (.nils)),(11,List.set (aH ({ bA with Kind:=1,Node:=v1.Node,Style:=v1.Style }:ah)) 66 (.nils)),(16,bS cI),(17,bS cI)],[(50,⟨59,67,lm aG v10⟩)],[5,6,9,10,11,16,17,50]⟩
abbrev KD:Prop:=∀{v9:Int} {v10:(List ah)},L1 v9 v10=some r→LP (vS M w0) (uc M w0 r) D8 (cat Tryz.f59 (pn 32596)) m1 (K1 v1 v2 v3 v4 v5 v6 v9 v10)
abbrev zA:Prop:=∀{v47:Int} {v48:(List ah)},L2 v47 v48=some r→LP (vS M w0) (uc M w0 r) Dj (cat Tryz.f59 (pn 1048564)) m2 (Gy v1 v2 v6 v19 v25 v33 v34 v35 v39 v40 v47 v48)
variable{M w0 r v1 v2 v3 v4 v5 v6 v9 v10 v15 v16 v17 v18 v19 v20 v21 v23 v25 v26 v27 v32 v33 v34 v35 v36 v37 v38 v39 v40 v47 v48 v50 v52 v54 m1 m2 L1 L2}{K:Kn}{n:Nat}
theorem MY(hK:am K)(hL2:zA M w0 r v1 v2 v6 v19 v25 v33 v34 v35 v39 v40 m2 L2)(h:rW K n v1 v2 v6 v19 v25 v33 v34 v35 v39 v40 v47 L2 v54=some r):jh M w0 r (.b 5::df 8388519::uU M w0 r m2) (acA v1 v2 v6 v19 v25 v33 v34 v35 v39 v40 v47 v54):=by
 unfold rW at h;exact ae 2 (bt (hL2 h))
theorem LI(hK:am K)(hL2:zA M w0 r v1 v2 v6 v19 v25 v33 v34 v35 v39 v40 m2 L2)(h:qE K n v1 v2 v6 v19 v25 v33 v34 v35 v39 v40 v47 v50 L2 v52=some r):jh M w0 r (df 268432591 :: .b 5::df 8388519::uU M w0 r m2) (aaG v1 v2 v6 v19 v25 v33 v34 v35 v39 v40 v47 v50 v52):=by
 unfold qE at h;obtain⟨h64,h⟩|⟨h64,h⟩:=ak h
 ·refine ag 244 h64 (bh 2 1 (bI [6,10,11,12,13,15,24,199,200] [6,10,11] [1054] ?_));obtain⟨h65,h⟩:=aK h;obtain⟨v53,h66,h⟩:=bind_some h;obtain⟨h67,h⟩:=aK h;exact bF 1 (nu 245 [.ptr 11 66,.ref 1054,iI v47,.ptr 11 66,.ref 1054,iI v47,.eptr 1054 67 (v47.toNat) 0,.agg (aH (gD v50 v47)),.ptr 6 12,iI v2.Content,.agg (aH v53),.eptr 1054 67 (v47.toNat) 0]) [] [] [qX 1054 ⟨59,67,lm aG (List.set v50 v47.toNat v53)⟩] (av (vz 6) (bv (dU 1054 67 aG (L:=v50) h65) (bv (cp 59 0 aG aH (cj h67).2 (dc)) (av (vz 2) (ab (cb 0 1 255 (Ly hK h66)) (bv (dU 1054 67 aG (L:=v50) h67) (ab (g9 (m:=0) (tL 1054 59 67 0 aG aH v53 (cj h67).2 (dc))) bG))))))) (ae 0 (MY hK hL2 h))
 ·exact ag 244 h64 (ae 2 (MY hK hL2 h))
theorem QX(hK:am K)(hL2:zA M w0 r v1 v2 v6 v19 v25 v33 v34 v35 v39 v40 m2 L2)(h:qz K n v1 v2 v6 v19 v25 v33 v34 v35 v39 v40 L2 v47 v48=some r):jh M w0 r (df 1048564::uU M w0 r m2) (Gy v1 v2 v6 v19 v25 v33 v34 v35 v39 v40 v47 v48):=by
 unfold qz at h;refine az 6 7 3 ?_;obtain⟨h54,h⟩|⟨h54,h⟩:=ak h
 ·refine ag 201 h54 (cQ 18 19 5 3 7 (bI [6,10,11,12,13,15,24,199,200] [6,10,11] [1054] ?_));obtain⟨h55,h⟩:=aK h;obtain⟨h56,h⟩:=aK h;refine bF 1 (nu 203 [.ptr 11 66,.ref 1054,iI v47,.eptr 1054 67 (v47.toNat) 0,.eptr 1054 67 (v47.toNat) 2,iI ((gD v48 v47).X),.ptr 6 4,.ptr 6 7,iI v2.Border.a3,.ptr 6 8,.ptr 6 11,iI v2.Padding.a3,iI (aa (v2.Border.a3+v2.Padding.a3)),iI (aa (((gD v48 v47).X)+(aa (v2.Border.a3+v2.Padding.a3)))),.eptr 1054 67 (v47.toNat) 0,.eptr 1054 67 (v47.toNat) 2]) [] [] [qX 1054 ⟨59,67,lm aG (List.set v48 v47.toNat ({ (gD v48 v47)with X:=(aa (((gD v48 v47).X)+(aa (v2.Border.a3+v2.Padding.a3)))) }:ah))⟩] (av (vz 3) (bv (dU 1054 67 aG (L:=v48) h55) (av [.v 0 1] (bv (cp 3 2 aG aH (cj h56).2 (dc)) (av (vz 8) (ab (jd (lo:=0) (k:=2) (eT ⟨(by kernel_rfl),(ft (dU 1054 67 aG (L:=v48) h56) (by kernel_rfl))⟩ (eT ⟨(by kernel_rfl),(ft (dU 1054 67 aG (L:=(List.set v48 v47.toNat ({ (gD v48 v47)with X:=(aa (((gD v48 v47).X)+(aa (v2.Border.a3+v2.Padding.a3)))) }:ah))) h56) (by kernel_rfl))⟩ jV))) (av [.v 0 1] (ab (g9 (m:=0) (tL 1054 59 67 2 aG aH ({ (gD v48 v47)with X:=(aa (((gD v48 v47).X)+(aa (v2.Border.a3+v2.Padding.a3)))) }:ah) (cj h56).2 (dc))) bG)))))))) ?_
  obtain⟨v49,h57,h⟩:=bW h;refine bB (ks':=df 134216294::df 134216295 :: .b 5::df 8388519::uU M w0 r m2) 1 ⟨[(6,.ptr 6 0),(10,.ptr 10 0),(11,.ptr 11 0),(12,.sl (lm aQ v6.1)),(13,.bool v6.2),(15,iI v25),(24,iI v47),(199,iI (v19.length:Int)),(200,iI v47)],[(6,bm v2),(10,List.set (aH bA) 66 (.nils)),(11,List.set (aH (⟨1,v1.Node,v2.Margin.a3,0,(aa (v2.Content+v39)),v40,0,⟨#[]⟩,v1.Style,v33,v34,v35,[]⟩:ah)) 66 (.ref 1054))],[(1054,⟨59,67,lm aG v49⟩)],[6,10,11,1054]⟩ ?_ (by subst h57;kernel_rfl);obtain⟨h58,h⟩:=aK h;obtain⟨h59,h⟩:=aK h;refine bF 1 (nu 219 [.ptr 11 66,.ref 1054,iI v47,.eptr 1054 67 (v47.toNat) 0,.eptr 1054 67 (v47.toNat) 3,iI ((gD v49 v47).Y),.ptr 6 4,.ptr 6 4,iI v2.Border.a0,.ptr 6 8,.ptr 6 8,iI v2.Padding.a0,iI (aa (v2.Border.a0+v2.Padding.a0)),iI v25,iI (aa ((aa (v2.Border.a0+v2.Padding.a0))+v25)),iI (aa (((gD v49 v47).Y)+(aa ((aa (v2.Border.a0+v2.Padding.a0))+v25)))),.eptr 1054 67 (v47.toNat) 0,.eptr 1054 67 (v47.toNat) 3]) [] [] [qX 1054 ⟨59,67,lm aG (List.set v49 v47.toNat ({ (gD v49 v47)with Y:=(aa (((gD v49 v47).Y)+(aa ((aa (v2.Border.a0+v2.Padding.a0))+v25)))) }:ah))⟩] (av (vz 3) (bv (dU 1054 67 aG (L:=v49) h58) (av [.v 0 1] (bv (cp 3 3 aG aH (cj h59).2 (dc)) (av (vz 10) (ab (jd (lo:=0) (k:=2) (eT ⟨(by kernel_rfl),(ft (dU 1054 67 aG (L:=v49) h59) (by kernel_rfl))⟩ (eT ⟨(by kernel_rfl),(ft (dU 1054 67 aG (L:=(List.set v49 v47.toNat ({ (gD v49 v47)with Y:=(aa (((gD v49 v47).Y)+(aa ((aa (v2.Border.a0+v2.Padding.a0))+v25)))) }:ah))) h59) (by kernel_rfl))⟩ jV))) (av [.v 0 1] (ab (g9 (m:=0) (tL 1054 59 67 3 aG aH ({ (gD v49 v47)with Y:=(aa (((gD v49 v47).Y)+(aa ((aa (v2.Border.a0+v2.Padding.a0))+v25)))) }:ah) (cj h59).2 (dc))) bG)))))))) ?_
  obtain⟨v50,h60,h⟩:=bW h;refine bB (ks':=df 268432590::df 268432591 :: .b 5::df 8388519::uU M w0 r m2) 1 ⟨[(6,.ptr 6 0),(10,.ptr 10 0),(11,.ptr 11 0),(12,.sl (lm aQ v6.1)),(13,.bool v6.2),(15,iI v25),(24,iI v47),(199,iI (v19.length:Int)),(200,iI v47)],[(6,bm v2),(10,List.set (aH bA) 66 (.nils)),(11,List.set (aH (⟨1,v1.Node,v2.Margin.a3,0,(aa (v2.Content+v39)),v40,0,⟨#[]⟩,v1.Style,v33,v34,v35,[]⟩:ah)) 66 (.ref 1054))],[(1054,⟨59,67,lm aG v50⟩)],[6,10,11,1054]⟩ ?_ (by subst h60;kernel_rfl);refine aj 2 ?_;obtain⟨h61,h⟩|⟨h61,h⟩:=ak h
  ·refine aA 238 h61 (aL 4 2 ?_);obtain⟨h62,h⟩:=aK h;refine aB (bw aQ aW h62 (fi) (dK)) (aL 6 1 ?_);obtain⟨v51,h63,h⟩:=bind_some h;exact aD (Nf hK h63) (ac (ae 0 (LI hK hL2 h)))
  ·exact aA 238 h61 (ac (ae 0 (LI hK hL2 h)))
 ·refine ag 201 h54 (aE 8 ?_);cases h;exact fa
theorem W6(hK:am K)(m:Nat):zA M w0 r v1 v2 v6 v19 v25 v33 v34 v35 v39 v40 m (l7 K n v1 v2 v6 v19 v25 v33 v34 v35 v39 v40 m):=by
 induction m with
 | zero=>intro v47 v48 h;cases h
 | succ m ih=>intro v47 v48 h;have h:qz K n v1 v2 v6 v19 v25 v33 v34 v35 v39 v40 (l7 K n v1 v2 v6 v19 v25 v33 v34 v35 v39 v40 m) v47 v48=some r:=h;exact bp (QX hK ih h)
theorem Gl(hK:am K)(h:oX K n v1 v2 v6 v19 v25 v33 v34 v35 v38=some r):jh M w0 r [df 8191] (ace v1 v2 v6 v19 v25 v33 v34 v35 v38):=by
 unfold oX at h;refine az 6 7 3 (bI [6,10,11,12,13,14,15] [6,10,11] [1054] ?_);obtain⟨v39,h38,h⟩:=bind_some h;refine bF 1 (nu 173 [.ptr 6 12,iI v2.Content,.agg (bm v2),iI v39,iI (aa (v2.Content+v39)),.ptr 11 4]) [] [] [bR Tryz.prog 259 Tryz.f59 (pn 32766) 6] (av (vz 3) (ab (cb 0 1 176 (Tw hK h38)) (av (vz 2) (ab (bQ 0) bG)))) ?_;obtain⟨v40,h39,h⟩:=bW h;refine bB (ks':=[df 262140,df 262141,df 131071]) 4 ⟨[(6,.ptr 6 0),(10,.ptr 10 0),(11,.ptr 11 0),(12,.sl (lm aQ v6.1)),(13,.bool v6.2),(15,iI v25)],[(6,bm v2),(10,List.set (aH bA) 66 (.nils)),(11,List.set (aH (⟨1,v1.Node,v2.Margin.a3,0,(aa (v2.Content+v39)),v40,0,⟨#[]⟩,v1.Style,v33,v34,v35,[]⟩:ah)) 66 (.ref 1054))],[(1054,⟨59,67,lm aG v19⟩)],[6,10,11,1054]⟩ ?_ (by subst h39;kernel_rfl);exact aj 2 (aB (bq aG v19) (ac (ae 1 (cf (p:=pn 524282) n (W6 hK n h)))))
theorem Ij(hK:am K)(h:qV K n v1 v2 v6 v19 v25 v32 v33 v34 v35 v36 v37=some r):jh M w0 r [df 32763,df 8191] (aba v1 v2 v6 v19 v25 v32 v33 v34 v35 v36 v37):=by
 unfold qV at h;obtain⟨h37,h⟩|⟨h37,h⟩:=ak h
 ·exact ag 166 h37 (ae 2 (Gl hK h))
 ·exact ag 166 h37 (ae 2 (Gl hK h))
theorem uI(hK:am K)(h:ij K n v1 v2 v6 v19 v25 v32 v33 v34 v35=some r):jh M w0 r [.b 3,df 2047] (aar v1 v2 v6 v19 v25 v32 v33 v34 v35):=by
 unfold ij at h;refine ii 12 13 7 5 (aj 3 ?_);obtain⟨v36,h35,h⟩:=bind_some h;refine aD (eU hK h35) (ac (az 2 3 1 (aj 2 ?_)));obtain⟨h36,h⟩|⟨h36,h⟩:=ak h
 ·exact aA 160 h36 (ac (ae 0 (Ij hK h)))
 ·exact aA 160 h36 (ac (ae 0 (Ij hK h)))
theorem E6(hK:am K)(h:lY K n v1 v2 v4 v6 v15 v16 v17 v18 v19 v21 v25 v26 v27=some r):jh M w0 r [df 8185,.b 3,df 2047] (UD v1 v2 v4 v6 v15 v16 v17 v18 v19 v21 v25 v26 v27):=by
 unfold lY at h;obtain⟨h27,h⟩|⟨h27,h⟩:=ak h
 ·refine ag 113 h27 (az 4 5 2 (aj 4 ?_));obtain⟨v28,h28,h⟩:=bind_some h;exact aD (vt hK h28) (ac (ae 5 (uI hK h)))
 ·refine ag 113 h27 (bh 7 3 ?_);obtain⟨h29,h⟩|⟨h29,h⟩:=ak h
  ·refine ag 131 h29 (bh 11 5 ?_);obtain⟨h30,h⟩|⟨h30,h⟩:=ak h
   ·refine ag 134 h30 (bh 2 1 (aj 3 ?_));obtain⟨v29,h31,h⟩:=bind_some h;exact aD (vt hK h31) (ac (ae 0 (uI hK h)))
   ·exact ag 134 h30 (ae 2 (uI hK h))
  ·refine ag 131 h29 (bh 7 3 ?_);obtain⟨h32,h⟩|⟨h32,h⟩:=ak h
   ·refine ag 140 h32 (az 4 5 2 (aj 3 ?_));obtain⟨v30,h33,h⟩:=bind_some h;exact aD (vt hK h33) (ac (ae 1 (uI hK h)))
   ·refine ag 140 h32 (bh 3 1 (aj 3 ?_));obtain⟨v31,h34,h⟩:=bind_some h;exact aD (rq hK h34) (ac (ae 0 (uI hK h)))
theorem Cm(hK:am K)(h:nq K n v1 v2 v3 v4 v6 v15 v16 v17 v18 v19 v21 v25 v26=some r):jh M w0 r [.b 2,df 1023] (Vy v1 v2 v3 v4 v6 v15 v16 v17 v18 v19 v21 v25 v26):=by
 unfold nq at h;refine cQ 8 9 3 3 4 (aj 2 ?_);obtain⟨h25,h⟩|⟨h25,h⟩:=ak h
 ·refine aA 115 h25 (aL 5 3 ?_);obtain⟨h26,h⟩|⟨h26,h⟩:=ak h
  ·exact aA 118 h26 (ac (ae 0 (E6 hK h)))
  ·exact aA 118 h26 (ac (ae 0 (E6 hK h)))
 ·exact aA 115 h25 (ac (ae 0 (E6 hK h)))
theorem MD(hK:am K)(h:ot K n v1 v2 v3 v4 v6 v15 v16 v17 v18 v19 v20 v21 v23=some r):jh M w0 r [df 16359,.b 2,df 1023] (We v1 v2 v3 v4 v6 v15 v16 v17 v18 v19 v20 v21 v23):=by
 unfold ot at h;obtain⟨h23,h⟩|⟨h23,h⟩:=ak h
 ·refine ag 98 h23 (bh 2 1 (aj 1 ?_));obtain⟨v24,h24,h⟩:=bind_some h;exact aD (rq hK h24) (ac (ae 0 (Cm hK h)))
 ·exact ag 98 h23 (ae 2 (Cm hK h))
theorem JC(hK:am K)(h:lF K n v1 v2 v3 v4 v6 v15 v16 v17 v18 v19=some r):jh M w0 r [df 255] (VV v1 v2 v3 v4 v6 v15 v16 v17 v18 v19):=by
 unfold lF at h;refine az 2 3 1 (bI [2,3,5,6,10,11,12,13,14,15,16,17,18] [5,6,10,11,16,17] [1054] ?_);obtain⟨v20,h18,h⟩:=bind_some h;obtain⟨v21,h19,h⟩:=bind_some h;refine bF 2 (nu 81 [.ptr 6 0,.ptr 6 0,iI v2.Margin.a0,.agg (bS v20),.ptr 6 0,.ptr 6 2,iI v2.Margin.a2,.agg (bS v21),.ptr 11 61,.ptr 11 63]) [] [] [bR Tryz.prog 259 Tryz.f59 (pn 510) 9,bR Tryz.prog 259 Tryz.f59 (pn 510) 11] (av (vz 3) (ab (cb 0 1 84 (L7 hK h18)) (av [.v 0 2,.v 0 2,.v 0 2] (ab (cb 0 1 88 (L7 hK h19)) (av [.v 0 1] (ab (bQ 0) (av [.v 1 1] (ab (bQ 1) bG)))))))) (fr 9 2 3 4 ?_);obtain⟨h20,h⟩|⟨h20,h⟩:=ak h
 ·refine ag 91 h20 (bh 2 1 (aj 3 ?_));obtain⟨v22,h21,h⟩:=bind_some h;exact aD (vt hK h21) (ac (ae 0 (Cm hK h)))
 ·refine ag 91 h20 (az 6 7 2 (aj 3 ?_));obtain⟨h22,h⟩|⟨h22,h⟩:=ak h
  ·exact aA 101 h22 (ac (ae 0 (MD hK h)))
  ·exact aA 101 h22 (ac (ae 0 (MD hK h)))
theorem Yw(hK:am K)(hL1:KD M w0 r v1 v2 v3 v4 v5 v6 m1 L1)(h:wb K n v1 v2 v3 v4 v5 v6 L1 v9 v10=some r):jh M w0 r (df 32596::PO M w0 r m1) (K1 v1 v2 v3 v4 v5 v6 v9 v10):=by
 unfold wb at h;refine az 6 7 3 ?_;obtain⟨h11,h⟩|⟨h11,h⟩:=ak h
 ·refine ag 39 h11 (cQ 8 9 1 3 5 (aj 0 ?_));obtain⟨h12,h⟩:=aK h;refine aB (bw aQ aW h12 (fi) (dK)) (ac (aj 6 ?_));obtain⟨v11,h13,h⟩:=bind_some h;refine ox (hK.o7 h13) (aB (fB aG ([v11]:List ah) (new:=[aH v11]) (by simp only[List.map_cons,List.map_nil,dc])) ?_);obtain⟨h14,h⟩:=aK h;exact aB (cD 50 50 59 67 aG (rfl) (fc) h14) (ac (ae 2 (bt (hL1 h))))
 ·refine ag 39 h11 (co (ks':=[df 4075,df 255]) 5 (aj 1 (lT 50 ?_)));obtain⟨v12,h15,h⟩:=bind_some h;exact dx 1054 (aa3 hK h15) (wg (i:=0) rfl) (ac (ae 0 (JC hK h)))
theorem W0(hK:am K)(m:Nat):KD M w0 r v1 v2 v3 v4 v5 v6 m (pk K n v1 v2 v3 v4 v5 v6 m):=by
 induction m with
 | zero=>intro v9 v10 h;cases h
 | succ m ih=>intro v9 v10 h;have h:wb K n v1 v2 v3 v4 v5 v6 (pk K n v1 v2 v3 v4 v5 v6 m) v9 v10=some r:=h;exact bp (Yw hK ih h)
theorem L5(hK:am K)(h:m5 K n v1 v2 v3 v4 v5=some r):aO Tryz.prog 59 [.agg (aW v1),.agg (bm v2),.bool v3,.bool v4,.agg (ct v5)] (fun v s=>v=.agg (List.set (aH ({ r with Kids:=[] }:ah)) 66 (.ref 1054))∧look 1054 s.r=some ⟨59,67,lm aG r.Kids⟩):=by
 refine bg (cat Tryz.f59 (pn 1)) Tryz.func59 Tryz.ntmps59 fun M w0=>(bc ⟨[(0,.agg (aW v1)),(1,.agg (bm v2)),(2,.bool v3),(3,.bool v4),(4,.agg (ct v5))],[],[],[]⟩ ?_);unfold m5 at h;refine az 14 15 5 (aj 1 ?_);obtain⟨v6,h1,h⟩:=bind_some h;refine aD (MM hK h1) (ac (az 61 31 9 ?_));obtain⟨h2,h⟩|⟨h2,h⟩:=ak h
 ·exact ag 35 h2 (bH 20 21 11 5 (aj 1 (aB (bq aQ v6.1) (ac (jF 2 0 1 (bI [2,3,5,6,9,10,11,12,13,15,16,17,19,36,37,38] [5,6,9,10,11,16,17] [] (fh 50 19 59 67 (ae 0 (cf (p:=pn 16298) n (W0 hK n h))))))))))
 ·refine ag 35 h2 (az 6 7 2 (aj 7 ?_));obtain⟨v13,h16,h⟩:=bind_some h;refine ox (hK.rC h16) (ac (az 2 3 1 (aj 2 ?_)));obtain⟨v14,h17,h⟩:=bind_some h;exact dx 1075 (QB hK h17) (fx 5) (ac (aj 2 (aB (bq aG v14) (ac (bI [2,3,5,6,10,11,12,13,14,15,16,17,18] [5,6,10,11,16,17] [1075] (HD 1075 1054 (ae 0 (JC hK h))))))))
end
noncomputable section
variable(M:Nat→Prop)(w0:aF)(r:ah)(v1:ai)(v2:aV)(v3:cg)  
variable{M w0 r v1 v2 v3}{K:Kn}{n:Nat}
theorem XR(hK:am K)(h:n4 K n v1 v2 v3=some r):aO Tryz.prog 27 [.agg (aW v1),.agg (bm v2),.agg (ct v3)] (fun v s=>v=.agg (List.set (aH ({ r with Kids:=[] }:ah)) 66 (.ref 1010))∧look 1010 s.r=some ⟨59,67,lm aG r.Kids⟩):=by
 refine bg (cat Tryz.f27 (pn 1)) Tryz.func27 Tryz.ntmps27 fun M w0=>(bc ⟨[(0,.agg (aW v1)),(1,.agg (bm v2)),(2,.agg (ct v3))],[],[],[]⟩ ?_);unfold n4 at h;refine az 6 7 3 (aj 3 ?_);obtain⟨v4,h1,h⟩:=bind_some h;refine dx 1010 (L5 hK h1) (pQ (i:=66) (by kernel_rfl)) (ac (aE 1 ?_));cases h;exact fa
end
noncomputable section
variable(M:Nat→Prop)(w0:aF)(r:ay)(v1:ai)(v2:Int)(v3:cg)  
variable{M w0 r v1 v2 v3}{K:Kn}{n:Nat}
theorem YF(hK:am K)(h:kE K n v1 v2 v3=some r):aO Tryz.prog 23 [.agg (aW v1),.cptr ([iI v2]),.cptr (ct v3)] (fun v _=>v=.agg (aN r)):=by
 refine bg (cat Tryz.f23 (pn 1)) Tryz.func23 Tryz.ntmps23 fun M w0=>(bc ⟨[(0,.agg (aW v1)),(1,.cptr ([iI v2])),(2,.cptr (ct v3))],[],[],[]⟩ ?_);unfold kE at h;refine az 6 7 3 (bI [1,2,3,4] [3,4] [] ?_);obtain⟨v4,h1,h⟩:=bind_some h;obtain⟨v5,h2,h⟩:=bind_some h;refine bF 1 (nu 7 [.ptr 3 2,.agg (aJ v1.Style),iI v2,.agg (aW v1),iI v2,.agg (ct v3),iI v4,.agg (bm v5)]++nu 5 [.ptr 5 0]) [(5,bm dM)] [] [bR Tryz.prog 36 Tryz.f23 (pn 6) 9] (av (vz 6) (ab (cb 0 1 13 (ZR hK h1)) (ab (cb 0 1 14 (wu hK h2)) (ab (qh 0 1 75 5 (bm dM)) (ab (bQ 0) bG))))) (az 2 3 1 (bI [1,2,3,4,5] [3,4,5] [] ?_));obtain⟨v7,h4,h⟩:=bind_some h;obtain⟨v8,h5,h⟩:=bind_some h;refine bF 1 (nu 15 [.agg (aW v1),.agg (bm v5),.agg (ct v3),.agg (aH v7),iI v2,.agg (aH v8)]++nu 6 [.ptr 6 0]) [(6,List.set (aH bA) 66 (.nils))] [] [bR Tryz.prog 36 Tryz.f23 (pn 14) 7] (av (vz 3) (ab (cb 0 1 18 (aO.bZ (XR hK h4) (V':=.agg (aH v7)) (by kernel_rfl))) (av [.v 0 1] (ab (cb 0 1 20 (Ly hK h5)) (ab (qh 0 1 59 6 (List.set (aH bA) 66 (.nils))) (ab (bQ 0) bG)))))) (az 2 3 1 (bI [4,5,6] [4,5,6] [] ?_))
 obtain⟨v9,h6,h⟩:=bind_some h;obtain⟨v10,h7,h⟩:=bind_some h;obtain⟨v11,h8,h⟩:=bind_some h;refine bF 1 (nu 21 [.agg (bm v5),iI v9,.ptr 6 5,iI v8.H,.ptr 6 61,.agg (bS v8.Before),iI v10,iI (aa (v8.H+v10)),.ptr 6 63,.agg (bS v8.After),iI v11,iI (aa ((aa (v8.H+v10))+v11)),.agg (aH v8),.sl (lm aG [v8]),.agg (aN ({ cq with Width:=v9,Above:=(aa ((aa (v8.H+v10))+v11)),Box:=[v8] }:ay))]) [] [] [bR Tryz.prog 36 Tryz.f23 (pn 30) 15] (av [.v 0 1] (ab (cb 0 1 22 (s7 hK h6)) (av (vz 4) (ab (cb 0 1 27 (rq hK h7)) (av (vz 3) (ab (cb 0 1 31 (rq hK h8)) (av (vz 2) (bv (fB aG ([v8]:List ah) (new:=[aH v8]) (by simp only[List.map_cons,List.map_nil,dc])) (av [.v 0 1] (ab (bQ 0) bG)))))))))) (aE 1 ?_);cases h;exact ba
end
noncomputable section
variable(M:Nat→Prop)(w0:aF)(r:List ay)(v1:List ai)(v2:Int)(v3:cg)  
variable{M w0 r v1 v2 v3}{K:Kn}{n:Nat}
theorem Jx(hK:am K)(h:qy K n v1 v2 v3=some r):aO Tryz.prog 8 [.sl (lm aQ v1),iI v2,.agg (ct v3)] (fun v s=>v=.ref 1009∧look 1009 s.r=some ⟨46,62,lm aN r⟩):=by
 refine bg (cat Tryz.f8 (pn 1)) Tryz.func8 Tryz.ntmps8 fun M w0=>(bc ⟨[(0,.sl (lm aQ v1)),(1,iI v2),(2,.agg (ct v3))],[],[],[]⟩ ?_);unfold qy at h;refine az 6 7 3 (aj 1 (Cs 4 4 ([iI v2]) (Cs 5 5 (ct v3) (SI 23 #[(.tmp 4),(.tmp 5)] [.cptr ([iI v2]),.cptr (ct v3)] ?_))));obtain⟨v4,h1,h⟩:=bind_some h;refine dx 1009 (YE hK h1) (fx 117) (ac (aE 1 ?_));cases h;exact fa
end
noncomputable section
variable(M:Nat→Prop)(w0:aF)(r:Int)(v1:List ay)(v2 v4:Int)(v5:Bool)(m1:Nat)(L1:Int→Option Int)
abbrev DS:Cx:=⟨Tryz.prog,22,M,w0⟩
abbrev Ft:=bodyPost Tryz.prog Tryz.f44 (bu M w0 (fun v _=>v=iI r))
abbrev GZ(ks:List aq)(s:AS):=VE (DS M w0) (Ft M w0 r) ks .normal s
abbrev xl(n:Nat):aq:=.c (cat Tryz.f44 (pn n))
abbrev D0:List aq:=[.b 0,xl 15]
abbrev GR:List aq:=kl (DS M w0) (Ft M w0 r) D0 (cat Tryz.f44 (pn 56)) m1::D0
def P1:AS:=⟨[(0,.sl (lm aN v1)),(5,iI v4),(18,.bool v5)],[],[],[]⟩
def MX:AS:=⟨[(0,.sl (lm aN v1)),(5,iI v4)],[],[],[]⟩
abbrev DQ:Prop:=∀{v4:Int},L1 v4=some r→LP (DS M w0) (Ft M w0 r) D0 (cat Tryz.f44 (pn 56)) m1 (MX v1 v4)
variable{M w0 r v1 v2 v4 v5 m1 L1}{K:Kn}{n:Nat}
theorem JX(hK:am K)(hL1:DQ M w0 r v1 m1 L1)(h:sU K n v1 v4 L1 v5=some r):GZ M w0 r (xl 225::xl 113::GR M w0 r m1) (P1 v1 v4 v5):=by
 unfold sU at h;obtain⟨h6,h⟩|⟨h6,h⟩:=ak h
 ·exact ag 18 h6 (ae 5 (bt (hL1 h)))
 ·refine ag 18 h6 (aE 8 ?_);cases h;exact ba
theorem Wp(hK:am K)(hL1:DQ M w0 r v1 m1 L1)(h:sW K n v1 L1 v4=some r):GZ M w0 r (xl 56::GR M w0 r m1) (MX v1 v4):=by
 unfold sW at h;refine bH 4 5 3 2 (aj 2 (aB (bq aN v1) (aL 5 2 ?_)));obtain⟨h4,h⟩|⟨h4,h⟩:=ak h
 ·refine aA 12 h4 (aL 7 2 ?_);obtain⟨h5,h⟩:=aK h;exact aB (bw aN aN h5 (gi) ((fun _=>rfl))) (ac (ae 0 (JX hK hL1 h)))
 ·exact aA 12 h4 (ac (ae 0 (JX hK hL1 h)))
theorem aa4(hK:am K)(m:Nat):DQ M w0 r v1 m (sA K n v1 m):=by
 induction m with
 | zero=>intro v4 h;cases h
 | succ m ih=>intro v4 h;have h:sW K n v1 (sA K n v1 m) v4=some r:=h;exact bp (Wp hK ih h)
theorem BS(hK:am K)(h:n9 K n v1 v2=some r):aO Tryz.prog 44 [.sl (lm aN v1),iI v2] (fun v _=>v=iI r):=by
 refine bg (cat Tryz.f44 (pn 1)) Tryz.func44 Tryz.ntmps44 fun M w0=>(bc ⟨[(0,.sl (lm aN v1)),(1,iI v2)],[],[],[]⟩ ?_);unfold n9 at h;exact ae 6 (cf (p:=pn 28) n (aa4 hK n h))
end
noncomputable section
variable(M:Nat→Prop)(w0:aF)(r:Int)(v1:List ay)(v3:Int)(m1:Nat)(L1:Int→Option Int)
abbrev D5:Cx:=⟨Tryz.prog,18,M,w0⟩
abbrev BW:=bodyPost Tryz.prog Tryz.f77 (bu M w0 (fun v _=>v=iI r))
abbrev Wn(ks:List aq)(s:AS):=VE (D5 M w0) (BW M w0 r) ks .normal s
abbrev IM(n:Nat):aq:=.c (cat Tryz.f77 (pn n))
abbrev BJ:List aq:=[.b 0,IM 7]
abbrev Wq:List aq:=kl (D5 M w0) (BW M w0 r) BJ (cat Tryz.f77 (pn 52)) m1::BJ
def LJ:AS:=⟨[(0,.sl (lm aN v1)),(3,iI v3)],[],[],[]⟩
abbrev Gt:Prop:=∀{v3:Int},L1 v3=some r→LP (D5 M w0) (BW M w0 r) BJ (cat Tryz.f77 (pn 52)) m1 (LJ v1 v3)
variable{M w0 r v1 v3 m1 L1}{K:Kn}{n:Nat}
theorem QD(hK:am K)(hL1:Gt M w0 r v1 m1 L1)(h:rX K n v1 L1 v3=some r):Wn M w0 r (IM 52::Wq M w0 r m1) (LJ v1 v3):=by
 unfold rX at h;refine az 5 3 3 ?_;obtain⟨h5,h⟩|⟨h5,h⟩:=ak h
 ·refine ag 8 h5 (cQ 8 9 1 3 5 (aj 2 ?_));obtain⟨h6,h⟩:=aK h;refine aB (bw aN aN h6 (gi) ((fun _=>rfl))) (ac ?_);obtain⟨h7,h⟩|⟨h7,h⟩:=ak h
  ·refine ag 16 h7 (aE 9 ?_);cases h;exact ba
  ·exact ag 16 h7 (ae 4 (bt (hL1 h)))
 ·refine ag 8 h5 (aE 8 ?_);cases h;exact ba
theorem ZJ(hK:am K)(m:Nat):Gt M w0 r v1 m (su K n v1 m):=by
 induction m with
 | zero=>intro v3 h;cases h
 | succ m ih=>intro v3 h;have h:rX K n v1 (su K n v1 m) v3=some r:=h;exact bp (QD hK ih h)
theorem Jo(hK:am K)(h:rO K n v1=some r):aO Tryz.prog 77 [.sl (lm aN v1)] (fun v _=>v=iI r):=by
 refine bg (cat Tryz.f77 (pn 1)) Tryz.func77 Tryz.ntmps77 fun M w0=>(bc ⟨[(0,.sl (lm aN v1))],[],[],[]⟩ ?_);unfold rO at h;exact bH 12 13 7 4 (aj 1 (aB (bq aN v1) (ac (ae 1 (cf (p:=pn 26) n (ZJ hK n h))))))
end
noncomputable section
variable(M:Nat→Prop)(w0:aF)(r:Int)(v1:List ay)(v2 v3 v5:Int)(m1:Nat)(L1:Int→Int→Option Int)
abbrev Dn:Cx:=⟨Tryz.prog,33,M,w0⟩
abbrev CO:=bodyPost Tryz.prog Tryz.f45 (bu M w0 (fun v _=>v=iI r))
abbrev Mt(ks:List aq)(s:AS):=VE (Dn M w0) (CO M w0 r) ks .normal s
abbrev Ex(n:Nat):aq:=.c (cat Tryz.f45 (pn n))
abbrev C7:List aq:=[.b 0,Ex 15]
abbrev T9:List aq:=kl (Dn M w0) (CO M w0 r) C7 (cat Tryz.f45 (pn 116)) m1::C7
def UW:AS:=⟨[(3,iI v5)],[],[],[]⟩
def Ki:AS:=⟨[(0,.sl (lm aN v1)),(3,iI v2),(7,.sl (lm aN v1)),(8,iI (v1.length:Int)),(9,iI v3)],[],[],[]⟩
abbrev Gw:Prop:=∀{v2:Int} {v3:Int},L1 v2 v3=some r→LP (Dn M w0) (CO M w0 r) C7 (cat Tryz.f45 (pn 116)) m1 (Ki v1 v2 v3)
variable{M w0 r v1 v2 v3 v5 m1 L1}{K:Kn}{n:Nat}
theorem JP(hK:am K)(h:w7 K n v5=some r):Mt M w0 r [Ex 31] (UW v5):=by
 unfold w7 at h;refine aE 3 ?_;cases h;exact ba
theorem RS(hK:am K)(hL1:Gw M w0 r v1 m1 L1)(h:rL K n v1 L1 v2 v3=some r):Mt M w0 r (Ex 116::T9 M w0 r m1) (Ki v1 v2 v3):=by
 unfold rL at h;refine az 6 7 3 ?_;obtain⟨h3,h⟩|⟨h3,h⟩:=ak h
 ·refine ag 10 h3 (cQ 8 9 1 3 5 (aj 0 ?_));obtain⟨h4,h⟩:=aK h;exact aB (bw aN aN h4 (gi) ((fun _=>rfl))) (ac (ae 3 (bt (hL1 h))))
 ·refine ag 10 h3 (Nj 4 5 3 7 (aj 1 ?_));obtain⟨v4,h5,h⟩:=bind_some h;refine aD (Jo hK h5) (ac (bh 3 2 ?_));obtain⟨h6,h⟩|⟨h6,h⟩:=ak h
  ·refine ag 24 h6 (bh 2 1 (aj 3 ?_));obtain⟨h7,h⟩:=aK h;exact aB (bw aN aN h7 (gi) ((fun _=>rfl))) (ac (ae 0 (JP hK h)))
  ·exact ag 24 h6 (ae 2 (JP hK h))
theorem ZT(hK:am K)(m:Nat):Gw M w0 r v1 m (rM K n v1 m):=by
 induction m with
 | zero=>intro v2 v3 h;cases h
 | succ m ih=>intro v2 v3 h;have h:rL K n v1 (rM K n v1 m) v2 v3=some r:=h;exact bp (RS hK ih h)
theorem zX(hK:am K)(h:mG K n v1=some r):aO Tryz.prog 45 [.sl (lm aN v1)] (fun v _=>v=iI r):=by
 refine bg (cat Tryz.f45 (pn 1)) Tryz.func45 Tryz.ntmps45 fun M w0=>(bc ⟨[(0,.sl (lm aN v1))],[],[],[]⟩ ?_);unfold mG at h;exact bH 28 29 15 6 (aj 1 (aB (bq aN v1) (ac (ae 1 (cf (p:=pn 58) n (ZT hK n h))))))
end
noncomputable section
variable(M:Nat→Prop)(w0:aF)(r:List Int)(v1:List ay)(v2 v19:Int)(v20:List Int)(v25:Int)(v26:Bool)(m1 m2:Nat)(L1:Int→(List Int)→Option (List Int))(L2:Int→Option (List Int))
abbrev vV:Cx:=⟨Tryz.prog,46,M,w0⟩
abbrev uo:=bodyPost Tryz.prog Tryz.f19 (bu M w0 (fun v s=>v=.ref 16∧look 16 s.r=some ⟨3,1,lm (bi .i64) r⟩))
abbrev AA(ks:List aq)(s:AS):=VE (vV M w0) (uo M w0 r) ks .normal s
abbrev iP(n:Nat):aq:=.c (cat Tryz.f19 (pn n))
abbrev AE:List aq:=[.b 0,iP 15]
abbrev xE:List aq:=kl (vV M w0) (uo M w0 r) AE (cat Tryz.f19 (pn 116)) m1::AE
abbrev EY:List aq:=.b 2::iP 3735 :: .b 1::xE M w0 r m1
abbrev Ck:List aq:=kl (vV M w0) (uo M w0 r) (EY M w0 r m1) (cat Tryz.f19 (pn 14936)) m2::(EY M w0 r m1)
def UY:AS:=⟨[(0,.sl (lm aN v1)),(1,iI v2),(5,.ref 16),(7,iI v25)],[],[(16,⟨3,1,lm (bi .i64) (v20++[v19])⟩)],[16]⟩
def Ug:AS:=⟨[(0,.sl (lm aN v1)),(1,iI v2),(5,.ref 16),(6,iI v19),(7,iI v25),(32,.bool v26)],[],[(16,⟨3,1,lm (bi .i64) (v20++[v19])⟩)],[16]⟩
def Gr:AS:=⟨[(0,.sl (lm aN v1)),(1,iI v2),(5,.ref 16),(6,iI v19),(7,iI v25)],[],[(16,⟨3,1,lm (bi .i64) (v20++[v19])⟩)],[16]⟩
def Kk:AS:=⟨[(0,.sl (lm aN v1)),(1,iI v2),(5,.ref 16),(6,iI v19)],[],[(16,⟨3,1,lm (bi .i64) v20⟩)],[16]⟩
abbrev tp:Prop:=∀{v19:Int} {v20:(List Int)},L1 v19 v20=some r→LP (vV M w0) (uo M w0 r) AE (cat Tryz.f19 (pn 116)) m1 (Kk v1 v2 v19 v20)
abbrev FD:Prop:=∀{v25:Int},L2 v25=some r→LP (vV M w0) (uo M w0 r) (EY M w0 r m1) (cat Tryz.f19 (pn 14936)) m2 (Gr v1 v2 v19 v20 v25)
variable{M w0 r v1 v2 v19 v20 v25 v26 m1 m2 L1 L2}{K:Kn}{n:Nat}
theorem G6(hK:am K)(hL1:tp M w0 r v1 v2 m1 L1)(h:zH K n v1 v2 v19 v20 v25 L1=some r):AA M w0 r (iP 3735 :: .b 1::xE M w0 r m1) (UY v1 v2 v19 v20 v25):=by
 unfold zH at h;exact ae 2 (bt (hL1 h))
theorem HG(hK:am K)(hL1:tp M w0 r v1 v2 m1 L1)(hL2:FD M w0 r v1 v2 v19 v20 m1 m2 L2)(h:q7 K n v1 v2 v19 v20 v25 L1 L2 v26=some r):AA M w0 r (iP 59745::iP 29873::Ck M w0 r m1 m2) (Ug v1 v2 v19 v20 v25 v26):=by
 unfold q7 at h;obtain⟨h47,h⟩|⟨h47,h⟩:=ak h
 ·refine ag 32 h47 (co (ks':=iP 119492::iP 119493 :: .b 3::Ck M w0 r m1 m2) 4 (aj 2 ?_));obtain⟨v27,h48,h⟩:=bind_some h;refine aD (BS hK h48) (ac (bH 4 5 3 2 (aj 3 ?_)));obtain⟨h49,h⟩:=aK h;refine aB (oM aN v1 v19 v27 25 (.tmp 36) (some (.tmp 37)) (some (.tmp 38)) 39 (e:=46) (sz:=62) (by kernel_rfl) (by kernel_rfl) (by kernel_rfl) (by kernel_rfl) (by kernel_rfl) (by kernel_rfl) (gi) (fun k hk=>by subst hk;kernel_rfl) h49) ?_;obtain⟨v28,h50,h⟩:=bind_some h;refine aD (zX hK h50) (ac ?_);obtain⟨h51,h⟩|⟨h51,h⟩:=ak h
  ·exact ag 42 h51 (ae 6 (G6 hK hL1 h))
  ·exact ag 42 h51 (ae 4 (bt (hL2 h)))
 ·exact ag 32 h47 (ae 5 (G6 hK hL1 h))
theorem TE(hK:am K)(hL1:tp M w0 r v1 v2 m1 L1)(hL2:FD M w0 r v1 v2 v19 v20 m1 m2 L2)(h:rz K n v1 v2 v19 v20 L1 L2 v25=some r):AA M w0 r (iP 14936::Ck M w0 r m1 m2) (Gr v1 v2 v19 v20 v25):=by
 unfold rz at h;refine bH 4 5 3 2 (aj 2 (aB (bq aN v1) (aL 5 2 ?_)));obtain⟨h45,h⟩|⟨h45,h⟩:=ak h
 ·refine aA 24 h45 (aL 8 3 ?_);obtain⟨h46,h⟩:=aK h;exact aB (bw aN aN h46 (gi) ((fun _=>rfl))) (ac (ae 0 (HG hK hL1 hL2 h)))
 ·exact aA 24 h45 (ac (ae 0 (HG hK hL1 hL2 h)))
theorem TH(hK:am K)(hL1:tp M w0 r v1 v2 m1 L1)(m:Nat):FD M w0 r v1 v2 v19 v20 m1 m (rp K n v1 v2 v19 v20 L1 m):=by
 induction m with
 | zero=>intro v25 h;cases h
 | succ m ih=>intro v25 h;have h:rz K n v1 v2 v19 v20 L1 (rp K n v1 v2 v19 v20 L1 m) v25=some r:=h;exact bp (TE hK hL1 ih h)
theorem UO(hK:am K)(hL1:tp M w0 r v1 v2 m1 L1)(h:sQ K n v1 v2 L1 v19 v20=some r):AA M w0 r (iP 116::xE M w0 r m1) (Kk v1 v2 v19 v20):=by
 unfold sQ at h;refine bH 4 5 3 2 (aj 2 (aB (bq aN v1) (ac ?_)));obtain⟨h35,h⟩|⟨h35,h⟩:=ak h
 ·refine ag 12 h35 (co (ks':=iP 932::iP 933 :: .b 1::xE M w0 r m1) 4 (aj 3 ?_));obtain⟨h36,h⟩:=aK h;refine aB (cD 16 16 3 1 (bi .i64) (rfl) ((fun _=>rfl)) h36) (ac (az 2 3 1 (aj 2 ?_)));obtain⟨v21,h37,h⟩:=bind_some h;exact aD (BS hK h37) (ac (ae 2 (cf (p:=pn 7468) n (TH hK hL1 n h))))
 ·refine ag 12 h35 (aE 8 ?_);cases h;exact fa
theorem Zq(hK:am K)(m:Nat):tp M w0 r v1 v2 m (sP K n v1 v2 m):=by
 induction m with
 | zero=>intro v19 v20 h;cases h
 | succ m ih=>intro v19 v20 h;have h:sQ K n v1 v2 (sP K n v1 v2 m) v19 v20=some r:=h;exact bp (UO hK ih h)
theorem IV(hK:am K)(h:ou K n v1 v2=some r):aO Tryz.prog 19 [.sl (lm aN v1),iI v2] (fun v s=>v=.ref 16∧look 16 s.r=some ⟨3,1,lm (bi .i64) r⟩):=by
 refine bg (cat Tryz.f19 (pn 1)) Tryz.func19 Tryz.ntmps19 fun M w0=>(bc ⟨[(0,.sl (lm aN v1)),(1,iI v2)],[],[],[]⟩ ?_);unfold ou at h;exact fr 58 0 15 8 (bI [0,1,5,6] [] [] (fh 16 5 3 1 (ae 0 (cf (p:=pn 58) n (Zq hK n h)))))
end
noncomputable section
variable(M:Nat→Prop)(w0:aF)(r:Int)(v1:aI)(v2 v3:Int)  
variable{M w0 r v1 v2 v3}{K:Kn}{n:Nat}
theorem Rv(hK:am K)(h:DP K n v1 v2 v3=some r):aO Tryz.prog 76 [.agg (aJ v1),iI v2,iI v3] (fun v _=>v=iI r):=by
 refine bg (cat Tryz.f76 (pn 1)) Tryz.func76 Tryz.ntmps76 fun M w0=>(bc ⟨[(0,.agg (aJ v1)),(1,iI v2),(2,iI v3)],[],[],[]⟩ ?_);unfold DP at h;refine az 13 7 5 ?_;obtain⟨h1,h⟩|⟨h1,h⟩:=ak h
 ·refine ag 9 h1 (aE 5 ?_);cases h;exact ba
 ·refine ag 9 h1 (zU 21 0 3 8 ?_);obtain⟨h2,h⟩|⟨h2,h⟩:=ak h
  ·refine ag 12 h2 (aE 6 ?_);cases h;exact ba
  ·refine ag 12 h2 (bh 7 3 ?_);obtain⟨h3,h⟩|⟨h3,h⟩:=ak h
   ·refine ag 18 h3 (aE 6 ?_);cases h;exact ba
   ·refine ag 18 h3 (aE 6 ?_);cases h;exact ba
end
noncomputable section
variable(M:Nat→Prop)(w0:aF)(r:Bool)(v1 v2:ByteArray)(v3:Bool)  
abbrev Xb(n:Nat):aq:=.c (cat Tryz.f109 (pn n))
abbrev Zb:Cx:=⟨Tryz.prog,21,M,w0⟩
abbrev Q5:=bodyPost Tryz.prog Tryz.f109 (bu M w0 (fun v _=>v=.bool r))
abbrev ZX(ks:List aq)(s:AS):=VE (Zb M w0) (Q5 M w0 r) ks .normal s
def acE:AS:=⟨[(4,.bool v3)],[],[],[]⟩
variable{M w0 r v1 v2 v3}{K:Kn}{n:Nat}
theorem GG(hK:am K)(h:zf K n v3=some r):ZX M w0 r [Xb 7] (acE v3):=by
 unfold zf at h;refine aE 1 ?_;cases h;exact ba
theorem aas(hK:am K)(h:Ci K n v1 v2=some r):aO Tryz.prog 109 [.str v1,.str v2] (fun v _=>v=.bool r):=by
 refine bg (cat Tryz.f109 (pn 1)) Tryz.func109 Tryz.ntmps109 fun M w0=>(bc ⟨[(0,.str v1),(1,.str v2)],[],[],[]⟩ ?_);unfold Ci at h;refine az 6 7 3 (aj 6 ?_);obtain⟨h1,h⟩|⟨h1,h⟩:=ak h
 ·refine aA 10 h1 (aL 12 6 ?_);obtain⟨h2,h⟩:=aK h;exact aB (yb h2) (ac (ae 0 (GG hK h)))
 ·exact aA 10 h1 (ac (ae 0 (GG hK h)))
end
noncomputable section
variable(M:Nat→Prop)(w0:aF)(r:Bool)(v1 v2:ByteArray)  
variable{M w0 r v1 v2}{K:Kn}{n:Nat}
theorem US(hK:am K)(h:Ek K n v1 v2=some r):aO Tryz.prog 78 [.str v1,.str v2] (fun v _=>v=.bool r):=by
 refine bg (cat Tryz.f78 (pn 1)) Tryz.func78 Tryz.ntmps78 fun M w0=>(bc ⟨[(0,.str v1),(1,.str v2)],[],[],[]⟩ ?_);unfold Ek at h;refine az 6 7 3 (aj 2 ?_);obtain⟨v3,h1,h⟩:=bind_some h;refine aD (aas hK h1) (ac (aE 1 ?_));cases h;exact ba
end
noncomputable section
variable(M:Nat→Prop)(w0:aF)(r:ah)(v1:List ay)(v2:aI)(v3 v8 v9 v10 v11 v12 v15 v78 v79:Int)(v80:List ah)(v82:Bool)(v83:ay)(v87:List ah)(v104:Int)(v105:List ah)(m1 m2 m3:Nat)(L1:Int→Int→Int→Option ah)(L2:Int→Int→(List ah)→Option ah)(L3:Int→(List ah)→Option ah)
abbrev o5:Cx:=⟨Tryz.prog,156,M,w0⟩
abbrev oZ:=bodyPost Tryz.prog Tryz.f38 (bu M w0 (fun v s=>v=.agg (List.set (aH ({ r with Kids:=[] }:ah)) 66 (.ref 114))∧look 114 s.r=some ⟨59,67,lm aG r.Kids⟩))
abbrev pr(ks:List aq)(s:AS):=VE (o5 M w0) (oZ M w0 r) ks .normal s
abbrev dL(n:Nat):aq:=.c (cat Tryz.f38 (pn n))
abbrev C3:List aq:=[.b 2,dL 255]
abbrev tm:List aq:=kl (o5 M w0) (oZ M w0 r) C3 (cat Tryz.f38 (pn 2036)) m2::C3
abbrev Cw:List aq:=[.b 0,dL 15]
abbrev KQ:List aq:=kl (o5 M w0) (oZ M w0 r) Cw (cat Tryz.f38 (pn 116)) m1::Cw
abbrev D3:List aq:=.b 4::dL 521423 :: .b 3::dL 16295::tm M w0 r m2
abbrev BC:List aq:=kl (o5 M w0) (oZ M w0 r) (D3 M w0 r m2) (cat Tryz.f38 (pn 4171380)) m3::(D3 M w0 r m2)
def acg:AS:=⟨[(0,.sl (lm aN v1)),(2,iI v3),(4,.ptr 4 0),(6,.ptr 6 0),(7,iI v11),(8,iI v12),(24,.sl (lm aN v1)),(25,iI (v1.length:Int)),(26,iI v10)],[(4,aJ v2),(6,List.set (aH bA) 66 (.nils))],[],[4,6]⟩
def MZ:AS:=⟨[(6,.ptr 6 0),(7,iI v8),(11,.ptr 11 0),(12,iI v78),(13,iI v15),(15,.ptr 15 0),(56,.sl (lm aN v1)),(57,iI (v1.length:Int)),(58,iI v79),(117,.sl (lm aG v83.Box)),(118,iI (v83.Box.length:Int)),(119,iI v104)],[(6,List.set (aH bA) 66 (.nils)),(11,List.set (aH ({ bA with Kind:=2,W:=v3,H:=(aa (v8+v9)),aF:=v8,Style:=v2 }:ah)) 66 (.ref 114)),(15,aN v83)],[(114,⟨59,67,lm aG v105⟩)],[6,11,15,114]⟩
def ZI:AS:=⟨[(6,.ptr 6 0),(7,iI v8),(11,.ptr 11 0),(12,iI v78),(13,iI v15),(15,.ptr 15 0),(56,.sl (lm aN v1)),(57,iI (v1.length:Int)),(58,iI v79)],[(6,List.set (aH bA) 66 (.nils)),(11,List.set (aH ({ bA with Kind:=2,W:=v3,H:=(aa (v8+v9)),aF:=v8,Style:=v2 }:ah)) 66 (.ref 114)),(15,aN v83)],[(114,⟨59,67,lm aG v87⟩)],[6,11,15,114]⟩
def TL:AS:=⟨[(6,.ptr 6 0),(7,iI v8),(11,.ptr 11 0),(12,iI v78),(13,iI v15),(15,.ptr 15 0),(56,.sl (lm aN v1)),(57,iI (v1.length:Int)),(58,iI v79)],[(6,List.set (aH bA) 66 (.nils)),(11,List.set (aH ({ bA with Kind:=2,W:=v3,H:=(aa (v8+v9)),aF:=v8,Style:=v2 }:ah)) 66 (.ref 114)),(15,aN v83)],[(114,⟨59,67,lm aG v80⟩)],[6,11,15,114]⟩
def abj:AS:=⟨[(6,.ptr 6 0),(7,iI v8),(11,.ptr 11 0),(12,iI v78),(13,iI v15),(15,.ptr 15 0),(56,.sl (lm aN v1)),(57,iI (v1.length:Int)),(58,iI v79),(76,.bool v82)],[(6,List.set (aH bA) 66 (.nils)),(11,List.set (aH ({ bA with Kind:=2,W:=v3,H:=(aa (v8+v9)),aF:=v8,Style:=v2 }:ah)) 66 (.ref 114)),(15,aN (gD v1 v79))],[(114,⟨59,67,lm aG v80⟩)],[6,11,15,114]⟩
def NI:AS:=⟨[(6,.ptr 6 0),(7,iI v8),(11,.ptr 11 0),(12,iI v78),(13,iI v15),(56,.sl (lm aN v1)),(57,iI (v1.length:Int)),(58,iI v79)],[(6,List.set (aH bA) 66 (.nils)),(11,List.set (aH ({ bA with Kind:=2,W:=v3,H:=(aa (v8+v9)),aF:=v8,Style:=v2 }:ah)) 66 (.ref 114))],[(114,⟨59,67,lm aG v80⟩)],[6,11,114]⟩
def MJ:AS:=⟨[(0,.sl (lm aN v1)),(2,iI v3),(4,.ptr 4 0),(6,.ptr 6 0),(7,iI v8),(8,iI v9),(24,.sl (lm aN v1)),(25,iI (v1.length:Int)),(26,iI v10)],[(4,aJ v2),(6,List.set (aH bA) 66 (.nils))],[],[4,6]⟩
abbrev BN:Prop:=∀{v8:Int} {v9:Int} {v10:Int},L1 v8 v9 v10=some r→LP (o5 M w0) (oZ M w0 r) Cw (cat Tryz.f38 (pn 116)) m1 (MJ v1 v2 v3 v8 v9 v10)
abbrev qc:Prop:=∀{v78:Int} {v79:Int} {v80:(List ah)},L2 v78 v79 v80=some r→LP (o5 M w0) (oZ M w0 r) C3 (cat Tryz.f38 (pn 2036)) m2 (NI v1 v2 v3 v8 v9 v15 v78 v79 v80)
abbrev MK:Prop:=∀{v104:Int} {v105:(List ah)},L3 v104 v105=some r→LP (o5 M w0) (oZ M w0 r) (D3 M w0 r m2) (cat Tryz.f38 (pn 4171380)) m3 (MZ v1 v2 v3 v8 v9 v15 v78 v79 v83 v104 v105)
variable{M w0 r v1 v2 v3 v8 v9 v10 v11 v12 v15 v78 v79 v80 v82 v83 v87 v104 v105 m1 m2 m3 L1 L2 L3}{K:Kn}{n:Nat}
theorem JO(hK:am K)(hL1:BN M w0 r v1 v2 v3 m1 L1)(h:xN K n v1 v2 v3 v10 L1 v11 v12=some r):pr M w0 r (.b 1::dL 935::KQ M w0 r m1) (acg v1 v2 v3 v10 v11 v12):=by
 unfold xN at h;exact ae 2 (bt (hL1 h))
theorem aao(hK:am K)(hL2:qc M w0 r v1 v2 v3 v8 v9 v15 m2 L2)(hL3:MK M w0 r v1 v2 v3 v8 v9 v15 v78 v79 v83 m2 m3 L3)(h:xh K n v1 v2 v3 v8 v9 v15 v78 v79 v83 L2 L3 v104 v105=some r):pr M w0 r (dL 4171380::BC M w0 r m2 m3) (MZ v1 v2 v3 v8 v9 v15 v78 v79 v83 v104 v105):=by
 unfold xh at h;refine az 6 7 3 ?_;obtain⟨h123,h⟩|⟨h123,h⟩:=ak h
 ·refine ag 120 h123 (cQ 8 9 5 3 5 (aj 0 ?_));obtain⟨h124,h⟩:=aK h;refine aB (bw aG aH h124 (fc) (dc)) (ac ?_);obtain⟨v106,h125,h⟩:=bW h;obtain⟨v107,h126,h⟩:=bW h;obtain⟨v108,h127,h⟩:=bW h;obtain⟨v109,h128,h⟩:=bW h;obtain⟨v110,h129,h⟩:=bW h;obtain⟨v111,h130,h⟩:=bW h;obtain⟨v112,h131,h⟩:=bW h;obtain⟨v113,h132,h⟩:=bW h;obtain⟨v114,h133,h⟩:=bW h;obtain⟨v115,h134,h⟩:=bW h;refine bB (ks':=dL 533936742::dL 533936743 :: .b 5::dL 33371047::BC M w0 r m2 m3) 3 ⟨[(6,.ptr 6 0),(7,iI v8),(11,.ptr 11 0),(12,iI v78),(13,iI v15),(15,.ptr 15 0),(18,.ptr 18 0),(56,.sl (lm aN v1)),(57,iI (v1.length:Int)),(58,iI v79),(117,.sl (lm aG v83.Box)),(118,iI (v83.Box.length:Int)),(119,iI v104)],[(6,List.set (aH bA) 66 (.nils)),(11,List.set (aH ({ bA with Kind:=2,W:=v3,H:=(aa (v8+v9)),aF:=v8,Style:=v2 }:ah)) 66 (.ref 114)),(15,aN v83),(18,aH (⟨v106,v107,v108,(gD v83.Box v104).Y,(gD v83.Box v104).W,(gD v83.Box v104).H,v109,v110,v111,v112,v113,v114,v115⟩:ah))],[(114,⟨59,67,lm aG v105⟩)],[6,11,15,18,114]⟩ ?_ (by subst h134;subst h133;subst h132;subst h131;subst h130;subst h129;subst h128;subst h127;subst h126;subst h125;kernel_rfl)
  obtain⟨v116,h135,h⟩:=bind_some h;refine bF 1 (nu 128 [.ptr 18 3,iI ((gD v83.Box v104).Y),iI v8,.ptr 18 5,iI ((gD v83.Box v104).H),iI (aa (v8-((gD v83.Box v104).H))),.ptr 18 63,.agg (bS v113),iI v116,iI (aa ((aa (v8-((gD v83.Box v104).H)))-v116)),iI (aa (((gD v83.Box v104).Y)+(aa ((aa (v8-((gD v83.Box v104).H)))-v116)))),.ptr 18 3]) [] [] [bR Tryz.prog 156 Tryz.f38 (pn 533936742) 12] (av (vz 8) (ab (cb 0 1 136 (rq hK h135)) (av (vz 3) (ab (bQ 0) bG)))) ?_;obtain⟨v117,h136,h⟩:=bW h;refine bB (ks':=dL 533936743 :: .b 5::dL 33371047::BC M w0 r m2 m3) 0 ⟨[(6,.ptr 6 0),(7,iI v8),(11,.ptr 11 0),(12,iI v78),(13,iI v15),(15,.ptr 15 0),(18,.ptr 18 0),(56,.sl (lm aN v1)),(57,iI (v1.length:Int)),(58,iI v79),(117,.sl (lm aG v83.Box)),(118,iI (v83.Box.length:Int)),(119,iI v104)],[(6,List.set (aH bA) 66 (.nils)),(11,List.set (aH ({ bA with Kind:=2,W:=v3,H:=(aa (v8+v9)),aF:=v8,Style:=v2 }:ah)) 66 (.ref 114)),(15,aN v83),(18,aH (⟨v106,v107,v108,v117,(gD v83.Box v104).W,(gD v83.Box v104).H,v109,v110,v111,v112,v113,v114,v115⟩:ah))],[(114,⟨59,67,lm aG v105⟩)],[6,11,15,18,114]⟩ ?_ (by subst h136;kernel_rfl)
  refine aj 3 (aB (fB aG ([(⟨v106,v107,v108,v117,(gD v83.Box v104).W,(gD v83.Box v104).H,v109,v110,v111,v112,v113,v114,v115⟩:ah)]:List ah) (new:=[aH (⟨v106,v107,v108,v117,(gD v83.Box v104).W,(gD v83.Box v104).H,v109,v110,v111,v112,v113,v114,v115⟩:ah)]) (by simp only[List.map_cons,List.map_nil,dc])) ?_);obtain⟨h137,h⟩:=aK h;exact aB (cD 144 114 59 67 aG (rfl) (fc) h137) (ac (ae 2 (bt (hL3 h))))
 ·exact ag 120 h123 (ae 8 (bt (hL2 h)))
theorem PS(hK:am K)(hL2:qc M w0 r v1 v2 v3 v8 v9 v15 m2 L2)(m:Nat):MK M w0 r v1 v2 v3 v8 v9 v15 v78 v79 v83 m2 m (yi K n v1 v2 v3 v8 v9 v15 v78 v79 v83 L2 m):=by
 induction m with
 | zero=>intro v104 v105 h;cases h
 | succ m ih=>intro v104 v105 h;have h:xh K n v1 v2 v3 v8 v9 v15 v78 v79 v83 L2 (yi K n v1 v2 v3 v8 v9 v15 v78 v79 v83 L2 m) v104 v105=some r:=h;exact bp (aao hK hL2 ih h)
theorem K0(hK:am K)(hL2:qc M w0 r v1 v2 v3 v8 v9 v15 m2 L2)(h:Ay K n v1 v2 v3 v8 v9 v15 v78 v79 v83 L2 v87=some r):pr M w0 r (dL 260711 :: .b 3::dL 16295::tm M w0 r m2) (ZI v1 v2 v3 v8 v9 v15 v78 v79 v83 v87):=by
 unfold Ay at h;exact bH 4 5 3 2 (aj 2 (aB (bq aG v83.Box) (ac (ae 1 (cf (p:=pn 2085690) n (PS hK hL2 n h))))))
theorem LF(hK:am K)(hL2:qc M w0 r v1 v2 v3 v8 v9 v15 m2 L2)(h:xg K n v1 v2 v3 v8 v9 v15 v78 v79 v80 L2 v83=some r):pr M w0 r (dL 130355 :: .b 3::dL 16295::tm M w0 r m2) (TL v1 v2 v3 v8 v9 v15 v78 v79 v80 v83):=by
 unfold xg at h;obtain⟨v84,h99,h⟩:=bW h;refine bB (ks':=dL 521421::dL 260711 :: .b 3::dL 16295::tm M w0 r m2) 3 ⟨[(6,.ptr 6 0),(7,iI v8),(11,.ptr 11 0),(12,iI v78),(13,iI v15),(15,.ptr 15 0),(56,.sl (lm aN v1)),(57,iI (v1.length:Int)),(58,iI v79),(88,.bool v84)],[(6,List.set (aH bA) 66 (.nils)),(11,List.set (aH ({ bA with Kind:=2,W:=v3,H:=(aa (v8+v9)),aF:=v8,Style:=v2 }:ah)) 66 (.ref 114)),(15,aN v83)],[(114,⟨59,67,lm aG v80⟩)],[6,11,15,114]⟩ ?_ (by subst h99;kernel_rfl);obtain⟨h100,h⟩|⟨h100,h⟩:=ak h
 ·refine ag 88 h100 (bh 5 3 (bI [6,7,11,12,13,15,16,56,57,58] [6,11,15] [114] ?_));obtain⟨v85,h101,h⟩:=bind_some h;obtain⟨v86,h102,h⟩:=bind_some h;obtain⟨h103,h⟩:=aK h;exact bF 2 (nu 92 [.ptr 11 66,.ref 114,.ptr 15 0,iI v83.Node,.ptr 15 2,.agg (aJ v83.Style),.ptr 15 1,.str v83.Text,iI v78,iI v8,iI v83.Style.FontSize,iI v85,iI (aa (v8-v85)),.ptr 15 55,iI v83.Width,.ptr 15 56,iI v83.Space,iI (aa (v83.Width+v83.Space)),iI v83.Style.FontSize,iI v86,.agg (List.set (aH (⟨3,v83.Node,v78,(aa (v8-v85)),(aa (v83.Width+v83.Space)),v86,0,v83.Text,v83.Style,cI,cI,false,[]⟩:ah)) 66 (.nils)),.sl (lm aG [(⟨3,v83.Node,v78,(aa (v8-v85)),(aa (v83.Width+v83.Space)),v86,0,v83.Text,v83.Style,cI,cI,false,[]⟩:ah)])]++nu 115 [.ptr 11 66]) [] [] [iJ 114 114 ⟨59,67,lm aG (v80++[(⟨3,v83.Node,v78,(aa (v8-v85)),(aa (v83.Width+v83.Space)),v86,0,v83.Text,v83.Style,cI,cI,false,[]⟩:ah)])⟩,bR Tryz.prog 156 Tryz.f38 (pn 2085685) 24] (av [.v 0 2,.v 0 1,.v 0 2,.v 0 2,.v 0 2,.v 0 2,.v 0 2,.v 0 2,.v 0 2,.v 0 2,.v 0 2] (ab (cb 0 2 103 (Gd hK h101)) (av [.v 0 2,.v 0 2,.v 0 2,.v 0 2,.v 0 2,.v 0 2,.v 0 2] (ab (cb 0 1 111 (L6 hK h102)) (av [.v 0 2] (bv (fB aG ([(⟨3,v83.Node,v78,(aa (v8-v85)),(aa (v83.Width+v83.Space)),v86,0,v83.Text,v83.Style,cI,cI,false,[]⟩:ah)]:List ah) (new:=[aH (⟨3,v83.Node,v78,(aa (v8-v85)),(aa (v83.Width+v83.Space)),v86,0,v83.Text,v83.Style,cI,cI,false,[]⟩:ah)]) (by simp only[List.map_cons,List.map_nil,dc])) (ab (g9 (m:=0) (cD 114 114 59 67 aG (rfl) (fc) h103)) (av [.v 1 1] (ab (bQ 1) bG))))))))) (ae 0 (K0 hK hL2 h))
 ·exact ag 88 h100 (ae 2 (K0 hK hL2 h))
theorem AX(hK:am K)(hL2:qc M w0 r v1 v2 v3 v8 v9 v15 m2 L2)(h:vB K n v1 v2 v3 v8 v9 v15 v78 v79 v80 L2 v82=some r):pr M w0 r (dL 260709::dL 130355 :: .b 3::dL 16295::tm M w0 r m2) (abj v1 v2 v3 v8 v9 v15 v78 v79 v80 v82):=by
 unfold vB at h;obtain⟨h97,h⟩|⟨h97,h⟩:=ak h
 ·refine ag 76 h97 (az 4 5 2 (aj 6 ?_));obtain⟨h98,h⟩:=aK h;exact aB (yb h98) (ac (ae 1 (LF hK hL2 h)))
 ·exact ag 76 h97 (ae 2 (LF hK hL2 h))
theorem Qa(hK:am K)(hL2:qc M w0 r v1 v2 v3 v8 v9 v15 m2 L2)(h:yV K n v1 v2 v3 v8 v9 v15 L2 v78 v79 v80=some r):pr M w0 r (dL 2036::tm M w0 r m2) (NI v1 v2 v3 v8 v9 v15 v78 v79 v80):=by
 unfold yV at h;refine az 6 7 3 ?_;obtain⟨h92,h⟩|⟨h92,h⟩:=ak h
 ·refine ag 59 h92 (cQ 8 9 3 3 5 (aj 1 ?_));obtain⟨h93,h⟩:=aK h;refine aB (bw aN aN h93 (gi) ((fun _=>rfl))) (ac (bH 4 5 3 2 (aj 4 ?_)));obtain⟨h94,h⟩|⟨h94,h⟩:=ak h
  ·refine aA 66 h94 (aL 6 2 ?_);obtain⟨v81,h95,h⟩:=bind_some h;refine aD (US hK h95) (aL 9 2 ?_);obtain⟨h96,h⟩|⟨h96,h⟩:=ak h
   ·exact aA 71 h96 (ac (ae 0 (AX hK hL2 h)))
   ·exact aA 71 h96 (ac (ae 0 (AX hK hL2 h)))
  ·exact aA 66 h94 (ac (ae 0 (AX hK hL2 h)))
 ·refine ag 59 h92 (aE 8 ?_);cases h;exact fa
theorem Yr(hK:am K)(m:Nat):qc M w0 r v1 v2 v3 v8 v9 v15 m (z8 K n v1 v2 v3 v8 v9 v15 m):=by
 induction m with
 | zero=>intro v78 v79 v80 h;cases h
 | succ m ih=>intro v78 v79 v80 h;have h:yV K n v1 v2 v3 v8 v9 v15 (z8 K n v1 v2 v3 v8 v9 v15 m) v78 v79 v80=some r:=h;exact bp (Qa hK ih h)
theorem TY(hK:am K)(hL1:BN M w0 r v1 v2 v3 m1 L1)(h:yO K n v1 v2 v3 L1 v8 v9 v10=some r):pr M w0 r (dL 116::KQ M w0 r m1) (MJ v1 v2 v3 v8 v9 v10):=by
 unfold yO at h;refine az 6 7 3 ?_;obtain⟨h6,h⟩|⟨h6,h⟩:=ak h
 ·refine ag 27 h6 (cQ 8 9 1 3 5 (aj 0 ?_));obtain⟨h7,h⟩:=aK h;refine aB (bw aN aN h7 (gi) ((fun _=>rfl))) (ac (bh 3 2 ?_));obtain⟨h8,h⟩|⟨h8,h⟩:=ak h
  ·exact ag 32 h8 (bh 2 1 (bI [0,2,4,6,7,8,10,24,25,26] [4,6,10] [] (bF 2 (nu 33 [iI v8,.ptr 10 57,iI ((gD v1 v10).Above),iI (max v8 ((gD v1 v10).Above)),iI v9,.ptr 10 58,iI ((gD v1 v10).Below),iI (max v9 ((gD v1 v10).Below))]) [] [] [bR Tryz.prog 156 Tryz.f38 (pn 14950) 8,bR Tryz.prog 156 Tryz.f38 (pn 14950) 9] (av [.v 0 1,.v 0 1,.v 0 1,.v 0 1,.v 0 2,.v 0 2,.v 0 2,.v 0 2] (ab (bQ 0) (ab (bQ 1) bG))) (ae 0 (JO hK hL1 h)))))
  ·exact ag 32 h8 (ae 2 (JO hK hL1 h))
 ·refine ag 27 h6 (kx 6 7 8 (bI [0,2,4,6,7,11] [4,6,11] [] ?_));obtain⟨v13,h9,h⟩:=bind_some h;obtain⟨v14,h10,h⟩:=bind_some h;refine bF 1 (nu 49 [.agg (aJ v2),iI v3,.sl (lm aN v1),iI v13,iI v14]) [] [] [bR Tryz.prog 156 Tryz.f38 (pn 62) 5] (av (vz 3) (ab (cb 0 1 52 (zX hK h9)) (ab (cb 0 1 53 (Rv hK h10)) (ab (bQ 0) bG)))) (az 2 3 1 (aj 1 ?_));obtain⟨v15,h11,h⟩:=bind_some h;exact aD (Jo hK h11) (ac (bH 4 5 3 2 (aj 1 (aB (bq aN v1) (ac (jF 2 2 1 (bI [6,7,11,12,13,56,57,58] [6,11] [] (xZ 114 11 66 59 67 (ae 0 (cf (p:=pn 1018) n (Yr hK n h)))))))))))
theorem Zv(hK:am K)(m:Nat):BN M w0 r v1 v2 v3 m (yC K n v1 v2 v3 m):=by
 induction m with
 | zero=>intro v8 v9 v10 h;cases h
 | succ m ih=>intro v8 v9 v10 h;have h:yO K n v1 v2 v3 (yC K n v1 v2 v3 m) v8 v9 v10=some r:=h;exact bp (TY hK ih h)
theorem Uv(hK:am K)(h:Bf K n v1 v2 v3=some r):aO Tryz.prog 38 [.sl (lm aN v1),.agg (aJ v2),iI v3] (fun v s=>v=.agg (List.set (aH ({ r with Kids:=[] }:ah)) 66 (.ref 114))∧look 114 s.r=some ⟨59,67,lm aG r.Kids⟩):=by
 refine bg (cat Tryz.f38 (pn 1)) Tryz.func38 Tryz.ntmps38 fun M w0=>(bc ⟨[(0,.sl (lm aN v1)),(1,.agg (aJ v2)),(2,iI v3)],[],[],[]⟩ ?_);unfold Bf at h;refine az 6 7 3 (aj 1 ?_);obtain⟨v4,h1,h⟩:=bind_some h;exact aD (zT hK h1) (ac (bH 4 5 3 2 (aj 1 (aB (bq aN v1) (ac (ae 1 (cf (p:=pn 58) n (Zv hK n h))))))))
end
noncomputable section
variable(M:Nat→Prop)(w0:aF)(r:(List ah)×Int)(v1:List ai)(v2:aI)(v3:Int)(v4:cg)(v5:List ay)(v6:List Int)(v13 v14 v15:Int)(v16:List ah)(m1:Nat)(L1:Int→Int→Int→(List ah)→Option ((List ah)×Int))
abbrev Fl:Cx:=⟨Tryz.prog,61,M,w0⟩
abbrev F2:=bodyPost Tryz.prog Tryz.f14 (bu M w0 (fun v s=>v=.tup [.ref 57,iI r.2]∧look 57 s.r=some ⟨59,67,lm aG r.1⟩))
abbrev ZO(ks:List aq)(s:AS):=VE (Fl M w0) (F2 M w0 r) ks .normal s
abbrev KB(n:Nat):aq:=.c (cat Tryz.f14 (pn n))
abbrev DI:List aq:=[.b 0,KB 63]
abbrev abn:List aq:=kl (Fl M w0) (F2 M w0 r) DI (cat Tryz.f14 (pn 500)) m1::DI
def G0:AS:=⟨[(2,iI (min (max v3 0) 1048576)),(5,.ptr 5 0),(8,.ref 57),(9,iI v13),(10,.sl (lm aN v5)),(11,.ref 1023),(30,iI v14),(31,iI v15)],[(5,aJ v2)],[(57,⟨59,67,lm aG v16⟩),(1023,⟨3,1,lm (bi .i64) (v6++[(v5.length:Int)])⟩)],[5,57,1023]⟩
abbrev H5:Prop:=∀{v13:Int} {v14:Int} {v15:Int} {v16:(List ah)},L1 v13 v14 v15 v16=some r→LP (Fl M w0) (F2 M w0 r) DI (cat Tryz.f14 (pn 500)) m1 (G0 v2 v3 v5 v6 v13 v14 v15 v16)
variable{M w0 r v1 v2 v3 v4 v5 v6 v13 v14 v15 v16 m1 L1}{K:Kn}{n:Nat}
theorem TW(hK:am K)(hL1:H5 M w0 r v2 v3 v5 v6 m1 L1)(h:xj K n v2 v3 v5 v6 L1 v13 v14 v15 v16=some r):ZO M w0 r (KB 500::abn M w0 r m1) (G0 v2 v3 v5 v6 v13 v14 v15 v16):=by
 unfold xj at h;refine az 6 7 3 ?_;obtain⟨h20,h⟩|⟨h20,h⟩:=ak h
 ·refine ag 32 h20 (cQ 18 19 1 3 7 (bI [2,5,8,9,10,11,12,30,31] [5] [57,1023] ?_));obtain⟨h21,h⟩:=aK h;obtain⟨h22,h⟩:=aK h;obtain⟨h23,h⟩:=aK h;obtain⟨v17,h24,h⟩:=bind_some h;refine bF 1 (nu 34 [.sl (lm aN v5),.ref 1023,iI v15,.eptr 1023 1 (v15.toNat) 0,iI (gD (v6++[(v5.length:Int)]) v15),.ref 1023,iI v15,iI (aa (v15+1)),.eptr 1023 1 (((aa (v15+1))).toNat) 0,iI (gD (v6++[(v5.length:Int)]) ((aa (v15+1)))),.sl (lm aN (List.drop ((gD (v6++[(v5.length:Int)]) v15)).toNat (List.take ((gD (v6++[(v5.length:Int)]) ((aa (v15+1))))).toNat v5))),.agg (aJ v2),iI (min (max v3 0) 1048576),.agg (List.set (aH ({ v17 with Kids:=[] }:ah)) 66 (.ref 47))]++nu 13 [.ptr 13 0]) [(13,List.set (aH bA) 66 (.nils))] [(47,⟨59,67,lm aG v17.Kids⟩)] [bR Tryz.prog 61 Tryz.f14 (pn 32050) 15] (av (vz 3) (bv (dU 1023 1 (bi .i64) (L:=(v6++[(v5.length:Int)])) h21) (bv (cp 3 0 (bi .i64) (bi .i64) (cj h21).2 ((fun _=>rfl))) (av (vz 3) (bv (dU 1023 1 (bi .i64) (L:=(v6++[(v5.length:Int)])) h22) (bv (cp 3 0 (bi .i64) (bi .i64) (cj h22).2 ((fun _=>rfl))) (bv (oM aN v5 (gD (v6++[(v5.length:Int)]) v15) (gD (v6++[(v5.length:Int)]) ((aa (v15+1)))) 25 (.tmp 34) (some (.tmp 38)) (some (.tmp 43)) 44 (e:=46) (sz:=62) (by kernel_rfl) (by kernel_rfl) (by kernel_rfl) (by kernel_rfl) (by kernel_rfl) (by kernel_rfl) (gi) (fun k hk=>by subst hk;kernel_rfl) h23) (av (vz 2) (ab (EL 0 1 47 (Uv hK h24) (pQ (i:=66) (by kernel_rfl))) (ab (qh 0 1 59 13 (List.set (aH bA) 66 (.nils))) (ab (bQ 0) bG))))))))))) (bh 7 4 (aj 2 (lT 47 (aB (fB aG ([({ v17 with Y:=v13 }:ah)]:List ah) (new:=[aH ({ v17 with Y:=v13 }:ah)]) (by simp only[List.map_cons,List.map_nil,dc])) ?_))))
  obtain⟨h25,h⟩:=aK h;exact aB (cD 57 57 59 67 aG (rfl) (fc) h25) (ac (ae 2 (bt (hL1 h))))
 ·refine ag 32 h20 (aE 8 ?_);cases h;exact vp
theorem aci(hK:am K)(m:Nat):H5 M w0 r v2 v3 v5 v6 m (z4 K n v2 v3 v5 v6 m):=by
 induction m with
 | zero=>intro v13 v14 v15 v16 h;cases h
 | succ m ih=>intro v13 v14 v15 v16 h;have h:xj K n v2 v3 v5 v6 (z4 K n v2 v3 v5 v6 m) v13 v14 v15 v16=some r:=h;exact bp (TW hK ih h)
theorem Zz(hK:am K)(h:FP K n v1 v2 v3 v4=some r):aO Tryz.prog 14 [.sl (lm aQ v1),.agg (aJ v2),iI v3,.agg (ct v4)] (fun v s=>v=.tup [.ref 57,iI r.2]∧look 57 s.r=some ⟨59,67,lm aG r.1⟩):=by
 refine bg (cat Tryz.f14 (pn 1)) Tryz.func14 Tryz.ntmps14 fun M w0=>(bc ⟨[(0,.sl (lm aQ v1)),(1,.agg (aJ v2)),(2,iI v3),(3,.agg (ct v4))],[],[],[]⟩ ?_);unfold FP at h;refine az 14 15 5 (aj 3 ?_);obtain⟨v5,h1,h⟩:=bind_some h;refine dx 1020 (Jx hK h1) (fx 1009) (ac (az 2 3 1 (aj 2 (lT 1020 ?_))));obtain⟨v6,h2,h⟩:=bind_some h;refine dx 1023 (IV hK h2) (fx 16) (aL 4 1 (aB (bq aN v5) (aL 6 1 ?_)));obtain⟨h3,h⟩:=aK h;exact aB (cD 27 1023 3 1 (bi .i64) (rfl) ((fun _=>rfl)) h3) (ac (bH 4 5 3 2 (aj 1 (aB (bq (bi .i64) (v6++[(v5.length:Int)])) (ac (jF 2 0 1 (bI [2,5,8,9,10,11,30,31] [5] [1023] (fh 57 8 59 67 (ae 0 (cf (p:=pn 250) n (aci hK n h)))))))))))
end
noncomputable section
variable(M:Nat→Prop)(w0:aF)(r v4:Bool)  
abbrev XQ(n:Nat):aq:=.c (cat Tryz.f6 (pn n))
abbrev QF:Cx:=⟨Tryz.prog,64,M,w0⟩
abbrev q6:=bodyPost Tryz.prog Tryz.f6 (bu M w0 (fun v _=>v=.bool r))
abbrev VY(ks:List aq)(s:AS):=VE (QF M w0) (q6 M w0 r) ks .normal s
def RD:AS:=⟨[(0,.bool v4)],[],[],[]⟩
variable{M w0 r v4}{K:Kn}{n:Nat}
theorem ob(hK:am K)(h:kZ K n v4=some r):VY M w0 r [XQ 63] (RD v4):=by
 unfold kZ at h;refine aE 1 ?_;cases h;exact ba
theorem UP(hK:am K)(h:vk K n=some r):aO Tryz.prog 6 [] (fun v _=>v=.bool r):=by
 refine bg (cat Tryz.f6 (pn 1)) Tryz.func6 Tryz.ntmps6 fun M w0=>(bc ⟨[],[],[],[]⟩ ?_);unfold vk at h;refine az 14 15 5 (aj 1 ?_);obtain⟨v1,h1,h⟩:=bind_some h;refine aD (zT hK h1) (ac (az 2 3 1 (bI [1,2,3] [1] [] ?_)));obtain⟨v2,h2,h⟩:=bind_some h;obtain⟨v3,h3,h⟩:=bind_some h;refine bF 2 (nu 13 [.agg (aJ ({ cz with FontSize:=16,LineHeight:=30 }:aI)),.agg (List.set (aW ({ gw with Kind:=3,Style:=({ cz with FontSize:=16,LineHeight:=30 }:aI),Text:=⟨#[97,98,32,32,99,100]⟩ }:ai)) 58 (.nils)),.sl (lm aQ [({ gw with Kind:=3,Style:=({ cz with FontSize:=16,LineHeight:=30 }:aI),Text:=⟨#[97,98,32,32,99,100]⟩ }:ai)]),.agg (aJ ({ cz with FontSize:=16,LineHeight:=30 }:aI)),.agg (ct v2),.tup [.ref 18,iI v3.2]]++nu 12 [.tup [.ref 18,iI v3.2]]++nu 19 [.ref 18,iI v3.2]) [] [(18,⟨59,67,lm aG v3.1⟩)] [bR Tryz.prog 64 Tryz.f6 (pn 30) 9,bR Tryz.prog 64 Tryz.f6 (pn 30) 10] (av (vz 2) (bv (fB aQ ([({ gw with Kind:=3,Style:=({ cz with FontSize:=16,LineHeight:=30 }:aI),Text:=⟨#[97,98,32,32,99,100]⟩ }:ai)]:List ai) (new:=[aW ({ gw with Kind:=3,Style:=({ cz with FontSize:=16,LineHeight:=30 }:aI),Text:=⟨#[97,98,32,32,99,100]⟩ }:ai)]) (by simp only[List.map_cons,List.map_nil,dK])) (av [.v 0 1] (ab (cb 0 1 17 (wK hK h2)) (ab (EL 0 1 18 (Zz hK h3) (wg (i:=0) rfl)) (av [.v 0 1,.v 0 1,.v 0 2] (ab (bQ 0) (ab (bQ 1) bG)))))))) (az 2 3 1 (aj 3 ?_))
 obtain⟨h4,h⟩|⟨h4,h⟩:=ak h
 ·refine aA 23 h4 (aL 7 4 ?_);obtain⟨h5,h⟩|⟨h5,h⟩:=ak h
  ·refine aA 27 h5 (aL 8 1 (aB (bq aG v3.1) (aL 12 3 ?_)));obtain⟨h6,h⟩|⟨h6,h⟩:=ak h
   ·refine aA 32 h6 (aL 16 4 ?_);obtain⟨h7,h⟩|⟨h7,h⟩:=ak h
    ·refine aA 36 h7 (aL 17 1 ?_);obtain⟨h8,h⟩:=aK h;refine aB (cS 18 67 aG h8) (aL 19 1 (aB (cp 44 66 aG aH (cj h8).2 (dc)) (aB (bq aG ((gD v3.1 (0:Int)).Kids)) (aL 24 3 ?_))));obtain⟨h9,h⟩|⟨h9,h⟩:=ak h
     ·refine aA 44 h9 (aL 25 1 ?_);obtain⟨h10,h⟩:=aK h;refine aB (cS 18 67 aG h10) (aL 27 1 (aB (cp 44 66 aG aH (cj h10).2 (dc)) ?_));obtain⟨h11,h⟩:=aK h;refine aB (bw aG aH h11 (fc) (dc)) (aL 34 5 ?_);obtain⟨h12,h⟩|⟨h12,h⟩:=ak h
      ·refine aA 54 h12 (aL 35 1 ?_);obtain⟨h13,h⟩:=aK h;refine aB (cS 18 67 aG h13) (aL 37 1 (aB (cp 44 66 aG aH (cj h13).2 (dc)) ?_));obtain⟨h14,h⟩:=aK h;exact aB (bw aG aH h14 (fc) (dc)) (ac (ae 0 (ob hK h)))
      ·exact aA 54 h12 (ac (ae 0 (ob hK h)))
     ·exact aA 44 h9 (ac (ae 0 (ob hK h)))
    ·exact aA 36 h7 (ac (ae 0 (ob hK h)))
   ·exact aA 32 h6 (ac (ae 0 (ob hK h)))
  ·exact aA 27 h5 (ac (ae 0 (ob hK h)))
 ·exact aA 23 h4 (ac (ae 0 (ob hK h)))
end
noncomputable section
variable(M:Nat→Prop)(w0:aF)(r:Bool)(v1:cr)(v2:Bool)  
abbrev Uu(n:Nat):aq:=.c (cat Tryz.f51 (pn n))
abbrev S5:Cx:=⟨Tryz.prog,11,M,w0⟩
abbrev UU:=bodyPost Tryz.prog Tryz.f51 (bu M w0 (fun v _=>v=.bool r))
abbrev XB(ks:List aq)(s:AS):=VE (S5 M w0) (UU M w0 r) ks .normal s
def O4:AS:=⟨[(2,.bool v2)],[],[],[]⟩
variable{M w0 r v1 v2}{K:Kn}{n:Nat}
theorem MQ(hK:am K)(h:vx K n v2=some r):XB M w0 r [Uu 7] (O4 v2):=by
 unfold vx at h;refine aE 1 ?_;cases h;exact ba
theorem fW(hK:am K)(h:eE K n v1=some r):aO Tryz.prog 51 [.agg (gS v1)] (fun v _=>v=.bool r):=by
 refine bg (cat Tryz.f51 (pn 1)) Tryz.func51 Tryz.ntmps51 fun M w0=>(bc ⟨[(0,.agg (gS v1))],[],[],[]⟩ ?_);unfold eE at h;refine az 6 7 3 (aj 4 ?_);obtain⟨h1,h⟩|⟨h1,h⟩:=ak h
 ·exact aA 6 h1 (ac (ae 0 (MQ hK h)))
 ·exact aA 6 h1 (ac (ae 0 (MQ hK h)))
end
noncomputable section
variable(M:Nat→Prop)(w0:aF)(r:Bool)(v1:List ci)(v2 v23:Int)(v31 v34 v37 v40 v43:Bool)(m1:Nat)(L1:Int→Option Bool)
abbrev zm:Cx:=⟨Tryz.prog,130,M,w0⟩
abbrev xJ:=bodyPost Tryz.prog Tryz.f21 (bu M w0 (fun v _=>v=.bool r))
abbrev sS(ks:List aq)(s:AS):=VE (zm M w0) (xJ M w0 r) ks .normal s
abbrev eu(n:Nat):aq:=.c (cat Tryz.f21 (pn n))
abbrev EN:List aq:=[.b 0,eu 7]
abbrev uK:List aq:=kl (zm M w0) (xJ M w0 r) EN (cat Tryz.f21 (pn 52)) m1::EN
def Q9:AS:=⟨[(0,.sl (lm b9 v1)),(1,iI v2),(5,iI v23),(6,.ptr 6 0),(7,iI 3),(125,.bool v43)],[(6,aJ ((gD v1 v23).Style))],[],[6]⟩
def RP:AS:=⟨[(0,.sl (lm b9 v1)),(1,iI v2),(5,iI v23),(6,.ptr 6 0),(7,iI 2),(125,.bool v40)],[(6,aJ ((gD v1 v23).Style))],[],[6]⟩
def Qh:AS:=⟨[(0,.sl (lm b9 v1)),(1,iI v2),(5,iI v23),(6,.ptr 6 0),(7,iI 1),(125,.bool v37)],[(6,aJ ((gD v1 v23).Style))],[],[6]⟩
def Ww:AS:=⟨[(0,.sl (lm b9 v1)),(1,iI v2),(5,iI v23),(6,.ptr 6 0),(7,iI 0),(125,.bool v34)],[(6,aJ ((gD v1 v23).Style))],[],[6]⟩
def QW:AS:=⟨[(0,.sl (lm b9 v1)),(1,iI v2),(5,iI v23),(6,.ptr 6 0),(107,.bool v31)],[(6,aJ ((gD v1 v23).Style))],[],[6]⟩
def NQ:AS:=⟨[(0,.sl (lm b9 v1)),(1,iI v2),(5,iI v23)],[],[],[]⟩
abbrev oQ:Prop:=∀{v23:Int},L1 v23=some r→LP (zm M w0) (xJ M w0 r) EN (cat Tryz.f21 (pn 52)) m1 (NQ v1 v2 v23)
abbrev k8(m:Nat):List aq:=kl (zm M w0) (xJ M w0 r) (.b 2 :: .b 1::eu 211::uK M w0 r m1) (cat Tryz.f21 (pn 13468)) m::(.b 2 :: .b 1::eu 211::uK M w0 r m1)
variable{M w0 r v1 v2 v23 v31 v34 v37 v40 v43 m1 L1}{K:Kn}{n:Nat}
theorem I8(hK:am K)(hL1:oQ M w0 r v1 v2 m1 L1)(h:rS K n v1 v2 v23 L1 v43=some r):sS M w0 r (eu 215497 :: .b 3::eu 53875::k8 M w0 r m1 36) (Q9 v1 v2 v23 v43):=by
 unfold rS at h;obtain⟨h84,h⟩|⟨h84,h⟩:=ak h
 ·refine ag 125 h84 (aE 13 ?_);cases h;exact ba
 ·exact ag 125 h84 (bB (ks':=k8 M w0 r m1 36) 4 ⟨[(0,.sl (lm b9 v1)),(1,iI v2),(5,iI v23),(6,.ptr 6 0),(7,iI 4)],[(6,aJ ((gD v1 v23).Style))],[],[6]⟩ (bt (bp (ae 10 (bt (hL1 h))))))
theorem Nt(hK:am K)(hL1:oQ M w0 r v1 v2 m1 L1)(h:uM K n v1 v2 v23 L1 v40=some r):sS M w0 r (eu 215497 :: .b 3::eu 53875::k8 M w0 r m1 37) (RP v1 v2 v23 v40):=by
 unfold uM at h;obtain⟨h80,h⟩|⟨h80,h⟩:=ak h
 ·refine ag 125 h80 (aE 13 ?_);cases h;exact ba
 ·refine ag 125 h80 (bB (ks':=k8 M w0 r m1 37) 4 ⟨[(0,.sl (lm b9 v1)),(1,iI v2),(5,iI v23),(6,.ptr 6 0),(7,iI 3)],[(6,aJ ((gD v1 v23).Style))],[],[6]⟩ (bt (bp (dk 24 25 3 7 8 (aj 4 ?_)))));obtain⟨v41,h81,h⟩:=bind_some h;refine aD (fW hK h81) (aL 7 2 ?_);obtain⟨h82,h⟩|⟨h82,h⟩:=ak h
  ·exact aA 118 h82 (ac (ae 0 (I8 hK hL1 h)))
  ·refine aA 118 h82 (aL 11 4 ?_);obtain⟨v42,h83,h⟩:=bind_some h;exact aD (fW hK h83) (ac (ae 0 (I8 hK hL1 h)))
theorem ME(hK:am K)(hL1:oQ M w0 r v1 v2 m1 L1)(h:xc K n v1 v2 v23 L1 v37=some r):sS M w0 r (eu 215497 :: .b 3::eu 53875::k8 M w0 r m1 38) (Qh v1 v2 v23 v37):=by
 unfold xc at h;obtain⟨h76,h⟩|⟨h76,h⟩:=ak h
 ·refine ag 125 h76 (aE 13 ?_);cases h;exact ba
 ·refine ag 125 h76 (bB (ks':=k8 M w0 r m1 38) 4 ⟨[(0,.sl (lm b9 v1)),(1,iI v2),(5,iI v23),(6,.ptr 6 0),(7,iI 2)],[(6,aJ ((gD v1 v23).Style))],[],[6]⟩ (bt (bp (dk 24 25 3 7 8 (aj 4 ?_)))));obtain⟨v38,h77,h⟩:=bind_some h;refine aD (fW hK h77) (aL 7 2 ?_);obtain⟨h78,h⟩|⟨h78,h⟩:=ak h
  ·exact aA 118 h78 (ac (ae 0 (Nt hK hL1 h)))
  ·refine aA 118 h78 (aL 11 4 ?_);obtain⟨v39,h79,h⟩:=bind_some h;exact aD (fW hK h79) (ac (ae 0 (Nt hK hL1 h)))
theorem Hn(hK:am K)(hL1:oQ M w0 r v1 v2 m1 L1)(h:uZ K n v1 v2 v23 L1 v34=some r):sS M w0 r (eu 215497 :: .b 3::eu 53875::k8 M w0 r m1 39) (Ww v1 v2 v23 v34):=by
 unfold uZ at h;obtain⟨h72,h⟩|⟨h72,h⟩:=ak h
 ·refine ag 125 h72 (aE 13 ?_);cases h;exact ba
 ·refine ag 125 h72 (bB (ks':=k8 M w0 r m1 39) 4 ⟨[(0,.sl (lm b9 v1)),(1,iI v2),(5,iI v23),(6,.ptr 6 0),(7,iI 1)],[(6,aJ ((gD v1 v23).Style))],[],[6]⟩ (bt (bp (dk 24 25 3 7 8 (aj 4 ?_)))));obtain⟨v35,h73,h⟩:=bind_some h;refine aD (fW hK h73) (aL 7 2 ?_);obtain⟨h74,h⟩|⟨h74,h⟩:=ak h
  ·exact aA 118 h74 (ac (ae 0 (ME hK hL1 h)))
  ·refine aA 118 h74 (aL 11 4 ?_);obtain⟨v36,h75,h⟩:=bind_some h;exact aD (fW hK h75) (ac (ae 0 (ME hK hL1 h)))
theorem fO(hK:am K)(hL1:oQ M w0 r v1 v2 m1 L1)(h:dY K n v1 v2 v23 L1 v31=some r):sS M w0 r (eu 3365::eu 1683 :: .b 1::eu 211::uK M w0 r m1) (QW v1 v2 v23 v31):=by
 unfold dY at h;obtain⟨h68,h⟩|⟨h68,h⟩:=ak h
 ·refine ag 107 h68 (aE 10 ?_);cases h;exact ba
 ·refine ag 107 h68 (bB (ks':=eu 6734 :: .b 2 :: .b 1::eu 211::uK M w0 r m1) 5 ⟨[(0,.sl (lm b9 v1)),(1,iI v2),(5,iI v23),(6,.ptr 6 0),(7,iI 0)],[(6,aJ ((gD v1 v23).Style))],[],[6]⟩ (n6 40 (c:=cat Tryz.f21 [1,0,1,0,0,1,0,0,1,1,1,0,0]) (by kernel_rfl) (bp (co (ks':=eu 215496::eu 215497 :: .b 3::eu 53875::k8 M w0 r m1 39) 8 (aj 4 ?_)))));obtain⟨v32,h69,h⟩:=bind_some h;refine aD (fW hK h69) (aL 7 2 ?_);obtain⟨h70,h⟩|⟨h70,h⟩:=ak h
  ·exact aA 118 h70 (ac (ae 0 (Hn hK hL1 h)))
  ·refine aA 118 h70 (aL 11 4 ?_);obtain⟨v33,h71,h⟩:=bind_some h;exact aD (fW hK h71) (ac (ae 0 (Hn hK hL1 h)))
theorem Xv(hK:am K)(hL1:oQ M w0 r v1 v2 m1 L1)(h:kP K n v1 v2 L1 v23=some r):sS M w0 r (eu 52::uK M w0 r m1) (NQ v1 v2 v23):=by
 unfold kP at h;refine bH 4 5 3 2 (aj 2 (aB (bq b9 v1) (ac ?_)));obtain⟨h43,h⟩|⟨h43,h⟩:=ak h
 ·refine ag 11 h43 (cQ 8 9 1 3 5 (aj 2 ?_));obtain⟨h44,h⟩:=aK h;refine aB (bw b9 b9 h44 (tI) ((fun _=>rfl))) (ac (bH 4 5 3 2 (aj 2 ?_)));obtain⟨h45,h⟩:=aK h;refine aB (bw b9 b9 h45 (tI) ((fun _=>rfl))) (aL 8 5 ?_);obtain⟨h46,h⟩|⟨h46,h⟩:=ak h
  ·exact aA 26 h46 (ac (ae 0 (fO hK hL1 h)))
  ·refine aA 26 h46 (aL 10 2 ?_);obtain⟨v24,h47,h⟩:=bind_some h;refine aD (fW hK h47) (aL 14 3 ?_);obtain⟨h48,h⟩|⟨h48,h⟩:=ak h
   ·exact aA 32 h48 (ac (ae 0 (fO hK hL1 h)))
   ·refine aA 32 h48 (aL 16 2 ?_);obtain⟨v25,h49,h⟩:=bind_some h;refine aD (fW hK h49) (aL 20 3 ?_);obtain⟨h50,h⟩|⟨h50,h⟩:=ak h
    ·exact aA 38 h50 (ac (ae 0 (fO hK hL1 h)))
    ·refine aA 38 h50 (aL 22 2 ?_);obtain⟨v26,h51,h⟩:=bind_some h;refine aD (fW hK h51) (aL 26 3 ?_);obtain⟨h52,h⟩|⟨h52,h⟩:=ak h
     ·exact aA 44 h52 (ac (ae 0 (fO hK hL1 h)))
     ·refine aA 44 h52 (aL 28 2 ?_);obtain⟨v27,h53,h⟩:=bind_some h;refine aD (fW hK h53) (aL 32 3 ?_);obtain⟨h54,h⟩|⟨h54,h⟩:=ak h
      ·exact aA 50 h54 (ac (ae 0 (fO hK hL1 h)))
      ·refine aA 50 h54 (aL 34 2 ?_);obtain⟨v28,h55,h⟩:=bind_some h;refine aD (fW hK h55) (aL 38 3 ?_);obtain⟨h56,h⟩|⟨h56,h⟩:=ak h
       ·exact aA 56 h56 (ac (ae 0 (fO hK hL1 h)))
       ·refine aA 56 h56 (aL 40 2 ?_);obtain⟨v29,h57,h⟩:=bind_some h;refine aD (fW hK h57) (aL 44 3 ?_);obtain⟨h58,h⟩|⟨h58,h⟩:=ak h
        ·exact aA 62 h58 (ac (ae 0 (fO hK hL1 h)))
        ·refine aA 62 h58 (aL 46 2 ?_);obtain⟨v30,h59,h⟩:=bind_some h;refine aD (fW hK h59) (aL 50 3 ?_);obtain⟨h60,h⟩|⟨h60,h⟩:=ak h
         ·exact aA 68 h60 (ac (ae 0 (fO hK hL1 h)))
         ·refine aA 68 h60 (aL 55 5 ?_);obtain⟨h61,h⟩|⟨h61,h⟩:=ak h
          ·exact aA 73 h61 (ac (ae 0 (fO hK hL1 h)))
          ·refine aA 73 h61 (aL 60 5 ?_);obtain⟨h62,h⟩|⟨h62,h⟩:=ak h
           ·exact aA 78 h62 (ac (ae 0 (fO hK hL1 h)))
           ·refine aA 78 h62 (aL 65 5 ?_);obtain⟨h63,h⟩|⟨h63,h⟩:=ak h
            ·exact aA 83 h63 (ac (ae 0 (fO hK hL1 h)))
            ·refine aA 83 h63 (aL 70 5 ?_);obtain⟨h64,h⟩|⟨h64,h⟩:=ak h
             ·exact aA 88 h64 (ac (ae 0 (fO hK hL1 h)))
             ·refine aA 88 h64 (aL 75 5 ?_);obtain⟨h65,h⟩|⟨h65,h⟩:=ak h
              ·exact aA 93 h65 (ac (ae 0 (fO hK hL1 h)))
              ·refine aA 93 h65 (aL 80 5 ?_);obtain⟨h66,h⟩|⟨h66,h⟩:=ak h
               ·exact aA 98 h66 (ac (ae 0 (fO hK hL1 h)))
               ·refine aA 98 h66 (aL 85 5 ?_);obtain⟨h67,h⟩|⟨h67,h⟩:=ak h
                ·exact aA 103 h67 (ac (ae 0 (fO hK hL1 h)))
                ·exact aA 103 h67 (ac (ae 0 (fO hK hL1 h)))
 ·refine ag 11 h43 (kx 2 3 6 (aj 1 (aB (bq b9 v1) (ac (aE 1 ?_)))));cases h;exact ba
theorem X3(hK:am K)(m:Nat):oQ M w0 r v1 v2 m (qo K n v1 v2 m):=by
 induction m with
 | zero=>intro v23 h;cases h
 | succ m ih=>intro v23 h;have h:kP K n v1 v2 (qo K n v1 v2 m) v23=some r:=h;exact bp (Xv hK ih h)
theorem Ut(hK:am K)(h:zF K n v1 v2=some r):aO Tryz.prog 21 [.sl (lm b9 v1),iI v2] (fun v _=>v=.bool r):=by
 refine bg (cat Tryz.f21 (pn 1)) Tryz.func21 Tryz.ntmps21 fun M w0=>(bc ⟨[(0,.sl (lm b9 v1)),(1,iI v2)],[],[],[]⟩ ?_);unfold zF at h;exact ae 6 (cf (p:=pn 26) n (X3 hK n h))
end
noncomputable section
variable(M:Nat→Prop)(w0:aF)(r:Bool)(v1:List ci)  
variable{M w0 r v1}{K:Kn}{n:Nat}
theorem S8(hK:am K)(h:ze K n v1=some r):aO Tryz.prog 7 [.sl (lm b9 v1)] (fun v _=>v=.bool r):=by
 refine bg (cat Tryz.f7 (pn 1)) Tryz.func7 Tryz.ntmps7 fun M w0=>(bc ⟨[(0,.sl (lm b9 v1))],[],[],[]⟩ ?_);unfold ze at h;refine az 6 7 3 (aj 1 ?_);obtain⟨v2,h1,h⟩:=bind_some h;refine aD (Ut hK h1) (ac (aE 1 ?_));cases h;exact ba
end
noncomputable section
variable(M:Nat→Prop)(w0:aF)(r:(List ai)×Int)(v1:List ci)(v2 v3 v20:Int)(v21:List ai)(v22:Bool)(v26 v27:Int)(v28:ByteArray)(v29:List ai)(m1:Nat)(L1:Int→(List ai)→Option ((List ai)×Int))
abbrev Fz:Cx:=⟨Tryz.prog,84,M,w0⟩
abbrev Bv:=bodyPost Tryz.prog Tryz.f30 (bu M w0 (fun v s=>v=.tup [.ref 81,iI r.2]∧look 81 s.r=some ⟨52,59,lm aQ r.1⟩))
abbrev A9(ks:List aq)(s:AS):=VE (Fz M w0) (Bv M w0 r) ks .normal s
abbrev im(n:Nat):aq:=.c (cat Tryz.f30 (pn n))
abbrev Ej:List aq:=[.b 0,im 15]
abbrev mF:List aq:=kl (Fz M w0) (Bv M w0 r) Ej (cat Tryz.f30 (pn 56)) m1::Ej
def acO:AS:=⟨[(0,.sl (lm b9 v1)),(1,iI v26),(2,.int .u8 v3),(8,.ref 81),(10,.ptr 10 0)],[(10,aW (⟨v27,(aa (10+v20)),(gD v1 v20).Style,v28,0,0,v29⟩:ai))],[(81,⟨52,59,lm aQ v21⟩)],[10,81]⟩
def OO:AS:=⟨[(0,.sl (lm b9 v1)),(1,iI v20),(2,.int .u8 v3),(8,.ref 81),(26,.bool v22)],[],[(81,⟨52,59,lm aQ v21⟩)],[81]⟩
def Gn:AS:=⟨[(0,.sl (lm b9 v1)),(1,iI v20),(2,.int .u8 v3),(8,.ref 81)],[],[(81,⟨52,59,lm aQ v21⟩)],[81]⟩
abbrev yN:Prop:=∀{v20:Int} {v21:(List ai)},L1 v20 v21=some r→LP (Fz M w0) (Bv M w0 r) Ej (cat Tryz.f30 (pn 56)) m1 (Gn v1 v3 v20 v21)
variable{M w0 r v1 v2 v3 v20 v21 v22 v26 v27 v28 v29 m1 L1}{K:Kn}{n:Nat}
theorem zV(hK:am K)(hL1:yN M w0 r v1 v3 m1 L1)(h:m6 K n v1 v3 v20 v21 L1 v26 v27 v28 v29=some r):A9 M w0 r (.b 2::im 3631 :: .b 1::mF M w0 r m1) (acO v1 v3 v20 v21 v26 v27 v28 v29):=by
 unfold m6 at h;refine co (ks':=im 3631 :: .b 1::mF M w0 r m1) 1 (aj 2 (aB (fB aQ ([(⟨v27,(aa (10+v20)),(gD v1 v20).Style,v28,0,0,v29⟩:ai)]:List ai) (new:=[aW (⟨v27,(aa (10+v20)),(gD v1 v20).Style,v28,0,0,v29⟩:ai)]) (by simp only[List.map_cons,List.map_nil,dK])) ?_));obtain⟨h36,h⟩:=aK h;exact aB (cD 81 81 52 59 aQ (rfl) (fi) h36) (ac (ae 1 (bt (hL1 h))))
theorem Gs(hK:am K)(hL1:yN M w0 r v1 v3 m1 L1)(h:mH K n v1 v3 v20 v21 L1 v22=some r):A9 M w0 r (im 225::im 113::mF M w0 r m1) (OO v1 v3 v20 v21 v22):=by
 unfold mH at h;obtain⟨h27,h⟩|⟨h27,h⟩:=ak h
 ·refine ag 26 h27 (co (ks':=im 452::im 453 :: .b 1::mF M w0 r m1) 4 (aj 2 ?_));obtain⟨h28,h⟩:=aK h;refine aB (bw b9 b9 h28 (tI) ((fun _=>rfl))) (ac ?_);obtain⟨v23,h29,h⟩:=bW h;obtain⟨v24,h30,h⟩:=bW h;refine bB (ks':=im 29045 :: .b 2::im 3631 :: .b 1::mF M w0 r m1) 10 ⟨[(0,.sl (lm b9 v1)),(1,iI (aa (v20+1))),(2,.int .u8 v3),(8,.ref 81),(9,.ptr 9 0),(10,.ptr 10 0),(42,.int .u8 v23),(43,.bool v24)],[(9,b9 (gD v1 v20)),(10,List.set (aW (⟨3,(aa (10+v20)),(gD v1 v20).Style,(gD v1 v20).Text,0,0,[]⟩:ai)) 58 (.nils))],[(81,⟨52,59,lm aQ v21⟩)],[9,10,81]⟩ ?_ (by subst h30;subst h29;kernel_rfl);obtain⟨h31,h⟩|⟨h31,h⟩:=ak h
  ·exact ag 43 h31 (co (ks':=.b 2::im 3631 :: .b 1::mF M w0 r m1) 4 (kO 10 (ae 0 (zV hK hL1 h))))
  ·refine ag 43 h31 (bh 7 3 ?_);obtain⟨h32,h⟩|⟨h32,h⟩:=ak h
   ·refine ag 47 h32 (bh 23 7 (aj 3 (aB (fB aQ ([({ gw with Kind:=3,Style:=(gD v1 v20).Style,Text:=(gD v1 v20).Text }:ai)]:List ai) (new:=[aW ({ gw with Kind:=3,Style:=(gD v1 v20).Style,Text:=(gD v1 v20).Text }:ai)]) (by simp only[List.map_cons,List.map_nil,dK])) ?_)));obtain⟨h33,h⟩:=aK h;exact aB (CD 60 52 59 aQ (rfl) (fi) h33) (ac (kB 60 (ae 0 (zV hK hL1 h))))
   ·refine ag 47 h32 (bh 7 3 ?_);obtain⟨h34,h⟩|⟨h34,h⟩:=ak h
    ·refine ag 62 h34 (az 4 5 2 (aj 5 ?_));obtain⟨v25,h35,h⟩:=bind_some h;exact aD (hK.zR h35) (ac (ae 7 (zV hK hL1 h)))
    ·exact ag 62 h34 (co (ks':=.b 2::im 3631 :: .b 1::mF M w0 r m1) 2 (kO 10 (ae 0 (zV hK hL1 h))))
 ·refine ag 26 h27 (aE 8 ?_);cases h;exact vp
theorem U5(hK:am K)(hL1:yN M w0 r v1 v3 m1 L1)(h:mE K n v1 v3 L1 v20 v21=some r):A9 M w0 r (im 56::mF M w0 r m1) (Gn v1 v3 v20 v21):=by
 unfold mE at h;refine bH 4 5 3 2 (aj 2 (aB (bq b9 v1) (aL 5 2 ?_)));obtain⟨h25,h⟩|⟨h25,h⟩:=ak h
 ·refine aA 18 h25 (aL 7 2 ?_);obtain⟨h26,h⟩:=aK h;exact aB (bw b9 b9 h26 (tI) ((fun _=>rfl))) (ac (ae 0 (Gs hK hL1 h)))
 ·exact aA 18 h25 (ac (ae 0 (Gs hK hL1 h)))
theorem Pa(hK:am K)(m:Nat):yN M w0 r v1 v3 m (ld K n v1 v3 m):=by
 induction m with
 | zero=>intro v20 v21 h;cases h
 | succ m ih=>intro v20 v21 h;have h:mE K n v1 v3 (ld K n v1 v3 m) v20 v21=some r:=h;exact bp (U5 hK ih h)
theorem MG(hK:am K)(h:lG K n v1 v2 v3=some r):aO Tryz.prog 30 [.sl (lm b9 v1),iI v2,.int .u8 v3] (fun v s=>v=.tup [.ref 81,iI r.2]∧look 81 s.r=some ⟨52,59,lm aQ r.1⟩):=by
 refine bg (cat Tryz.f30 (pn 1)) Tryz.func30 Tryz.ntmps30 fun M w0=>(bc ⟨[(0,.sl (lm b9 v1)),(1,iI v2),(2,.int .u8 v3)],[],[],[]⟩ ?_);unfold lG at h;exact fr 28 0 15 6 (bI [0,1,2,8] [] [] (fh 81 8 52 59 (ae 0 (cf (p:=pn 28) n (Pa hK n h)))))
end
noncomputable section
variable(M:Nat→Prop)(w0:aF)(r:List ai)(v1:List ci)  
variable{M w0 r v1}{K:Kn}{n:Nat}
theorem abQ(hK:am K)(h:tD K n v1=some r):aO Tryz.prog 9 [.sl (lm b9 v1)] (fun v s=>v=.ref 1007∧look 1007 s.r=some ⟨52,59,lm aQ r⟩):=by
 refine bg (cat Tryz.f9 (pn 1)) Tryz.func9 Tryz.ntmps9 fun M w0=>(bc ⟨[(0,.sl (lm b9 v1))],[],[],[]⟩ ?_);unfold tD at h;refine az 6 7 3 (aj 1 ?_);obtain⟨v2,h1,h⟩:=bind_some h;refine dx 1007 (MG hK h1) (wg (i:=0) rfl) (ac (aE 3 ?_));cases h;exact fa
end
noncomputable section
variable(M:Nat→Prop)(w0:aF)(r:Bool)(v1:ai)(v2:Bool)  
abbrev Z4(n:Nat):aq:=.c (cat Tryz.f62 (pn n))
abbrev YM:Cx:=⟨Tryz.prog,12,M,w0⟩
abbrev Yt:=bodyPost Tryz.prog Tryz.f62 (bu M w0 (fun v _=>v=.bool r))
abbrev TV(ks:List aq)(s:AS):=VE (YM M w0) (Yt M w0 r) ks .normal s
def U4:AS:=⟨[(2,.bool v2)],[],[],[]⟩
variable{M w0 r v1 v2}{K:Kn}{n:Nat}
theorem NA(hK:am K)(h:mV K n v2=some r):TV M w0 r [Z4 7] (U4 v2):=by
 unfold mV at h;refine aE 1 ?_;cases h;exact ba
theorem Jy(hK:am K)(h:iQ K n v1=some r):aO Tryz.prog 62 [.agg (aW v1)] (fun v _=>v=.bool r):=by
 refine bg (cat Tryz.f62 (pn 1)) Tryz.func62 Tryz.ntmps62 fun M w0=>(bc ⟨[(0,.agg (aW v1))],[],[],[]⟩ ?_);unfold iQ at h;refine az 6 7 3 (aj 4 ?_);obtain⟨h1,h⟩|⟨h1,h⟩:=ak h
 ·exact aA 6 h1 (ac (ae 0 (NA hK h)))
 ·exact aA 6 h1 (ac (ae 0 (NA hK h)))
end
noncomputable section
variable(M:Nat→Prop)(w0:aF)(r:(List Int)×(List Int))(v1:ByteArray)(v2 v4:Nat)(v5 v6:(List Int))(m1:Nat)(L1:Nat→(List Int)→(List Int)→Option ((List Int)×(List Int)))
abbrev FW:Cx:=⟨Tryz.prog,28,M,w0⟩
abbrev Bs:=bodyPost Tryz.prog Tryz.f63 (bu M w0 (fun v s=>v=.tup [.ref 17,.sl (lm (bi .i64) r.2)]∧look 17 s.r=some ⟨21,1,lm (bi .i32) r.1⟩))
abbrev XY(ks:List aq)(s:AS):=VE (FW M w0) (Bs M w0 r) ks .normal s
abbrev JB(n:Nat):aq:=.c (cat Tryz.f63 (pn n))
abbrev AU:List aq:=[.b 0,JB 31]
abbrev aaY:List aq:=kl (FW M w0) (Bs M w0 r) AU (cat Tryz.f63 (pn 244)) m1::AU
def K3:AS:=⟨[(0,.str v1),(4,.ref 17),(5,.ref 21),(9,.sit 320009 v2 v1 v4)],[],[(17,⟨21,1,lm (bi .i32) v5⟩),(21,⟨3,1,lm (bi .i64) v6⟩)],[17,21,320009]⟩
abbrev GV:Prop:=∀{v4:Nat} {v5:(List Int)} {v6:(List Int)},L1 v4 v5 v6=some r→LP (FW M w0) (Bs M w0 r) AU (cat Tryz.f63 (pn 244)) m1 (K3 v1 v2 v4 v5 v6)
variable{M w0 r v1 v2 v4 v5 v6 m1 L1}{K:Kn}{n:Nat}
theorem SJ(hK:am K)(hv2:w0.w.heap.size≤v2)(hL1:GV M w0 r v1 v2 m1 L1)(h:sd K n v1 L1 v4 v5 v6=some r):XY M w0 r (JB 244::aaY M w0 r m1) (K3 v1 v2 v4 v5 v6):=by
 unfold sd at h;refine az 2 3 1 (aj 0 ?_);obtain⟨h8,h⟩|⟨h8,h⟩:=ak h
 ·refine za 9 (id:=320009) (g:=v2) h8 hv2 (ac (Qx 26 27 1 7 (aj 3 ?_)));obtain⟨h9,h⟩:=aK h;refine aB (cD 17 17 21 1 (bi .i32) (rfl) ((fun _=>rfl)) h9) (ac (aj 3 ?_));obtain⟨h10,h⟩:=aK h;exact aB (cD 21 21 3 1 (bi .i64) (rfl) ((fun _=>rfl)) h10) (ac (ae 1 (bt (hL1 h))))
 ·refine Am 9 (id:=320009) (g:=v2) h8 (ac (Hy 2 3 7 (aj 5 ?_)));obtain⟨h11,h⟩:=aK h;refine aB (cD 27 21 3 1 (bi .i64) (rfl) ((fun _=>rfl)) h11) (ac (aE 1 (kB 21 ?_)));cases h;exact vp
theorem aaq(hK:am K)(hv2:w0.w.heap.size≤v2)(m:Nat):GV M w0 r v1 v2 m (sI K n v1 m):=by
 induction m with
 | zero=>intro v4 v5 v6 h;cases h
 | succ m ih=>intro v4 v5 v6 h;have h:sd K n v1 (sI K n v1 m) v4 v5 v6=some r:=h;exact bp (SJ hK hv2 ih h)
theorem RJ(hK:am K)(h:xo K n v1=some r):aO Tryz.prog 63 [.str v1] (fun v s=>v=.tup [.ref 17,.sl (lm (bi .i64) r.2)]∧look 17 s.r=some ⟨21,1,lm (bi .i32) r.1⟩):=by
 refine bg (cat Tryz.f63 (pn 1)) Tryz.func63 Tryz.ntmps63 fun M w0=>(bc ⟨[(0,.str v1)],[],[],[]⟩ ?_);unfold xo at h;exact bH 60 61 31 8 (aj 1 (zD 320009 (b:=v1) fun v2 hv2=>(ac (jF 2 0 1 (bI [0,4,5,9] [] [] (fh 17 4 21 1 (fh 21 5 3 1 (ae 0 (cf (p:=pn 122) n (aaq hK (v2:=v2) hv2 n h))))))))))
end
noncomputable section
variable(M:Nat→Prop)(w0:aF)(r:Bool)(v1:Int)(v2:Bool)  
abbrev abL(n:Nat):aq:=.c (cat Tryz.f66 (pn n))
abbrev Zh:Cx:=⟨Tryz.prog,17,M,w0⟩
abbrev S6:=bodyPost Tryz.prog Tryz.f66 (bu M w0 (fun v _=>v=.bool r))
abbrev Yx(ks:List aq)(s:AS):=VE (Zh M w0) (S6 M w0 r) ks .normal s
def Q4:AS:=⟨[(2,.bool v2)],[],[],[]⟩
variable{M w0 r v1 v2}{K:Kn}{n:Nat}
theorem yx(hK:am K)(h:oe K n v2=some r):Yx M w0 r [abL 7] (Q4 v2):=by
 unfold oe at h;refine aE 1 ?_;cases h;exact ba
theorem Ag(hK:am K)(h:mC K n v1=some r):aO Tryz.prog 66 [.int .i32 v1] (fun v _=>v=.bool r):=by
 refine bg (cat Tryz.f66 (pn 1)) Tryz.func66 Tryz.ntmps66 fun M w0=>(bc ⟨[(0,.int .i32 v1)],[],[],[]⟩ ?_);unfold mC at h;refine az 6 7 3 (aj 3 ?_);obtain⟨h1,h⟩|⟨h1,h⟩:=ak h
 ·exact aA 5 h1 (ac (ae 0 (yx hK h)))
 ·refine aA 5 h1 (aL 7 4 ?_);obtain⟨h2,h⟩|⟨h2,h⟩:=ak h
  ·exact aA 9 h2 (ac (ae 0 (yx hK h)))
  ·refine aA 9 h2 (aL 11 4 ?_);obtain⟨h3,h⟩|⟨h3,h⟩:=ak h
   ·exact aA 13 h3 (ac (ae 0 (yx hK h)))
   ·exact aA 13 h3 (ac (ae 0 (yx hK h)))
end
noncomputable section
variable(M:Nat→Prop)(w0:aF)(r:List aM)(v1:aM)(v2:List aM)(v4 v5:aM)(v6:Bool)(v7:aM)  
abbrev m9(n:Nat):aq:=.c (cat Tryz.f64 (pn n))
abbrev Yn:Cx:=⟨Tryz.prog,60,M,w0⟩
abbrev Vo:=bodyPost Tryz.prog Tryz.f64 (bu M w0 (fun v s=>v=.ref 9∧dh s.o []∧look 9 s.r=some ⟨54,64,lm aS r⟩))
abbrev z9(ks:List aq)(s:AS):=VE (Yn M w0) (Vo M w0 r) ks .normal s
def Pf:AS:=⟨[(0,.ref 9),(3,.ptr 3 0)],[(3,aS v5)],[(9,⟨54,64,lm aS v2⟩)],[3,9]⟩
def Px:AS:=⟨[(0,.ref 9),(3,.ptr 3 0)],[(3,aS v4)],[(9,⟨54,64,lm aS v2⟩)],[3,9]⟩
def UL:AS:=⟨[(0,.ref 9),(3,.ptr 3 0)],[(3,aS v7)],[(9,⟨54,64,lm aS v2⟩)],[3,9]⟩
def Rs:AS:=⟨[(0,.ref 9),(3,.ptr 3 0),(52,.bool v6)],[(3,aS v1)],[(9,⟨54,64,lm aS v2⟩)],[3,9]⟩
variable{M w0 r v1 v2 v4 v5 v6 v7}{K:Kn}{n:Nat}
theorem LV(hK:am K)(h:uF K n v2 v5=some r):z9 M w0 r [m9 471,m9 15] (Pf v2 v5):=by
 unfold uF at h;refine az 2 3 1 (aj 3 ?_);obtain⟨h6,h⟩:=aK h;refine aB (cD 30 9 54 64 aS (rfl) (jy) h6) (ac (aE 2 ?_));cases h;exact eK
theorem HO(hK:am K)(h:wi K n v2 v4=some r):z9 M w0 r [m9 235,m9 15] (Px v2 v4):=by
 unfold wi at h;refine az 5 3 3 ?_;obtain⟨h5,h⟩|⟨h5,h⟩:=ak h
 ·exact ag 25 h5 (ae 2 (LV hK h))
 ·exact ag 25 h5 (ae 2 (LV hK h))
theorem NY(hK:am K)(h:qU K n v2 v7=some r):z9 M w0 r [m9 31] (UL v2 v7):=by
 unfold qU at h;refine az 2 3 1 (aj 3 ?_);obtain⟨h13,h⟩:=aK h;refine aB (cD 59 9 54 64 aS (rfl) (jy) h13) (ac (aE 1 ?_));cases h;exact eK
theorem E4(hK:am K)(h:tS K n v1 v2 v6=some r):z9 M w0 r [m9 489,m9 245,m9 31] (Rs v1 v2 v6):=by
 unfold tS at h;obtain⟨h12,h⟩|⟨h12,h⟩:=ak h
 ·refine ag 52 h12 (aE 6 ?_);cases h;exact eK
 ·exact ag 52 h12 (ae 5 (NY hK h))
theorem U7(hK:am K)(h:un K n v1 v2=some r):fl Tryz.prog 64 [.ref 9,.agg (aS v1)] [] 9 ⟨54,64,lm aS v2⟩ [9] (fun v s=>v=.ref 9∧dh s.o []∧look 9 s.r=some ⟨54,64,lm aS r⟩):=by
 refine je (c:=cat Tryz.f64 (pn 1)) Tryz.func64 (by kernel_rfl) _ Tryz.ntmps64 (of_decide_eq_true (by kernel_rfl)) fun M w0=>(bc ⟨[(0,.ref 9),(1,.agg (aS v1))],[],[(9,⟨54,64,lm aS v2⟩)],[9]⟩ ?_);unfold un at h;refine az 6 7 3 (aj 2 ?_);obtain⟨v3,h1,h⟩:=bind_some h;refine aD (Ag hK h1) (ac (az 5 3 3 ?_));obtain⟨h2,h⟩|⟨h2,h⟩:=ak h
 ·refine ag 13 h2 (az 9 5 4 ?_);obtain⟨h3,h⟩|⟨h3,h⟩:=ak h
  ·refine ag 16 h3 (aE 6 ?_);cases h;exact eK
  ·refine ag 16 h3 (dB 5 3 5 ?_);obtain⟨h4,h⟩|⟨h4,h⟩:=ak h
   ·exact ag 20 h4 (ae 4 (HO hK h))
   ·exact ag 20 h4 (ae 2 (HO hK h))
 ·refine ag 13 h2 (dB 5 3 5 ?_);obtain⟨h7,h⟩|⟨h7,h⟩:=ak h
  ·refine ag 31 h7 (bH 8 9 5 3 (aj 1 (aB (bq aS v2) (aL 4 2 ?_))));obtain⟨h8,h⟩|⟨h8,h⟩:=ak h
   ·exact aA 35 h8 (ac (ae 0 (E4 hK h)))
   ·refine aA 35 h8 (aL 6 2 (aB (bq aS v2) (aL 8 1 ?_)));obtain⟨h9,h⟩:=aK h;refine aB (cS 9 64 aS h9) (aL 10 1 (aB (cp 4 61 aS aS (cj h9).2 ((fun _=>rfl))) (aL 13 2 ?_)));obtain⟨h10,h⟩|⟨h10,h⟩:=ak h
    ·exact aA 44 h10 (ac (ae 0 (E4 hK h)))
    ·refine aA 44 h10 (aL 15 2 (aB (bq aS v2) (aL 17 1 ?_)));obtain⟨h11,h⟩:=aK h;exact aB (cS 9 64 aS h11) (aL 19 1 (aB (cp 4 62 aS aS (cj h11).2 ((fun _=>rfl))) (ac (ae 0 (E4 hK h)))))
  ·exact ag 31 h7 (ae 2 (NY hK h))
end
noncomputable section
variable(M:Nat→Prop)(w0:aF)(r:List aM)(v1:List ai)(v2:List aM)(v16:Int)(v17:List aM)(v24:(List Int)×(List Int))(v26:Int)(v27 v29 v30:(List aM))(m1 m2:Nat)(L1 L2:Int→(List aM)→Option (List aM))
abbrev ut:Cx:=⟨Tryz.prog,74,M,w0⟩
abbrev vb:=bodyPost Tryz.prog Tryz.f35 (bu M w0 (fun v s=>v=.ref 9∧dh s.o []∧look 9 s.r=some ⟨54,64,lm aS r⟩))
abbrev Ab(ks:List aq)(s:AS):=VE (ut M w0) (vb M w0 r) ks .normal s
abbrev gn(n:Nat):aq:=.c (cat Tryz.f35 (pn n))
abbrev D9:List aq:=[.b 0,gn 7]
abbrev ma:List aq:=kl (ut M w0) (vb M w0 r) D9 (cat Tryz.f35 (pn 52)) m1::D9
abbrev EA:List aq:=.b 3 :: .b 2 :: .b 1::gn 211::ma M w0 r m1
abbrev acn:List aq:=kl (ut M w0) (vb M w0 r) (EA M w0 r m1) (cat Tryz.f35 (pn 55177196)) m2::(EA M w0 r m1)
def Wv:AS:=⟨[(0,.ref 9),(1,.sl (lm aQ v1)),(5,iI v16)],[],[(9,⟨54,64,lm aS v30⟩)],[9]⟩
def PR:AS:=⟨[(0,.ref 9),(1,.sl (lm aQ v1)),(5,iI v16)],[],[(9,⟨54,64,lm aS v29⟩)],[9]⟩
def LK:AS:=⟨[(0,.ref 9),(1,.sl (lm aQ v1)),(5,iI v16),(6,.ptr 6 0),(7,iI (v17.length:Int)),(8,.ref 1055),(10,iI v26)],[(6,aW (gD v1 v16))],[(9,⟨54,64,lm aS v27⟩),(1055,⟨21,1,lm (bi .i32) v24.1⟩)],[6,9,1055]⟩
def MS:AS:=⟨[(0,.ref 9),(1,.sl (lm aQ v1)),(5,iI v16)],[],[(9,⟨54,64,lm aS v17⟩)],[9]⟩
abbrev qD:Prop:=∀{v16:Int} {v17:(List aM)},L1 v16 v17=some r→LP (ut M w0) (vb M w0 r) D9 (cat Tryz.f35 (pn 52)) m1 (MS v1 v16 v17)
abbrev NX:Prop:=∀{v26:Int} {v27:(List aM)},L2 v26 v27=some r→LP (ut M w0) (vb M w0 r) (EA M w0 r m1) (cat Tryz.f35 (pn 55177196)) m2 (LK v1 v16 v17 v24 v26 v27)
variable{M w0 r v1 v2 v16 v17 v24 v26 v27 v29 v30 m1 m2 L1 L2}{K:Kn}{n:Nat}
theorem G9(hK:am K)(hL1:qD M w0 r v1 m1 L1)(h:kV K n v1 v16 L1 v30=some r):Ab M w0 r (gn 211::ma M w0 r m1) (Wv v1 v16 v30):=by
 unfold kV at h;exact ae 1 (bt (hL1 h))
theorem vn(hK:am K)(hL1:qD M w0 r v1 m1 L1)(h:iC K n v1 v16 L1 v29=some r):Ab M w0 r (.b 2 :: .b 1::gn 211::ma M w0 r m1) (PR v1 v16 v29):=by
 unfold iC at h;exact ae 2 (G9 hK hL1 h)
theorem SD(hK:am K)(hL1:qD M w0 r v1 m1 L1)(hL2:NX M w0 r v1 v16 v17 v24 m1 m2 L2)(h:rT K n v1 v16 v17 v24 L1 L2 v26 v27=some r):Ab M w0 r (gn 55177196::acn M w0 r m1 m2) (LK v1 v16 v17 v24 v26 v27):=by
 unfold rT at h;refine bH 4 5 3 2 (aj 2 (aB (bq (bi .i32) v24.1) (ac ?_)));obtain⟨h42,h⟩|⟨h42,h⟩:=ak h
 ·refine ag 61 h42 (zU 4 4 3 4 (bI [0,1,5,6,7,8,10] [6] [9,1055] ?_));obtain⟨h43,h⟩:=aK h;refine Hx 8 0 [(64,.ref 9),(65,.agg (aW (gD v1 v16))),(66,iI (v17.length:Int)),(67,.ref 1055),(68,iI v26),(69,.eptr 1055 1 (v26.toNat) 0),(70,.int .i32 (gD v24.1 v26)),(71,.agg (aS ({ mh with Box:=(gD v1 v16),Number:=(v17.length:Int),Char:=(gD v24.1 v26) }:aM)))] [] [] [] (av (vz 5) (bv (dU 1055 1 (bi .i32) (L:=v24.1) h43) (bv (cp 21 0 (bi .i32) (bi .i32) (cj h43).2 ((fun _=>rfl))) (av [.v 0 1] (C9))))) ?_;obtain⟨v28,h44,h⟩:=bind_some h;exact gH 9 9 [] (U7 hK h44) (ac (ae 2 (bt (hL2 h))))
 ·exact ag 61 h42 (ae 5 (vn hK hL1 h))
theorem aa2(hK:am K)(hL1:qD M w0 r v1 m1 L1)(m:Nat):NX M w0 r v1 v16 v17 v24 m1 m (sB K n v1 v16 v17 v24 L1 m):=by
 induction m with
 | zero=>intro v26 v27 h;cases h
 | succ m ih=>intro v26 v27 h;have h:rT K n v1 v16 v17 v24 L1 (sB K n v1 v16 v17 v24 L1 m) v26 v27=some r:=h;exact bp (SD hK hL1 ih h)
theorem Q7(hK:am K)(hL1:qD M w0 r v1 m1 L1)(h:q8 K n v1 L1 v16 v17=some r):Ab M w0 r (gn 52::ma M w0 r m1) (MS v1 v16 v17):=by
 unfold q8 at h;refine bH 4 5 3 2 (aj 2 (aB (bq aQ v1) (ac ?_)));obtain⟨h23,h⟩|⟨h23,h⟩:=ak h
 ·refine ag 14 h23 (cQ 8 9 1 3 5 (aj 2 ?_));obtain⟨h24,h⟩:=aK h;refine aB (bw aQ aW h24 (fi) (dK)) (ac (az 2 3 1 (aj 1 (aB (bq aS v17) (ac (bH 4 5 3 2 (aj 1 ?_)))))));obtain⟨v18,h25,h⟩:=bind_some h;refine aD (Jy hK h25) (ac ?_);obtain⟨h26,h⟩|⟨h26,h⟩:=ak h
  ·exact ag 25 h26 (ae 4 (G9 hK hL1 h))
  ·refine ag 25 h26 ?_;obtain⟨v19,h27,h⟩:=bW h;refine bB (ks':=gn 26941 :: .b 2 :: .b 1::gn 211::ma M w0 r m1) 7 ⟨[(0,.ref 9),(1,.sl (lm aQ v1)),(5,iI v16),(6,.ptr 6 0),(7,iI (v17.length:Int)),(27,iI ((gD v1 v16).Kind)),(28,.bool v19)],[(6,aW (gD v1 v16))],[(9,⟨54,64,lm aS v17⟩)],[6,9]⟩ ?_ (by subst h27;kernel_rfl);obtain⟨h28,h⟩|⟨h28,h⟩:=ak h
   ·refine ag 28 h28 (bh 2 1 (aj 3 ?_));obtain⟨v20,h29,h⟩:=bind_some h;exact gH 9 9 [] (hK.Aa h29) (ac (ae 0 (vn hK hL1 h)))
   ·refine ag 28 h28 ?_;obtain⟨v21,h30,h⟩:=bW h;refine bB (ks':=gn 107767 :: .b 2 :: .b 1::gn 211::ma M w0 r m1) 3 ⟨[(0,.ref 9),(1,.sl (lm aQ v1)),(5,iI v16),(6,.ptr 6 0),(7,iI (v17.length:Int)),(27,iI ((gD v1 v16).Kind)),(34,.bool v21)],[(6,aW (gD v1 v16))],[(9,⟨54,64,lm aS v17⟩)],[6,9]⟩ ?_ (by subst h30;kernel_rfl);obtain⟨h31,h⟩|⟨h31,h⟩:=ak h
    ·refine ag 34 h31 (bh 2 1 (aj 5 ?_));obtain⟨h32,h⟩:=aK h;exact aB (cD 41 9 54 64 aS (rfl) (jy) h32) (ac (ae 0 (vn hK hL1 h)))
    ·refine ag 34 h31 ?_;obtain⟨v22,h33,h⟩:=bW h;refine bB (ks':=gn 431071 :: .b 2 :: .b 1::gn 211::ma M w0 r m1) 3 ⟨[(0,.ref 9),(1,.sl (lm aQ v1)),(5,iI v16),(6,.ptr 6 0),(7,iI (v17.length:Int)),(27,iI ((gD v1 v16).Kind)),(42,.bool v22)],[(6,aW (gD v1 v16))],[(9,⟨54,64,lm aS v17⟩)],[6,9]⟩ ?_ (by subst h33;kernel_rfl);obtain⟨h34,h⟩|⟨h34,h⟩:=ak h
     ·refine ag 42 h34 (bh 2 1 (aj 5 ?_));obtain⟨h35,h⟩:=aK h;exact aB (cD 49 9 54 64 aS (rfl) (jy) h35) (ac (ae 0 (vn hK hL1 h)))
     ·refine ag 42 h34 ?_;obtain⟨v23,h36,h⟩:=bW h;refine bB (ks':=gn 1724287 :: .b 2 :: .b 1::gn 211::ma M w0 r m1) 3 ⟨[(0,.ref 9),(1,.sl (lm aQ v1)),(5,iI v16),(6,.ptr 6 0),(7,iI (v17.length:Int)),(50,.bool v23)],[(6,aW (gD v1 v16))],[(9,⟨54,64,lm aS v17⟩)],[6,9]⟩ ?_ (by subst h36;kernel_rfl);obtain⟨h37,h⟩|⟨h37,h⟩:=ak h
      ·refine ag 50 h37 (az 4 5 2 (aj 2 ?_));obtain⟨v24,h38,h⟩:=bind_some h;exact dx 1055 (RJ hK h38) (wg (i:=0) rfl) (ac (ae 3 (cf (p:=pn 27588598) n (aa2 hK hL1 n h))))
      ·exact ag 50 h37 (ae 2 (vn hK hL1 h))
 ·refine ag 14 h23 (aE 8 ?_);cases h;exact eK
theorem UI(hK:am K)(m:Nat):qD M w0 r v1 m (ku K n v1 m):=by
 induction m with
 | zero=>intro v16 v17 h;cases h
 | succ m ih=>intro v16 v17 h;have h:q8 K n v1 (ku K n v1 m) v16 v17=some r:=h;exact bp (Q7 hK ih h)
theorem Ko(hK:am K)(h:nT K n v1 v2=some r):fl Tryz.prog 35 [.ref 9,.sl (lm aQ v1)] [] 9 ⟨54,64,lm aS v2⟩ [9] (fun v s=>v=.ref 9∧dh s.o []∧look 9 s.r=some ⟨54,64,lm aS r⟩):=by
 refine je (c:=cat Tryz.f35 (pn 1)) Tryz.func35 (by kernel_rfl) _ Tryz.ntmps35 (of_decide_eq_true (by kernel_rfl)) fun M w0=>(bc ⟨[(0,.ref 9),(1,.sl (lm aQ v1))],[],[(9,⟨54,64,lm aS v2⟩)],[9]⟩ ?_);unfold nT at h;exact ae 6 (cf (p:=pn 26) n (UI hK n h))
end
noncomputable section
variable(M:Nat→Prop)(w0:aF)(r:Bool)(v1:aM)(v2:Bool)  
abbrev Rd(n:Nat):aq:=.c (cat Tryz.f65 (pn n))
abbrev U1:Cx:=⟨Tryz.prog,15,M,w0⟩
abbrev XZ:=bodyPost Tryz.prog Tryz.f65 (bu M w0 (fun v _=>v=.bool r))
abbrev abS(ks:List aq)(s:AS):=VE (U1 M w0) (XZ M w0 r) ks .normal s
def SU:AS:=⟨[(2,.bool v2)],[],[],[]⟩
variable{M w0 r v1 v2}{K:Kn}{n:Nat}
theorem Mc(hK:am K)(h:wd K n v2=some r):abS M w0 r [Rd 7] (SU v2):=by
 unfold wd at h;refine aE 1 ?_;cases h;exact ba
theorem uk(hK:am K)(h:lc K n v1=some r):aO Tryz.prog 65 [.agg (aS v1)] (fun v _=>v=.bool r):=by
 refine bg (cat Tryz.f65 (pn 1)) Tryz.func65 Tryz.ntmps65 fun M w0=>(bc ⟨[(0,.agg (aS v1))],[],[],[]⟩ ?_);unfold lc at h;refine az 6 7 3 (aj 6 ?_);obtain⟨h1,h⟩|⟨h1,h⟩:=ak h
 ·exact aA 8 h1 (ac (ae 0 (Mc hK h)))
 ·exact aA 8 h1 (ac (ae 0 (Mc hK h)))
end
noncomputable section
variable(M:Nat→Prop)(w0:aF)(r:Bool)(v1:ByteArray)(v2 v4:Int)(m1:Nat)(L1:Int→Option Bool)
abbrev Dy:Cx:=⟨Tryz.prog,18,M,w0⟩
abbrev DC:=bodyPost Tryz.prog Tryz.f119 (bu M w0 (fun v _=>v=.bool r))
abbrev SH(ks:List aq)(s:AS):=VE (Dy M w0) (DC M w0 r) ks .normal s
abbrev yh(n:Nat):aq:=.c (cat Tryz.f119 (pn n))
abbrev CW:List aq:=[.b 0,yh 7]
abbrev J4:List aq:=kl (Dy M w0) (DC M w0 r) CW (cat Tryz.f119 (pn 52)) m1::CW
def ML:AS:=⟨[(0,.str v1),(1,.int .i32 v2),(5,iI v4)],[],[],[]⟩
abbrev Hc:Prop:=∀{v4:Int},L1 v4=some r→LP (Dy M w0) (DC M w0 r) CW (cat Tryz.f119 (pn 52)) m1 (ML v1 v2 v4)
variable{M w0 r v1 v2 v4 m1 L1}{K:Kn}{n:Nat}
theorem Rp(hK:am K)(hL1:Hc M w0 r v1 v2 m1 L1)(h:sf K n v1 v2 L1 v4=some r):SH M w0 r (yh 52::J4 M w0 r m1) (ML v1 v2 v4):=by
 unfold sf at h;refine az 5 3 3 ?_;obtain⟨h5,h⟩|⟨h5,h⟩:=ak h
 ·refine ag 9 h5 (cQ 8 9 1 3 5 (aj 2 ?_));obtain⟨h6,h⟩:=aK h;refine aB (acq h6) (ac ?_);obtain⟨v5,h7,h⟩:=bW h;refine bB (ks':=yh 841 :: .b 1::yh 211::J4 M w0 r m1) 0 ⟨[(0,.str v1),(1,.int .i32 v2),(5,iI v4),(17,.bool v5)],[],[],[]⟩ ?_ (by subst h7;kernel_rfl);obtain⟨h8,h⟩|⟨h8,h⟩:=ak h
  ·refine ag 17 h8 (aE 9 ?_);cases h;exact ba
  ·exact ag 17 h8 (ae 4 (bt (hL1 h)))
 ·refine ag 9 h5 (aE 8 ?_);cases h;exact ba
theorem SO(hK:am K)(m:Nat):Hc M w0 r v1 v2 m (qP K n v1 v2 m):=by
 induction m with
 | zero=>intro v4 h;cases h
 | succ m ih=>intro v4 h;have h:sf K n v1 v2 (qP K n v1 v2 m) v4=some r:=h;exact bp (Rp hK ih h)
theorem AI(hK:am K)(h:pd K n v1 v2=some r):aO Tryz.prog 119 [.str v1,.int .i32 v2] (fun v _=>v=.bool r):=by
 refine bg (cat Tryz.f119 (pn 1)) Tryz.func119 Tryz.ntmps119 fun M w0=>(bc ⟨[(0,.str v1),(1,.int .i32 v2)],[],[],[]⟩ ?_);unfold pd at h;exact ae 6 (cf (p:=pn 26) n (SO hK n h))
end
noncomputable section
variable(M:Nat→Prop)(w0:aF)(r v1:Int)(v2 v4 v7:Bool)  
abbrev rk(n:Nat):aq:=.c (cat Tryz.f104 (pn n))
abbrev Rr:Cx:=⟨Tryz.prog,43,M,w0⟩
abbrev abX:=bodyPost Tryz.prog Tryz.f104 (bu M w0 (fun v _=>v=iI r))
abbrev Dq(ks:List aq)(s:AS):=VE (Rr M w0) (abX M w0 r) ks .normal s
def Sy:AS:=⟨[(42,.bool v7)],[],[],[]⟩
def Rh:AS:=⟨[(0,.int .i32 v1),(32,.bool v4)],[],[],[]⟩
def Vx:AS:=⟨[(0,.int .i32 v1),(24,.bool v2)],[],[],[]⟩
variable{M w0 r v1 v2 v4 v7}{K:Kn}{n:Nat}
theorem HL(hK:am K)(h:rV K n v7=some r):Dq M w0 r [rk 509,rk 255] (Sy v7):=by
 unfold rV at h;obtain⟨h17,h⟩|⟨h17,h⟩:=ak h
 ·refine ag 42 h17 (aE 5 ?_);cases h;exact ba
 ·refine ag 42 h17 (aE 5 ?_);cases h;exact ba
theorem IG(hK:am K)(h:lK K n v1 v4=some r):Dq M w0 r [rk 61,rk 31] (Rh v1 v4):=by
 unfold lK at h;obtain⟨h11,h⟩|⟨h11,h⟩:=ak h
 ·refine ag 32 h11 (aE 5 ?_);cases h;exact ba
 ·refine ag 32 h11 (ii 4 5 3 4 (aj 1 ?_));obtain⟨v5,h12,h⟩:=bind_some h;refine aD (AI hK h12) (ac ?_);obtain⟨h13,h⟩|⟨h13,h⟩:=ak h
  ·refine ag 34 h13 (aE 5 ?_);cases h;exact ba
  ·refine ag 34 h13 (ii 4 5 3 4 (aj 1 ?_));obtain⟨v6,h14,h⟩:=bind_some h;refine aD (AI hK h14) (ac ?_);obtain⟨h15,h⟩|⟨h15,h⟩:=ak h
   ·refine ag 36 h15 (aE 5 ?_);cases h;exact ba
   ·refine ag 36 h15 (ii 4 5 3 4 (aj 3 ?_));obtain⟨h16,h⟩|⟨h16,h⟩:=ak h
    ·exact aA 39 h16 (ac (ae 0 (HL hK h)))
    ·exact aA 39 h16 (ac (ae 0 (HL hK h)))
theorem pP(hK:am K)(h:iX K n v1 v2=some r):Dq M w0 r [rk 13,rk 7] (Vx v1 v2):=by
 unfold iX at h;obtain⟨h7,h⟩|⟨h7,h⟩:=ak h
 ·refine ag 24 h7 (aE 5 ?_);cases h;exact ba
 ·refine ag 24 h7 (dB 5 3 5 ?_);obtain⟨h8,h⟩|⟨h8,h⟩:=ak h
  ·refine ag 26 h8 (aE 5 ?_);cases h;exact ba
  ·refine ag 26 h8 (ii 4 5 3 4 (aj 3 ?_));obtain⟨h9,h⟩|⟨h9,h⟩:=ak h
   ·exact aA 29 h9 (ac (ae 0 (IG hK h)))
   ·refine aA 29 h9 (aL 4 1 ?_);obtain⟨v3,h10,h⟩:=bind_some h;exact aD (AI hK h10) (ac (ae 0 (IG hK h)))
theorem Ir(hK:am K)(h:rh K n v1=some r):aO Tryz.prog 104 [.int .i32 v1] (fun v _=>v=iI r):=by
 refine bg (cat Tryz.f104 (pn 1)) Tryz.func104 Tryz.ntmps104 fun M w0=>(bc ⟨[(0,.int .i32 v1)],[],[],[]⟩ ?_);unfold rh at h;refine bH 12 13 7 4 (aj 3 ?_);obtain⟨h1,h⟩|⟨h1,h⟩:=ak h
 ·exact aA 5 h1 (ac (ae 0 (pP hK h)))
 ·refine aA 5 h1 (aL 7 4 ?_);obtain⟨h2,h⟩|⟨h2,h⟩:=ak h
  ·exact aA 9 h2 (ac (ae 0 (pP hK h)))
  ·refine aA 9 h2 (aL 10 3 ?_);obtain⟨h3,h⟩|⟨h3,h⟩:=ak h
   ·refine aA 12 h3 (aL 15 5 ?_);obtain⟨h4,h⟩|⟨h4,h⟩:=ak h
    ·exact aA 17 h4 (ac (ae 0 (pP hK h)))
    ·refine aA 17 h4 (aL 18 3 ?_);obtain⟨h5,h⟩|⟨h5,h⟩:=ak h
     ·exact aA 20 h5 (ac (ae 0 (pP hK h)))
     ·exact aA 20 h5 (ac (ae 0 (pP hK h)))
   ·refine aA 12 h3 (aL 18 8 ?_);obtain⟨h6,h⟩|⟨h6,h⟩:=ak h
    ·exact aA 20 h6 (ac (ae 0 (pP hK h)))
    ·exact aA 20 h6 (ac (ae 0 (pP hK h)))
end
noncomputable section
variable(M:Nat→Prop)(w0:aF)(r:Bool)(v1 v2:Int)(v5 v7 v8:Bool)  
abbrev wt(n:Nat):aq:=.c (cat Tryz.f67 (pn n))
abbrev aai:Cx:=⟨Tryz.prog,28,M,w0⟩
abbrev YS:=bodyPost Tryz.prog Tryz.f67 (bu M w0 (fun v _=>v=.bool r))
abbrev FM(ks:List aq)(s:AS):=VE (aai M w0) (YS M w0 r) ks .normal s
def Tz:AS:=⟨[(4,.bool v8)],[],[],[]⟩
def YN:AS:=⟨[(0,.int .i32 v1),(1,.int .i32 v2),(21,.bool v7)],[],[],[]⟩
def abw:AS:=⟨[(0,.int .i32 v1),(1,.int .i32 v2),(11,.bool v5)],[],[],[]⟩
variable{M w0 r v1 v2 v5 v7 v8}{K:Kn}{n:Nat}
theorem GU(hK:am K)(h:ub K n v8=some r):FM M w0 r [wt 31] (Tz v8):=by
 unfold ub at h;refine aE 1 ?_;cases h;exact ba
theorem Di(hK:am K)(h:sD K n v1 v2 v7=some r):FM M w0 r [wt 29,wt 15] (YN v1 v2 v7):=by
 unfold sD at h;obtain⟨h8,h⟩|⟨h8,h⟩:=ak h
 ·refine ag 21 h8 (aE 5 ?_);cases h;exact ba
 ·refine ag 21 h8 (dB 2 3 3 (aj 3 ?_));obtain⟨h9,h⟩|⟨h9,h⟩:=ak h
  ·exact aA 24 h9 (ac (ae 0 (GU hK h)))
  ·exact aA 24 h9 (ac (ae 0 (GU hK h)))
theorem LH(hK:am K)(h:oE K n v1 v2 v5=some r):FM M w0 r [wt 13,wt 7] (abw v1 v2 v5):=by
 unfold oE at h;obtain⟨h4,h⟩|⟨h4,h⟩:=ak h
 ·refine ag 11 h4 (aE 5 ?_);cases h;exact ba
 ·refine ag 11 h4 (ii 4 5 3 4 (aj 1 ?_));obtain⟨v6,h5,h⟩:=bind_some h;refine aD (Ag hK h5) (aL 3 1 ?_);obtain⟨h6,h⟩|⟨h6,h⟩:=ak h
  ·exact aA 14 h6 (ac (ae 0 (Di hK h)))
  ·refine aA 14 h6 (aL 6 3 ?_);obtain⟨h7,h⟩|⟨h7,h⟩:=ak h
   ·exact aA 17 h7 (ac (ae 0 (Di hK h)))
   ·exact aA 17 h7 (ac (ae 0 (Di hK h)))
theorem YB(hK:am K)(h:ov K n v1 v2=some r):aO Tryz.prog 67 [.int .i32 v1,.int .i32 v2] (fun v _=>v=.bool r):=by
 refine bg (cat Tryz.f67 (pn 1)) Tryz.func67 Tryz.ntmps67 fun M w0=>(bc ⟨[(0,.int .i32 v1),(1,.int .i32 v2)],[],[],[]⟩ ?_);unfold ov at h;refine bH 12 13 7 4 (aj 1 ?_);obtain⟨v3,h1,h⟩:=bind_some h;refine aD (Ag hK h1) (aL 3 1 ?_);obtain⟨h2,h⟩|⟨h2,h⟩:=ak h
 ·exact aA 7 h2 (ac (ae 0 (LH hK h)))
 ·refine aA 7 h2 (aL 4 1 ?_);obtain⟨v4,h3,h⟩:=bind_some h;exact aD (Ir hK h3) (ac (ae 0 (LH hK h)))
end
noncomputable section
variable(M:Nat→Prop)(w0:aF)(r:Bool)(v1 v2:aM)(v3 v4 v8 v12:Bool)  
abbrev mP(n:Nat):aq:=.c (cat Tryz.f36 (pn n))
abbrev SR:Cx:=⟨Tryz.prog,50,M,w0⟩
abbrev Yl:=bodyPost Tryz.prog Tryz.f36 (bu M w0 (fun v _=>v=.bool r))
abbrev yo(ks:List aq)(s:AS):=VE (SR M w0) (Yl M w0 r) ks .normal s
def aaz:AS:=⟨[(4,.bool v8)],[],[],[]⟩
def PW:AS:=⟨[(2,.ptr 2 0),(3,.ptr 3 0),(44,.bool v12)],[(2,aS v1),(3,aS v2)],[],[2,3]⟩
def ZE:AS:=⟨[(2,.ptr 2 0),(3,.ptr 3 0),(16,.bool v4)],[(2,aS v1),(3,aS v2)],[],[2,3]⟩
def Y7:AS:=⟨[(2,.ptr 2 0),(3,.ptr 3 0),(10,.bool v3)],[(2,aS v1),(3,aS v2)],[],[2,3]⟩
variable{M w0 r v1 v2 v3 v4 v8 v12}{K:Kn}{n:Nat}
theorem uL(hK:am K)(h:mY K n v8=some r):yo M w0 r [mP 117,mP 15] (aaz v8):=by
 unfold mY at h;refine aE 2 ?_;cases h;exact ba
theorem Ec(hK:am K)(h:qf K n v1 v2 v12=some r):yo M w0 r [mP 61,mP 31] (PW v1 v2 v12):=by
 unfold qf at h;obtain⟨h17,h⟩|⟨h17,h⟩:=ak h
 ·refine ag 44 h17 (aE 5 ?_);cases h;exact ba
 ·refine ag 44 h17 (dB 2 3 3 (aj 4 ?_));obtain⟨v13,h18,h⟩:=bind_some h;refine aD (YB hK h18) (ac (aE 1 ?_));cases h;exact ba
theorem KE(hK:am K)(h:pG K n v1 v2 v4=some r):yo M w0 r [mP 29,mP 15] (ZE v1 v2 v4):=by
 unfold pG at h;obtain⟨h4,h⟩|⟨h4,h⟩:=ak h
 ·refine ag 16 h4 (az 4 5 2 (aj 3 ?_));obtain⟨h5,h⟩|⟨h5,h⟩:=ak h
  ·refine aA 19 h5 (aL 10 7 ?_);obtain⟨h6,h⟩|⟨h6,h⟩:=ak h
   ·exact aA 26 h6 (ac (ae 0 (uL hK h)))
   ·refine aA 26 h6 (aL 11 1 ?_);obtain⟨v5,h7,h⟩:=bind_some h;exact aD (uk hK h7) (ac (ae 0 (uL hK h)))
  ·refine aA 19 h5 (aL 4 1 ?_);obtain⟨v6,h8,h⟩:=bind_some h;refine aD (uk hK h8) (aL 7 2 ?_);obtain⟨h9,h⟩|⟨h9,h⟩:=ak h
   ·refine aA 23 h9 (aL 10 3 ?_);obtain⟨h10,h⟩|⟨h10,h⟩:=ak h
    ·exact aA 26 h10 (ac (ae 0 (uL hK h)))
    ·refine aA 26 h10 (aL 11 1 ?_);obtain⟨v7,h11,h⟩:=bind_some h;exact aD (uk hK h11) (ac (ae 0 (uL hK h)))
   ·exact aA 23 h9 (ac (ae 0 (uL hK h)))
 ·refine ag 16 h4 (ii 4 5 3 4 (aj 1 ?_));obtain⟨v9,h12,h⟩:=bind_some h;refine aD (uk hK h12) (aL 4 2 ?_);obtain⟨h13,h⟩|⟨h13,h⟩:=ak h
  ·exact aA 34 h13 (ac (ae 0 (Ec hK h)))
  ·refine aA 34 h13 (aL 6 2 ?_);obtain⟨v10,h14,h⟩:=bind_some h;refine aD (Ag hK h14) (aL 9 2 ?_);obtain⟨h15,h⟩|⟨h15,h⟩:=ak h
   ·refine aA 39 h15 (aL 10 1 ?_);obtain⟨v11,h16,h⟩:=bind_some h;exact aD (uk hK h16) (ac (ae 0 (Ec hK h)))
   ·exact aA 39 h15 (ac (ae 0 (Ec hK h)))
theorem IS(hK:am K)(h:lB K n v1 v2 v3=some r):yo M w0 r [mP 13,mP 7] (Y7 v1 v2 v3):=by
 unfold lB at h;obtain⟨h2,h⟩|⟨h2,h⟩:=ak h
 ·refine ag 10 h2 (aE 5 ?_);cases h;exact ba
 ·refine ag 10 h2 (ii 4 5 3 4 (aj 3 ?_));obtain⟨h3,h⟩|⟨h3,h⟩:=ak h
  ·exact aA 13 h3 (ac (ae 0 (KE hK h)))
  ·exact aA 13 h3 (ac (ae 0 (KE hK h)))
theorem Wu(hK:am K)(h:w9 K n v1 v2=some r):aO Tryz.prog 36 [.agg (aS v1),.agg (aS v2)] (fun v _=>v=.bool r):=by
 refine bg (cat Tryz.f36 (pn 1)) Tryz.func36 Tryz.ntmps36 fun M w0=>(bc ⟨[(0,.agg (aS v1)),(1,.agg (aS v2))],[],[],[]⟩ ?_);unfold w9 at h;refine bH 12 13 7 4 (aj 3 ?_);obtain⟨h1,h⟩|⟨h1,h⟩:=ak h
 ·exact aA 7 h1 (ac (ae 0 (IS hK h)))
 ·exact aA 7 h1 (ac (ae 0 (IS hK h)))
end
noncomputable section
variable(M:Nat→Prop)(w0:aF)(r v1:Int)  
variable{M w0 r v1}{K:Kn}{n:Nat}
theorem gN(hK:am K)(h:d9 K n v1=some r):aO Tryz.prog 39 [iI v1] (fun v _=>v=iI r):=by
 refine bg (cat Tryz.f39 (pn 1)) Tryz.func39 Tryz.ntmps39 fun M w0=>(bc ⟨[(0,iI v1)],[],[],[]⟩ ?_);unfold d9 at h;refine aE 5 ?_;cases h;exact ba
end
noncomputable section
variable(M:Nat→Prop)(w0:aF)(r v1:Int)  
variable{M w0 r v1}{K:Kn}{n:Nat}
theorem Eb(hK:am K)(h:iT K n v1=some r):aO Tryz.prog 120 [iI v1] (fun v _=>v=iI r):=by
 refine bg (cat Tryz.f120 (pn 1)) Tryz.func120 Tryz.ntmps120 fun M w0=>(bc ⟨[(0,iI v1)],[],[],[]⟩ ?_);unfold iT at h;refine aE 5 ?_;cases h;exact ba
end
noncomputable section
variable(M:Nat→Prop)(w0:aF)(r:Int×Bool)(v1:cr)(v2:Int)  
variable{M w0 r v1 v2}{K:Kn}{n:Nat}
theorem fG(hK:am K)(h:dH K n v1 v2=some r):aO Tryz.prog 105 [.agg (gS v1),iI v2] (fun v _=>v=.tup [iI r.1,.bool r.2]):=by
 refine bg (cat Tryz.f105 (pn 1)) Tryz.func105 Tryz.ntmps105 fun M w0=>(bc ⟨[(0,.agg (gS v1)),(1,iI v2)],[],[],[]⟩ ?_);unfold dH at h;refine fr 53 0 7 8 ?_;obtain⟨h1,h⟩|⟨h1,h⟩:=ak h
 ·refine ag 8 h1 (az 4 5 2 (aj 2 ?_));obtain⟨v3,h2,h⟩:=bind_some h;refine aD (Eb hK h2) (ac (aE 3 ?_));cases h;exact dS
 ·refine ag 8 h1 (bh 7 3 ?_);obtain⟨h3,h⟩|⟨h3,h⟩:=ak h
  ·refine ag 13 h3 (az 4 5 2 (bI [1,2] [2] [] ?_));obtain⟨v4,h4,h⟩:=bind_some h;obtain⟨v5,h5,h⟩:=bind_some h;refine bF 2 (nu 15 [iI v2,iI v4,.ptr 2 1,iI v1.Value,iI (max v1.Value (-1000000)),iI (min (max v1.Value (-1000000)) 1000000),iI (aa (v4*(min (max v1.Value (-1000000)) 1000000))),iI (aa (Int.tdiv (aa (v4*(min (max v1.Value (-1000000)) 1000000))) 10000)),iI v5]) [] [] [bR Tryz.prog 24 Tryz.f105 (pn 860) 9,bR Tryz.prog 24 Tryz.f105 (pn 860) 10] (av [.v 0 1] (ab (cb 0 1 16 (gN hK h4)) (av (vz 6) (ab (cb 0 1 23 (Eb hK h5)) (ab (bQ 0) (ab (bQ 1) bG)))))) (aE 3 ?_);cases h;exact dS
  ·refine ag 13 h3 (aE 6 ?_);cases h;exact dS
end
noncomputable section
variable(M:Nat→Prop)(w0:aF)(r:aV)(v1:aI)(v2 v3:Int)  
abbrev oi(n:Nat):aq:=.c (cat Tryz.f68 (pn n))
abbrev WE:Cx:=⟨Tryz.prog,55,M,w0⟩
abbrev Si:=bodyPost Tryz.prog Tryz.f68 (bu M w0 (fun v _=>v=.agg (bm r)))
abbrev vF(m:Nat):List aq:=kl (WE M w0) (Si M w0 r) [.b 0,oi 15] (cat Tryz.f68 (pn 116)) m::[.b 0,oi 15]
variable{M w0 r v1 v2 v3}{K:Kn}{n:Nat}
theorem Ai(hK:am K)(h:jo K n v1 v2 v3=some r):aO Tryz.prog 68 [.agg (aJ v1),iI v2,iI v3] (fun v _=>v=.agg (bm r)):=by
 refine bg (cat Tryz.f68 (pn 1)) Tryz.func68 Tryz.ntmps68 fun M w0=>(bc ⟨[(0,.agg (aJ v1)),(1,iI v2),(2,iI v3)],[],[],[]⟩ ?_);unfold jo at h;refine bB (ks':=[oi 58,.b 0,oi 15]) 8 ⟨[(1,iI v2),(3,.ptr 3 0),(6,.ptr 6 0),(7,.ptr 7 0),(8,iI 0)],[(3,aJ v1),(6,bm dM),(7,bm ({ dM with Content:=v3 }:aV))],[],[3,6,7]⟩ (n6 40 (c:=cat Tryz.f68 [1,1,0,1,0,0]) (by kernel_rfl) (bp (co (ks':=oi 1864::oi 1865 :: .b 1::oi 467::vF M w0 r 39) 8 (aj 5 ?_))));obtain⟨v4,h1,h⟩:=bind_some h;refine aD (fG hK h1) (ac (az 2 3 1 (aj 5 ?_)));obtain⟨v5,h2,h⟩:=bind_some h;refine aD (fG hK h2) (ac (bh 7 4 (aj 5 ?_)));obtain⟨v6,h3,h⟩:=bind_some h;refine aD (gN hK h3) (ac (bB (ks':=vF M w0 r 39) 2 ⟨[(1,iI v2),(3,.ptr 3 0),(6,.ptr 6 0),(7,.ptr 7 0),(8,iI 1)],[(3,aJ v1),(6,bm dM),(7,bm (⟨⟨v4.1,0,0,0⟩,⟨v6,0,0,0⟩,⟨(max v5.1 0),0,0,0⟩,v3⟩:aV))],[],[3,6,7]⟩ (bt (bp (dk 24 25 1 7 8 (aj 5 ?_))))));obtain⟨v7,h4,h⟩:=bind_some h
 refine aD (fG hK h4) (ac (az 2 3 1 (aj 5 ?_)));obtain⟨v8,h5,h⟩:=bind_some h;refine aD (fG hK h5) (ac (bh 7 4 (aj 5 ?_)));obtain⟨v9,h6,h⟩:=bind_some h;refine aD (gN hK h6) (ac (bB (ks':=vF M w0 r 38) 2 ⟨[(1,iI v2),(3,.ptr 3 0),(6,.ptr 6 0),(7,.ptr 7 0),(8,iI 2)],[(3,aJ v1),(6,bm dM),(7,bm (⟨⟨v4.1,v7.1,0,0⟩,⟨v6,v9,0,0⟩,⟨(max v5.1 0),(max v8.1 0),0,0⟩,v3⟩:aV))],[],[3,6,7]⟩ (bt (bp (dk 24 25 1 7 8 (aj 5 ?_))))));obtain⟨v10,h7,h⟩:=bind_some h;refine aD (fG hK h7) (ac (az 2 3 1 (aj 5 ?_)));obtain⟨v11,h8,h⟩:=bind_some h;refine aD (fG hK h8) (ac (bh 7 4 (aj 5 ?_)));obtain⟨v12,h9,h⟩:=bind_some h;refine aD (gN hK h9) (ac (bB (ks':=vF M w0 r 37) 2 ⟨[(1,iI v2),(3,.ptr 3 0),(6,.ptr 6 0),(7,.ptr 7 0),(8,iI 3)],[(3,aJ v1),(6,bm dM),(7,bm (⟨⟨v4.1,v7.1,v10.1,0⟩,⟨v6,v9,v12,0⟩,⟨(max v5.1 0),(max v8.1 0),(max v11.1 0),0⟩,v3⟩:aV))],[],[3,6,7]⟩ (bt (bp (dk 24 25 1 7 8 (aj 5 ?_))))));obtain⟨v13,h10,h⟩:=bind_some h
 refine aD (fG hK h10) (ac (az 2 3 1 (aj 5 ?_)));obtain⟨v14,h11,h⟩:=bind_some h;refine aD (fG hK h11) (ac (bh 7 4 (aj 5 ?_)));obtain⟨v15,h12,h⟩:=bind_some h;refine aD (gN hK h12) (ac (bB (ks':=vF M w0 r 36) 2 ⟨[(1,iI v2),(3,.ptr 3 0),(6,.ptr 6 0),(7,.ptr 7 0),(8,iI 4)],[(3,aJ v1),(6,bm dM),(7,bm (⟨⟨v4.1,v7.1,v10.1,v13.1⟩,⟨v6,v9,v12,v15⟩,⟨(max v5.1 0),(max v8.1 0),(max v11.1 0),(max v14.1 0)⟩,v3⟩:aV))],[],[3,6,7]⟩ (bt (bp (aE 11 ?_)))));cases h;exact ba
end
noncomputable section
variable(M:Nat→Prop)(w0:aF)(r:Int)(v1:aV)  
variable{M w0 r v1}{K:Kn}{n:Nat}
theorem wR(hK:am K)(h:jq K n v1=some r):aO Tryz.prog 71 [.agg (bm v1)] (fun v _=>v=iI r):=by
 refine bg (cat Tryz.f71 (pn 1)) Tryz.func71 Tryz.ntmps71 fun M w0=>(bc ⟨[(0,.agg (bm v1))],[],[],[]⟩ ?_);unfold jq at h;refine aE 5 ?_;cases h;exact ba
end
noncomputable section
variable(M:Nat→Prop)(w0:aF)(r:Int×Int)(v1:List ai)(v2:aI)(v3 v4 v5:Int)(m1:Nat)(L1:Int→Int→Int→Option (Int×Int))
abbrev BV:Cx:=⟨Tryz.prog,31,M,w0⟩
abbrev E5:=bodyPost Tryz.prog Tryz.f34 (bu M w0 (fun v _=>v=.tup [iI r.1,iI r.2]))
abbrev W5(ks:List aq)(s:AS):=VE (BV M w0) (E5 M w0 r) ks .normal s
abbrev HJ(n:Nat):aq:=.c (cat Tryz.f34 (pn n))
abbrev Bw:List aq:=[.b 0,HJ 31]
abbrev aaJ:List aq:=kl (BV M w0) (E5 M w0 r) Bw (cat Tryz.f34 (pn 244)) m1::Bw
def Gh:AS:=⟨[(0,.sl (lm aQ v1)),(6,iI v3),(7,iI v4),(8,iI v5)],[],[],[]⟩
abbrev N5:Prop:=∀{v3:Int} {v4:Int} {v5:Int},L1 v3 v4 v5=some r→LP (BV M w0) (E5 M w0 r) Bw (cat Tryz.f34 (pn 244)) m1 (Gh v1 v3 v4 v5)
variable{M w0 r v1 v2 v3 v4 v5 m1 L1}{K:Kn}{n:Nat}
theorem Wl(hK:am K)(hL1:N5 M w0 r v1 m1 L1)(h:hJ K n v1 L1 v3 v4 v5=some r):W5 M w0 r (HJ 244::aaJ M w0 r m1) (Gh v1 v3 v4 v5):=by
 unfold hJ at h;refine bH 4 5 3 2 (aj 2 (aB (bq aQ v1) (ac ?_)));obtain⟨h3,h⟩|⟨h3,h⟩:=ak h
 ·refine ag 13 h3 (cQ 8 9 1 3 5 (aj 2 ?_));obtain⟨h4,h⟩:=aK h;exact aB (bw aQ aW h4 (fi) (dK)) (ac (ae 5 (bt (hL1 h))))
 ·refine ag 13 h3 (aE 8 ?_);cases h;exact dS
theorem YO(hK:am K)(m:Nat):N5 M w0 r v1 m (jx K n v1 m):=by
 induction m with
 | zero=>intro v3 v4 v5 h;cases h
 | succ m ih=>intro v3 v4 v5 h;have h:hJ K n v1 (jx K n v1 m) v3 v4 v5=some r:=h;exact bp (Wl hK ih h)
theorem Mx(hK:am K)(h:j0 K n v1 v2=some r):aO Tryz.prog 34 [.sl (lm aQ v1),.agg (aJ v2)] (fun v _=>v=.tup [iI r.1,iI r.2]):=by
 refine bg (cat Tryz.f34 (pn 1)) Tryz.func34 Tryz.ntmps34 fun M w0=>(bc ⟨[(0,.sl (lm aQ v1)),(1,.agg (aJ v2))],[],[],[]⟩ ?_);unfold j0 at h;exact ae 10 (cf (p:=pn 122) n (YO hK n h))
end
noncomputable section
variable(M:Nat→Prop)(w0:aF)(r:Int)(v1:aI)(v2 v3 v5 v7:Int)  
abbrev MN(n:Nat):aq:=.c (cat Tryz.f106 (pn n))
abbrev acP:Cx:=⟨Tryz.prog,37,M,w0⟩
abbrev QQ:=bodyPost Tryz.prog Tryz.f106 (bu M w0 (fun v _=>v=iI r))
abbrev Mg(ks:List aq)(s:AS):=VE (acP M w0) (QQ M w0 r) ks .normal s
def YC:AS:=⟨[(7,iI v7)],[],[],[]⟩
def PK:AS:=⟨[(1,iI v2),(3,.ptr 3 0),(7,iI v5)],[(3,aJ v1)],[],[3]⟩
variable{M w0 r v1 v2 v3 v5 v7}{K:Kn}{n:Nat}
theorem G4(hK:am K)(h:mf K n v7=some r):Mg M w0 r [MN 127] (YC v7):=by
 unfold mf at h;refine aE 3 ?_;cases h;exact ba
theorem Ka(hK:am K)(h:mu K n v1 v2 v5=some r):Mg M w0 r [MN 31] (PK v1 v2 v5):=by
 unfold mu at h;refine az 2 3 1 (aj 3 ?_);obtain⟨v6,h3,h⟩:=bind_some h;refine aD (fG hK h3) (ac (az 5 3 3 ?_));obtain⟨h4,h⟩|⟨h4,h⟩:=ak h
 ·exact ag 32 h4 (ae 2 (G4 hK h))
 ·exact ag 32 h4 (ae 2 (G4 hK h))
theorem zI(hK:am K)(h:iU K n v1 v2 v3=some r):aO Tryz.prog 106 [.agg (aJ v1),iI v2,iI v3] (fun v _=>v=iI r):=by
 refine bg (cat Tryz.f106 (pn 1)) Tryz.func106 Tryz.ntmps106 fun M w0=>(bc ⟨[(0,.agg (aJ v1)),(1,iI v2),(2,iI v3)],[],[],[]⟩ ?_);unfold iU at h;refine az 14 15 5 (aj 3 ?_);obtain⟨v4,h1,h⟩:=bind_some h;refine aD (fG hK h1) (ac (az 5 3 3 ?_));obtain⟨h2,h⟩|⟨h2,h⟩:=ak h
 ·exact ag 20 h2 (ae 2 (Ka hK h))
 ·exact ag 20 h2 (ae 2 (Ka hK h))
end
noncomputable section
variable(M:Nat→Prop)(w0:aF)(r v1:cr)  
variable{M w0 r v1}{K:Kn}{n:Nat}
theorem iH(hK:am K)(h:eW K n v1=some r):aO Tryz.prog 125 [.agg (gS v1)] (fun v _=>v=.agg (gS r)):=by
 refine bg (cat Tryz.f125 (pn 1)) Tryz.func125 Tryz.ntmps125 fun M w0=>(bc ⟨[(0,.agg (gS v1))],[],[],[]⟩ ?_);unfold eW at h;refine az 13 7 5 ?_;obtain⟨h1,h⟩|⟨h1,h⟩:=ak h
 ·refine ag 5 h1 (aE 5 ?_);cases h;exact ba
 ·refine ag 5 h1 (aE 5 ?_);cases h;exact ba
end
noncomputable section
variable(M:Nat→Prop)(w0:aF)(r v1:aI)  
abbrev pH(n:Nat):aq:=.c (cat Tryz.f112 (pn n))
abbrev RG:Cx:=⟨Tryz.prog,37,M,w0⟩
abbrev Q8:=bodyPost Tryz.prog Tryz.f112 (bu M w0 (fun v _=>v=.agg (aJ r)))
abbrev wJ(m:Nat):List aq:=kl (RG M w0) (Q8 M w0 r) [.b 0,pH 7] (cat Tryz.f112 (pn 52)) m::[.b 0,pH 7]
variable{M w0 r v1}{K:Kn}{n:Nat}
theorem P3(hK:am K)(h:mD K n v1=some r):aO Tryz.prog 112 [.agg (aJ v1)] (fun v _=>v=.agg (aJ r)):=by
 refine bg (cat Tryz.f112 (pn 1)) Tryz.func112 Tryz.ntmps112 fun M w0=>(bc ⟨[(0,.agg (aJ v1))],[],[],[]⟩ ?_);unfold mD at h;refine bB (ks':=[pH 26,.b 0,pH 7]) 6 ⟨[(1,.ptr 1 0),(2,.ptr 2 0),(3,iI 0)],[(1,aJ v1),(2,aJ cz)],[],[1,2]⟩ (n6 40 (c:=cat Tryz.f112 [1,0,1,0,0]) (by kernel_rfl) (bp (co (ks':=pH 840::pH 841 :: .b 1::pH 211::wJ M w0 r 39) 8 (aj 5 ?_))));obtain⟨v2,h1,h⟩:=bind_some h;refine aD (iH hK h1) (ac (aj 5 ?_));obtain⟨v3,h2,h⟩:=bind_some h;refine aD (iH hK h2) (ac (bB (ks':=wJ M w0 r 39) 2 ⟨[(1,.ptr 1 0),(2,.ptr 2 0),(3,iI 1)],[(1,aJ ({ v1 with Margin:=⟨v2,v1.Margin.a1,v1.Margin.a2,v1.Margin.a3⟩,Padding:=⟨v3,v1.Padding.a1,v1.Padding.a2,v1.Padding.a3⟩ }:aI)),(2,aJ cz)],[],[1,2]⟩ (bt (bp (dk 24 25 1 7 8 (aj 5 ?_))))));obtain⟨v4,h3,h⟩:=bind_some h;refine aD (iH hK h3) (ac (aj 5 ?_));obtain⟨v5,h4,h⟩:=bind_some h;refine aD (iH hK h4) (ac (bB (ks':=wJ M w0 r 38) 2 ⟨[(1,.ptr 1 0),(2,.ptr 2 0),(3,iI 2)],[(1,aJ ({ v1 with Margin:=⟨v2,v4,v1.Margin.a2,v1.Margin.a3⟩,Padding:=⟨v3,v5,v1.Padding.a2,v1.Padding.a3⟩ }:aI)),(2,aJ cz)],[],[1,2]⟩ (bt (bp (dk 24 25 1 7 8 (aj 5 ?_))))))
 obtain⟨v6,h5,h⟩:=bind_some h;refine aD (iH hK h5) (ac (aj 5 ?_));obtain⟨v7,h6,h⟩:=bind_some h;refine aD (iH hK h6) (ac (bB (ks':=wJ M w0 r 37) 2 ⟨[(1,.ptr 1 0),(2,.ptr 2 0),(3,iI 3)],[(1,aJ ({ v1 with Margin:=⟨v2,v4,v6,v1.Margin.a3⟩,Padding:=⟨v3,v5,v7,v1.Padding.a3⟩ }:aI)),(2,aJ cz)],[],[1,2]⟩ (bt (bp (dk 24 25 1 7 8 (aj 5 ?_))))));obtain⟨v8,h7,h⟩:=bind_some h;refine aD (iH hK h7) (ac (aj 5 ?_));obtain⟨v9,h8,h⟩:=bind_some h;refine aD (iH hK h8) (ac (bB (ks':=wJ M w0 r 36) 2 ⟨[(1,.ptr 1 0),(2,.ptr 2 0),(3,iI 4)],[(1,aJ ({ v1 with Margin:=⟨v2,v4,v6,v8⟩,Padding:=⟨v3,v5,v7,v9⟩ }:aI)),(2,aJ cz)],[],[1,2]⟩ (bt (bp (Hy 2 3 9 (aj 2 ?_))))));obtain⟨v10,h9,h⟩:=bind_some h;refine aD (iH hK h9) (ac (az 2 3 1 (aj 2 ?_)));obtain⟨v11,h10,h⟩:=bind_some h;refine aD (iH hK h10) (ac (az 2 3 1 (aj 2 ?_)));obtain⟨v12,h11,h⟩:=bind_some h;refine aD (iH hK h11) (ac (aE 3 ?_));cases h;exact ba
end
noncomputable section
variable(M:Nat→Prop)(w0:aF)(r:Int×Bool)(v1:cr)  
variable{M w0 r v1}{K:Kn}{n:Nat}
theorem IP(hK:am K)(h:lz K n v1=some r):aO Tryz.prog 113 [.agg (gS v1)] (fun v _=>v=.tup [iI r.1,.bool r.2]):=by
 refine bg (cat Tryz.f113 (pn 1)) Tryz.func113 Tryz.ntmps113 fun M w0=>(bc ⟨[(0,.agg (gS v1))],[],[],[]⟩ ?_);unfold lz at h;refine az 13 7 5 ?_;obtain⟨h1,h⟩|⟨h1,h⟩:=ak h
 ·refine ag 6 h1 (aE 5 ?_);cases h;exact dS
 ·refine ag 6 h1 (dB 2 3 3 (aj 2 ?_));obtain⟨v2,h2,h⟩:=bind_some h;refine aD (Eb hK h2) (ac (aE 1 ?_));cases h;exact dS
end
noncomputable section
variable(M:Nat→Prop)(w0:aF)(r:Int×Int)(v1:aI)(v2 v3:Int)(v4:aI)(v8 v9:Int)  
abbrev aaH(n:Nat):aq:=.c (cat Tryz.f84 (pn n))
abbrev Qy:Cx:=⟨Tryz.prog,39,M,w0⟩
abbrev q84:=bodyPost Tryz.prog Tryz.f84 (bu M w0 (fun v _=>v=.tup [iI r.1,iI r.2]))
abbrev QI(ks:List aq)(s:AS):=VE (Qy M w0) (q84 M w0 r) ks .normal s
def TP:AS:=⟨[(1,iI v8),(2,iI v9),(3,.ptr 3 0)],[(3,aJ v4)],[],[3]⟩
variable{M w0 r v1 v2 v3 v4 v8 v9}{K:Kn}{n:Nat}
theorem J5(hK:am K)(h:lA K n v4 v8 v9=some r):QI M w0 r [aaH 127] (TP v4 v8 v9):=by
 unfold lA at h;refine az 2 3 1 (aj 1 ?_);obtain⟨v10,h6,h⟩:=bind_some h;refine aD (Ai hK h6) ?_;obtain⟨v11,h7,h⟩:=bind_some h;refine aD (wR hK h7) (ac (az 2 3 1 (bI [1,2,3,10] [3] [] ?_)));obtain⟨v12,h8,h⟩:=bind_some h;obtain⟨v13,h9,h⟩:=bind_some h;refine bF 2 (nu 29 [.agg (aJ v4),iI v8,iI v12,iI v11,iI (aa (v12+v11)),.agg (aJ v4),iI v9,iI v13,iI v11,iI (aa (v13+v11))]) [] [] [bR Tryz.prog 39 Tryz.f84 (pn 510) 10,bR Tryz.prog 39 Tryz.f84 (pn 510) 11] (av (vz 2) (ab (cb 0 1 31 (zI hK h8)) (av [.v 0 1,.v 0 1,.v 0 2,.v 0 2] (ab (cb 0 1 36 (zI hK h9)) (av [.v 0 2,.v 0 2] (ab (bQ 0) (ab (bQ 1) bG))))))) (aE 1 ?_);cases h;exact dS
theorem SS(hK:am K)(h:oC K n v1 v2 v3=some r):aO Tryz.prog 84 [.agg (aJ v1),iI v2,iI v3] (fun v _=>v=.tup [iI r.1,iI r.2]):=by
 refine bg (cat Tryz.f84 (pn 1)) Tryz.func84 Tryz.ntmps84 fun M w0=>(bc ⟨[(0,.agg (aJ v1)),(1,iI v2),(2,iI v3)],[],[],[]⟩ ?_);unfold oC at h;refine az 6 7 3 (aj 1 ?_);obtain⟨v4,h1,h⟩:=bind_some h;refine aD (P3 hK h1) (ac (az 2 3 1 (aj 1 ?_)));obtain⟨v5,h2,h⟩:=bind_some h;refine aD (gN hK h2) (ac (az 2 3 1 (aj 1 ?_)));obtain⟨v6,h3,h⟩:=bind_some h;refine aD (gN hK h3) (ac (az 2 3 1 (aj 2 ?_)));obtain⟨v7,h4,h⟩:=bind_some h;refine aD (IP hK h4) (ac (az 5 3 3 ?_));obtain⟨h5,h⟩|⟨h5,h⟩:=ak h
 ·exact ag 23 h5 (ae 4 (J5 hK h))
 ·exact ag 23 h5 (ae 2 (J5 hK h))
end
noncomputable section
variable(M:Nat→Prop)(w0:aF)(r:Int×Int)(v1:ai)  
variable{M w0 r v1}{K:Kn}{n:Nat}
theorem Da(hK:am K)(h:fS K n v1=some r):aO Tryz.prog 46 [.agg (aW v1)] (fun v _=>v=.tup [iI r.1,iI r.2]):=by
 refine bg (cat Tryz.f46 (pn 1)) Tryz.func46 Tryz.ntmps46 fun M w0=>(bc ⟨[(0,.agg (aW v1))],[],[],[]⟩ ?_);unfold fS at h;refine az 6 7 3 (aj 1 ?_);obtain⟨v2,h1,h⟩:=bind_some h;refine aD (hK.jS h1) (ac (az 2 3 1 (aj 4 ?_)));obtain⟨v3,h2,h⟩:=bind_some h;refine aD (SS hK h2) (ac (aE 1 ?_));cases h;exact dS
end
noncomputable section
variable(M:Nat→Prop)(w0:aF)(r:List ai)(v1:ai)(v8:Int)(v9 v11:(List ai))(m1:Nat)(L1:Int→(List ai)→Option (List ai))
abbrev C6:Cx:=⟨Tryz.prog,27,M,w0⟩
abbrev Bq:=bodyPost Tryz.prog Tryz.f110 (bu M w0 (fun v s=>v=.ref 25∧look 25 s.r=some ⟨52,59,lm aQ r⟩))
abbrev H1(ks:List aq)(s:AS):=VE (C6 M w0) (Bq M w0 r) ks .normal s
abbrev DH(n:Nat):aq:=.c (cat Tryz.f110 (pn n))
abbrev Fu:List aq:=[.b 0,DH 15]
abbrev Ji:List aq:=kl (C6 M w0) (Bq M w0 r) Fu (cat Tryz.f110 (pn 116)) m1::Fu
def PA:AS:=⟨[(1,.ptr 1 0),(3,.ref 25),(4,iI v8)],[(1,aW v1)],[(25,⟨52,59,lm aQ v11⟩)],[1,25]⟩
def JY:AS:=⟨[(1,.ptr 1 0),(3,.ref 25),(4,iI v8)],[(1,aW v1)],[(25,⟨52,59,lm aQ v9⟩)],[1,25]⟩
abbrev AK:Prop:=∀{v8:Int} {v9:(List ai)},L1 v8 v9=some r→LP (C6 M w0) (Bq M w0 r) Fu (cat Tryz.f110 (pn 116)) m1 (JY v1 v8 v9)
variable{M w0 r v1 v8 v9 v11 m1 L1}{K:Kn}{n:Nat}
theorem NM(hK:am K)(hL1:AK M w0 r v1 m1 L1)(h:l8 K n v1 v8 L1 v11=some r):H1 M w0 r (.b 1::DH 467::Ji M w0 r m1) (PA v1 v8 v11):=by
 unfold l8 at h;exact ae 2 (bt (hL1 h))
theorem VZ(hK:am K)(hL1:AK M w0 r v1 m1 L1)(h:mn K n v1 L1 v8 v9=some r):H1 M w0 r (DH 116::Ji M w0 r m1) (JY v1 v8 v9):=by
 unfold mn at h;refine bH 4 5 3 2 (aj 3 (aB (bq aQ v1.Kids) (ac ?_)));obtain⟨h15,h⟩|⟨h15,h⟩:=ak h
 ·refine ag 9 h15 (cQ 8 9 1 3 5 (aj 3 ?_));obtain⟨h16,h⟩:=aK h;refine aB (bw aQ aW h16 (fi) (dK)) (aL 5 1 ?_);obtain⟨v10,h17,h⟩:=bind_some h;refine aD (Jy hK h17) (ac ?_);obtain⟨h18,h⟩|⟨h18,h⟩:=ak h
  ·refine ag 17 h18 (bh 2 1 (aj 4 ?_));obtain⟨h19,h⟩:=aK h;refine aB (bw aQ aW h19 (fi) (dK)) (aL 6 1 (aB (fB aQ ([(gD v1.Kids v8)]:List ai) (new:=[aW (gD v1.Kids v8)]) (by simp only[List.map_cons,List.map_nil,dK])) ?_));obtain⟨h20,h⟩:=aK h;exact aB (cD 25 25 52 59 aQ (rfl) (fi) h20) (ac (ae 0 (NM hK hL1 h)))
  ·exact ag 17 h18 (ae 2 (NM hK hL1 h))
 ·refine ag 9 h15 (aE 8 ?_);cases h;exact fa
theorem P0(hK:am K)(m:Nat):AK M w0 r v1 m (lV K n v1 m):=by
 induction m with
 | zero=>intro v8 v9 h;cases h
 | succ m ih=>intro v8 v9 h;have h:mn K n v1 (lV K n v1 m) v8 v9=some r:=h;exact bp (VZ hK ih h)
theorem Db(hK:am K)(h:kW K n v1=some r):aO Tryz.prog 110 [.agg (aW v1)] (fun v s=>v=.ref 25∧look 25 s.r=some ⟨52,59,lm aQ r⟩):=by
 refine bg (cat Tryz.f110 (pn 1)) Tryz.func110 Tryz.ntmps110 fun M w0=>(bc ⟨[(0,.agg (aW v1))],[],[],[]⟩ ?_);unfold kW at h;exact fr 58 0 15 8 (bI [1,3,4] [1] [] (fh 25 3 52 59 (ae 0 (cf (p:=pn 58) n (P0 hK n h)))))
end
noncomputable section
variable(M:Nat→Prop)(w0:aF)(r:Bool)(v1:ai)(v2:List ai)(v4:Int)(m1:Nat)(L1:Int→Option Bool)
abbrev BZ:Cx:=⟨Tryz.prog,19,M,w0⟩
abbrev Fs:=bodyPost Tryz.prog Tryz.f111 (bu M w0 (fun v _=>v=.bool r))
abbrev Rz(ks:List aq)(s:AS):=VE (BZ M w0) (Fs M w0 r) ks .normal s
abbrev zb(n:Nat):aq:=.c (cat Tryz.f111 (pn n))
abbrev CH:List aq:=[.b 0,zb 15]
abbrev JV:List aq:=kl (BZ M w0) (Fs M w0 r) CH (cat Tryz.f111 (pn 116)) m1::CH
def Ny:AS:=⟨[(3,.ref 1006),(4,iI v4)],[],[(1006,⟨52,59,lm aQ v2⟩)],[1006]⟩
abbrev J7:Prop:=∀{v4:Int},L1 v4=some r→LP (BZ M w0) (Fs M w0 r) CH (cat Tryz.f111 (pn 116)) m1 (Ny v2 v4)
variable{M w0 r v1 v2 v4 m1 L1}{K:Kn}{n:Nat}
theorem ac0(hK:am K)(hL1:J7 M w0 r v2 m1 L1)(h:mL K n v2 L1 v4=some r):Rz M w0 r (zb 116::JV M w0 r m1) (Ny v2 v4):=by
 unfold mL at h;refine bH 4 5 3 2 (aj 2 (aB (bq aQ v2) (ac ?_)));obtain⟨h6,h⟩|⟨h6,h⟩:=ak h
 ·refine ag 10 h6 (cQ 8 9 1 3 5 (aj 2 ?_));obtain⟨h7,h⟩:=aK h;refine aB (cS 1006 59 aQ h7) (aL 4 1 (aB (cp 3 0 aQ aW (cj h7).2 (dK)) (ac ?_)));obtain⟨v5,h8,h⟩:=bW h;refine bB (ks':=zb 1865 :: .b 1::zb 467::JV M w0 r m1) 0 ⟨[(3,.ref 1006),(4,iI v4),(18,.bool v5)],[],[(1006,⟨52,59,lm aQ v2⟩)],[1006]⟩ ?_ (by subst h8;kernel_rfl);obtain⟨h9,h⟩|⟨h9,h⟩:=ak h
  ·refine ag 18 h9 (aE 9 ?_);cases h;exact ba
  ·exact ag 18 h9 (ae 4 (bt (hL1 h)))
 ·refine ag 10 h6 (aE 8 ?_);cases h;exact ba
theorem X6(hK:am K)(m:Nat):J7 M w0 r v2 m (nI K n v2 m):=by
 induction m with
 | zero=>intro v4 h;cases h
 | succ m ih=>intro v4 h;have h:mL K n v2 (nI K n v2 m) v4=some r:=h;exact bp (ac0 hK ih h)
theorem JI(hK:am K)(h:k9 K n v1=some r):aO Tryz.prog 111 [.agg (aW v1)] (fun v _=>v=.bool r):=by
 refine bg (cat Tryz.f111 (pn 1)) Tryz.func111 Tryz.ntmps111 fun M w0=>(bc ⟨[(0,.agg (aW v1))],[],[],[]⟩ ?_);unfold k9 at h;refine az 6 7 3 (aj 1 ?_);obtain⟨v2,h1,h⟩:=bind_some h;exact dx 1006 (Db hK h1) (fx 25) (ac (ae 4 (cf (p:=pn 58) n (X6 hK n h))))
end
noncomputable section
variable(M:Nat→Prop)(w0:aF)(r:Int×Int)(v1:ai)(v2:List ai)(v8 v9 v10:Int)(m1:Nat)(L1:Int→Int→Int→Option (Int×Int))
abbrev D1:Cx:=⟨Tryz.prog,52,M,w0⟩
abbrev BO:=bodyPost Tryz.prog Tryz.f83 (bu M w0 (fun v _=>v=.tup [iI r.1,iI r.2]))
abbrev P6(ks:List aq)(s:AS):=VE (D1 M w0) (BO M w0 r) ks .normal s
abbrev H8(n:Nat):aq:=.c (cat Tryz.f83 (pn n))
abbrev BF:List aq:=[.b 0,H8 127]
abbrev X4:List aq:=kl (D1 M w0) (BO M w0 r) BF (cat Tryz.f83 (pn 1012)) m1::BF
def Ih:AS:=⟨[(4,.ref 1013),(7,iI v8),(8,iI v9),(9,iI v10)],[],[(1013,⟨52,59,lm aQ v2⟩)],[1013]⟩
abbrev Hq:Prop:=∀{v8:Int} {v9:Int} {v10:Int},L1 v8 v9 v10=some r→LP (D1 M w0) (BO M w0 r) BF (cat Tryz.f83 (pn 1012)) m1 (Ih v2 v8 v9 v10)
variable{M w0 r v1 v2 v8 v9 v10 m1 L1}{K:Kn}{n:Nat}
theorem acH(hK:am K)(hL1:Hq M w0 r v2 m1 L1)(h:n3 K n v2 L1 v8 v9 v10=some r):P6 M w0 r (H8 1012::X4 M w0 r m1) (Ih v2 v8 v9 v10):=by
 unfold n3 at h;refine bH 4 5 3 2 (aj 2 (aB (bq aQ v2) (ac ?_)));obtain⟨h10,h⟩|⟨h10,h⟩:=ak h
 ·refine ag 31 h10 (cQ 8 9 1 3 5 (aj 2 ?_));obtain⟨h11,h⟩:=aK h;refine aB (cS 1013 59 aQ h11) (aB (cp 52 0 aQ aW (cj h11).2 (dK)) ?_);obtain⟨v11,h12,h⟩:=bind_some h;exact aD (Da hK h12) (ac (ae 5 (bt (hL1 h))))
 ·refine ag 31 h10 (kx 2 3 6 (aj 1 ?_));obtain⟨v12,h13,h⟩:=bind_some h;refine aD (gN hK h13) (aL 3 1 ?_);obtain⟨v13,h14,h⟩:=bind_some h;refine aD (gN hK h14) (ac (aE 1 ?_));cases h;exact dS
theorem abT(hK:am K)(m:Nat):Hq M w0 r v2 m (rc K n v2 m):=by
 induction m with
 | zero=>intro v8 v9 v10 h;cases h
 | succ m ih=>intro v8 v9 v10 h;have h:n3 K n v2 (rc K n v2 m) v8 v9 v10=some r:=h;exact bp (acH hK ih h)
theorem Ou(hK:am K)(h:iq K n v1=some r):aO Tryz.prog 83 [.agg (aW v1)] (fun v _=>v=.tup [iI r.1,iI r.2]):=by
 refine bg (cat Tryz.f83 (pn 1)) Tryz.func83 Tryz.ntmps83 fun M w0=>(bc ⟨[(0,.agg (aW v1))],[],[],[]⟩ ?_);unfold iq at h;refine az 6 7 3 (aj 1 ?_);obtain⟨v2,h1,h⟩:=bind_some h;refine dx 1013 (Db hK h1) (fx 25) (ac (bH 4 5 3 2 (aj 1 ?_)));obtain⟨v3,h2,h⟩:=bind_some h;refine aD (JI hK h2) (ac ?_);obtain⟨h3,h⟩|⟨h3,h⟩:=ak h
 ·refine ag 16 h3 (az 4 5 2 (aj 3 (lT 1013 ?_)));obtain⟨v4,h4,h⟩:=bind_some h;refine aD (Mx hK h4) (ac (az 2 3 1 (aj 1 ?_)));obtain⟨v5,h5,h⟩:=bind_some h;refine aD (gN hK h5) (aL 3 1 ?_);obtain⟨v6,h6,h⟩:=bind_some h;refine aD (gN hK h6) (ac (aE 2 ?_));cases h;exact dS
 ·exact ag 16 h3 (ae 10 (cf (p:=pn 506) n (abT hK n h)))
end
noncomputable section
variable(M:Nat→Prop)(w0:aF)(r:Int)(v1:ai)(v2 v3 v8:Int)  
abbrev QA(n:Nat):aq:=.c (cat Tryz.f69 (pn n))
abbrev RI:Cx:=⟨Tryz.prog,42,M,w0⟩
abbrev WG:=bodyPost Tryz.prog Tryz.f69 (bu M w0 (fun v _=>v=iI r))
abbrev ab2(ks:List aq)(s:AS):=VE (RI M w0) (WG M w0 r) ks .normal s
def aab:AS:=⟨[(1,iI v3),(2,.ptr 2 0),(5,iI v8)],[(2,aW v1)],[],[2]⟩
variable{M w0 r v1 v2 v3 v8}{K:Kn}{n:Nat}
theorem J8(hK:am K)(h:lS K n v1 v3 v8=some r):ab2 M w0 r [QA 31] (aab v1 v3 v8):=by
 unfold lS at h;refine az 2 3 1 (aj 4 ?_);obtain⟨v9,h7,h⟩:=bind_some h;refine aD (zI hK h7) (ac (aE 1 ?_));cases h;exact ba
theorem ach(hK:am K)(h:lp K n v1 v2=some r):aO Tryz.prog 69 [.agg (aW v1),iI v2] (fun v _=>v=iI r):=by
 refine bg (cat Tryz.f69 (pn 1)) Tryz.func69 Tryz.ntmps69 fun M w0=>(bc ⟨[(0,.agg (aW v1)),(1,iI v2)],[],[],[]⟩ ?_);unfold lp at h;refine az 6 7 3 (aj 1 ?_);obtain⟨v3,h1,h⟩:=bind_some h;refine aD (gN hK h1) (ac (az 2 3 1 (aj 4 ?_)));obtain⟨v4,h2,h⟩:=bind_some h;refine aD (fG hK h2) (ac (az 5 3 3 ?_));obtain⟨h3,h⟩|⟨h3,h⟩:=ak h
 ·refine ag 20 h3 (az 4 5 2 (aj 1 ?_));obtain⟨v5,h4,h⟩:=bind_some h;refine aD (Ou hK h4) (ac (aj 4 ?_));obtain⟨v6,h5,h⟩:=bind_some h;refine aD (Ai hK h5) ?_;obtain⟨v7,h6,h⟩:=bind_some h;exact aD (wR hK h6) (ac (ae 0 (J8 hK h)))
 ·exact ag 20 h3 (ae 2 (J8 hK h))
end
end Go.Proofs.YtnpmlepplfaijaaGreat

/- The runs of the functions that InlineLines reaches do what their plain forms say, part 1. Made by a program. -/
import Derived.Test.YtnpmlepplfaijaaGreatIlGk
import Derived.Test.YtnpmlepplfaijaaGreatIlP0
namespace Go.Proofs.YtnpmlepplfaijaaGreat
open Go.RowKit
set_option maxRecDepth 20000
set_option linter.all false
set_option linter.unusedVariables false
set_option linter.unusedSimpArgs false
noncomputable section
variable(M:Nat→Prop)(w0:aE)(r:ab)(v1:ah)(v2:aR)(v3 v4:Bool)(v5:cD)(v6:(List ah)×Bool)(v9:Int)(v10:List ab)(v15:Int)(v16:Bool)(v17 v18:aq)(v19:List ab)(v20 v21:aq)(v23:Bool)(v25:Int)(v26:aq)(v27:Bool)(v32:Int)(v33 v34:aq)(v35:Bool)(v36:Int×Bool)(v37:Bool)(v38 v39 v40 v47:Int)(v48 v50:(List ab))(v52:Bool)(v54:List ab)(m1 m2:Nat)(L1 L2:Int→(List ab)→Option ab)
abbrev tp:Cx:=⟨Tryz.prog,259,M,w0⟩
abbrev tM:=bodyPost Tryz.prog Tryz.f59 (bq M w0 (fun v s=>v=.agg (List.set (aC ({ r with Kids:=[] }:ab)) 66 (.ref 1054))∧look 1054 s.r=some ⟨59,67,lm aB r.Kids⟩))
abbrev ir(ks:List ao)(s:AS):=VE (tp M w0) (tM M w0 r) ks .normal s
abbrev c7(n:Nat):ao:=.c (cat Tryz.f59 (pn n))
abbrev zw:List ao:=[.b 4,c7 131071]
abbrev s8:List ao:=kl (tp M w0) (tM M w0 r) zw (cat Tryz.f59 (pn 1048564)) m2::zw
abbrev zT:List ao:=[.b 0,c7 4075,c7 255]
abbrev UZ:List ao:=kl (tp M w0) (tM M w0 r) zT (cat Tryz.f59 (pn 32596)) m1::zT
def PK:AS:=⟨[(6,.ptr 6 0),(10,.ptr 10 0),(11,.ptr 11 0),(12,.sl (lm aP v6.1)),(13,.bool v6.2),(15,iI v25),(199,iI (v19.length:Int)),(200,iI v47)],[(6,bi v2),(10,List.set (aC bb) 66 (.nils)),(11,List.set (aC (⟨1,v1.Node,v2.Margin.a3,0,(aa (v2.Content+v39)),v40,0,⟨#[]⟩,v1.Style,v33,v34,v35,[]⟩:ab)) 66 (.ref 1054))],[(1054,⟨59,67,lm aB v54⟩)],[6,10,11,1054]⟩
def aar:AS:=⟨[(6,.ptr 6 0),(10,.ptr 10 0),(11,.ptr 11 0),(12,.sl (lm aP v6.1)),(13,.bool v6.2),(15,iI v25),(24,iI v47),(199,iI (v19.length:Int)),(200,iI v47),(244,.bool v52)],[(6,bi v2),(10,List.set (aC bb) 66 (.nils)),(11,List.set (aC (⟨1,v1.Node,v2.Margin.a3,0,(aa (v2.Content+v39)),v40,0,⟨#[]⟩,v1.Style,v33,v34,v35,[]⟩:ab)) 66 (.ref 1054))],[(1054,⟨59,67,lm aB v50⟩)],[6,10,11,1054]⟩
def HL:AS:=⟨[(6,.ptr 6 0),(10,.ptr 10 0),(11,.ptr 11 0),(12,.sl (lm aP v6.1)),(13,.bool v6.2),(15,iI v25),(199,iI (v19.length:Int)),(200,iI v47)],[(6,bi v2),(10,List.set (aC bb) 66 (.nils)),(11,List.set (aC (⟨1,v1.Node,v2.Margin.a3,0,(aa (v2.Content+v39)),v40,0,⟨#[]⟩,v1.Style,v33,v34,v35,[]⟩:ab)) 66 (.ref 1054))],[(1054,⟨59,67,lm aB v48⟩)],[6,10,11,1054]⟩
def Ol:AS:=⟨[(6,.ptr 6 0),(10,.ptr 10 0),(11,.ptr 11 0),(12,.sl (lm aP v6.1)),(13,.bool v6.2),(14,iI v38),(15,iI v25)],[(6,bi v2),(10,List.set (aC bb) 66 (.nils)),(11,List.set (aC ({ bb with Kind:=1,Node:=v1.Node,Style:=v1.Style,Before:=v33,After:=v34,Empty:=v35 }:ab)) 66 (.ref 1054))],[(1054,⟨59,67,lm aB v19⟩)],[6,10,11,1054]⟩
def UQ:AS:=⟨[(6,.ptr 6 0),(10,.ptr 10 0),(11,.ptr 11 0),(12,.sl (lm aP v6.1)),(13,.bool v6.2),(14,iI (max v32 0)),(15,iI v25),(22,iI v36.1),(166,.bool v37)],[(6,bi v2),(10,List.set (aC bb) 66 (.nils)),(11,List.set (aC ({ bb with Kind:=1,Node:=v1.Node,Style:=v1.Style,Before:=v33,After:=v34,Empty:=v35 }:ab)) 66 (.ref 1054))],[(1054,⟨59,67,lm aB v19⟩)],[6,10,11,1054]⟩
def Rf:AS:=⟨[(5,.ptr 5 0),(6,.ptr 6 0),(10,.ptr 10 0),(11,.ptr 11 0),(12,.sl (lm aP v6.1)),(13,.bool v6.2),(14,iI v32),(15,iI v25)],[(5,aX v1),(6,bi v2),(10,List.set (aC bb) 66 (.nils)),(11,List.set (aC ({ bb with Kind:=1,Node:=v1.Node,Style:=v1.Style,Before:=v33,After:=v34,Empty:=v35 }:ab)) 66 (.ref 1054))],[(1054,⟨59,67,lm aB v19⟩)],[5,6,10,11,1054]⟩
def Tl:AS:=⟨[(3,.bool v4),(5,.ptr 5 0),(6,.ptr 6 0),(10,.ptr 10 0),(11,.ptr 11 0),(12,.sl (lm aP v6.1)),(13,.bool v6.2),(14,iI v15),(15,iI v25),(16,.ptr 16 0),(17,.ptr 17 0),(18,.bool v16),(113,.bool v27)],[(5,aX v1),(6,bi v2),(10,List.set (aC bb) 66 (.nils)),(11,List.set (aC ({ bb with Kind:=1,Node:=v1.Node,Style:=v1.Style,Before:=v26,After:=v21 }:ab)) 66 (.ref 1054)),(16,bJ v17),(17,bJ v18)],[(1054,⟨59,67,lm aB v19⟩)],[5,6,10,11,16,17,1054]⟩
def Qr:AS:=⟨[(2,.bool v3),(3,.bool v4),(5,.ptr 5 0),(6,.ptr 6 0),(10,.ptr 10 0),(11,.ptr 11 0),(12,.sl (lm aP v6.1)),(13,.bool v6.2),(14,iI v15),(15,iI v25),(16,.ptr 16 0),(17,.ptr 17 0),(18,.bool v16)],[(5,aX v1),(6,bi v2),(10,List.set (aC bb) 66 (.nils)),(11,List.set (aC ({ bb with Kind:=1,Node:=v1.Node,Style:=v1.Style,Before:=v26,After:=v21 }:ab)) 66 (.ref 1054)),(16,bJ v17),(17,bJ v18)],[(1054,⟨59,67,lm aB v19⟩)],[5,6,10,11,16,17,1054]⟩
def P7:AS:=⟨[(2,.bool v3),(3,.bool v4),(5,.ptr 5 0),(6,.ptr 6 0),(10,.ptr 10 0),(11,.ptr 11 0),(12,.sl (lm aP v6.1)),(13,.bool v6.2),(14,iI v15),(15,iI 0),(16,.ptr 16 0),(17,.ptr 17 0),(18,.bool v16),(98,.bool v23)],[(5,aX v1),(6,bi v2),(10,List.set (aC bb) 66 (.nils)),(11,List.set (aC ({ bb with Kind:=1,Node:=v1.Node,Style:=v1.Style,Before:=v20,After:=v21 }:ab)) 66 (.ref 1054)),(16,bJ v17),(17,bJ v18)],[(1054,⟨59,67,lm aB v19⟩)],[5,6,10,11,16,17,1054]⟩
def WV:AS:=⟨[(2,.bool v3),(3,.bool v4),(5,.ptr 5 0),(6,.ptr 6 0),(10,.ptr 10 0),(11,.ptr 11 0),(12,.sl (lm aP v6.1)),(13,.bool v6.2),(14,iI v15),(15,iI 0),(16,.ptr 16 0),(17,.ptr 17 0),(18,.bool v16)],[(5,aX v1),(6,bi v2),(10,List.set (aC bb) 66 (.nils)),(11,List.set (aC ({ bb with Kind:=1,Node:=v1.Node,Style:=v1.Style }:ab)) 66 (.ref 1054)),(16,bJ v17),(17,bJ v18)],[(1054,⟨59,67,lm aB v19⟩)],[5,6,10,11,16,17,1054]⟩
def Jj:AS:=⟨[(2,.bool v3),(3,.bool v4),(5,.ptr 5 0),(6,.ptr 6 0),(9,.ptr 9 0),(10,.ptr 10 0),(11,.ptr 11 0),(12,.sl (lm aP v6.1)),(13,.bool v6.2),(15,iI 0),(16,.ptr 16 0),(17,.ptr 17 0),(19,.ref 50),(36,.sl (lm aP v6.1)),(37,iI (v6.1.length:Int)),(38,iI v9)],[(5,aX v1),(6,bi v2),(9,cW v5),(10,List.set (aC bb) 66 (.nils)),(11,List.set (aC ({ bb with Kind:=1,Node:=v1.Node,Style:=v1.Style }:ab)) 66 (.nils)),(16,bJ bX),(17,bJ bX)],[(50,⟨59,67,lm aB v10⟩)],[5,6,9,10,11,16,17,50]⟩
abbrev Ie:Prop:=∀{v9:Int} {v10:(List ab)},L1 v9 v10=some r→LP (tp M w0) (tM M w0 r) zT (cat Tryz.f59 (pn 32596)) m1 (Jj v1 v2 v3 v4 v5 v6 v9 v10)
abbrev w2:Prop:=∀{v47:Int} {v48:(List ab)},L2 v47 v48=some r→LP (tp M w0) (tM M w0 r) zw (cat Tryz.f59 (pn 1048564)) m2 (HL v1 v2 v6 v19 v25 v33 v34 v35 v39 v40 v47 v48)
variable{M w0 r v1 v2 v3 v4 v5 v6 v9 v10 v15 v16 v17 v18 v19 v20 v21 v23 v25 v26 v27 v32 v33 v34 v35 v36 v37 v38 v39 v40 v47 v48 v50 v52 v54 m1 m2 L1 L2}{K:Kn}{n:Nat}
theorem ED(hK:am K)(hL2:w2 M w0 r v1 v2 v6 v19 v25 v33 v34 v35 v39 v40 m2 L2)(h:sS K n v1 v2 v6 v19 v25 v33 v34 v35 v39 v40 v47 L2 v54=some r):ir M w0 r (.b 5::c7 8388519::s8 M w0 r m2) (PK v1 v2 v6 v19 v25 v33 v34 v35 v39 v40 v47 v54):=by
 unfold sS at h;exact ae 2 (bt (hL2 h))
theorem H3(hK:am K)(hL2:w2 M w0 r v1 v2 v6 v19 v25 v33 v34 v35 v39 v40 m2 L2)(h:qS K n v1 v2 v6 v19 v25 v33 v34 v35 v39 v40 v47 v50 L2 v52=some r):ir M w0 r (c7 268432591 :: .b 5::c7 8388519::s8 M w0 r m2) (aar v1 v2 v6 v19 v25 v33 v34 v35 v39 v40 v47 v50 v52):=by
 unfold qS at h;obtain⟨h64,h⟩|⟨h64,h⟩:=ak h
 ·refine ag 244 h64 (bh 2 1 (bF [6,10,11,12,13,15,24,199,200] [6,10,11] [1054] ?_));obtain⟨h65,h⟩:=aL h;obtain⟨v53,h66,h⟩:=bind_some h;obtain⟨h67,h⟩:=aL h;exact bP 1 (nu 245 [.ptr 11 66,.ref 1054,iI v47,.ptr 11 66,.ref 1054,iI v47,.eptr 1054 67 (v47.toNat) 0,.agg (aC (gD v50 v47)),.ptr 6 12,iI v2.Content,.agg (aC v53),.eptr 1054 67 (v47.toNat) 0]) [] [] [qV 1054 ⟨59,67,lm aB (List.set v50 v47.toNat v53)⟩] (ay (vz 6) (bI (dg 1054 67 aB (L:=v50) h65) (bI (co 59 0 aB aC (ci h67).2 (cH)) (ay (vz 2) (ai (bU 0 1 255 (J5 hK h66)) (bI (dg 1054 67 aB (L:=v50) h67) (ai (gF (m:=0) (wV 1054 59 67 0 aB aC v53 (ci h67).2 (cH))) bO))))))) (ae 0 (ED hK hL2 h))
 ·exact ag 244 h64 (ae 2 (ED hK hL2 h))
theorem YS(hK:am K)(hL2:w2 M w0 r v1 v2 v6 v19 v25 v33 v34 v35 v39 v40 m2 L2)(h:o7 K n v1 v2 v6 v19 v25 v33 v34 v35 v39 v40 L2 v47 v48=some r):ir M w0 r (c7 1048564::s8 M w0 r m2) (HL v1 v2 v6 v19 v25 v33 v34 v35 v39 v40 v47 v48):=by
 unfold o7 at h;refine aw 6 7 3 ?_;obtain⟨h54,h⟩|⟨h54,h⟩:=ak h
 ·refine ag 201 h54 (cE 18 19 5 3 7 (bF [6,10,11,12,13,15,24,199,200] [6,10,11] [1054] ?_));obtain⟨h55,h⟩:=aL h;obtain⟨h56,h⟩:=aL h;refine bP 1 (nu 203 [.ptr 11 66,.ref 1054,iI v47,.eptr 1054 67 (v47.toNat) 0,.eptr 1054 67 (v47.toNat) 2,iI ((gD v48 v47).X),.ptr 6 4,.ptr 6 7,iI v2.Border.a3,.ptr 6 8,.ptr 6 11,iI v2.Padding.a3,iI (aa (v2.Border.a3+v2.Padding.a3)),iI (aa (((gD v48 v47).X)+(aa (v2.Border.a3+v2.Padding.a3)))),.eptr 1054 67 (v47.toNat) 0,.eptr 1054 67 (v47.toNat) 2]) [] [] [qV 1054 ⟨59,67,lm aB (List.set v48 v47.toNat ({ (gD v48 v47)with X:=(aa (((gD v48 v47).X)+(aa (v2.Border.a3+v2.Padding.a3)))) }:ab))⟩] (ay (vz 3) (bI (dg 1054 67 aB (L:=v48) h55) (ay [.v 0 1] (bI (co 3 2 aB aC (ci h56).2 (cH)) (ay (vz 8) (ai (iE (lo:=0) (k:=2) (eH ⟨(by kernel_rfl),(eT (dg 1054 67 aB (L:=v48) h56) (by kernel_rfl))⟩ (eH ⟨(by kernel_rfl),(eT (dg 1054 67 aB (L:=(List.set v48 v47.toNat ({ (gD v48 v47)with X:=(aa (((gD v48 v47).X)+(aa (v2.Border.a3+v2.Padding.a3)))) }:ab))) h56) (by kernel_rfl))⟩ jN))) (ay [.v 0 1] (ai (gF (m:=0) (wV 1054 59 67 2 aB aC ({ (gD v48 v47)with X:=(aa (((gD v48 v47).X)+(aa (v2.Border.a3+v2.Padding.a3)))) }:ab) (ci h56).2 (cH))) bO)))))))) ?_
  obtain⟨v49,h57,h⟩:=bL h;refine bw (ks':=c7 134216294::c7 134216295 :: .b 5::c7 8388519::s8 M w0 r m2) 1 ⟨[(6,.ptr 6 0),(10,.ptr 10 0),(11,.ptr 11 0),(12,.sl (lm aP v6.1)),(13,.bool v6.2),(15,iI v25),(24,iI v47),(199,iI (v19.length:Int)),(200,iI v47)],[(6,bi v2),(10,List.set (aC bb) 66 (.nils)),(11,List.set (aC (⟨1,v1.Node,v2.Margin.a3,0,(aa (v2.Content+v39)),v40,0,⟨#[]⟩,v1.Style,v33,v34,v35,[]⟩:ab)) 66 (.ref 1054))],[(1054,⟨59,67,lm aB v49⟩)],[6,10,11,1054]⟩ ?_ (by subst h57;kernel_rfl);obtain⟨h58,h⟩:=aL h;obtain⟨h59,h⟩:=aL h;refine bP 1 (nu 219 [.ptr 11 66,.ref 1054,iI v47,.eptr 1054 67 (v47.toNat) 0,.eptr 1054 67 (v47.toNat) 3,iI ((gD v49 v47).Y),.ptr 6 4,.ptr 6 4,iI v2.Border.a0,.ptr 6 8,.ptr 6 8,iI v2.Padding.a0,iI (aa (v2.Border.a0+v2.Padding.a0)),iI v25,iI (aa ((aa (v2.Border.a0+v2.Padding.a0))+v25)),iI (aa (((gD v49 v47).Y)+(aa ((aa (v2.Border.a0+v2.Padding.a0))+v25)))),.eptr 1054 67 (v47.toNat) 0,.eptr 1054 67 (v47.toNat) 3]) [] [] [qV 1054 ⟨59,67,lm aB (List.set v49 v47.toNat ({ (gD v49 v47)with Y:=(aa (((gD v49 v47).Y)+(aa ((aa (v2.Border.a0+v2.Padding.a0))+v25)))) }:ab))⟩] (ay (vz 3) (bI (dg 1054 67 aB (L:=v49) h58) (ay [.v 0 1] (bI (co 3 3 aB aC (ci h59).2 (cH)) (ay (vz 10) (ai (iE (lo:=0) (k:=2) (eH ⟨(by kernel_rfl),(eT (dg 1054 67 aB (L:=v49) h59) (by kernel_rfl))⟩ (eH ⟨(by kernel_rfl),(eT (dg 1054 67 aB (L:=(List.set v49 v47.toNat ({ (gD v49 v47)with Y:=(aa (((gD v49 v47).Y)+(aa ((aa (v2.Border.a0+v2.Padding.a0))+v25)))) }:ab))) h59) (by kernel_rfl))⟩ jN))) (ay [.v 0 1] (ai (gF (m:=0) (wV 1054 59 67 3 aB aC ({ (gD v49 v47)with Y:=(aa (((gD v49 v47).Y)+(aa ((aa (v2.Border.a0+v2.Padding.a0))+v25)))) }:ab) (ci h59).2 (cH))) bO)))))))) ?_
  obtain⟨v50,h60,h⟩:=bL h;refine bw (ks':=c7 268432590::c7 268432591 :: .b 5::c7 8388519::s8 M w0 r m2) 1 ⟨[(6,.ptr 6 0),(10,.ptr 10 0),(11,.ptr 11 0),(12,.sl (lm aP v6.1)),(13,.bool v6.2),(15,iI v25),(24,iI v47),(199,iI (v19.length:Int)),(200,iI v47)],[(6,bi v2),(10,List.set (aC bb) 66 (.nils)),(11,List.set (aC (⟨1,v1.Node,v2.Margin.a3,0,(aa (v2.Content+v39)),v40,0,⟨#[]⟩,v1.Style,v33,v34,v35,[]⟩:ab)) 66 (.ref 1054))],[(1054,⟨59,67,lm aB v50⟩)],[6,10,11,1054]⟩ ?_ (by subst h60;kernel_rfl);refine aj 2 ?_;obtain⟨h61,h⟩|⟨h61,h⟩:=ak h
  ·refine av 238 h61 (aJ 4 2 ?_);obtain⟨h62,h⟩:=aL h;refine az (bN aP aX h62 (eW) (dC)) (aJ 6 1 ?_);obtain⟨v51,h63,h⟩:=bind_some h;exact aD (F3 hK h63) (ac (ae 0 (H3 hK hL2 h)))
  ·exact av 238 h61 (ac (ae 0 (H3 hK hL2 h)))
 ·refine ag 201 h54 (aG 8 ?_);cases h;exact d9
theorem Tz(hK:am K)(m:Nat):w2 M w0 r v1 v2 v6 v19 v25 v33 v34 v35 v39 v40 m (mI K n v1 v2 v6 v19 v25 v33 v34 v35 v39 v40 m):=by
 induction m with
 | zero=>intro v47 v48 h;cases h
 | succ m ih=>intro v47 v48 h;have h:o7 K n v1 v2 v6 v19 v25 v33 v34 v35 v39 v40 (mI K n v1 v2 v6 v19 v25 v33 v34 v35 v39 v40 m) v47 v48=some r:=h;exact bp (YS hK ih h)
theorem HR(hK:am K)(h:pa K n v1 v2 v6 v19 v25 v33 v34 v35 v38=some r):ir M w0 r [c7 8191] (Ol v1 v2 v6 v19 v25 v33 v34 v35 v38):=by
 unfold pa at h;refine aw 6 7 3 (bF [6,10,11,12,13,14,15] [6,10,11] [1054] ?_);obtain⟨v39,h38,h⟩:=bind_some h;refine bP 1 (nu 173 [.ptr 6 12,iI v2.Content,.agg (bi v2),iI v39,iI (aa (v2.Content+v39)),.ptr 11 4]) [] [] [bR Tryz.prog 259 Tryz.f59 (pn 32766) 6] (ay (vz 3) (ai (bU 0 1 176 (Xh hK h38)) (ay (vz 2) (ai (bS 0) bO)))) ?_;obtain⟨v40,h39,h⟩:=bL h;refine bw (ks':=[c7 262140,c7 262141,c7 131071]) 4 ⟨[(6,.ptr 6 0),(10,.ptr 10 0),(11,.ptr 11 0),(12,.sl (lm aP v6.1)),(13,.bool v6.2),(15,iI v25)],[(6,bi v2),(10,List.set (aC bb) 66 (.nils)),(11,List.set (aC (⟨1,v1.Node,v2.Margin.a3,0,(aa (v2.Content+v39)),v40,0,⟨#[]⟩,v1.Style,v33,v34,v35,[]⟩:ab)) 66 (.ref 1054))],[(1054,⟨59,67,lm aB v19⟩)],[6,10,11,1054]⟩ ?_ (by subst h39;kernel_rfl);exact aj 2 (az (bv aB v19) (ac (ae 1 (cd (p:=pn 524282) n (Tz hK n h)))))
theorem Iu(hK:am K)(h:sA K n v1 v2 v6 v19 v25 v32 v33 v34 v35 v36 v37=some r):ir M w0 r [c7 32763,c7 8191] (UQ v1 v2 v6 v19 v25 v32 v33 v34 v35 v36 v37):=by
 unfold sA at h;obtain⟨h37,h⟩|⟨h37,h⟩:=ak h
 ·exact ag 166 h37 (ae 2 (HR hK h))
 ·exact ag 166 h37 (ae 2 (HR hK h))
theorem uA(hK:am K)(h:gT K n v1 v2 v6 v19 v25 v32 v33 v34 v35=some r):ir M w0 r [.b 3,c7 2047] (Rf v1 v2 v6 v19 v25 v32 v33 v34 v35):=by
 unfold gT at h;refine gE 12 13 7 5 (aj 3 ?_);obtain⟨v36,h35,h⟩:=bind_some h;refine aD (eM hK h35) (ac (aw 2 3 1 (aj 2 ?_)));obtain⟨h36,h⟩|⟨h36,h⟩:=ak h
 ·exact av 160 h36 (ac (ae 0 (Iu hK h)))
 ·exact av 160 h36 (ac (ae 0 (Iu hK h)))
theorem Ap(hK:am K)(h:mS K n v1 v2 v4 v6 v15 v16 v17 v18 v19 v21 v25 v26 v27=some r):ir M w0 r [c7 8185,.b 3,c7 2047] (Tl v1 v2 v4 v6 v15 v16 v17 v18 v19 v21 v25 v26 v27):=by
 unfold mS at h;obtain⟨h27,h⟩|⟨h27,h⟩:=ak h
 ·refine ag 113 h27 (aw 4 5 2 (aj 4 ?_));obtain⟨v28,h28,h⟩:=bind_some h;exact aD (vO hK h28) (ac (ae 5 (uA hK h)))
 ·refine ag 113 h27 (bh 7 3 ?_);obtain⟨h29,h⟩|⟨h29,h⟩:=ak h
  ·refine ag 131 h29 (bh 11 5 ?_);obtain⟨h30,h⟩|⟨h30,h⟩:=ak h
   ·refine ag 134 h30 (bh 2 1 (aj 3 ?_));obtain⟨v29,h31,h⟩:=bind_some h;exact aD (vO hK h31) (ac (ae 0 (uA hK h)))
   ·exact ag 134 h30 (ae 2 (uA hK h))
  ·refine ag 131 h29 (bh 7 3 ?_);obtain⟨h32,h⟩|⟨h32,h⟩:=ak h
   ·refine ag 140 h32 (aw 4 5 2 (aj 3 ?_));obtain⟨v30,h33,h⟩:=bind_some h;exact aD (vO hK h33) (ac (ae 1 (uA hK h)))
   ·refine ag 140 h32 (bh 3 1 (aj 3 ?_));obtain⟨v31,h34,h⟩:=bind_some h;exact aD (rF hK h34) (ac (ae 0 (uA hK h)))
theorem Bz(hK:am K)(h:mV K n v1 v2 v3 v4 v6 v15 v16 v17 v18 v19 v21 v25 v26=some r):ir M w0 r [.b 2,c7 1023] (Qr v1 v2 v3 v4 v6 v15 v16 v17 v18 v19 v21 v25 v26):=by
 unfold mV at h;refine cE 8 9 3 3 4 (aj 2 ?_);obtain⟨h25,h⟩|⟨h25,h⟩:=ak h
 ·refine av 115 h25 (aJ 5 3 ?_);obtain⟨h26,h⟩|⟨h26,h⟩:=ak h
  ·exact av 118 h26 (ac (ae 0 (Ap hK h)))
  ·exact av 118 h26 (ac (ae 0 (Ap hK h)))
 ·exact av 115 h25 (ac (ae 0 (Ap hK h)))
theorem LN(hK:am K)(h:pr K n v1 v2 v3 v4 v6 v15 v16 v17 v18 v19 v20 v21 v23=some r):ir M w0 r [c7 16359,.b 2,c7 1023] (P7 v1 v2 v3 v4 v6 v15 v16 v17 v18 v19 v20 v21 v23):=by
 unfold pr at h;obtain⟨h23,h⟩|⟨h23,h⟩:=ak h
 ·refine ag 98 h23 (bh 2 1 (aj 1 ?_));obtain⟨v24,h24,h⟩:=bind_some h;exact aD (rF hK h24) (ac (ae 0 (Bz hK h)))
 ·exact ag 98 h23 (ae 2 (Bz hK h))
theorem FB(hK:am K)(h:kQ K n v1 v2 v3 v4 v6 v15 v16 v17 v18 v19=some r):ir M w0 r [c7 255] (WV v1 v2 v3 v4 v6 v15 v16 v17 v18 v19):=by
 unfold kQ at h;refine aw 2 3 1 (bF [2,3,5,6,10,11,12,13,14,15,16,17,18] [5,6,10,11,16,17] [1054] ?_);obtain⟨v20,h18,h⟩:=bind_some h;obtain⟨v21,h19,h⟩:=bind_some h;refine bP 2 (nu 81 [.ptr 6 0,.ptr 6 0,iI v2.Margin.a0,.agg (bJ v20),.ptr 6 0,.ptr 6 2,iI v2.Margin.a2,.agg (bJ v21),.ptr 11 61,.ptr 11 63]) [] [] [bR Tryz.prog 259 Tryz.f59 (pn 510) 9,bR Tryz.prog 259 Tryz.f59 (pn 510) 11] (ay (vz 3) (ai (bU 0 1 84 (Hs hK h18)) (ay [.v 0 2,.v 0 2,.v 0 2] (ai (bU 0 1 88 (Hs hK h19)) (ay [.v 0 1] (ai (bS 0) (ay [.v 1 1] (ai (bS 1) bO)))))))) (eO 9 2 3 4 ?_);obtain⟨h20,h⟩|⟨h20,h⟩:=ak h
 ·refine ag 91 h20 (bh 2 1 (aj 3 ?_));obtain⟨v22,h21,h⟩:=bind_some h;exact aD (vO hK h21) (ac (ae 0 (Bz hK h)))
 ·refine ag 91 h20 (aw 6 7 2 (aj 3 ?_));obtain⟨h22,h⟩|⟨h22,h⟩:=ak h
  ·exact av 101 h22 (ac (ae 0 (LN hK h)))
  ·exact av 101 h22 (ac (ae 0 (LN hK h)))
theorem Q0(hK:am K)(hL1:Ie M w0 r v1 v2 v3 v4 v5 v6 m1 L1)(h:uW K n v1 v2 v3 v4 v5 v6 L1 v9 v10=some r):ir M w0 r (c7 32596::UZ M w0 r m1) (Jj v1 v2 v3 v4 v5 v6 v9 v10):=by
 unfold uW at h;refine aw 6 7 3 ?_;obtain⟨h11,h⟩|⟨h11,h⟩:=ak h
 ·refine ag 39 h11 (cE 8 9 1 3 5 (aj 0 ?_));obtain⟨h12,h⟩:=aL h;refine az (bN aP aX h12 (eW) (dC)) (ac (aj 6 ?_));obtain⟨v11,h13,h⟩:=bind_some h;refine sR (hK.n8 h13) (az (er aB ([v11]:List ab) (new:=[aC v11]) (by simp only[List.map_cons,List.map_nil,cH])) ?_);obtain⟨h14,h⟩:=aL h;exact az (cp 50 50 59 67 aB (rfl) (dF) h14) (ac (ae 2 (bt (hL1 h))))
 ·refine ag 39 h11 (cz (ks':=[c7 4075,c7 255]) 5 (aj 1 (iP 50 ?_)));obtain⟨v12,h15,h⟩:=bind_some h;exact dm 1054 (Nu hK h15) (nZ (i:=0) rfl) (ac (ae 0 (FB hK h)))
theorem WO(hK:am K)(m:Nat):Ie M w0 r v1 v2 v3 v4 v5 v6 m (oM K n v1 v2 v3 v4 v5 v6 m):=by
 induction m with
 | zero=>intro v9 v10 h;cases h
 | succ m ih=>intro v9 v10 h;have h:uW K n v1 v2 v3 v4 v5 v6 (oM K n v1 v2 v3 v4 v5 v6 m) v9 v10=some r:=h;exact bp (Q0 hK ih h)
theorem Hk(hK:am K)(h:mj K n v1 v2 v3 v4 v5=some r):aN Tryz.prog 59 [.agg (aX v1),.agg (bi v2),.bool v3,.bool v4,.agg (cW v5)] (fun v s=>v=.agg (List.set (aC ({ r with Kids:=[] }:ab)) 66 (.ref 1054))∧look 1054 s.r=some ⟨59,67,lm aB r.Kids⟩):=by
 refine bc (cat Tryz.f59 (pn 1)) Tryz.func59 Tryz.ntmps59 fun M w0=>(aZ ⟨[(0,.agg (aX v1)),(1,.agg (bi v2)),(2,.bool v3),(3,.bool v4),(4,.agg (cW v5))],[],[],[]⟩ ?_);unfold mj at h;refine aw 14 15 5 (aj 1 ?_);obtain⟨v6,h1,h⟩:=bind_some h;refine aD (LQ hK h1) (ac (aw 61 31 9 ?_));obtain⟨h2,h⟩|⟨h2,h⟩:=ak h
 ·exact ag 35 h2 (bK 20 21 11 5 (aj 1 (az (bv aP v6.1) (ac (jb 2 0 1 (bF [2,3,5,6,9,10,11,12,13,15,16,17,19,36,37,38] [5,6,9,10,11,16,17] [] (eX 50 19 59 67 (ae 0 (cd (p:=pn 16298) n (WO hK n h))))))))))
 ·refine ag 35 h2 (aw 6 7 2 (aj 7 ?_));obtain⟨v13,h16,h⟩:=bind_some h;refine sR (hK.sh h16) (ac (aw 2 3 1 (aj 2 ?_)));obtain⟨v14,h17,h⟩:=bind_some h;exact dm 1075 (XI hK h17) (fH 5) (ac (aj 2 (az (bv aB v14) (ac (bF [2,3,5,6,10,11,12,13,14,15,16,17,18] [5,6,10,11,16,17] [1075] (EX 1075 1054 (ae 0 (FB hK h))))))))
end
noncomputable section
variable(M:Nat→Prop)(w0:aE)(r:ab)(v1:ah)(v2:aR)(v3:cD)  
variable{M w0 r v1 v2 v3}{K:Kn}{n:Nat}
theorem TA(hK:am K)(h:nI K n v1 v2 v3=some r):aN Tryz.prog 27 [.agg (aX v1),.agg (bi v2),.agg (cW v3)] (fun v s=>v=.agg (List.set (aC ({ r with Kids:=[] }:ab)) 66 (.ref 1010))∧look 1010 s.r=some ⟨59,67,lm aB r.Kids⟩):=by
 refine bc (cat Tryz.f27 (pn 1)) Tryz.func27 Tryz.ntmps27 fun M w0=>(aZ ⟨[(0,.agg (aX v1)),(1,.agg (bi v2)),(2,.agg (cW v3))],[],[],[]⟩ ?_);unfold nI at h;refine aw 6 7 3 (aj 3 ?_);obtain⟨v4,h1,h⟩:=bind_some h;refine dm 1010 (Hk hK h1) (mT (i:=66) (by kernel_rfl)) (ac (aG 1 ?_));cases h;exact d9
end
noncomputable section
variable(M:Nat→Prop)(w0:aE)(r:aH)(v1:ah)(v2:Int)(v3:cD)  
variable{M w0 r v1 v2 v3}{K:Kn}{n:Nat}
theorem Zj(hK:am K)(h:jv K n v1 v2 v3=some r):aN Tryz.prog 23 [.agg (aX v1),.cptr ([iI v2]),.cptr (cW v3)] (fun v _=>v=.agg (bg r)):=by
 refine bc (cat Tryz.f23 (pn 1)) Tryz.func23 Tryz.ntmps23 fun M w0=>(aZ ⟨[(0,.agg (aX v1)),(1,.cptr ([iI v2])),(2,.cptr (cW v3))],[],[],[]⟩ ?_);unfold jv at h;refine aw 6 7 3 (bF [1,2,3,4] [3,4] [] ?_);obtain⟨v4,h1,h⟩:=bind_some h;obtain⟨v5,h2,h⟩:=bind_some h;refine bP 1 (nu 7 [.ptr 3 2,.agg (aI v1.Style),iI v2,.agg (aX v1),iI v2,.agg (cW v3),iI v4,.agg (bi v5)]++nu 5 [.ptr 5 0]) [(5,bi dv)] [] [bR Tryz.prog 36 Tryz.f23 (pn 6) 9] (ay (vz 6) (ai (bU 0 1 13 (Xc hK h1)) (ai (bU 0 1 14 (vY hK h2)) (ai (m5 0 1 75 5 (bi dv)) (ai (bS 0) bO))))) (aw 2 3 1 (bF [1,2,3,4,5] [3,4,5] [] ?_));obtain⟨v7,h4,h⟩:=bind_some h;obtain⟨v8,h5,h⟩:=bind_some h;refine bP 1 (nu 15 [.agg (aX v1),.agg (bi v5),.agg (cW v3),.agg (aC v7),iI v2,.agg (aC v8)]++nu 6 [.ptr 6 0]) [(6,List.set (aC bb) 66 (.nils))] [] [bR Tryz.prog 36 Tryz.f23 (pn 14) 7] (ay (vz 3) (ai (bU 0 1 18 (aN.bW (TA hK h4) (V':=.agg (aC v7)) (by kernel_rfl))) (ay [.v 0 1] (ai (bU 0 1 20 (J5 hK h5)) (ai (m5 0 1 59 6 (List.set (aC bb) 66 (.nils))) (ai (bS 0) bO)))))) (aw 2 3 1 (bF [4,5,6] [4,5,6] [] ?_))
 obtain⟨v9,h6,h⟩:=bind_some h;obtain⟨v10,h7,h⟩:=bind_some h;obtain⟨v11,h8,h⟩:=bind_some h;refine bP 1 (nu 21 [.agg (bi v5),iI v9,.ptr 6 5,iI v8.H,.ptr 6 61,.agg (bJ v8.Before),iI v10,iI (aa (v8.H+v10)),.ptr 6 63,.agg (bJ v8.After),iI v11,iI (aa ((aa (v8.H+v10))+v11)),.agg (aC v8),.sl (lm aB [v8]),.agg (bg ({ cJ with Width:=v9,Above:=(aa ((aa (v8.H+v10))+v11)),Box:=[v8] }:aH))]) [] [] [bR Tryz.prog 36 Tryz.f23 (pn 30) 15] (ay [.v 0 1] (ai (bU 0 1 22 (qe hK h6)) (ay (vz 4) (ai (bU 0 1 27 (rF hK h7)) (ay (vz 3) (ai (bU 0 1 31 (rF hK h8)) (ay (vz 2) (bI (er aB ([v8]:List ab) (new:=[aC v8]) (by simp only[List.map_cons,List.map_nil,cH])) (ay [.v 0 1] (ai (bS 0) bO)))))))))) (aG 1 ?_);cases h;exact aV
end
noncomputable section
variable(M:Nat→Prop)(w0:aE)(r:List aH)(v1:List ah)(v2:Int)(v3:cD)  
variable{M w0 r v1 v2 v3}{K:Kn}{n:Nat}
theorem Pc(hK:am K)(h:tH K n v1 v2 v3=some r):aN Tryz.prog 8 [.sl (lm aP v1),iI v2,.agg (cW v3)] (fun v s=>v=.ref 1009∧look 1009 s.r=some ⟨46,62,lm bg r⟩):=by
 refine bc (cat Tryz.f8 (pn 1)) Tryz.func8 Tryz.ntmps8 fun M w0=>(aZ ⟨[(0,.sl (lm aP v1)),(1,iI v2),(2,.agg (cW v3))],[],[],[]⟩ ?_);unfold tH at h;refine aw 6 7 3 (aj 1 (JN 4 4 ([iI v2]) (JN 5 5 (cW v3) (T4 23 #[(.tmp 4),(.tmp 5)] [.cptr ([iI v2]),.cptr (cW v3)] ?_))));obtain⟨v4,h1,h⟩:=bind_some h;refine dm 1009 (Z0 hK h1) (fH 117) (ac (aG 1 ?_));cases h;exact d9
end
noncomputable section
variable(M:Nat→Prop)(w0:aE)(r:Int)(v1:List aH)(v2 v4:Int)(v5:Bool)(m1:Nat)(L1:Int→Option Int)
abbrev A4:Cx:=⟨Tryz.prog,22,M,w0⟩
abbrev A2:=bodyPost Tryz.prog Tryz.f44 (bq M w0 (fun v _=>v=iI r))
abbrev Ef(ks:List ao)(s:AS):=VE (A4 M w0) (A2 M w0 r) ks .normal s
abbrev xW(n:Nat):ao:=.c (cat Tryz.f44 (pn n))
abbrev Da:List ao:=[.b 0,xW 15]
abbrev GM:List ao:=kl (A4 M w0) (A2 M w0 r) Da (cat Tryz.f44 (pn 56)) m1::Da
def WZ:AS:=⟨[(0,.sl (lm bg v1)),(5,iI v4),(18,.bool v5)],[],[],[]⟩
def HX:AS:=⟨[(0,.sl (lm bg v1)),(5,iI v4)],[],[],[]⟩
abbrev Dx:Prop:=∀{v4:Int},L1 v4=some r→LP (A4 M w0) (A2 M w0 r) Da (cat Tryz.f44 (pn 56)) m1 (HX v1 v4)
variable{M w0 r v1 v2 v4 v5 m1 L1}{K:Kn}{n:Nat}
theorem Hx(hK:am K)(hL1:Dx M w0 r v1 m1 L1)(h:qT K n v1 v4 L1 v5=some r):Ef M w0 r (xW 225::xW 113::GM M w0 r m1) (WZ v1 v4 v5):=by
 unfold qT at h;obtain⟨h6,h⟩|⟨h6,h⟩:=ak h
 ·exact ag 18 h6 (ae 5 (bt (hL1 h)))
 ·refine ag 18 h6 (aG 8 ?_);cases h;exact aV
theorem Sb(hK:am K)(hL1:Dx M w0 r v1 m1 L1)(h:qc K n v1 L1 v4=some r):Ef M w0 r (xW 56::GM M w0 r m1) (HX v1 v4):=by
 unfold qc at h;refine bK 4 5 3 2 (aj 2 (az (bv bg v1) (aJ 5 2 ?_)));obtain⟨h4,h⟩|⟨h4,h⟩:=ak h
 ·refine av 12 h4 (aJ 7 2 ?_);obtain⟨h5,h⟩:=aL h;exact az (bN bg bg h5 (jx) ((fun _=>rfl))) (ac (ae 0 (Hx hK hL1 h)))
 ·exact av 12 h4 (ac (ae 0 (Hx hK hL1 h)))
theorem SS(hK:am K)(m:Nat):Dx M w0 r v1 m (rX K n v1 m):=by
 induction m with
 | zero=>intro v4 h;cases h
 | succ m ih=>intro v4 h;have h:qc K n v1 (rX K n v1 m) v4=some r:=h;exact bp (Sb hK ih h)
theorem Jp(hK:am K)(h:qH K n v1 v2=some r):aN Tryz.prog 44 [.sl (lm bg v1),iI v2] (fun v _=>v=iI r):=by
 refine bc (cat Tryz.f44 (pn 1)) Tryz.func44 Tryz.ntmps44 fun M w0=>(aZ ⟨[(0,.sl (lm bg v1)),(1,iI v2)],[],[],[]⟩ ?_);unfold qH at h;exact ae 6 (cd (p:=pn 28) n (SS hK n h))
end
noncomputable section
variable(M:Nat→Prop)(w0:aE)(r:Int)(v1:List aH)(v3:Int)(m1:Nat)(L1:Int→Option Int)
abbrev AU:Cx:=⟨Tryz.prog,18,M,w0⟩
abbrev Dy:=bodyPost Tryz.prog Tryz.f77 (bq M w0 (fun v _=>v=iI r))
abbrev Sw(ks:List ao)(s:AS):=VE (AU M w0) (Dy M w0 r) ks .normal s
abbrev GX(n:Nat):ao:=.c (cat Tryz.f77 (pn n))
abbrev Cj:List ao:=[.b 0,GX 7]
abbrev Y7:List ao:=kl (AU M w0) (Dy M w0 r) Cj (cat Tryz.f77 (pn 52)) m1::Cj
def F7:AS:=⟨[(0,.sl (lm bg v1)),(3,iI v3)],[],[],[]⟩
abbrev EN:Prop:=∀{v3:Int},L1 v3=some r→LP (AU M w0) (Dy M w0 r) Cj (cat Tryz.f77 (pn 52)) m1 (F7 v1 v3)
variable{M w0 r v1 v3 m1 L1}{K:Kn}{n:Nat}
theorem Pq(hK:am K)(hL1:EN M w0 r v1 m1 L1)(h:mg K n v1 L1 v3=some r):Sw M w0 r (GX 52::Y7 M w0 r m1) (F7 v1 v3):=by
 unfold mg at h;refine aw 5 3 3 ?_;obtain⟨h5,h⟩|⟨h5,h⟩:=ak h
 ·refine ag 8 h5 (cE 8 9 1 3 5 (aj 2 ?_));obtain⟨h6,h⟩:=aL h;refine az (bN bg bg h6 (jx) ((fun _=>rfl))) (ac ?_);obtain⟨h7,h⟩|⟨h7,h⟩:=ak h
  ·refine ag 16 h7 (aG 9 ?_);cases h;exact aV
  ·exact ag 16 h7 (ae 4 (bt (hL1 h)))
 ·refine ag 8 h5 (aG 8 ?_);cases h;exact aV
theorem Uv(hK:am K)(m:Nat):EN M w0 r v1 m (lM K n v1 m):=by
 induction m with
 | zero=>intro v3 h;cases h
 | succ m ih=>intro v3 h;have h:mg K n v1 (lM K n v1 m) v3=some r:=h;exact bp (Pq hK ih h)
theorem KH(hK:am K)(h:l9 K n v1=some r):aN Tryz.prog 77 [.sl (lm bg v1)] (fun v _=>v=iI r):=by
 refine bc (cat Tryz.f77 (pn 1)) Tryz.func77 Tryz.ntmps77 fun M w0=>(aZ ⟨[(0,.sl (lm bg v1))],[],[],[]⟩ ?_);unfold l9 at h;exact bK 12 13 7 4 (aj 1 (az (bv bg v1) (ac (ae 1 (cd (p:=pn 26) n (Uv hK n h))))))
end
noncomputable section
variable(M:Nat→Prop)(w0:aE)(r:Int)(v1:List aH)(v2 v3 v5:Int)(m1:Nat)(L1:Int→Int→Option Int)
abbrev Dr:Cx:=⟨Tryz.prog,33,M,w0⟩
abbrev Cf:=bodyPost Tryz.prog Tryz.f45 (bq M w0 (fun v _=>v=iI r))
abbrev HQ(ks:List ao)(s:AS):=VE (Dr M w0) (Cf M w0 r) ks .normal s
abbrev Du(n:Nat):ao:=.c (cat Tryz.f45 (pn n))
abbrev C6:List ao:=[.b 0,Du 15]
abbrev Oy:List ao:=kl (Dr M w0) (Cf M w0 r) C6 (cat Tryz.f45 (pn 116)) m1::C6
def Z3:AS:=⟨[(3,iI v5)],[],[],[]⟩
def J8:AS:=⟨[(0,.sl (lm bg v1)),(3,iI v2),(7,.sl (lm bg v1)),(8,iI (v1.length:Int)),(9,iI v3)],[],[],[]⟩
abbrev EL:Prop:=∀{v2:Int} {v3:Int},L1 v2 v3=some r→LP (Dr M w0) (Cf M w0 r) C6 (cat Tryz.f45 (pn 116)) m1 (J8 v1 v2 v3)
variable{M w0 r v1 v2 v3 v5 m1 L1}{K:Kn}{n:Nat}
theorem JA(hK:am K)(h:tC K n v5=some r):HQ M w0 r [Du 31] (Z3 v5):=by
 unfold tC at h;refine aG 3 ?_;cases h;exact aV
theorem Nl(hK:am K)(hL1:EL M w0 r v1 m1 L1)(h:qA K n v1 L1 v2 v3=some r):HQ M w0 r (Du 116::Oy M w0 r m1) (J8 v1 v2 v3):=by
 unfold qA at h;refine aw 6 7 3 ?_;obtain⟨h3,h⟩|⟨h3,h⟩:=ak h
 ·refine ag 10 h3 (cE 8 9 1 3 5 (aj 0 ?_));obtain⟨h4,h⟩:=aL h;exact az (bN bg bg h4 (jx) ((fun _=>rfl))) (ac (ae 3 (bt (hL1 h))))
 ·refine ag 10 h3 (SK 4 5 3 7 (aj 1 ?_));obtain⟨v4,h5,h⟩:=bind_some h;refine aD (KH hK h5) (ac (bh 3 2 ?_));obtain⟨h6,h⟩|⟨h6,h⟩:=ak h
  ·refine ag 24 h6 (bh 2 1 (aj 3 ?_));obtain⟨h7,h⟩:=aL h;exact az (bN bg bg h7 (jx) ((fun _=>rfl))) (ac (ae 0 (JA hK h)))
  ·exact ag 24 h6 (ae 2 (JA hK h))
theorem Yy(hK:am K)(m:Nat):EL M w0 r v1 m (sf K n v1 m):=by
 induction m with
 | zero=>intro v2 v3 h;cases h
 | succ m ih=>intro v2 v3 h;have h:qA K n v1 (sf K n v1 m) v2 v3=some r:=h;exact bp (Nl hK ih h)
theorem LC(hK:am K)(h:sn K n v1=some r):aN Tryz.prog 45 [.sl (lm bg v1)] (fun v _=>v=iI r):=by
 refine bc (cat Tryz.f45 (pn 1)) Tryz.func45 Tryz.ntmps45 fun M w0=>(aZ ⟨[(0,.sl (lm bg v1))],[],[],[]⟩ ?_);unfold sn at h;exact bK 28 29 15 6 (aj 1 (az (bv bg v1) (ac (ae 1 (cd (p:=pn 58) n (Yy hK n h))))))
end
noncomputable section
variable(M:Nat→Prop)(w0:aE)(r:List Int)(v1:List aH)(v2 v19:Int)(v20:List Int)(v25:Int)(v26:Bool)(m1 m2:Nat)(L1:Int→(List Int)→Option (List Int))(L2:Int→Option (List Int))
abbrev ub:Cx:=⟨Tryz.prog,46,M,w0⟩
abbrev vh:=bodyPost Tryz.prog Tryz.f19 (bq M w0 (fun v s=>v=.ref 16∧look 16 s.r=some ⟨3,1,lm (br .i64) r⟩))
abbrev wH(ks:List ao)(s:AS):=VE (ub M w0) (vh M w0 r) ks .normal s
abbrev iT(n:Nat):ao:=.c (cat Tryz.f19 (pn n))
abbrev Bp:List ao:=[.b 0,iT 15]
abbrev yG:List ao:=kl (ub M w0) (vh M w0 r) Bp (cat Tryz.f19 (pn 116)) m1::Bp
abbrev zU:List ao:=.b 2::iT 3735 :: .b 1::yG M w0 r m1
abbrev DD:List ao:=kl (ub M w0) (vh M w0 r) (zU M w0 r m1) (cat Tryz.f19 (pn 14936)) m2::(zU M w0 r m1)
def XN:AS:=⟨[(0,.sl (lm bg v1)),(1,iI v2),(5,.ref 16),(7,iI v25)],[],[(16,⟨3,1,lm (br .i64) (v20++[v19])⟩)],[16]⟩
def ZF:AS:=⟨[(0,.sl (lm bg v1)),(1,iI v2),(5,.ref 16),(6,iI v19),(7,iI v25),(32,.bool v26)],[],[(16,⟨3,1,lm (br .i64) (v20++[v19])⟩)],[16]⟩
def Kb:AS:=⟨[(0,.sl (lm bg v1)),(1,iI v2),(5,.ref 16),(6,iI v19),(7,iI v25)],[],[(16,⟨3,1,lm (br .i64) (v20++[v19])⟩)],[16]⟩
def Fz:AS:=⟨[(0,.sl (lm bg v1)),(1,iI v2),(5,.ref 16),(6,iI v19)],[],[(16,⟨3,1,lm (br .i64) v20⟩)],[16]⟩
abbrev rB:Prop:=∀{v19:Int} {v20:(List Int)},L1 v19 v20=some r→LP (ub M w0) (vh M w0 r) Bp (cat Tryz.f19 (pn 116)) m1 (Fz v1 v2 v19 v20)
abbrev Ah:Prop:=∀{v25:Int},L2 v25=some r→LP (ub M w0) (vh M w0 r) (zU M w0 r m1) (cat Tryz.f19 (pn 14936)) m2 (Kb v1 v2 v19 v20 v25)
variable{M w0 r v1 v2 v19 v20 v25 v26 m1 m2 L1 L2}{K:Kn}{n:Nat}
theorem IZ(hK:am K)(hL1:rB M w0 r v1 v2 m1 L1)(h:yx K n v1 v2 v19 v20 v25 L1=some r):wH M w0 r (iT 3735 :: .b 1::yG M w0 r m1) (XN v1 v2 v19 v20 v25):=by
 unfold yx at h;exact ae 2 (bt (hL1 h))
theorem IJ(hK:am K)(hL1:rB M w0 r v1 v2 m1 L1)(hL2:Ah M w0 r v1 v2 v19 v20 m1 m2 L2)(h:rc K n v1 v2 v19 v20 v25 L1 L2 v26=some r):wH M w0 r (iT 59745::iT 29873::DD M w0 r m1 m2) (ZF v1 v2 v19 v20 v25 v26):=by
 unfold rc at h;obtain⟨h47,h⟩|⟨h47,h⟩:=ak h
 ·refine ag 32 h47 (cz (ks':=iT 119492::iT 119493 :: .b 3::DD M w0 r m1 m2) 4 (aj 2 ?_));obtain⟨v27,h48,h⟩:=bind_some h;refine aD (Jp hK h48) (ac (bK 4 5 3 2 (aj 3 ?_)));obtain⟨h49,h⟩:=aL h;refine az (uL bg v1 v19 v27 25 (.tmp 36) (some (.tmp 37)) (some (.tmp 38)) 39 (e:=46) (sz:=62) (by kernel_rfl) (by kernel_rfl) (by kernel_rfl) (by kernel_rfl) (by kernel_rfl) (by kernel_rfl) (jx) (fun k hk=>by subst hk;kernel_rfl) h49) ?_;obtain⟨v28,h50,h⟩:=bind_some h;refine aD (LC hK h50) (ac ?_);obtain⟨h51,h⟩|⟨h51,h⟩:=ak h
  ·exact ag 42 h51 (ae 6 (IZ hK hL1 h))
  ·exact ag 42 h51 (ae 4 (bt (hL2 h)))
 ·exact ag 32 h47 (ae 5 (IZ hK hL1 h))
theorem Ub(hK:am K)(hL1:rB M w0 r v1 v2 m1 L1)(hL2:Ah M w0 r v1 v2 v19 v20 m1 m2 L2)(h:sP K n v1 v2 v19 v20 L1 L2 v25=some r):wH M w0 r (iT 14936::DD M w0 r m1 m2) (Kb v1 v2 v19 v20 v25):=by
 unfold sP at h;refine bK 4 5 3 2 (aj 2 (az (bv bg v1) (aJ 5 2 ?_)));obtain⟨h45,h⟩|⟨h45,h⟩:=ak h
 ·refine av 24 h45 (aJ 8 3 ?_);obtain⟨h46,h⟩:=aL h;exact az (bN bg bg h46 (jx) ((fun _=>rfl))) (ac (ae 0 (IJ hK hL1 hL2 h)))
 ·exact av 24 h45 (ac (ae 0 (IJ hK hL1 hL2 h)))
theorem Rp(hK:am K)(hL1:rB M w0 r v1 v2 m1 L1)(m:Nat):Ah M w0 r v1 v2 v19 v20 m1 m (sT K n v1 v2 v19 v20 L1 m):=by
 induction m with
 | zero=>intro v25 h;cases h
 | succ m ih=>intro v25 h;have h:sP K n v1 v2 v19 v20 L1 (sT K n v1 v2 v19 v20 L1 m) v25=some r:=h;exact bp (Ub hK hL1 ih h)
theorem M0(hK:am K)(hL1:rB M w0 r v1 v2 m1 L1)(h:sd K n v1 v2 L1 v19 v20=some r):wH M w0 r (iT 116::yG M w0 r m1) (Fz v1 v2 v19 v20):=by
 unfold sd at h;refine bK 4 5 3 2 (aj 2 (az (bv bg v1) (ac ?_)));obtain⟨h35,h⟩|⟨h35,h⟩:=ak h
 ·refine ag 12 h35 (cz (ks':=iT 932::iT 933 :: .b 1::yG M w0 r m1) 4 (aj 3 ?_));obtain⟨h36,h⟩:=aL h;refine az (cp 16 16 3 1 (br .i64) (rfl) ((fun _=>rfl)) h36) (ac (aw 2 3 1 (aj 2 ?_)));obtain⟨v21,h37,h⟩:=bind_some h;exact aD (Jp hK h37) (ac (ae 2 (cd (p:=pn 7468) n (Rp hK hL1 n h))))
 ·refine ag 12 h35 (aG 8 ?_);cases h;exact d9
theorem X4(hK:am K)(m:Nat):rB M w0 r v1 v2 m (pX K n v1 v2 m):=by
 induction m with
 | zero=>intro v19 v20 h;cases h
 | succ m ih=>intro v19 v20 h;have h:sd K n v1 v2 (pX K n v1 v2 m) v19 v20=some r:=h;exact bp (M0 hK ih h)
theorem ZT(hK:am K)(h:tv K n v1 v2=some r):aN Tryz.prog 19 [.sl (lm bg v1),iI v2] (fun v s=>v=.ref 16∧look 16 s.r=some ⟨3,1,lm (br .i64) r⟩):=by
 refine bc (cat Tryz.f19 (pn 1)) Tryz.func19 Tryz.ntmps19 fun M w0=>(aZ ⟨[(0,.sl (lm bg v1)),(1,iI v2)],[],[],[]⟩ ?_);unfold tv at h;exact eO 58 0 15 8 (bF [0,1,5,6] [] [] (eX 16 5 3 1 (ae 0 (cd (p:=pn 58) n (X4 hK n h)))))
end
noncomputable section
variable(M:Nat→Prop)(w0:aE)(r:Int)(v1:aF)(v2 v3:Int)  
variable{M w0 r v1 v2 v3}{K:Kn}{n:Nat}
theorem RM(hK:am K)(h:iy K n v1 v2 v3=some r):aN Tryz.prog 76 [.agg (aI v1),iI v2,iI v3] (fun v _=>v=iI r):=by
 refine bc (cat Tryz.f76 (pn 1)) Tryz.func76 Tryz.ntmps76 fun M w0=>(aZ ⟨[(0,.agg (aI v1)),(1,iI v2),(2,iI v3)],[],[],[]⟩ ?_);unfold iy at h;refine aw 13 7 5 ?_;obtain⟨h1,h⟩|⟨h1,h⟩:=ak h
 ·refine ag 9 h1 (aG 5 ?_);cases h;exact aV
 ·refine ag 9 h1 (vL 21 0 3 8 ?_);obtain⟨h2,h⟩|⟨h2,h⟩:=ak h
  ·refine ag 12 h2 (aG 6 ?_);cases h;exact aV
  ·refine ag 12 h2 (bh 7 3 ?_);obtain⟨h3,h⟩|⟨h3,h⟩:=ak h
   ·refine ag 18 h3 (aG 6 ?_);cases h;exact aV
   ·refine ag 18 h3 (aG 6 ?_);cases h;exact aV
end
noncomputable section
variable(M:Nat→Prop)(w0:aE)(r:Bool)(v1 v2:ByteArray)(v3:Bool)  
abbrev Mt(n:Nat):ao:=.c (cat Tryz.f109 (pn n))
abbrev Nq:Cx:=⟨Tryz.prog,21,M,w0⟩
abbrev TV:=bodyPost Tryz.prog Tryz.f109 (bq M w0 (fun v _=>v=.bool r))
abbrev Mr(ks:List ao)(s:AS):=VE (Nq M w0) (TV M w0 r) ks .normal s
def Q9:AS:=⟨[(4,.bool v3)],[],[],[]⟩
variable{M w0 r v1 v2 v3}{K:Kn}{n:Nat}
theorem GW(hK:am K)(h:vT K n v3=some r):Mr M w0 r [Mt 7] (Q9 v3):=by
 unfold vT at h;refine aG 1 ?_;cases h;exact aV
theorem Qo(hK:am K)(h:xH K n v1 v2=some r):aN Tryz.prog 109 [.str v1,.str v2] (fun v _=>v=.bool r):=by
 refine bc (cat Tryz.f109 (pn 1)) Tryz.func109 Tryz.ntmps109 fun M w0=>(aZ ⟨[(0,.str v1),(1,.str v2)],[],[],[]⟩ ?_);unfold xH at h;refine aw 6 7 3 (aj 6 ?_);obtain⟨h1,h⟩|⟨h1,h⟩:=ak h
 ·refine av 10 h1 (aJ 12 6 ?_);obtain⟨h2,h⟩:=aL h;exact az (uQ h2) (ac (ae 0 (GW hK h)))
 ·exact av 10 h1 (ac (ae 0 (GW hK h)))
end
noncomputable section
variable(M:Nat→Prop)(w0:aE)(r:Bool)(v1 v2:ByteArray)  
variable{M w0 r v1 v2}{K:Kn}{n:Nat}
theorem R1(hK:am K)(h:wa K n v1 v2=some r):aN Tryz.prog 78 [.str v1,.str v2] (fun v _=>v=.bool r):=by
 refine bc (cat Tryz.f78 (pn 1)) Tryz.func78 Tryz.ntmps78 fun M w0=>(aZ ⟨[(0,.str v1),(1,.str v2)],[],[],[]⟩ ?_);unfold wa at h;refine aw 6 7 3 (aj 2 ?_);obtain⟨v3,h1,h⟩:=bind_some h;refine aD (Qo hK h1) (ac (aG 1 ?_));cases h;exact aV
end
noncomputable section
variable(M:Nat→Prop)(w0:aE)(r:ab)(v1:List aH)(v2:aF)(v3 v8 v9 v10 v11 v12 v15 v78 v79:Int)(v80:List ab)(v82:Bool)(v83:aH)(v87:List ab)(v104:Int)(v105:List ab)(m1 m2 m3:Nat)(L1:Int→Int→Int→Option ab)(L2:Int→Int→(List ab)→Option ab)(L3:Int→(List ab)→Option ab)
abbrev pi:Cx:=⟨Tryz.prog,156,M,w0⟩
abbrev pq:=bodyPost Tryz.prog Tryz.f38 (bq M w0 (fun v s=>v=.agg (List.set (aC ({ r with Kids:=[] }:ab)) 66 (.ref 114))∧look 114 s.r=some ⟨59,67,lm aB r.Kids⟩))
abbrev o8(ks:List ao)(s:AS):=VE (pi M w0) (pq M w0 r) ks .normal s
abbrev dA(n:Nat):ao:=.c (cat Tryz.f38 (pn n))
abbrev Cn:List ao:=[.b 2,dA 255]
abbrev sD:List ao:=kl (pi M w0) (pq M w0 r) Cn (cat Tryz.f38 (pn 2036)) m2::Cn
abbrev AP:List ao:=[.b 0,dA 15]
abbrev Ep:List ao:=kl (pi M w0) (pq M w0 r) AP (cat Tryz.f38 (pn 116)) m1::AP
abbrev AH:List ao:=.b 4::dA 521423 :: .b 3::dA 16295::sD M w0 r m2
abbrev Df:List ao:=kl (pi M w0) (pq M w0 r) (AH M w0 r m2) (cat Tryz.f38 (pn 4171380)) m3::(AH M w0 r m2)
def Xs:AS:=⟨[(0,.sl (lm bg v1)),(2,iI v3),(4,.ptr 4 0),(6,.ptr 6 0),(7,iI v11),(8,iI v12),(24,.sl (lm bg v1)),(25,iI (v1.length:Int)),(26,iI v10)],[(4,aI v2),(6,List.set (aC bb) 66 (.nils))],[],[4,6]⟩
def Kf:AS:=⟨[(6,.ptr 6 0),(7,iI v8),(11,.ptr 11 0),(12,iI v78),(13,iI v15),(15,.ptr 15 0),(56,.sl (lm bg v1)),(57,iI (v1.length:Int)),(58,iI v79),(117,.sl (lm aB v83.Box)),(118,iI (v83.Box.length:Int)),(119,iI v104)],[(6,List.set (aC bb) 66 (.nils)),(11,List.set (aC ({ bb with Kind:=2,W:=v3,H:=(aa (v8+v9)),aE:=v8,Style:=v2 }:ab)) 66 (.ref 114)),(15,bg v83)],[(114,⟨59,67,lm aB v105⟩)],[6,11,15,114]⟩
def V6:AS:=⟨[(6,.ptr 6 0),(7,iI v8),(11,.ptr 11 0),(12,iI v78),(13,iI v15),(15,.ptr 15 0),(56,.sl (lm bg v1)),(57,iI (v1.length:Int)),(58,iI v79)],[(6,List.set (aC bb) 66 (.nils)),(11,List.set (aC ({ bb with Kind:=2,W:=v3,H:=(aa (v8+v9)),aE:=v8,Style:=v2 }:ab)) 66 (.ref 114)),(15,bg v83)],[(114,⟨59,67,lm aB v87⟩)],[6,11,15,114]⟩
def Wf:AS:=⟨[(6,.ptr 6 0),(7,iI v8),(11,.ptr 11 0),(12,iI v78),(13,iI v15),(15,.ptr 15 0),(56,.sl (lm bg v1)),(57,iI (v1.length:Int)),(58,iI v79)],[(6,List.set (aC bb) 66 (.nils)),(11,List.set (aC ({ bb with Kind:=2,W:=v3,H:=(aa (v8+v9)),aE:=v8,Style:=v2 }:ab)) 66 (.ref 114)),(15,bg v83)],[(114,⟨59,67,lm aB v80⟩)],[6,11,15,114]⟩
def QC:AS:=⟨[(6,.ptr 6 0),(7,iI v8),(11,.ptr 11 0),(12,iI v78),(13,iI v15),(15,.ptr 15 0),(56,.sl (lm bg v1)),(57,iI (v1.length:Int)),(58,iI v79),(76,.bool v82)],[(6,List.set (aC bb) 66 (.nils)),(11,List.set (aC ({ bb with Kind:=2,W:=v3,H:=(aa (v8+v9)),aE:=v8,Style:=v2 }:ab)) 66 (.ref 114)),(15,bg (gD v1 v79))],[(114,⟨59,67,lm aB v80⟩)],[6,11,15,114]⟩
def Lu:AS:=⟨[(6,.ptr 6 0),(7,iI v8),(11,.ptr 11 0),(12,iI v78),(13,iI v15),(56,.sl (lm bg v1)),(57,iI (v1.length:Int)),(58,iI v79)],[(6,List.set (aC bb) 66 (.nils)),(11,List.set (aC ({ bb with Kind:=2,W:=v3,H:=(aa (v8+v9)),aE:=v8,Style:=v2 }:ab)) 66 (.ref 114))],[(114,⟨59,67,lm aB v80⟩)],[6,11,114]⟩
def KF:AS:=⟨[(0,.sl (lm bg v1)),(2,iI v3),(4,.ptr 4 0),(6,.ptr 6 0),(7,iI v8),(8,iI v9),(24,.sl (lm bg v1)),(25,iI (v1.length:Int)),(26,iI v10)],[(4,aI v2),(6,List.set (aC bb) 66 (.nils))],[],[4,6]⟩
abbrev BV:Prop:=∀{v8:Int} {v9:Int} {v10:Int},L1 v8 v9 v10=some r→LP (pi M w0) (pq M w0 r) AP (cat Tryz.f38 (pn 116)) m1 (KF v1 v2 v3 v8 v9 v10)
abbrev oE:Prop:=∀{v78:Int} {v79:Int} {v80:(List ab)},L2 v78 v79 v80=some r→LP (pi M w0) (pq M w0 r) Cn (cat Tryz.f38 (pn 2036)) m2 (Lu v1 v2 v3 v8 v9 v15 v78 v79 v80)
abbrev JM:Prop:=∀{v104:Int} {v105:(List ab)},L3 v104 v105=some r→LP (pi M w0) (pq M w0 r) (AH M w0 r m2) (cat Tryz.f38 (pn 4171380)) m3 (Kf v1 v2 v3 v8 v9 v15 v78 v79 v83 v104 v105)
variable{M w0 r v1 v2 v3 v8 v9 v10 v11 v12 v15 v78 v79 v80 v82 v83 v87 v104 v105 m1 m2 m3 L1 L2 L3}{K:Kn}{n:Nat}
theorem E3(hK:am K)(hL1:BV M w0 r v1 v2 v3 m1 L1)(h:vd K n v1 v2 v3 v10 L1 v11 v12=some r):o8 M w0 r (.b 1::dA 935::Ep M w0 r m1) (Xs v1 v2 v3 v10 v11 v12):=by
 unfold vd at h;exact ae 2 (bt (hL1 h))
theorem ZP(hK:am K)(hL2:oE M w0 r v1 v2 v3 v8 v9 v15 m2 L2)(hL3:JM M w0 r v1 v2 v3 v8 v9 v15 v78 v79 v83 m2 m3 L3)(h:rG K n v1 v2 v3 v8 v9 v15 v78 v79 v83 L2 L3 v104 v105=some r):o8 M w0 r (dA 4171380::Df M w0 r m2 m3) (Kf v1 v2 v3 v8 v9 v15 v78 v79 v83 v104 v105):=by
 unfold rG at h;refine aw 6 7 3 ?_;obtain⟨h123,h⟩|⟨h123,h⟩:=ak h
 ·refine ag 120 h123 (cE 8 9 5 3 5 (aj 0 ?_));obtain⟨h124,h⟩:=aL h;refine az (bN aB aC h124 (dF) (cH)) (ac ?_);obtain⟨v106,h125,h⟩:=bL h;obtain⟨v107,h126,h⟩:=bL h;obtain⟨v108,h127,h⟩:=bL h;obtain⟨v109,h128,h⟩:=bL h;obtain⟨v110,h129,h⟩:=bL h;obtain⟨v111,h130,h⟩:=bL h;obtain⟨v112,h131,h⟩:=bL h;obtain⟨v113,h132,h⟩:=bL h;obtain⟨v114,h133,h⟩:=bL h;obtain⟨v115,h134,h⟩:=bL h;refine bw (ks':=dA 533936742::dA 533936743 :: .b 5::dA 33371047::Df M w0 r m2 m3) 3 ⟨[(6,.ptr 6 0),(7,iI v8),(11,.ptr 11 0),(12,iI v78),(13,iI v15),(15,.ptr 15 0),(18,.ptr 18 0),(56,.sl (lm bg v1)),(57,iI (v1.length:Int)),(58,iI v79),(117,.sl (lm aB v83.Box)),(118,iI (v83.Box.length:Int)),(119,iI v104)],[(6,List.set (aC bb) 66 (.nils)),(11,List.set (aC ({ bb with Kind:=2,W:=v3,H:=(aa (v8+v9)),aE:=v8,Style:=v2 }:ab)) 66 (.ref 114)),(15,bg v83),(18,aC (⟨v106,v107,v108,(gD v83.Box v104).Y,(gD v83.Box v104).W,(gD v83.Box v104).H,v109,v110,v111,v112,v113,v114,v115⟩:ab))],[(114,⟨59,67,lm aB v105⟩)],[6,11,15,18,114]⟩ ?_ (by subst h134;subst h133;subst h132;subst h131;subst h130;subst h129;subst h128;subst h127;subst h126;subst h125;kernel_rfl)
  obtain⟨v116,h135,h⟩:=bind_some h;refine bP 1 (nu 128 [.ptr 18 3,iI ((gD v83.Box v104).Y),iI v8,.ptr 18 5,iI ((gD v83.Box v104).H),iI (aa (v8-((gD v83.Box v104).H))),.ptr 18 63,.agg (bJ v113),iI v116,iI (aa ((aa (v8-((gD v83.Box v104).H)))-v116)),iI (aa (((gD v83.Box v104).Y)+(aa ((aa (v8-((gD v83.Box v104).H)))-v116)))),.ptr 18 3]) [] [] [bR Tryz.prog 156 Tryz.f38 (pn 533936742) 12] (ay (vz 8) (ai (bU 0 1 136 (rF hK h135)) (ay (vz 3) (ai (bS 0) bO)))) ?_;obtain⟨v117,h136,h⟩:=bL h;refine bw (ks':=dA 533936743 :: .b 5::dA 33371047::Df M w0 r m2 m3) 0 ⟨[(6,.ptr 6 0),(7,iI v8),(11,.ptr 11 0),(12,iI v78),(13,iI v15),(15,.ptr 15 0),(18,.ptr 18 0),(56,.sl (lm bg v1)),(57,iI (v1.length:Int)),(58,iI v79),(117,.sl (lm aB v83.Box)),(118,iI (v83.Box.length:Int)),(119,iI v104)],[(6,List.set (aC bb) 66 (.nils)),(11,List.set (aC ({ bb with Kind:=2,W:=v3,H:=(aa (v8+v9)),aE:=v8,Style:=v2 }:ab)) 66 (.ref 114)),(15,bg v83),(18,aC (⟨v106,v107,v108,v117,(gD v83.Box v104).W,(gD v83.Box v104).H,v109,v110,v111,v112,v113,v114,v115⟩:ab))],[(114,⟨59,67,lm aB v105⟩)],[6,11,15,18,114]⟩ ?_ (by subst h136;kernel_rfl)
  refine aj 3 (az (er aB ([(⟨v106,v107,v108,v117,(gD v83.Box v104).W,(gD v83.Box v104).H,v109,v110,v111,v112,v113,v114,v115⟩:ab)]:List ab) (new:=[aC (⟨v106,v107,v108,v117,(gD v83.Box v104).W,(gD v83.Box v104).H,v109,v110,v111,v112,v113,v114,v115⟩:ab)]) (by simp only[List.map_cons,List.map_nil,cH])) ?_);obtain⟨h137,h⟩:=aL h;exact az (cp 144 114 59 67 aB (rfl) (dF) h137) (ac (ae 2 (bt (hL3 h))))
 ·exact ag 120 h123 (ae 8 (bt (hL2 h)))
theorem aaw(hK:am K)(hL2:oE M w0 r v1 v2 v3 v8 v9 v15 m2 L2)(m:Nat):JM M w0 r v1 v2 v3 v8 v9 v15 v78 v79 v83 m2 m (sH K n v1 v2 v3 v8 v9 v15 v78 v79 v83 L2 m):=by
 induction m with
 | zero=>intro v104 v105 h;cases h
 | succ m ih=>intro v104 v105 h;have h:rG K n v1 v2 v3 v8 v9 v15 v78 v79 v83 L2 (sH K n v1 v2 v3 v8 v9 v15 v78 v79 v83 L2 m) v104 v105=some r:=h;exact bp (ZP hK hL2 ih h)
theorem Fq(hK:am K)(hL2:oE M w0 r v1 v2 v3 v8 v9 v15 m2 L2)(h:qB K n v1 v2 v3 v8 v9 v15 v78 v79 v83 L2 v87=some r):o8 M w0 r (dA 260711 :: .b 3::dA 16295::sD M w0 r m2) (V6 v1 v2 v3 v8 v9 v15 v78 v79 v83 v87):=by
 unfold qB at h;exact bK 4 5 3 2 (aj 2 (az (bv aB v83.Box) (ac (ae 1 (cd (p:=pn 2085690) n (aaw hK hL2 n h))))))
theorem LA(hK:am K)(hL2:oE M w0 r v1 v2 v3 v8 v9 v15 m2 L2)(h:lB K n v1 v2 v3 v8 v9 v15 v78 v79 v80 L2 v83=some r):o8 M w0 r (dA 130355 :: .b 3::dA 16295::sD M w0 r m2) (Wf v1 v2 v3 v8 v9 v15 v78 v79 v80 v83):=by
 unfold lB at h;obtain⟨v84,h99,h⟩:=bL h;refine bw (ks':=dA 521421::dA 260711 :: .b 3::dA 16295::sD M w0 r m2) 3 ⟨[(6,.ptr 6 0),(7,iI v8),(11,.ptr 11 0),(12,iI v78),(13,iI v15),(15,.ptr 15 0),(56,.sl (lm bg v1)),(57,iI (v1.length:Int)),(58,iI v79),(88,.bool v84)],[(6,List.set (aC bb) 66 (.nils)),(11,List.set (aC ({ bb with Kind:=2,W:=v3,H:=(aa (v8+v9)),aE:=v8,Style:=v2 }:ab)) 66 (.ref 114)),(15,bg v83)],[(114,⟨59,67,lm aB v80⟩)],[6,11,15,114]⟩ ?_ (by subst h99;kernel_rfl);obtain⟨h100,h⟩|⟨h100,h⟩:=ak h
 ·refine ag 88 h100 (bh 5 3 (bF [6,7,11,12,13,15,16,56,57,58] [6,11,15] [114] ?_));obtain⟨v85,h101,h⟩:=bind_some h;obtain⟨v86,h102,h⟩:=bind_some h;obtain⟨h103,h⟩:=aL h;exact bP 2 (nu 92 [.ptr 11 66,.ref 114,.ptr 15 0,iI v83.Node,.ptr 15 2,.agg (aI v83.Style),.ptr 15 1,.str v83.Text,iI v78,iI v8,iI v83.Style.FontSize,iI v85,iI (aa (v8-v85)),.ptr 15 55,iI v83.Width,.ptr 15 56,iI v83.Space,iI (aa (v83.Width+v83.Space)),iI v83.Style.FontSize,iI v86,.agg (List.set (aC (⟨3,v83.Node,v78,(aa (v8-v85)),(aa (v83.Width+v83.Space)),v86,0,v83.Text,v83.Style,bX,bX,false,[]⟩:ab)) 66 (.nils)),.sl (lm aB [(⟨3,v83.Node,v78,(aa (v8-v85)),(aa (v83.Width+v83.Space)),v86,0,v83.Text,v83.Style,bX,bX,false,[]⟩:ab)])]++nu 115 [.ptr 11 66]) [] [] [ii 114 114 ⟨59,67,lm aB (v80++[(⟨3,v83.Node,v78,(aa (v8-v85)),(aa (v83.Width+v83.Space)),v86,0,v83.Text,v83.Style,bX,bX,false,[]⟩:ab)])⟩,bR Tryz.prog 156 Tryz.f38 (pn 2085685) 24] (ay [.v 0 2,.v 0 1,.v 0 2,.v 0 2,.v 0 2,.v 0 2,.v 0 2,.v 0 2,.v 0 2,.v 0 2,.v 0 2] (ai (bU 0 2 103 (E0 hK h101)) (ay [.v 0 2,.v 0 2,.v 0 2,.v 0 2,.v 0 2,.v 0 2,.v 0 2] (ai (bU 0 1 111 (Eu hK h102)) (ay [.v 0 2] (bI (er aB ([(⟨3,v83.Node,v78,(aa (v8-v85)),(aa (v83.Width+v83.Space)),v86,0,v83.Text,v83.Style,bX,bX,false,[]⟩:ab)]:List ab) (new:=[aC (⟨3,v83.Node,v78,(aa (v8-v85)),(aa (v83.Width+v83.Space)),v86,0,v83.Text,v83.Style,bX,bX,false,[]⟩:ab)]) (by simp only[List.map_cons,List.map_nil,cH])) (ai (gF (m:=0) (cp 114 114 59 67 aB (rfl) (dF) h103)) (ay [.v 1 1] (ai (bS 1) bO))))))))) (ae 0 (Fq hK hL2 h))
 ·exact ag 88 h100 (ae 2 (Fq hK hL2 h))
theorem DT(hK:am K)(hL2:oE M w0 r v1 v2 v3 v8 v9 v15 m2 L2)(h:mh K n v1 v2 v3 v8 v9 v15 v78 v79 v80 L2 v82=some r):o8 M w0 r (dA 260709::dA 130355 :: .b 3::dA 16295::sD M w0 r m2) (QC v1 v2 v3 v8 v9 v15 v78 v79 v80 v82):=by
 unfold mh at h;obtain⟨h97,h⟩|⟨h97,h⟩:=ak h
 ·refine ag 76 h97 (aw 4 5 2 (aj 6 ?_));obtain⟨h98,h⟩:=aL h;exact az (uQ h98) (ac (ae 1 (LA hK hL2 h)))
 ·exact ag 76 h97 (ae 2 (LA hK hL2 h))
theorem MC(hK:am K)(hL2:oE M w0 r v1 v2 v3 v8 v9 v15 m2 L2)(h:qy K n v1 v2 v3 v8 v9 v15 L2 v78 v79 v80=some r):o8 M w0 r (dA 2036::sD M w0 r m2) (Lu v1 v2 v3 v8 v9 v15 v78 v79 v80):=by
 unfold qy at h;refine aw 6 7 3 ?_;obtain⟨h92,h⟩|⟨h92,h⟩:=ak h
 ·refine ag 59 h92 (cE 8 9 3 3 5 (aj 1 ?_));obtain⟨h93,h⟩:=aL h;refine az (bN bg bg h93 (jx) ((fun _=>rfl))) (ac (bK 4 5 3 2 (aj 4 ?_)));obtain⟨h94,h⟩|⟨h94,h⟩:=ak h
  ·refine av 66 h94 (aJ 6 2 ?_);obtain⟨v81,h95,h⟩:=bind_some h;refine aD (R1 hK h95) (aJ 9 2 ?_);obtain⟨h96,h⟩|⟨h96,h⟩:=ak h
   ·exact av 71 h96 (ac (ae 0 (DT hK hL2 h)))
   ·exact av 71 h96 (ac (ae 0 (DT hK hL2 h)))
  ·exact av 66 h94 (ac (ae 0 (DT hK hL2 h)))
 ·refine ag 59 h92 (aG 8 ?_);cases h;exact d9
theorem TO(hK:am K)(m:Nat):oE M w0 r v1 v2 v3 v8 v9 v15 m (j9 K n v1 v2 v3 v8 v9 v15 m):=by
 induction m with
 | zero=>intro v78 v79 v80 h;cases h
 | succ m ih=>intro v78 v79 v80 h;have h:qy K n v1 v2 v3 v8 v9 v15 (j9 K n v1 v2 v3 v8 v9 v15 m) v78 v79 v80=some r:=h;exact bp (MC hK ih h)
theorem Po(hK:am K)(hL1:BV M w0 r v1 v2 v3 m1 L1)(h:rS K n v1 v2 v3 L1 v8 v9 v10=some r):o8 M w0 r (dA 116::Ep M w0 r m1) (KF v1 v2 v3 v8 v9 v10):=by
 unfold rS at h;refine aw 6 7 3 ?_;obtain⟨h6,h⟩|⟨h6,h⟩:=ak h
 ·refine ag 27 h6 (cE 8 9 1 3 5 (aj 0 ?_));obtain⟨h7,h⟩:=aL h;refine az (bN bg bg h7 (jx) ((fun _=>rfl))) (ac (bh 3 2 ?_));obtain⟨h8,h⟩|⟨h8,h⟩:=ak h
  ·exact ag 32 h8 (bh 2 1 (bF [0,2,4,6,7,8,10,24,25,26] [4,6,10] [] (bP 2 (nu 33 [iI v8,.ptr 10 57,iI ((gD v1 v10).Above),iI (max v8 ((gD v1 v10).Above)),iI v9,.ptr 10 58,iI ((gD v1 v10).Below),iI (max v9 ((gD v1 v10).Below))]) [] [] [bR Tryz.prog 156 Tryz.f38 (pn 14950) 8,bR Tryz.prog 156 Tryz.f38 (pn 14950) 9] (ay [.v 0 1,.v 0 1,.v 0 1,.v 0 1,.v 0 2,.v 0 2,.v 0 2,.v 0 2] (ai (bS 0) (ai (bS 1) bO))) (ae 0 (E3 hK hL1 h)))))
  ·exact ag 32 h8 (ae 2 (E3 hK hL1 h))
 ·refine ag 27 h6 (lH 6 7 8 (bF [0,2,4,6,7,11] [4,6,11] [] ?_));obtain⟨v13,h9,h⟩:=bind_some h;obtain⟨v14,h10,h⟩:=bind_some h;refine bP 1 (nu 49 [.agg (aI v2),iI v3,.sl (lm bg v1),iI v13,iI v14]) [] [] [bR Tryz.prog 156 Tryz.f38 (pn 62) 5] (ay (vz 3) (ai (bU 0 1 52 (LC hK h9)) (ai (bU 0 1 53 (RM hK h10)) (ai (bS 0) bO)))) (aw 2 3 1 (aj 1 ?_));obtain⟨v15,h11,h⟩:=bind_some h;exact aD (KH hK h11) (ac (bK 4 5 3 2 (aj 1 (az (bv bg v1) (ac (jb 2 2 1 (bF [6,7,11,12,13,56,57,58] [6,11] [] (vo 114 11 66 59 67 (ae 0 (cd (p:=pn 1018) n (TO hK n h)))))))))))
theorem TS(hK:am K)(m:Nat):BV M w0 r v1 v2 v3 m (rD K n v1 v2 v3 m):=by
 induction m with
 | zero=>intro v8 v9 v10 h;cases h
 | succ m ih=>intro v8 v9 v10 h;have h:rS K n v1 v2 v3 (rD K n v1 v2 v3 m) v8 v9 v10=some r:=h;exact bp (Po hK ih h)
theorem W4(hK:am K)(h:vE K n v1 v2 v3=some r):aN Tryz.prog 38 [.sl (lm bg v1),.agg (aI v2),iI v3] (fun v s=>v=.agg (List.set (aC ({ r with Kids:=[] }:ab)) 66 (.ref 114))∧look 114 s.r=some ⟨59,67,lm aB r.Kids⟩):=by
 refine bc (cat Tryz.f38 (pn 1)) Tryz.func38 Tryz.ntmps38 fun M w0=>(aZ ⟨[(0,.sl (lm bg v1)),(1,.agg (aI v2)),(2,iI v3)],[],[],[]⟩ ?_);unfold vE at h;refine aw 6 7 3 (aj 1 ?_);obtain⟨v4,h1,h⟩:=bind_some h;exact aD (xe hK h1) (ac (bK 4 5 3 2 (aj 1 (az (bv bg v1) (ac (ae 1 (cd (p:=pn 58) n (TS hK n h))))))))
end
noncomputable section
variable(M:Nat→Prop)(w0:aE)(r:(List ab)×Int)(v1:List ah)(v2:aF)(v3:Int)(v4:cD)(v5:List aH)(v6:List Int)(v13 v14 v15:Int)(v16:List ab)(m1:Nat)(L1:Int→Int→Int→(List ab)→Option ((List ab)×Int))
abbrev zE:Cx:=⟨Tryz.prog,61,M,w0⟩
abbrev BC:=bodyPost Tryz.prog Tryz.f14 (bq M w0 (fun v s=>v=.tup [.ref 57,iI r.2]∧look 57 s.r=some ⟨59,67,lm aB r.1⟩))
abbrev Rb(ks:List ao)(s:AS):=VE (zE M w0) (BC M w0 r) ks .normal s
abbrev KB(n:Nat):ao:=.c (cat Tryz.f14 (pn n))
abbrev DF:List ao:=[.b 0,KB 63]
abbrev Ob:List ao:=kl (zE M w0) (BC M w0 r) DF (cat Tryz.f14 (pn 500)) m1::DF
def EC:AS:=⟨[(2,iI (min (max v3 0) 1048576)),(5,.ptr 5 0),(8,.ref 57),(9,iI v13),(10,.sl (lm bg v5)),(11,.ref 1023),(30,iI v14),(31,iI v15)],[(5,aI v2)],[(57,⟨59,67,lm aB v16⟩),(1023,⟨3,1,lm (br .i64) (v6++[(v5.length:Int)])⟩)],[5,57,1023]⟩
abbrev Gu:Prop:=∀{v13:Int} {v14:Int} {v15:Int} {v16:(List ab)},L1 v13 v14 v15 v16=some r→LP (zE M w0) (BC M w0 r) DF (cat Tryz.f14 (pn 500)) m1 (EC v2 v3 v5 v6 v13 v14 v15 v16)
variable{M w0 r v1 v2 v3 v4 v5 v6 v13 v14 v15 v16 m1 L1}{K:Kn}{n:Nat}
theorem VR(hK:am K)(hL1:Gu M w0 r v2 v3 v5 v6 m1 L1)(h:pQ K n v2 v3 v5 v6 L1 v13 v14 v15 v16=some r):Rb M w0 r (KB 500::Ob M w0 r m1) (EC v2 v3 v5 v6 v13 v14 v15 v16):=by
 unfold pQ at h;refine aw 6 7 3 ?_;obtain⟨h20,h⟩|⟨h20,h⟩:=ak h
 ·refine ag 32 h20 (cE 18 19 1 3 7 (bF [2,5,8,9,10,11,12,30,31] [5] [57,1023] ?_));obtain⟨h21,h⟩:=aL h;obtain⟨h22,h⟩:=aL h;obtain⟨h23,h⟩:=aL h;obtain⟨v17,h24,h⟩:=bind_some h;refine bP 1 (nu 34 [.sl (lm bg v5),.ref 1023,iI v15,.eptr 1023 1 (v15.toNat) 0,iI (gD (v6++[(v5.length:Int)]) v15),.ref 1023,iI v15,iI (aa (v15+1)),.eptr 1023 1 (((aa (v15+1))).toNat) 0,iI (gD (v6++[(v5.length:Int)]) ((aa (v15+1)))),.sl (lm bg (List.drop ((gD (v6++[(v5.length:Int)]) v15)).toNat (List.take ((gD (v6++[(v5.length:Int)]) ((aa (v15+1))))).toNat v5))),.agg (aI v2),iI (min (max v3 0) 1048576),.agg (List.set (aC ({ v17 with Kids:=[] }:ab)) 66 (.ref 47))]++nu 13 [.ptr 13 0]) [(13,List.set (aC bb) 66 (.nils))] [(47,⟨59,67,lm aB v17.Kids⟩)] [bR Tryz.prog 61 Tryz.f14 (pn 32050) 15] (ay (vz 3) (bI (dg 1023 1 (br .i64) (L:=(v6++[(v5.length:Int)])) h21) (bI (co 3 0 (br .i64) (br .i64) (ci h21).2 ((fun _=>rfl))) (ay (vz 3) (bI (dg 1023 1 (br .i64) (L:=(v6++[(v5.length:Int)])) h22) (bI (co 3 0 (br .i64) (br .i64) (ci h22).2 ((fun _=>rfl))) (bI (uL bg v5 (gD (v6++[(v5.length:Int)]) v15) (gD (v6++[(v5.length:Int)]) ((aa (v15+1)))) 25 (.tmp 34) (some (.tmp 38)) (some (.tmp 43)) 44 (e:=46) (sz:=62) (by kernel_rfl) (by kernel_rfl) (by kernel_rfl) (by kernel_rfl) (by kernel_rfl) (by kernel_rfl) (jx) (fun k hk=>by subst hk;kernel_rfl) h23) (ay (vz 2) (ai (yJ 0 1 47 (W4 hK h24) (mT (i:=66) (by kernel_rfl))) (ai (m5 0 1 59 13 (List.set (aC bb) 66 (.nils))) (ai (bS 0) bO))))))))))) (bh 7 4 (aj 2 (iP 47 (az (er aB ([({ v17 with Y:=v13 }:ab)]:List ab) (new:=[aC ({ v17 with Y:=v13 }:ab)]) (by simp only[List.map_cons,List.map_nil,cH])) ?_))))
  obtain⟨h25,h⟩:=aL h;exact az (cp 57 57 59 67 aB (rfl) (dF) h25) (ac (ae 2 (bt (hL1 h))))
 ·refine ag 32 h20 (aG 8 ?_);cases h;exact sN
theorem X1(hK:am K)(m:Nat):Gu M w0 r v2 v3 v5 v6 m (rm K n v2 v3 v5 v6 m):=by
 induction m with
 | zero=>intro v13 v14 v15 v16 h;cases h
 | succ m ih=>intro v13 v14 v15 v16 h;have h:pQ K n v2 v3 v5 v6 (rm K n v2 v3 v5 v6 m) v13 v14 v15 v16=some r:=h;exact bp (VR hK ih h)
theorem F8(hK:am K)(h:oa K n v1 v2 v3 v4=some r):aN Tryz.prog 14 [.sl (lm aP v1),.agg (aI v2),iI v3,.agg (cW v4)] (fun v s=>v=.tup [.ref 57,iI r.2]∧look 57 s.r=some ⟨59,67,lm aB r.1⟩):=by
 refine bc (cat Tryz.f14 (pn 1)) Tryz.func14 Tryz.ntmps14 fun M w0=>(aZ ⟨[(0,.sl (lm aP v1)),(1,.agg (aI v2)),(2,iI v3),(3,.agg (cW v4))],[],[],[]⟩ ?_);unfold oa at h;refine aw 14 15 5 (aj 3 ?_);obtain⟨v5,h1,h⟩:=bind_some h;refine dm 1020 (Pc hK h1) (fH 1009) (ac (aw 2 3 1 (aj 2 (iP 1020 ?_))));obtain⟨v6,h2,h⟩:=bind_some h;refine dm 1023 (ZT hK h2) (fH 16) (aJ 4 1 (az (bv bg v5) (aJ 6 1 ?_)));obtain⟨h3,h⟩:=aL h;exact az (cp 27 1023 3 1 (br .i64) (rfl) ((fun _=>rfl)) h3) (ac (bK 4 5 3 2 (aj 1 (az (bv (br .i64) (v6++[(v5.length:Int)])) (ac (jb 2 0 1 (bF [2,5,8,9,10,11,30,31] [5] [1023] (eX 57 8 59 67 (ae 0 (cd (p:=pn 250) n (X1 hK n h)))))))))))
end
noncomputable section
variable(M:Nat→Prop)(w0:aE)(r v4:Bool)  
abbrev P3(n:Nat):ao:=.c (cat Tryz.f6 (pn n))
abbrev PG:Cx:=⟨Tryz.prog,64,M,w0⟩
abbrev q6:=bodyPost Tryz.prog Tryz.f6 (bq M w0 (fun v _=>v=.bool r))
abbrev Oi(ks:List ao)(s:AS):=VE (PG M w0) (q6 M w0 r) ks .normal s
def Rm:AS:=⟨[(0,.bool v4)],[],[],[]⟩
variable{M w0 r v4}{K:Kn}{n:Nat}
theorem nE(hK:am K)(h:jS K n v4=some r):Oi M w0 r [P3 63] (Rm v4):=by
 unfold jS at h;refine aG 1 ?_;cases h;exact aV
theorem U6(hK:am K)(h:vg K n=some r):aN Tryz.prog 6 [] (fun v _=>v=.bool r):=by
 refine bc (cat Tryz.f6 (pn 1)) Tryz.func6 Tryz.ntmps6 fun M w0=>(aZ ⟨[],[],[],[]⟩ ?_);unfold vg at h;refine aw 14 15 5 (aj 1 ?_);obtain⟨v1,h1,h⟩:=bind_some h;refine aD (xe hK h1) (ac (aw 2 3 1 (bF [1,2,3] [1] [] ?_)));obtain⟨v2,h2,h⟩:=bind_some h;obtain⟨v3,h3,h⟩:=bind_some h;refine bP 2 (nu 13 [.agg (aI ({ cj with FontSize:=16,LineHeight:=30 }:aF)),.agg (List.set (aX ({ fT with Kind:=3,Style:=({ cj with FontSize:=16,LineHeight:=30 }:aF),Text:=⟨#[97,98,32,32,99,100]⟩ }:ah)) 58 (.nils)),.sl (lm aP [({ fT with Kind:=3,Style:=({ cj with FontSize:=16,LineHeight:=30 }:aF),Text:=⟨#[97,98,32,32,99,100]⟩ }:ah)]),.agg (aI ({ cj with FontSize:=16,LineHeight:=30 }:aF)),.agg (cW v2),.tup [.ref 18,iI v3.2]]++nu 12 [.tup [.ref 18,iI v3.2]]++nu 19 [.ref 18,iI v3.2]) [] [(18,⟨59,67,lm aB v3.1⟩)] [bR Tryz.prog 64 Tryz.f6 (pn 30) 9,bR Tryz.prog 64 Tryz.f6 (pn 30) 10] (ay (vz 2) (bI (er aP ([({ fT with Kind:=3,Style:=({ cj with FontSize:=16,LineHeight:=30 }:aF),Text:=⟨#[97,98,32,32,99,100]⟩ }:ah)]:List ah) (new:=[aX ({ fT with Kind:=3,Style:=({ cj with FontSize:=16,LineHeight:=30 }:aF),Text:=⟨#[97,98,32,32,99,100]⟩ }:ah)]) (by simp only[List.map_cons,List.map_nil,dC])) (ay [.v 0 1] (ai (bU 0 1 17 (yN hK h2)) (ai (yJ 0 1 18 (F8 hK h3) (nZ (i:=0) rfl)) (ay [.v 0 1,.v 0 1,.v 0 2] (ai (bS 0) (ai (bS 1) bO)))))))) (aw 2 3 1 (aj 3 ?_))
 obtain⟨h4,h⟩|⟨h4,h⟩:=ak h
 ·refine av 23 h4 (aJ 7 4 ?_);obtain⟨h5,h⟩|⟨h5,h⟩:=ak h
  ·refine av 27 h5 (aJ 8 1 (az (bv aB v3.1) (aJ 12 3 ?_)));obtain⟨h6,h⟩|⟨h6,h⟩:=ak h
   ·refine av 32 h6 (aJ 16 4 ?_);obtain⟨h7,h⟩|⟨h7,h⟩:=ak h
    ·refine av 36 h7 (aJ 17 1 ?_);obtain⟨h8,h⟩:=aL h;refine az (dh 18 67 aB h8) (aJ 19 1 (az (co 44 66 aB aC (ci h8).2 (cH)) (az (bv aB ((gD v3.1 (0:Int)).Kids)) (aJ 24 3 ?_))));obtain⟨h9,h⟩|⟨h9,h⟩:=ak h
     ·refine av 44 h9 (aJ 25 1 ?_);obtain⟨h10,h⟩:=aL h;refine az (dh 18 67 aB h10) (aJ 27 1 (az (co 44 66 aB aC (ci h10).2 (cH)) ?_));obtain⟨h11,h⟩:=aL h;refine az (bN aB aC h11 (dF) (cH)) (aJ 34 5 ?_);obtain⟨h12,h⟩|⟨h12,h⟩:=ak h
      ·refine av 54 h12 (aJ 35 1 ?_);obtain⟨h13,h⟩:=aL h;refine az (dh 18 67 aB h13) (aJ 37 1 (az (co 44 66 aB aC (ci h13).2 (cH)) ?_));obtain⟨h14,h⟩:=aL h;exact az (bN aB aC h14 (dF) (cH)) (ac (ae 0 (nE hK h)))
      ·exact av 54 h12 (ac (ae 0 (nE hK h)))
     ·exact av 44 h9 (ac (ae 0 (nE hK h)))
    ·exact av 36 h7 (ac (ae 0 (nE hK h)))
   ·exact av 32 h6 (ac (ae 0 (nE hK h)))
  ·exact av 27 h5 (ac (ae 0 (nE hK h)))
 ·exact av 23 h4 (ac (ae 0 (nE hK h)))
end
noncomputable section
variable(M:Nat→Prop)(w0:aE)(r:Bool)(v1:cu)(v2:Bool)  
abbrev O8(n:Nat):ao:=.c (cat Tryz.f51 (pn n))
abbrev NE:Cx:=⟨Tryz.prog,11,M,w0⟩
abbrev Xj:=bodyPost Tryz.prog Tryz.f51 (bq M w0 (fun v _=>v=.bool r))
abbrev Wn(ks:List ao)(s:AS):=VE (NE M w0) (Xj M w0 r) ks .normal s
def aax:AS:=⟨[(2,.bool v2)],[],[],[]⟩
variable{M w0 r v1 v2}{K:Kn}{n:Nat}
theorem La(hK:am K)(h:tu K n v2=some r):Wn M w0 r [O8 7] (aax v2):=by
 unfold tu at h;refine aG 1 ?_;cases h;exact aV
theorem fM(hK:am K)(h:eA K n v1=some r):aN Tryz.prog 51 [.agg (gC v1)] (fun v _=>v=.bool r):=by
 refine bc (cat Tryz.f51 (pn 1)) Tryz.func51 Tryz.ntmps51 fun M w0=>(aZ ⟨[(0,.agg (gC v1))],[],[],[]⟩ ?_);unfold eA at h;refine aw 6 7 3 (aj 4 ?_);obtain⟨h1,h⟩|⟨h1,h⟩:=ak h
 ·exact av 6 h1 (ac (ae 0 (La hK h)))
 ·exact av 6 h1 (ac (ae 0 (La hK h)))
end
noncomputable section
variable(M:Nat→Prop)(w0:aE)(r:Bool)(v1:List cc)(v2 v23:Int)(v31 v34 v37 v40 v43:Bool)(m1:Nat)(L1:Int→Option Bool)
abbrev xR:Cx:=⟨Tryz.prog,130,M,w0⟩
abbrev xg:=bodyPost Tryz.prog Tryz.f21 (bq M w0 (fun v _=>v=.bool r))
abbrev rr(ks:List ao)(s:AS):=VE (xR M w0) (xg M w0 r) ks .normal s
abbrev dZ(n:Nat):ao:=.c (cat Tryz.f21 (pn n))
abbrev zK:List ao:=[.b 0,dZ 7]
abbrev uH:List ao:=kl (xR M w0) (xg M w0 r) zK (cat Tryz.f21 (pn 52)) m1::zK
def T3:AS:=⟨[(0,.sl (lm ce v1)),(1,iI v2),(5,iI v23),(6,.ptr 6 0),(7,iI 3),(125,.bool v43)],[(6,aI ((gD v1 v23).Style))],[],[6]⟩
def QZ:AS:=⟨[(0,.sl (lm ce v1)),(1,iI v2),(5,iI v23),(6,.ptr 6 0),(7,iI 2),(125,.bool v40)],[(6,aI ((gD v1 v23).Style))],[],[6]⟩
def Rt:AS:=⟨[(0,.sl (lm ce v1)),(1,iI v2),(5,iI v23),(6,.ptr 6 0),(7,iI 1),(125,.bool v37)],[(6,aI ((gD v1 v23).Style))],[],[6]⟩
def UG:AS:=⟨[(0,.sl (lm ce v1)),(1,iI v2),(5,iI v23),(6,.ptr 6 0),(7,iI 0),(125,.bool v34)],[(6,aI ((gD v1 v23).Style))],[],[6]⟩
def Qq:AS:=⟨[(0,.sl (lm ce v1)),(1,iI v2),(5,iI v23),(6,.ptr 6 0),(107,.bool v31)],[(6,aI ((gD v1 v23).Style))],[],[6]⟩
def Jz:AS:=⟨[(0,.sl (lm ce v1)),(1,iI v2),(5,iI v23)],[],[],[]⟩
abbrev px:Prop:=∀{v23:Int},L1 v23=some r→LP (xR M w0) (xg M w0 r) zK (cat Tryz.f21 (pn 52)) m1 (Jz v1 v2 v23)
abbrev kC(m:Nat):List ao:=kl (xR M w0) (xg M w0 r) (.b 2 :: .b 1::dZ 211::uH M w0 r m1) (cat Tryz.f21 (pn 13468)) m::(.b 2 :: .b 1::dZ 211::uH M w0 r m1)
variable{M w0 r v1 v2 v23 v31 v34 v37 v40 v43 m1 L1}{K:Kn}{n:Nat}
theorem KE(hK:am K)(hL1:px M w0 r v1 v2 m1 L1)(h:rj K n v1 v2 v23 L1 v43=some r):rr M w0 r (dZ 215497 :: .b 3::dZ 53875::kC M w0 r m1 36) (T3 v1 v2 v23 v43):=by
 unfold rj at h;obtain⟨h84,h⟩|⟨h84,h⟩:=ak h
 ·refine ag 125 h84 (aG 13 ?_);cases h;exact aV
 ·exact ag 125 h84 (bw (ks':=kC M w0 r m1 36) 4 ⟨[(0,.sl (lm ce v1)),(1,iI v2),(5,iI v23),(6,.ptr 6 0),(7,iI 4)],[(6,aI ((gD v1 v23).Style))],[],[6]⟩ (bt (bp (ae 10 (bt (hL1 h))))))
theorem Fy(hK:am K)(hL1:px M w0 r v1 v2 m1 L1)(h:vk K n v1 v2 v23 L1 v40=some r):rr M w0 r (dZ 215497 :: .b 3::dZ 53875::kC M w0 r m1 37) (QZ v1 v2 v23 v40):=by
 unfold vk at h;obtain⟨h80,h⟩|⟨h80,h⟩:=ak h
 ·refine ag 125 h80 (aG 13 ?_);cases h;exact aV
 ·refine ag 125 h80 (bw (ks':=kC M w0 r m1 37) 4 ⟨[(0,.sl (lm ce v1)),(1,iI v2),(5,iI v23),(6,.ptr 6 0),(7,iI 3)],[(6,aI ((gD v1 v23).Style))],[],[6]⟩ (bt (bp (c9 24 25 3 7 8 (aj 4 ?_)))));obtain⟨v41,h81,h⟩:=bind_some h;refine aD (fM hK h81) (aJ 7 2 ?_);obtain⟨h82,h⟩|⟨h82,h⟩:=ak h
  ·exact av 118 h82 (ac (ae 0 (KE hK hL1 h)))
  ·refine av 118 h82 (aJ 11 4 ?_);obtain⟨v42,h83,h⟩:=bind_some h;exact aD (fM hK h83) (ac (ae 0 (KE hK hL1 h)))
theorem IL(hK:am K)(hL1:px M w0 r v1 v2 m1 L1)(h:vX K n v1 v2 v23 L1 v37=some r):rr M w0 r (dZ 215497 :: .b 3::dZ 53875::kC M w0 r m1 38) (Rt v1 v2 v23 v37):=by
 unfold vX at h;obtain⟨h76,h⟩|⟨h76,h⟩:=ak h
 ·refine ag 125 h76 (aG 13 ?_);cases h;exact aV
 ·refine ag 125 h76 (bw (ks':=kC M w0 r m1 38) 4 ⟨[(0,.sl (lm ce v1)),(1,iI v2),(5,iI v23),(6,.ptr 6 0),(7,iI 2)],[(6,aI ((gD v1 v23).Style))],[],[6]⟩ (bt (bp (c9 24 25 3 7 8 (aj 4 ?_)))));obtain⟨v38,h77,h⟩:=bind_some h;refine aD (fM hK h77) (aJ 7 2 ?_);obtain⟨h78,h⟩|⟨h78,h⟩:=ak h
  ·exact av 118 h78 (ac (ae 0 (Fy hK hL1 h)))
  ·refine av 118 h78 (aJ 11 4 ?_);obtain⟨v39,h79,h⟩:=bind_some h;exact aD (fM hK h79) (ac (ae 0 (Fy hK hL1 h)))
theorem Lw(hK:am K)(hL1:px M w0 r v1 v2 m1 L1)(h:ue K n v1 v2 v23 L1 v34=some r):rr M w0 r (dZ 215497 :: .b 3::dZ 53875::kC M w0 r m1 39) (UG v1 v2 v23 v34):=by
 unfold ue at h;obtain⟨h72,h⟩|⟨h72,h⟩:=ak h
 ·refine ag 125 h72 (aG 13 ?_);cases h;exact aV
 ·refine ag 125 h72 (bw (ks':=kC M w0 r m1 39) 4 ⟨[(0,.sl (lm ce v1)),(1,iI v2),(5,iI v23),(6,.ptr 6 0),(7,iI 1)],[(6,aI ((gD v1 v23).Style))],[],[6]⟩ (bt (bp (c9 24 25 3 7 8 (aj 4 ?_)))));obtain⟨v35,h73,h⟩:=bind_some h;refine aD (fM hK h73) (aJ 7 2 ?_);obtain⟨h74,h⟩|⟨h74,h⟩:=ak h
  ·exact av 118 h74 (ac (ae 0 (IL hK hL1 h)))
  ·refine av 118 h74 (aJ 11 4 ?_);obtain⟨v36,h75,h⟩:=bind_some h;exact aD (fM hK h75) (ac (ae 0 (IL hK hL1 h)))
theorem fc(hK:am K)(hL1:px M w0 r v1 v2 m1 L1)(h:dI K n v1 v2 v23 L1 v31=some r):rr M w0 r (dZ 3365::dZ 1683 :: .b 1::dZ 211::uH M w0 r m1) (Qq v1 v2 v23 v31):=by
 unfold dI at h;obtain⟨h68,h⟩|⟨h68,h⟩:=ak h
 ·refine ag 107 h68 (aG 10 ?_);cases h;exact aV
 ·refine ag 107 h68 (bw (ks':=dZ 6734 :: .b 2 :: .b 1::dZ 211::uH M w0 r m1) 5 ⟨[(0,.sl (lm ce v1)),(1,iI v2),(5,iI v23),(6,.ptr 6 0),(7,iI 0)],[(6,aI ((gD v1 v23).Style))],[],[6]⟩ (o6 40 (c:=cat Tryz.f21 [1,0,1,0,0,1,0,0,1,1,1,0,0]) (by kernel_rfl) (bp (cz (ks':=dZ 215496::dZ 215497 :: .b 3::dZ 53875::kC M w0 r m1 39) 8 (aj 4 ?_)))));obtain⟨v32,h69,h⟩:=bind_some h;refine aD (fM hK h69) (aJ 7 2 ?_);obtain⟨h70,h⟩|⟨h70,h⟩:=ak h
  ·exact av 118 h70 (ac (ae 0 (Lw hK hL1 h)))
  ·refine av 118 h70 (aJ 11 4 ?_);obtain⟨v33,h71,h⟩:=bind_some h;exact aD (fM hK h71) (ac (ae 0 (Lw hK hL1 h)))
theorem M2(hK:am K)(hL1:px M w0 r v1 v2 m1 L1)(h:kH K n v1 v2 L1 v23=some r):rr M w0 r (dZ 52::uH M w0 r m1) (Jz v1 v2 v23):=by
 unfold kH at h;refine bK 4 5 3 2 (aj 2 (az (bv ce v1) (ac ?_)));obtain⟨h43,h⟩|⟨h43,h⟩:=ak h
 ·refine ag 11 h43 (cE 8 9 1 3 5 (aj 2 ?_));obtain⟨h44,h⟩:=aL h;refine az (bN ce ce h44 (uN) ((fun _=>rfl))) (ac (bK 4 5 3 2 (aj 2 ?_)));obtain⟨h45,h⟩:=aL h;refine az (bN ce ce h45 (uN) ((fun _=>rfl))) (aJ 8 5 ?_);obtain⟨h46,h⟩|⟨h46,h⟩:=ak h
  ·exact av 26 h46 (ac (ae 0 (fc hK hL1 h)))
  ·refine av 26 h46 (aJ 10 2 ?_);obtain⟨v24,h47,h⟩:=bind_some h;refine aD (fM hK h47) (aJ 14 3 ?_);obtain⟨h48,h⟩|⟨h48,h⟩:=ak h
   ·exact av 32 h48 (ac (ae 0 (fc hK hL1 h)))
   ·refine av 32 h48 (aJ 16 2 ?_);obtain⟨v25,h49,h⟩:=bind_some h;refine aD (fM hK h49) (aJ 20 3 ?_);obtain⟨h50,h⟩|⟨h50,h⟩:=ak h
    ·exact av 38 h50 (ac (ae 0 (fc hK hL1 h)))
    ·refine av 38 h50 (aJ 22 2 ?_);obtain⟨v26,h51,h⟩:=bind_some h;refine aD (fM hK h51) (aJ 26 3 ?_);obtain⟨h52,h⟩|⟨h52,h⟩:=ak h
     ·exact av 44 h52 (ac (ae 0 (fc hK hL1 h)))
     ·refine av 44 h52 (aJ 28 2 ?_);obtain⟨v27,h53,h⟩:=bind_some h;refine aD (fM hK h53) (aJ 32 3 ?_);obtain⟨h54,h⟩|⟨h54,h⟩:=ak h
      ·exact av 50 h54 (ac (ae 0 (fc hK hL1 h)))
      ·refine av 50 h54 (aJ 34 2 ?_);obtain⟨v28,h55,h⟩:=bind_some h;refine aD (fM hK h55) (aJ 38 3 ?_);obtain⟨h56,h⟩|⟨h56,h⟩:=ak h
       ·exact av 56 h56 (ac (ae 0 (fc hK hL1 h)))
       ·refine av 56 h56 (aJ 40 2 ?_);obtain⟨v29,h57,h⟩:=bind_some h;refine aD (fM hK h57) (aJ 44 3 ?_);obtain⟨h58,h⟩|⟨h58,h⟩:=ak h
        ·exact av 62 h58 (ac (ae 0 (fc hK hL1 h)))
        ·refine av 62 h58 (aJ 46 2 ?_);obtain⟨v30,h59,h⟩:=bind_some h;refine aD (fM hK h59) (aJ 50 3 ?_);obtain⟨h60,h⟩|⟨h60,h⟩:=ak h
         ·exact av 68 h60 (ac (ae 0 (fc hK hL1 h)))
         ·refine av 68 h60 (aJ 55 5 ?_);obtain⟨h61,h⟩|⟨h61,h⟩:=ak h
          ·exact av 73 h61 (ac (ae 0 (fc hK hL1 h)))
          ·refine av 73 h61 (aJ 60 5 ?_);obtain⟨h62,h⟩|⟨h62,h⟩:=ak h
           ·exact av 78 h62 (ac (ae 0 (fc hK hL1 h)))
           ·refine av 78 h62 (aJ 65 5 ?_);obtain⟨h63,h⟩|⟨h63,h⟩:=ak h
            ·exact av 83 h63 (ac (ae 0 (fc hK hL1 h)))
            ·refine av 83 h63 (aJ 70 5 ?_);obtain⟨h64,h⟩|⟨h64,h⟩:=ak h
             ·exact av 88 h64 (ac (ae 0 (fc hK hL1 h)))
             ·refine av 88 h64 (aJ 75 5 ?_);obtain⟨h65,h⟩|⟨h65,h⟩:=ak h
              ·exact av 93 h65 (ac (ae 0 (fc hK hL1 h)))
              ·refine av 93 h65 (aJ 80 5 ?_);obtain⟨h66,h⟩|⟨h66,h⟩:=ak h
               ·exact av 98 h66 (ac (ae 0 (fc hK hL1 h)))
               ·refine av 98 h66 (aJ 85 5 ?_);obtain⟨h67,h⟩|⟨h67,h⟩:=ak h
                ·exact av 103 h67 (ac (ae 0 (fc hK hL1 h)))
                ·exact av 103 h67 (ac (ae 0 (fc hK hL1 h)))
 ·refine ag 11 h43 (lH 2 3 6 (aj 1 (az (bv ce v1) (ac (aG 1 ?_)))));cases h;exact aV
theorem QP(hK:am K)(m:Nat):px M w0 r v1 v2 m (pe K n v1 v2 m):=by
 induction m with
 | zero=>intro v23 h;cases h
 | succ m ih=>intro v23 h;have h:kH K n v1 v2 (pe K n v1 v2 m) v23=some r:=h;exact bp (M2 hK ih h)
theorem RA(hK:am K)(h:yF K n v1 v2=some r):aN Tryz.prog 21 [.sl (lm ce v1),iI v2] (fun v _=>v=.bool r):=by
 refine bc (cat Tryz.f21 (pn 1)) Tryz.func21 Tryz.ntmps21 fun M w0=>(aZ ⟨[(0,.sl (lm ce v1)),(1,iI v2)],[],[],[]⟩ ?_);unfold yF at h;exact ae 6 (cd (p:=pn 26) n (QP hK n h))
end
noncomputable section
variable(M:Nat→Prop)(w0:aE)(r:Bool)(v1:List cc)  
abbrev q7:=bodyPost Tryz.prog Tryz.f7 (bq M w0 (fun v _=>v=.bool r))
variable{M w0 r v1}{K:Kn}{n:Nat}
theorem aab(hK:am K)(h:yI K n v1=some r):aN Tryz.prog 7 [.sl (lm ce v1)] (fun v _=>v=.bool r):=by
 refine bc (cat Tryz.f7 (pn 1)) Tryz.func7 Tryz.ntmps7 fun M w0=>(aZ ⟨[(0,.sl (lm ce v1))],[],[],[]⟩ ?_);unfold yI at h;refine aw 6 7 3 (aj 1 ?_);obtain⟨v2,h1,h⟩:=bind_some h;refine aD (RA hK h1) (ac (aG 1 ?_));cases h;exact aV
end
noncomputable section
variable(M:Nat→Prop)(w0:aE)(r:(List ah)×Int)(v1:List cc)(v2 v3 v20:Int)(v21:List ah)(v22:Bool)(v26 v27:Int)(v28:ByteArray)(v29:List ah)(m1:Nat)(L1:Int→(List ah)→Option ((List ah)×Int))
abbrev AN:Cx:=⟨Tryz.prog,84,M,w0⟩
abbrev D6:=bodyPost Tryz.prog Tryz.f30 (bq M w0 (fun v s=>v=.tup [.ref 81,iI r.2]∧look 81 s.r=some ⟨52,59,lm aP r.1⟩))
abbrev B9(ks:List ao)(s:AS):=VE (AN M w0) (D6 M w0 r) ks .normal s
abbrev gR(n:Nat):ao:=.c (cat Tryz.f30 (pn n))
abbrev Cq:List ao:=[.b 0,gR 15]
abbrev m6:List ao:=kl (AN M w0) (D6 M w0 r) Cq (cat Tryz.f30 (pn 56)) m1::Cq
def ZI:AS:=⟨[(0,.sl (lm ce v1)),(1,iI v26),(2,.int .u8 v3),(8,.ref 81),(10,.ptr 10 0)],[(10,aX (⟨v27,(aa (10+v20)),(gD v1 v20).Style,v28,0,0,v29⟩:ah))],[(81,⟨52,59,lm aP v21⟩)],[10,81]⟩
def YX:AS:=⟨[(0,.sl (lm ce v1)),(1,iI v20),(2,.int .u8 v3),(8,.ref 81),(26,.bool v22)],[],[(81,⟨52,59,lm aP v21⟩)],[81]⟩
def IP:AS:=⟨[(0,.sl (lm ce v1)),(1,iI v20),(2,.int .u8 v3),(8,.ref 81)],[],[(81,⟨52,59,lm aP v21⟩)],[81]⟩
abbrev yo:Prop:=∀{v20:Int} {v21:(List ah)},L1 v20 v21=some r→LP (AN M w0) (D6 M w0 r) Cq (cat Tryz.f30 (pn 56)) m1 (IP v1 v3 v20 v21)
variable{M w0 r v1 v2 v3 v20 v21 v22 v26 v27 v28 v29 m1 L1}{K:Kn}{n:Nat}
theorem yH(hK:am K)(hL1:yo M w0 r v1 v3 m1 L1)(h:mb K n v1 v3 v20 v21 L1 v26 v27 v28 v29=some r):B9 M w0 r (.b 2::gR 3631 :: .b 1::m6 M w0 r m1) (ZI v1 v3 v20 v21 v26 v27 v28 v29):=by
 unfold mb at h;refine cz (ks':=gR 3631 :: .b 1::m6 M w0 r m1) 1 (aj 2 (az (er aP ([(⟨v27,(aa (10+v20)),(gD v1 v20).Style,v28,0,0,v29⟩:ah)]:List ah) (new:=[aX (⟨v27,(aa (10+v20)),(gD v1 v20).Style,v28,0,0,v29⟩:ah)]) (by simp only[List.map_cons,List.map_nil,dC])) ?_));obtain⟨h36,h⟩:=aL h;exact az (cp 81 81 52 59 aP (rfl) (eW) h36) (ac (ae 1 (bt (hL1 h))))
theorem KQ(hK:am K)(hL1:yo M w0 r v1 v3 m1 L1)(h:mF K n v1 v3 v20 v21 L1 v22=some r):B9 M w0 r (gR 225::gR 113::m6 M w0 r m1) (YX v1 v3 v20 v21 v22):=by
 unfold mF at h;obtain⟨h27,h⟩|⟨h27,h⟩:=ak h
 ·refine ag 26 h27 (cz (ks':=gR 452::gR 453 :: .b 1::m6 M w0 r m1) 4 (aj 2 ?_));obtain⟨h28,h⟩:=aL h;refine az (bN ce ce h28 (uN) ((fun _=>rfl))) (ac ?_);obtain⟨v23,h29,h⟩:=bL h;obtain⟨v24,h30,h⟩:=bL h;refine bw (ks':=gR 29045 :: .b 2::gR 3631 :: .b 1::m6 M w0 r m1) 10 ⟨[(0,.sl (lm ce v1)),(1,iI (aa (v20+1))),(2,.int .u8 v3),(8,.ref 81),(9,.ptr 9 0),(10,.ptr 10 0),(42,.int .u8 v23),(43,.bool v24)],[(9,ce (gD v1 v20)),(10,List.set (aX (⟨3,(aa (10+v20)),(gD v1 v20).Style,(gD v1 v20).Text,0,0,[]⟩:ah)) 58 (.nils))],[(81,⟨52,59,lm aP v21⟩)],[9,10,81]⟩ ?_ (by subst h30;subst h29;kernel_rfl);obtain⟨h31,h⟩|⟨h31,h⟩:=ak h
  ·exact ag 43 h31 (cz (ks':=.b 2::gR 3631 :: .b 1::m6 M w0 r m1) 4 (uX 10 (ae 0 (yH hK hL1 h))))
  ·refine ag 43 h31 (bh 7 3 ?_);obtain⟨h32,h⟩|⟨h32,h⟩:=ak h
   ·refine ag 47 h32 (bh 23 7 (aj 3 (az (er aP ([({ fT with Kind:=3,Style:=(gD v1 v20).Style,Text:=(gD v1 v20).Text }:ah)]:List ah) (new:=[aX ({ fT with Kind:=3,Style:=(gD v1 v20).Style,Text:=(gD v1 v20).Text }:ah)]) (by simp only[List.map_cons,List.map_nil,dC])) ?_)));obtain⟨h33,h⟩:=aL h;exact az (CN 60 52 59 aP (rfl) (eW) h33) (ac (vx 60 (ae 0 (yH hK hL1 h))))
   ·refine ag 47 h32 (bh 7 3 ?_);obtain⟨h34,h⟩|⟨h34,h⟩:=ak h
    ·refine ag 62 h34 (aw 4 5 2 (aj 5 ?_));obtain⟨v25,h35,h⟩:=bind_some h;exact aD (hK.y7 h35) (ac (ae 7 (yH hK hL1 h)))
    ·exact ag 62 h34 (cz (ks':=.b 2::gR 3631 :: .b 1::m6 M w0 r m1) 2 (uX 10 (ae 0 (yH hK hL1 h))))
 ·refine ag 26 h27 (aG 8 ?_);cases h;exact sN
theorem N1(hK:am K)(hL1:yo M w0 r v1 v3 m1 L1)(h:mH K n v1 v3 L1 v20 v21=some r):B9 M w0 r (gR 56::m6 M w0 r m1) (IP v1 v3 v20 v21):=by
 unfold mH at h;refine bK 4 5 3 2 (aj 2 (az (bv ce v1) (aJ 5 2 ?_)));obtain⟨h25,h⟩|⟨h25,h⟩:=ak h
 ·refine av 18 h25 (aJ 7 2 ?_);obtain⟨h26,h⟩:=aL h;exact az (bN ce ce h26 (uN) ((fun _=>rfl))) (ac (ae 0 (KQ hK hL1 h)))
 ·exact av 18 h25 (ac (ae 0 (KQ hK hL1 h)))
theorem QR(hK:am K)(m:Nat):yo M w0 r v1 v3 m (jW K n v1 v3 m):=by
 induction m with
 | zero=>intro v20 v21 h;cases h
 | succ m ih=>intro v20 v21 h;have h:mH K n v1 v3 (jW K n v1 v3 m) v20 v21=some r:=h;exact bp (N1 hK ih h)
theorem Ho(hK:am K)(h:kf K n v1 v2 v3=some r):aN Tryz.prog 30 [.sl (lm ce v1),iI v2,.int .u8 v3] (fun v s=>v=.tup [.ref 81,iI r.2]∧look 81 s.r=some ⟨52,59,lm aP r.1⟩):=by
 refine bc (cat Tryz.f30 (pn 1)) Tryz.func30 Tryz.ntmps30 fun M w0=>(aZ ⟨[(0,.sl (lm ce v1)),(1,iI v2),(2,.int .u8 v3)],[],[],[]⟩ ?_);unfold kf at h;exact eO 28 0 15 6 (bF [0,1,2,8] [] [] (eX 81 8 52 59 (ae 0 (cd (p:=pn 28) n (QR hK n h)))))
end
noncomputable section
variable(M:Nat→Prop)(w0:aE)(r:List ah)(v1:List cc)  
variable{M w0 r v1}{K:Kn}{n:Nat}
theorem Gf(hK:am K)(h:pH K n v1=some r):aN Tryz.prog 9 [.sl (lm ce v1)] (fun v s=>v=.ref 1007∧look 1007 s.r=some ⟨52,59,lm aP r⟩):=by
 refine bc (cat Tryz.f9 (pn 1)) Tryz.func9 Tryz.ntmps9 fun M w0=>(aZ ⟨[(0,.sl (lm ce v1))],[],[],[]⟩ ?_);unfold pH at h;refine aw 6 7 3 (aj 1 ?_);obtain⟨v2,h1,h⟩:=bind_some h;refine dm 1007 (Ho hK h1) (nZ (i:=0) rfl) (ac (aG 3 ?_));cases h;exact d9
end
noncomputable section
variable(M:Nat→Prop)(w0:aE)(r:Bool)(v1:ah)(v2:Bool)  
abbrev Ns(n:Nat):ao:=.c (cat Tryz.f62 (pn n))
abbrev XY:Cx:=⟨Tryz.prog,12,M,w0⟩
abbrev XB:=bodyPost Tryz.prog Tryz.f62 (bq M w0 (fun v _=>v=.bool r))
abbrev M3(ks:List ao)(s:AS):=VE (XY M w0) (XB M w0 r) ks .normal s
def Zf:AS:=⟨[(2,.bool v2)],[],[],[]⟩
variable{M w0 r v1 v2}{K:Kn}{n:Nat}
theorem Lr(hK:am K)(h:lZ K n v2=some r):M3 M w0 r [Ns 7] (Zf v2):=by
 unfold lZ at h;refine aG 1 ?_;cases h;exact aV
theorem H7(hK:am K)(h:iR K n v1=some r):aN Tryz.prog 62 [.agg (aX v1)] (fun v _=>v=.bool r):=by
 refine bc (cat Tryz.f62 (pn 1)) Tryz.func62 Tryz.ntmps62 fun M w0=>(aZ ⟨[(0,.agg (aX v1))],[],[],[]⟩ ?_);unfold iR at h;refine aw 6 7 3 (aj 4 ?_);obtain⟨h1,h⟩|⟨h1,h⟩:=ak h
 ·exact av 6 h1 (ac (ae 0 (Lr hK h)))
 ·exact av 6 h1 (ac (ae 0 (Lr hK h)))
end
noncomputable section
variable(M:Nat→Prop)(w0:aE)(r:(List Int)×(List Int))(v1:ByteArray)(v2 v4:Nat)(v5 v6:(List Int))(m1:Nat)(L1:Nat→(List Int)→(List Int)→Option ((List Int)×(List Int)))
abbrev zm:Cx:=⟨Tryz.prog,28,M,w0⟩
abbrev zF:=bodyPost Tryz.prog Tryz.f63 (bq M w0 (fun v s=>v=.tup [.ref 17,.sl (lm (br .i64) r.2)]∧look 17 s.r=some ⟨21,1,lm (br .i32) r.1⟩))
abbrev PY(ks:List ao)(s:AS):=VE (zm M w0) (zF M w0 r) ks .normal s
abbrev Fg(n:Nat):ao:=.c (cat Tryz.f63 (pn n))
abbrev zq:List ao:=[.b 0,Fg 31]
abbrev Ni:List ao:=kl (zm M w0) (zF M w0 r) zq (cat Tryz.f63 (pn 244)) m1::zq
def Js:AS:=⟨[(0,.str v1),(4,.ref 17),(5,.ref 21),(9,.sit 320009 v2 v1 v4)],[],[(17,⟨21,1,lm (br .i32) v5⟩),(21,⟨3,1,lm (br .i64) v6⟩)],[17,21,320009]⟩
abbrev JJ:Prop:=∀{v4:Nat} {v5:(List Int)} {v6:(List Int)},L1 v4 v5 v6=some r→LP (zm M w0) (zF M w0 r) zq (cat Tryz.f63 (pn 244)) m1 (Js v1 v2 v4 v5 v6)
variable{M w0 r v1 v2 v4 v5 v6 m1 L1}{K:Kn}{n:Nat}
theorem Pg(hK:am K)(hv2:w0.w.heap.size≤v2)(hL1:JJ M w0 r v1 v2 m1 L1)(h:rZ K n v1 L1 v4 v5 v6=some r):PY M w0 r (Fg 244::Ni M w0 r m1) (Js v1 v2 v4 v5 v6):=by
 unfold rZ at h;refine aw 2 3 1 (aj 0 ?_);obtain⟨h8,h⟩|⟨h8,h⟩:=ak h
 ·refine xO 9 (id:=320009) (g:=v2) h8 hv2 (ac (Up 26 27 1 7 (aj 3 ?_)));obtain⟨h9,h⟩:=aL h;refine az (cp 17 17 21 1 (br .i32) (rfl) ((fun _=>rfl)) h9) (ac (aj 3 ?_));obtain⟨h10,h⟩:=aL h;exact az (cp 21 21 3 1 (br .i64) (rfl) ((fun _=>rfl)) h10) (ac (ae 1 (bt (hL1 h))))
 ·refine zd 9 (id:=320009) (g:=v2) h8 (ac (EY 2 3 7 (aj 5 ?_)));obtain⟨h11,h⟩:=aL h;refine az (cp 27 21 3 1 (br .i64) (rfl) ((fun _=>rfl)) h11) (ac (aG 1 (vx 21 ?_)));cases h;exact sN
theorem Np(hK:am K)(hv2:w0.w.heap.size≤v2)(m:Nat):JJ M w0 r v1 v2 m (pK K n v1 m):=by
 induction m with
 | zero=>intro v4 v5 v6 h;cases h
 | succ m ih=>intro v4 v5 v6 h;have h:rZ K n v1 (pK K n v1 m) v4 v5 v6=some r:=h;exact bp (Pg hK hv2 ih h)
theorem Rr(hK:am K)(h:wJ K n v1=some r):aN Tryz.prog 63 [.str v1] (fun v s=>v=.tup [.ref 17,.sl (lm (br .i64) r.2)]∧look 17 s.r=some ⟨21,1,lm (br .i32) r.1⟩):=by
 refine bc (cat Tryz.f63 (pn 1)) Tryz.func63 Tryz.ntmps63 fun M w0=>(aZ ⟨[(0,.str v1)],[],[],[]⟩ ?_);unfold wJ at h;exact bK 60 61 31 8 (aj 1 (wI 320009 (b:=v1) fun v2 hv2=>(ac (jb 2 0 1 (bF [0,4,5,9] [] [] (eX 17 4 21 1 (eX 21 5 3 1 (ae 0 (cd (p:=pn 122) n (Np hK (v2:=v2) hv2 n h))))))))))
end
noncomputable section
variable(M:Nat→Prop)(w0:aE)(r:Bool)(v1:Int)(v2:Bool)  
abbrev UE(n:Nat):ao:=.c (cat Tryz.f66 (pn n))
abbrev RI:Cx:=⟨Tryz.prog,17,M,w0⟩
abbrev Q5:=bodyPost Tryz.prog Tryz.f66 (bq M w0 (fun v _=>v=.bool r))
abbrev NY(ks:List ao)(s:AS):=VE (RI M w0) (Q5 M w0 r) ks .normal s
def Pl:AS:=⟨[(2,.bool v2)],[],[],[]⟩
variable{M w0 r v1 v2}{K:Kn}{n:Nat}
theorem xS(hK:am K)(h:oe K n v2=some r):NY M w0 r [UE 7] (Pl v2):=by
 unfold oe at h;refine aG 1 ?_;cases h;exact aV
theorem w4(hK:am K)(h:l7 K n v1=some r):aN Tryz.prog 66 [.int .i32 v1] (fun v _=>v=.bool r):=by
 refine bc (cat Tryz.f66 (pn 1)) Tryz.func66 Tryz.ntmps66 fun M w0=>(aZ ⟨[(0,.int .i32 v1)],[],[],[]⟩ ?_);unfold l7 at h;refine aw 6 7 3 (aj 3 ?_);obtain⟨h1,h⟩|⟨h1,h⟩:=ak h
 ·exact av 5 h1 (ac (ae 0 (xS hK h)))
 ·refine av 5 h1 (aJ 7 4 ?_);obtain⟨h2,h⟩|⟨h2,h⟩:=ak h
  ·exact av 9 h2 (ac (ae 0 (xS hK h)))
  ·refine av 9 h2 (aJ 11 4 ?_);obtain⟨h3,h⟩|⟨h3,h⟩:=ak h
   ·exact av 13 h3 (ac (ae 0 (xS hK h)))
   ·exact av 13 h3 (ac (ae 0 (xS hK h)))
end
noncomputable section
variable(M:Nat→Prop)(w0:aE)(r:List aK)(v1:aK)(v2:List aK)(v4 v5:aK)(v6:Bool)(v7:aK)  
abbrev nh(n:Nat):ao:=.c (cat Tryz.f64 (pn n))
abbrev aau:Cx:=⟨Tryz.prog,60,M,w0⟩
abbrev SY:=bodyPost Tryz.prog Tryz.f64 (bq M w0 (fun v s=>v=.ref 9∧dt s.o []∧look 9 s.r=some ⟨54,64,lm aQ r⟩))
abbrev xa(ks:List ao)(s:AS):=VE (aau M w0) (SY M w0 r) ks .normal s
def Wh:AS:=⟨[(0,.ref 9),(3,.ptr 3 0)],[(3,aQ v5)],[(9,⟨54,64,lm aQ v2⟩)],[3,9]⟩
def XG:AS:=⟨[(0,.ref 9),(3,.ptr 3 0)],[(3,aQ v4)],[(9,⟨54,64,lm aQ v2⟩)],[3,9]⟩
def Pr:AS:=⟨[(0,.ref 9),(3,.ptr 3 0)],[(3,aQ v7)],[(9,⟨54,64,lm aQ v2⟩)],[3,9]⟩
def Uc:AS:=⟨[(0,.ref 9),(3,.ptr 3 0),(52,.bool v6)],[(3,aQ v1)],[(9,⟨54,64,lm aQ v2⟩)],[3,9]⟩
variable{M w0 r v1 v2 v4 v5 v6 v7}{K:Kn}{n:Nat}
theorem Gb(hK:am K)(h:vN K n v2 v5=some r):xa M w0 r [nh 471,nh 15] (Wh v2 v5):=by
 unfold vN at h;refine aw 2 3 1 (aj 3 ?_);obtain⟨h6,h⟩:=aL h;refine az (cp 30 9 54 64 aQ (rfl) (jn) h6) (ac (aG 2 ?_));cases h;exact fB
theorem JV(hK:am K)(h:tN K n v2 v4=some r):xa M w0 r [nh 235,nh 15] (XG v2 v4):=by
 unfold tN at h;refine aw 5 3 3 ?_;obtain⟨h5,h⟩|⟨h5,h⟩:=ak h
 ·exact ag 25 h5 (ae 2 (Gb hK h))
 ·exact ag 25 h5 (ae 2 (Gb hK h))
theorem Jd(hK:am K)(h:sU K n v2 v7=some r):xa M w0 r [nh 31] (Pr v2 v7):=by
 unfold sU at h;refine aw 2 3 1 (aj 3 ?_);obtain⟨h13,h⟩:=aL h;refine az (cp 59 9 54 64 aQ (rfl) (jn) h13) (ac (aG 1 ?_));cases h;exact fB
theorem z1(hK:am K)(h:rh K n v1 v2 v6=some r):xa M w0 r [nh 489,nh 245,nh 31] (Uc v1 v2 v6):=by
 unfold rh at h;obtain⟨h12,h⟩|⟨h12,h⟩:=ak h
 ·refine ag 52 h12 (aG 6 ?_);cases h;exact fB
 ·exact ag 52 h12 (ae 5 (Jd hK h))
theorem Uo(hK:am K)(h:uF K n v1 v2=some r):gm Tryz.prog 64 [.ref 9,.agg (aQ v1)] [] 9 ⟨54,64,lm aQ v2⟩ [9] (fun v s=>v=.ref 9∧dt s.o []∧look 9 s.r=some ⟨54,64,lm aQ r⟩):=by
 refine pb (c:=cat Tryz.f64 (pn 1)) Tryz.func64 (by kernel_rfl) _ Tryz.ntmps64 (of_decide_eq_true (by kernel_rfl)) fun M w0=>(aZ ⟨[(0,.ref 9),(1,.agg (aQ v1))],[],[(9,⟨54,64,lm aQ v2⟩)],[9]⟩ ?_);unfold uF at h;refine aw 6 7 3 (aj 2 ?_);obtain⟨v3,h1,h⟩:=bind_some h;refine aD (w4 hK h1) (ac (aw 5 3 3 ?_));obtain⟨h2,h⟩|⟨h2,h⟩:=ak h
 ·refine ag 13 h2 (aw 9 5 4 ?_);obtain⟨h3,h⟩|⟨h3,h⟩:=ak h
  ·refine ag 16 h3 (aG 6 ?_);cases h;exact fB
  ·refine ag 16 h3 (dU 5 3 5 ?_);obtain⟨h4,h⟩|⟨h4,h⟩:=ak h
   ·exact ag 20 h4 (ae 4 (JV hK h))
   ·exact ag 20 h4 (ae 2 (JV hK h))
 ·refine ag 13 h2 (dU 5 3 5 ?_);obtain⟨h7,h⟩|⟨h7,h⟩:=ak h
  ·refine ag 31 h7 (bK 8 9 5 3 (aj 1 (az (bv aQ v2) (aJ 4 2 ?_))));obtain⟨h8,h⟩|⟨h8,h⟩:=ak h
   ·exact av 35 h8 (ac (ae 0 (z1 hK h)))
   ·refine av 35 h8 (aJ 6 2 (az (bv aQ v2) (aJ 8 1 ?_)));obtain⟨h9,h⟩:=aL h;refine az (dh 9 64 aQ h9) (aJ 10 1 (az (co 4 61 aQ aQ (ci h9).2 ((fun _=>rfl))) (aJ 13 2 ?_)));obtain⟨h10,h⟩|⟨h10,h⟩:=ak h
    ·exact av 44 h10 (ac (ae 0 (z1 hK h)))
    ·refine av 44 h10 (aJ 15 2 (az (bv aQ v2) (aJ 17 1 ?_)));obtain⟨h11,h⟩:=aL h;exact az (dh 9 64 aQ h11) (aJ 19 1 (az (co 4 62 aQ aQ (ci h11).2 ((fun _=>rfl))) (ac (ae 0 (z1 hK h)))))
  ·exact ag 31 h7 (ae 2 (Jd hK h))
end
noncomputable section
variable(M:Nat→Prop)(w0:aE)(r:List aK)(v1:List ah)(v2:List aK)(v16:Int)(v17:List aK)(v24:(List Int)×(List Int))(v26:Int)(v27 v29 v30:(List aK))(m1 m2:Nat)(L1 L2:Int→(List aK)→Option (List aK))
abbrev wb:Cx:=⟨Tryz.prog,74,M,w0⟩
abbrev um:=bodyPost Tryz.prog Tryz.f35 (bq M w0 (fun v s=>v=.ref 9∧dt s.o []∧look 9 s.r=some ⟨54,64,lm aQ r⟩))
abbrev xo(ks:List ao)(s:AS):=VE (wb M w0) (um M w0 r) ks .normal s
abbrev fR(n:Nat):ao:=.c (cat Tryz.f35 (pn n))
abbrev Bk:List ao:=[.b 0,fR 7]
abbrev mN:List ao:=kl (wb M w0) (um M w0 r) Bk (cat Tryz.f35 (pn 52)) m1::Bk
abbrev AL:List ao:=.b 3 :: .b 2 :: .b 1::fR 211::mN M w0 r m1
abbrev XJ:List ao:=kl (wb M w0) (um M w0 r) (AL M w0 r m1) (cat Tryz.f35 (pn 55177196)) m2::(AL M w0 r m1)
def Q4:AS:=⟨[(0,.ref 9),(1,.sl (lm aP v1)),(5,iI v16)],[],[(9,⟨54,64,lm aQ v30⟩)],[9]⟩
def Yz:AS:=⟨[(0,.ref 9),(1,.sl (lm aP v1)),(5,iI v16)],[],[(9,⟨54,64,lm aQ v29⟩)],[9]⟩
def Hu:AS:=⟨[(0,.ref 9),(1,.sl (lm aP v1)),(5,iI v16),(6,.ptr 6 0),(7,iI (v17.length:Int)),(8,.ref 1055),(10,iI v26)],[(6,aX (gD v1 v16))],[(9,⟨54,64,lm aQ v27⟩),(1055,⟨21,1,lm (br .i32) v24.1⟩)],[6,9,1055]⟩
def GZ:AS:=⟨[(0,.ref 9),(1,.sl (lm aP v1)),(5,iI v16)],[],[(9,⟨54,64,lm aQ v17⟩)],[9]⟩
abbrev sL:Prop:=∀{v16:Int} {v17:(List aK)},L1 v16 v17=some r→LP (wb M w0) (um M w0 r) Bk (cat Tryz.f35 (pn 52)) m1 (GZ v1 v16 v17)
abbrev EF:Prop:=∀{v26:Int} {v27:(List aK)},L2 v26 v27=some r→LP (wb M w0) (um M w0 r) (AL M w0 r m1) (cat Tryz.f35 (pn 55177196)) m2 (Hu v1 v16 v17 v24 v26 v27)
variable{M w0 r v1 v2 v16 v17 v24 v26 v27 v29 v30 m1 m2 L1 L2}{K:Kn}{n:Nat}
theorem Ee(hK:am K)(hL1:sL M w0 r v1 m1 L1)(h:kX K n v1 v16 L1 v30=some r):xo M w0 r (fR 211::mN M w0 r m1) (Q4 v1 v16 v30):=by
 unfold kX at h;exact ae 1 (bt (hL1 h))
theorem vq(hK:am K)(hL1:sL M w0 r v1 m1 L1)(h:gZ K n v1 v16 L1 v29=some r):xo M w0 r (.b 2 :: .b 1::fR 211::mN M w0 r m1) (Yz v1 v16 v29):=by
 unfold gZ at h;exact ae 2 (Ee hK hL1 h)
theorem aaz(hK:am K)(hL1:sL M w0 r v1 m1 L1)(hL2:EF M w0 r v1 v16 v17 v24 m1 m2 L2)(h:sV K n v1 v16 v17 v24 L1 L2 v26 v27=some r):xo M w0 r (fR 55177196::XJ M w0 r m1 m2) (Hu v1 v16 v17 v24 v26 v27):=by
 unfold sV at h;refine bK 4 5 3 2 (aj 2 (az (bv (br .i32) v24.1) (ac ?_)));obtain⟨h42,h⟩|⟨h42,h⟩:=ak h
 ·refine ag 61 h42 (vL 4 4 3 4 (bF [0,1,5,6,7,8,10] [6] [9,1055] ?_));obtain⟨h43,h⟩:=aL h;refine Ld 8 0 [(64,.ref 9),(65,.agg (aX (gD v1 v16))),(66,iI (v17.length:Int)),(67,.ref 1055),(68,iI v26),(69,.eptr 1055 1 (v26.toNat) 0),(70,.int .i32 (gD v24.1 v26)),(71,.agg (aQ ({ mq with Box:=(gD v1 v16),Number:=(v17.length:Int),Char:=(gD v24.1 v26) }:aK)))] [] [] [] (ay (vz 5) (bI (dg 1055 1 (br .i32) (L:=v24.1) h43) (bI (co 21 0 (br .i32) (br .i32) (ci h43).2 ((fun _=>rfl))) (ay [.v 0 1] (Db))))) ?_;obtain⟨v28,h44,h⟩:=bind_some h;exact jL 9 9 [] (Uo hK h44) (ac (ae 2 (bt (hL2 h))))
 ·exact ag 61 h42 (ae 5 (vq hK hL1 h))
theorem XV(hK:am K)(hL1:sL M w0 r v1 m1 L1)(m:Nat):EF M w0 r v1 v16 v17 v24 m1 m (qM K n v1 v16 v17 v24 L1 m):=by
 induction m with
 | zero=>intro v26 v27 h;cases h
 | succ m ih=>intro v26 v27 h;have h:sV K n v1 v16 v17 v24 L1 (qM K n v1 v16 v17 v24 L1 m) v26 v27=some r:=h;exact bp (aaz hK hL1 ih h)
theorem Yn(hK:am K)(hL1:sL M w0 r v1 m1 L1)(h:sw K n v1 L1 v16 v17=some r):xo M w0 r (fR 52::mN M w0 r m1) (GZ v1 v16 v17):=by
 unfold sw at h;refine bK 4 5 3 2 (aj 2 (az (bv aP v1) (ac ?_)));obtain⟨h23,h⟩|⟨h23,h⟩:=ak h
 ·refine ag 14 h23 (cE 8 9 1 3 5 (aj 2 ?_));obtain⟨h24,h⟩:=aL h;refine az (bN aP aX h24 (eW) (dC)) (ac (aw 2 3 1 (aj 1 (az (bv aQ v17) (ac (bK 4 5 3 2 (aj 1 ?_)))))));obtain⟨v18,h25,h⟩:=bind_some h;refine aD (H7 hK h25) (ac ?_);obtain⟨h26,h⟩|⟨h26,h⟩:=ak h
  ·exact ag 25 h26 (ae 4 (Ee hK hL1 h))
  ·refine ag 25 h26 ?_;obtain⟨v19,h27,h⟩:=bL h;refine bw (ks':=fR 26941 :: .b 2 :: .b 1::fR 211::mN M w0 r m1) 7 ⟨[(0,.ref 9),(1,.sl (lm aP v1)),(5,iI v16),(6,.ptr 6 0),(7,iI (v17.length:Int)),(27,iI ((gD v1 v16).Kind)),(28,.bool v19)],[(6,aX (gD v1 v16))],[(9,⟨54,64,lm aQ v17⟩)],[6,9]⟩ ?_ (by subst h27;kernel_rfl);obtain⟨h28,h⟩|⟨h28,h⟩:=ak h
   ·refine ag 28 h28 (bh 2 1 (aj 3 ?_));obtain⟨v20,h29,h⟩:=bind_some h;exact jL 9 9 [] (hK.yL h29) (ac (ae 0 (vq hK hL1 h)))
   ·refine ag 28 h28 ?_;obtain⟨v21,h30,h⟩:=bL h;refine bw (ks':=fR 107767 :: .b 2 :: .b 1::fR 211::mN M w0 r m1) 3 ⟨[(0,.ref 9),(1,.sl (lm aP v1)),(5,iI v16),(6,.ptr 6 0),(7,iI (v17.length:Int)),(27,iI ((gD v1 v16).Kind)),(34,.bool v21)],[(6,aX (gD v1 v16))],[(9,⟨54,64,lm aQ v17⟩)],[6,9]⟩ ?_ (by subst h30;kernel_rfl);obtain⟨h31,h⟩|⟨h31,h⟩:=ak h
    ·refine ag 34 h31 (bh 2 1 (aj 5 ?_));obtain⟨h32,h⟩:=aL h;exact az (cp 41 9 54 64 aQ (rfl) (jn) h32) (ac (ae 0 (vq hK hL1 h)))
    ·refine ag 34 h31 ?_;obtain⟨v22,h33,h⟩:=bL h;refine bw (ks':=fR 431071 :: .b 2 :: .b 1::fR 211::mN M w0 r m1) 3 ⟨[(0,.ref 9),(1,.sl (lm aP v1)),(5,iI v16),(6,.ptr 6 0),(7,iI (v17.length:Int)),(27,iI ((gD v1 v16).Kind)),(42,.bool v22)],[(6,aX (gD v1 v16))],[(9,⟨54,64,lm aQ v17⟩)],[6,9]⟩ ?_ (by subst h33;kernel_rfl);obtain⟨h34,h⟩|⟨h34,h⟩:=ak h
     ·refine ag 42 h34 (bh 2 1 (aj 5 ?_));obtain⟨h35,h⟩:=aL h;exact az (cp 49 9 54 64 aQ (rfl) (jn) h35) (ac (ae 0 (vq hK hL1 h)))
     ·refine ag 42 h34 ?_;obtain⟨v23,h36,h⟩:=bL h;refine bw (ks':=fR 1724287 :: .b 2 :: .b 1::fR 211::mN M w0 r m1) 3 ⟨[(0,.ref 9),(1,.sl (lm aP v1)),(5,iI v16),(6,.ptr 6 0),(7,iI (v17.length:Int)),(50,.bool v23)],[(6,aX (gD v1 v16))],[(9,⟨54,64,lm aQ v17⟩)],[6,9]⟩ ?_ (by subst h36;kernel_rfl);obtain⟨h37,h⟩|⟨h37,h⟩:=ak h
      ·refine ag 50 h37 (aw 4 5 2 (aj 2 ?_));obtain⟨v24,h38,h⟩:=bind_some h;exact dm 1055 (Rr hK h38) (nZ (i:=0) rfl) (ac (ae 3 (cd (p:=pn 27588598) n (XV hK hL1 n h))))
      ·exact ag 50 h37 (ae 2 (vq hK hL1 h))
 ·refine ag 14 h23 (aG 8 ?_);cases h;exact fB
theorem XQ(hK:am K)(m:Nat):sL M w0 r v1 m (kh K n v1 m):=by
 induction m with
 | zero=>intro v16 v17 h;cases h
 | succ m ih=>intro v16 v17 h;have h:sw K n v1 (kh K n v1 m) v16 v17=some r:=h;exact bp (Yn hK ih h)
theorem Ga(hK:am K)(h:nj K n v1 v2=some r):gm Tryz.prog 35 [.ref 9,.sl (lm aP v1)] [] 9 ⟨54,64,lm aQ v2⟩ [9] (fun v s=>v=.ref 9∧dt s.o []∧look 9 s.r=some ⟨54,64,lm aQ r⟩):=by
 refine pb (c:=cat Tryz.f35 (pn 1)) Tryz.func35 (by kernel_rfl) _ Tryz.ntmps35 (of_decide_eq_true (by kernel_rfl)) fun M w0=>(aZ ⟨[(0,.ref 9),(1,.sl (lm aP v1))],[],[(9,⟨54,64,lm aQ v2⟩)],[9]⟩ ?_);unfold nj at h;exact ae 6 (cd (p:=pn 26) n (XQ hK n h))
end
noncomputable section
variable(M:Nat→Prop)(w0:aE)(r:Bool)(v1:aK)(v2:Bool)  
abbrev QV(n:Nat):ao:=.c (cat Tryz.f65 (pn n))
abbrev PL:Cx:=⟨Tryz.prog,15,M,w0⟩
abbrev Wc:=bodyPost Tryz.prog Tryz.f65 (bq M w0 (fun v _=>v=.bool r))
abbrev QU(ks:List ao)(s:AS):=VE (PL M w0) (Wc M w0 r) ks .normal s
def RN:AS:=⟨[(2,.bool v2)],[],[],[]⟩
variable{M w0 r v1 v2}{K:Kn}{n:Nat}
theorem Kd(hK:am K)(h:tA K n v2=some r):QU M w0 r [QV 7] (RN v2):=by
 unfold tA at h;refine aG 1 ?_;cases h;exact aV
theorem uf(hK:am K)(h:kU K n v1=some r):aN Tryz.prog 65 [.agg (aQ v1)] (fun v _=>v=.bool r):=by
 refine bc (cat Tryz.f65 (pn 1)) Tryz.func65 Tryz.ntmps65 fun M w0=>(aZ ⟨[(0,.agg (aQ v1))],[],[],[]⟩ ?_);unfold kU at h;refine aw 6 7 3 (aj 6 ?_);obtain⟨h1,h⟩|⟨h1,h⟩:=ak h
 ·exact av 8 h1 (ac (ae 0 (Kd hK h)))
 ·exact av 8 h1 (ac (ae 0 (Kd hK h)))
end
noncomputable section
variable(M:Nat→Prop)(w0:aE)(r:Bool)(v1:ByteArray)(v2 v4:Int)(m1:Nat)(L1:Int→Option Bool)
abbrev zt:Cx:=⟨Tryz.prog,18,M,w0⟩
abbrev zQ:=bodyPost Tryz.prog Tryz.f119 (bq M w0 (fun v _=>v=.bool r))
abbrev XZ(ks:List ao)(s:AS):=VE (zt M w0) (zQ M w0 r) ks .normal s
abbrev xG(n:Nat):ao:=.c (cat Tryz.f119 (pn n))
abbrev Aj:List ao:=[.b 0,xG 7]
abbrev Mh:List ao:=kl (zt M w0) (zQ M w0 r) Aj (cat Tryz.f119 (pn 52)) m1::Aj
def L9:AS:=⟨[(0,.str v1),(1,.int .i32 v2),(5,iI v4)],[],[],[]⟩
abbrev GP:Prop:=∀{v4:Int},L1 v4=some r→LP (zt M w0) (zQ M w0 r) Aj (cat Tryz.f119 (pn 52)) m1 (L9 v1 v2 v4)
variable{M w0 r v1 v2 v4 m1 L1}{K:Kn}{n:Nat}
theorem Pu(hK:am K)(hL1:GP M w0 r v1 v2 m1 L1)(h:pE K n v1 v2 L1 v4=some r):XZ M w0 r (xG 52::Mh M w0 r m1) (L9 v1 v2 v4):=by
 unfold pE at h;refine aw 5 3 3 ?_;obtain⟨h5,h⟩|⟨h5,h⟩:=ak h
 ·refine ag 9 h5 (cE 8 9 1 3 5 (aj 2 ?_));obtain⟨h6,h⟩:=aL h;refine az (PU h6) (ac ?_);obtain⟨v5,h7,h⟩:=bL h;refine bw (ks':=xG 841 :: .b 1::xG 211::Mh M w0 r m1) 0 ⟨[(0,.str v1),(1,.int .i32 v2),(5,iI v4),(17,.bool v5)],[],[],[]⟩ ?_ (by subst h7;kernel_rfl);obtain⟨h8,h⟩|⟨h8,h⟩:=ak h
  ·refine ag 17 h8 (aG 9 ?_);cases h;exact aV
  ·exact ag 17 h8 (ae 4 (bt (hL1 h)))
 ·refine ag 9 h5 (aG 8 ?_);cases h;exact aV
theorem UM(hK:am K)(m:Nat):GP M w0 r v1 v2 m (pW K n v1 v2 m):=by
 induction m with
 | zero=>intro v4 h;cases h
 | succ m ih=>intro v4 h;have h:pE K n v1 v2 (pW K n v1 v2 m) v4=some r:=h;exact bp (Pu hK ih h)
theorem B3(hK:am K)(h:oH K n v1 v2=some r):aN Tryz.prog 119 [.str v1,.int .i32 v2] (fun v _=>v=.bool r):=by
 refine bc (cat Tryz.f119 (pn 1)) Tryz.func119 Tryz.ntmps119 fun M w0=>(aZ ⟨[(0,.str v1),(1,.int .i32 v2)],[],[],[]⟩ ?_);unfold oH at h;exact ae 6 (cd (p:=pn 26) n (UM hK n h))
end
noncomputable section
variable(M:Nat→Prop)(w0:aE)(r v1:Int)(v2 v4 v7:Bool)  
abbrev rk(n:Nat):ao:=.c (cat Tryz.f104 (pn n))
abbrev Sk:Cx:=⟨Tryz.prog,43,M,w0⟩
abbrev VC:=bodyPost Tryz.prog Tryz.f104 (bq M w0 (fun v _=>v=iI r))
abbrev CD(ks:List ao)(s:AS):=VE (Sk M w0) (VC M w0 r) ks .normal s
def Sy:AS:=⟨[(42,.bool v7)],[],[],[]⟩
def VH:AS:=⟨[(0,.int .i32 v1),(32,.bool v4)],[],[],[]⟩
def RP:AS:=⟨[(0,.int .i32 v1),(24,.bool v2)],[],[],[]⟩
variable{M w0 r v1 v2 v4 v7}{K:Kn}{n:Nat}
theorem JQ(hK:am K)(h:sx K n v7=some r):CD M w0 r [rk 509,rk 255] (Sy v7):=by
 unfold sx at h;obtain⟨h17,h⟩|⟨h17,h⟩:=ak h
 ·refine ag 42 h17 (aG 5 ?_);cases h;exact aV
 ·refine ag 42 h17 (aG 5 ?_);cases h;exact aV
theorem FZ(hK:am K)(h:kn K n v1 v4=some r):CD M w0 r [rk 61,rk 31] (VH v1 v4):=by
 unfold kn at h;obtain⟨h11,h⟩|⟨h11,h⟩:=ak h
 ·refine ag 32 h11 (aG 5 ?_);cases h;exact aV
 ·refine ag 32 h11 (gE 4 5 3 4 (aj 1 ?_));obtain⟨v5,h12,h⟩:=bind_some h;refine aD (B3 hK h12) (ac ?_);obtain⟨h13,h⟩|⟨h13,h⟩:=ak h
  ·refine ag 34 h13 (aG 5 ?_);cases h;exact aV
  ·refine ag 34 h13 (gE 4 5 3 4 (aj 1 ?_));obtain⟨v6,h14,h⟩:=bind_some h;refine aD (B3 hK h14) (ac ?_);obtain⟨h15,h⟩|⟨h15,h⟩:=ak h
   ·refine ag 36 h15 (aG 5 ?_);cases h;exact aV
   ·refine ag 36 h15 (gE 4 5 3 4 (aj 3 ?_));obtain⟨h16,h⟩|⟨h16,h⟩:=ak h
    ·exact av 39 h16 (ac (ae 0 (JQ hK h)))
    ·exact av 39 h16 (ac (ae 0 (JQ hK h)))
theorem oJ(hK:am K)(h:iD K n v1 v2=some r):CD M w0 r [rk 13,rk 7] (RP v1 v2):=by
 unfold iD at h;obtain⟨h7,h⟩|⟨h7,h⟩:=ak h
 ·refine ag 24 h7 (aG 5 ?_);cases h;exact aV
 ·refine ag 24 h7 (dU 5 3 5 ?_);obtain⟨h8,h⟩|⟨h8,h⟩:=ak h
  ·refine ag 26 h8 (aG 5 ?_);cases h;exact aV
  ·refine ag 26 h8 (gE 4 5 3 4 (aj 3 ?_));obtain⟨h9,h⟩|⟨h9,h⟩:=ak h
   ·exact av 29 h9 (ac (ae 0 (FZ hK h)))
   ·refine av 29 h9 (aJ 4 1 ?_);obtain⟨v3,h10,h⟩:=bind_some h;exact aD (B3 hK h10) (ac (ae 0 (FZ hK h)))
theorem Jw(hK:am K)(h:ri K n v1=some r):aN Tryz.prog 104 [.int .i32 v1] (fun v _=>v=iI r):=by
 refine bc (cat Tryz.f104 (pn 1)) Tryz.func104 Tryz.ntmps104 fun M w0=>(aZ ⟨[(0,.int .i32 v1)],[],[],[]⟩ ?_);unfold ri at h;refine bK 12 13 7 4 (aj 3 ?_);obtain⟨h1,h⟩|⟨h1,h⟩:=ak h
 ·exact av 5 h1 (ac (ae 0 (oJ hK h)))
 ·refine av 5 h1 (aJ 7 4 ?_);obtain⟨h2,h⟩|⟨h2,h⟩:=ak h
  ·exact av 9 h2 (ac (ae 0 (oJ hK h)))
  ·refine av 9 h2 (aJ 10 3 ?_);obtain⟨h3,h⟩|⟨h3,h⟩:=ak h
   ·refine av 12 h3 (aJ 15 5 ?_);obtain⟨h4,h⟩|⟨h4,h⟩:=ak h
    ·exact av 17 h4 (ac (ae 0 (oJ hK h)))
    ·refine av 17 h4 (aJ 18 3 ?_);obtain⟨h5,h⟩|⟨h5,h⟩:=ak h
     ·exact av 20 h5 (ac (ae 0 (oJ hK h)))
     ·exact av 20 h5 (ac (ae 0 (oJ hK h)))
   ·refine av 12 h3 (aJ 18 8 ?_);obtain⟨h6,h⟩|⟨h6,h⟩:=ak h
    ·exact av 20 h6 (ac (ae 0 (oJ hK h)))
    ·exact av 20 h6 (ac (ae 0 (oJ hK h)))
end
noncomputable section
variable(M:Nat→Prop)(w0:aE)(r:Bool)(v1 v2:Int)(v5 v7 v8:Bool)  
abbrev t9(n:Nat):ao:=.c (cat Tryz.f67 (pn n))
abbrev WK:Cx:=⟨Tryz.prog,28,M,w0⟩
abbrev Qy:=bodyPost Tryz.prog Tryz.f67 (bq M w0 (fun v _=>v=.bool r))
abbrev Aq(ks:List ao)(s:AS):=VE (WK M w0) (Qy M w0 r) ks .normal s
def Xr:AS:=⟨[(4,.bool v8)],[],[],[]⟩
def Tj:AS:=⟨[(0,.int .i32 v1),(1,.int .i32 v2),(21,.bool v7)],[],[],[]⟩
def Y0:AS:=⟨[(0,.int .i32 v1),(1,.int .i32 v2),(11,.bool v5)],[],[],[]⟩
variable{M w0 r v1 v2 v5 v7 v8}{K:Kn}{n:Nat}
theorem J9(hK:am K)(h:vA K n v8=some r):Aq M w0 r [t9 31] (Xr v8):=by
 unfold vA at h;refine aG 1 ?_;cases h;exact aV
theorem Ch(hK:am K)(h:pG K n v1 v2 v7=some r):Aq M w0 r [t9 29,t9 15] (Tj v1 v2 v7):=by
 unfold pG at h;obtain⟨h8,h⟩|⟨h8,h⟩:=ak h
 ·refine ag 21 h8 (aG 5 ?_);cases h;exact aV
 ·refine ag 21 h8 (dU 2 3 3 (aj 3 ?_));obtain⟨h9,h⟩|⟨h9,h⟩:=ak h
  ·exact av 24 h9 (ac (ae 0 (J9 hK h)))
  ·exact av 24 h9 (ac (ae 0 (J9 hK h)))
theorem Lf(hK:am K)(h:pw K n v1 v2 v5=some r):Aq M w0 r [t9 13,t9 7] (Y0 v1 v2 v5):=by
 unfold pw at h;obtain⟨h4,h⟩|⟨h4,h⟩:=ak h
 ·refine ag 11 h4 (aG 5 ?_);cases h;exact aV
 ·refine ag 11 h4 (gE 4 5 3 4 (aj 1 ?_));obtain⟨v6,h5,h⟩:=bind_some h;refine aD (w4 hK h5) (aJ 3 1 ?_);obtain⟨h6,h⟩|⟨h6,h⟩:=ak h
  ·exact av 14 h6 (ac (ae 0 (Ch hK h)))
  ·refine av 14 h6 (aJ 6 3 ?_);obtain⟨h7,h⟩|⟨h7,h⟩:=ak h
   ·exact av 17 h7 (ac (ae 0 (Ch hK h)))
   ·exact av 17 h7 (ac (ae 0 (Ch hK h)))
theorem SI(hK:am K)(h:oD K n v1 v2=some r):aN Tryz.prog 67 [.int .i32 v1,.int .i32 v2] (fun v _=>v=.bool r):=by
 refine bc (cat Tryz.f67 (pn 1)) Tryz.func67 Tryz.ntmps67 fun M w0=>(aZ ⟨[(0,.int .i32 v1),(1,.int .i32 v2)],[],[],[]⟩ ?_);unfold oD at h;refine bK 12 13 7 4 (aj 1 ?_);obtain⟨v3,h1,h⟩:=bind_some h;refine aD (w4 hK h1) (aJ 3 1 ?_);obtain⟨h2,h⟩|⟨h2,h⟩:=ak h
 ·exact av 7 h2 (ac (ae 0 (Lf hK h)))
 ·refine av 7 h2 (aJ 4 1 ?_);obtain⟨v4,h3,h⟩:=bind_some h;exact aD (Jw hK h3) (ac (ae 0 (Lf hK h)))
end
noncomputable section
variable(M:Nat→Prop)(w0:aE)(r:Bool)(v1 v2:aK)(v3 v4 v8 v12:Bool)  
abbrev lS(n:Nat):ao:=.c (cat Tryz.f36 (pn n))
abbrev Rc:Cx:=⟨Tryz.prog,50,M,w0⟩
abbrev Vz:=bodyPost Tryz.prog Tryz.f36 (bq M w0 (fun v _=>v=.bool r))
abbrev y0(ks:List ao)(s:AS):=VE (Rc M w0) (Vz M w0 r) ks .normal s
def ZS:AS:=⟨[(4,.bool v8)],[],[],[]⟩
def PC:AS:=⟨[(2,.ptr 2 0),(3,.ptr 3 0),(44,.bool v12)],[(2,aQ v1),(3,aQ v2)],[],[2,3]⟩
def O7:AS:=⟨[(2,.ptr 2 0),(3,.ptr 3 0),(16,.bool v4)],[(2,aQ v1),(3,aQ v2)],[],[2,3]⟩
def W6:AS:=⟨[(2,.ptr 2 0),(3,.ptr 3 0),(10,.bool v3)],[(2,aQ v1),(3,aQ v2)],[],[2,3]⟩
variable{M w0 r v1 v2 v3 v4 v8 v12}{K:Kn}{n:Nat}
theorem s7(hK:am K)(h:mo K n v8=some r):y0 M w0 r [lS 117,lS 15] (ZS v8):=by
 unfold mo at h;refine aG 2 ?_;cases h;exact aV
theorem Cw(hK:am K)(h:py K n v1 v2 v12=some r):y0 M w0 r [lS 61,lS 31] (PC v1 v2 v12):=by
 unfold py at h;obtain⟨h17,h⟩|⟨h17,h⟩:=ak h
 ·refine ag 44 h17 (aG 5 ?_);cases h;exact aV
 ·refine ag 44 h17 (dU 2 3 3 (aj 4 ?_));obtain⟨v13,h18,h⟩:=bind_some h;refine aD (SI hK h18) (ac (aG 1 ?_));cases h;exact aV
theorem FR(hK:am K)(h:oX K n v1 v2 v4=some r):y0 M w0 r [lS 29,lS 15] (O7 v1 v2 v4):=by
 unfold oX at h;obtain⟨h4,h⟩|⟨h4,h⟩:=ak h
 ·refine ag 16 h4 (aw 4 5 2 (aj 3 ?_));obtain⟨h5,h⟩|⟨h5,h⟩:=ak h
  ·refine av 19 h5 (aJ 10 7 ?_);obtain⟨h6,h⟩|⟨h6,h⟩:=ak h
   ·exact av 26 h6 (ac (ae 0 (s7 hK h)))
   ·refine av 26 h6 (aJ 11 1 ?_);obtain⟨v5,h7,h⟩:=bind_some h;exact aD (uf hK h7) (ac (ae 0 (s7 hK h)))
  ·refine av 19 h5 (aJ 4 1 ?_);obtain⟨v6,h8,h⟩:=bind_some h;refine aD (uf hK h8) (aJ 7 2 ?_);obtain⟨h9,h⟩|⟨h9,h⟩:=ak h
   ·refine av 23 h9 (aJ 10 3 ?_);obtain⟨h10,h⟩|⟨h10,h⟩:=ak h
    ·exact av 26 h10 (ac (ae 0 (s7 hK h)))
    ·refine av 26 h10 (aJ 11 1 ?_);obtain⟨v7,h11,h⟩:=bind_some h;exact aD (uf hK h11) (ac (ae 0 (s7 hK h)))
   ·exact av 23 h9 (ac (ae 0 (s7 hK h)))
 ·refine ag 16 h4 (gE 4 5 3 4 (aj 1 ?_));obtain⟨v9,h12,h⟩:=bind_some h;refine aD (uf hK h12) (aJ 4 2 ?_);obtain⟨h13,h⟩|⟨h13,h⟩:=ak h
  ·exact av 34 h13 (ac (ae 0 (Cw hK h)))
  ·refine av 34 h13 (aJ 6 2 ?_);obtain⟨v10,h14,h⟩:=bind_some h;refine aD (w4 hK h14) (aJ 9 2 ?_);obtain⟨h15,h⟩|⟨h15,h⟩:=ak h
   ·refine av 39 h15 (aJ 10 1 ?_);obtain⟨v11,h16,h⟩:=bind_some h;exact aD (uf hK h16) (ac (ae 0 (Cw hK h)))
   ·exact av 39 h15 (ac (ae 0 (Cw hK h)))
theorem Ed(hK:am K)(h:kk K n v1 v2 v3=some r):y0 M w0 r [lS 13,lS 7] (W6 v1 v2 v3):=by
 unfold kk at h;obtain⟨h2,h⟩|⟨h2,h⟩:=ak h
 ·refine ag 10 h2 (aG 5 ?_);cases h;exact aV
 ·refine ag 10 h2 (gE 4 5 3 4 (aj 3 ?_));obtain⟨h3,h⟩|⟨h3,h⟩:=ak h
  ·exact av 13 h3 (ac (ae 0 (FR hK h)))
  ·exact av 13 h3 (ac (ae 0 (FR hK h)))
theorem WU(hK:am K)(h:uY K n v1 v2=some r):aN Tryz.prog 36 [.agg (aQ v1),.agg (aQ v2)] (fun v _=>v=.bool r):=by
 refine bc (cat Tryz.f36 (pn 1)) Tryz.func36 Tryz.ntmps36 fun M w0=>(aZ ⟨[(0,.agg (aQ v1)),(1,.agg (aQ v2))],[],[],[]⟩ ?_);unfold uY at h;refine bK 12 13 7 4 (aj 3 ?_);obtain⟨h1,h⟩|⟨h1,h⟩:=ak h
 ·exact av 7 h1 (ac (ae 0 (Ed hK h)))
 ·exact av 7 h1 (ac (ae 0 (Ed hK h)))
end
noncomputable section
variable(M:Nat→Prop)(w0:aE)(r v1:Int)  
variable{M w0 r v1}{K:Kn}{n:Nat}
theorem fY(hK:am K)(h:dG K n v1=some r):aN Tryz.prog 39 [iI v1] (fun v _=>v=iI r):=by
 refine bc (cat Tryz.f39 (pn 1)) Tryz.func39 Tryz.ntmps39 fun M w0=>(aZ ⟨[(0,iI v1)],[],[],[]⟩ ?_);unfold dG at h;refine aG 5 ?_;cases h;exact aV
end
noncomputable section
variable(M:Nat→Prop)(w0:aE)(r v1:Int)  
variable{M w0 r v1}{K:Kn}{n:Nat}
theorem Ag(hK:am K)(h:ix K n v1=some r):aN Tryz.prog 120 [iI v1] (fun v _=>v=iI r):=by
 refine bc (cat Tryz.f120 (pn 1)) Tryz.func120 Tryz.ntmps120 fun M w0=>(aZ ⟨[(0,iI v1)],[],[],[]⟩ ?_);unfold ix at h;refine aG 5 ?_;cases h;exact aV
end
noncomputable section
variable(M:Nat→Prop)(w0:aE)(r:Int×Bool)(v1:cu)(v2:Int)  
variable{M w0 r v1 v2}{K:Kn}{n:Nat}
theorem fl(hK:am K)(h:dw K n v1 v2=some r):aN Tryz.prog 105 [.agg (gC v1),iI v2] (fun v _=>v=.tup [iI r.1,.bool r.2]):=by
 refine bc (cat Tryz.f105 (pn 1)) Tryz.func105 Tryz.ntmps105 fun M w0=>(aZ ⟨[(0,.agg (gC v1)),(1,iI v2)],[],[],[]⟩ ?_);unfold dw at h;refine eO 53 0 7 8 ?_;obtain⟨h1,h⟩|⟨h1,h⟩:=ak h
 ·refine ag 8 h1 (aw 4 5 2 (aj 2 ?_));obtain⟨v3,h2,h⟩:=bind_some h;refine aD (Ag hK h2) (ac (aG 3 ?_));cases h;exact d8
 ·refine ag 8 h1 (bh 7 3 ?_);obtain⟨h3,h⟩|⟨h3,h⟩:=ak h
  ·refine ag 13 h3 (aw 4 5 2 (bF [1,2] [2] [] ?_));obtain⟨v4,h4,h⟩:=bind_some h;obtain⟨v5,h5,h⟩:=bind_some h;refine bP 2 (nu 15 [iI v2,iI v4,.ptr 2 1,iI v1.Value,iI (max v1.Value (-1000000)),iI (min (max v1.Value (-1000000)) 1000000),iI (aa (v4*(min (max v1.Value (-1000000)) 1000000))),iI (aa (Int.tdiv (aa (v4*(min (max v1.Value (-1000000)) 1000000))) 10000)),iI v5]) [] [] [bR Tryz.prog 24 Tryz.f105 (pn 860) 9,bR Tryz.prog 24 Tryz.f105 (pn 860) 10] (ay [.v 0 1] (ai (bU 0 1 16 (fY hK h4)) (ay (vz 6) (ai (bU 0 1 23 (Ag hK h5)) (ai (bS 0) (ai (bS 1) bO)))))) (aG 3 ?_);cases h;exact d8
  ·refine ag 13 h3 (aG 6 ?_);cases h;exact d8
end
noncomputable section
variable(M:Nat→Prop)(w0:aE)(r:aR)(v1:aF)(v2 v3:Int)  
abbrev oQ(n:Nat):ao:=.c (cat Tryz.f68 (pn n))
abbrev OF:Cx:=⟨Tryz.prog,55,M,w0⟩
abbrev Od:=bodyPost Tryz.prog Tryz.f68 (bq M w0 (fun v _=>v=.agg (bi r)))
abbrev vK(m:Nat):List ao:=kl (OF M w0) (Od M w0 r) [.b 0,oQ 15] (cat Tryz.f68 (pn 116)) m::[.b 0,oQ 15]
variable{M w0 r v1 v2 v3}{K:Kn}{n:Nat}
theorem xl(hK:am K)(h:iJ K n v1 v2 v3=some r):aN Tryz.prog 68 [.agg (aI v1),iI v2,iI v3] (fun v _=>v=.agg (bi r)):=by
 refine bc (cat Tryz.f68 (pn 1)) Tryz.func68 Tryz.ntmps68 fun M w0=>(aZ ⟨[(0,.agg (aI v1)),(1,iI v2),(2,iI v3)],[],[],[]⟩ ?_);unfold iJ at h;refine bw (ks':=[oQ 58,.b 0,oQ 15]) 8 ⟨[(1,iI v2),(3,.ptr 3 0),(6,.ptr 6 0),(7,.ptr 7 0),(8,iI 0)],[(3,aI v1),(6,bi dv),(7,bi ({ dv with Content:=v3 }:aR))],[],[3,6,7]⟩ (o6 40 (c:=cat Tryz.f68 [1,1,0,1,0,0]) (by kernel_rfl) (bp (cz (ks':=oQ 1864::oQ 1865 :: .b 1::oQ 467::vK M w0 r 39) 8 (aj 5 ?_))));obtain⟨v4,h1,h⟩:=bind_some h;refine aD (fl hK h1) (ac (aw 2 3 1 (aj 5 ?_)));obtain⟨v5,h2,h⟩:=bind_some h;refine aD (fl hK h2) (ac (bh 7 4 (aj 5 ?_)));obtain⟨v6,h3,h⟩:=bind_some h;refine aD (fY hK h3) (ac (bw (ks':=vK M w0 r 39) 2 ⟨[(1,iI v2),(3,.ptr 3 0),(6,.ptr 6 0),(7,.ptr 7 0),(8,iI 1)],[(3,aI v1),(6,bi dv),(7,bi (⟨⟨v4.1,0,0,0⟩,⟨v6,0,0,0⟩,⟨(max v5.1 0),0,0,0⟩,v3⟩:aR))],[],[3,6,7]⟩ (bt (bp (c9 24 25 1 7 8 (aj 5 ?_))))));obtain⟨v7,h4,h⟩:=bind_some h
 refine aD (fl hK h4) (ac (aw 2 3 1 (aj 5 ?_)));obtain⟨v8,h5,h⟩:=bind_some h;refine aD (fl hK h5) (ac (bh 7 4 (aj 5 ?_)));obtain⟨v9,h6,h⟩:=bind_some h;refine aD (fY hK h6) (ac (bw (ks':=vK M w0 r 38) 2 ⟨[(1,iI v2),(3,.ptr 3 0),(6,.ptr 6 0),(7,.ptr 7 0),(8,iI 2)],[(3,aI v1),(6,bi dv),(7,bi (⟨⟨v4.1,v7.1,0,0⟩,⟨v6,v9,0,0⟩,⟨(max v5.1 0),(max v8.1 0),0,0⟩,v3⟩:aR))],[],[3,6,7]⟩ (bt (bp (c9 24 25 1 7 8 (aj 5 ?_))))));obtain⟨v10,h7,h⟩:=bind_some h;refine aD (fl hK h7) (ac (aw 2 3 1 (aj 5 ?_)));obtain⟨v11,h8,h⟩:=bind_some h;refine aD (fl hK h8) (ac (bh 7 4 (aj 5 ?_)));obtain⟨v12,h9,h⟩:=bind_some h;refine aD (fY hK h9) (ac (bw (ks':=vK M w0 r 37) 2 ⟨[(1,iI v2),(3,.ptr 3 0),(6,.ptr 6 0),(7,.ptr 7 0),(8,iI 3)],[(3,aI v1),(6,bi dv),(7,bi (⟨⟨v4.1,v7.1,v10.1,0⟩,⟨v6,v9,v12,0⟩,⟨(max v5.1 0),(max v8.1 0),(max v11.1 0),0⟩,v3⟩:aR))],[],[3,6,7]⟩ (bt (bp (c9 24 25 1 7 8 (aj 5 ?_))))));obtain⟨v13,h10,h⟩:=bind_some h
 refine aD (fl hK h10) (ac (aw 2 3 1 (aj 5 ?_)));obtain⟨v14,h11,h⟩:=bind_some h;refine aD (fl hK h11) (ac (bh 7 4 (aj 5 ?_)));obtain⟨v15,h12,h⟩:=bind_some h;refine aD (fY hK h12) (ac (bw (ks':=vK M w0 r 36) 2 ⟨[(1,iI v2),(3,.ptr 3 0),(6,.ptr 6 0),(7,.ptr 7 0),(8,iI 4)],[(3,aI v1),(6,bi dv),(7,bi (⟨⟨v4.1,v7.1,v10.1,v13.1⟩,⟨v6,v9,v12,v15⟩,⟨(max v5.1 0),(max v8.1 0),(max v11.1 0),(max v14.1 0)⟩,v3⟩:aR))],[],[3,6,7]⟩ (bt (bp (aG 11 ?_)))));cases h;exact aV
end
noncomputable section
variable(M:Nat→Prop)(w0:aE)(r:Int)(v1:aR)  
variable{M w0 r v1}{K:Kn}{n:Nat}
theorem vS(hK:am K)(h:iQ K n v1=some r):aN Tryz.prog 71 [.agg (bi v1)] (fun v _=>v=iI r):=by
 refine bc (cat Tryz.f71 (pn 1)) Tryz.func71 Tryz.ntmps71 fun M w0=>(aZ ⟨[(0,.agg (bi v1))],[],[],[]⟩ ?_);unfold iQ at h;refine aG 5 ?_;cases h;exact aV
end
noncomputable section
variable(M:Nat→Prop)(w0:aE)(r:Int×Int)(v1:List ah)(v2:aF)(v3 v4 v5:Int)(m1:Nat)(L1:Int→Int→Int→Option (Int×Int))
abbrev AF:Cx:=⟨Tryz.prog,31,M,w0⟩
abbrev BZ:=bodyPost Tryz.prog Tryz.f34 (bq M w0 (fun v _=>v=.tup [iI r.1,iI r.2]))
abbrev YA(ks:List ao)(s:AS):=VE (AF M w0) (BZ M w0 r) ks .normal s
abbrev IY(n:Nat):ao:=.c (cat Tryz.f34 (pn n))
abbrev Bh:List ao:=[.b 0,IY 31]
abbrev aaf:List ao:=kl (AF M w0) (BZ M w0 r) Bh (cat Tryz.f34 (pn 244)) m1::Bh
def Gw:AS:=⟨[(0,.sl (lm aP v1)),(6,iI v3),(7,iI v4),(8,iI v5)],[],[],[]⟩
abbrev G8:Prop:=∀{v3:Int} {v4:Int} {v5:Int},L1 v3 v4 v5=some r→LP (AF M w0) (BZ M w0 r) Bh (cat Tryz.f34 (pn 244)) m1 (Gw v1 v3 v4 v5)
variable{M w0 r v1 v2 v3 v4 v5 m1 L1}{K:Kn}{n:Nat}
theorem Ur(hK:am K)(hL1:G8 M w0 r v1 m1 L1)(h:gS K n v1 L1 v3 v4 v5=some r):YA M w0 r (IY 244::aaf M w0 r m1) (Gw v1 v3 v4 v5):=by
 unfold gS at h;refine bK 4 5 3 2 (aj 2 (az (bv aP v1) (ac ?_)));obtain⟨h3,h⟩|⟨h3,h⟩:=ak h
 ·refine ag 13 h3 (cE 8 9 1 3 5 (aj 2 ?_));obtain⟨h4,h⟩:=aL h;exact az (bN aP aX h4 (eW) (dC)) (ac (ae 5 (bt (hL1 h))))
 ·refine ag 13 h3 (aG 8 ?_);cases h;exact d8
theorem Z7(hK:am K)(m:Nat):G8 M w0 r v1 m (jA K n v1 m):=by
 induction m with
 | zero=>intro v3 v4 v5 h;cases h
 | succ m ih=>intro v3 v4 v5 h;have h:gS K n v1 (jA K n v1 m) v3 v4 v5=some r:=h;exact bp (Ur hK ih h)
theorem KT(hK:am K)(h:jH K n v1 v2=some r):aN Tryz.prog 34 [.sl (lm aP v1),.agg (aI v2)] (fun v _=>v=.tup [iI r.1,iI r.2]):=by
 refine bc (cat Tryz.f34 (pn 1)) Tryz.func34 Tryz.ntmps34 fun M w0=>(aZ ⟨[(0,.sl (lm aP v1)),(1,.agg (aI v2))],[],[],[]⟩ ?_);unfold jH at h;exact ae 10 (cd (p:=pn 122) n (Z7 hK n h))
end
noncomputable section
variable(M:Nat→Prop)(w0:aE)(r:Int)(v1:aF)(v2 v3 v5 v7:Int)  
abbrev Ks(n:Nat):ao:=.c (cat Tryz.f106 (pn n))
abbrev VJ:Cx:=⟨Tryz.prog,37,M,w0⟩
abbrev VO:=bodyPost Tryz.prog Tryz.f106 (bq M w0 (fun v _=>v=iI r))
abbrev Ii(ks:List ao)(s:AS):=VE (VJ M w0) (VO M w0 r) ks .normal s
def VD:AS:=⟨[(7,iI v7)],[],[],[]⟩
def Pi:AS:=⟨[(1,iI v2),(3,.ptr 3 0),(7,iI v5)],[(3,aI v1)],[],[3]⟩
variable{M w0 r v1 v2 v3 v5 v7}{K:Kn}{n:Nat}
theorem GV(hK:am K)(h:my K n v7=some r):Ii M w0 r [Ks 127] (VD v7):=by
 unfold my at h;refine aG 3 ?_;cases h;exact aV
theorem IR(hK:am K)(h:mi K n v1 v2 v5=some r):Ii M w0 r [Ks 31] (Pi v1 v2 v5):=by
 unfold mi at h;refine aw 2 3 1 (aj 3 ?_);obtain⟨v6,h3,h⟩:=bind_some h;refine aD (fl hK h3) (ac (aw 5 3 3 ?_));obtain⟨h4,h⟩|⟨h4,h⟩:=ak h
 ·exact ag 32 h4 (ae 2 (GV hK h))
 ·exact ag 32 h4 (ae 2 (GV hK h))
theorem yj(hK:am K)(h:ik K n v1 v2 v3=some r):aN Tryz.prog 106 [.agg (aI v1),iI v2,iI v3] (fun v _=>v=iI r):=by
 refine bc (cat Tryz.f106 (pn 1)) Tryz.func106 Tryz.ntmps106 fun M w0=>(aZ ⟨[(0,.agg (aI v1)),(1,iI v2),(2,iI v3)],[],[],[]⟩ ?_);unfold ik at h;refine aw 14 15 5 (aj 3 ?_);obtain⟨v4,h1,h⟩:=bind_some h;refine aD (fl hK h1) (ac (aw 5 3 3 ?_));obtain⟨h2,h⟩|⟨h2,h⟩:=ak h
 ·exact ag 20 h2 (ae 2 (IR hK h))
 ·exact ag 20 h2 (ae 2 (IR hK h))
end
noncomputable section
variable(M:Nat→Prop)(w0:aE)(r v1:cu)  
variable{M w0 r v1}{K:Kn}{n:Nat}
theorem iv(hK:am K)(h:fy K n v1=some r):aN Tryz.prog 125 [.agg (gC v1)] (fun v _=>v=.agg (gC r)):=by
 refine bc (cat Tryz.f125 (pn 1)) Tryz.func125 Tryz.ntmps125 fun M w0=>(aZ ⟨[(0,.agg (gC v1))],[],[],[]⟩ ?_);unfold fy at h;refine aw 13 7 5 ?_;obtain⟨h1,h⟩|⟨h1,h⟩:=ak h
 ·refine ag 5 h1 (aG 5 ?_);cases h;exact aV
 ·refine ag 5 h1 (aG 5 ?_);cases h;exact aV
end
noncomputable section
variable(M:Nat→Prop)(w0:aE)(r v1:aF)  
abbrev pu(n:Nat):ao:=.c (cat Tryz.f112 (pn n))
abbrev UO:Cx:=⟨Tryz.prog,37,M,w0⟩
abbrev U9:=bodyPost Tryz.prog Tryz.f112 (bq M w0 (fun v _=>v=.agg (aI r)))
abbrev tV(m:Nat):List ao:=kl (UO M w0) (U9 M w0 r) [.b 0,pu 7] (cat Tryz.f112 (pn 52)) m::[.b 0,pu 7]
variable{M w0 r v1}{K:Kn}{n:Nat}
theorem Qc(hK:am K)(h:rI K n v1=some r):aN Tryz.prog 112 [.agg (aI v1)] (fun v _=>v=.agg (aI r)):=by
 refine bc (cat Tryz.f112 (pn 1)) Tryz.func112 Tryz.ntmps112 fun M w0=>(aZ ⟨[(0,.agg (aI v1))],[],[],[]⟩ ?_);unfold rI at h;refine bw (ks':=[pu 26,.b 0,pu 7]) 6 ⟨[(1,.ptr 1 0),(2,.ptr 2 0),(3,iI 0)],[(1,aI v1),(2,aI cj)],[],[1,2]⟩ (o6 40 (c:=cat Tryz.f112 [1,0,1,0,0]) (by kernel_rfl) (bp (cz (ks':=pu 840::pu 841 :: .b 1::pu 211::tV M w0 r 39) 8 (aj 5 ?_))));obtain⟨v2,h1,h⟩:=bind_some h;refine aD (iv hK h1) (ac (aj 5 ?_));obtain⟨v3,h2,h⟩:=bind_some h;refine aD (iv hK h2) (ac (bw (ks':=tV M w0 r 39) 2 ⟨[(1,.ptr 1 0),(2,.ptr 2 0),(3,iI 1)],[(1,aI ({ v1 with Margin:=⟨v2,v1.Margin.a1,v1.Margin.a2,v1.Margin.a3⟩,Padding:=⟨v3,v1.Padding.a1,v1.Padding.a2,v1.Padding.a3⟩ }:aF)),(2,aI cj)],[],[1,2]⟩ (bt (bp (c9 24 25 1 7 8 (aj 5 ?_))))));obtain⟨v4,h3,h⟩:=bind_some h;refine aD (iv hK h3) (ac (aj 5 ?_));obtain⟨v5,h4,h⟩:=bind_some h;refine aD (iv hK h4) (ac (bw (ks':=tV M w0 r 38) 2 ⟨[(1,.ptr 1 0),(2,.ptr 2 0),(3,iI 2)],[(1,aI ({ v1 with Margin:=⟨v2,v4,v1.Margin.a2,v1.Margin.a3⟩,Padding:=⟨v3,v5,v1.Padding.a2,v1.Padding.a3⟩ }:aF)),(2,aI cj)],[],[1,2]⟩ (bt (bp (c9 24 25 1 7 8 (aj 5 ?_))))))
 obtain⟨v6,h5,h⟩:=bind_some h;refine aD (iv hK h5) (ac (aj 5 ?_));obtain⟨v7,h6,h⟩:=bind_some h;refine aD (iv hK h6) (ac (bw (ks':=tV M w0 r 37) 2 ⟨[(1,.ptr 1 0),(2,.ptr 2 0),(3,iI 3)],[(1,aI ({ v1 with Margin:=⟨v2,v4,v6,v1.Margin.a3⟩,Padding:=⟨v3,v5,v7,v1.Padding.a3⟩ }:aF)),(2,aI cj)],[],[1,2]⟩ (bt (bp (c9 24 25 1 7 8 (aj 5 ?_))))));obtain⟨v8,h7,h⟩:=bind_some h;refine aD (iv hK h7) (ac (aj 5 ?_));obtain⟨v9,h8,h⟩:=bind_some h;refine aD (iv hK h8) (ac (bw (ks':=tV M w0 r 36) 2 ⟨[(1,.ptr 1 0),(2,.ptr 2 0),(3,iI 4)],[(1,aI ({ v1 with Margin:=⟨v2,v4,v6,v8⟩,Padding:=⟨v3,v5,v7,v9⟩ }:aF)),(2,aI cj)],[],[1,2]⟩ (bt (bp (EY 2 3 9 (aj 2 ?_))))));obtain⟨v10,h9,h⟩:=bind_some h;refine aD (iv hK h9) (ac (aw 2 3 1 (aj 2 ?_)));obtain⟨v11,h10,h⟩:=bind_some h;refine aD (iv hK h10) (ac (aw 2 3 1 (aj 2 ?_)));obtain⟨v12,h11,h⟩:=bind_some h;refine aD (iv hK h11) (ac (aG 3 ?_));cases h;exact aV
end
noncomputable section
variable(M:Nat→Prop)(w0:aE)(r:Int×Bool)(v1:cu)  
variable{M w0 r v1}{K:Kn}{n:Nat}
theorem L0(hK:am K)(h:ln K n v1=some r):aN Tryz.prog 113 [.agg (gC v1)] (fun v _=>v=.tup [iI r.1,.bool r.2]):=by
 refine bc (cat Tryz.f113 (pn 1)) Tryz.func113 Tryz.ntmps113 fun M w0=>(aZ ⟨[(0,.agg (gC v1))],[],[],[]⟩ ?_);unfold ln at h;refine aw 13 7 5 ?_;obtain⟨h1,h⟩|⟨h1,h⟩:=ak h
 ·refine ag 6 h1 (aG 5 ?_);cases h;exact d8
 ·refine ag 6 h1 (dU 2 3 3 (aj 2 ?_));obtain⟨v2,h2,h⟩:=bind_some h;refine aD (Ag hK h2) (ac (aG 1 ?_));cases h;exact d8
end
noncomputable section
variable(M:Nat→Prop)(w0:aE)(r:Int×Int)(v1:aF)(v2 v3:Int)(v4:aF)(v8 v9:Int)  
abbrev aaq(n:Nat):ao:=.c (cat Tryz.f84 (pn n))
abbrev NX:Cx:=⟨Tryz.prog,39,M,w0⟩
abbrev Tx:=bodyPost Tryz.prog Tryz.f84 (bq M w0 (fun v _=>v=.tup [iI r.1,iI r.2]))
abbrev Sx(ks:List ao)(s:AS):=VE (NX M w0) (Tx M w0 r) ks .normal s
def QN:AS:=⟨[(1,iI v8),(2,iI v9),(3,.ptr 3 0)],[(3,aI v4)],[],[3]⟩
variable{M w0 r v1 v2 v3 v4 v8 v9}{K:Kn}{n:Nat}
theorem Hm(hK:am K)(h:nR K n v4 v8 v9=some r):Sx M w0 r [aaq 127] (QN v4 v8 v9):=by
 unfold nR at h;refine aw 2 3 1 (aj 1 ?_);obtain⟨v10,h6,h⟩:=bind_some h;refine aD (xl hK h6) ?_;obtain⟨v11,h7,h⟩:=bind_some h;refine aD (vS hK h7) (ac (aw 2 3 1 (bF [1,2,3,10] [3] [] ?_)));obtain⟨v12,h8,h⟩:=bind_some h;obtain⟨v13,h9,h⟩:=bind_some h;refine bP 2 (nu 29 [.agg (aI v4),iI v8,iI v12,iI v11,iI (aa (v12+v11)),.agg (aI v4),iI v9,iI v13,iI v11,iI (aa (v13+v11))]) [] [] [bR Tryz.prog 39 Tryz.f84 (pn 510) 10,bR Tryz.prog 39 Tryz.f84 (pn 510) 11] (ay (vz 2) (ai (bU 0 1 31 (yj hK h8)) (ay [.v 0 1,.v 0 1,.v 0 2,.v 0 2] (ai (bU 0 1 36 (yj hK h9)) (ay [.v 0 2,.v 0 2] (ai (bS 0) (ai (bS 1) bO))))))) (aG 1 ?_);cases h;exact d8
theorem Z4(hK:am K)(h:rJ K n v1 v2 v3=some r):aN Tryz.prog 84 [.agg (aI v1),iI v2,iI v3] (fun v _=>v=.tup [iI r.1,iI r.2]):=by
 refine bc (cat Tryz.f84 (pn 1)) Tryz.func84 Tryz.ntmps84 fun M w0=>(aZ ⟨[(0,.agg (aI v1)),(1,iI v2),(2,iI v3)],[],[],[]⟩ ?_);unfold rJ at h;refine aw 6 7 3 (aj 1 ?_);obtain⟨v4,h1,h⟩:=bind_some h;refine aD (Qc hK h1) (ac (aw 2 3 1 (aj 1 ?_)));obtain⟨v5,h2,h⟩:=bind_some h;refine aD (fY hK h2) (ac (aw 2 3 1 (aj 1 ?_)));obtain⟨v6,h3,h⟩:=bind_some h;refine aD (fY hK h3) (ac (aw 2 3 1 (aj 2 ?_)));obtain⟨v7,h4,h⟩:=bind_some h;refine aD (L0 hK h4) (ac (aw 5 3 3 ?_));obtain⟨h5,h⟩|⟨h5,h⟩:=ak h
 ·exact ag 23 h5 (ae 4 (Hm hK h))
 ·exact ag 23 h5 (ae 2 (Hm hK h))
end
noncomputable section
variable(M:Nat→Prop)(w0:aE)(r:Int×Int)(v1:ah)  
variable{M w0 r v1}{K:Kn}{n:Nat}
theorem Nm(hK:am K)(h:qG K n v1=some r):aN Tryz.prog 46 [.agg (aX v1)] (fun v _=>v=.tup [iI r.1,iI r.2]):=by
 refine bc (cat Tryz.f46 (pn 1)) Tryz.func46 Tryz.ntmps46 fun M w0=>(aZ ⟨[(0,.agg (aX v1))],[],[],[]⟩ ?_);unfold qG at h;refine aw 6 7 3 (aj 1 ?_);obtain⟨v2,h1,h⟩:=bind_some h;refine aD (hK.lI h1) (ac (aw 2 3 1 (aj 4 ?_)));obtain⟨v3,h2,h⟩:=bind_some h;refine aD (Z4 hK h2) (ac (aG 1 ?_));cases h;exact d8
end
noncomputable section
variable(M:Nat→Prop)(w0:aE)(r:List ah)(v1:ah)(v8:Int)(v9 v11:(List ah))(m1:Nat)(L1:Int→(List ah)→Option (List ah))
abbrev Cg:Cx:=⟨Tryz.prog,27,M,w0⟩
abbrev zu:=bodyPost Tryz.prog Tryz.f110 (bq M w0 (fun v s=>v=.ref 25∧look 25 s.r=some ⟨52,59,lm aP r⟩))
abbrev F9(ks:List ao)(s:AS):=VE (Cg M w0) (zu M w0 r) ks .normal s
abbrev zr(n:Nat):ao:=.c (cat Tryz.f110 (pn n))
abbrev CV:List ao:=[.b 0,zr 15]
abbrev Jn:List ao:=kl (Cg M w0) (zu M w0 r) CV (cat Tryz.f110 (pn 116)) m1::CV
def UI:AS:=⟨[(1,.ptr 1 0),(3,.ref 25),(4,iI v8)],[(1,aX v1)],[(25,⟨52,59,lm aP v11⟩)],[1,25]⟩
def JK:AS:=⟨[(1,.ptr 1 0),(3,.ref 25),(4,iI v8)],[(1,aX v1)],[(25,⟨52,59,lm aP v9⟩)],[1,25]⟩
abbrev A1:Prop:=∀{v8:Int} {v9:(List ah)},L1 v8 v9=some r→LP (Cg M w0) (zu M w0 r) CV (cat Tryz.f110 (pn 116)) m1 (JK v1 v8 v9)
variable{M w0 r v1 v8 v9 v11 m1 L1}{K:Kn}{n:Nat}
theorem ES(hK:am K)(hL1:A1 M w0 r v1 m1 L1)(h:m4 K n v1 v8 L1 v11=some r):F9 M w0 r (.b 1::zr 467::Jn M w0 r m1) (UI v1 v8 v11):=by
 unfold m4 at h;exact ae 2 (bt (hL1 h))
theorem Mz(hK:am K)(hL1:A1 M w0 r v1 m1 L1)(h:lu K n v1 L1 v8 v9=some r):F9 M w0 r (zr 116::Jn M w0 r m1) (JK v1 v8 v9):=by
 unfold lu at h;refine bK 4 5 3 2 (aj 3 (az (bv aP v1.Kids) (ac ?_)));obtain⟨h15,h⟩|⟨h15,h⟩:=ak h
 ·refine ag 9 h15 (cE 8 9 1 3 5 (aj 3 ?_));obtain⟨h16,h⟩:=aL h;refine az (bN aP aX h16 (eW) (dC)) (aJ 5 1 ?_);obtain⟨v10,h17,h⟩:=bind_some h;refine aD (H7 hK h17) (ac ?_);obtain⟨h18,h⟩|⟨h18,h⟩:=ak h
  ·refine ag 17 h18 (bh 2 1 (aj 4 ?_));obtain⟨h19,h⟩:=aL h;refine az (bN aP aX h19 (eW) (dC)) (aJ 6 1 (az (er aP ([(gD v1.Kids v8)]:List ah) (new:=[aX (gD v1.Kids v8)]) (by simp only[List.map_cons,List.map_nil,dC])) ?_));obtain⟨h20,h⟩:=aL h;exact az (cp 25 25 52 59 aP (rfl) (eW) h20) (ac (ae 0 (ES hK hL1 h)))
  ·exact ag 17 h18 (ae 2 (ES hK hL1 h))
 ·refine ag 9 h15 (aG 8 ?_);cases h;exact d9
theorem PQ(hK:am K)(m:Nat):A1 M w0 r v1 m (mZ K n v1 m):=by
 induction m with
 | zero=>intro v8 v9 h;cases h
 | succ m ih=>intro v8 v9 h;have h:lu K n v1 (mZ K n v1 m) v8 v9=some r:=h;exact bp (Mz hK ih h)
theorem AB(hK:am K)(h:lg K n v1=some r):aN Tryz.prog 110 [.agg (aX v1)] (fun v s=>v=.ref 25∧look 25 s.r=some ⟨52,59,lm aP r⟩):=by
 refine bc (cat Tryz.f110 (pn 1)) Tryz.func110 Tryz.ntmps110 fun M w0=>(aZ ⟨[(0,.agg (aX v1))],[],[],[]⟩ ?_);unfold lg at h;exact eO 58 0 15 8 (bF [1,3,4] [1] [] (eX 25 3 52 59 (ae 0 (cd (p:=pn 58) n (PQ hK n h)))))
end
noncomputable section
variable(M:Nat→Prop)(w0:aE)(r:Bool)(v1:ah)(v2:List ah)(v4:Int)(m1:Nat)(L1:Int→Option Bool)
abbrev DI:Cx:=⟨Tryz.prog,19,M,w0⟩
abbrev B6:=bodyPost Tryz.prog Tryz.f111 (bq M w0 (fun v _=>v=.bool r))
abbrev SJ(ks:List ao)(s:AS):=VE (DI M w0) (B6 M w0 r) ks .normal s
abbrev wP(n:Nat):ao:=.c (cat Tryz.f111 (pn n))
abbrev Ea:List ao:=[.b 0,wP 15]
abbrev Mf:List ao:=kl (DI M w0) (B6 M w0 r) Ea (cat Tryz.f111 (pn 116)) m1::Ea
def JX:AS:=⟨[(3,.ref 1006),(4,iI v4)],[],[(1006,⟨52,59,lm aP v2⟩)],[1006]⟩
abbrev Gp:Prop:=∀{v4:Int},L1 v4=some r→LP (DI M w0) (B6 M w0 r) Ea (cat Tryz.f111 (pn 116)) m1 (JX v2 v4)
variable{M w0 r v1 v2 v4 m1 L1}{K:Kn}{n:Nat}
theorem OE(hK:am K)(hL1:Gp M w0 r v2 m1 L1)(h:ml K n v2 L1 v4=some r):SJ M w0 r (wP 116::Mf M w0 r m1) (JX v2 v4):=by
 unfold ml at h;refine bK 4 5 3 2 (aj 2 (az (bv aP v2) (ac ?_)));obtain⟨h6,h⟩|⟨h6,h⟩:=ak h
 ·refine ag 10 h6 (cE 8 9 1 3 5 (aj 2 ?_));obtain⟨h7,h⟩:=aL h;refine az (dh 1006 59 aP h7) (aJ 4 1 (az (co 3 0 aP aX (ci h7).2 (dC)) (ac ?_)));obtain⟨v5,h8,h⟩:=bL h;refine bw (ks':=wP 1865 :: .b 1::wP 467::Mf M w0 r m1) 0 ⟨[(3,.ref 1006),(4,iI v4),(18,.bool v5)],[],[(1006,⟨52,59,lm aP v2⟩)],[1006]⟩ ?_ (by subst h8;kernel_rfl);obtain⟨h9,h⟩|⟨h9,h⟩:=ak h
  ·refine ag 18 h9 (aG 9 ?_);cases h;exact aV
  ·exact ag 18 h9 (ae 4 (bt (hL1 h)))
 ·refine ag 10 h6 (aG 8 ?_);cases h;exact aV
theorem X5(hK:am K)(m:Nat):Gp M w0 r v2 m (lz K n v2 m):=by
 induction m with
 | zero=>intro v4 h;cases h
 | succ m ih=>intro v4 h;have h:ml K n v2 (lz K n v2 m) v4=some r:=h;exact bp (OE hK ih h)
theorem Ft(hK:am K)(h:kB K n v1=some r):aN Tryz.prog 111 [.agg (aX v1)] (fun v _=>v=.bool r):=by
 refine bc (cat Tryz.f111 (pn 1)) Tryz.func111 Tryz.ntmps111 fun M w0=>(aZ ⟨[(0,.agg (aX v1))],[],[],[]⟩ ?_);unfold kB at h;refine aw 6 7 3 (aj 1 ?_);obtain⟨v2,h1,h⟩:=bind_some h;exact dm 1006 (AB hK h1) (fH 25) (ac (ae 4 (cd (p:=pn 58) n (X5 hK n h))))
end
noncomputable section
variable(M:Nat→Prop)(w0:aE)(r:Int×Int)(v1:ah)(v2:List ah)(v8 v9 v10:Int)(m1:Nat)(L1:Int→Int→Int→Option (Int×Int))
abbrev A6:Cx:=⟨Tryz.prog,52,M,w0⟩
abbrev BS:=bodyPost Tryz.prog Tryz.f83 (bq M w0 (fun v _=>v=.tup [iI r.1,iI r.2]))
abbrev Zt(ks:List ao)(s:AS):=VE (A6 M w0) (BS M w0 r) ks .normal s
abbrev FW(n:Nat):ao:=.c (cat Tryz.f83 (pn n))
abbrev C0:List ao:=[.b 0,FW 127]
abbrev Pe:List ao:=kl (A6 M w0) (BS M w0 r) C0 (cat Tryz.f83 (pn 1012)) m1::C0
def Jv:AS:=⟨[(4,.ref 1013),(7,iI v8),(8,iI v9),(9,iI v10)],[],[(1013,⟨52,59,lm aP v2⟩)],[1013]⟩
abbrev Lz:Prop:=∀{v8:Int} {v9:Int} {v10:Int},L1 v8 v9 v10=some r→LP (A6 M w0) (BS M w0 r) C0 (cat Tryz.f83 (pn 1012)) m1 (Jv v2 v8 v9 v10)
variable{M w0 r v1 v2 v8 v9 v10 m1 L1}{K:Kn}{n:Nat}
theorem W0(hK:am K)(hL1:Lz M w0 r v2 m1 L1)(h:pk K n v2 L1 v8 v9 v10=some r):Zt M w0 r (FW 1012::Pe M w0 r m1) (Jv v2 v8 v9 v10):=by
 unfold pk at h;refine bK 4 5 3 2 (aj 2 (az (bv aP v2) (ac ?_)));obtain⟨h10,h⟩|⟨h10,h⟩:=ak h
 ·refine ag 31 h10 (cE 8 9 1 3 5 (aj 2 ?_));obtain⟨h11,h⟩:=aL h;refine az (dh 1013 59 aP h11) (az (co 52 0 aP aX (ci h11).2 (dC)) ?_);obtain⟨v11,h12,h⟩:=bind_some h;exact aD (Nm hK h12) (ac (ae 5 (bt (hL1 h))))
 ·refine ag 31 h10 (lH 2 3 6 (aj 1 ?_));obtain⟨v12,h13,h⟩:=bind_some h;refine aD (fY hK h13) (aJ 3 1 ?_);obtain⟨v13,h14,h⟩:=bind_some h;refine aD (fY hK h14) (ac (aG 1 ?_));cases h;exact d8
theorem PO(hK:am K)(m:Nat):Lz M w0 r v2 m (rp K n v2 m):=by
 induction m with
 | zero=>intro v8 v9 v10 h;cases h
 | succ m ih=>intro v8 v9 v10 h;have h:pk K n v2 (rp K n v2 m) v8 v9 v10=some r:=h;exact bp (W0 hK ih h)
theorem Fe(hK:am K)(h:ld K n v1=some r):aN Tryz.prog 83 [.agg (aX v1)] (fun v _=>v=.tup [iI r.1,iI r.2]):=by
 refine bc (cat Tryz.f83 (pn 1)) Tryz.func83 Tryz.ntmps83 fun M w0=>(aZ ⟨[(0,.agg (aX v1))],[],[],[]⟩ ?_);unfold ld at h;refine aw 6 7 3 (aj 1 ?_);obtain⟨v2,h1,h⟩:=bind_some h;refine dm 1013 (AB hK h1) (fH 25) (ac (bK 4 5 3 2 (aj 1 ?_)));obtain⟨v3,h2,h⟩:=bind_some h;refine aD (Ft hK h2) (ac ?_);obtain⟨h3,h⟩|⟨h3,h⟩:=ak h
 ·refine ag 16 h3 (aw 4 5 2 (aj 3 (iP 1013 ?_)));obtain⟨v4,h4,h⟩:=bind_some h;refine aD (KT hK h4) (ac (aw 2 3 1 (aj 1 ?_)));obtain⟨v5,h5,h⟩:=bind_some h;refine aD (fY hK h5) (aJ 3 1 ?_);obtain⟨v6,h6,h⟩:=bind_some h;refine aD (fY hK h6) (ac (aG 2 ?_));cases h;exact d8
 ·exact ag 16 h3 (ae 10 (cd (p:=pn 506) n (PO hK n h)))
end
noncomputable section
variable(M:Nat→Prop)(w0:aE)(r:Int)(v1:ah)(v2 v3 v8:Int)  
abbrev QS(n:Nat):ao:=.c (cat Tryz.f69 (pn n))
abbrev TP:Cx:=⟨Tryz.prog,42,M,w0⟩
abbrev Ui:=bodyPost Tryz.prog Tryz.f69 (bq M w0 (fun v _=>v=iI r))
abbrev So(ks:List ao)(s:AS):=VE (TP M w0) (Ui M w0 r) ks .normal s
def U0:AS:=⟨[(1,iI v3),(2,.ptr 2 0),(5,iI v8)],[(2,aX v1)],[],[2]⟩
variable{M w0 r v1 v2 v3 v8}{K:Kn}{n:Nat}
theorem Jx(hK:am K)(h:kM K n v1 v3 v8=some r):So M w0 r [QS 31] (U0 v1 v3 v8):=by
 unfold kM at h;refine aw 2 3 1 (aj 4 ?_);obtain⟨v9,h7,h⟩:=bind_some h;refine aD (yj hK h7) (ac (aG 1 ?_));cases h;exact aV
theorem XD(hK:am K)(h:kY K n v1 v2=some r):aN Tryz.prog 69 [.agg (aX v1),iI v2] (fun v _=>v=iI r):=by
 refine bc (cat Tryz.f69 (pn 1)) Tryz.func69 Tryz.ntmps69 fun M w0=>(aZ ⟨[(0,.agg (aX v1)),(1,iI v2)],[],[],[]⟩ ?_);unfold kY at h;refine aw 6 7 3 (aj 1 ?_);obtain⟨v3,h1,h⟩:=bind_some h;refine aD (fY hK h1) (ac (aw 2 3 1 (aj 4 ?_)));obtain⟨v4,h2,h⟩:=bind_some h;refine aD (fl hK h2) (ac (aw 5 3 3 ?_));obtain⟨h3,h⟩|⟨h3,h⟩:=ak h
 ·refine ag 20 h3 (aw 4 5 2 (aj 1 ?_));obtain⟨v5,h4,h⟩:=bind_some h;refine aD (Fe hK h4) (ac (aj 4 ?_));obtain⟨v6,h5,h⟩:=bind_some h;refine aD (xl hK h5) ?_;obtain⟨v7,h6,h⟩:=bind_some h;exact aD (vS hK h6) (ac (ae 0 (Jx hK h)))
 ·exact ag 20 h3 (ae 2 (Jx hK h))
end
end Go.Proofs.YtnpmlepplfaijaaGreat

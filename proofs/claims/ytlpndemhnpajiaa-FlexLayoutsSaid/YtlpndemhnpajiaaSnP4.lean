/- The runs of the functions that FlexLayouts reaches do what their plain forms say, part 4. Made by a program. -/
import Derived.Test.YtlpndemhnpajiaaSnGk
import Derived.Test.YtlpndemhnpajiaaSnP3
namespace Go.Proofs.Ytlpndemhnpajiaa
open Go.RowKit
set_option maxRecDepth 20000
set_option linter.all false
set_option linter.unusedVariables false
set_option linter.unusedSimpArgs false
def f9:=pth 16 1
def p98_1:=pth 15 10100
def lA:=pth 6 101011
def fK:=pth 7 1
def p98_4:=pth 6 101010100
def ou:=pth 15 10100111
def p98_6:=pth 15 1010011001111
def p98_7:=pth 15 10100110011110
def p98_8:=pth 15 1010010
def p98_9:=pth 15 1010011
def p98_10:=pth 15 10100110010
def p98_11:=pth 15 10100110011
def p98_12:=pth 15 101001100110
def p98_13:=pth 15 101001100111
def p98_14:=pth 15 1010011001110
def p98_15:=pth 12 1
def p98_16:=pth 13 10
def p98_17:=pth 14 1
def p98_18:=pth 15 100
def p98_19:=pth 15 101
def p98_20:=pth 15 1010
def p98_21:=pth 11 1011
def hP:=pth 10 1
def p98_23:=pth 11 100
def p98_24:=pth 11 101
def p98_25:=pth 11 1010
def p98_26:=pth 9 1001
def p98_27:=pth 9 100100
def p98_28:=pth 9 100101
def p98_29:=pth 9 100111
def p98_30:=pth 9 100111011
def p98_31:=pth 9 1001110110
def p98_32:=pth 9 10011111
def p98_33:=pth 9 1001111100
def p98_34:=pth 9 1001111101
def p98_35:=pth 9 100111111
def od:=pth 9 1
def p98_37:=pth 9 1000
def p98_38:=pth 8 100111
def p98_39:=pth 8 1001110
def p98_40:=pth 7 10
def p98_41:=pth 8 1
def p98_42:=pth 8 1001
def p98_43:=pth 8 10010
def p98_44:=pth 8 100110
def p98_45:=pth 6 10101010010
def p98_46:=pth 6 10101010011
def p98_47:=pth 6 10101010011000
def p98_48:=pth 6 10101010011001
def p98_49:=pth 6 101010100111
def p98_50:=pth 6 101
def p98_51:=pth 6 1010100
def p98_52:=pth 6 1010101
def p98_53:=pth 6 10101010
def p98_54:=pth 6 10110
def p98_55:=pth 6 10111
def p98_56:=pth 6 101110
def p98_57:=pth 6 101111
noncomputable section
abbrev eI (M:Nat→Prop) (w0:Base):Cx:=⟨Try.prog,259,M,w0⟩
abbrev q98 (M:Nat→Prop) (w0:Base) (r:aa):=bodyPost Try.prog Try.f98 (RetQ M w0 (fun v s=>v = .agg (List.set (az ({ r with Kids:=[] }:aa)) 66 (.ref 1054))∧look 1054 s.r=some ⟨67,67,lm au r.Kids⟩))
abbrev aV (p:List Nat):Kont:=.c (cat Try.f98 p)
abbrev kT (M:Nat→Prop) (w0:Base) (r:aa) (m2:Nat):Kont:=kl (eI M w0) (q98 M w0 r) [.b 4,aV f9] (cat Try.f98 p98_1) m2
abbrev k98_1 (M:Nat→Prop) (w0:Base) (r:aa) (m1:Nat):Kont:=kl (eI M w0) (q98 M w0 r) [.b 0,aV lA,aV fK] (cat Try.f98 p98_4) m1
def s98_j10 (v1:ab) (v2:ay) (v6:(List ab)×Bool) (v19:List aa) (v25:Int) (v33 v34:ah) (v35:Bool) (v39 v40 v47:Int) (v54:List aa):AS:=⟨[(6,.ptr 6 0),(10,.ptr 10 0),(11,.ptr 11 0),(12,.sl (lm aB v6.1)),(13,.bool v6.2),(15,iI v25),(199,iI (v19.length:Int)),(200,iI v47)],[(6,bh v2),(10,List.set (az bv) 66 (.nils)),(11,List.set (az (⟨1,v1.Node,v2.Margin.a3,0,(w64 (v2.Content+v39)),v40,0,⟨#[]⟩,v1.Style,v33,v34,v35,[]⟩:aa)) 66 (.ref 1054))],[(1054,⟨67,67,lm au v54⟩)],[6,10,11,1054]⟩
def s98_j9 (v1:ab) (v2:ay) (v6:(List ab)×Bool) (v19:List aa) (v25:Int) (v33 v34:ah) (v35:Bool) (v39 v40 v47:Int) (v50:List aa) (v52:Bool):AS:=⟨[(6,.ptr 6 0),(10,.ptr 10 0),(11,.ptr 11 0),(12,.sl (lm aB v6.1)),(13,.bool v6.2),(15,iI v25),(24,iI v47),(199,iI (v19.length:Int)),(200,iI v47),(244,.bool v52)],[(6,bh v2),(10,List.set (az bv) 66 (.nils)),(11,List.set (az (⟨1,v1.Node,v2.Margin.a3,0,(w64 (v2.Content+v39)),v40,0,⟨#[]⟩,v1.Style,v33,v34,v35,[]⟩:aa)) 66 (.ref 1054))],[(1054,⟨67,67,lm au v50⟩)],[6,10,11,1054]⟩
def s98_l11 (v1:ab) (v2:ay) (v6:(List ab)×Bool) (v19:List aa) (v25:Int) (v33 v34:ah) (v35:Bool) (v39 v40 v47:Int) (v48:List aa):AS:=⟨[(6,.ptr 6 0),(10,.ptr 10 0),(11,.ptr 11 0),(12,.sl (lm aB v6.1)),(13,.bool v6.2),(15,iI v25),(199,iI (v19.length:Int)),(200,iI v47)],[(6,bh v2),(10,List.set (az bv) 66 (.nils)),(11,List.set (az (⟨1,v1.Node,v2.Margin.a3,0,(w64 (v2.Content+v39)),v40,0,⟨#[]⟩,v1.Style,v33,v34,v35,[]⟩:aa)) 66 (.ref 1054))],[(1054,⟨67,67,lm au v48⟩)],[6,10,11,1054]⟩
def s98_j8 (v1:ab) (v2:ay) (v6:(List ab)×Bool) (v19:List aa) (v25:Int) (v33 v34:ah) (v35:Bool) (v38:Int):AS:=⟨[(6,.ptr 6 0),(10,.ptr 10 0),(11,.ptr 11 0),(12,.sl (lm aB v6.1)),(13,.bool v6.2),(14,iI v38),(15,iI v25)],[(6,bh v2),(10,List.set (az bv) 66 (.nils)),(11,List.set (az ({ bv with Kind:=1,Node:=v1.Node,Style:=v1.Style,Before:=v33,After:=v34,Empty:=v35 }:aa)) 66 (.ref 1054))],[(1054,⟨67,67,lm au v19⟩)],[6,10,11,1054]⟩
def s98_j7 (v1:ab) (v2:ay) (v6:(List ab)×Bool) (v19:List aa) (v25 v32:Int) (v33 v34:ah) (v35:Bool) (v36:Int×Bool) (v37:Bool):AS:=⟨[(6,.ptr 6 0),(10,.ptr 10 0),(11,.ptr 11 0),(12,.sl (lm aB v6.1)),(13,.bool v6.2),(14,iI (max v32 0)),(15,iI v25),(22,iI v36.1),(166,.bool v37)],[(6,bh v2),(10,List.set (az bv) 66 (.nils)),(11,List.set (az ({ bv with Kind:=1,Node:=v1.Node,Style:=v1.Style,Before:=v33,After:=v34,Empty:=v35 }:aa)) 66 (.ref 1054))],[(1054,⟨67,67,lm au v19⟩)],[6,10,11,1054]⟩
def s98_j6 (v1:ab) (v2:ay) (v6:(List ab)×Bool) (v19:List aa) (v25 v32:Int) (v33 v34:ah) (v35:Bool):AS:=⟨[(5,.ptr 5 0),(6,.ptr 6 0),(10,.ptr 10 0),(11,.ptr 11 0),(12,.sl (lm aB v6.1)),(13,.bool v6.2),(14,iI v32),(15,iI v25)],[(5,ax v1),(6,bh v2),(10,List.set (az bv) 66 (.nils)),(11,List.set (az ({ bv with Kind:=1,Node:=v1.Node,Style:=v1.Style,Before:=v33,After:=v34,Empty:=v35 }:aa)) 66 (.ref 1054))],[(1054,⟨67,67,lm au v19⟩)],[5,6,10,11,1054]⟩
def s98_j5 (v1:ab) (v2:ay) (v4:Bool) (v6:(List ab)×Bool) (v15:Int) (v16:Bool) (v17 v18:ah) (v19:List aa) (v21:ah) (v25:Int) (v26:ah) (v27:Bool):AS:=⟨[(3,.bool v4),(5,.ptr 5 0),(6,.ptr 6 0),(10,.ptr 10 0),(11,.ptr 11 0),(12,.sl (lm aB v6.1)),(13,.bool v6.2),(14,iI v15),(15,iI v25),(16,.ptr 16 0),(17,.ptr 17 0),(18,.bool v16),(113,.bool v27)],[(5,ax v1),(6,bh v2),(10,List.set (az bv) 66 (.nils)),(11,List.set (az ({ bv with Kind:=1,Node:=v1.Node,Style:=v1.Style,Before:=v26,After:=v21 }:aa)) 66 (.ref 1054)),(16,bH v17),(17,bH v18)],[(1054,⟨67,67,lm au v19⟩)],[5,6,10,11,16,17,1054]⟩
def s98_j4 (v1:ab) (v2:ay) (v3 v4:Bool) (v6:(List ab)×Bool) (v15:Int) (v16:Bool) (v17 v18:ah) (v19:List aa) (v21:ah) (v25:Int) (v26:ah):AS:=⟨[(2,.bool v3),(3,.bool v4),(5,.ptr 5 0),(6,.ptr 6 0),(10,.ptr 10 0),(11,.ptr 11 0),(12,.sl (lm aB v6.1)),(13,.bool v6.2),(14,iI v15),(15,iI v25),(16,.ptr 16 0),(17,.ptr 17 0),(18,.bool v16)],[(5,ax v1),(6,bh v2),(10,List.set (az bv) 66 (.nils)),(11,List.set (az ({ bv with Kind:=1,Node:=v1.Node,Style:=v1.Style,Before:=v26,After:=v21 }:aa)) 66 (.ref 1054)),(16,bH v17),(17,bH v18)],[(1054,⟨67,67,lm au v19⟩)],[5,6,10,11,16,17,1054]⟩
def s98_j3 (v1:ab) (v2:ay) (v3 v4:Bool) (v6:(List ab)×Bool) (v15:Int) (v16:Bool) (v17 v18:ah) (v19:List aa) (v20 v21:ah) (v23:Bool):AS:=⟨[(2,.bool v3),(3,.bool v4),(5,.ptr 5 0),(6,.ptr 6 0),(10,.ptr 10 0),(11,.ptr 11 0),(12,.sl (lm aB v6.1)),(13,.bool v6.2),(14,iI v15),(15,iI 0),(16,.ptr 16 0),(17,.ptr 17 0),(18,.bool v16),(98,.bool v23)],[(5,ax v1),(6,bh v2),(10,List.set (az bv) 66 (.nils)),(11,List.set (az ({ bv with Kind:=1,Node:=v1.Node,Style:=v1.Style,Before:=v20,After:=v21 }:aa)) 66 (.ref 1054)),(16,bH v17),(17,bH v18)],[(1054,⟨67,67,lm au v19⟩)],[5,6,10,11,16,17,1054]⟩
def s98_j2 (v1:ab) (v2:ay) (v3 v4:Bool) (v6:(List ab)×Bool) (v15:Int) (v16:Bool) (v17 v18:ah) (v19:List aa):AS:=⟨[(2,.bool v3),(3,.bool v4),(5,.ptr 5 0),(6,.ptr 6 0),(10,.ptr 10 0),(11,.ptr 11 0),(12,.sl (lm aB v6.1)),(13,.bool v6.2),(14,iI v15),(15,iI 0),(16,.ptr 16 0),(17,.ptr 17 0),(18,.bool v16)],[(5,ax v1),(6,bh v2),(10,List.set (az bv) 66 (.nils)),(11,List.set (az ({ bv with Kind:=1,Node:=v1.Node,Style:=v1.Style }:aa)) 66 (.ref 1054)),(16,bH v17),(17,bH v18)],[(1054,⟨67,67,lm au v19⟩)],[5,6,10,11,16,17,1054]⟩
def s98_l1 (v1:ab) (v2:ay) (v3 v4:Bool) (v5:bw) (v6:(List ab)×Bool) (v9:Int) (v10:List aa):AS:=⟨[(2,.bool v3),(3,.bool v4),(5,.ptr 5 0),(6,.ptr 6 0),(9,.ptr 9 0),(10,.ptr 10 0),(11,.ptr 11 0),(12,.sl (lm aB v6.1)),(13,.bool v6.2),(15,iI 0),(16,.ptr 16 0),(17,.ptr 17 0),(19,.ref 50),(36,.sl (lm aB v6.1)),(37,iI (v6.1.length:Int)),(38,iI v9)],[(5,ax v1),(6,bh v2),(9,ce v5),(10,List.set (az bv) 66 (.nils)),(11,List.set (az ({ bv with Kind:=1,Node:=v1.Node,Style:=v1.Style }:aa)) 66 (.nils)),(16,bH cR),(17,bH cR)],[(50,⟨67,67,lm au v10⟩)],[5,6,9,10,11,16,17,50]⟩
abbrev H98_1 (M:Nat→Prop) (w0:Base) (r:aa) (v1:ab) (v2:ay) (v3 v4:Bool) (v5:bw) (v6:(List ab)×Bool) (m1:Nat) (L1:Int→(List aa)→Option aa):Prop:=∀ {v9:Int} {v10:List aa},L1 v9 v10=some r→LP (eI M w0) (q98 M w0 r) [.b 0,aV lA,aV fK] (cat Try.f98 p98_4) m1 (s98_l1 v1 v2 v3 v4 v5 v6 v9 v10)
abbrev H98_2 (M:Nat→Prop) (w0:Base) (r:aa) (v1:ab) (v2:ay) (v6:(List ab)×Bool) (v19:List aa) (v25:Int) (v33 v34:ah) (v35:Bool) (v39 v40:Int) (m2:Nat) (L2:Int→(List aa)→Option aa):Prop:=∀ {v47:Int} {v48:List aa},L2 v47 v48=some r→LP (eI M w0) (q98 M w0 r) [.b 4,aV f9] (cat Try.f98 p98_1) m2 (s98_l11 v1 v2 v6 v19 v25 v33 v34 v35 v39 v40 v47 v48)
variable {K:Kn} {n:Nat} {M:Nat→Prop} {w0:Base} {r:aa} {v1:ab} {v2:ay} {v3 v4:Bool} {v5:bw} {v6:(List ab)×Bool} {v9:Int} {v10:List aa} {v15:Int} {v16:Bool} {v17 v18:ah} {v19:List aa} {v20 v21:ah} {v23:Bool} {v25:Int} {v26:ah} {v27:Bool} {v32:Int} {v33 v34:ah} {v35:Bool} {v36:Int×Bool} {v37:Bool} {v38 v39 v40 v47:Int} {v48 v50:List aa} {v52:Bool} {v54:List aa} {m1:Nat} {L1:Int→(List aa)→Option aa} {m2:Nat} {L2:Int→(List aa)→Option aa}
theorem wz (hK:KnOk K) (hL2:H98_2 M w0 r v1 v2 v6 v19 v25 v33 v34 v35 v39 v40 m2 L2) (h:kq K n v1 v2 v6 v19 v25 v33 v34 v35 v39 v40 v47 L2 v54=some r):VE (eI M w0) (q98 M w0 r) [.b 5,aV ou,kT M w0 r m2,.b 4,aV f9] .normal (s98_j10 v1 v2 v6 v19 v25 v33 v34 v35 v39 v40 v47 v54):=by
  unfold kq at h
  exact ag 2 (aY (hL2 h))
theorem yJ (hK:KnOk K) (hL2:H98_2 M w0 r v1 v2 v6 v19 v25 v33 v34 v35 v39 v40 m2 L2) (h:lX K n v1 v2 v6 v19 v25 v33 v34 v35 v39 v40 v47 v50 L2 v52=some r):VE (eI M w0) (q98 M w0 r) [aV p98_6,.b 5,aV ou,kT M w0 r m2,.b 4,aV f9] .normal (s98_j9 v1 v2 v6 v19 v25 v33 v34 v35 v39 v40 v47 v50 v52):=by
  unfold lX at h
  rcases ao h with ⟨h64,h⟩ | ⟨h64,h⟩
  ·
   refine ak 244 h64 (ac (ks':=[aV p98_7,.b 5,aV ou,kT M w0 r m2,.b 4,aV f9]) 1 (bL [6,10,11,12,13,15,24,199,200] [6,10,11] [1054] ?_))
   obtain ⟨h65,h⟩:=aq h
   obtain ⟨v53,h66,h⟩:=bind_some h
   obtain ⟨h67,h⟩:=aq h
   exact bm 1 (nu 245 [.ptr 11 66,.ref 1054,iI v47,.ptr 11 66,.ref 1054,iI v47,.eptr 1054 67 (v47.toNat) 0,.agg (az (gD v50 v47)),.ptr 6 12,iI v2.Content,.agg (az v53),.eptr 1054 67 (v47.toNat) 0]) [] [] [strS 1054 ⟨67,67,lm au (List.set v50 v47.toNat v53)⟩] (am (vz 6) (d_v (aN 1054 67 au (L:=v50) h65) (d_v (aJ 67 0 au az (aH h67).2 (cp)) (am (vz 2) (aj (e_c 0 1 255 (xl hK h66)) (d_v (aN 1054 67 au (L:=v50) h67) (aj (e_s (m:=0) (bV 1054 67 67 0 au az v53 (aH h67).2 (cp))) bk))))))) (ag 0 (wz hK hL2 h))
  ·
   exact ak 244 h64 (ag 2 (wz hK hL2 h))
theorem Ax (hK:KnOk K) (hL2:H98_2 M w0 r v1 v2 v6 v19 v25 v33 v34 v35 v39 v40 m2 L2) (h:lJ K n v1 v2 v6 v19 v25 v33 v34 v35 v39 v40 L2 v47 v48=some r):VE (eI M w0) (q98 M w0 r) [aV p98_1,kT M w0 r m2,.b 4,aV f9] .normal (s98_l11 v1 v2 v6 v19 v25 v33 v34 v35 v39 v40 v47 v48):=by
  unfold lJ at h
  refine ac (ks':=[aV p98_8,aV p98_9,kT M w0 r m2,.b 4,aV f9]) 3 ?_
  rcases ao h with ⟨h54,h⟩ | ⟨h54,h⟩
  ·
   refine ak 201 h54 (ac (ks':=[aV p98_10,aV p98_11,.b 5,aV ou,kT M w0 r m2,.b 4,aV f9]) 7 (bL [6,10,11,12,13,15,24,199,200] [6,10,11] [1054] ?_))
   obtain ⟨h55,h⟩:=aq h
   obtain ⟨h56,h⟩:=aq h
   refine bm 1 (nu 203 [.ptr 11 66,.ref 1054,iI v47,.eptr 1054 67 (v47.toNat) 0,.eptr 1054 67 (v47.toNat) 2,iI ((gD v48 v47).X),.ptr 6 4,.ptr 6 7,iI v2.Border.a3,.ptr 6 8,.ptr 6 11,iI v2.Padding.a3,iI (w64 (v2.Border.a3+v2.Padding.a3)),iI (w64 (((gD v48 v47).X)+(w64 (v2.Border.a3+v2.Padding.a3)))),.eptr 1054 67 (v47.toNat) 0,.eptr 1054 67 (v47.toNat) 2]) [] [] [strS 1054 ⟨67,67,lm au (List.set v48 v47.toNat ({ (gD v48 v47) with X:=(w64 (((gD v48 v47).X)+(w64 (v2.Border.a3+v2.Padding.a3)))) }:aa))⟩] (am (vz 3) (d_v (aN 1054 67 au (L:=v48) h55) (am [.v 0 1] (d_v (aJ 3 2 au az (aH h56).2 (cp)) (am (vz 8) (aj (k_v (lo:=0) (k:=2) (bP ⟨(by kernel_rfl),(bQ (aN 1054 67 au (L:=v48) h56) (by kernel_rfl))⟩ (bP ⟨(by kernel_rfl),(bQ (aN 1054 67 au (L:=(List.set v48 v47.toNat ({ (gD v48 v47) with X:=(w64 (((gD v48 v47).X)+(w64 (v2.Border.a3+v2.Padding.a3)))) }:aa))) h56) (by kernel_rfl))⟩ cF))) (am [.v 0 1] (aj (e_s (m:=0) (bV 1054 67 67 2 au az ({ (gD v48 v47) with X:=(w64 (((gD v48 v47).X)+(w64 (v2.Border.a3+v2.Padding.a3)))) }:aa) (aH h56).2 (cp))) bk)))))))) ?_
   obtain ⟨v49,h57,h⟩:=bind_some h
   have h57:=Option.some.inj h57
   refine aU (ks':=[aV p98_12,aV p98_13,.b 5,aV ou,kT M w0 r m2,.b 4,aV f9]) 1 ⟨[(6,.ptr 6 0),(10,.ptr 10 0),(11,.ptr 11 0),(12,.sl (lm aB v6.1)),(13,.bool v6.2),(15,iI v25),(24,iI v47),(199,iI (v19.length:Int)),(200,iI v47)],[(6,bh v2),(10,List.set (az bv) 66 (.nils)),(11,List.set (az (⟨1,v1.Node,v2.Margin.a3,0,(w64 (v2.Content+v39)),v40,0,⟨#[]⟩,v1.Style,v33,v34,v35,[]⟩:aa)) 66 (.ref 1054))],[(1054,⟨67,67,lm au v49⟩)],[6,10,11,1054]⟩ ?_ (by subst h57; kernel_rfl)
   obtain ⟨h58,h⟩:=aq h
   obtain ⟨h59,h⟩:=aq h
   refine bm 1 (nu 219 [.ptr 11 66,.ref 1054,iI v47,.eptr 1054 67 (v47.toNat) 0,.eptr 1054 67 (v47.toNat) 3,iI ((gD v49 v47).Y),.ptr 6 4,.ptr 6 4,iI v2.Border.a0,.ptr 6 8,.ptr 6 8,iI v2.Padding.a0,iI (w64 (v2.Border.a0+v2.Padding.a0)),iI v25,iI (w64 ((w64 (v2.Border.a0+v2.Padding.a0))+v25)),iI (w64 (((gD v49 v47).Y)+(w64 ((w64 (v2.Border.a0+v2.Padding.a0))+v25)))),.eptr 1054 67 (v47.toNat) 0,.eptr 1054 67 (v47.toNat) 3]) [] [] [strS 1054 ⟨67,67,lm au (List.set v49 v47.toNat ({ (gD v49 v47) with Y:=(w64 (((gD v49 v47).Y)+(w64 ((w64 (v2.Border.a0+v2.Padding.a0))+v25)))) }:aa))⟩] (am (vz 3) (d_v (aN 1054 67 au (L:=v49) h58) (am [.v 0 1] (d_v (aJ 3 3 au az (aH h59).2 (cp)) (am (vz 10) (aj (k_v (lo:=0) (k:=2) (bP ⟨(by kernel_rfl),(bQ (aN 1054 67 au (L:=v49) h59) (by kernel_rfl))⟩ (bP ⟨(by kernel_rfl),(bQ (aN 1054 67 au (L:=(List.set v49 v47.toNat ({ (gD v49 v47) with Y:=(w64 (((gD v49 v47).Y)+(w64 ((w64 (v2.Border.a0+v2.Padding.a0))+v25)))) }:aa))) h59) (by kernel_rfl))⟩ cF))) (am [.v 0 1] (aj (e_s (m:=0) (bV 1054 67 67 3 au az ({ (gD v49 v47) with Y:=(w64 (((gD v49 v47).Y)+(w64 ((w64 (v2.Border.a0+v2.Padding.a0))+v25)))) }:aa) (aH h59).2 (cp))) bk)))))))) ?_
   obtain ⟨v50,h60,h⟩:=bind_some h
   have h60:=Option.some.inj h60
   refine aU (ks':=[aV p98_14,aV p98_6,.b 5,aV ou,kT M w0 r m2,.b 4,aV f9]) 1 ⟨[(6,.ptr 6 0),(10,.ptr 10 0),(11,.ptr 11 0),(12,.sl (lm aB v6.1)),(13,.bool v6.2),(15,iI v25),(24,iI v47),(199,iI (v19.length:Int)),(200,iI v47)],[(6,bh v2),(10,List.set (az bv) 66 (.nils)),(11,List.set (az (⟨1,v1.Node,v2.Margin.a3,0,(w64 (v2.Content+v39)),v40,0,⟨#[]⟩,v1.Style,v33,v34,v35,[]⟩:aa)) 66 (.ref 1054))],[(1054,⟨67,67,lm au v50⟩)],[6,10,11,1054]⟩ ?_ (by subst h60; kernel_rfl)
   refine ai 2 ?_
   rcases ao h with ⟨h61,h⟩ | ⟨h61,h⟩
   ·
    refine aK 238 h61 (aO 4 2 ?_)
    obtain ⟨h62,h⟩:=aq h
    refine ap (bF aB ax h62 (cj) (b9)) (aO 6 1 ?_)
    obtain ⟨v51,h63,h⟩:=bind_some h
    exact aC (vD hK h63) (ae (ag 0 (yJ hK hL2 h)))
   ·
    exact aK 238 h61 (ae (ag 0 (yJ hK hL2 h)))
  ·
   refine ak 201 h54 (aM 8 ?_)
   cases h
   exact cP
theorem yM (hK:KnOk K) (m:Nat):H98_2 M w0 r v1 v2 v6 v19 v25 v33 v34 v35 v39 v40 m (mc K n v1 v2 v6 v19 v25 v33 v34 v35 v39 v40 m):=by
  induction m with
 | zero=>intro v47 v48 h; cases h
 | succ m ih=>intro v47 v48 h; have h:lJ K n v1 v2 v6 v19 v25 v33 v34 v35 v39 v40 (mc K n v1 v2 v6 v19 v25 v33 v34 v35 v39 v40 m) v47 v48=some r:=h; exact aR (Ax hK ih h)
theorem w7 (hK:KnOk K) (h:jC K n v1 v2 v6 v19 v25 v33 v34 v35 v38=some r):VE (eI M w0) (q98 M w0 r) [aV p98_15] .normal (s98_j8 v1 v2 v6 v19 v25 v33 v34 v35 v38):=by
  unfold jC at h
  refine ac (ks':=[aV p98_16,aV p98_17]) 3 (bL [6,10,11,12,13,14,15] [6,10,11] [1054] ?_)
  obtain ⟨v39,h38,h⟩:=bind_some h
  refine bm 1 (nu 173 [.ptr 6 12,iI v2.Content,.agg (bh v2),iI v39,iI (w64 (v2.Content+v39)),.ptr 11 4]) [] [] [stp Try.prog 259 Try.f98 p98_16 6] (am (vz 3) (aj (e_c 0 1 176 (BV hK h38)) (am (vz 2) (aj (e_d 0) bk)))) ?_
  obtain ⟨v40,h39,h⟩:=bind_some h
  have h39:=Option.some.inj h39
  refine aU (ks':=[aV p98_18,aV p98_19,aV f9]) 4 ⟨[(6,.ptr 6 0),(10,.ptr 10 0),(11,.ptr 11 0),(12,.sl (lm aB v6.1)),(13,.bool v6.2),(15,iI v25)],[(6,bh v2),(10,List.set (az bv) 66 (.nils)),(11,List.set (az (⟨1,v1.Node,v2.Margin.a3,0,(w64 (v2.Content+v39)),v40,0,⟨#[]⟩,v1.Style,v33,v34,v35,[]⟩:aa)) 66 (.ref 1054))],[(1054,⟨67,67,lm au v19⟩)],[6,10,11,1054]⟩ ?_ (by subst h39; kernel_rfl)
  exact ai 2 (ap (br au v19) (ae (ag 1 (bE (p:=p98_20) n (yM hK n h)))))
theorem vL (hK:KnOk K) (h:lg K n v1 v2 v6 v19 v25 v32 v33 v34 v35 v36 v37=some r):VE (eI M w0) (q98 M w0 r) [aV p98_21,aV p98_15] .normal (s98_j7 v1 v2 v6 v19 v25 v32 v33 v34 v35 v36 v37):=by
  unfold lg at h
  rcases ao h with ⟨h37,h⟩ | ⟨h37,h⟩
  ·
   exact ak 166 h37 (ag 2 (w7 hK h))
  ·
   exact ak 166 h37 (ag 2 (w7 hK h))
theorem sf (hK:KnOk K) (h:fQ K n v1 v2 v6 v19 v25 v32 v33 v34 v35=some r):VE (eI M w0) (q98 M w0 r) [.b 3,aV hP] .normal (s98_j6 v1 v2 v6 v19 v25 v32 v33 v34 v35):=by
  unfold fQ at h
  refine ac (ks':=[aV p98_23,aV p98_24,aV p98_15]) 5 (ai 3 ?_)
  obtain ⟨v36,h35,h⟩:=bind_some h
  refine aC (cT hK h35) (ae (ac (ks':=[aV p98_25,aV p98_21,aV p98_15]) 1 (ai 2 ?_)))
  rcases ao h with ⟨h36,h⟩ | ⟨h36,h⟩
  ·
   exact aK 160 h36 (ae (ag 0 (vL hK h)))
  ·
   exact aK 160 h36 (ae (ag 0 (vL hK h)))
theorem ul (hK:KnOk K) (h:jQ K n v1 v2 v4 v6 v15 v16 v17 v18 v19 v21 v25 v26 v27=some r):VE (eI M w0) (q98 M w0 r) [aV p98_26,.b 3,aV hP] .normal (s98_j5 v1 v2 v4 v6 v15 v16 v17 v18 v19 v21 v25 v26 v27):=by
  unfold jQ at h
  rcases ao h with ⟨h27,h⟩ | ⟨h27,h⟩
  ·
   refine ak 113 h27 (ac (ks':=[aV p98_27,aV p98_28,.b 3,aV hP]) 2 (ai 4 ?_))
   obtain ⟨v28,h28,h⟩:=bind_some h
   exact aC (rW hK h28) (ae (ag 5 (sf hK h)))
  ·
   refine ak 113 h27 (ac (ks':=[aV p98_29,.b 3,aV hP]) 3 ?_)
   rcases ao h with ⟨h29,h⟩ | ⟨h29,h⟩
   ·
    refine ak 131 h29 (ac (ks':=[aV p98_30,.b 3,aV hP]) 5 ?_)
    rcases ao h with ⟨h30,h⟩ | ⟨h30,h⟩
    ·
     refine ak 134 h30 (ac (ks':=[aV p98_31,.b 3,aV hP]) 1 (ai 3 ?_))
     obtain ⟨v29,h31,h⟩:=bind_some h
     exact aC (rW hK h31) (ae (ag 0 (sf hK h)))
    ·
     exact ak 134 h30 (ag 2 (sf hK h))
   ·
    refine ak 131 h29 (ac (ks':=[aV p98_32,.b 3,aV hP]) 3 ?_)
    rcases ao h with ⟨h32,h⟩ | ⟨h32,h⟩
    ·
     refine ak 140 h32 (ac (ks':=[aV p98_33,aV p98_34,.b 3,aV hP]) 2 (ai 3 ?_))
     obtain ⟨v30,h33,h⟩:=bind_some h
     exact aC (rW hK h33) (ae (ag 1 (sf hK h)))
    ·
     refine ak 140 h32 (ac (ks':=[aV p98_35,.b 3,aV hP]) 1 (ai 3 ?_))
     obtain ⟨v31,h34,h⟩:=bind_some h
     exact aC (l5 hK h34) (ae (ag 0 (sf hK h)))
theorem tY (hK:KnOk K) (h:jc K n v1 v2 v3 v4 v6 v15 v16 v17 v18 v19 v21 v25 v26=some r):VE (eI M w0) (q98 M w0 r) [.b 2,aV od] .normal (s98_j4 v1 v2 v3 v4 v6 v15 v16 v17 v18 v19 v21 v25 v26):=by
  unfold jc at h
  refine ac (ks':=[aV p98_37,aV p98_26,.b 3,aV hP]) 4 (ai 2 ?_)
  rcases ao h with ⟨h25,h⟩ | ⟨h25,h⟩
  ·
   refine aK 115 h25 (aO 5 3 ?_)
   rcases ao h with ⟨h26,h⟩ | ⟨h26,h⟩
   ·
    exact aK 118 h26 (ae (ag 0 (ul hK h)))
   ·
    exact aK 118 h26 (ae (ag 0 (ul hK h)))
  ·
   exact aK 115 h25 (ae (ag 0 (ul hK h)))
theorem xn (hK:KnOk K) (h:lG K n v1 v2 v3 v4 v6 v15 v16 v17 v18 v19 v20 v21 v23=some r):VE (eI M w0) (q98 M w0 r) [aV p98_38,.b 2,aV od] .normal (s98_j3 v1 v2 v3 v4 v6 v15 v16 v17 v18 v19 v20 v21 v23):=by
  unfold lG at h
  rcases ao h with ⟨h23,h⟩ | ⟨h23,h⟩
  ·
   refine ak 98 h23 (ac (ks':=[aV p98_39,.b 2,aV od]) 1 (ai 1 ?_))
   obtain ⟨v24,h24,h⟩:=bind_some h
   exact aC (l5 hK h24) (ae (ag 0 (tY hK h)))
  ·
   exact ak 98 h23 (ag 2 (tY hK h))
theorem wM (hK:KnOk K) (h:gt K n v1 v2 v3 v4 v6 v15 v16 v17 v18 v19=some r):VE (eI M w0) (q98 M w0 r) [aV fK] .normal (s98_j2 v1 v2 v3 v4 v6 v15 v16 v17 v18 v19):=by
  unfold gt at h
  refine ac (ks':=[aV p98_40,aV p98_41]) 1 (bL [2,3,5,6,10,11,12,13,14,15,16,17,18] [5,6,10,11,16,17] [1054] ?_)
  obtain ⟨v20,h18,h⟩:=bind_some h
  obtain ⟨v21,h19,h⟩:=bind_some h
  refine bm 2 (nu 81 [.ptr 6 0,.ptr 6 0,iI v2.Margin.a0,.agg (bH v20),.ptr 6 0,.ptr 6 2,iI v2.Margin.a2,.agg (bH v21),.ptr 11 61,.ptr 11 63]) [] [] [stp Try.prog 259 Try.f98 p98_40 9,stp Try.prog 259 Try.f98 p98_40 11] (am (vz 3) (aj (e_c 0 1 84 (tr hK h18)) (am [.v 0 2,.v 0 2,.v 0 2] (aj (e_c 0 1 88 (tr hK h19)) (am [.v 0 1] (aj (e_d 0) (am [.v 1 1] (aj (e_d 1) bk)))))))) (ac (ks':=[aV p98_42,.b 2,aV od]) 4 ?_)
  rcases ao h with ⟨h20,h⟩ | ⟨h20,h⟩
  ·
   refine ak 91 h20 (ac (ks':=[aV p98_43,.b 2,aV od]) 1 (ai 3 ?_))
   obtain ⟨v22,h21,h⟩:=bind_some h
   exact aC (rW hK h21) (ae (ag 0 (tY hK h)))
  ·
   refine ak 91 h20 (ac (ks':=[aV p98_44,aV p98_38,.b 2,aV od]) 2 (ai 3 ?_))
   rcases ao h with ⟨h22,h⟩ | ⟨h22,h⟩
   ·
    exact aK 101 h22 (ae (ag 0 (xn hK h)))
   ·
    exact aK 101 h22 (ae (ag 0 (xn hK h)))
theorem Bb (hK:KnOk K) (hL1:H98_1 M w0 r v1 v2 v3 v4 v5 v6 m1 L1) (h:l9 K n v1 v2 v3 v4 v5 v6 L1 v9 v10=some r):VE (eI M w0) (q98 M w0 r) [aV p98_4,k98_1 M w0 r m1,.b 0,aV lA,aV fK] .normal (s98_l1 v1 v2 v3 v4 v5 v6 v9 v10):=by
  unfold l9 at h
  refine ac (ks':=[aV p98_45,aV p98_46,k98_1 M w0 r m1,.b 0,aV lA,aV fK]) 3 ?_
  rcases ao h with ⟨h11,h⟩ | ⟨h11,h⟩
  ·
   refine ak 39 h11 (ac (ks':=[aV p98_47,aV p98_48,.b 1,aV p98_49,k98_1 M w0 r m1,.b 0,aV lA,aV fK]) 5 (ai 0 ?_))
   obtain ⟨h12,h⟩:=aq h
   refine ap (bF aB ax h12 (cj) (b9)) (ae (ai 6 ?_))
   obtain ⟨v11,h13,h⟩:=bind_some h
   refine nb (hK.dD h13) (ap (dN au ([v11]:List aa) (new:=[az v11]) (by simp only [List.map_cons,List.map_nil,cp])) ?_)
   obtain ⟨h14,h⟩:=aq h
   exact ap (cb 50 50 67 67 au (rfl) (dR) h14) (ae (ag 2 (aY (hL1 h))))
  ·
   refine ak 39 h11 (ac (ks':=[aV lA,aV fK]) 5 (ai 1 (c9 50 ?_)))
   obtain ⟨v12,h15,h⟩:=bind_some h
   exact cv 1054 (AA hK h15) (px (i:=0) rfl) (ae (ag 0 (wM hK h)))
theorem z4 (hK:KnOk K) (m:Nat):H98_1 M w0 r v1 v2 v3 v4 v5 v6 m (iU K n v1 v2 v3 v4 v5 v6 m):=by
  induction m with
 | zero=>intro v9 v10 h; cases h
 | succ m ih=>intro v9 v10 h; have h:l9 K n v1 v2 v3 v4 v5 v6 (iU K n v1 v2 v3 v4 v5 v6 m) v9 v10=some r:=h; exact aR (Bb hK ih h)
theorem AG (hK:KnOk K) (h:lB K n v1 v2 v3 v4 v5=some r):ACalls Try.prog 98 [.agg (ax v1),.agg (bh v2),.bool v3,.bool v4,.agg (ce v5)] (fun v s=>v = .agg (List.set (az ({ r with Kids:=[] }:aa)) 66 (.ref 1054))∧look 1054 s.r=some ⟨67,67,lm au r.Kids⟩):=by
  refine bj (cat Try.f98 []) Try.func98 Try.ntmps98 fun M w0=>(bb ⟨[(0,.agg (ax v1)),(1,.agg (bh v2)),(2,.bool v3),(3,.bool v4),(4,.agg (ce v5))],[],[],[]⟩ ?_)
  unfold lB at h
  refine ac (ks':=[aV [1,1,0],aV [1,1,1]]) 5 (ai 1 ?_)
  obtain ⟨v6,h1,h⟩:=bind_some h
  refine aC (xo hK h1) (ae (ac (ks':=[aV p98_50,aV fK]) 9 ?_))
  rcases ao h with ⟨h2,h⟩ | ⟨h2,h⟩
  ·
   exact ak 35 h2 (ac (ks':=[aV p98_51,aV p98_52,aV lA,aV fK]) 5 (ai 1 (ap (br aB v6.1) (ae (ac (ks':=[aV p98_53,.b 0,aV lA,aV fK]) 1 (cw 50 19 67 67 (ag 0 (bE (p:=p98_53) n (z4 hK n h)))))))))
  ·
   refine ak 35 h2 (ac (ks':=[aV p98_54,aV p98_55,aV fK]) 2 (ai 7 ?_))
   obtain ⟨v13,h16,h⟩:=bind_some h
   refine nb (hK.iX h16) (ae (ac (ks':=[aV p98_56,aV p98_57,aV fK]) 1 (ai 2 ?_)))
   obtain ⟨v14,h17,h⟩:=bind_some h
   exact cv 1075 (A3 hK h17) (df 5) (ae (ai 2 (ap (br au v14) (ae (kN 1075 1054 (ag 0 (wM hK h)))))))
end
def p78_0:=pth 5 1
def p78_1:=pth 5 10
def p78_2:=pth 6 1
def p78_3:=pth 0 11111
def p78_4:=pth 0 111110
def p78_5:=pth 0 11110
noncomputable section
abbrev cx78 (M:Nat→Prop) (w0:Base):Cx:=⟨Try.prog,58,M,w0⟩
abbrev q78 (M:Nat→Prop) (w0:Base) (r:aa):=bodyPost Try.prog Try.f78 (RetQ M w0 (fun v s=>v = .agg (List.set (az ({ r with Kids:=[] }:aa)) 66 (.ref 1057))∧look 1057 s.r=some ⟨67,67,lm au r.Kids⟩))
def s78_j2 (v1:ab) (v3:bw) (v4:ay) (v5 v6:Bool):AS:=⟨[(3,.ptr 3 0),(5,.ptr 5 0),(6,.ptr 6 0),(7,.ptr 7 0),(9,.bool v5),(10,.bool v6)],[(3,ax v1),(5,ce v3),(6,List.set (az bv) 66 (.nils)),(7,bh v4)],[],[3,5,6,7]⟩
def s78_j1 (v1:ab) (v3:bw) (v4:ay) (v5:Bool):AS:=⟨[(3,.ptr 3 0),(5,.ptr 5 0),(6,.ptr 6 0),(7,.ptr 7 0),(8,.bool (v1.Style.Overflow == 0)),(9,.bool v5)],[(3,ax v1),(5,ce v3),(6,List.set (az bv) 66 (.nils)),(7,bh v4)],[],[3,5,6,7]⟩
variable {K:Kn} {n:Nat} {M:Nat→Prop} {w0:Base} {r:aa} {v1:ab} {v2:Int} {v3:bw} {v4:ay} {v5 v6:Bool} 
abbrev ii (p:List Nat):Kont:=.c (cat Try.f78 p)
theorem s8 (hK:KnOk K) (h:gU K n v1 v3 v4 v5 v6=some r):VE (cx78 M w0) (q78 M w0 r) [ii p78_0] .normal (s78_j2 v1 v3 v4 v5 v6):=by
  unfold gU at h
  refine ac (ks':=[ii p78_1,ii p78_2]) 1 (ai 5 ?_)
  obtain ⟨v7,h7,h⟩:=bind_some h
  refine cv 1057 (AG hK h7) (f0 (i:=66) (by kernel_rfl)) (ae (aM 1 ?_))
  cases h
  exact cP
theorem uV (hK:KnOk K) (h:jH K n v1 v3 v4 v5=some r):VE (cx78 M w0) (q78 M w0 r) [ii p78_3] .normal (s78_j1 v1 v3 v4 v5):=by
  unfold jH at h
  refine ac (ks':=[ii p78_4,ii p78_0]) 1 (ai 2 ?_)
  rcases ao h with ⟨h4,h⟩ | ⟨h4,h⟩
  ·
   refine aK 33 h4 (aO 8 6 ?_)
   rcases ao h with ⟨h5,h⟩ | ⟨h5,h⟩
   ·
    refine aK 39 h5 (aO 14 6 ?_)
    rcases ao h with ⟨h6,h⟩ | ⟨h6,h⟩
    ·
     exact aK 45 h6 (ae (ag 0 (s8 hK h)))
    ·
     exact aK 45 h6 (ae (ag 0 (s8 hK h)))
   ·
    exact aK 39 h5 (ae (ag 0 (s8 hK h)))
  ·
   exact aK 33 h4 (ae (ag 0 (s8 hK h)))
theorem Cj (hK:KnOk K) (h:gf K n v1 v2 v3=some r):ACalls Try.prog 78 [.agg (ax v1),iI v2,.agg (ce v3)] (fun v s=>v = .agg (List.set (az ({ r with Kids:=[] }:aa)) 66 (.ref 1057))∧look 1057 s.r=some ⟨67,67,lm au r.Kids⟩):=by
  refine bj (cat Try.f78 []) Try.func78 Try.ntmps78 fun M w0=>(bb ⟨[(0,.agg (ax v1)),(1,iI v2),(2,.agg (ce v3))],[],[],[]⟩ ?_)
  unfold gf at h
  refine ac (ks':=[ii [1,0],ii [1,1]]) 3 (ai 3 ?_)
  obtain ⟨v4,h1,h⟩:=bind_some h
  refine aC (vI hK h1) (ae (ac (ks':=[ii p78_5,ii p78_3]) 3 (ai 2 ?_)))
  rcases ao h with ⟨h2,h⟩ | ⟨h2,h⟩
  ·
   refine aK 20 h2 (aO 8 6 ?_)
   rcases ao h with ⟨h3,h⟩ | ⟨h3,h⟩
   ·
    exact aK 26 h3 (ae (ag 0 (uV hK h)))
   ·
    exact aK 26 h3 (ae (ag 0 (uV hK h)))
  ·
   exact aK 20 h2 (ae (ag 0 (uV hK h)))
end
noncomputable section
variable {K:Kn} {n:Nat} {M:Nat→Prop} {w0:Base} {r:aa} {v1:ab} {v2:Int} 
abbrev cF54 (p:List Nat):Kont:=.c (cat Try.f54 p)
theorem g_law17_lay_ok (hK:KnOk K) (h:fF K n v1 v2=some r):ACalls Try.prog 54 [.agg (ax v1),iI v2] (fun v s=>v = .agg (List.set (az ({ r with Kids:=[] }:aa)) 66 (.ref 8))∧look 8 s.r=some ⟨67,67,lm au r.Kids⟩):=by
  refine bj (cat Try.f54 []) Try.func54 Try.ntmps54 fun M w0=>(bb ⟨[(0,.agg (ax v1)),(1,iI v2)],[],[],[]⟩ ?_)
  unfold fF at h
  refine ac (ks':=[cF54 [1,0],cF54 [1,1]]) 3 (bL [1,2,4] [2,4] [] ?_)
  obtain ⟨v3,h1,h⟩:=bind_some h
  obtain ⟨v4,h2,h⟩:=bind_some h
  refine bm 1 (nu 5 [.agg (ax v1),iI v2,.agg (ce v3),.agg (List.set (az ({ v4 with Kids:=[] }:aa)) 66 (.ref 8))]) [] [(8,⟨67,67,lm au v4.Kids⟩)] [stp Try.prog 9 Try.f54 [1,0] 4] (am (vz 2) (aj (e_c 0 1 7 (tZ hK h1)) (aj (e_o 0 1 8 (Cj hK h2) (f0 (i:=66) (by kernel_rfl))) (aj (e_d 0) bk)))) (aM 1 ?_)
  cases h
  exact cP
end
def cd:=pth 0 11110100111
def aX:=pth 0 11111
def bO:=pth 0 11110100
def gG:=pth 0 1111010011000
def gH:=pth 0 1111010011001
def gK:=pth 0 11110100110010
def gu:=pth 0 11110100110011
def gF:=pth 0 111101001100110
def p100_8:=pth 0 111010
def jK:=pth 0 1110100
def kn:=pth 0 111010011001
def sZ:=pth 0 1110100111
def p100_12:=pth 0 111100
def p100_13:=pth 0 111101
def p100_14:=pth 0 1111010
noncomputable section
abbrev bC (M:Nat→Prop) (w0:Base):Cx:=⟨Try.prog,40,M,w0⟩
abbrev bD (M:Nat→Prop) (w0:Base) (r:aE):=bodyPost Try.prog Try.f100 (RetQ M w0 (fun v _=>v = .agg (aL r)))
def s100_j11 (v2:Nat) (v13:aE):AS:=⟨[(1,.pp 1 v2 0),(2,.ptr 2 0),(24,.ref 10),(25,iI 11),(26,iI 10)],[(1,aL v13),(2,aL cr)],[(10,⟨106,1,lm eAdr [(v2,6),(v2,10),(v2,12),(v2,14),(v2,22),(v2,16),(v2,24),(v2,18),(v2,26),(v2,20),(v2,28)]⟩)],[1,2,10]⟩
def s100_j10 (v2:Nat) (v12:aE):AS:=⟨[(1,.pp 1 v2 0),(2,.ptr 2 0),(24,.ref 10),(25,iI 11),(26,iI 9)],[(1,aL v12),(2,aL cr)],[(10,⟨106,1,lm eAdr [(v2,6),(v2,10),(v2,12),(v2,14),(v2,22),(v2,16),(v2,24),(v2,18),(v2,26),(v2,20),(v2,28)]⟩)],[1,2,10]⟩
def s100_j9 (v2:Nat) (v11:aE):AS:=⟨[(1,.pp 1 v2 0),(2,.ptr 2 0),(24,.ref 10),(25,iI 11),(26,iI 8)],[(1,aL v11),(2,aL cr)],[(10,⟨106,1,lm eAdr [(v2,6),(v2,10),(v2,12),(v2,14),(v2,22),(v2,16),(v2,24),(v2,18),(v2,26),(v2,20),(v2,28)]⟩)],[1,2,10]⟩
def s100_j8 (v2:Nat) (v10:aE):AS:=⟨[(1,.pp 1 v2 0),(2,.ptr 2 0),(24,.ref 10),(25,iI 11),(26,iI 7)],[(1,aL v10),(2,aL cr)],[(10,⟨106,1,lm eAdr [(v2,6),(v2,10),(v2,12),(v2,14),(v2,22),(v2,16),(v2,24),(v2,18),(v2,26),(v2,20),(v2,28)]⟩)],[1,2,10]⟩
def s100_j7 (v2:Nat) (v9:aE):AS:=⟨[(1,.pp 1 v2 0),(2,.ptr 2 0),(24,.ref 10),(25,iI 11),(26,iI 6)],[(1,aL v9),(2,aL cr)],[(10,⟨106,1,lm eAdr [(v2,6),(v2,10),(v2,12),(v2,14),(v2,22),(v2,16),(v2,24),(v2,18),(v2,26),(v2,20),(v2,28)]⟩)],[1,2,10]⟩
def s100_j6 (v2:Nat) (v8:aE):AS:=⟨[(1,.pp 1 v2 0),(2,.ptr 2 0),(24,.ref 10),(25,iI 11),(26,iI 5)],[(1,aL v8),(2,aL cr)],[(10,⟨106,1,lm eAdr [(v2,6),(v2,10),(v2,12),(v2,14),(v2,22),(v2,16),(v2,24),(v2,18),(v2,26),(v2,20),(v2,28)]⟩)],[1,2,10]⟩
def s100_j5 (v2:Nat) (v7:aE):AS:=⟨[(1,.pp 1 v2 0),(2,.ptr 2 0),(24,.ref 10),(25,iI 11),(26,iI 4)],[(1,aL v7),(2,aL cr)],[(10,⟨106,1,lm eAdr [(v2,6),(v2,10),(v2,12),(v2,14),(v2,22),(v2,16),(v2,24),(v2,18),(v2,26),(v2,20),(v2,28)]⟩)],[1,2,10]⟩
def s100_j4 (v2:Nat) (v6:aE):AS:=⟨[(1,.pp 1 v2 0),(2,.ptr 2 0),(24,.ref 10),(25,iI 11),(26,iI 3)],[(1,aL v6),(2,aL cr)],[(10,⟨106,1,lm eAdr [(v2,6),(v2,10),(v2,12),(v2,14),(v2,22),(v2,16),(v2,24),(v2,18),(v2,26),(v2,20),(v2,28)]⟩)],[1,2,10]⟩
def s100_j3 (v2:Nat) (v5:aE):AS:=⟨[(1,.pp 1 v2 0),(2,.ptr 2 0),(24,.ref 10),(25,iI 11),(26,iI 2)],[(1,aL v5),(2,aL cr)],[(10,⟨106,1,lm eAdr [(v2,6),(v2,10),(v2,12),(v2,14),(v2,22),(v2,16),(v2,24),(v2,18),(v2,26),(v2,20),(v2,28)]⟩)],[1,2,10]⟩
def s100_j2 (v2:Nat) (v4:aE):AS:=⟨[(1,.pp 1 v2 0),(2,.ptr 2 0),(24,.ref 10),(25,iI 11),(26,iI 1)],[(1,aL v4),(2,aL cr)],[(10,⟨106,1,lm eAdr [(v2,6),(v2,10),(v2,12),(v2,14),(v2,22),(v2,16),(v2,24),(v2,18),(v2,26),(v2,20),(v2,28)]⟩)],[1,2,10]⟩
def s100_j1 (v2:Nat) (v3:aE):AS:=⟨[(1,.pp 1 v2 0),(2,.ptr 2 0),(24,.ref 10),(25,iI 11),(26,iI 0)],[(1,aL v3),(2,aL cr)],[(10,⟨106,1,lm eAdr [(v2,6),(v2,10),(v2,12),(v2,14),(v2,22),(v2,16),(v2,24),(v2,18),(v2,26),(v2,20),(v2,28)]⟩)],[1,2,10]⟩
variable {K:Kn} {n:Nat} {M:Nat→Prop} {w0:Base} {r v1:aE} {v2:Nat} {v3 v4 v5 v6 v7 v8 v9 v10 v11 v12 v13:aE} 
abbrev av (p:List Nat):Kont:=.c (cat Try.f100 p)
theorem wy (hK:KnOk K) (h:l0 K n v13=some r):VE (bC M w0) (bD M w0 r) [.b 3,av cd,kl (bC M w0) (bD M w0 r) [.b 2,av aX] (cat Try.f100 bO) 29,.b 2,av aX] .normal (s100_j11 v2 v13):=by
  unfold l0 at h
  refine aU (ks':=[kl (bC M w0) (bD M w0 r) [.b 2,av aX] (cat Try.f100 bO) 29,.b 2,av aX]) 2 ⟨[(1,.pp 1 v2 0),(2,.ptr 2 0),(24,.ref 10),(25,iI 11),(26,iI 11)],[(1,aL v13),(2,aL cr)],[(10,⟨106,1,lm eAdr [(v2,6),(v2,10),(v2,12),(v2,14),(v2,22),(v2,16),(v2,24),(v2,18),(v2,26),(v2,20),(v2,28)]⟩)],[1,2,10]⟩ (aY (aR (aM 11 ?_)))
  cases h
  exact bu
theorem yq (hK:KnOk K) (h:jn K n v12=some r):VE (bC M w0) (bD M w0 r) [.b 3,av cd,kl (bC M w0) (bD M w0 r) [.b 2,av aX] (cat Try.f100 bO) 30,.b 2,av aX] .normal (s100_j10 v2 v12):=by
  unfold jn at h
  refine aU (ks':=[kl (bC M w0) (bD M w0 r) [.b 2,av aX] (cat Try.f100 bO) 30,.b 2,av aX]) 2 ⟨[(1,.pp 1 v2 0),(2,.ptr 2 0),(24,.ref 10),(25,iI 11),(26,iI 10)],[(1,aL v12),(2,aL cr)],[(10,⟨106,1,lm eAdr [(v2,6),(v2,10),(v2,12),(v2,14),(v2,22),(v2,16),(v2,24),(v2,18),(v2,26),(v2,20),(v2,28)]⟩)],[1,2,10]⟩ (aY (aR (ac (ks':=[av gG,av gH,.b 3,av cd,kl (bC M w0) (bD M w0 r) [.b 2,av aX] (cat Try.f100 bO) 29,.b 2,av aX]) 8 (ai 0 (ap (bK 10 1 eAdr (L:=([(v2,6),(v2,10),(v2,12),(v2,14),(v2,22),(v2,16),(v2,24),(v2,18),(v2,26),(v2,20),(v2,28)]:List (Nat×Nat))) (i:=(10:Int)) (by kernel_rfl)) (ap (aJ 106 0 eAdr eAdr (L:=([(v2,6),(v2,10),(v2,12),(v2,14),(v2,22),(v2,16),(v2,24),(v2,18),(v2,26),(v2,20),(v2,28)]:List (Nat×Nat))) (j:=(10:Int).toNat) (of_decide_eq_true (by kernel_rfl)) (fun _=>rfl)) (ae (ac (ks':=[av gK,av gu,.b 3,av cd,kl (bC M w0) (bD M w0 r) [.b 2,av aX] (cat Try.f100 bO) 29,.b 2,av aX]) 1 (ai 3 (c7 32 1 1 v2 28 0 (ae ?_)))))))))))
  rcases ao h with ⟨h11,h⟩ | ⟨h11,h⟩
  ·
   exact ak 34 h11 (ac (ks':=[av gF,.b 3,av cd,kl (bC M w0) (bD M w0 r) [.b 2,av aX] (cat Try.f100 bO) 29,.b 2,av aX]) 1 (ai 3 (c7 37 1 1 v2 28 0 (ae (ag 0 (wy hK (v2:=v2) h))))))
  ·
   exact ak 34 h11 (ag 2 (wy hK (v2:=v2) h))
theorem yo (hK:KnOk K) (h:ja K n v11=some r):VE (bC M w0) (bD M w0 r) [.b 3,av cd,kl (bC M w0) (bD M w0 r) [.b 2,av aX] (cat Try.f100 bO) 31,.b 2,av aX] .normal (s100_j9 v2 v11):=by
  unfold ja at h
  refine aU (ks':=[kl (bC M w0) (bD M w0 r) [.b 2,av aX] (cat Try.f100 bO) 31,.b 2,av aX]) 2 ⟨[(1,.pp 1 v2 0),(2,.ptr 2 0),(24,.ref 10),(25,iI 11),(26,iI 9)],[(1,aL v11),(2,aL cr)],[(10,⟨106,1,lm eAdr [(v2,6),(v2,10),(v2,12),(v2,14),(v2,22),(v2,16),(v2,24),(v2,18),(v2,26),(v2,20),(v2,28)]⟩)],[1,2,10]⟩ (aY (aR (ac (ks':=[av gG,av gH,.b 3,av cd,kl (bC M w0) (bD M w0 r) [.b 2,av aX] (cat Try.f100 bO) 30,.b 2,av aX]) 8 (ai 0 (ap (bK 10 1 eAdr (L:=([(v2,6),(v2,10),(v2,12),(v2,14),(v2,22),(v2,16),(v2,24),(v2,18),(v2,26),(v2,20),(v2,28)]:List (Nat×Nat))) (i:=(9:Int)) (by kernel_rfl)) (ap (aJ 106 0 eAdr eAdr (L:=([(v2,6),(v2,10),(v2,12),(v2,14),(v2,22),(v2,16),(v2,24),(v2,18),(v2,26),(v2,20),(v2,28)]:List (Nat×Nat))) (j:=(9:Int).toNat) (of_decide_eq_true (by kernel_rfl)) (fun _=>rfl)) (ae (ac (ks':=[av gK,av gu,.b 3,av cd,kl (bC M w0) (bD M w0 r) [.b 2,av aX] (cat Try.f100 bO) 30,.b 2,av aX]) 1 (ai 3 (c7 32 1 1 v2 20 0 (ae ?_)))))))))))
  rcases ao h with ⟨h10,h⟩ | ⟨h10,h⟩
  ·
   exact ak 34 h10 (ac (ks':=[av gF,.b 3,av cd,kl (bC M w0) (bD M w0 r) [.b 2,av aX] (cat Try.f100 bO) 30,.b 2,av aX]) 1 (ai 3 (c7 37 1 1 v2 20 0 (ae (ag 0 (yq hK (v2:=v2) h))))))
  ·
   exact ak 34 h10 (ag 2 (yq hK (v2:=v2) h))
theorem xA (hK:KnOk K) (h:jF K n v10=some r):VE (bC M w0) (bD M w0 r) [.b 3,av cd,kl (bC M w0) (bD M w0 r) [.b 2,av aX] (cat Try.f100 bO) 32,.b 2,av aX] .normal (s100_j8 v2 v10):=by
  unfold jF at h
  refine aU (ks':=[kl (bC M w0) (bD M w0 r) [.b 2,av aX] (cat Try.f100 bO) 32,.b 2,av aX]) 2 ⟨[(1,.pp 1 v2 0),(2,.ptr 2 0),(24,.ref 10),(25,iI 11),(26,iI 8)],[(1,aL v10),(2,aL cr)],[(10,⟨106,1,lm eAdr [(v2,6),(v2,10),(v2,12),(v2,14),(v2,22),(v2,16),(v2,24),(v2,18),(v2,26),(v2,20),(v2,28)]⟩)],[1,2,10]⟩ (aY (aR (ac (ks':=[av gG,av gH,.b 3,av cd,kl (bC M w0) (bD M w0 r) [.b 2,av aX] (cat Try.f100 bO) 31,.b 2,av aX]) 8 (ai 0 (ap (bK 10 1 eAdr (L:=([(v2,6),(v2,10),(v2,12),(v2,14),(v2,22),(v2,16),(v2,24),(v2,18),(v2,26),(v2,20),(v2,28)]:List (Nat×Nat))) (i:=(8:Int)) (by kernel_rfl)) (ap (aJ 106 0 eAdr eAdr (L:=([(v2,6),(v2,10),(v2,12),(v2,14),(v2,22),(v2,16),(v2,24),(v2,18),(v2,26),(v2,20),(v2,28)]:List (Nat×Nat))) (j:=(8:Int).toNat) (of_decide_eq_true (by kernel_rfl)) (fun _=>rfl)) (ae (ac (ks':=[av gK,av gu,.b 3,av cd,kl (bC M w0) (bD M w0 r) [.b 2,av aX] (cat Try.f100 bO) 31,.b 2,av aX]) 1 (ai 3 (c7 32 1 1 v2 26 0 (ae ?_)))))))))))
  rcases ao h with ⟨h9,h⟩ | ⟨h9,h⟩
  ·
   exact ak 34 h9 (ac (ks':=[av gF,.b 3,av cd,kl (bC M w0) (bD M w0 r) [.b 2,av aX] (cat Try.f100 bO) 31,.b 2,av aX]) 1 (ai 3 (c7 37 1 1 v2 26 0 (ae (ag 0 (yo hK (v2:=v2) h))))))
  ·
   exact ak 34 h9 (ag 2 (yo hK (v2:=v2) h))
theorem wm (hK:KnOk K) (h:jS K n v9=some r):VE (bC M w0) (bD M w0 r) [.b 3,av cd,kl (bC M w0) (bD M w0 r) [.b 2,av aX] (cat Try.f100 bO) 33,.b 2,av aX] .normal (s100_j7 v2 v9):=by
  unfold jS at h
  refine aU (ks':=[kl (bC M w0) (bD M w0 r) [.b 2,av aX] (cat Try.f100 bO) 33,.b 2,av aX]) 2 ⟨[(1,.pp 1 v2 0),(2,.ptr 2 0),(24,.ref 10),(25,iI 11),(26,iI 7)],[(1,aL v9),(2,aL cr)],[(10,⟨106,1,lm eAdr [(v2,6),(v2,10),(v2,12),(v2,14),(v2,22),(v2,16),(v2,24),(v2,18),(v2,26),(v2,20),(v2,28)]⟩)],[1,2,10]⟩ (aY (aR (ac (ks':=[av gG,av gH,.b 3,av cd,kl (bC M w0) (bD M w0 r) [.b 2,av aX] (cat Try.f100 bO) 32,.b 2,av aX]) 8 (ai 0 (ap (bK 10 1 eAdr (L:=([(v2,6),(v2,10),(v2,12),(v2,14),(v2,22),(v2,16),(v2,24),(v2,18),(v2,26),(v2,20),(v2,28)]:List (Nat×Nat))) (i:=(7:Int)) (by kernel_rfl)) (ap (aJ 106 0 eAdr eAdr (L:=([(v2,6),(v2,10),(v2,12),(v2,14),(v2,22),(v2,16),(v2,24),(v2,18),(v2,26),(v2,20),(v2,28)]:List (Nat×Nat))) (j:=(7:Int).toNat) (of_decide_eq_true (by kernel_rfl)) (fun _=>rfl)) (ae (ac (ks':=[av gK,av gu,.b 3,av cd,kl (bC M w0) (bD M w0 r) [.b 2,av aX] (cat Try.f100 bO) 32,.b 2,av aX]) 1 (ai 3 (c7 32 1 1 v2 18 0 (ae ?_)))))))))))
  rcases ao h with ⟨h8,h⟩ | ⟨h8,h⟩
  ·
   exact ak 34 h8 (ac (ks':=[av gF,.b 3,av cd,kl (bC M w0) (bD M w0 r) [.b 2,av aX] (cat Try.f100 bO) 32,.b 2,av aX]) 1 (ai 3 (c7 37 1 1 v2 18 0 (ae (ag 0 (xA hK (v2:=v2) h))))))
  ·
   exact ak 34 h8 (ag 2 (xA hK (v2:=v2) h))
theorem vP (hK:KnOk K) (h:je K n v8=some r):VE (bC M w0) (bD M w0 r) [.b 3,av cd,kl (bC M w0) (bD M w0 r) [.b 2,av aX] (cat Try.f100 bO) 34,.b 2,av aX] .normal (s100_j6 v2 v8):=by
  unfold je at h
  refine aU (ks':=[kl (bC M w0) (bD M w0 r) [.b 2,av aX] (cat Try.f100 bO) 34,.b 2,av aX]) 2 ⟨[(1,.pp 1 v2 0),(2,.ptr 2 0),(24,.ref 10),(25,iI 11),(26,iI 6)],[(1,aL v8),(2,aL cr)],[(10,⟨106,1,lm eAdr [(v2,6),(v2,10),(v2,12),(v2,14),(v2,22),(v2,16),(v2,24),(v2,18),(v2,26),(v2,20),(v2,28)]⟩)],[1,2,10]⟩ (aY (aR (ac (ks':=[av gG,av gH,.b 3,av cd,kl (bC M w0) (bD M w0 r) [.b 2,av aX] (cat Try.f100 bO) 33,.b 2,av aX]) 8 (ai 0 (ap (bK 10 1 eAdr (L:=([(v2,6),(v2,10),(v2,12),(v2,14),(v2,22),(v2,16),(v2,24),(v2,18),(v2,26),(v2,20),(v2,28)]:List (Nat×Nat))) (i:=(6:Int)) (by kernel_rfl)) (ap (aJ 106 0 eAdr eAdr (L:=([(v2,6),(v2,10),(v2,12),(v2,14),(v2,22),(v2,16),(v2,24),(v2,18),(v2,26),(v2,20),(v2,28)]:List (Nat×Nat))) (j:=(6:Int).toNat) (of_decide_eq_true (by kernel_rfl)) (fun _=>rfl)) (ae (ac (ks':=[av gK,av gu,.b 3,av cd,kl (bC M w0) (bD M w0 r) [.b 2,av aX] (cat Try.f100 bO) 33,.b 2,av aX]) 1 (ai 3 (c7 32 1 1 v2 24 0 (ae ?_)))))))))))
  rcases ao h with ⟨h7,h⟩ | ⟨h7,h⟩
  ·
   exact ak 34 h7 (ac (ks':=[av gF,.b 3,av cd,kl (bC M w0) (bD M w0 r) [.b 2,av aX] (cat Try.f100 bO) 33,.b 2,av aX]) 1 (ai 3 (c7 37 1 1 v2 24 0 (ae (ag 0 (wm hK (v2:=v2) h))))))
  ·
   exact ak 34 h7 (ag 2 (wm hK (v2:=v2) h))
theorem wL (hK:KnOk K) (h:jA K n v7=some r):VE (bC M w0) (bD M w0 r) [.b 3,av cd,kl (bC M w0) (bD M w0 r) [.b 2,av aX] (cat Try.f100 bO) 35,.b 2,av aX] .normal (s100_j5 v2 v7):=by
  unfold jA at h
  refine aU (ks':=[kl (bC M w0) (bD M w0 r) [.b 2,av aX] (cat Try.f100 bO) 35,.b 2,av aX]) 2 ⟨[(1,.pp 1 v2 0),(2,.ptr 2 0),(24,.ref 10),(25,iI 11),(26,iI 5)],[(1,aL v7),(2,aL cr)],[(10,⟨106,1,lm eAdr [(v2,6),(v2,10),(v2,12),(v2,14),(v2,22),(v2,16),(v2,24),(v2,18),(v2,26),(v2,20),(v2,28)]⟩)],[1,2,10]⟩ (aY (aR (ac (ks':=[av gG,av gH,.b 3,av cd,kl (bC M w0) (bD M w0 r) [.b 2,av aX] (cat Try.f100 bO) 34,.b 2,av aX]) 8 (ai 0 (ap (bK 10 1 eAdr (L:=([(v2,6),(v2,10),(v2,12),(v2,14),(v2,22),(v2,16),(v2,24),(v2,18),(v2,26),(v2,20),(v2,28)]:List (Nat×Nat))) (i:=(5:Int)) (by kernel_rfl)) (ap (aJ 106 0 eAdr eAdr (L:=([(v2,6),(v2,10),(v2,12),(v2,14),(v2,22),(v2,16),(v2,24),(v2,18),(v2,26),(v2,20),(v2,28)]:List (Nat×Nat))) (j:=(5:Int).toNat) (of_decide_eq_true (by kernel_rfl)) (fun _=>rfl)) (ae (ac (ks':=[av gK,av gu,.b 3,av cd,kl (bC M w0) (bD M w0 r) [.b 2,av aX] (cat Try.f100 bO) 34,.b 2,av aX]) 1 (ai 3 (c7 32 1 1 v2 16 0 (ae ?_)))))))))))
  rcases ao h with ⟨h6,h⟩ | ⟨h6,h⟩
  ·
   exact ak 34 h6 (ac (ks':=[av gF,.b 3,av cd,kl (bC M w0) (bD M w0 r) [.b 2,av aX] (cat Try.f100 bO) 34,.b 2,av aX]) 1 (ai 3 (c7 37 1 1 v2 16 0 (ae (ag 0 (vP hK (v2:=v2) h))))))
  ·
   exact ak 34 h6 (ag 2 (vP hK (v2:=v2) h))
theorem vU (hK:KnOk K) (h:iS K n v6=some r):VE (bC M w0) (bD M w0 r) [.b 3,av cd,kl (bC M w0) (bD M w0 r) [.b 2,av aX] (cat Try.f100 bO) 36,.b 2,av aX] .normal (s100_j4 v2 v6):=by
  unfold iS at h
  refine aU (ks':=[kl (bC M w0) (bD M w0 r) [.b 2,av aX] (cat Try.f100 bO) 36,.b 2,av aX]) 2 ⟨[(1,.pp 1 v2 0),(2,.ptr 2 0),(24,.ref 10),(25,iI 11),(26,iI 4)],[(1,aL v6),(2,aL cr)],[(10,⟨106,1,lm eAdr [(v2,6),(v2,10),(v2,12),(v2,14),(v2,22),(v2,16),(v2,24),(v2,18),(v2,26),(v2,20),(v2,28)]⟩)],[1,2,10]⟩ (aY (aR (ac (ks':=[av gG,av gH,.b 3,av cd,kl (bC M w0) (bD M w0 r) [.b 2,av aX] (cat Try.f100 bO) 35,.b 2,av aX]) 8 (ai 0 (ap (bK 10 1 eAdr (L:=([(v2,6),(v2,10),(v2,12),(v2,14),(v2,22),(v2,16),(v2,24),(v2,18),(v2,26),(v2,20),(v2,28)]:List (Nat×Nat))) (i:=(4:Int)) (by kernel_rfl)) (ap (aJ 106 0 eAdr eAdr (L:=([(v2,6),(v2,10),(v2,12),(v2,14),(v2,22),(v2,16),(v2,24),(v2,18),(v2,26),(v2,20),(v2,28)]:List (Nat×Nat))) (j:=(4:Int).toNat) (of_decide_eq_true (by kernel_rfl)) (fun _=>rfl)) (ae (ac (ks':=[av gK,av gu,.b 3,av cd,kl (bC M w0) (bD M w0 r) [.b 2,av aX] (cat Try.f100 bO) 35,.b 2,av aX]) 1 (ai 3 (c7 32 1 1 v2 22 0 (ae ?_)))))))))))
  rcases ao h with ⟨h5,h⟩ | ⟨h5,h⟩
  ·
   exact ak 34 h5 (ac (ks':=[av gF,.b 3,av cd,kl (bC M w0) (bD M w0 r) [.b 2,av aX] (cat Try.f100 bO) 35,.b 2,av aX]) 1 (ai 3 (c7 37 1 1 v2 22 0 (ae (ag 0 (wL hK (v2:=v2) h))))))
  ·
   exact ak 34 h5 (ag 2 (wL hK (v2:=v2) h))
theorem wI (hK:KnOk K) (h:jV K n v5=some r):VE (bC M w0) (bD M w0 r) [.b 3,av cd,kl (bC M w0) (bD M w0 r) [.b 2,av aX] (cat Try.f100 bO) 37,.b 2,av aX] .normal (s100_j3 v2 v5):=by
  unfold jV at h
  refine aU (ks':=[kl (bC M w0) (bD M w0 r) [.b 2,av aX] (cat Try.f100 bO) 37,.b 2,av aX]) 2 ⟨[(1,.pp 1 v2 0),(2,.ptr 2 0),(24,.ref 10),(25,iI 11),(26,iI 3)],[(1,aL v5),(2,aL cr)],[(10,⟨106,1,lm eAdr [(v2,6),(v2,10),(v2,12),(v2,14),(v2,22),(v2,16),(v2,24),(v2,18),(v2,26),(v2,20),(v2,28)]⟩)],[1,2,10]⟩ (aY (aR (ac (ks':=[av gG,av gH,.b 3,av cd,kl (bC M w0) (bD M w0 r) [.b 2,av aX] (cat Try.f100 bO) 36,.b 2,av aX]) 8 (ai 0 (ap (bK 10 1 eAdr (L:=([(v2,6),(v2,10),(v2,12),(v2,14),(v2,22),(v2,16),(v2,24),(v2,18),(v2,26),(v2,20),(v2,28)]:List (Nat×Nat))) (i:=(3:Int)) (by kernel_rfl)) (ap (aJ 106 0 eAdr eAdr (L:=([(v2,6),(v2,10),(v2,12),(v2,14),(v2,22),(v2,16),(v2,24),(v2,18),(v2,26),(v2,20),(v2,28)]:List (Nat×Nat))) (j:=(3:Int).toNat) (of_decide_eq_true (by kernel_rfl)) (fun _=>rfl)) (ae (ac (ks':=[av gK,av gu,.b 3,av cd,kl (bC M w0) (bD M w0 r) [.b 2,av aX] (cat Try.f100 bO) 36,.b 2,av aX]) 1 (ai 3 (c7 32 1 1 v2 14 0 (ae ?_)))))))))))
  rcases ao h with ⟨h4,h⟩ | ⟨h4,h⟩
  ·
   exact ak 34 h4 (ac (ks':=[av gF,.b 3,av cd,kl (bC M w0) (bD M w0 r) [.b 2,av aX] (cat Try.f100 bO) 36,.b 2,av aX]) 1 (ai 3 (c7 37 1 1 v2 14 0 (ae (ag 0 (vU hK (v2:=v2) h))))))
  ·
   exact ak 34 h4 (ag 2 (vU hK (v2:=v2) h))
theorem yg (hK:KnOk K) (h:iZ K n v4=some r):VE (bC M w0) (bD M w0 r) [.b 3,av cd,kl (bC M w0) (bD M w0 r) [.b 2,av aX] (cat Try.f100 bO) 38,.b 2,av aX] .normal (s100_j2 v2 v4):=by
  unfold iZ at h
  refine aU (ks':=[kl (bC M w0) (bD M w0 r) [.b 2,av aX] (cat Try.f100 bO) 38,.b 2,av aX]) 2 ⟨[(1,.pp 1 v2 0),(2,.ptr 2 0),(24,.ref 10),(25,iI 11),(26,iI 2)],[(1,aL v4),(2,aL cr)],[(10,⟨106,1,lm eAdr [(v2,6),(v2,10),(v2,12),(v2,14),(v2,22),(v2,16),(v2,24),(v2,18),(v2,26),(v2,20),(v2,28)]⟩)],[1,2,10]⟩ (aY (aR (ac (ks':=[av gG,av gH,.b 3,av cd,kl (bC M w0) (bD M w0 r) [.b 2,av aX] (cat Try.f100 bO) 37,.b 2,av aX]) 8 (ai 0 (ap (bK 10 1 eAdr (L:=([(v2,6),(v2,10),(v2,12),(v2,14),(v2,22),(v2,16),(v2,24),(v2,18),(v2,26),(v2,20),(v2,28)]:List (Nat×Nat))) (i:=(2:Int)) (by kernel_rfl)) (ap (aJ 106 0 eAdr eAdr (L:=([(v2,6),(v2,10),(v2,12),(v2,14),(v2,22),(v2,16),(v2,24),(v2,18),(v2,26),(v2,20),(v2,28)]:List (Nat×Nat))) (j:=(2:Int).toNat) (of_decide_eq_true (by kernel_rfl)) (fun _=>rfl)) (ae (ac (ks':=[av gK,av gu,.b 3,av cd,kl (bC M w0) (bD M w0 r) [.b 2,av aX] (cat Try.f100 bO) 37,.b 2,av aX]) 1 (ai 3 (c7 32 1 1 v2 12 0 (ae ?_)))))))))))
  rcases ao h with ⟨h3,h⟩ | ⟨h3,h⟩
  ·
   exact ak 34 h3 (ac (ks':=[av gF,.b 3,av cd,kl (bC M w0) (bD M w0 r) [.b 2,av aX] (cat Try.f100 bO) 37,.b 2,av aX]) 1 (ai 3 (c7 37 1 1 v2 12 0 (ae (ag 0 (wI hK (v2:=v2) h))))))
  ·
   exact ak 34 h3 (ag 2 (wI hK (v2:=v2) h))
theorem xj (hK:KnOk K) (h:jT K n v3=some r):VE (bC M w0) (bD M w0 r) [.b 3,av cd,kl (bC M w0) (bD M w0 r) [.b 2,av aX] (cat Try.f100 bO) 39,.b 2,av aX] .normal (s100_j1 v2 v3):=by
  unfold jT at h
  refine aU (ks':=[kl (bC M w0) (bD M w0 r) [.b 2,av aX] (cat Try.f100 bO) 39,.b 2,av aX]) 2 ⟨[(1,.pp 1 v2 0),(2,.ptr 2 0),(24,.ref 10),(25,iI 11),(26,iI 1)],[(1,aL v3),(2,aL cr)],[(10,⟨106,1,lm eAdr [(v2,6),(v2,10),(v2,12),(v2,14),(v2,22),(v2,16),(v2,24),(v2,18),(v2,26),(v2,20),(v2,28)]⟩)],[1,2,10]⟩ (aY (aR (ac (ks':=[av gG,av gH,.b 3,av cd,kl (bC M w0) (bD M w0 r) [.b 2,av aX] (cat Try.f100 bO) 38,.b 2,av aX]) 8 (ai 0 (ap (bK 10 1 eAdr (L:=([(v2,6),(v2,10),(v2,12),(v2,14),(v2,22),(v2,16),(v2,24),(v2,18),(v2,26),(v2,20),(v2,28)]:List (Nat×Nat))) (i:=(1:Int)) (by kernel_rfl)) (ap (aJ 106 0 eAdr eAdr (L:=([(v2,6),(v2,10),(v2,12),(v2,14),(v2,22),(v2,16),(v2,24),(v2,18),(v2,26),(v2,20),(v2,28)]:List (Nat×Nat))) (j:=(1:Int).toNat) (of_decide_eq_true (by kernel_rfl)) (fun _=>rfl)) (ae (ac (ks':=[av gK,av gu,.b 3,av cd,kl (bC M w0) (bD M w0 r) [.b 2,av aX] (cat Try.f100 bO) 38,.b 2,av aX]) 1 (ai 3 (c7 32 1 1 v2 10 0 (ae ?_)))))))))))
  rcases ao h with ⟨h2,h⟩ | ⟨h2,h⟩
  ·
   exact ak 34 h2 (ac (ks':=[av gF,.b 3,av cd,kl (bC M w0) (bD M w0 r) [.b 2,av aX] (cat Try.f100 bO) 38,.b 2,av aX]) 1 (ai 3 (c7 37 1 1 v2 10 0 (ae (ag 0 (yg hK (v2:=v2) h))))))
  ·
   exact ak 34 h2 (ag 2 (yg hK (v2:=v2) h))
theorem ww (hK:KnOk K) (h:jr K n v1=some r):ACalls Try.prog 100 [.agg (aL v1)] (fun v _=>v = .agg (aL r)):=by
  refine bj (cat Try.f100 []) Try.func100 Try.ntmps100 fun M w0=>(bb ⟨[(0,.agg (aL v1))],[],[],[]⟩ ?_)
  unfold jr at h
  refine ac (ks':=[av [1,0],av [1,1]]) 3 (ve_rev 1 1 0 fun v2=>(ai 3 (ot_bsn 107 3 #[(0,(.tmp 7)),(1,(.tmp 8)),(2,(.tmp 9))] 10 (e:=106) (sz:=1) (l:=lm eAdr [(v2,6),(v2,10),(v2,12)]) (ae (aU (ks':=[av p100_8,.b 0,av [1,1,1]]) 4 ⟨[(1,.pp 1 v2 0),(2,.ptr 2 0),(3,.ref 10),(11,iI 0)],[(1,aL v1),(2,aL cr)],[(10,⟨106,1,lm eAdr [(v2,6),(v2,10),(v2,12)]⟩)],[1,2,10]⟩ (jG 40 (c:=cat Try.f100 jK) (by kernel_rfl) (aR (ac (ks':=[av kn,.b 1,av sZ,kl (bC M w0) (bD M w0 r) [.b 0,av [1,1,1]] (cat Try.f100 jK) 39,.b 0,av [1,1,1]]) 9 (bL [1,2,3,4,11] [1,2] [10] (bm 2 (nu 14 [.ref 10,iI 0,.adr v2 14,.adr v2 14,iI 0,.adr v2 22,.adr v2 22,.sl (lm eAdr [(v2,14),(v2,22)])]) [] [] [appS 22 10 ⟨106,1,lm eAdr [(v2,6),(v2,10),(v2,12),(v2,14),(v2,22)]⟩,stp Try.prog 40 Try.f100 kn 9] (am [.v 0 1,.v 0 2,.v 0 2,.v 0 2,.v 0 2,.v 0 2,.v 0 2,.v 0 1] (aj (e_s (m:=0) (cb 22 10 106 1 eAdr (L:=([(v2,6),(v2,10),(v2,12)]:List (Nat×Nat))) (M:=([(v2,14),(v2,22)]:(List (Nat×Nat)))) (bytes:=8) (rfl) (fun _=>rfl) (by kernel_rfl))) (aj (e_d 1) bk))) (aU (ks':=[kl (bC M w0) (bD M w0 r) [.b 0,av [1,1,1]] (cat Try.f100 jK) 39,.b 0,av [1,1,1]]) 2 ⟨[(1,.pp 1 v2 0),(2,.ptr 2 0),(3,.ref 10),(11,iI 1)],[(1,aL v1),(2,aL cr)],[(10,⟨106,1,lm eAdr [(v2,6),(v2,10),(v2,12),(v2,14),(v2,22)]⟩)],[1,2,10]⟩ (aY (aR (ac (ks':=[av kn,.b 1,av sZ,kl (bC M w0) (bD M w0 r) [.b 0,av [1,1,1]] (cat Try.f100 jK) 38,.b 0,av [1,1,1]]) 9 (bL [1,2,3,4,11] [1,2] [10] (bm 2 (nu 14 [.ref 10,iI 1,.adr v2 14,.adr v2 16,iI 1,.adr v2 22,.adr v2 24,.sl (lm eAdr [(v2,16),(v2,24)])]) [] [] [appS 22 10 ⟨106,1,lm eAdr [(v2,6),(v2,10),(v2,12),(v2,14),(v2,22),(v2,16),(v2,24)]⟩,stp Try.prog 40 Try.f100 kn 9] (am [.v 0 1,.v 0 2,.v 0 2,.v 0 2,.v 0 2,.v 0 2,.v 0 2,.v 0 1] (aj (e_s (m:=0) (cb 22 10 106 1 eAdr (L:=([(v2,6),(v2,10),(v2,12),(v2,14),(v2,22)]:List (Nat×Nat))) (M:=([(v2,16),(v2,24)]:(List (Nat×Nat)))) (bytes:=8) (rfl) (fun _=>rfl) (by kernel_rfl))) (aj (e_d 1) bk))) (aU (ks':=[kl (bC M w0) (bD M w0 r) [.b 0,av [1,1,1]] (cat Try.f100 jK) 38,.b 0,av [1,1,1]]) 2 ⟨[(1,.pp 1 v2 0),(2,.ptr 2 0),(3,.ref 10),(11,iI 2)],[(1,aL v1),(2,aL cr)],[(10,⟨106,1,lm eAdr [(v2,6),(v2,10),(v2,12),(v2,14),(v2,22),(v2,16),(v2,24)]⟩)],[1,2,10]⟩ (aY (aR (ac (ks':=[av kn,.b 1,av sZ,kl (bC M w0) (bD M w0 r) [.b 0,av [1,1,1]] (cat Try.f100 jK) 37,.b 0,av [1,1,1]]) 9 (bL [1,2,3,4,11] [1,2] [10] (bm 2 (nu 14 [.ref 10,iI 2,.adr v2 14,.adr v2 18,iI 2,.adr v2 22,.adr v2 26,.sl (lm eAdr [(v2,18),(v2,26)])]) [] [] [appS 22 10 ⟨106,1,lm eAdr [(v2,6),(v2,10),(v2,12),(v2,14),(v2,22),(v2,16),(v2,24),(v2,18),(v2,26)]⟩,stp Try.prog 40 Try.f100 kn 9] (am [.v 0 1,.v 0 2,.v 0 2,.v 0 2,.v 0 2,.v 0 2,.v 0 2,.v 0 1] (aj (e_s (m:=0) (cb 22 10 106 1 eAdr (L:=([(v2,6),(v2,10),(v2,12),(v2,14),(v2,22),(v2,16),(v2,24)]:List (Nat×Nat))) (M:=([(v2,18),(v2,26)]:(List (Nat×Nat)))) (bytes:=8) (rfl) (fun _=>rfl) (by kernel_rfl))) (aj (e_d 1) bk))) (aU (ks':=[kl (bC M w0) (bD M w0 r) [.b 0,av [1,1,1]] (cat Try.f100 jK) 37,.b 0,av [1,1,1]]) 2 ⟨[(1,.pp 1 v2 0),(2,.ptr 2 0),(3,.ref 10),(11,iI 3)],[(1,aL v1),(2,aL cr)],[(10,⟨106,1,lm eAdr [(v2,6),(v2,10),(v2,12),(v2,14),(v2,22),(v2,16),(v2,24),(v2,18),(v2,26)]⟩)],[1,2,10]⟩ ?_)))))))))))))))))))))))
  refine aY (aR (ac (ks':=[av kn,.b 1,av sZ,kl (bC M w0) (bD M w0 r) [.b 0,av [1,1,1]] (cat Try.f100 jK) 36,.b 0,av [1,1,1]]) 9 (bL [1,2,3,4,11] [1,2] [10] (bm 2 (nu 14 [.ref 10,iI 3,.adr v2 14,.adr v2 20,iI 3,.adr v2 22,.adr v2 28,.sl (lm eAdr [(v2,20),(v2,28)])]) [] [] [appS 22 10 ⟨106,1,lm eAdr [(v2,6),(v2,10),(v2,12),(v2,14),(v2,22),(v2,16),(v2,24),(v2,18),(v2,26),(v2,20),(v2,28)]⟩,stp Try.prog 40 Try.f100 kn 9] (am [.v 0 1,.v 0 2,.v 0 2,.v 0 2,.v 0 2,.v 0 2,.v 0 2,.v 0 1] (aj (e_s (m:=0) (cb 22 10 106 1 eAdr (L:=([(v2,6),(v2,10),(v2,12),(v2,14),(v2,22),(v2,16),(v2,24),(v2,18),(v2,26)]:List (Nat×Nat))) (M:=([(v2,20),(v2,28)]:(List (Nat×Nat)))) (bytes:=8) (rfl) (fun _=>rfl) (by kernel_rfl))) (aj (e_d 1) bk))) (aU (ks':=[kl (bC M w0) (bD M w0 r) [.b 0,av [1,1,1]] (cat Try.f100 jK) 36,.b 0,av [1,1,1]]) 2 ⟨[(1,.pp 1 v2 0),(2,.ptr 2 0),(3,.ref 10),(11,iI 4)],[(1,aL v1),(2,aL cr)],[(10,⟨106,1,lm eAdr [(v2,6),(v2,10),(v2,12),(v2,14),(v2,22),(v2,16),(v2,24),(v2,18),(v2,26),(v2,20),(v2,28)]⟩)],[1,2,10]⟩ (aY (aR (ac (ks':=[av p100_12,av p100_13,av aX]) 10 (ai 1 (ap (br eAdr ([(v2,6),(v2,10),(v2,12),(v2,14),(v2,22),(v2,16),(v2,24),(v2,18),(v2,26),(v2,20),(v2,28)]:List (Nat×Nat))) (ae (aU (ks':=[av p100_14,.b 2,av aX]) 1 ⟨[(1,.pp 1 v2 0),(2,.ptr 2 0),(24,.ref 10),(25,iI 11),(26,iI 0)],[(1,aL v1),(2,aL cr)],[(10,⟨106,1,lm eAdr [(v2,6),(v2,10),(v2,12),(v2,14),(v2,22),(v2,16),(v2,24),(v2,18),(v2,26),(v2,20),(v2,28)]⟩)],[1,2,10]⟩ (jG 40 (c:=cat Try.f100 bO) (by kernel_rfl) (aR (ac (ks':=[av gG,av gH,.b 3,av cd,kl (bC M w0) (bD M w0 r) [.b 2,av aX] (cat Try.f100 bO) 39,.b 2,av aX]) 8 (ai 0 (ap (bK 10 1 eAdr (L:=([(v2,6),(v2,10),(v2,12),(v2,14),(v2,22),(v2,16),(v2,24),(v2,18),(v2,26),(v2,20),(v2,28)]:List (Nat×Nat))) (i:=(0:Int)) (by kernel_rfl)) (ap (aJ 106 0 eAdr eAdr (L:=([(v2,6),(v2,10),(v2,12),(v2,14),(v2,22),(v2,16),(v2,24),(v2,18),(v2,26),(v2,20),(v2,28)]:List (Nat×Nat))) (j:=(0:Int).toNat) (of_decide_eq_true (by kernel_rfl)) (fun _=>rfl)) (ae (ac (ks':=[av gK,av gu,.b 3,av cd,kl (bC M w0) (bD M w0 r) [.b 2,av aX] (cat Try.f100 bO) 39,.b 2,av aX]) 1 (ai 3 (c7 32 1 1 v2 6 0 (ae ?_)))))))))))))))))))))))
  rcases ao h with ⟨h1,h⟩ | ⟨h1,h⟩
  ·
   exact ak 34 h1 (ac (ks':=[av gF,.b 3,av cd,kl (bC M w0) (bD M w0 r) [.b 2,av aX] (cat Try.f100 bO) 39,.b 2,av aX]) 1 (ai 3 (c7 37 1 1 v2 6 0 (ae (ag 0 (xj hK (v2:=v2) h))))))
  ·
   exact ak 34 h1 (ag 2 (xj hK (v2:=v2) h))
end
def nz:=pth 5 1
def p99_1:=pth 0 111110100
def p99_2:=pth 0 11111010010
def p99_3:=pth 0 11111010011
def p99_4:=pth 0 11111010011000
def p99_5:=pth 0 11111010011001
def p99_6:=pth 0 111110100111
def p99_7:=pth 0 111110100110010
def p99_8:=pth 0 111110100110011
def p99_9:=pth 5 10
def p99_10:=pth 6 1
def p99_11:=pth 0 11011
def p99_12:=pth 0 1101100
def p99_13:=pth 0 1101101
def p99_14:=pth 0 111101
def p99_15:=pth 0 11111
def p99_16:=pth 0 11110100
def p99_17:=pth 0 11110101
def p99_18:=pth 0 111101010
def p99_19:=pth 0 111101011
def p99_20:=pth 0 1111100
def p99_21:=pth 0 1111101
def p99_22:=pth 0 11111010
noncomputable section
abbrev cx99 (M:Nat→Prop) (w0:Base):Cx:=⟨Try.prog,71,M,w0⟩
abbrev q99 (M:Nat→Prop) (w0:Base) (r:Int×Int):=bodyPost Try.prog Try.f99 (RetQ M w0 (fun v _=>v = .tup [iI r.1,iI r.2]))
abbrev ch (p:List Nat):Kont:=.c (cat Try.f99 p)
abbrev k99_1 (M:Nat→Prop) (w0:Base) (r:Int×Int) (m1:Nat):Kont:=kl (cx99 M w0) (q99 M w0 r) [.b 0,ch nz] (cat Try.f99 p99_1) m1
def s99_l1 (v2:bw) (v6:(List ab)×Bool) (v11 v12 v13:Int):AS:=⟨[(3,.ptr 3 0),(4,iI v11),(5,iI v12),(47,.sl (lm aB v6.1)),(48,iI (v6.1.length:Int)),(49,iI v13)],[(3,ce v2)],[],[3]⟩
abbrev H99_1 (M:Nat→Prop) (w0:Base) (r:Int×Int) (v2:bw) (v6:(List ab)×Bool) (m1:Nat) (L1:Int→Int→Int→Option (Int×Int)):Prop:=∀ {v11 v12 v13:Int},L1 v11 v12 v13=some r→LP (cx99 M w0) (q99 M w0 r) [.b 0,ch nz] (cat Try.f99 p99_1) m1 (s99_l1 v2 v6 v11 v12 v13)
variable {K:Kn} {n:Nat} {M:Nat→Prop} {w0:Base} {r:Int×Int} {v1:ab} {v2:bw} {v6:(List ab)×Bool} {v11 v12 v13:Int} {m1:Nat} {L1:Int→Int→Int→Option (Int×Int)}
theorem BE (hK:KnOk K) (hL1:H99_1 M w0 r v2 v6 m1 L1) (h:kt K n v2 v6 L1 v11 v12 v13=some r):VE (cx99 M w0) (q99 M w0 r) [ch p99_1,k99_1 M w0 r m1,.b 0,ch nz] .normal (s99_l1 v2 v6 v11 v12 v13):=by
  unfold kt at h
  refine ac (ks':=[ch p99_2,ch p99_3,k99_1 M w0 r m1,.b 0,ch nz]) 3 ?_
  rcases ao h with ⟨h13,h⟩ | ⟨h13,h⟩
  ·
   refine ak 50 h13 (ac (ks':=[ch p99_4,ch p99_5,.b 1,ch p99_6,k99_1 M w0 r m1,.b 0,ch nz]) 5 (ai 0 ?_))
   obtain ⟨h14,h⟩:=aq h
   refine ap (bF aB ax h14 (cj) (b9)) (ae (ac (ks':=[ch p99_7,ch p99_8,.b 1,ch p99_6,k99_1 M w0 r m1,.b 0,ch nz]) 1 (ai 3 ?_)))
   obtain ⟨v14,h15,h⟩:=bind_some h
   exact nb (hK.eM h15) (ae (ag 3 (aY (hL1 h))))
  ·
   refine ak 50 h13 (ac (ks':=[ch p99_9,ch p99_10]) 6 (ai 1 ?_))
   obtain ⟨v15,h16,h⟩:=bind_some h
   refine aC (gb hK h16) (aO 3 1 ?_)
   obtain ⟨v16,h17,h⟩:=bind_some h
   refine aC (gb hK h17) (ae (aM 1 ?_))
   cases h
   exact dv
theorem Ao (hK:KnOk K) (m:Nat):H99_1 M w0 r v2 v6 m (jU K n v2 v6 m):=by
  induction m with
 | zero=>intro v11 v12 v13 h; cases h
 | succ m ih=>intro v11 v12 v13 h; have h:kt K n v2 v6 (jU K n v2 v6 m) v11 v12 v13=some r:=h; exact aR (BE hK ih h)
theorem zP (hK:KnOk K) (h:gm K n v1 v2=some r):ACalls Try.prog 99 [.agg (ax v1),.agg (ce v2)] (fun v _=>v = .tup [iI r.1,iI r.2]):=by
  refine bj (cat Try.f99 []) Try.func99 Try.ntmps99 fun M w0=>(bb ⟨[(0,.agg (ax v1)),(1,.agg (ce v2))],[],[],[]⟩ ?_)
  unfold gm at h
  refine ac (ks':=[ch [1,0,0],ch [1,0,1],ch [1,1]]) 4 (ai 2 ?_)
  obtain ⟨v3,h1,h⟩:=bind_some h
  refine aC (ww hK h1) (aO 4 1 ?_)
  obtain ⟨v4,h2,h⟩:=bind_some h
  refine aC (cT hK h2) (ae (ac (ks':=[ch p99_11,ch [1,1]]) 2 ?_))
  rcases ao h with ⟨h3,h⟩ | ⟨h3,h⟩
  ·
   refine ak 22 h3 (ac (ks':=[ch p99_12,ch p99_13,ch [1,1]]) 2 (ai 1 ?_))
   obtain ⟨v5,h4,h⟩:=bind_some h
   refine aC (gb hK h4) (ae (aM 4 ?_))
   cases h
   exact dv
  ·
   refine ak 22 h3 (ac (ks':=[ch [1,1,0],ch [1,1,1]]) 3 (ai 1 ?_))
   obtain ⟨v6,h5,h⟩:=bind_some h
   refine aC (xo hK h5) (ae (ac (ks':=[ch p99_14,ch p99_15]) 3 ?_))
   rcases ao h with ⟨h6,h⟩ | ⟨h6,h⟩
   ·
    refine ak 33 h6 (ac (ks':=[ch p99_16,ch p99_17,ch p99_15]) 2 (ai 5 ?_))
    obtain ⟨v7,h7,h⟩:=bind_some h
    refine nb (hK.lL h7) (ae (ac (ks':=[ch p99_18,ch p99_19,ch p99_15]) 1 (ai 1 ?_)))
    obtain ⟨v8,h8,h⟩:=bind_some h
    refine aC (gb hK h8) (aO 3 1 ?_)
    obtain ⟨v9,h9,h⟩:=bind_some h
    refine aC (gb hK h9) (ae (aM 2 ?_))
    cases h
    exact dv
   ·
    exact ak 33 h6 (ac (ks':=[ch p99_20,ch p99_21,ch nz]) 4 (ai 1 (ap (br aB v6.1) (ae (ag 1 (bE (p:=p99_22) n (Ao hK n h)))))))
end
def p79_0:=pth 0 11110
def p79_1:=pth 0 11111
noncomputable section
variable {K:Kn} {n:Nat} {M:Nat→Prop} {w0:Base} {r:Int×Int} {v1:ab} {v2:bw} 
abbrev cF79 (p:List Nat):Kont:=.c (cat Try.f79 p)
theorem Cz (hK:KnOk K) (h:fe K n v1 v2=some r):ACalls Try.prog 79 [.agg (ax v1),.agg (ce v2)] (fun v _=>v = .tup [iI r.1,iI r.2]):=by
  refine bj (cat Try.f79 []) Try.func79 Try.ntmps79 fun M w0=>(bb ⟨[(0,.agg (ax v1)),(1,.agg (ce v2))],[],[],[]⟩ ?_)
  unfold fe at h
  refine ac (ks':=[cF79 [1,0],cF79 [1,1]]) 3 (ai 2 ?_)
  obtain ⟨v3,h1,h⟩:=bind_some h
  refine aC (zP hK h1) (ae (ac (ks':=[cF79 [1,1,0],cF79 [1,1,1]]) 1 (ai 2 ?_)))
  obtain ⟨v4,h2,h⟩:=bind_some h
  refine aC (ww hK h2) (ae (ac (ks':=[cF79 p79_0,cF79 p79_1]) 1 (bL [4,5,6] [6] [] ?_)))
  obtain ⟨v5,h3,h⟩:=bind_some h
  obtain ⟨v6,h4,h⟩:=bind_some h
  obtain ⟨v7,h5,h⟩:=bind_some h
  obtain ⟨v8,h6,h⟩:=bind_some h
  obtain ⟨v9,h7,h⟩:=bind_some h
  obtain ⟨v10,h8,h⟩:=bind_some h
  refine bm 2 (nu 16 [.agg (aL v4),.agg (aL v4),iI v3.1,iI v5,.agg (bh v6),iI v7,.agg (aL v4),.agg (aL v4),iI v3.2,iI v8,.agg (bh v9),iI v10]) [] [] [stp Try.prog 28 Try.f79 p79_0 12,stp Try.prog 28 Try.f79 p79_0 13] (am (vz 3) (aj (e_c 0 1 19 (t9 hK h3)) (aj (e_c 0 1 20 (oM hK h4)) (aj (e_c 0 1 21 (oJ hK h5)) (am [.v 0 2,.v 0 2,.v 0 2] (aj (e_c 0 2 25 (t9 hK h6)) (aj (e_c 0 2 26 (oM hK h7)) (aj (e_c 0 1 27 (oJ hK h8)) (aj (e_d 0) (aj (e_d 1) bk)))))))))) (aM 1 ?_)
  cases h
  exact dv
end
noncomputable section
variable {K:Kn} {n:Nat} {M:Nat→Prop} {w0:Base} {r:Int×Int} {v1:ab} 
abbrev cF55 (p:List Nat):Kont:=.c (cat Try.f55 p)
theorem BW (hK:KnOk K) (h:fA K n v1=some r):ACalls Try.prog 55 [.agg (ax v1)] (fun v _=>v = .tup [iI r.1,iI r.2]):=by
  refine bj (cat Try.f55 []) Try.func55 Try.ntmps55 fun M w0=>(bb ⟨[(0,.agg (ax v1))],[],[],[]⟩ ?_)
  unfold fA at h
  refine ac (ks':=[cF55 [1,0],cF55 [1,1]]) 3 (bL [1] [1] [] ?_)
  obtain ⟨v2,h1,h⟩:=bind_some h
  obtain ⟨v3,h2,h⟩:=bind_some h
  refine bm 2 (nu 4 [.agg (ax v1),.agg (ce v2),.tup [iI v3.1,iI v3.2],iI v3.1,iI v3.2]) [] [] [stp Try.prog 9 Try.f55 [1,0] 5,stp Try.prog 9 Try.f55 [1,0] 6] (am [.v 0 1] (aj (e_c 0 1 5 (tZ hK h1)) (aj (e_c 0 1 6 (Cz hK h2)) (am (vz 2) (aj (e_d 0) (aj (e_d 1) bk)))))) (aM 1 ?_)
  cases h
  exact dv
end
end Go.Proofs.Ytlpndemhnpajiaa

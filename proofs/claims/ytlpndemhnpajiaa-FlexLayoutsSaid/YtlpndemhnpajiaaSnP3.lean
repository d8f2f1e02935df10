/- The runs of the functions that FlexLayouts reaches do what their plain forms say, part 3. Made by a program. -/
import Derived.Test.YtlpndemhnpajiaaSnGk
import Derived.Test.YtlpndemhnpajiaaSnP2
namespace Go.Proofs.Ytlpndemhnpajiaa
open Go.RowKit
set_option maxRecDepth 20000
set_option linter.all false
set_option linter.unusedVariables false
set_option linter.unusedSimpArgs false
def jm:=pth 24 1
def p104_1:=pth 23 10100
def nr:=pth 7 101011
def iv:=pth 8 1
def p104_4:=pth 7 101010100
def p104_5:=pth 23 101001001111
def p104_6:=pth 23 1010011
def p104_7:=pth 23 1010000
def p104_8:=pth 23 1010001
def p104_9:=pth 23 101001
def p104_10:=pth 23 101001000
def p104_11:=pth 23 101001001
def p104_12:=pth 23 1010010011101
def p104_13:=pth 23 10100100111010
def p104_14:=pth 22 1
def p104_15:=pth 23 1010
def fW:=pth 20 1
def p104_17:=pth 21 101
def p104_18:=pth 19 10011111
def p104_19:=pth 19 1001111100
def p104_20:=pth 19 1001111101
def p104_21:=pth 19 1001111111
def p104_22:=pth 19 10011111110
def p104_23:=pth 19 100111111111
def p104_24:=pth 19 1001
def p104_25:=pth 19 100100
def p104_26:=pth 19 100101
def p104_27:=pth 19 100111
def p104_28:=pth 19 1001110
def p104_29:=pth 19 10011110
def nN:=pth 19 1
def p104_31:=pth 19 1000
def p104_32:=pth 18 10111
def p104_33:=pth 18 101110
def p104_34:=pth 12 1
def p104_35:=pth 12 10
def p104_36:=pth 13 1
def p104_37:=pth 13 10
def p104_38:=pth 14 1
def p104_39:=pth 18 101
def p104_40:=pth 18 1010
def p104_41:=pth 18 10110
def p104_42:=pth 11 1
def p104_43:=pth 11 10
def p104_44:=pth 10 1
def p104_45:=pth 10 10
def p104_46:=pth 8 10
def p104_47:=pth 9 1
def p104_48:=pth 9 10
def p104_49:=pth 7 10101010000
def p104_50:=pth 7 10101010001
def p104_51:=pth 7 1010101001
def p104_52:=pth 7 101010100100
def p104_53:=pth 7 10101010011
def p104_54:=pth 0 111110
def p104_55:=pth 5 1
def p104_56:=pth 5 10
def p104_57:=pth 6 1
def p104_58:=pth 7 101
def p104_59:=pth 7 10101010
def p104_60:=pth 7 10110
def p104_61:=pth 7 10111
noncomputable section
abbrev dP (M:Nat→Prop) (w0:Base):Cx:=⟨Try.prog,281,M,w0⟩
abbrev dC (M:Nat→Prop) (w0:Base) (r:aa):=bodyPost Try.prog Try.f104 (RetQ M w0 (fun v s=>v = .agg (List.set (az ({ r with Kids:=[] }:aa)) 66 (.ref 278))∧look 278 s.r=some ⟨67,67,lm au r.Kids⟩))
abbrev aW (p:List Nat):Kont:=.c (cat Try.f104 p)
abbrev oZ (M:Nat→Prop) (w0:Base) (r:aa) (m2:Nat):Kont:=kl (dP M w0) (dC M w0 r) [.b 3,aW jm] (cat Try.f104 p104_1) m2
abbrev k104_1 (M:Nat→Prop) (w0:Base) (r:aa) (m1:Nat):Kont:=kl (dP M w0) (dC M w0 r) [.b 0,aW nr,aW iv] (cat Try.f104 p104_4) m1
def s104_j12 (v1:ab) (v2:ay) (v4:Int) (v5:Bool) (v14:Int) (v15 v16:ah) (v17:Bool) (v18:List aa) (v28:Int) (v37 v38:ah) (v39:Bool) (v59 v60:Int) (v61:List aa) (v65:aa):AS:=⟨[(4,.ptr 4 0),(6,.ptr 6 0),(8,.ptr 8 0),(9,.bool v5),(11,.ptr 11 0),(22,iI v28),(24,iI v59),(25,.ptr 25 0)],[(4,bh v2),(6,List.set (az bv) 66 (.nils)),(8,List.set (az (⟨1,v1.Node,v2.Margin.a3,0,v4,v60,0,⟨#[]⟩,v1.Style,v37,v38,v39,[]⟩:aa)) 66 (.ref 278)),(11,List.set (cN (⟨[],v14,v15,v16,v17⟩:bZ)) 0 (.ref 1077)),(25,az v65)],[(278,⟨67,67,lm au v61⟩),(1077,⟨67,67,lm au v18⟩)],[4,6,8,11,25,278,1077]⟩
def s104_l13 (v1:ab) (v2:ay) (v4:Int) (v5:Bool) (v14:Int) (v15 v16:ah) (v17:Bool) (v18:List aa) (v28:Int) (v37 v38:ah) (v39:Bool) (v59 v60:Int) (v61:List aa):AS:=⟨[(4,.ptr 4 0),(6,.ptr 6 0),(8,.ptr 8 0),(9,.bool v5),(11,.ptr 11 0),(22,iI v28),(24,iI v59)],[(4,bh v2),(6,List.set (az bv) 66 (.nils)),(8,List.set (az (⟨1,v1.Node,v2.Margin.a3,0,v4,v60,0,⟨#[]⟩,v1.Style,v37,v38,v39,[]⟩:aa)) 66 (.ref 278)),(11,List.set (cN (⟨[],v14,v15,v16,v17⟩:bZ)) 0 (.ref 1077))],[(278,⟨67,67,lm au v61⟩),(1077,⟨67,67,lm au v18⟩)],[4,6,8,11,278,1077]⟩
def s104_j11 (v1:ab) (v2:ay) (v4:Int) (v5:Bool) (v14:Int) (v15 v16:ah) (v17:Bool) (v18:List aa) (v28:Int) (v37 v38:ah) (v39:Bool) (v40:Int):AS:=⟨[(4,.ptr 4 0),(6,.ptr 6 0),(8,.ptr 8 0),(9,.bool v5),(11,.ptr 11 0),(22,iI v28),(23,iI v40)],[(4,bh v2),(6,List.set (az bv) 66 (.nils)),(8,List.set (az (⟨1,v1.Node,v2.Margin.a3,0,v4,0,0,⟨#[]⟩,v1.Style,v37,v38,v39,[]⟩:aa)) 66 (.nils)),(11,List.set (cN (⟨[],v14,v15,v16,v17⟩:bZ)) 0 (.ref 1077))],[(1077,⟨67,67,lm au v18⟩)],[4,6,8,11,1077]⟩
def s104_j10 (v1:ab) (v2:ay) (v4:Int) (v5:Bool) (v14:Int) (v15 v16:ah) (v17:Bool) (v18:List aa) (v19:Int×Bool) (v28 v36:Int) (v37 v38:ah) (v39:Bool):AS:=⟨[(4,.ptr 4 0),(6,.ptr 6 0),(8,.ptr 8 0),(9,.bool v5),(11,.ptr 11 0),(16,iI v19.1),(17,.bool v19.2),(22,iI v28),(23,iI v36)],[(4,bh v2),(6,List.set (az bv) 66 (.nils)),(8,List.set (az (⟨1,v1.Node,v2.Margin.a3,0,v4,0,0,⟨#[]⟩,v1.Style,v37,v38,v39,[]⟩:aa)) 66 (.nils)),(11,List.set (cN (⟨[],v14,v15,v16,v17⟩:bZ)) 0 (.ref 1077))],[(1077,⟨67,67,lm au v18⟩)],[4,6,8,11,1077]⟩
def s104_j9 (v1:ab) (v2:ay) (v4:Int) (v5:Bool) (v14:Int) (v15 v16:ah) (v17:Bool) (v18:List aa) (v19:Int×Bool) (v21 v22:Bool) (v24:ah) (v28:Int) (v29:ah) (v33:Bool):AS:=⟨[(4,.ptr 4 0),(6,.ptr 6 0),(8,.ptr 8 0),(9,.bool v5),(11,.ptr 11 0),(16,iI v19.1),(17,.bool v19.2),(18,.bool v21),(19,.bool v22),(21,.ptr 21 0),(22,iI v28),(23,iI 0),(186,.bool v33)],[(4,bh v2),(6,List.set (az bv) 66 (.nils)),(8,List.set (az (⟨1,v1.Node,v2.Margin.a3,0,v4,0,0,⟨#[]⟩,v1.Style,v29,v24,false,[]⟩:aa)) 66 (.nils)),(11,List.set (cN (⟨[],v14,v15,v16,v17⟩:bZ)) 0 (.ref 1077)),(21,bH v24)],[(1077,⟨67,67,lm au v18⟩)],[4,6,8,11,21,1077]⟩
def s104_j8 (v1:ab) (v2:ay) (v4:Int) (v5:Bool) (v14:Int) (v15 v16:ah) (v17:Bool) (v18:List aa) (v19:Int×Bool) (v21 v22:Bool) (v24:ah) (v28:Int) (v29:ah) (v30:Bool):AS:=⟨[(4,.ptr 4 0),(6,.ptr 6 0),(8,.ptr 8 0),(9,.bool v5),(11,.ptr 11 0),(16,iI v19.1),(17,.bool v19.2),(18,.bool v21),(19,.bool v22),(21,.ptr 21 0),(22,iI v28),(23,iI 0),(158,.bool v30)],[(4,bh v2),(6,List.set (az bv) 66 (.nils)),(8,List.set (az (⟨1,v1.Node,v2.Margin.a3,0,v4,0,0,⟨#[]⟩,v1.Style,v29,v24,false,[]⟩:aa)) 66 (.nils)),(11,List.set (cN (⟨[],v14,v15,v16,v17⟩:bZ)) 0 (.ref 1077)),(21,bH v24)],[(1077,⟨67,67,lm au v18⟩)],[4,6,8,11,21,1077]⟩
def s104_j7 (v1:ab) (v2:ay) (v4:Int) (v5:Bool) (v14:Int) (v15 v16:ah) (v17:Bool) (v18:List aa) (v19:Int×Bool) (v21 v22:Bool) (v24:ah) (v28:Int) (v29:ah):AS:=⟨[(4,.ptr 4 0),(6,.ptr 6 0),(8,.ptr 8 0),(9,.bool v5),(11,.ptr 11 0),(16,iI v19.1),(17,.bool v19.2),(18,.bool v21),(19,.bool v22),(21,.ptr 21 0),(22,iI v28),(23,iI 0)],[(4,bh v2),(6,List.set (az bv) 66 (.nils)),(8,List.set (az (⟨1,v1.Node,v2.Margin.a3,0,v4,0,0,⟨#[]⟩,v1.Style,v29,v24,false,[]⟩:aa)) 66 (.nils)),(11,List.set (cN (⟨[],v14,v15,v16,v17⟩:bZ)) 0 (.ref 1077)),(21,bH v24)],[(1077,⟨67,67,lm au v18⟩)],[4,6,8,11,21,1077]⟩
def s104_j6 (v1:ab) (v2:ay) (v4:Int) (v5:Bool) (v14:Int) (v15 v16:ah) (v17:Bool) (v18:List aa) (v19:Int×Bool) (v21 v22:Bool) (v23 v24:ah) (v26:Bool):AS:=⟨[(4,.ptr 4 0),(6,.ptr 6 0),(8,.ptr 8 0),(9,.bool v5),(11,.ptr 11 0),(16,iI v19.1),(17,.bool v19.2),(18,.bool v21),(19,.bool v22),(21,.ptr 21 0),(22,iI 0),(23,iI 0),(154,.bool v26)],[(4,bh v2),(6,List.set (az bv) 66 (.nils)),(8,List.set (az (⟨1,v1.Node,v2.Margin.a3,0,v4,0,0,⟨#[]⟩,v1.Style,v23,v24,false,[]⟩:aa)) 66 (.nils)),(11,List.set (cN (⟨[],v14,v15,v16,v17⟩:bZ)) 0 (.ref 1077)),(21,bH v24)],[(1077,⟨67,67,lm au v18⟩)],[4,6,8,11,21,1077]⟩
def s104_j5 (v1:ab) (v2:ay) (v4:Int) (v5:Bool) (v14:Int) (v15 v16:ah) (v17:Bool) (v18:List aa) (v19:Int×Bool) (v21 v22:Bool):AS:=⟨[(4,.ptr 4 0),(6,.ptr 6 0),(8,.ptr 8 0),(9,.bool v5),(11,.ptr 11 0),(16,iI v19.1),(17,.bool v19.2),(18,.bool v21),(19,.bool v22)],[(4,bh v2),(6,List.set (az bv) 66 (.nils)),(8,List.set (az ({ bv with Kind:=1,Node:=v1.Node,X:=v2.Margin.a3,W:=v4,Style:=v1.Style }:aa)) 66 (.nils)),(11,List.set (cN (⟨[],v14,v15,v16,v17⟩:bZ)) 0 (.ref 1077))],[(1077,⟨67,67,lm au v18⟩)],[4,6,8,11,1077]⟩
def s104_j4 (v1:ab) (v2:ay) (v4:Int) (v5:Bool) (v14:Int) (v15 v16:ah) (v17:Bool) (v18:List aa) (v19:Int×Bool) (v20 v21:Bool):AS:=⟨[(2,.bool v20),(4,.ptr 4 0),(6,.ptr 6 0),(8,.ptr 8 0),(9,.bool v5),(11,.ptr 11 0),(16,iI v19.1),(17,.bool v19.2),(18,.bool v21)],[(4,bh v2),(6,List.set (az bv) 66 (.nils)),(8,List.set (az ({ bv with Kind:=1,Node:=v1.Node,X:=v2.Margin.a3,W:=v4,Style:=v1.Style }:aa)) 66 (.nils)),(11,List.set (cN (⟨[],v14,v15,v16,v17⟩:bZ)) 0 (.ref 1077))],[(1077,⟨67,67,lm au v18⟩)],[4,6,8,11,1077]⟩
def s104_j3 (v1:ab) (v2:ay) (v4:Int) (v5:Bool) (v14:Int) (v15 v16:ah) (v17:Bool) (v18:List aa) (v19:Int×Bool) (v20:Bool):AS:=⟨[(2,.bool v20),(4,.ptr 4 0),(6,.ptr 6 0),(8,.ptr 8 0),(9,.bool v5),(11,.ptr 11 0),(16,iI v19.1),(17,.bool v19.2)],[(4,bh v2),(6,List.set (az bv) 66 (.nils)),(8,List.set (az ({ bv with Kind:=1,Node:=v1.Node,X:=v2.Margin.a3,W:=v4,Style:=v1.Style }:aa)) 66 (.nils)),(11,List.set (cN (⟨[],v14,v15,v16,v17⟩:bZ)) 0 (.ref 1077))],[(1077,⟨67,67,lm au v18⟩)],[4,6,8,11,1077]⟩
def s104_j2 (v1:ab) (v2:ay) (v3:Bool) (v4:Int) (v5:Bool) (v14:Int) (v15 v16:ah) (v17:Bool) (v18:List aa):AS:=⟨[(2,.bool v3),(4,.ptr 4 0),(6,.ptr 6 0),(7,.ptr 7 0),(8,.ptr 8 0),(9,.bool v5),(11,.ptr 11 0)],[(4,bh v2),(6,List.set (az bv) 66 (.nils)),(7,aL v1.Style),(8,List.set (az ({ bv with Kind:=1,Node:=v1.Node,X:=v2.Margin.a3,W:=v4,Style:=v1.Style }:aa)) 66 (.nils)),(11,List.set (cN (⟨[],v14,v15,v16,v17⟩:bZ)) 0 (.ref 1077))],[(1077,⟨67,67,lm au v18⟩)],[4,6,7,8,11,1077]⟩
def s104_l1 (v1:ab) (v2:ay) (v3:Bool) (v4:Int) (v5:Bool) (v6:List ab) (v9:Int) (v10:List aa):AS:=⟨[(2,.bool v3),(4,.ptr 4 0),(6,.ptr 6 0),(7,.ptr 7 0),(8,.ptr 8 0),(9,.bool v5),(10,.ref 1057),(11,.ptr 11 0),(12,.ref 75),(13,iI v9)],[(4,bh v2),(6,List.set (az bv) 66 (.nils)),(7,aL v1.Style),(8,List.set (az ({ bv with Kind:=1,Node:=v1.Node,X:=v2.Margin.a3,W:=v4,Style:=v1.Style }:aa)) 66 (.nils)),(11,List.set (cN mE) 0 (.nils))],[(75,⟨67,67,lm au v10⟩),(1057,⟨50,59,lm aB v6⟩)],[4,6,7,8,11,75,1057]⟩
abbrev H104_1 (M:Nat→Prop) (w0:Base) (r:aa) (v1:ab) (v2:ay) (v3:Bool) (v4:Int) (v5:Bool) (v6:List ab) (m1:Nat) (L1:Int→(List aa)→Option aa):Prop:=∀ {v9:Int} {v10:List aa},L1 v9 v10=some r→LP (dP M w0) (dC M w0 r) [.b 0,aW nr,aW iv] (cat Try.f104 p104_4) m1 (s104_l1 v1 v2 v3 v4 v5 v6 v9 v10)
abbrev H104_2 (M:Nat→Prop) (w0:Base) (r:aa) (v1:ab) (v2:ay) (v4:Int) (v5:Bool) (v14:Int) (v15 v16:ah) (v17:Bool) (v18:List aa) (v28:Int) (v37 v38:ah) (v39:Bool) (m2:Nat) (L2:Int→Int→(List aa)→Option aa):Prop:=∀ {v59 v60:Int} {v61:List aa},L2 v59 v60 v61=some r→LP (dP M w0) (dC M w0 r) [.b 3,aW jm] (cat Try.f104 p104_1) m2 (s104_l13 v1 v2 v4 v5 v14 v15 v16 v17 v18 v28 v37 v38 v39 v59 v60 v61)
variable {K:Kn} {n:Nat} {M:Nat→Prop} {w0:Base} {r:aa} {v1:ab} {v2:ay} {v3:Bool} {v4:Int} {v5:Bool} {v6:List ab} {v9:Int} {v10:List aa} {v14:Int} {v15 v16:ah} {v17:Bool} {v18:List aa} {v19:Int×Bool} {v20 v21 v22:Bool} {v23 v24:ah} {v26:Bool} {v28:Int} {v29:ah} {v30 v33:Bool} {v36:Int} {v37 v38:ah} {v39:Bool} {v40 v59 v60:Int} {v61:List aa} {v65:aa} {m1:Nat} {L1:Int→(List aa)→Option aa} {m2:Nat} {L2:Int→Int→(List aa)→Option aa}
theorem vt (hK:KnOk K) (hL2:H104_2 M w0 r v1 v2 v4 v5 v14 v15 v16 v17 v18 v28 v37 v38 v39 m2 L2) (h:kS K n v1 v2 v4 v5 v14 v15 v16 v17 v18 v28 v37 v38 v39 v59 v60 v61 L2 v65=some r):VE (dP M w0) (dC M w0 r) [aW p104_5,.b 4,aW p104_6,oZ M w0 r m2,.b 3,aW jm] .normal (s104_j12 v1 v2 v4 v5 v14 v15 v16 v17 v18 v28 v37 v38 v39 v59 v60 v61 v65):=by
  unfold kS at h
  refine ai 3 (ap (dN au ([v65]:List aa) (new:=[az v65]) (by simp only [List.map_cons,List.map_nil,cp])) ?_)
  obtain ⟨h73,h⟩:=aq h
  exact ap (cb 278 278 67 67 au (rfl) (dR) h73) (ae (ag 2 (aY (hL2 h))))
theorem CO (hK:KnOk K) (hL2:H104_2 M w0 r v1 v2 v4 v5 v14 v15 v16 v17 v18 v28 v37 v38 v39 m2 L2) (h:kx K n v1 v2 v4 v5 v14 v15 v16 v17 v18 v28 v37 v38 v39 L2 v59 v60 v61=some r):VE (dP M w0) (dC M w0 r) [aW p104_1,oZ M w0 r m2,.b 3,aW jm] .normal (s104_l13 v1 v2 v4 v5 v14 v15 v16 v17 v18 v28 v37 v38 v39 v59 v60 v61):=by
  unfold kx at h
  refine ac (ks':=[aW p104_7,aW p104_8,aW p104_9,oZ M w0 r m2,.b 3,aW jm]) 2 (ai 3 (ap (br au v18) (ae ?_)))
  rcases ao h with ⟨h67,h⟩ | ⟨h67,h⟩
  ·
   refine ak 237 h67 (ac (ks':=[aW p104_10,aW p104_11,.b 4,aW p104_6,oZ M w0 r m2,.b 3,aW jm]) 5 (ai 3 ?_))
   obtain ⟨h68,h⟩:=aq h
   refine ap (bK 1077 67 au h68) (ap (aJ 67 0 au az (aH h68).2 (cp)) (ae ?_))
   obtain ⟨v62,h69,h⟩:=bind_some h
   have h69:=Option.some.inj h69
   obtain ⟨v63,h70,h⟩:=bind_some h
   have h70:=Option.some.inj h70
   refine aU (ks':=[aW p104_12,aW p104_5,.b 4,aW p104_6,oZ M w0 r m2,.b 3,aW jm]) 7 ⟨[(4,.ptr 4 0),(6,.ptr 6 0),(8,.ptr 8 0),(9,.bool v5),(11,.ptr 11 0),(22,iI v28),(24,iI v59),(25,.ptr 25 0),(269,.bool v5)],[(4,bh v2),(6,List.set (az bv) 66 (.nils)),(8,List.set (az (⟨1,v1.Node,v2.Margin.a3,0,v4,v60,0,⟨#[]⟩,v1.Style,v37,v38,v39,[]⟩:aa)) 66 (.ref 278)),(11,List.set (cN (⟨[],v14,v15,v16,v17⟩:bZ)) 0 (.ref 1077)),(25,az ({ (gD v18 v59) with X:=v62,Y:=v63 }:aa))],[(278,⟨67,67,lm au v61⟩),(1077,⟨67,67,lm au v18⟩)],[4,6,8,11,25,278,1077]⟩ ?_ (by subst h70; subst h69; kernel_rfl)
   rcases ao h with ⟨h71,h⟩ | ⟨h71,h⟩
   ·
    refine ak 269 h71 (ac (ks':=[aW p104_13,aW p104_5,.b 4,aW p104_6,oZ M w0 r m2,.b 3,aW jm]) 1 (ai 3 ?_))
    obtain ⟨v64,h72,h⟩:=bind_some h
    exact aC (xT hK h72) (ae (ag 0 (vt hK hL2 h)))
   ·
    exact ak 269 h71 (ag 2 (vt hK hL2 h))
  ·
   refine ak 237 h67 (aM 8 ?_)
   cases h
   exact cP
theorem Ah (hK:KnOk K) (m:Nat):H104_2 M w0 r v1 v2 v4 v5 v14 v15 v16 v17 v18 v28 v37 v38 v39 m (lU K n v1 v2 v4 v5 v14 v15 v16 v17 v18 v28 v37 v38 v39 m):=by
  induction m with
 | zero=>intro v59 v60 v61 h; cases h
 | succ m ih=>intro v59 v60 v61 h; have h:kx K n v1 v2 v4 v5 v14 v15 v16 v17 v18 v28 v37 v38 v39 (lU K n v1 v2 v4 v5 v14 v15 v16 v17 v18 v28 v37 v38 v39 m) v59 v60 v61=some r:=h; exact aR (CO hK ih h)
theorem vW (hK:KnOk K) (h:jp K n v1 v2 v4 v5 v14 v15 v16 v17 v18 v28 v37 v38 v39 v40=some r):VE (dP M w0) (dC M w0 r) [aW p104_14] .normal (s104_j11 v1 v2 v4 v5 v14 v15 v16 v17 v18 v28 v37 v38 v39 v40):=by
  unfold jp at h
  exact ac (ks':=[aW p104_15,.b 3,aW jm]) 6 (ve_wo 278 8 66 67 67 (ag 0 (bE (p:=p104_15) n (Ah hK n h))))
theorem pE (hK:KnOk K) (h:fi K n v1 v2 v4 v5 v14 v15 v16 v17 v18 v19 v28 v36 v37 v38 v39=some r):VE (dP M w0) (dC M w0 r) [.b 2,aW fW] .normal (s104_j10 v1 v2 v4 v5 v14 v15 v16 v17 v18 v19 v28 v36 v37 v38 v39):=by
  unfold fi at h
  refine ac (ks':=[aW p104_17,aW p104_14]) 6 ?_
  rcases ao h with ⟨h42,h⟩ | ⟨h42,h⟩
  ·
   exact ak 213 h42 (ag 2 (vW hK h))
  ·
   exact ak 213 h42 (ag 2 (vW hK h))
theorem xz (hK:KnOk K) (h:lP K n v1 v2 v4 v5 v14 v15 v16 v17 v18 v19 v21 v22 v24 v28 v29 v33=some r):VE (dP M w0) (dC M w0 r) [aW p104_18,.b 2,aW fW] .normal (s104_j9 v1 v2 v4 v5 v14 v15 v16 v17 v18 v19 v21 v22 v24 v28 v29 v33):=by
  unfold lP at h
  rcases ao h with ⟨h37,h⟩ | ⟨h37,h⟩
  ·
   refine ak 186 h37 (ac (ks':=[aW p104_19,aW p104_20,.b 2,aW fW]) 2 (ai 3 ?_))
   obtain ⟨v34,h38,h⟩:=bind_some h
   exact aC (ra hK h38) (ae (ag 3 (pE hK h)))
  ·
   refine ak 186 h37 (ac (ks':=[aW p104_21,.b 2,aW fW]) 3 ?_)
   rcases ao h with ⟨h39,h⟩ | ⟨h39,h⟩
   ·
    refine ak 200 h39 (ac (ks':=[aW p104_22,.b 2,aW fW]) 1 (ai 3 ?_))
    obtain ⟨v35,h40,h⟩:=bind_some h
    exact aC (ra hK h40) (ae (ag 0 (pE hK h)))
   ·
    refine ak 200 h39 (ac (ks':=[aW p104_23,.b 2,aW fW]) 3 ?_)
    rcases ao h with ⟨h41,h⟩ | ⟨h41,h⟩
    ·
     exact ak 207 h41 (ag 2 (pE hK h))
    ·
     exact ak 207 h41 (ag 2 (pE hK h))
theorem vR (hK:KnOk K) (h:l7 K n v1 v2 v4 v5 v14 v15 v16 v17 v18 v19 v21 v22 v24 v28 v29 v30=some r):VE (dP M w0) (dC M w0 r) [aW p104_24,.b 2,aW fW] .normal (s104_j8 v1 v2 v4 v5 v14 v15 v16 v17 v18 v19 v21 v22 v24 v28 v29 v30):=by
  unfold l7 at h
  rcases ao h with ⟨h32,h⟩ | ⟨h32,h⟩
  ·
   refine ak 158 h32 (ac (ks':=[aW p104_25,aW p104_26,.b 2,aW fW]) 2 (ai 3 ?_))
   obtain ⟨v31,h33,h⟩:=bind_some h
   exact aC (ra hK h33) (ae (ag 1 (pE hK h)))
  ·
   refine ak 158 h32 (ac (ks':=[aW p104_27,.b 2,aW fW]) 3 ?_)
   rcases ao h with ⟨h34,h⟩ | ⟨h34,h⟩
   ·
    refine ak 174 h34 (ac (ks':=[aW p104_28,.b 2,aW fW]) 1 (bL [4,6,8,9,11,16,17,22] [4,6,8,11] [1077] ?_))
    obtain ⟨v32,h35,h⟩:=bind_some h
    exact bm 1 (nu 178 [iI v28,.ptr 11 1,iI v14,iI (w64 (v28+v14)),.ptr 11 4,.agg (bH v16),iI v32,iI (w64 ((w64 (v28+v14))+v32))]) [] [] [stp Try.prog 281 Try.f104 p104_28 8] (am (vz 6) (aj (e_c 0 1 184 (lj hK h35)) (am [.v 0 1] (aj (e_d 0) bk)))) (ag 0 (pE hK h))
   ·
    refine ak 174 h34 (ac (ks':=[aW p104_29,aW p104_18,.b 2,aW fW]) 2 (ai 2 ?_))
    rcases ao h with ⟨h36,h⟩ | ⟨h36,h⟩
    ·
     exact aK 188 h36 (ae (ag 0 (xz hK h)))
    ·
     exact aK 188 h36 (ae (ag 0 (xz hK h)))
theorem ux (hK:KnOk K) (h:jw K n v1 v2 v4 v5 v14 v15 v16 v17 v18 v19 v21 v22 v24 v28 v29=some r):VE (dP M w0) (dC M w0 r) [aW nN] .normal (s104_j7 v1 v2 v4 v5 v14 v15 v16 v17 v18 v19 v21 v22 v24 v28 v29):=by
  unfold jw at h
  refine ac (ks':=[aW p104_31,aW p104_24,.b 2,aW fW]) 3 (ai 4 ?_)
  rcases ao h with ⟨h31,h⟩ | ⟨h31,h⟩
  ·
   exact aK 162 h31 (ae (ag 0 (vR hK h)))
  ·
   exact aK 162 h31 (ae (ag 0 (vR hK h)))
theorem wK (hK:KnOk K) (h:ln K n v1 v2 v4 v5 v14 v15 v16 v17 v18 v19 v21 v22 v23 v24 v26=some r):VE (dP M w0) (dC M w0 r) [aW p104_32,aW nN] .normal (s104_j6 v1 v2 v4 v5 v14 v15 v16 v17 v18 v19 v21 v22 v23 v24 v26):=by
  unfold ln at h
  rcases ao h with ⟨h29,h⟩ | ⟨h29,h⟩
  ·
   refine ak 154 h29 (ac (ks':=[aW p104_33,aW nN]) 1 (ai 2 ?_))
   obtain ⟨v27,h30,h⟩:=bind_some h
   exact aC (lj hK h30) (ae (ag 0 (ux hK h)))
  ·
   exact ak 154 h29 (ag 2 (ux hK h))
theorem u9 (hK:KnOk K) (h:gi K n v1 v2 v4 v5 v14 v15 v16 v17 v18 v19 v21 v22=some r):VE (dP M w0) (dC M w0 r) [aW p104_34] .normal (s104_j5 v1 v2 v4 v5 v14 v15 v16 v17 v18 v19 v21 v22):=by
  unfold gi at h
  refine ac (ks':=[aW p104_35,aW p104_36]) 1 (ai 3 ?_)
  obtain ⟨v23,h24,h⟩:=bind_some h
  refine aC (tO hK h24) (ae (ac (ks':=[aW p104_37,aW p104_38]) 1 (ai 3 ?_)))
  obtain ⟨v24,h25,h⟩:=bind_some h
  refine aC (tO hK h25) (ae (ac (ks':=[aW p104_39,aW nN]) 11 ?_))
  rcases ao h with ⟨h26,h⟩ | ⟨h26,h⟩
  ·
   refine ak 142 h26 (ac (ks':=[aW p104_40,aW nN]) 1 (ai 3 ?_))
   obtain ⟨v25,h27,h⟩:=bind_some h
   exact aC (ra hK h27) (ae (ag 0 (ux hK h)))
  ·
   refine ak 142 h26 (ac (ks':=[aW p104_41,aW p104_32,aW nN]) 2 (ai 4 ?_))
   rcases ao h with ⟨h28,h⟩ | ⟨h28,h⟩
   ·
    exact aK 151 h28 (ae (ag 0 (wK hK h)))
   ·
    exact aK 151 h28 (ae (ag 0 (wK hK h)))
theorem yi (hK:KnOk K) (h:lQ K n v1 v2 v4 v5 v14 v15 v16 v17 v18 v19 v20 v21=some r):VE (dP M w0) (dC M w0 r) [aW p104_42] .normal (s104_j4 v1 v2 v4 v5 v14 v15 v16 v17 v18 v19 v20 v21):=by
  unfold lQ at h
  refine ac (ks':=[aW p104_43,aW p104_34]) 1 (ai 2 ?_)
  rcases ao h with ⟨h22,h⟩ | ⟨h22,h⟩
  ·
   refine aK 116 h22 (aO 12 10 ?_)
   rcases ao h with ⟨h23,h⟩ | ⟨h23,h⟩
   ·
    exact aK 126 h23 (ae (ag 0 (u9 hK h)))
   ·
    exact aK 126 h23 (ae (ag 0 (u9 hK h)))
  ·
   exact aK 116 h22 (ae (ag 0 (u9 hK h)))
theorem xr (hK:KnOk K) (h:kD K n v1 v2 v4 v5 v14 v15 v16 v17 v18 v19 v20=some r):VE (dP M w0) (dC M w0 r) [aW p104_44] .normal (s104_j3 v1 v2 v4 v5 v14 v15 v16 v17 v18 v19 v20):=by
  unfold kD at h
  refine ac (ks':=[aW p104_45,aW p104_42]) 1 (ai 2 ?_)
  rcases ao h with ⟨h21,h⟩ | ⟨h21,h⟩
  ·
   exact aK 105 h21 (ae (ag 0 (yi hK h)))
  ·
   exact aK 105 h21 (ae (ag 0 (yi hK h)))
theorem wc (hK:KnOk K) (h:gj K n v1 v2 v3 v4 v5 v14 v15 v16 v17 v18=some r):VE (dP M w0) (dC M w0 r) [aW iv] .normal (s104_j2 v1 v2 v3 v4 v5 v14 v15 v16 v17 v18):=by
  unfold gj at h
  refine ac (ks':=[aW p104_46,aW p104_47]) 1 (ai 2 ?_)
  obtain ⟨v19,h19,h⟩:=bind_some h
  refine aC (yu hK h19) (ae (ac (ks':=[aW p104_48,aW p104_44]) 1 (ai 2 ?_)))
  rcases ao h with ⟨h20,h⟩ | ⟨h20,h⟩
  ·
   exact aK 99 h20 (ae (ag 0 (xr hK h)))
  ·
   exact aK 99 h20 (ae (ag 0 (xr hK h)))
theorem zn (hK:KnOk K) (hL1:H104_1 M w0 r v1 v2 v3 v4 v5 v6 m1 L1) (h:lN K n v1 v2 v3 v4 v5 v6 L1 v9 v10=some r):VE (dP M w0) (dC M w0 r) [aW p104_4,k104_1 M w0 r m1,.b 0,aW nr,aW iv] .normal (s104_l1 v1 v2 v3 v4 v5 v6 v9 v10):=by
  unfold lN at h
  refine ac (ks':=[aW p104_49,aW p104_50,aW p104_51,k104_1 M w0 r m1,.b 0,aW nr,aW iv]) 2 (ai 2 (ap (br aB v6) (ae ?_)))
  rcases ao h with ⟨h13,h⟩ | ⟨h13,h⟩
  ·
   refine ak 63 h13 (ac (ks':=[aW p104_52,.b 1,aW p104_53,k104_1 M w0 r m1,.b 0,aW nr,aW iv]) 4 (bL [2,4,6,7,8,9,10,11,12,13] [4,6,7,8,11] [75,1057] ?_))
   obtain ⟨h14,h⟩:=aq h
   obtain ⟨v11,h15,h⟩:=bind_some h
   obtain ⟨h16,h⟩:=aq h
   exact bm 2 (nu 66 [.ref 75,.ref 1057,iI v9,.eptr 1057 59 (v9.toNat) 0,.agg (ax (gD v6 v9)),.ptr 4 12,iI v2.Content,.agg (az v11),.sl (lm au [v11])]) [] [] [appS 75 75 ⟨67,67,lm au (v10++[v11])⟩,stp Try.prog 281 Try.f104 p104_52 10] (am [.v 0 1,.v 0 2,.v 0 2] (aj (k_v (lo:=0) (k:=2) (bP ⟨(by kernel_rfl),(bQ (aN 1057 59 aB (L:=v6) h14) (by kernel_rfl))⟩ (bP ⟨(by kernel_rfl),(bQ (aN 1057 59 aB (L:=v6) h14) (by kernel_rfl))⟩ cF))) (aj (k_v (lo:=0) (k:=2) (bP ⟨(by kernel_rfl),(bQ (aJ 50 0 aB ax (aH h14).2 (b9)) (by kernel_rfl))⟩ (bP ⟨(by kernel_rfl),(bQ (aJ 50 0 aB ax (aH h14).2 (b9)) (by kernel_rfl))⟩ cF))) (am [.v 0 2,.v 0 2] (aj (e_c 0 1 73 (hK.dq h15)) (d_v (dN au ([v11]:List aa) (new:=[az v11]) (by simp only [List.map_cons,List.map_nil,cp])) (aj (e_s (m:=0) (cb 75 75 67 67 au (rfl) (dR) h16)) (aj (e_d 1) bk)))))))) (ag 2 (aY (hL1 h)))
  ·
   refine ak 63 h13 (ac (ks':=[aW nr,aW iv]) 5 (ai 1 (c9 75 ?_)))
   obtain ⟨v12,h17,h⟩:=bind_some h
   exact cv 1077 (y3 hK h17) (f0 (i:=0) (by kernel_rfl)) (ae (ag 0 (wc hK h)))
theorem B7 (hK:KnOk K) (m:Nat):H104_1 M w0 r v1 v2 v3 v4 v5 v6 m (jI K n v1 v2 v3 v4 v5 v6 m):=by
  induction m with
 | zero=>intro v9 v10 h; cases h
 | succ m ih=>intro v9 v10 h; have h:lN K n v1 v2 v3 v4 v5 v6 (jI K n v1 v2 v3 v4 v5 v6 m) v9 v10=some r:=h; exact aR (zn hK ih h)
theorem Bk (hK:KnOk K) (h:kR K n v1 v2 v3=some r):ACalls Try.prog 104 [.agg (ax v1),.agg (bh v2),.bool v3] (fun v s=>v = .agg (List.set (az ({ r with Kids:=[] }:aa)) 66 (.ref 278))∧look 278 s.r=some ⟨67,67,lm au r.Kids⟩):=by
  refine bj (cat Try.f104 []) Try.func104 Try.ntmps104 fun M w0=>(bb ⟨[(0,.agg (ax v1)),(1,.agg (bh v2)),(2,.bool v3)],[],[],[]⟩ ?_)
  unfold kR at h
  obtain ⟨v4,h1,h⟩:=bind_some h
  have h1:=Option.some.inj h1
  refine aU (ks':=[aW p104_54,aW p104_55]) 9 ⟨[(2,.bool v3),(3,.ptr 3 0),(4,.ptr 4 0),(6,.ptr 6 0),(7,.ptr 7 0),(8,.ptr 8 0)],[(3,ax v1),(4,bh v2),(6,List.set (az bv) 66 (.nils)),(7,aL v1.Style),(8,List.set (az ({ bv with Kind:=1,Node:=v1.Node,X:=v2.Margin.a3,W:=v4,Style:=v1.Style }:aa)) 66 (.nils))],[],[3,4,6,7,8]⟩ ?_ (by subst h1; kernel_rfl)
  refine ai 1 ?_
  obtain ⟨v5,h2,h⟩:=bind_some h
  refine aC (vY hK h2) (ae (ac (ks':=[aW p104_56,aW p104_57]) 1 (ai 1 ?_)))
  obtain ⟨v6,h3,h⟩:=bind_some h
  refine cv 1057 (u0 hK h3) (df 25) (ae (ac (ks':=[aW p104_58,aW iv]) 5 ?_))
  rcases ao h with ⟨h4,h⟩ | ⟨h4,h⟩
  ·
   exact ak 59 h4 (ac (ks':=[aW p104_59,.b 0,aW nr,aW iv]) 7 (cw 75 12 67 67 (ag 0 (bE (p:=p104_59) n (B7 hK n h)))))
  ·
   refine ak 59 h4 (ac (ks':=[aW p104_60,aW p104_61,aW iv]) 2 (ai 4 (c9 1057 ?_)))
   obtain ⟨v13,h18,h⟩:=bind_some h
   exact cv 1083 (wU hK h18) (px (i:=0) rfl) (ae (ai 3 (ap (br au v13.1) (ae (kN 1083 1077 (ag 0 (wc hK h)))))))
end
noncomputable section
variable {K:Kn} {n:Nat} {M:Nat→Prop} {w0:Base} {r:aa} {v1:ab} {v2:Int} 
abbrev cF91 (p:List Nat):Kont:=.c (cat Try.f91 p)
theorem uU (hK:KnOk K) (h:eY K n v1 v2=some r):ACalls Try.prog 91 [.agg (ax v1),iI v2] (fun v s=>v = .agg (List.set (az ({ r with Kids:=[] }:aa)) 66 (.ref 10))∧look 10 s.r=some ⟨67,67,lm au r.Kids⟩):=by
  refine bj (cat Try.f91 []) Try.func91 Try.ntmps91 fun M w0=>(bb ⟨[(0,.agg (ax v1)),(1,iI v2)],[],[],[]⟩ ?_)
  unfold eY at h
  refine ac (ks':=[cF91 [1,0],cF91 [1,1]]) 3 (bL [1,2,4] [2,4] [] ?_)
  obtain ⟨v3,h1,h⟩:=bind_some h
  obtain ⟨v4,h2,h⟩:=bind_some h
  refine bm 1 (nu 5 [.agg (ax v1),.ptr 2 2,.agg (aL v1.Style),iI v2,.agg (bh v3),.agg (List.set (az ({ v4 with Kids:=[] }:aa)) 66 (.ref 10))]) [] [(10,⟨67,67,lm au v4.Kids⟩)] [stp Try.prog 11 Try.f91 [1,0] 6] (am (vz 4) (aj (e_c 0 1 9 (xK hK h1)) (aj (e_o 0 1 10 (Bk hK h2) (f0 (i:=66) (by kernel_rfl))) (aj (e_d 0) bk)))) (aM 1 ?_)
  cases h
  exact cP
end
noncomputable section
variable {K:Kn} {n:Nat} {M:Nat→Prop} {w0:Base} {r:Int} {v1:aa} 
abbrev cF93 (p:List Nat):Kont:=.c (cat Try.f93 p)
theorem wP (hK:KnOk K) (h:pK K n v1=some r):ACalls Try.prog 93 [.agg (az v1)] (fun v _=>v=iI r):=by
  refine bj (cat Try.f93 []) Try.func93 Try.ntmps93 fun M w0=>(bb ⟨[(0,.agg (az v1))],[],[],[]⟩ ?_)
  unfold pK at h
  refine ac (ks':=[cF93 [1,0,1],cF93 [1,1]]) 5 ?_
  rcases ao h with ⟨h1,h⟩ | ⟨h1,h⟩
  ·
   refine ak 4 h1 (aM 5 ?_)
   cases h
   exact bu
  ·
   refine ak 4 h1 (ac (ks':=[cF93 [1,1,0],cF93 [1,1,1]]) 3 (ai 2 ?_))
   obtain ⟨v2,h2,h⟩:=bind_some h
   refine aC (lj hK h2) (ae (aM 1 ?_))
   cases h
   exact bu
end
def nB:=pth 9 1
def p70_1:=pth 8 10100
def dJ:=pth 6 1
def p70_3:=pth 5 10100
def p70_4:=pth 5 101001001111111
def fX:=pth 5 1010011
def p70_6:=pth 5 1010010011111110
def p70_7:=pth 5 1010010011111111
def p70_8:=pth 5 10100100111111110
def p70_9:=pth 5 10100100111111111
def p70_10:=pth 8 1010000
def p70_11:=pth 8 1010001
def p70_12:=pth 8 101001
def p70_13:=pth 8 101001000
def p70_14:=pth 8 101001001
def p70_15:=pth 8 1010011
def p70_16:=pth 8 1010010010
def p70_17:=pth 8 1010010011
def p70_18:=pth 7 1
def p70_19:=pth 8 1010
def p70_20:=pth 5 1010000
def p70_21:=pth 5 1010001
def p70_22:=pth 5 101001
def p70_23:=pth 5 101001000
def p70_24:=pth 5 101001001
def p70_25:=pth 5 1010010010
def p70_26:=pth 5 1010010011
def p70_27:=pth 5 10100100110
def p70_28:=pth 5 10100100111
def p70_29:=pth 5 101001001110
def p70_30:=pth 5 101001001111
def p70_31:=pth 5 1010010011110
def p70_32:=pth 5 1010010011111
def p70_33:=pth 5 10100100111110
def p70_34:=pth 5 10100100111111
def p70_35:=pth 5 1010010011111100
def p70_36:=pth 5 1010010011111101
def p70_37:=pth 5 10100100111111010
def p70_38:=pth 6 101
def p70_39:=pth 6 1010
def p70_40:=pth 5 1010
noncomputable section
abbrev kg (M:Nat→Prop) (w0:Base):Cx:=⟨Try.prog,179,M,w0⟩
abbrev q70 (M:Nat→Prop) (w0:Base) (r:(List aa)×Int):=bodyPost Try.prog Try.f70 (RetQ M w0 (fun v s=>v = .tup [.ref 130,iI r.2]∧look 130 s.r=some ⟨67,67,lm au r.1⟩))
abbrev bt (p:List Nat):Kont:=.c (cat Try.f70 p)
abbrev k70_2 (M:Nat→Prop) (w0:Base) (r:(List aa)×Int) (m2:Nat):Kont:=kl (kg M w0) (q70 M w0 r) [.b 2,bt nB] (cat Try.f70 p70_1) m2
abbrev eW (M:Nat→Prop) (w0:Base) (r:(List aa)×Int) (m1:Nat):Kont:=kl (kg M w0) (q70 M w0 r) [.b 0,bt dJ] (cat Try.f70 p70_3) m1
def s70_j1 (v1:List ab) (v2:Int) (v3:Bool) (v31:Int) (v34:List aw) (v35:List Int) (v36:List aa) (v37:aa) (v39 v43:List Int) (v44 v48:Int):AS:=⟨[(0,.sl (lm aB v1)),(1,iI v2),(2,.bool v3),(10,.ref 118),(11,.ref 73),(12,.ref 59),(13,.ref 126),(14,.ref 130),(15,iI v44),(16,iI v31),(17,.ptr 17 0),(19,iI v48)],[(17,az v37)],[(59,⟨3,1,lm (eInt .i64) v39⟩),(73,⟨3,1,lm (eInt .i64) v43⟩),(118,⟨34,5,lm aF v34⟩),(126,⟨3,1,lm (eInt .i64) v35⟩),(130,⟨67,67,lm au v36⟩)],[17,59,73,118,126,130]⟩
def s70_l4 (v32 v33 v52:List Int) (v56 v57:Int) (v58:List aa):AS:=⟨[(11,.ref 73),(12,.ref 59),(13,.ref 1134),(14,.ref 130),(20,iI v56),(21,iI v57)],[],[(59,⟨3,1,lm (eInt .i64) v32⟩),(73,⟨3,1,lm (eInt .i64) v33⟩),(130,⟨67,67,lm au v58⟩),(1134,⟨3,1,lm (eInt .i64) v52⟩)],[59,73,130,1134]⟩
def s70_j3 (v32 v33:List Int) (v36:List aa) (v52:List Int):AS:=⟨[(11,.ref 73),(12,.ref 59),(13,.ref 1134),(14,.ref 130)],[],[(59,⟨3,1,lm (eInt .i64) v32⟩),(73,⟨3,1,lm (eInt .i64) v33⟩),(130,⟨67,67,lm au v36⟩),(1134,⟨3,1,lm (eInt .i64) v52⟩)],[59,73,130,1134]⟩
def s70_l2 (v1:List ab) (v2:Int) (v3:Bool) (v30 v31:Int) (v32 v33:List Int) (v34:List aw) (v35:List Int) (v36:List aa):AS:=⟨[(0,.sl (lm aB v1)),(1,iI v2),(2,.bool v3),(10,.ref 118),(11,.ref 73),(12,.ref 59),(13,.ref 126),(14,.ref 130),(15,iI v30),(16,iI v31)],[],[(59,⟨3,1,lm (eInt .i64) v32⟩),(73,⟨3,1,lm (eInt .i64) v33⟩),(118,⟨34,5,lm aF v34⟩),(126,⟨3,1,lm (eInt .i64) v35⟩),(130,⟨67,67,lm au v36⟩)],[59,73,118,126,130]⟩
abbrev H70_1 (M:Nat→Prop) (w0:Base) (r:(List aa)×Int) (v1:List ab) (v2:Int) (v3:Bool) (m1:Nat) (L1:Int→Int→(List Int)→(List Int)→(List aw)→(List Int)→(List aa)→Option ((List aa)×Int)):Prop:=∀ {v30 v31:Int} {v32 v33:List Int} {v34:List aw} {v35:List Int} {v36:List aa},L1 v30 v31 v32 v33 v34 v35 v36=some r→LP (kg M w0) (q70 M w0 r) [.b 0,bt dJ] (cat Try.f70 p70_3) m1 (s70_l2 v1 v2 v3 v30 v31 v32 v33 v34 v35 v36)
abbrev H70_2 (M:Nat→Prop) (w0:Base) (r:(List aa)×Int) (v32 v33 v52:List Int) (m2:Nat) (L2:Int→Int→(List aa)→Option ((List aa)×Int)):Prop:=∀ {v56 v57:Int} {v58:List aa},L2 v56 v57 v58=some r→LP (kg M w0) (q70 M w0 r) [.b 2,bt nB] (cat Try.f70 p70_1) m2 (s70_l4 v32 v33 v52 v56 v57 v58)
variable {K:Kn} {n:Nat} {M:Nat→Prop} {w0:Base} {r:(List aa)×Int} {v1:List ab} {v2:Int} {v3:Bool} {v4 v30 v31:Int} {v32 v33:List Int} {v34:List aw} {v35:List Int} {v36:List aa} {v37:aa} {v39 v43:List Int} {v44 v48:Int} {v52:List Int} {v56 v57:Int} {v58:List aa} {m1:Nat} {L1:Int→Int→(List Int)→(List Int)→(List aw)→(List Int)→(List aa)→Option ((List aa)×Int)} {m2:Nat} {L2:Int→Int→(List aa)→Option ((List aa)×Int)}
theorem xV (hK:KnOk K) (hL1:H70_1 M w0 r v1 v2 v3 m1 L1) (h:oP K n v1 v2 v3 v31 v34 v35 v36 v37 v39 v43 v44 L1 v48=some r):VE (kg M w0) (q70 M w0 r) [bt p70_4,.b 1,bt fX,eW M w0 r m1,.b 0,bt dJ] .normal (s70_j1 v1 v2 v3 v31 v34 v35 v36 v37 v39 v43 v44 v48):=by
  unfold oP at h
  refine ac (ks':=[bt p70_6,bt p70_7,.b 1,bt fX,eW M w0 r m1,.b 0,bt dJ]) 1 (bL [0,1,2,10,11,12,13,14,15,16,17,19] [17] [59,73,118,126,130] ?_)
  obtain ⟨h80,h⟩:=aq h
  obtain ⟨h81,h⟩:=aq h
  obtain ⟨h82,h⟩:=aq h
  refine bm 2 (nu 102 [.ref 118,iI v48,.sl (lm aB v1),iI v31,.cptr (ax (gD v1 v31)),.cptr (List.drop 2 (ax (gD v1 v31))),.cptr (List.drop 44 (List.drop 2 (ax (gD v1 v31)))),iI (((gD v1 v31).Style).Grow),.sl (lm aB v1),iI v31,.cptr (ax (gD v1 v31)),.cptr (List.drop 2 (ax (gD v1 v31))),.cptr (List.drop 45 (List.drop 2 (ax (gD v1 v31)))),iI (((gD v1 v31).Style).Shrink),.agg (aF (⟨v48,((gD v1 v31).Style).Grow,((gD v1 v31).Style).Shrink,0,1048576⟩:aw)),.sl (lm aF [(⟨v48,((gD v1 v31).Style).Grow,((gD v1 v31).Style).Shrink,0,1048576⟩:aw)])]) [] [] [appS 118 118 ⟨34,5,lm aF (v34++[(⟨v48,((gD v1 v31).Style).Grow,((gD v1 v31).Style).Shrink,0,1048576⟩:aw)])⟩,stp Try.prog 179 Try.f70 p70_6 17] (am [.v 0 1,.v 0 2,.v 0 2,.v 0 2] (aj (k_v (lo:=0) (k:=2) (bP ⟨(by kernel_rfl),(bQ (bF aB ax h80 (cj) (b9)) (by kernel_rfl))⟩ (bP ⟨(by kernel_rfl),(bQ (bF aB ax h80 (cj) (b9)) (by kernel_rfl))⟩ cF))) (am [.v 0 2,.v 0 2,.v 0 2,.v 0 2,.v 0 2] (aj (k_v (lo:=0) (k:=2) (bP ⟨(by kernel_rfl),(bQ (bF aB ax h81 (cj) (b9)) (by kernel_rfl))⟩ (bP ⟨(by kernel_rfl),(bQ (bF aB ax h81 (cj) (b9)) (by kernel_rfl))⟩ cF))) (am [.v 0 2,.v 0 2,.v 0 2,.v 0 2,.v 0 1] (aj (e_s (m:=0) (cb 118 118 34 5 aF (rfl) (jv) h82)) (aj (e_d 1) bk))))))) ?_
  obtain ⟨v49,h83,h⟩:=bind_some h
  have h83:=Option.some.inj h83
  refine aU (ks':=[bt p70_8,bt p70_9,.b 1,bt fX,eW M w0 r m1,.b 0,bt dJ]) 1 ⟨[(0,.sl (lm aB v1)),(1,iI v2),(2,.bool v3),(10,.ref 118),(11,.ref 73),(12,.ref 59),(13,.ref 126),(14,.ref 130),(15,iI v44),(16,iI v31),(17,.ptr 17 0)],[(17,az v37)],[(59,⟨3,1,lm (eInt .i64) v39⟩),(73,⟨3,1,lm (eInt .i64) v43⟩),(118,⟨34,5,lm aF v49⟩),(126,⟨3,1,lm (eInt .i64) v35⟩),(130,⟨67,67,lm au v36⟩)],[17,59,73,118,126,130]⟩ ?_ (by subst h83; kernel_rfl)
  refine ai 3 ?_
  obtain ⟨h84,h⟩:=aq h
  refine ap (bK 118 5 aF h84) (ap (aJ 34 0 aF aF (aH h84).2 (fun _=>rfl)) ?_)
  obtain ⟨v50,h85,h⟩:=bind_some h
  refine aC (uS hK h85) (aO 7 1 ?_)
  obtain ⟨h86,h⟩:=aq h
  refine ap (cb 126 126 3 1 (eInt .i64) (rfl) (fun _=>rfl) h86) (ae (ai 2 (ap (dN au ([v37]:List aa) (new:=[az v37]) (by simp only [List.map_cons,List.map_nil,cp])) ?_)))
  obtain ⟨h87,h⟩:=aq h
  exact ap (cb 130 130 67 67 au (rfl) (dR) h87) (ae (ag 2 (aY (hL1 h))))
theorem zM (hK:KnOk K) (hL2:H70_2 M w0 r v32 v33 v52 m2 L2) (h:sM K n v32 v33 v52 L2 v56 v57 v58=some r):VE (kg M w0) (q70 M w0 r) [bt p70_1,k70_2 M w0 r m2,.b 2,bt nB] .normal (s70_l4 v32 v33 v52 v56 v57 v58):=by
  unfold sM at h
  refine ac (ks':=[bt p70_10,bt p70_11,bt p70_12,k70_2 M w0 r m2,.b 2,bt nB]) 2 (ai 2 (ap (br au v58) (ae ?_)))
  rcases ao h with ⟨h101,h⟩ | ⟨h101,h⟩
  ·
   refine ak 138 h101 (ac (ks':=[bt p70_13,bt p70_14,.b 3,bt p70_15,k70_2 M w0 r m2,.b 2,bt nB]) 5 (bL [11,12,13,14,20,21] [] [59,73,130,1134] ?_))
   obtain ⟨h102,h⟩:=aq h
   obtain ⟨h103,h⟩:=aq h
   obtain ⟨h104,h⟩:=aq h
   refine bm 1 (nu 141 [.ref 130,iI v57,.ref 1134,iI v57,.eptr 1134 1 (v57.toNat) 0,iI (gD v52 v57),.ref 59,iI v57,.eptr 59 1 (v57.toNat) 0,iI (gD v32 v57),iI (w64 ((gD v52 v57)+(gD v32 v57))),.eptr 130 67 (v57.toNat) 0,.eptr 130 67 (v57.toNat) 5]) [] [] [strS 130 ⟨67,67,lm au (List.set v58 v57.toNat ({ (gD v58 v57) with H:=(w64 ((gD v52 v57)+(gD v32 v57))) }:aa))⟩] (am (vz 4) (d_v (aN 1134 1 (eInt .i64) (L:=v52) h102) (d_v (aJ 3 0 (eInt .i64) (eInt .i64) (aH h102).2 (fun _=>rfl)) (am (vz 2) (d_v (aN 59 1 (eInt .i64) (L:=v32) h103) (d_v (aJ 3 0 (eInt .i64) (eInt .i64) (aH h103).2 (fun _=>rfl)) (am [.v 0 1] (aj (k_v (lo:=0) (k:=2) (bP ⟨(by kernel_rfl),(bQ (aN 130 67 au (L:=v58) h104) (by kernel_rfl))⟩ (bP ⟨(by kernel_rfl),(bQ (aN 130 67 au (L:=(List.set v58 v57.toNat ({ (gD v58 v57) with H:=(w64 ((gD v52 v57)+(gD v32 v57))) }:aa))) h104) (by kernel_rfl))⟩ cF))) (am [.v 0 1] (aj (e_s (m:=0) (bV 130 67 67 5 au az ({ (gD v58 v57) with H:=(w64 ((gD v52 v57)+(gD v32 v57))) }:aa) (aH h104).2 (cp))) bk)))))))))) ?_
   obtain ⟨v59,h105,h⟩:=bind_some h
   have h105:=Option.some.inj h105
   refine aU (ks':=[bt p70_16,bt p70_17,.b 3,bt p70_15,k70_2 M w0 r m2,.b 2,bt nB]) 1 ⟨[(11,.ref 73),(12,.ref 59),(13,.ref 1134),(14,.ref 130),(20,iI v56),(21,iI v57)],[],[(59,⟨3,1,lm (eInt .i64) v32⟩),(73,⟨3,1,lm (eInt .i64) v33⟩),(130,⟨67,67,lm au v59⟩),(1134,⟨3,1,lm (eInt .i64) v52⟩)],[59,73,130,1134]⟩ ?_ (by subst h105; kernel_rfl)
   refine ai 5 ?_
   obtain ⟨h106,h⟩:=aq h
   refine ap (bK 130 67 au h106) (aO 7 1 (ap (aJ 64 61 au az (aH h106).2 (cp)) ?_))
   obtain ⟨v60,h107,h⟩:=bind_some h
   refine aC (lj hK h107) (aO 10 1 ?_)
   obtain ⟨h108,h⟩:=aq h
   refine ap (bK 130 67 au h108) (aO 12 1 (ap (bV 130 67 67 3 au az ({ (gD v59 v57) with Y:=(w64 (v56+v60)) }:aa) (aH h108).2 (cp)) (ae ?_)))
   obtain ⟨v61,h109,h⟩:=bind_some h
   have h109:=Option.some.inj h109
   refine aU (ks':=[bt p70_17,.b 3,bt p70_15,k70_2 M w0 r m2,.b 2,bt nB]) 0 ⟨[(11,.ref 73),(12,.ref 59),(13,.ref 1134),(14,.ref 130),(20,iI v56),(21,iI v57)],[],[(59,⟨3,1,lm (eInt .i64) v32⟩),(73,⟨3,1,lm (eInt .i64) v33⟩),(130,⟨67,67,lm au v61⟩),(1134,⟨3,1,lm (eInt .i64) v52⟩)],[59,73,130,1134]⟩ ?_ (by subst h109; kernel_rfl)
   obtain ⟨h110,h⟩:=aq h
   obtain ⟨h111,h⟩:=aq h
   exact bm 1 (nu 166 [iI v56,.ref 1134,iI v57,.eptr 1134 1 (v57.toNat) 0,iI (gD v52 v57),.ref 73,iI v57,.eptr 73 1 (v57.toNat) 0,iI (gD v33 v57),iI (w64 ((gD v52 v57)+(gD v33 v57))),iI (w64 (v56+(w64 ((gD v52 v57)+(gD v33 v57)))))]) [] [] [stp Try.prog 179 Try.f70 p70_17 11] (am (vz 3) (d_v (aN 1134 1 (eInt .i64) (L:=v52) h110) (d_v (aJ 3 0 (eInt .i64) (eInt .i64) (aH h110).2 (fun _=>rfl)) (am (vz 2) (d_v (aN 73 1 (eInt .i64) (L:=v33) h111) (d_v (aJ 3 0 (eInt .i64) (eInt .i64) (aH h111).2 (fun _=>rfl)) (am (vz 2) (aj (e_d 0) bk)))))))) (ag 2 (aY (hL2 h)))
  ·
   refine ak 138 h101 (aM 8 ?_)
   cases h
   exact eH
theorem Dh (hK:KnOk K) (m:Nat):H70_2 M w0 r v32 v33 v52 m (oe K n v32 v33 v52 m):=by
  induction m with
 | zero=>intro v56 v57 v58 h; cases h
 | succ m ih=>intro v56 v57 v58 h; have h:sM K n v32 v33 v52 (oe K n v32 v33 v52 m) v56 v57 v58=some r:=h; exact aR (zM hK ih h)
theorem vg (hK:KnOk K) (h:gR K n v32 v33 v36 v52=some r):VE (kg M w0) (q70 M w0 r) [bt p70_18] .normal (s70_j3 v32 v33 v36 v52):=by
  unfold gR at h
  exact ag 6 (bE (p:=p70_19) n (Dh hK n h))
theorem A5 (hK:KnOk K) (hL1:H70_1 M w0 r v1 v2 v3 m1 L1) (h:sJ K n v1 v2 v3 L1 v30 v31 v32 v33 v34 v35 v36=some r):VE (kg M w0) (q70 M w0 r) [bt p70_3,eW M w0 r m1,.b 0,bt dJ] .normal (s70_l2 v1 v2 v3 v30 v31 v32 v33 v34 v35 v36):=by
  unfold sJ at h
  refine ac (ks':=[bt p70_20,bt p70_21,bt p70_22,eW M w0 r m1,.b 0,bt dJ]) 2 (ai 2 (ap (br aB v1) (ae ?_)))
  rcases ao h with ⟨h58,h⟩ | ⟨h58,h⟩
  ·
   refine ak 26 h58 (ac (ks':=[bt p70_23,bt p70_24,.b 1,bt fX,eW M w0 r m1,.b 0,bt dJ]) 5 (ai 2 ?_))
   obtain ⟨h59,h⟩:=aq h
   refine ap (bF aB ax h59 (cj) (b9)) (aO 5 2 ?_)
   obtain ⟨v37,h60,h⟩:=bind_some h
   refine cv 1034 (uU hK h60) (f0 (i:=66) (by kernel_rfl)) (ae (ac (ks':=[bt p70_25,bt p70_26,.b 1,bt fX,eW M w0 r m1,.b 0,bt dJ]) 1 (ai 2 ?_)))
   obtain ⟨h61,h⟩:=aq h
   refine ap (bF aB ax h61 (cj) (b9)) (aO 6 3 ?_)
   obtain ⟨v38,h62,h⟩:=bind_some h
   refine aC (sr hK h62) (ae (ac (ks':=[bt p70_27,bt p70_28,.b 1,bt fX,eW M w0 r m1,.b 0,bt dJ]) 1 (ai 17 ?_)))
   obtain ⟨h63,h⟩:=aq h
   refine ap (cb 59 59 3 1 (eInt .i64) (rfl) (fun _=>rfl) h63) (ae ?_)
   obtain ⟨v39,h64,h⟩:=bind_some h
   have h64:=Option.some.inj h64
   refine aU (ks':=[bt p70_29,bt p70_30,.b 1,bt fX,eW M w0 r m1,.b 0,bt dJ]) 1 ⟨[(0,.sl (lm aB v1)),(1,iI v2),(2,.bool v3),(10,.ref 118),(11,.ref 73),(12,.ref 59),(13,.ref 126),(14,.ref 130),(15,iI v30),(16,iI v31),(17,.ptr 17 0)],[(17,List.set (az ({ v37 with Kids:=[] }:aa)) 66 (.ref 1034))],[(59,⟨3,1,lm (eInt .i64) v39⟩),(73,⟨3,1,lm (eInt .i64) v33⟩),(118,⟨34,5,lm aF v34⟩),(126,⟨3,1,lm (eInt .i64) v35⟩),(130,⟨67,67,lm au v36⟩),(1034,⟨67,67,lm au v37.Kids⟩)],[17,59,73,118,126,130,1034]⟩ ?_ (by subst h64; kernel_rfl)
   refine ve_f 1034 ?_
   obtain ⟨v41,h66,h⟩:=bind_some h
   obtain ⟨v42,h67,h⟩:=bind_some h
   obtain ⟨h68,h⟩:=aq h
   obtain ⟨h69,h⟩:=aq h
   refine bm 2 (nu 60 [.ref 73,.ptr 17 61,.agg (bH v37.Before),iI v41,.agg (az v37),iI v42,iI (w64 (v41+v42)),.ref 59,iI v31,.eptr 59 1 (v31.toNat) 0,iI (gD v39 v31),iI (w64 ((w64 (v41+v42))+(gD v39 v31))),.sl (lm (eInt .i64) [(w64 ((w64 (v41+v42))+(gD v39 v31)))])]) [] [] [appS 73 73 ⟨3,1,lm (eInt .i64) (v33++[(w64 ((w64 (v41+v42))+(gD v39 v31)))])⟩,stp Try.prog 179 Try.f70 p70_29 14] (am [.v 0 1,.v 0 2,.v 0 2] (aj (e_c 0 2 63 (lj hK h66)) (am [.v 0 2] (aj (e_c 0 1 65 (wP hK h67)) (am [.v 0 2,.v 0 2,.v 0 2] (aj (k_v (lo:=0) (k:=2) (bP ⟨(by kernel_rfl),(bQ (aN 59 1 (eInt .i64) (L:=v39) h68) (by kernel_rfl))⟩ (bP ⟨(by kernel_rfl),(bQ (aN 59 1 (eInt .i64) (L:=v39) h68) (by kernel_rfl))⟩ cF))) (aj (k_v (lo:=0) (k:=2) (bP ⟨(by kernel_rfl),(bQ (aJ 3 0 (eInt .i64) (eInt .i64) (aH h68).2 (fun _=>rfl)) (by kernel_rfl))⟩ (bP ⟨(by kernel_rfl),(bQ (aJ 3 0 (eInt .i64) (eInt .i64) (aH h68).2 (fun _=>rfl)) (by kernel_rfl))⟩ cF))) (am [.v 0 2,.v 0 1] (aj (e_s (m:=0) (cb 73 73 3 1 (eInt .i64) (rfl) (fun _=>rfl) h69)) (aj (e_d 1) bk)))))))))) ?_
   obtain ⟨v43,h70,h⟩:=bind_some h
   have h70:=Option.some.inj h70
   refine aU (ks':=[bt p70_31,bt p70_32,.b 1,bt fX,eW M w0 r m1,.b 0,bt dJ]) 1 ⟨[(0,.sl (lm aB v1)),(1,iI v2),(2,.bool v3),(10,.ref 118),(11,.ref 73),(12,.ref 59),(13,.ref 126),(14,.ref 130),(15,iI v30),(16,iI v31),(17,.ptr 17 0)],[(17,az v37)],[(59,⟨3,1,lm (eInt .i64) v39⟩),(73,⟨3,1,lm (eInt .i64) v43⟩),(118,⟨34,5,lm aF v34⟩),(126,⟨3,1,lm (eInt .i64) v35⟩),(130,⟨67,67,lm au v36⟩)],[17,59,73,118,126,130]⟩ ?_ (by subst h70; kernel_rfl)
   refine ai 3 ?_
   obtain ⟨h71,h⟩:=aq h
   refine ap (bK 73 1 (eInt .i64) h71) (ap (aJ 3 0 (eInt .i64) (eInt .i64) (aH h71).2 (fun _=>rfl)) (ae ?_))
   obtain ⟨v44,h72,h⟩:=bind_some h
   have h72:=Option.some.inj h72
   refine aU (ks':=[bt p70_33,bt p70_34,.b 1,bt fX,eW M w0 r m1,.b 0,bt dJ]) 1 ⟨[(0,.sl (lm aB v1)),(1,iI v2),(2,.bool v3),(10,.ref 118),(11,.ref 73),(12,.ref 59),(13,.ref 126),(14,.ref 130),(15,iI v44),(16,iI v31),(17,.ptr 17 0)],[(17,az v37)],[(59,⟨3,1,lm (eInt .i64) v39⟩),(73,⟨3,1,lm (eInt .i64) v43⟩),(118,⟨34,5,lm aF v34⟩),(126,⟨3,1,lm (eInt .i64) v35⟩),(130,⟨67,67,lm au v36⟩)],[17,59,73,118,126,130]⟩ ?_ (by subst h72; kernel_rfl)
   obtain ⟨h73,h⟩:=aq h
   refine bm 1 (nu 80 [.ptr 17 5,iI v37.H,.ref 59,iI v31,.eptr 59 1 (v31.toNat) 0,iI (gD v39 v31),iI (w64 (v37.H - (gD v39 v31)))]) [] [] [stp Try.prog 179 Try.f70 p70_33 7] (am (vz 4) (d_v (aN 59 1 (eInt .i64) (L:=v39) h73) (d_v (aJ 3 0 (eInt .i64) (eInt .i64) (aH h73).2 (fun _=>rfl)) (am [.v 0 1] (aj (e_d 0) bk))))) ?_
   obtain ⟨v45,h74,h⟩:=bind_some h
   have h74:=Option.some.inj h74
   refine aU (ks':=[bt p70_35,bt p70_36,bt p70_4,.b 1,bt fX,eW M w0 r m1,.b 0,bt dJ]) 2 ⟨[(0,.sl (lm aB v1)),(1,iI v2),(2,.bool v3),(10,.ref 118),(11,.ref 73),(12,.ref 59),(13,.ref 126),(14,.ref 130),(15,iI v44),(16,iI v31),(17,.ptr 17 0),(19,iI v45)],[(17,az v37)],[(59,⟨3,1,lm (eInt .i64) v39⟩),(73,⟨3,1,lm (eInt .i64) v43⟩),(118,⟨34,5,lm aF v34⟩),(126,⟨3,1,lm (eInt .i64) v35⟩),(130,⟨67,67,lm au v36⟩)],[17,59,73,118,126,130]⟩ ?_ (by subst h74; kernel_rfl)
   refine ai 2 ?_
   obtain ⟨h75,h⟩:=aq h
   refine ap (bF aB ax h75 (cj) (b9)) (ae ?_)
   obtain ⟨v46,h76,h⟩:=bind_some h
   have h76:=Option.some.inj h76
   refine aU (ks':=[bt p70_36,bt p70_4,.b 1,bt fX,eW M w0 r m1,.b 0,bt dJ]) 0 ⟨[(0,.sl (lm aB v1)),(1,iI v2),(2,.bool v3),(10,.ref 118),(11,.ref 73),(12,.ref 59),(13,.ref 126),(14,.ref 130),(15,iI v44),(16,iI v31),(17,.ptr 17 0),(19,iI v45),(94,.bool v46)],[(17,az v37)],[(59,⟨3,1,lm (eInt .i64) v39⟩),(73,⟨3,1,lm (eInt .i64) v43⟩),(118,⟨34,5,lm aF v34⟩),(126,⟨3,1,lm (eInt .i64) v35⟩),(130,⟨67,67,lm au v36⟩)],[17,59,73,118,126,130]⟩ ?_ (by subst h76; kernel_rfl)
   rcases ao h with ⟨h77,h⟩ | ⟨h77,h⟩
   ·
    refine ak 94 h77 (ac (ks':=[bt p70_37,bt p70_4,.b 1,bt fX,eW M w0 r m1,.b 0,bt dJ]) 1 (ai 2 ?_))
    obtain ⟨h78,h⟩:=aq h
    refine ap (bF aB ax h78 (cj) (b9)) (aO 6 3 ?_)
    obtain ⟨v47,h79,h⟩:=bind_some h
    exact aC (oU hK h79) (ae (ag 0 (xV hK hL1 h)))
   ·
    exact ak 94 h77 (ag 2 (xV hK hL1 h))
  ·
   refine ak 26 h58 (ac (ks':=[bt p70_38,bt p70_18]) 8 ?_)
   rcases ao h with ⟨h88,h⟩ | ⟨h88,h⟩
   ·
    refine ak 131 h88 (ac (ks':=[bt p70_39,bt p70_18]) 1 (ai 2 (c9 118 ?_)))
    obtain ⟨v51,h89,h⟩:=bind_some h
    exact cv 1134 (vf hK h89) (df 44) (ae (ag 0 (vg hK h)))
   ·
    exact ak 131 h88 (ac (ks':=[bt p70_18]) 2 (kN 126 1134 (ag 0 (vg hK h))))
theorem Aa (hK:KnOk K) (m:Nat):H70_1 M w0 r v1 v2 v3 m (mY K n v1 v2 v3 m):=by
  induction m with
 | zero=>intro v30 v31 v32 v33 v34 v35 v36 h; cases h
 | succ m ih=>intro v30 v31 v32 v33 v34 v35 v36 h; have h:sJ K n v1 v2 v3 (mY K n v1 v2 v3 m) v30 v31 v32 v33 v34 v35 v36=some r:=h; exact aR (A5 hK ih h)
theorem yR (hK:KnOk K) (h:pk K n v1 v2 v3 v4=some r):ACalls Try.prog 70 [.sl (lm aB v1),iI v2,.bool v3,iI v4] (fun v s=>v = .tup [.ref 130,iI r.2]∧look 130 s.r=some ⟨67,67,lm au r.1⟩):=by
  refine bj (cat Try.f70 []) Try.func70 Try.ntmps70 fun M w0=>(bb ⟨[(0,.sl (lm aB v1)),(1,iI v2),(2,.bool v3),(3,iI v4)],[],[],[]⟩ ?_)
  unfold pk at h
  exact ac (ks':=[bt p70_40,.b 0,bt dJ]) 14 (cw 118 10 34 5 (cw 73 11 3 1 (cw 59 12 3 1 (cw 126 13 3 1 (cw 130 14 67 67 (ag 0 (bE (p:=p70_40) n (Aa hK n h))))))))
end
def jo:=pth 0 11111
def p23_1:=pth 0 11110100
def p23_2:=pth 0 111101001001
def p23_3:=pth 0 1111010011
def p23_4:=pth 0 1111010010001
def p23_5:=pth 0 111101001000100
def p23_6:=pth 0 111101001000101
def p23_7:=pth 0 1111010000
def p23_8:=pth 0 1111010001
def p23_9:=pth 0 111101001
def p23_10:=pth 0 1111010010000
def p23_11:=pth 0 1111010
noncomputable section
abbrev cx23 (M:Nat→Prop) (w0:Base):Cx:=⟨Try.prog,37,M,w0⟩
abbrev q23 (M:Nat→Prop) (w0:Base) (r:List Int):=bodyPost Try.prog Try.f23 (RetQ M w0 (fun v s=>v = .ref 29∧look 29 s.r=some ⟨3,1,lm (eInt .i64) r⟩))
abbrev cL (p:List Nat):Kont:=.c (cat Try.f23 p)
abbrev pq (M:Nat→Prop) (w0:Base) (r:List Int) (m1:Nat):Kont:=kl (cx23 M w0) (q23 M w0 r) [.b 0,cL jo] (cat Try.f23 p23_1) m1
def s23_j2 (v1:List Int) (v2 v4 v7:Int) (v8:List Int):AS:=⟨[(0,.sl (lm (eInt .i64) v1)),(1,iI v2),(5,.ref 29),(6,iI v7),(7,iI v4)],[],[(29,⟨3,1,lm (eInt .i64) v8⟩)],[29]⟩
def s23_j1 (v1:List Int) (v2 v3 v4:Int) (v5:List Int) (v6:Bool):AS:=⟨[(0,.sl (lm (eInt .i64) v1)),(1,iI v2),(5,.ref 29),(6,iI v3),(7,iI v4),(25,.bool v6)],[],[(29,⟨3,1,lm (eInt .i64) v5⟩)],[29]⟩
def s23_l3 (v1:List Int) (v2 v3 v4:Int) (v5:List Int):AS:=⟨[(0,.sl (lm (eInt .i64) v1)),(1,iI v2),(5,.ref 29),(6,iI v3),(7,iI v4)],[],[(29,⟨3,1,lm (eInt .i64) v5⟩)],[29]⟩
abbrev H23_1 (M:Nat→Prop) (w0:Base) (r v1:List Int) (v2:Int) (m1:Nat) (L1:Int→Int→(List Int)→Option (List Int)):Prop:=∀ {v3 v4:Int} {v5:List Int},L1 v3 v4 v5=some r→LP (cx23 M w0) (q23 M w0 r) [.b 0,cL jo] (cat Try.f23 p23_1) m1 (s23_l3 v1 v2 v3 v4 v5)
variable {K:Kn} {n:Nat} {M:Nat→Prop} {w0:Base} {r v1:List Int} {v2 v3 v4:Int} {v5:List Int} {v6:Bool} {v7:Int} {v8:List Int} {m1:Nat} {L1:Int→Int→(List Int)→Option (List Int)}
theorem wW (hK:KnOk K) (hL1:H23_1 M w0 r v1 v2 m1 L1) (h:oC K n v1 v2 v4 L1 v7 v8=some r):VE (cx23 M w0) (q23 M w0 r) [cL p23_2,.b 1,cL p23_3,pq M w0 r m1,.b 0,cL jo] .normal (s23_j2 v1 v2 v4 v7 v8):=by
  unfold oC at h
  refine ai 3 ?_
  obtain ⟨h12,h⟩:=aq h
  exact ap (bF (eInt .i64) (eInt .i64) h12 (fun _=>rfl) (fun _=>rfl)) (ae (ag 2 (aY (hL1 h))))
theorem vh (hK:KnOk K) (hL1:H23_1 M w0 r v1 v2 m1 L1) (h:o7 K n v1 v2 v3 v4 v5 L1 v6=some r):VE (cx23 M w0) (q23 M w0 r) [cL p23_4,cL p23_2,.b 1,cL p23_3,pq M w0 r m1,.b 0,cL jo] .normal (s23_j1 v1 v2 v3 v4 v5 v6):=by
  unfold o7 at h
  rcases ao h with ⟨h10,h⟩ | ⟨h10,h⟩
  ·
   refine ak 25 h10 (ac (ks':=[cL p23_5,cL p23_6,cL p23_2,.b 1,cL p23_3,pq M w0 r m1,.b 0,cL jo]) 2 (ai 3 ?_))
   obtain ⟨h11,h⟩:=aq h
   exact ap (cb 29 29 3 1 (eInt .i64) (rfl) (fun _=>rfl) h11) (ae (ag 1 (wW hK hL1 h)))
  ·
   exact ak 25 h10 (ag 2 (wW hK hL1 h))
theorem Ac (hK:KnOk K) (hL1:H23_1 M w0 r v1 v2 m1 L1) (h:oy K n v1 v2 L1 v3 v4 v5=some r):VE (cx23 M w0) (q23 M w0 r) [cL p23_1,pq M w0 r m1,.b 0,cL jo] .normal (s23_l3 v1 v2 v3 v4 v5):=by
  unfold oy at h
  refine ac (ks':=[cL p23_7,cL p23_8,cL p23_9,pq M w0 r m1,.b 0,cL jo]) 2 (ai 2 (ap (br (eInt .i64) v1) (ae ?_)))
  rcases ao h with ⟨h7,h⟩ | ⟨h7,h⟩
  ·
   refine ak 11 h7 (ac (ks':=[cL p23_10,cL p23_4,cL p23_2,.b 1,cL p23_3,pq M w0 r m1,.b 0,cL jo]) 6 (ai 3 ?_))
   rcases ao h with ⟨h8,h⟩ | ⟨h8,h⟩
   ·
    exact aK 16 h8 (ae (ag 0 (vh hK hL1 h)))
   ·
    refine aK 16 h8 (aO 6 3 ?_)
    obtain ⟨h9,h⟩:=aq h
    exact ap (bF (eInt .i64) (eInt .i64) h9 (fun _=>rfl) (fun _=>rfl)) (ae (ag 0 (vh hK hL1 h)))
  ·
   refine ak 11 h7 (aM 8 ?_)
   cases h
   exact cP
theorem Db (hK:KnOk K) (m:Nat):H23_1 M w0 r v1 v2 m (mu K n v1 v2 m):=by
  induction m with
 | zero=>intro v3 v4 v5 h; cases h
 | succ m ih=>intro v3 v4 v5 h; have h:oy K n v1 v2 (mu K n v1 v2 m) v3 v4 v5=some r:=h; exact aR (Ac hK ih h)
theorem g_ref19_Wrap_ok (hK:KnOk K) (h:qk K n v1 v2=some r):ACalls Try.prog 23 [.sl (lm (eInt .i64) v1),iI v2] (fun v s=>v = .ref 29∧look 29 s.r=some ⟨3,1,lm (eInt .i64) r⟩):=by
  refine bj (cat Try.f23 []) Try.func23 Try.ntmps23 fun M w0=>(bb ⟨[(0,.sl (lm (eInt .i64) v1)),(1,iI v2)],[],[],[]⟩ ?_)
  unfold qk at h
  exact ac (ks':=[cL p23_11,.b 0,cL jo]) 10 (cw 29 5 3 1 (ag 0 (bE (p:=p23_11) n (Db hK n h))))
end
noncomputable section
variable {K:Kn} {n:Nat} {M:Nat→Prop} {w0:Base} {r v1:aQ} 
abbrev cF102 (p:List Nat):Kont:=.c (cat Try.f102 p)
theorem gr (hK:KnOk K) (h:du K n v1=some r):ACalls Try.prog 102 [.agg (cE v1)] (fun v _=>v = .agg (cE r)):=by
  refine bj (cat Try.f102 []) Try.func102 Try.ntmps102 fun M w0=>(bb ⟨[(0,.agg (cE v1))],[],[],[]⟩ ?_)
  unfold du at h
  refine ac (ks':=[cF102 [1,0,1],cF102 [1,1]]) 5 ?_
  rcases ao h with ⟨h1,h⟩ | ⟨h1,h⟩
  ·
   refine ak 5 h1 (aM 5 ?_)
   cases h
   exact bu
  ·
   refine ak 5 h1 (aM 5 ?_)
   cases h
   exact bu
end
def p81_0:=pth 0 11010
def jD:=pth 0 110100
def p81_2:=pth 0 1101001000
def p81_3:=pth 0 1101001001
def p81_4:=pth 0 11010011
def p81_5:=pth 0 11110
def p81_6:=pth 0 11111
def p81_7:=pth 0 111110
def p81_8:=pth 5 1
noncomputable section
abbrev kH (M:Nat→Prop) (w0:Base):Cx:=⟨Try.prog,37,M,w0⟩
abbrev q81 (M:Nat→Prop) (w0:Base) (r:aE):=bodyPost Try.prog Try.f81 (RetQ M w0 (fun v _=>v = .agg (aL r)))
variable {K:Kn} {n:Nat} {M:Nat→Prop} {w0:Base} {r v1:aE} 
abbrev cn (p:List Nat):Kont:=.c (cat Try.f81 p)
theorem Cs (hK:KnOk K) (h:kQ K n v1=some r):ACalls Try.prog 81 [.agg (aL v1)] (fun v _=>v = .agg (aL r)):=by
  refine bj (cat Try.f81 []) Try.func81 Try.ntmps81 fun M w0=>(bb ⟨[(0,.agg (aL v1))],[],[],[]⟩ ?_)
  unfold kQ at h
  refine aU (ks':=[cn p81_0,.b 0,cn [1,1]]) 6 ⟨[(1,.ptr 1 0),(2,.ptr 2 0),(3,iI 0)],[(1,aL v1),(2,aL cr)],[],[1,2]⟩ (jG 40 (c:=cat Try.f81 jD) (by kernel_rfl) (aR (ac (ks':=[cn p81_2,cn p81_3,.b 1,cn p81_4,kl (kH M w0) (q81 M w0 r) [.b 0,cn [1,1]] (cat Try.f81 jD) 39,.b 0,cn [1,1]]) 8 (ai 5 ?_))))
  obtain ⟨v2,h1,h⟩:=bind_some h
  refine aC (gr hK h1) (ae (ai 5 ?_))
  obtain ⟨v3,h2,h⟩:=bind_some h
  refine aC (gr hK h2) (ae (aU (ks':=[kl (kH M w0) (q81 M w0 r) [.b 0,cn [1,1]] (cat Try.f81 jD) 39,.b 0,cn [1,1]]) 2 ⟨[(1,.ptr 1 0),(2,.ptr 2 0),(3,iI 1)],[(1,aL ({ v1 with Margin:=⟨v2,v1.Margin.a1,v1.Margin.a2,v1.Margin.a3⟩,Padding:=⟨v3,v1.Padding.a1,v1.Padding.a2,v1.Padding.a3⟩ }:aE)),(2,aL cr)],[],[1,2]⟩ (aY (aR (ac (ks':=[cn p81_2,cn p81_3,.b 1,cn p81_4,kl (kH M w0) (q81 M w0 r) [.b 0,cn [1,1]] (cat Try.f81 jD) 38,.b 0,cn [1,1]]) 8 (ai 5 ?_))))))
  obtain ⟨v4,h3,h⟩:=bind_some h
  refine aC (gr hK h3) (ae (ai 5 ?_))
  obtain ⟨v5,h4,h⟩:=bind_some h
  refine aC (gr hK h4) (ae (aU (ks':=[kl (kH M w0) (q81 M w0 r) [.b 0,cn [1,1]] (cat Try.f81 jD) 38,.b 0,cn [1,1]]) 2 ⟨[(1,.ptr 1 0),(2,.ptr 2 0),(3,iI 2)],[(1,aL ({ v1 with Margin:=⟨v2,v4,v1.Margin.a2,v1.Margin.a3⟩,Padding:=⟨v3,v5,v1.Padding.a2,v1.Padding.a3⟩ }:aE)),(2,aL cr)],[],[1,2]⟩ (aY (aR (ac (ks':=[cn p81_2,cn p81_3,.b 1,cn p81_4,kl (kH M w0) (q81 M w0 r) [.b 0,cn [1,1]] (cat Try.f81 jD) 37,.b 0,cn [1,1]]) 8 (ai 5 ?_))))))
  obtain ⟨v6,h5,h⟩:=bind_some h
  refine aC (gr hK h5) (ae (ai 5 ?_))
  obtain ⟨v7,h6,h⟩:=bind_some h
  refine aC (gr hK h6) (ae (aU (ks':=[kl (kH M w0) (q81 M w0 r) [.b 0,cn [1,1]] (cat Try.f81 jD) 37,.b 0,cn [1,1]]) 2 ⟨[(1,.ptr 1 0),(2,.ptr 2 0),(3,iI 3)],[(1,aL ({ v1 with Margin:=⟨v2,v4,v6,v1.Margin.a3⟩,Padding:=⟨v3,v5,v7,v1.Padding.a3⟩ }:aE)),(2,aL cr)],[],[1,2]⟩ (aY (aR (ac (ks':=[cn p81_2,cn p81_3,.b 1,cn p81_4,kl (kH M w0) (q81 M w0 r) [.b 0,cn [1,1]] (cat Try.f81 jD) 36,.b 0,cn [1,1]]) 8 (ai 5 ?_))))))
  obtain ⟨v8,h7,h⟩:=bind_some h
  refine aC (gr hK h7) (ae (ai 5 ?_))
  obtain ⟨v9,h8,h⟩:=bind_some h
  refine aC (gr hK h8) (ae (aU (ks':=[kl (kH M w0) (q81 M w0 r) [.b 0,cn [1,1]] (cat Try.f81 jD) 36,.b 0,cn [1,1]]) 2 ⟨[(1,.ptr 1 0),(2,.ptr 2 0),(3,iI 4)],[(1,aL ({ v1 with Margin:=⟨v2,v4,v6,v8⟩,Padding:=⟨v3,v5,v7,v9⟩ }:aE)),(2,aL cr)],[],[1,2]⟩ (aY (aR (ac (ks':=[cn [1,1,0],cn [1,1,1]]) 9 (ai 2 ?_))))))
  obtain ⟨v10,h9,h⟩:=bind_some h
  refine aC (gr hK h9) (ae (ac (ks':=[cn p81_5,cn p81_6]) 1 (ai 2 ?_)))
  obtain ⟨v11,h10,h⟩:=bind_some h
  refine aC (gr hK h10) (ae (ac (ks':=[cn p81_7,cn p81_8]) 1 (ai 2 ?_)))
  obtain ⟨v12,h11,h⟩:=bind_some h
  refine aC (gr hK h11) (ae (aM 3 ?_))
  cases h
  exact bu
end
def p60_0:=pth 6 1
def p60_1:=pth 6 10
def p60_2:=pth 7 1
def p60_3:=pth 7 10
def p60_4:=pth 8 1
def p60_5:=pth 0 11110
def p60_6:=pth 0 11111
def p60_7:=pth 0 111110
def p60_8:=pth 5 1
def p60_9:=pth 5 101
noncomputable section
abbrev cx60 (M:Nat→Prop) (w0:Base):Cx:=⟨Try.prog,39,M,w0⟩
abbrev q60 (M:Nat→Prop) (w0:Base) (r:Int×Int):=bodyPost Try.prog Try.f60 (RetQ M w0 (fun v _=>v = .tup [iI r.1,iI r.2]))
def s60_j1 (v4:aE) (v8 v9:Int):AS:=⟨[(1,iI v8),(2,iI v9),(3,.ptr 3 0)],[(3,aL v4)],[],[3]⟩
variable {K:Kn} {n:Nat} {M:Nat→Prop} {w0:Base} {r:Int×Int} {v1:aE} {v2 v3:Int} {v4:aE} {v8 v9:Int} 
abbrev eb (p:List Nat):Kont:=.c (cat Try.f60 p)
theorem xR (hK:KnOk K) (h:jq K n v4 v8 v9=some r):VE (cx60 M w0) (q60 M w0 r) [eb p60_0] .normal (s60_j1 v4 v8 v9):=by
  unfold jq at h
  refine ac (ks':=[eb p60_1,eb p60_2]) 1 (ai 1 ?_)
  obtain ⟨v10,h6,h⟩:=bind_some h
  refine aC (sr hK h6) ?_
  obtain ⟨v11,h7,h⟩:=bind_some h
  refine aC (qN hK h7) (ae (ac (ks':=[eb p60_3,eb p60_4]) 1 (bL [1,2,3,10] [3] [] ?_)))
  obtain ⟨v12,h8,h⟩:=bind_some h
  obtain ⟨v13,h9,h⟩:=bind_some h
  refine bm 2 (nu 29 [.agg (aL v4),iI v8,iI v12,iI v11,iI (w64 (v12+v11)),.agg (aL v4),iI v9,iI v13,iI v11,iI (w64 (v13+v11))]) [] [] [stp Try.prog 39 Try.f60 p60_3 10,stp Try.prog 39 Try.f60 p60_3 11] (am (vz 2) (aj (e_c 0 1 31 (uC hK h8)) (am [.v 0 1,.v 0 1,.v 0 2,.v 0 2] (aj (e_c 0 1 36 (uC hK h9)) (am [.v 0 2,.v 0 2] (aj (e_d 0) (aj (e_d 1) bk))))))) (aM 1 ?_)
  cases h
  exact dv
theorem A4 (hK:KnOk K) (h:ng K n v1 v2 v3=some r):ACalls Try.prog 60 [.agg (aL v1),iI v2,iI v3] (fun v _=>v = .tup [iI r.1,iI r.2]):=by
  refine bj (cat Try.f60 []) Try.func60 Try.ntmps60 fun M w0=>(bb ⟨[(0,.agg (aL v1)),(1,iI v2),(2,iI v3)],[],[],[]⟩ ?_)
  unfold ng at h
  refine ac (ks':=[eb [1,0],eb [1,1]]) 3 (ai 1 ?_)
  obtain ⟨v4,h1,h⟩:=bind_some h
  refine aC (Cs hK h1) (ae (ac (ks':=[eb [1,1,0],eb [1,1,1]]) 1 (ai 1 ?_)))
  obtain ⟨v5,h2,h⟩:=bind_some h
  refine aC (fY hK h2) (ae (ac (ks':=[eb p60_5,eb p60_6]) 1 (ai 1 ?_)))
  obtain ⟨v6,h3,h⟩:=bind_some h
  refine aC (fY hK h3) (ae (ac (ks':=[eb p60_7,eb p60_8]) 1 (ai 2 ?_)))
  obtain ⟨v7,h4,h⟩:=bind_some h
  refine aC (yu hK h4) (ae (ac (ks':=[eb p60_9,eb p60_0]) 3 ?_))
  rcases ao h with ⟨h5,h⟩ | ⟨h5,h⟩
  ·
   exact ak 23 h5 (ag 4 (xR hK h))
  ·
   exact ak 23 h5 (ag 2 (xR hK h))
end
def p57_0:=pth 0 11111
def p57_1:=pth 0 11110100
def p57_2:=pth 0 1111010000
def p57_3:=pth 0 1111010001
def p57_4:=pth 0 111101001
def p57_5:=pth 0 111101001000
def p57_6:=pth 0 111101001001
def p57_7:=pth 0 1111010011
def p57_8:=pth 0 1111010
noncomputable section
abbrev cx57 (M:Nat→Prop) (w0:Base):Cx:=⟨Try.prog,31,M,w0⟩
abbrev q57 (M:Nat→Prop) (w0:Base) (r:Int×Int):=bodyPost Try.prog Try.f57 (RetQ M w0 (fun v _=>v = .tup [iI r.1,iI r.2]))
abbrev fM (p:List Nat):Kont:=.c (cat Try.f57 p)
abbrev k57_1 (M:Nat→Prop) (w0:Base) (r:Int×Int) (m1:Nat):Kont:=kl (cx57 M w0) (q57 M w0 r) [.b 0,fM p57_0] (cat Try.f57 p57_1) m1
def s57_l1 (v1:List ab) (v3 v4 v5:Int):AS:=⟨[(0,.sl (lm aB v1)),(6,iI v3),(7,iI v4),(8,iI v5)],[],[],[]⟩
abbrev H57_1 (M:Nat→Prop) (w0:Base) (r:Int×Int) (v1:List ab) (m1:Nat) (L1:Int→Int→Int→Option (Int×Int)):Prop:=∀ {v3 v4 v5:Int},L1 v3 v4 v5=some r→LP (cx57 M w0) (q57 M w0 r) [.b 0,fM p57_0] (cat Try.f57 p57_1) m1 (s57_l1 v1 v3 v4 v5)
variable {K:Kn} {n:Nat} {M:Nat→Prop} {w0:Base} {r:Int×Int} {v1:List ab} {v2:aE} {v3 v4 v5:Int} {m1:Nat} {L1:Int→Int→Int→Option (Int×Int)}
theorem zG (hK:KnOk K) (hL1:H57_1 M w0 r v1 m1 L1) (h:kv K n v1 L1 v3 v4 v5=some r):VE (cx57 M w0) (q57 M w0 r) [fM p57_1,k57_1 M w0 r m1,.b 0,fM p57_0] .normal (s57_l1 v1 v3 v4 v5):=by
  unfold kv at h
  refine ac (ks':=[fM p57_2,fM p57_3,fM p57_4,k57_1 M w0 r m1,.b 0,fM p57_0]) 2 (ai 2 (ap (br aB v1) (ae ?_)))
  rcases ao h with ⟨h3,h⟩ | ⟨h3,h⟩
  ·
   refine ak 13 h3 (ac (ks':=[fM p57_5,fM p57_6,.b 1,fM p57_7,k57_1 M w0 r m1,.b 0,fM p57_0]) 5 (ai 2 ?_))
   obtain ⟨h4,h⟩:=aq h
   exact ap (bF aB ax h4 (cj) (b9)) (ae (ag 5 (aY (hL1 h))))
  ·
   refine ak 13 h3 (aM 8 ?_)
   cases h
   exact dv
theorem yX (hK:KnOk K) (m:Nat):H57_1 M w0 r v1 m (ki K n v1 m):=by
  induction m with
 | zero=>intro v3 v4 v5 h; cases h
 | succ m ih=>intro v3 v4 v5 h; have h:kv K n v1 (ki K n v1 m) v3 v4 v5=some r:=h; exact aR (zG hK ih h)
theorem yL (hK:KnOk K) (h:fP K n v1 v2=some r):ACalls Try.prog 57 [.sl (lm aB v1),.agg (aL v2)] (fun v _=>v = .tup [iI r.1,iI r.2]):=by
  refine bj (cat Try.f57 []) Try.func57 Try.ntmps57 fun M w0=>(bb ⟨[(0,.sl (lm aB v1)),(1,.agg (aL v2))],[],[],[]⟩ ?_)
  unfold fP at h
  exact ag 10 (bE (p:=p57_8) n (yX hK n h))
end
def p80_0:=pth 6 1
def p80_1:=pth 5 10100
def p80_2:=pth 5 1010000
def p80_3:=pth 5 1010001
def p80_4:=pth 5 101001
def p80_5:=pth 5 101001000
def p80_6:=pth 5 101001001
def p80_7:=pth 5 1010011
def p80_8:=pth 6 10
def p80_9:=pth 7 1
def p80_10:=pth 0 11100
def p80_11:=pth 0 11101
def p80_12:=pth 0 1110100
def p80_13:=pth 0 1110101
def p80_14:=pth 0 11101010
def p80_15:=pth 0 11101011
def p80_16:=pth 5 1010
noncomputable section
abbrev cx80 (M:Nat→Prop) (w0:Base):Cx:=⟨Try.prog,52,M,w0⟩
abbrev q80 (M:Nat→Prop) (w0:Base) (r:Int×Int):=bodyPost Try.prog Try.f80 (RetQ M w0 (fun v _=>v = .tup [iI r.1,iI r.2]))
abbrev cO (p:List Nat):Kont:=.c (cat Try.f80 p)
abbrev k80_1 (M:Nat→Prop) (w0:Base) (r:Int×Int) (m1:Nat):Kont:=kl (cx80 M w0) (q80 M w0 r) [.b 0,cO p80_0] (cat Try.f80 p80_1) m1
def s80_l1 (v2:List ab) (v8 v9 v10:Int):AS:=⟨[(4,.ref 1013),(7,iI v8),(8,iI v9),(9,iI v10)],[],[(1013,⟨50,59,lm aB v2⟩)],[1013]⟩
abbrev H80_1 (M:Nat→Prop) (w0:Base) (r:Int×Int) (v2:List ab) (m1:Nat) (L1:Int→Int→Int→Option (Int×Int)):Prop:=∀ {v8 v9 v10:Int},L1 v8 v9 v10=some r→LP (cx80 M w0) (q80 M w0 r) [.b 0,cO p80_0] (cat Try.f80 p80_1) m1 (s80_l1 v2 v8 v9 v10)
variable {K:Kn} {n:Nat} {M:Nat→Prop} {w0:Base} {r:Int×Int} {v1:ab} {v2:List ab} {v8 v9 v10:Int} {m1:Nat} {L1:Int→Int→Int→Option (Int×Int)}
theorem C3 (hK:KnOk K) (hL1:H80_1 M w0 r v2 m1 L1) (h:lZ K n v2 L1 v8 v9 v10=some r):VE (cx80 M w0) (q80 M w0 r) [cO p80_1,k80_1 M w0 r m1,.b 0,cO p80_0] .normal (s80_l1 v2 v8 v9 v10):=by
  unfold lZ at h
  refine ac (ks':=[cO p80_2,cO p80_3,cO p80_4,k80_1 M w0 r m1,.b 0,cO p80_0]) 2 (ai 2 (ap (br aB v2) (ae ?_)))
  rcases ao h with ⟨h10,h⟩ | ⟨h10,h⟩
  ·
   refine ak 31 h10 (ac (ks':=[cO p80_5,cO p80_6,.b 1,cO p80_7,k80_1 M w0 r m1,.b 0,cO p80_0]) 5 (ai 2 ?_))
   obtain ⟨h11,h⟩:=aq h
   refine ap (bK 1013 59 aB h11) (ap (aJ 50 0 aB ax (aH h11).2 (b9)) ?_)
   obtain ⟨v11,h12,h⟩:=bind_some h
   exact aC (hK.gJ h12) (ae (ag 5 (aY (hL1 h))))
  ·
   refine ak 31 h10 (ac (ks':=[cO p80_8,cO p80_9]) 6 (ai 1 ?_))
   obtain ⟨v12,h13,h⟩:=bind_some h
   refine aC (fY hK h13) (aO 3 1 ?_)
   obtain ⟨v13,h14,h⟩:=bind_some h
   refine aC (fY hK h14) (ae (aM 1 ?_))
   cases h
   exact dv
theorem zI (hK:KnOk K) (m:Nat):H80_1 M w0 r v2 m (i9 K n v2 m):=by
  induction m with
 | zero=>intro v8 v9 v10 h; cases h
 | succ m ih=>intro v8 v9 v10 h; have h:lZ K n v2 (i9 K n v2 m) v8 v9 v10=some r:=h; exact aR (C3 hK ih h)
theorem Ak (hK:KnOk K) (h:iz K n v1=some r):ACalls Try.prog 80 [.agg (ax v1)] (fun v _=>v = .tup [iI r.1,iI r.2]):=by
  refine bj (cat Try.f80 []) Try.func80 Try.ntmps80 fun M w0=>(bb ⟨[(0,.agg (ax v1))],[],[],[]⟩ ?_)
  unfold iz at h
  refine ac (ks':=[cO [1,0],cO [1,1]]) 3 (ai 1 ?_)
  obtain ⟨v2,h1,h⟩:=bind_some h
  refine cv 1013 (u0 hK h1) (df 25) (ae (ac (ks':=[cO p80_10,cO p80_11,cO [1,1,1]]) 2 (ai 1 ?_)))
  obtain ⟨v3,h2,h⟩:=bind_some h
  refine aC (vY hK h2) (ae ?_)
  rcases ao h with ⟨h3,h⟩ | ⟨h3,h⟩
  ·
   refine ak 16 h3 (ac (ks':=[cO p80_12,cO p80_13,cO [1,1,1]]) 2 (ai 3 (c9 1013 ?_)))
   obtain ⟨v4,h4,h⟩:=bind_some h
   refine aC (yL hK h4) (ae (ac (ks':=[cO p80_14,cO p80_15,cO [1,1,1]]) 1 (ai 1 ?_)))
   obtain ⟨v5,h5,h⟩:=bind_some h
   refine aC (fY hK h5) (aO 3 1 ?_)
   obtain ⟨v6,h6,h⟩:=bind_some h
   refine aC (fY hK h6) (ae (aM 2 ?_))
   cases h
   exact dv
  ·
   exact ak 16 h3 (ag 10 (bE (p:=p80_16) n (zI hK n h)))
end
noncomputable section
variable {K:Kn} {n:Nat} {M:Nat→Prop} {w0:Base} {r:Int×Int} {v1:ab} 
abbrev cF59 (p:List Nat):Kont:=.c (cat Try.f59 p)
theorem wu (hK:KnOk K) (h:eQ K n v1=some r):ACalls Try.prog 59 [.agg (ax v1)] (fun v _=>v = .tup [iI r.1,iI r.2]):=by
  refine bj (cat Try.f59 []) Try.func59 Try.ntmps59 fun M w0=>(bb ⟨[(0,.agg (ax v1))],[],[],[]⟩ ?_)
  unfold eQ at h
  refine ac (ks':=[cF59 [1,0],cF59 [1,1]]) 3 (ai 1 ?_)
  obtain ⟨v2,h1,h⟩:=bind_some h
  refine aC (Ak hK h1) (ae (ac (ks':=[cF59 [1,1,0],cF59 [1,1,1]]) 1 (ai 4 ?_)))
  obtain ⟨v3,h2,h⟩:=bind_some h
  refine aC (A4 hK h2) (ae (aM 1 ?_))
  cases h
  exact dv
end
def p94_0:=pth 0 11110
def p94_1:=pth 0 11111
def p94_2:=pth 0 111110
def p94_3:=pth 5 1
def p94_4:=pth 5 10
def p94_5:=pth 6 1
noncomputable section
variable {K:Kn} {n:Nat} {M:Nat→Prop} {w0:Base} {r:aw} {v1:ab} {v2:Int} 
abbrev gW (p:List Nat):Kont:=.c (cat Try.f94 p)
theorem g_ref19_item_ok (hK:KnOk K) (h:sQ K n v1 v2=some r):ACalls Try.prog 94 [.agg (ax v1),iI v2] (fun v _=>v = .agg (aF r)):=by
  refine bj (cat Try.f94 []) Try.func94 Try.ntmps94 fun M w0=>(bb ⟨[(0,.agg (ax v1)),(1,iI v2)],[],[],[]⟩ ?_)
  unfold sQ at h
  refine ac (ks':=[gW [1,0],gW [1,1]]) 3 (ai 1 ?_)
  obtain ⟨v3,h1,h⟩:=bind_some h
  refine aC (wu hK h1) (ae (ac (ks':=[gW [1,1,0],gW [1,1,1]]) 1 (ai 3 ?_)))
  obtain ⟨v4,h2,h⟩:=bind_some h
  refine aC (sr hK h2) ?_
  obtain ⟨v5,h3,h⟩:=bind_some h
  refine aC (qN hK h3) (ae (ac (ks':=[gW p94_0,gW p94_1]) 1 (ai 5 ?_)))
  obtain ⟨v6,h4,h⟩:=bind_some h
  refine aC (oU hK h4) (ae (ac (ks':=[gW p94_2,gW p94_3]) 1 (ai 5 ?_)))
  obtain ⟨v7,h5,h⟩:=bind_some h
  refine aC (oU hK h5) (ae (ac (ks':=[gW p94_4,gW p94_5]) 1 (bL [1,2,4,7] [2,4] [] ?_)))
  obtain ⟨v8,h6,h⟩:=bind_some h
  obtain ⟨v9,h7,h⟩:=bind_some h
  refine bm 1 (nu 31 [iI v7,.ptr 2 2,.ptr 2 46,iI v1.Style.Grow,.ptr 2 2,.ptr 2 47,iI v1.Style.Shrink,.ptr 2 2,.ptr 2 12,.agg (cE v1.Style.MinWidth),iI v2,iI v8,.ptr 2 2,.ptr 2 14,.agg (cE v1.Style.MaxWidth),iI v2,iI v9,.agg (aF (⟨v7,v1.Style.Grow,v1.Style.Shrink,v8,v9⟩:aw))]) [] [] [stp Try.prog 49 Try.f94 p94_4 18] (am (vz 11) (aj (e_c 0 1 42 (oU hK h6)) (am (vz 4) (aj (e_c 0 1 47 (oU hK h7)) (am [.v 0 1] (aj (e_d 0) bk)))))) (aM 1 ?_)
  cases h
  exact bu
end
def fE:=pth 0 11111010011
def ct:=pth 5 1
def dz:=pth 0 111110100
def lT:=pth 0 1111101001001
def p95_4:=pth 0 1111101001000
def p95_5:=pth 0 11111010
noncomputable section
abbrev cU (M:Nat→Prop) (w0:Base):Cx:=⟨Try.prog,42,M,w0⟩
abbrev q95 (M:Nat→Prop) (w0:Base) (r:ab):=bodyPost Try.prog Try.f95 (RetQ M w0 (fun v _=>v = .agg (ax r)))
def s95_j8 (v1:ab) (v2:Int) (v10:V4 aQ):AS:=⟨[(2,.ptr 2 0),(4,.ptr 4 0),(5,iI 3)],[(2,ax ({ v1 with Style:=({ v1.Style with Width:=(⟨1,v2⟩:aQ),MinWidth:=bz,MaxWidth:=bz,Margin:=v10 }:aE) }:ab)),(4,List.set (ax co) 58 (.nils))],[],[2,4]⟩
def s95_j7 (v1:ab) (v2:Int) (v8:V4 aQ) (v9:Bool):AS:=⟨[(2,.ptr 2 0),(4,.ptr 4 0),(5,iI 3),(35,.bool v9)],[(2,ax ({ v1 with Style:=({ v1.Style with Width:=(⟨1,v2⟩:aQ),MinWidth:=bz,MaxWidth:=bz,Margin:=v8 }:aE) }:ab)),(4,List.set (ax co) 58 (.nils))],[],[2,4]⟩
def s95_j6 (v1:ab) (v2:Int) (v8:V4 aQ):AS:=⟨[(2,.ptr 2 0),(4,.ptr 4 0),(5,iI 2)],[(2,ax ({ v1 with Style:=({ v1.Style with Width:=(⟨1,v2⟩:aQ),MinWidth:=bz,MaxWidth:=bz,Margin:=v8 }:aE) }:ab)),(4,List.set (ax co) 58 (.nils))],[],[2,4]⟩
def s95_j5 (v1:ab) (v2:Int) (v6:V4 aQ) (v7:Bool):AS:=⟨[(2,.ptr 2 0),(4,.ptr 4 0),(5,iI 2),(35,.bool v7)],[(2,ax ({ v1 with Style:=({ v1.Style with Width:=(⟨1,v2⟩:aQ),MinWidth:=bz,MaxWidth:=bz,Margin:=v6 }:aE) }:ab)),(4,List.set (ax co) 58 (.nils))],[],[2,4]⟩
def s95_j4 (v1:ab) (v2:Int) (v6:V4 aQ):AS:=⟨[(2,.ptr 2 0),(4,.ptr 4 0),(5,iI 1)],[(2,ax ({ v1 with Style:=({ v1.Style with Width:=(⟨1,v2⟩:aQ),MinWidth:=bz,MaxWidth:=bz,Margin:=v6 }:aE) }:ab)),(4,List.set (ax co) 58 (.nils))],[],[2,4]⟩
def s95_j3 (v1:ab) (v2:Int) (v4:V4 aQ) (v5:Bool):AS:=⟨[(2,.ptr 2 0),(4,.ptr 4 0),(5,iI 1),(35,.bool v5)],[(2,ax ({ v1 with Style:=({ v1.Style with Width:=(⟨1,v2⟩:aQ),MinWidth:=bz,MaxWidth:=bz,Margin:=v4 }:aE) }:ab)),(4,List.set (ax co) 58 (.nils))],[],[2,4]⟩
def s95_j2 (v1:ab) (v2:Int) (v4:V4 aQ):AS:=⟨[(2,.ptr 2 0),(4,.ptr 4 0),(5,iI 0)],[(2,ax ({ v1 with Style:=({ v1.Style with Width:=(⟨1,v2⟩:aQ),MinWidth:=bz,MaxWidth:=bz,Margin:=v4 }:aE) }:ab)),(4,List.set (ax co) 58 (.nils))],[],[2,4]⟩
def s95_j1 (v1:ab) (v2:Int) (v3:Bool):AS:=⟨[(2,.ptr 2 0),(4,.ptr 4 0),(5,iI 0),(35,.bool v3)],[(2,ax ({ v1 with Style:=({ v1.Style with Width:=(⟨1,v2⟩:aQ),MinWidth:=bz,MaxWidth:=bz }:aE) }:ab)),(4,List.set (ax co) 58 (.nils))],[],[2,4]⟩
variable {K:Kn} {n:Nat} {M:Nat→Prop} {w0:Base} {r v1:ab} {v2:Int} {v3:Bool} {v4:V4 aQ} {v5:Bool} {v6:V4 aQ} {v7:Bool} {v8:V4 aQ} {v9:Bool} {v10:V4 aQ} 
abbrev bN (p:List Nat):Kont:=.c (cat Try.f95 p)
theorem xg (hK:KnOk K) (h:qZ K n v1 v2 v10=some r):VE (cU M w0) (q95 M w0 r) [.b 1,bN fE,kl (cU M w0) (q95 M w0 r) [.b 0,bN ct] (cat Try.f95 dz) 36,.b 0,bN ct] .normal (s95_j8 v1 v2 v10):=by
  unfold qZ at h
  refine aU (ks':=[kl (cU M w0) (q95 M w0 r) [.b 0,bN ct] (cat Try.f95 dz) 36,.b 0,bN ct]) 2 ⟨[(2,.ptr 2 0),(4,.ptr 4 0),(5,iI 4)],[(2,ax ({ v1 with Style:=({ v1.Style with Width:=(⟨1,v2⟩:aQ),MinWidth:=bz,MaxWidth:=bz,Margin:=v10 }:aE) }:ab)),(4,List.set (ax co) 58 (.nils))],[],[2,4]⟩ (aY (aR (aM 11 ?_)))
  cases h
  exact bu
theorem vw (hK:KnOk K) (h:sU K n v1 v2 v8 v9=some r):VE (cU M w0) (q95 M w0 r) [bN lT,.b 1,bN fE,kl (cU M w0) (q95 M w0 r) [.b 0,bN ct] (cat Try.f95 dz) 36,.b 0,bN ct] .normal (s95_j7 v1 v2 v8 v9):=by
  unfold sU at h
  rcases ao h with ⟨h8,h⟩ | ⟨h8,h⟩
  ·
   exact ak 35 h8 (ag 2 (xg hK h))
  ·
   exact ak 35 h8 (ag 2 (xg hK h))
theorem vm (hK:KnOk K) (h:ql K n v1 v2 v8=some r):VE (cU M w0) (q95 M w0 r) [.b 1,bN fE,kl (cU M w0) (q95 M w0 r) [.b 0,bN ct] (cat Try.f95 dz) 37,.b 0,bN ct] .normal (s95_j6 v1 v2 v8):=by
  unfold ql at h
  refine aU (ks':=[kl (cU M w0) (q95 M w0 r) [.b 0,bN ct] (cat Try.f95 dz) 37,.b 0,bN ct]) 2 ⟨[(2,.ptr 2 0),(4,.ptr 4 0),(5,iI 3)],[(2,ax ({ v1 with Style:=({ v1.Style with Width:=(⟨1,v2⟩:aQ),MinWidth:=bz,MaxWidth:=bz,Margin:=v8 }:aE) }:ab)),(4,List.set (ax co) 58 (.nils))],[],[2,4]⟩ (aY (aR (ac (ks':=[bN p95_4,bN lT,.b 1,bN fE,kl (cU M w0) (q95 M w0 r) [.b 0,bN ct] (cat Try.f95 dz) 36,.b 0,bN ct]) 8 (ai 8 ?_))))
  rcases ao h with ⟨h7,h⟩ | ⟨h7,h⟩
  ·
   exact aK 27 h7 (ae (ag 0 (vw hK h)))
  ·
   exact aK 27 h7 (ae (ag 0 (vw hK h)))
theorem vH (hK:KnOk K) (h:qx K n v1 v2 v6 v7=some r):VE (cU M w0) (q95 M w0 r) [bN lT,.b 1,bN fE,kl (cU M w0) (q95 M w0 r) [.b 0,bN ct] (cat Try.f95 dz) 37,.b 0,bN ct] .normal (s95_j5 v1 v2 v6 v7):=by
  unfold qx at h
  rcases ao h with ⟨h6,h⟩ | ⟨h6,h⟩
  ·
   exact ak 35 h6 (ag 2 (vm hK h))
  ·
   exact ak 35 h6 (ag 2 (vm hK h))
theorem xF (hK:KnOk K) (h:n8 K n v1 v2 v6=some r):VE (cU M w0) (q95 M w0 r) [.b 1,bN fE,kl (cU M w0) (q95 M w0 r) [.b 0,bN ct] (cat Try.f95 dz) 38,.b 0,bN ct] .normal (s95_j4 v1 v2 v6):=by
  unfold n8 at h
  refine aU (ks':=[kl (cU M w0) (q95 M w0 r) [.b 0,bN ct] (cat Try.f95 dz) 38,.b 0,bN ct]) 2 ⟨[(2,.ptr 2 0),(4,.ptr 4 0),(5,iI 2)],[(2,ax ({ v1 with Style:=({ v1.Style with Width:=(⟨1,v2⟩:aQ),MinWidth:=bz,MaxWidth:=bz,Margin:=v6 }:aE) }:ab)),(4,List.set (ax co) 58 (.nils))],[],[2,4]⟩ (aY (aR (ac (ks':=[bN p95_4,bN lT,.b 1,bN fE,kl (cU M w0) (q95 M w0 r) [.b 0,bN ct] (cat Try.f95 dz) 37,.b 0,bN ct]) 8 (ai 8 ?_))))
  rcases ao h with ⟨h5,h⟩ | ⟨h5,h⟩
  ·
   exact aK 27 h5 (ae (ag 0 (vH hK h)))
  ·
   exact aK 27 h5 (ae (ag 0 (vH hK h)))
theorem yt (hK:KnOk K) (h:qv K n v1 v2 v4 v5=some r):VE (cU M w0) (q95 M w0 r) [bN lT,.b 1,bN fE,kl (cU M w0) (q95 M w0 r) [.b 0,bN ct] (cat Try.f95 dz) 38,.b 0,bN ct] .normal (s95_j3 v1 v2 v4 v5):=by
  unfold qv at h
  rcases ao h with ⟨h4,h⟩ | ⟨h4,h⟩
  ·
   exact ak 35 h4 (ag 2 (xF hK h))
  ·
   exact ak 35 h4 (ag 2 (xF hK h))
theorem vu (hK:KnOk K) (h:pO K n v1 v2 v4=some r):VE (cU M w0) (q95 M w0 r) [.b 1,bN fE,kl (cU M w0) (q95 M w0 r) [.b 0,bN ct] (cat Try.f95 dz) 39,.b 0,bN ct] .normal (s95_j2 v1 v2 v4):=by
  unfold pO at h
  refine aU (ks':=[kl (cU M w0) (q95 M w0 r) [.b 0,bN ct] (cat Try.f95 dz) 39,.b 0,bN ct]) 2 ⟨[(2,.ptr 2 0),(4,.ptr 4 0),(5,iI 1)],[(2,ax ({ v1 with Style:=({ v1.Style with Width:=(⟨1,v2⟩:aQ),MinWidth:=bz,MaxWidth:=bz,Margin:=v4 }:aE) }:ab)),(4,List.set (ax co) 58 (.nils))],[],[2,4]⟩ (aY (aR (ac (ks':=[bN p95_4,bN lT,.b 1,bN fE,kl (cU M w0) (q95 M w0 r) [.b 0,bN ct] (cat Try.f95 dz) 38,.b 0,bN ct]) 8 (ai 8 ?_))))
  rcases ao h with ⟨h3,h⟩ | ⟨h3,h⟩
  ·
   exact aK 27 h3 (ae (ag 0 (yt hK h)))
  ·
   exact aK 27 h3 (ae (ag 0 (yt hK h)))
theorem yx (hK:KnOk K) (h:qu K n v1 v2 v3=some r):VE (cU M w0) (q95 M w0 r) [bN lT,.b 1,bN fE,kl (cU M w0) (q95 M w0 r) [.b 0,bN ct] (cat Try.f95 dz) 39,.b 0,bN ct] .normal (s95_j1 v1 v2 v3):=by
  unfold qu at h
  rcases ao h with ⟨h2,h⟩ | ⟨h2,h⟩
  ·
   exact ak 35 h2 (ag 2 (vu hK h))
  ·
   exact ak 35 h2 (ag 2 (vu hK h))
theorem z5 (hK:KnOk K) (h:rb K n v1 v2=some r):ACalls Try.prog 95 [.agg (ax v1),iI v2] (fun v _=>v = .agg (ax r)):=by
  refine bj (cat Try.f95 []) Try.func95 Try.ntmps95 fun M w0=>(bb ⟨[(0,.agg (ax v1)),(1,iI v2)],[],[],[]⟩ ?_)
  unfold rb at h
  refine aU (ks':=[bN p95_5,.b 0,bN ct]) 12 ⟨[(2,.ptr 2 0),(4,.ptr 4 0),(5,iI 0)],[(2,ax ({ v1 with Style:=({ v1.Style with Width:=(⟨1,v2⟩:aQ),MinWidth:=bz,MaxWidth:=bz }:aE) }:ab)),(4,List.set (ax co) 58 (.nils))],[],[2,4]⟩ (jG 40 (c:=cat Try.f95 dz) (by kernel_rfl) (aR (ac (ks':=[bN p95_4,bN lT,.b 1,bN fE,kl (cU M w0) (q95 M w0 r) [.b 0,bN ct] (cat Try.f95 dz) 39,.b 0,bN ct]) 8 (ai 8 ?_))))
  rcases ao h with ⟨h1,h⟩ | ⟨h1,h⟩
  ·
   exact aK 27 h1 (ae (ag 0 (yx hK h)))
  ·
   exact aK 27 h1 (ae (ag 0 (yx hK h)))
end
def c6:=pth 10 1
def p71_1:=pth 9 10100
def mj:=pth 0 11111
def p71_3:=pth 0 11110100
def ji:=pth 9 1010010011111111
def dI:=pth 9 1010011
def p71_6:=pth 9 1010010011111110100
def p71_7:=pth 9 101001001111
def p71_8:=pth 9 101001001110100
def p71_9:=pth 9 101001001111111010001
def p71_10:=pth 9 10100100111111101001
def p71_11:=pth 9 10100100111111101001000
def p71_12:=pth 9 10100100111111101001001
def ru:=pth 9 101001001111111010011
def p71_14:=pth 9 1010010011111110100100110
def p71_15:=pth 9 1010010011111110100100111
def p71_16:=pth 9 10100100111111101001001110
def p71_17:=pth 9 10100100111111101001001111
def p71_18:=pth 9 101001001111111010010011110
def p71_19:=pth 9 101001001111111010010011111
def p71_20:=pth 9 10100100111010001
def p71_21:=pth 9 1010010011101001
def p71_22:=pth 9 101001001110100100
def p71_23:=pth 9 10100100111010011
def p71_24:=pth 9 1010010011110
def p71_25:=pth 9 1010010011111
def p71_26:=pth 9 101001001111111010
def p71_27:=pth 9 1010000
def p71_28:=pth 9 1010001
def p71_29:=pth 9 101001
def p71_30:=pth 9 101001000
def p71_31:=pth 9 101001001
def p71_32:=pth 9 1010010010
def p71_33:=pth 9 1010010011
def p71_34:=pth 9 10100100111010
def p71_35:=pth 6 1
def p71_36:=pth 6 10
def p71_37:=pth 7 1
def p71_38:=pth 9 1010
def p71_39:=pth 0 1111010000
def p71_40:=pth 0 1111010001
def p71_41:=pth 0 111101001
def p71_42:=pth 0 111101001000
def p71_43:=pth 0 111101001001
def p71_44:=pth 0 1111010011
def p71_45:=pth 0 1111010010010
def p71_46:=pth 0 1111010010011
def p71_47:=pth 0 111110
def p71_48:=pth 5 1
def p71_49:=pth 5 101
def p71_50:=pth 5 1010
def p71_51:=pth 0 1111010
noncomputable section
abbrev fb (M:Nat→Prop) (w0:Base):Cx:=⟨Try.prog,172,M,w0⟩
abbrev q71 (M:Nat→Prop) (w0:Base) (r:(List aa)×Int):=bodyPost Try.prog Try.f71 (RetQ M w0 (fun v s=>v = .tup [.ref 2013,iI r.2]∧look 2013 s.r=some ⟨67,67,lm au r.1⟩))
abbrev aS (p:List Nat):Kont:=.c (cat Try.f71 p)
abbrev dd (M:Nat→Prop) (w0:Base) (r:(List aa)×Int) (m3:Nat):Kont:=kl (fb M w0) (q71 M w0 r) [.b 2,aS c6] (cat Try.f71 p71_1) m3
abbrev k71_2 (M:Nat→Prop) (w0:Base) (r:(List aa)×Int) (m2:Nat):Kont:=kl (fb M w0) (q71 M w0 r) [.b 0,aS mj] (cat Try.f71 p71_3) m2
abbrev mJ (M:Nat→Prop) (w0:Base) (r:(List aa)×Int) (m3 m5:Nat):Kont:=kl (fb M w0) (q71 M w0 r) [.b 6,aS ji,.b 3,aS dI,dd M w0 r m3,.b 2,aS c6] (cat Try.f71 p71_6) m5
abbrev k71_4 (M:Nat→Prop) (w0:Base) (r:(List aa)×Int) (m3 m4:Nat):Kont:=kl (fb M w0) (q71 M w0 r) [.b 4,aS p71_7,.b 3,aS dI,dd M w0 r m3,.b 2,aS c6] (cat Try.f71 p71_8) m4
def s71_l4 (v1:List ab) (v3:Int) (v13:List aw) (v14 v21:List Int) (v81 v82 v85 v88:Int) (v91:List Int) (v99 v100 v101:Int) (v102:List aa):AS:=⟨[(0,.sl (lm aB v1)),(2,iI v3),(8,.sl (lm aF v13)),(9,.ref 2009),(12,.ref 1068),(13,.ref 2013),(14,iI v81),(15,iI v82),(16,iI v85),(17,iI v88),(20,.ref 1108),(21,iI v99),(22,iI v100),(23,iI v101)],[],[(1068,⟨3,1,lm (eInt .i64) (v21++[(v1.length:Int)])⟩),(1108,⟨3,1,lm (eInt .i64) v91⟩),(2009,⟨3,1,lm (eInt .i64) v14⟩),(2013,⟨67,67,lm au v102⟩)],[1068,1108,2009,2013]⟩
def s71_l3 (v1:List ab) (v3:Int) (v13:List aw) (v14 v21:List Int) (v81 v82:Int) (v83:List aa) (v85 v88 v89 v90:Int):AS:=⟨[(0,.sl (lm aB v1)),(2,iI v3),(8,.sl (lm aF v13)),(9,.ref 2009),(12,.ref 1068),(13,.ref 2013),(14,iI v81),(15,iI v82),(16,iI v85),(17,iI v88),(18,iI v89),(19,iI v90)],[],[(1068,⟨3,1,lm (eInt .i64) (v21++[(v1.length:Int)])⟩),(2009,⟨3,1,lm (eInt .i64) v14⟩),(2013,⟨67,67,lm au v83⟩)],[1068,2009,2013]⟩
def s71_l5 (v1:List ab) (v3:Int) (v13:List aw) (v14 v21:List Int) (v81 v82:Int) (v83:List aa):AS:=⟨[(0,.sl (lm aB v1)),(2,iI v3),(8,.sl (lm aF v13)),(9,.ref 2009),(12,.ref 1068),(13,.ref 2013),(14,iI v81),(15,iI v82)],[],[(1068,⟨3,1,lm (eInt .i64) (v21++[(v1.length:Int)])⟩),(2009,⟨3,1,lm (eInt .i64) v14⟩),(2013,⟨67,67,lm au v83⟩)],[1068,2009,2013]⟩
def s71_j2 (v1:List ab) (v3:Int) (v13:List aw) (v14 v21:List Int):AS:=⟨[(0,.sl (lm aB v1)),(2,iI v3),(8,.ref 2008),(9,.ref 2009),(12,.ref 1068)],[],[(1068,⟨3,1,lm (eInt .i64) v21⟩),(2008,⟨34,5,lm aF v13⟩),(2009,⟨3,1,lm (eInt .i64) v14⟩)],[1068,2008,2009]⟩
def s71_l1 (v1:List ab) (v2:Bool) (v3 v12:Int) (v13:List aw) (v14 v15:List Int):AS:=⟨[(0,.sl (lm aB v1)),(1,.bool v2),(2,iI v3),(8,.ref 2008),(9,.ref 2009),(10,.ref 2010),(11,iI v12)],[],[(2008,⟨34,5,lm aF v13⟩),(2009,⟨3,1,lm (eInt .i64) v14⟩),(2010,⟨3,1,lm (eInt .i64) v15⟩)],[2008,2009,2010]⟩
abbrev H71_2 (M:Nat→Prop) (w0:Base) (r:(List aa)×Int) (v1:List ab) (v2:Bool) (v3:Int) (m2:Nat) (L2:Int→(List aw)→(List Int)→(List Int)→Option ((List aa)×Int)):Prop:=∀ {v12:Int} {v13:List aw} {v14 v15:List Int},L2 v12 v13 v14 v15=some r→LP (fb M w0) (q71 M w0 r) [.b 0,aS mj] (cat Try.f71 p71_3) m2 (s71_l1 v1 v2 v3 v12 v13 v14 v15)
abbrev pL (M:Nat→Prop) (w0:Base) (r:(List aa)×Int) (v1:List ab) (v3:Int) (v13:List aw) (v14 v21:List Int) (m3:Nat) (L3:Int→Int→(List aa)→Option ((List aa)×Int)):Prop:=∀ {v81 v82:Int} {v83:List aa},L3 v81 v82 v83=some r→LP (fb M w0) (q71 M w0 r) [.b 2,aS c6] (cat Try.f71 p71_1) m3 (s71_l5 v1 v3 v13 v14 v21 v81 v82 v83)
abbrev H71_4 (M:Nat→Prop) (w0:Base) (r:(List aa)×Int) (v1:List ab) (v3:Int) (v13:List aw) (v14 v21:List Int) (v81 v82:Int) (v83:List aa) (v85:Int) (m3 m4:Nat) (L4:Int→Int→Int→Option ((List aa)×Int)):Prop:=∀ {v88 v89 v90:Int},L4 v88 v89 v90=some r→LP (fb M w0) (q71 M w0 r) [.b 4,aS p71_7,.b 3,aS dI,dd M w0 r m3,.b 2,aS c6] (cat Try.f71 p71_8) m4 (s71_l3 v1 v3 v13 v14 v21 v81 v82 v83 v85 v88 v89 v90)
abbrev H71_5 (M:Nat→Prop) (w0:Base) (r:(List aa)×Int) (v1:List ab) (v3:Int) (v13:List aw) (v14 v21:List Int) (v81 v82 v85 v88:Int) (v91:List Int) (m3 m5:Nat) (L5:Int→Int→Int→(List aa)→Option ((List aa)×Int)):Prop:=∀ {v99 v100 v101:Int} {v102:List aa},L5 v99 v100 v101 v102=some r→LP (fb M w0) (q71 M w0 r) [.b 6,aS ji,.b 3,aS dI,dd M w0 r m3,.b 2,aS c6] (cat Try.f71 p71_6) m5 (s71_l4 v1 v3 v13 v14 v21 v81 v82 v85 v88 v91 v99 v100 v101 v102)
variable {K:Kn} {n:Nat} {M:Nat→Prop} {w0:Base} {r:(List aa)×Int} {v1:List ab} {v2:Bool} {v3 v12:Int} {v13:List aw} {v14 v15 v21:List Int} {v81 v82:Int} {v83:List aa} {v85 v88 v89 v90:Int} {v91:List Int} {v99 v100 v101:Int} {v102:List aa} {m2:Nat} {L2:Int→(List aw)→(List Int)→(List Int)→Option ((List aa)×Int)} {m3:Nat} {L3:Int→Int→(List aa)→Option ((List aa)×Int)} {m4:Nat} {L4:Int→Int→Int→Option ((List aa)×Int)} {m5:Nat} {L5:Int→Int→Int→(List aa)→Option ((List aa)×Int)}
theorem yY (hK:KnOk K) (hL3:pL M w0 r v1 v3 v13 v14 v21 m3 L3) (hL5:H71_5 M w0 r v1 v3 v13 v14 v21 v81 v82 v85 v88 v91 m3 m5 L5) (h:sn K n v1 v3 v13 v14 v21 v81 v82 v85 v88 v91 L3 L5 v99 v100 v101 v102=some r):VE (fb M w0) (q71 M w0 r) [aS p71_6,mJ M w0 r m3 m5,.b 6,aS ji,.b 3,aS dI,dd M w0 r m3,.b 2,aS c6] .normal (s71_l4 v1 v3 v13 v14 v21 v81 v82 v85 v88 v91 v99 v100 v101 v102):=by
  unfold sn at h
  refine ac (ks':=[aS p71_9,aS p71_10,mJ M w0 r m3 m5,.b 6,aS ji,.b 3,aS dI,dd M w0 r m3,.b 2,aS c6]) 3 ?_
  rcases ao h with ⟨h157,h⟩ | ⟨h157,h⟩
  ·
   refine ak 112 h157 (ac (ks':=[aS p71_11,aS p71_12,.b 7,aS ru,mJ M w0 r m3 m5,.b 6,aS ji,.b 3,aS dI,dd M w0 r m3,.b 2,aS c6]) 5 (bL [0,2,8,9,12,13,14,15,16,17,20,21,22,23] [] [1068,1108,2009,2013] ?_))
   obtain ⟨h158,h⟩:=aq h
   obtain ⟨h159,h⟩:=aq h
   obtain ⟨v103,h160,h⟩:=bind_some h
   obtain ⟨v104,h161,h⟩:=bind_some h
   refine bm 1 (nu 115 [.sl (lm aB v1),iI v101,.cptr (ax (gD v1 v101)),.agg (ax (gD v1 v101)),.ref 1108,iI v101,iI v85,iI (w64 (v101 - v85)),.eptr 1108 1 (((w64 (v101 - v85))).toNat) 0,iI (gD v91 ((w64 (v101 - v85)))),.agg (ax v103),iI v3,.agg (List.set (az ({ v104 with Kids:=[] }:aa)) 66 (.ref 127))]++nu 24 [.ptr 24 0]) [(24,List.set (az bv) 66 (.nils))] [(127,⟨67,67,lm au v104.Kids⟩)] [stp Try.prog 172 Try.f71 p71_11 14] (am (vz 2) (d_v (bF aB ax h158 (cj) (b9)) (am (vz 5) (d_v (aN 1108 1 (eInt .i64) (L:=v91) h159) (d_v (aJ 3 0 (eInt .i64) (eInt .i64) (aH h159).2 (fun _=>rfl)) (aj (e_c 0 1 125 (z5 hK h160)) (am [.v 0 1] (aj (e_o 0 1 127 (uU hK h161) (f0 (i:=66) (by kernel_rfl))) (aj (e_a 0 1 67 24 (List.set (az bv) 66 (.nils))) (aj (e_d 0) bk)))))))))) (ac (ks':=[aS p71_14,aS p71_15,.b 7,aS ru,mJ M w0 r m3 m5,.b 6,aS ji,.b 3,aS dI,dd M w0 r m3,.b 2,aS c6]) 3 (ai 3 ?_))
   obtain ⟨v105,h162,h⟩:=bind_some h
   refine aC (lj hK h162) (ae (ac (ks':=[aS p71_16,aS p71_17,.b 7,aS ru,mJ M w0 r m3 m5,.b 6,aS ji,.b 3,aS dI,dd M w0 r m3,.b 2,aS c6]) 1 (bL [0,2,8,9,12,13,14,15,16,17,20,21,22,23,24] [24] [127,1068,1108,2009,2013] (ve_f 127 ?_))))
   obtain ⟨v107,h164,h⟩:=bind_some h
   obtain ⟨v108,h165,h⟩:=bind_some h
   refine bm 1 (nu 139 [iI v100,.ptr 24 61,.agg (bH v104.Before),iI v107,.ptr 24 5,iI v104.H,iI (w64 (v107+v104.H)),.agg (az ({ v104 with X:=(w64 (v104.X+v99)),Y:=(w64 (v81+v105)) }:aa)),iI v108,iI (w64 ((w64 (v107+v104.H))+v108)),iI (max v100 (w64 ((w64 (v107+v104.H))+v108)))]) [] [] [stp Try.prog 172 Try.f71 p71_16 11] (am (vz 3) (aj (e_c 0 1 142 (lj hK h164)) (am (vz 4) (aj (e_c 0 1 147 (wP hK h165)) (am (vz 2) (aj (e_d 0) bk)))))) ?_
   obtain ⟨v109,h166,h⟩:=bind_some h
   have h166:=Option.some.inj h166
   refine aU (ks':=[aS p71_18,aS p71_19,.b 7,aS ru,mJ M w0 r m3 m5,.b 6,aS ji,.b 3,aS dI,dd M w0 r m3,.b 2,aS c6]) 1 ⟨[(0,.sl (lm aB v1)),(2,iI v3),(8,.sl (lm aF v13)),(9,.ref 2009),(12,.ref 1068),(13,.ref 2013),(14,iI v81),(15,iI v82),(16,iI v85),(17,iI v88),(20,.ref 1108),(21,iI v99),(22,iI v109),(23,iI v101),(24,.ptr 24 0)],[(24,az ({ v104 with X:=(w64 (v104.X+v99)),Y:=(w64 (v81+v105)) }:aa))],[(1068,⟨3,1,lm (eInt .i64) (v21++[(v1.length:Int)])⟩),(1108,⟨3,1,lm (eInt .i64) v91⟩),(2009,⟨3,1,lm (eInt .i64) v14⟩),(2013,⟨67,67,lm au v102⟩)],[24,1068,1108,2009,2013]⟩ ?_ (by subst h166; kernel_rfl)
   obtain ⟨h167,h⟩:=aq h
   obtain ⟨h168,h⟩:=aq h
   refine bm 1 (nu 150 [iI v99,.ref 1108,iI v101,iI v85,iI (w64 (v101 - v85)),.eptr 1108 1 (((w64 (v101 - v85))).toNat) 0,iI (gD v91 ((w64 (v101 - v85)))),.ref 2009,iI v101,.eptr 2009 1 (v101.toNat) 0,iI (gD v14 v101),iI (w64 ((gD v91 ((w64 (v101 - v85))))+(gD v14 v101))),iI (w64 (v99+(w64 ((gD v91 ((w64 (v101 - v85))))+(gD v14 v101)))))]) [] [] [stp Try.prog 172 Try.f71 p71_18 13] (am (vz 5) (d_v (aN 1108 1 (eInt .i64) (L:=v91) h167) (d_v (aJ 3 0 (eInt .i64) (eInt .i64) (aH h167).2 (fun _=>rfl)) (am (vz 2) (d_v (aN 2009 1 (eInt .i64) (L:=v14) h168) (d_v (aJ 3 0 (eInt .i64) (eInt .i64) (aH h168).2 (fun _=>rfl)) (am (vz 2) (aj (e_d 0) bk)))))))) ?_
   obtain ⟨v110,h169,h⟩:=bind_some h
   have h169:=Option.some.inj h169
   refine aU (ks':=[aS p71_19,.b 7,aS ru,mJ M w0 r m3 m5,.b 6,aS ji,.b 3,aS dI,dd M w0 r m3,.b 2,aS c6]) 0 ⟨[(0,.sl (lm aB v1)),(2,iI v3),(8,.sl (lm aF v13)),(9,.ref 2009),(12,.ref 1068),(13,.ref 2013),(14,iI v81),(15,iI v82),(16,iI v85),(17,iI v88),(20,.ref 1108),(21,iI v110),(22,iI v109),(23,iI v101),(24,.ptr 24 0)],[(24,az ({ v104 with X:=(w64 (v104.X+v99)),Y:=(w64 (v81+v105)) }:aa))],[(1068,⟨3,1,lm (eInt .i64) (v21++[(v1.length:Int)])⟩),(1108,⟨3,1,lm (eInt .i64) v91⟩),(2009,⟨3,1,lm (eInt .i64) v14⟩),(2013,⟨67,67,lm au v102⟩)],[24,1068,1108,2009,2013]⟩ ?_ (by subst h169; kernel_rfl)
   refine ai 2 (ap (dN au ([({ v104 with X:=(w64 (v104.X+v99)),Y:=(w64 (v81+v105)) }:aa)]:List aa) (new:=[az ({ v104 with X:=(w64 (v104.X+v99)),Y:=(w64 (v81+v105)) }:aa)]) (by simp only [List.map_cons,List.map_nil,cp])) ?_)
   obtain ⟨h170,h⟩:=aq h
   exact ap (cb 166 2013 67 67 au (rfl) (dR) h170) (ae (ag 2 (aY (hL5 h))))
  ·
   exact ak 112 h157 (ag 8 (aY (hL3 h)))
theorem Bu (hK:KnOk K) (hL3:pL M w0 r v1 v3 v13 v14 v21 m3 L3) (m:Nat):H71_5 M w0 r v1 v3 v13 v14 v21 v81 v82 v85 v88 v91 m3 m (ne K n v1 v3 v13 v14 v21 v81 v82 v85 v88 v91 L3 m):=by
  induction m with
 | zero=>intro v99 v100 v101 v102 h; cases h
 | succ m ih=>intro v99 v100 v101 v102 h; have h:sn K n v1 v3 v13 v14 v21 v81 v82 v85 v88 v91 L3 (ne K n v1 v3 v13 v14 v21 v81 v82 v85 v88 v91 L3 m) v99 v100 v101 v102=some r:=h; exact aR (yY hK hL3 ih h)
theorem A6 (hK:KnOk K) (hL3:pL M w0 r v1 v3 v13 v14 v21 m3 L3) (hL4:H71_4 M w0 r v1 v3 v13 v14 v21 v81 v82 v83 v85 m3 m4 L4) (h:sA K n v1 v3 v13 v14 v21 v81 v82 v83 v85 L3 L4 v88 v89 v90=some r):VE (fb M w0) (q71 M w0 r) [aS p71_8,k71_4 M w0 r m3 m4,.b 4,aS p71_7,.b 3,aS dI,dd M w0 r m3,.b 2,aS c6] .normal (s71_l3 v1 v3 v13 v14 v21 v81 v82 v83 v85 v88 v89 v90):=by
  unfold sA at h
  refine ac (ks':=[aS p71_20,aS p71_21,k71_4 M w0 r m3 m4,.b 4,aS p71_7,.b 3,aS dI,dd M w0 r m3,.b 2,aS c6]) 3 ?_
  rcases ao h with ⟨h140,h⟩ | ⟨h140,h⟩
  ·
   refine ak 94 h140 (ac (ks':=[aS p71_22,.b 5,aS p71_23,k71_4 M w0 r m3 m4,.b 4,aS p71_7,.b 3,aS dI,dd M w0 r m3,.b 2,aS c6]) 4 (ai 3 ?_))
   obtain ⟨h141,h⟩:=aq h
   exact ap (bK 2009 1 (eInt .i64) h141) (ap (aJ 3 0 (eInt .i64) (eInt .i64) (aH h141).2 (fun _=>rfl)) (ae (ag 2 (aY (hL4 h)))))
  ·
   refine ak 94 h140 (ac (ks':=[aS p71_24,aS p71_25,.b 3,aS dI,dd M w0 r m3,.b 2,aS c6]) 6 (ai 3 ?_))
   obtain ⟨h142,h⟩:=aq h
   refine ap (nV aF v13 v85 v88 28 (.tmp 103) (some (.tmp 104)) (some (.tmp 105)) 106 (e:=34) (sz:=5) (by kernel_rfl) (by kernel_rfl) (by kernel_rfl) (by kernel_rfl) (by kernel_rfl) (by kernel_rfl) (jv) (fun k hk=>by subst hk; kernel_rfl) h142) (aO 5 1 ?_)
   obtain ⟨v91,h143,h⟩:=bind_some h
   exact cv 1108 (vf hK h143) (df 44) (ae (ag 8 (bE (p:=p71_26) n (Bu hK hL3 n h))))
theorem ze (hK:KnOk K) (hL3:pL M w0 r v1 v3 v13 v14 v21 m3 L3) (m:Nat):H71_4 M w0 r v1 v3 v13 v14 v21 v81 v82 v83 v85 m3 m (pw K n v1 v3 v13 v14 v21 v81 v82 v83 v85 L3 m):=by
  induction m with
 | zero=>intro v88 v89 v90 h; cases h
 | succ m ih=>intro v88 v89 v90 h; have h:sA K n v1 v3 v13 v14 v21 v81 v82 v83 v85 L3 (pw K n v1 v3 v13 v14 v21 v81 v82 v83 v85 L3 m) v88 v89 v90=some r:=h; exact aR (A6 hK hL3 ih h)
theorem CX (hK:KnOk K) (hL3:pL M w0 r v1 v3 v13 v14 v21 m3 L3) (h:sD K n v1 v3 v13 v14 v21 L3 v81 v82 v83=some r):VE (fb M w0) (q71 M w0 r) [aS p71_1,dd M w0 r m3,.b 2,aS c6] .normal (s71_l5 v1 v3 v13 v14 v21 v81 v82 v83):=by
  unfold sD at h
  refine ac (ks':=[aS p71_27,aS p71_28,aS p71_29,dd M w0 r m3,.b 2,aS c6]) 2 (ai 3 (ap (br (eInt .i64) (v21++[(v1.length:Int)])) (ae ?_)))
  obtain ⟨v84,h131,h⟩:=bind_some h
  have h131:=Option.some.inj h131
  refine aU (ks':=[aS p71_28,aS p71_29,dd M w0 r m3,.b 2,aS c6]) 0 ⟨[(0,.sl (lm aB v1)),(2,iI v3),(8,.sl (lm aF v13)),(9,.ref 2009),(12,.ref 1068),(13,.ref 2013),(14,iI v81),(15,iI v82),(78,.bool v84)],[],[(1068,⟨3,1,lm (eInt .i64) (v21++[(v1.length:Int)])⟩),(2009,⟨3,1,lm (eInt .i64) v14⟩),(2013,⟨67,67,lm au v83⟩)],[1068,2009,2013]⟩ ?_ (by subst h131; kernel_rfl)
  rcases ao h with ⟨h132,h⟩ | ⟨h132,h⟩
  ·
   refine ak 78 h132 (ac (ks':=[aS p71_30,aS p71_31,.b 3,aS dI,dd M w0 r m3,.b 2,aS c6]) 5 (ai 2 ?_))
   obtain ⟨h133,h⟩:=aq h
   refine ap (bK 1068 1 (eInt .i64) h133) (ap (aJ 3 0 (eInt .i64) (eInt .i64) (aH h133).2 (fun _=>rfl)) (ae ?_))
   obtain ⟨v85,h134,h⟩:=bind_some h
   have h134:=Option.some.inj h134
   refine aU (ks':=[aS p71_32,aS p71_33,.b 3,aS dI,dd M w0 r m3,.b 2,aS c6]) 1 ⟨[(0,.sl (lm aB v1)),(2,iI v3),(8,.sl (lm aF v13)),(9,.ref 2009),(12,.ref 1068),(13,.ref 2013),(14,iI v81),(15,iI v82),(16,iI v85)],[],[(1068,⟨3,1,lm (eInt .i64) (v21++[(v1.length:Int)])⟩),(2009,⟨3,1,lm (eInt .i64) v14⟩),(2013,⟨67,67,lm au v83⟩)],[1068,2009,2013]⟩ ?_ (by subst h134; kernel_rfl)
   refine ai 3 ?_
   obtain ⟨h135,h⟩:=aq h
   exact ap (bK 1068 1 (eInt .i64) h135) (ap (aJ 3 0 (eInt .i64) (eInt .i64) (aH h135).2 (fun _=>rfl)) (ae (ag 6 (bE (p:=p71_34) n (ze hK hL3 n h)))))
  ·
   refine ak 78 h132 (aM 8 ?_)
   cases h
   exact eH
theorem AQ (hK:KnOk K) (m:Nat):pL M w0 r v1 v3 v13 v14 v21 m (kE K n v1 v3 v13 v14 v21 m):=by
  induction m with
 | zero=>intro v81 v82 v83 h; cases h
 | succ m ih=>intro v81 v82 v83 h; have h:sD K n v1 v3 v13 v14 v21 (kE K n v1 v3 v13 v14 v21 m) v81 v82 v83=some r:=h; exact aR (CX hK ih h)
theorem vx (hK:KnOk K) (h:j9 K n v1 v3 v13 v14 v21=some r):VE (fb M w0) (q71 M w0 r) [aS p71_35] .normal (s71_j2 v1 v3 v13 v14 v21):=by
  unfold j9 at h
  refine ac (ks':=[aS p71_36,aS p71_37]) 1 (ai 2 (ap (br aB v1) (aO 4 1 ?_)))
  obtain ⟨h39,h⟩:=aq h
  exact ap (cb 73 1068 3 1 (eInt .i64) (rfl) (fun _=>rfl) h39) (ae (ac (ks':=[aS p71_38,.b 2,aS c6]) 8 (ve_f 2008 (cw 2013 13 67 67 (ag 0 (bE (p:=p71_38) n (AQ hK n h)))))))
theorem AU (hK:KnOk K) (hL2:H71_2 M w0 r v1 v2 v3 m2 L2) (h:rQ K n v1 v2 v3 L2 v12 v13 v14 v15=some r):VE (fb M w0) (q71 M w0 r) [aS p71_3,k71_2 M w0 r m2,.b 0,aS mj] .normal (s71_l1 v1 v2 v3 v12 v13 v14 v15):=by
  unfold rQ at h
  refine ac (ks':=[aS p71_39,aS p71_40,aS p71_41,k71_2 M w0 r m2,.b 0,aS mj]) 2 (ai 2 (ap (br aB v1) (ae ?_)))
  rcases ao h with ⟨h25,h⟩ | ⟨h25,h⟩
  ·
   refine ak 28 h25 (ac (ks':=[aS p71_42,aS p71_43,.b 1,aS p71_44,k71_2 M w0 r m2,.b 0,aS mj]) 5 (ai 3 ?_))
   obtain ⟨h26,h⟩:=aq h
   refine ap (bF aB ax h26 (cj) (b9)) (aO 6 2 ?_)
   obtain ⟨v16,h27,h⟩:=bind_some h
   refine aC (g_ref19_item_ok hK h27) (aO 8 1 ?_)
   obtain ⟨h28,h⟩:=aq h
   refine ap (cb 39 2008 34 5 aF (rfl) (jv) h28) (ae (ac (ks':=[aS p71_45,aS p71_46,.b 1,aS p71_44,k71_2 M w0 r m2,.b 0,aS mj]) 1 (ai 3 ?_)))
   obtain ⟨h29,h⟩:=aq h
   refine ap (bF aB ax h29 (cj) (b9)) (aO 7 3 ?_)
   obtain ⟨v17,h30,h⟩:=bind_some h
   refine aC (sr hK h30) ?_
   obtain ⟨v18,h31,h⟩:=bind_some h
   refine aC (qN hK h31) (aO 10 1 ?_)
   obtain ⟨h32,h⟩:=aq h
   refine ap (cb 50 2009 3 1 (eInt .i64) (rfl) (fun _=>rfl) h32) (ae (bL [0,1,2,8,9,10,11] [] [2008,2009,2010] ?_))
   obtain ⟨h33,h⟩:=aq h
   obtain ⟨v19,h34,h⟩:=bind_some h
   obtain ⟨h35,h⟩:=aq h
   obtain ⟨h36,h⟩:=aq h
   exact bm 2 (nu 51 [.ref 2010,.ref 2008,iI v12,.eptr 2008 5 (v12.toNat) 0,.agg (aF (gD (v13++[v16]) v12)),iI v19,.ref 2009,iI v12,.eptr 2009 1 (v12.toNat) 0,iI (gD (v14++[v18]) v12),iI (w64 (v19+(gD (v14++[v18]) v12))),.sl (lm (eInt .i64) [(w64 (v19+(gD (v14++[v18]) v12)))])]) [] [] [appS 63 2010 ⟨3,1,lm (eInt .i64) (v15++[(w64 (v19+(gD (v14++[v18]) v12)))])⟩,stp Try.prog 172 Try.f71 p71_46 13] (am [.v 0 1,.v 0 2,.v 0 2] (aj (k_v (lo:=0) (k:=2) (bP ⟨(by kernel_rfl),(bQ (aN 2008 5 aF (L:=(v13++[v16])) h33) (by kernel_rfl))⟩ (bP ⟨(by kernel_rfl),(bQ (aN 2008 5 aF (L:=(v13++[v16])) h33) (by kernel_rfl))⟩ cF))) (aj (k_v (lo:=0) (k:=2) (bP ⟨(by kernel_rfl),(bQ (aJ 34 0 aF aF (aH h33).2 (fun _=>rfl)) (by kernel_rfl))⟩ (bP ⟨(by kernel_rfl),(bQ (aJ 34 0 aF aF (aH h33).2 (fun _=>rfl)) (by kernel_rfl))⟩ cF))) (aj (e_c 0 1 56 (uS hK h34)) (am [.v 0 2,.v 0 2] (aj (k_v (lo:=0) (k:=2) (bP ⟨(by kernel_rfl),(bQ (aN 2009 1 (eInt .i64) (L:=(v14++[v18])) h35) (by kernel_rfl))⟩ (bP ⟨(by kernel_rfl),(bQ (aN 2009 1 (eInt .i64) (L:=(v14++[v18])) h35) (by kernel_rfl))⟩ cF))) (aj (k_v (lo:=0) (k:=2) (bP ⟨(by kernel_rfl),(bQ (aJ 3 0 (eInt .i64) (eInt .i64) (aH h35).2 (fun _=>rfl)) (by kernel_rfl))⟩ (bP ⟨(by kernel_rfl),(bQ (aJ 3 0 (eInt .i64) (eInt .i64) (aH h35).2 (fun _=>rfl)) (by kernel_rfl))⟩ cF))) (am [.v 0 2,.v 0 1] (aj (e_s (m:=0) (cb 63 2010 3 1 (eInt .i64) (rfl) (fun _=>rfl) h36)) (aj (e_d 1) bk)))))))))) (ag 2 (aY (hL2 h)))
  ·
   refine ak 28 h25 (ac (ks':=[aS p71_47,aS p71_48]) 6 (ai 0 (ot_bsn 22 1 #[(0,(.const (.int .i64 0)))] 64 (e:=3) (sz:=1) (l:=lm (eInt .i64) ([0]:List Int)) (ae (ac (ks':=[aS p71_49,aS p71_35]) 3 ?_)))))
   rcases ao h with ⟨h37,h⟩ | ⟨h37,h⟩
   ·
    refine ak 65 h37 (ac (ks':=[aS p71_50,aS p71_35]) 1 (ai 2 (c9 2010 ?_)))
    obtain ⟨v20,h38,h⟩:=bind_some h
    exact cv 1068 (g_ref19_Wrap_ok hK h38) (df 29) (ae (ag 0 (vx hK h)))
   ·
    exact ak 65 h37 (ac (ks':=[aS p71_35]) 2 (kN 64 1068 (ag 0 (vx hK h))))
theorem B6 (hK:KnOk K) (m:Nat):H71_2 M w0 r v1 v2 v3 m (pg K n v1 v2 v3 m):=by
  induction m with
 | zero=>intro v12 v13 v14 v15 h; cases h
 | succ m ih=>intro v12 v13 v14 v15 h; have h:rQ K n v1 v2 v3 (pg K n v1 v2 v3 m) v12 v13 v14 v15=some r:=h; exact aR (AU hK ih h)
theorem g_ref19_row_ok (hK:KnOk K) (h:oz K n v1 v2 v3=some r):ACalls Try.prog 71 [.sl (lm aB v1),.bool v2,iI v3] (fun v s=>v = .tup [.ref 2013,iI r.2]∧look 2013 s.r=some ⟨67,67,lm au r.1⟩):=by
  refine bj (cat Try.f71 []) Try.func71 Try.ntmps71 fun M w0=>(bb ⟨[(0,.sl (lm aB v1)),(1,.bool v2),(2,iI v3)],[],[],[]⟩ ?_)
  unfold oz at h
  exact ac (ks':=[aS p71_51,.b 0,aS mj]) 10 (cw 2008 8 34 5 (cw 2009 9 3 1 (cw 2010 10 3 1 (ag 0 (bE (p:=p71_51) n (B6 hK n h))))))
end
def nk:=pth 16 1
def p33_1:=pth 15 10100
def qf:=pth 8 1
def p33_3:=pth 7 10100
def p33_4:=pth 15 1010000
def p33_5:=pth 15 1010001
def p33_6:=pth 15 101001
def p33_7:=pth 15 101001000
def p33_8:=pth 15 101001001
def p33_9:=pth 15 1010011
def p33_10:=pth 15 10100100111
def p33_11:=pth 14 1
def p33_12:=pth 15 1010
def p33_13:=pth 13 1
def p33_14:=pth 13 101
def p33_15:=pth 7 1010000
def p33_16:=pth 7 1010001
def p33_17:=pth 7 101001
def p33_18:=pth 7 10100100
def p33_19:=pth 7 1010011
def p33_20:=pth 9 10
def p33_21:=pth 10 1
def p33_22:=pth 12 101
def p33_23:=pth 12 1010
def p33_24:=pth 12 1011
def p33_25:=pth 0 11110
def p33_26:=pth 0 11111
def p33_27:=pth 5 10
def p33_28:=pth 6 1
def p33_29:=pth 7 1010
noncomputable section
abbrev j7 (M:Nat→Prop) (w0:Base):Cx:=⟨Try.prog,169,M,w0⟩
abbrev q33 (M:Nat→Prop) (w0:Base) (r:aa):=bodyPost Try.prog Try.f33 (RetQ M w0 (fun v s=>v = .agg (List.set (az ({ r with Kids:=[] }:aa)) 66 (.ref 166))∧look 166 s.r=some ⟨67,67,lm au r.Kids⟩))
abbrev bW (p:List Nat):Kont:=.c (cat Try.f33 p)
abbrev k33_2 (M:Nat→Prop) (w0:Base) (r:aa) (m2:Nat):Kont:=kl (j7 M w0) (q33 M w0 r) [.b 2,bW nk] (cat Try.f33 p33_1) m2
abbrev k33_1 (M:Nat→Prop) (w0:Base) (r:aa) (m1:Nat):Kont:=kl (j7 M w0) (q33 M w0 r) [.b 0,bW qf] (cat Try.f33 p33_3) m1
def s33_l4 (v1:ab) (v3:ay) (v4 v5:ah) (v6:Int) (v14:List aa) (v32 v33:Int) (v34:List aa):AS:=⟨[(4,.ptr 4 0),(6,.ptr 6 0),(7,.ptr 7 0),(13,.ref 1093),(15,iI v32)],[(4,List.set (az bv) 66 (.nils)),(6,bh v3),(7,List.set (az (⟨1,v1.Node,v3.Margin.a3,0,v6,v33,0,⟨#[]⟩,v1.Style,v4,v5,false,[]⟩:aa)) 66 (.ref 166))],[(166,⟨67,67,lm au v34⟩),(1093,⟨67,67,lm au v14⟩)],[4,6,7,166,1093]⟩
def s33_j3 (v1:ab) (v3:ay) (v4 v5:ah) (v6:Int) (v14:List aa) (v15:Int):AS:=⟨[(4,.ptr 4 0),(6,.ptr 6 0),(7,.ptr 7 0),(12,iI v15),(13,.ref 1093)],[(4,List.set (az bv) 66 (.nils)),(6,bh v3),(7,List.set (az (⟨1,v1.Node,v3.Margin.a3,0,v6,0,0,⟨#[]⟩,v1.Style,v4,v5,false,[]⟩:aa)) 66 (.nils))],[(1093,⟨67,67,lm au v14⟩)],[4,6,7,1093]⟩
def s33_j2 (v1:ab) (v3:ay) (v4 v5:ah) (v6 v10 v13:Int) (v14:List aa):AS:=⟨[(4,.ptr 4 0),(6,.ptr 6 0),(7,.ptr 7 0),(11,.bool (v1.Style.Height.Kind == 1)),(12,iI (max v10 0)),(13,.ref 1093),(14,iI v13)],[(4,List.set (az bv) 66 (.nils)),(6,bh v3),(7,List.set (az (⟨1,v1.Node,v3.Margin.a3,0,v6,0,0,⟨#[]⟩,v1.Style,v4,v5,false,[]⟩:aa)) 66 (.nils))],[(1093,⟨67,67,lm au v14⟩)],[4,6,7,1093]⟩
def s33_l1 (v1:ab) (v3:ay) (v4 v5:ah) (v6:Int) (v7:List Int) (v8:Int) (v9:List ab):AS:=⟨[(2,.ptr 2 0),(4,.ptr 4 0),(5,.ptr 5 0),(6,.ptr 6 0),(7,.ptr 7 0),(8,.ref 1058),(9,.ref 75),(10,iI v8)],[(2,ax v1),(4,List.set (az bv) 66 (.nils)),(5,aL v1.Style),(6,bh v3),(7,List.set (az (⟨1,v1.Node,v3.Margin.a3,0,v6,0,0,⟨#[]⟩,v1.Style,v4,v5,false,[]⟩:aa)) 66 (.nils))],[(75,⟨50,59,lm aB v9⟩),(1058,⟨3,1,lm (eInt .i64) v7⟩)],[2,4,5,6,7,75,1058]⟩
abbrev H33_1 (M:Nat→Prop) (w0:Base) (r:aa) (v1:ab) (v3:ay) (v4 v5:ah) (v6:Int) (v7:List Int) (m1:Nat) (L1:Int→(List ab)→Option aa):Prop:=∀ {v8:Int} {v9:List ab},L1 v8 v9=some r→LP (j7 M w0) (q33 M w0 r) [.b 0,bW qf] (cat Try.f33 p33_3) m1 (s33_l1 v1 v3 v4 v5 v6 v7 v8 v9)
abbrev H33_2 (M:Nat→Prop) (w0:Base) (r:aa) (v1:ab) (v3:ay) (v4 v5:ah) (v6:Int) (v14:List aa) (m2:Nat) (L2:Int→Int→(List aa)→Option aa):Prop:=∀ {v32 v33:Int} {v34:List aa},L2 v32 v33 v34=some r→LP (j7 M w0) (q33 M w0 r) [.b 2,bW nk] (cat Try.f33 p33_1) m2 (s33_l4 v1 v3 v4 v5 v6 v14 v32 v33 v34)
variable {K:Kn} {n:Nat} {M:Nat→Prop} {w0:Base} {r:aa} {v1:ab} {v2:Int} {v3:ay} {v4 v5:ah} {v6:Int} {v7:List Int} {v8:Int} {v9:List ab} {v10 v13:Int} {v14:List aa} {v15 v32 v33:Int} {v34:List aa} {m1:Nat} {L1:Int→(List ab)→Option aa} {m2:Nat} {L2:Int→Int→(List aa)→Option aa}
theorem zm (hK:KnOk K) (hL2:H33_2 M w0 r v1 v3 v4 v5 v6 v14 m2 L2) (h:sq K n v1 v3 v4 v5 v6 v14 L2 v32 v33 v34=some r):VE (j7 M w0) (q33 M w0 r) [bW p33_1,k33_2 M w0 r m2,.b 2,bW nk] .normal (s33_l4 v1 v3 v4 v5 v6 v14 v32 v33 v34):=by
  unfold sq at h
  refine ac (ks':=[bW p33_4,bW p33_5,bW p33_6,k33_2 M w0 r m2,.b 2,bW nk]) 2 (ai 2 (ap (br au v14) (ae ?_)))
  rcases ao h with ⟨h45,h⟩ | ⟨h45,h⟩
  ·
   refine ak 130 h45 (ac (ks':=[bW p33_7,bW p33_8,.b 3,bW p33_9,k33_2 M w0 r m2,.b 2,bW nk]) 5 (ai 2 ?_))
   obtain ⟨h46,h⟩:=aq h
   refine ap (bK 1093 67 au h46) (ap (aJ 67 0 au az (aH h46).2 (cp)) (ae ?_))
   obtain ⟨v35,h47,h⟩:=bind_some h
   have h47:=Option.some.inj h47
   obtain ⟨v36,h48,h⟩:=bind_some h
   have h48:=Option.some.inj h48
   refine aU (ks':=[bW p33_10,.b 3,bW p33_9,k33_2 M w0 r m2,.b 2,bW nk]) 4 ⟨[(4,.ptr 4 0),(6,.ptr 6 0),(7,.ptr 7 0),(13,.ref 1093),(15,iI v32),(16,.ptr 16 0)],[(4,List.set (az bv) 66 (.nils)),(6,bh v3),(7,List.set (az (⟨1,v1.Node,v3.Margin.a3,0,v6,v33,0,⟨#[]⟩,v1.Style,v4,v5,false,[]⟩:aa)) 66 (.ref 166)),(16,az ({ (gD v14 v32) with X:=v35,Y:=v36 }:aa))],[(166,⟨67,67,lm au v34⟩),(1093,⟨67,67,lm au v14⟩)],[4,6,7,16,166,1093]⟩ ?_ (by subst h48; subst h47; kernel_rfl)
   obtain ⟨v37,h49,h⟩:=bind_some h
   obtain ⟨h50,h⟩:=aq h
   exact bm 2 (nu 159 [.ptr 7 66,.ref 166,.agg (az ({ (gD v14 v32) with X:=v35,Y:=v36 }:aa)),.ptr 6 12,iI v3.Content,.agg (az v37),.sl (lm au [v37])]++nu 167 [.ptr 7 66]) [] [] [appS 166 166 ⟨67,67,lm au (v34++[v37])⟩,stp Try.prog 169 Try.f33 p33_10 9] (am [.v 0 2,.v 0 1,.v 0 2,.v 0 2,.v 0 2] (aj (e_c 0 1 164 (xT hK h49)) (d_v (dN au ([v37]:List aa) (new:=[az v37]) (by simp only [List.map_cons,List.map_nil,cp])) (aj (e_s (m:=0) (cb 166 166 67 67 au (rfl) (dR) h50)) (am [.v 1 1] (aj (e_d 1) bk)))))) (ag 2 (aY (hL2 h)))
  ·
   refine ak 130 h45 (aM 8 ?_)
   cases h
   exact cP
theorem Cb (hK:KnOk K) (m:Nat):H33_2 M w0 r v1 v3 v4 v5 v6 v14 m (pu K n v1 v3 v4 v5 v6 v14 m):=by
  induction m with
 | zero=>intro v32 v33 v34 h; cases h
 | succ m ih=>intro v32 v33 v34 h; have h:sq K n v1 v3 v4 v5 v6 v14 (pu K n v1 v3 v4 v5 v6 v14 m) v32 v33 v34=some r:=h; exact aR (zm hK ih h)
theorem wF (hK:KnOk K) (h:oT K n v1 v3 v4 v5 v6 v14 v15=some r):VE (j7 M w0) (q33 M w0 r) [bW p33_11] .normal (s33_j3 v1 v3 v4 v5 v6 v14 v15):=by
  unfold oT at h
  exact ac (ks':=[bW p33_12,.b 2,bW nk]) 6 (ve_wo 166 7 66 67 67 (ag 0 (bE (p:=p33_12) n (Cb hK n h))))
theorem xI (hK:KnOk K) (h:l8 K n v1 v3 v4 v5 v6 v10 v13 v14=some r):VE (j7 M w0) (q33 M w0 r) [bW p33_13] .normal (s33_j2 v1 v3 v4 v5 v6 v10 v13 v14):=by
  unfold l8 at h
  refine ac (ks':=[bW p33_14,bW p33_11]) 3 ?_
  rcases ao h with ⟨h22,h⟩ | ⟨h22,h⟩
  ·
   exact ak 106 h22 (ag 2 (wF hK h))
  ·
   exact ak 106 h22 (ag 2 (wF hK h))
theorem Dd (hK:KnOk K) (hL1:H33_1 M w0 r v1 v3 v4 v5 v6 v7 m1 L1) (h:sh K n v1 v3 v4 v5 v6 v7 L1 v8 v9=some r):VE (j7 M w0) (q33 M w0 r) [bW p33_3,k33_1 M w0 r m1,.b 0,bW qf] .normal (s33_l1 v1 v3 v4 v5 v6 v7 v8 v9):=by
  unfold sh at h
  refine ac (ks':=[bW p33_15,bW p33_16,bW p33_17,k33_1 M w0 r m1,.b 0,bW qf]) 2 (ai 2 (ap (br (eInt .i64) v7) (ae ?_)))
  rcases ao h with ⟨h14,h⟩ | ⟨h14,h⟩
  ·
   refine ak 62 h14 (ac (ks':=[bW p33_18,.b 1,bW p33_19,k33_1 M w0 r m1,.b 0,bW qf]) 4 (bL [2,4,5,6,7,8,9,10] [2,4,5,6,7] [75,1058] ?_))
   obtain ⟨h15,h⟩:=aq h
   obtain ⟨h16,h⟩:=aq h
   obtain ⟨h17,h⟩:=aq h
   exact bm 2 (nu 65 [.ref 75,.ptr 2 58,.sl (lm aB v1.Kids),.ref 1058,iI v8,.eptr 1058 1 (v8.toNat) 0,iI (gD v7 v8),.cptr (ax (gD v1.Kids ((gD v7 v8)))),.agg (ax (gD v1.Kids ((gD v7 v8)))),.sl (lm aB [(gD v1.Kids ((gD v7 v8)))])]) [] [] [appS 75 75 ⟨50,59,lm aB (v9++[(gD v1.Kids ((gD v7 v8)))])⟩,stp Try.prog 169 Try.f33 p33_18 11] (am [.v 0 1,.v 0 2,.v 0 2,.v 0 2,.v 0 2] (aj (k_v (lo:=0) (k:=2) (bP ⟨(by kernel_rfl),(bQ (aN 1058 1 (eInt .i64) (L:=v7) h15) (by kernel_rfl))⟩ (bP ⟨(by kernel_rfl),(bQ (aN 1058 1 (eInt .i64) (L:=v7) h15) (by kernel_rfl))⟩ cF))) (aj (k_v (lo:=0) (k:=2) (bP ⟨(by kernel_rfl),(bQ (aJ 3 0 (eInt .i64) (eInt .i64) (aH h15).2 (fun _=>rfl)) (by kernel_rfl))⟩ (bP ⟨(by kernel_rfl),(bQ (aJ 3 0 (eInt .i64) (eInt .i64) (aH h15).2 (fun _=>rfl)) (by kernel_rfl))⟩ cF))) (aj (k_v (lo:=0) (k:=2) (bP ⟨(by kernel_rfl),(bQ (bF aB ax h16 (cj) (b9)) (by kernel_rfl))⟩ (bP ⟨(by kernel_rfl),(bQ (bF aB ax h16 (cj) (b9)) (by kernel_rfl))⟩ cF))) (am [.v 0 2] (d_v (dN aB ([(gD v1.Kids ((gD v7 v8)))]:List ab) (new:=[ax (gD v1.Kids ((gD v7 v8)))]) (by simp only [List.map_cons,List.map_nil,b9])) (aj (e_s (m:=0) (cb 75 75 50 59 aB (rfl) (cj) h17)) (aj (e_d 1) bk)))))))) (ag 2 (aY (hL1 h)))
  ·
   refine ak 62 h14 (ac (ks':=[bW p33_20,bW p33_21]) 8 (ai 2 ?_))
   obtain ⟨v10,h18,h⟩:=bind_some h
   refine aC (oU hK h18) (ae (ac (ks':=[bW p33_22,bW p33_13]) 7 ?_))
   rcases ao h with ⟨h19,h⟩ | ⟨h19,h⟩
   ·
    refine ak 86 h19 (ac (ks':=[bW p33_23,bW p33_13]) 1 (ai 5 (c9 75 ?_)))
    obtain ⟨v11,h20,h⟩:=bind_some h
    exact cv 1093 (yR hK h20) (px (i:=0) rfl) (ae (ag 0 (xI hK h)))
   ·
    refine ak 86 h19 (ac (ks':=[bW p33_24,bW p33_13]) 1 (ai 5 (c9 75 ?_)))
    obtain ⟨v12,h21,h⟩:=bind_some h
    exact cv 1102 (g_ref19_row_ok hK h21) (px (i:=0) rfl) (ae (kN 1102 1093 (ag 0 (xI hK h))))
theorem yS (hK:KnOk K) (m:Nat):H33_1 M w0 r v1 v3 v4 v5 v6 v7 m (qi K n v1 v3 v4 v5 v6 v7 m):=by
  induction m with
 | zero=>intro v8 v9 h; cases h
 | succ m ih=>intro v8 v9 h; have h:sh K n v1 v3 v4 v5 v6 v7 (qi K n v1 v3 v4 v5 v6 v7 m) v8 v9=some r:=h; exact aR (Dd hK ih h)
theorem A9 (hK:KnOk K) (h:sP K n v1 v2=some r):ACalls Try.prog 33 [.agg (ax v1),iI v2] (fun v s=>v = .agg (List.set (az ({ r with Kids:=[] }:aa)) 66 (.ref 166))∧look 166 s.r=some ⟨67,67,lm au r.Kids⟩):=by
  refine bj (cat Try.f33 []) Try.func33 Try.ntmps33 fun M w0=>(bb ⟨[(0,.agg (ax v1)),(1,iI v2)],[],[],[]⟩ ?_)
  unfold sP at h
  refine ac (ks':=[bW [1,1,0],bW [1,1,1]]) 5 (ai 2 ?_)
  obtain ⟨v3,h1,h⟩:=bind_some h
  refine aC (xK hK h1) (ae (ac (ks':=[bW p33_25,bW p33_26]) 1 (bL [2,4,5,6] [2,4,5,6] [] ?_)))
  obtain ⟨v4,h2,h⟩:=bind_some h
  obtain ⟨v5,h3,h⟩:=bind_some h
  refine bm 1 (nu 22 [.ptr 2 1,iI v1.Node,.agg (aL v1.Style),.ptr 6 0,.ptr 6 3,iI v3.Margin.a3,.ptr 6 0,.ptr 6 0,iI v3.Margin.a0,.agg (bH v4),.ptr 6 0,.ptr 6 2,iI v3.Margin.a2,.agg (bH v5),.agg (List.set (az ({ bv with Kind:=1,Node:=v1.Node,X:=v3.Margin.a3,Style:=v1.Style,Before:=v4,After:=v5 }:aa)) 66 (.nils))]++nu 7 [.ptr 7 0]) [(7,List.set (az bv) 66 (.nils))] [] [stp Try.prog 169 Try.f33 p33_25 16] (am (vz 9) (aj (e_c 0 1 31 (tO hK h2)) (am (vz 3) (aj (e_c 0 1 35 (tO hK h3)) (am [.v 0 1] (aj (e_a 0 1 67 7 (List.set (az bv) 66 (.nils))) (aj (e_d 0) bk))))))) ?_
  obtain ⟨v6,h4,h⟩:=bind_some h
  have h4:=Option.some.inj h4
  refine aU (ks':=[bW p33_27,bW p33_28]) 3 ⟨[(2,.ptr 2 0),(4,.ptr 4 0),(5,.ptr 5 0),(6,.ptr 6 0),(7,.ptr 7 0)],[(2,ax v1),(4,List.set (az bv) 66 (.nils)),(5,aL v1.Style),(6,bh v3),(7,List.set (az (⟨1,v1.Node,v3.Margin.a3,0,v6,0,0,⟨#[]⟩,v1.Style,v4,v5,false,[]⟩:aa)) 66 (.nils))],[],[2,4,5,6,7]⟩ ?_ (by subst h4; kernel_rfl)
  refine ai 2 ?_
  obtain ⟨v7,h5,h⟩:=bind_some h
  exact cv 1058 (BP hK h5) (df 2003) (ae (ac (ks':=[bW p33_29,.b 0,bW qf]) 6 (cw 75 9 50 59 (ag 0 (bE (p:=p33_29) n (yS hK n h))))))
end
def p11_0:=pth 0 11100
def p11_1:=pth 0 11101
def p11_2:=pth 0 11110
def p11_3:=pth 0 11111
noncomputable section
variable {K:Kn} {n:Nat} {M:Nat→Prop} {w0:Base} {r:Bool} {v1:List bU} {v2:Int} 
abbrev kU (p:List Nat):Kont:=.c (cat Try.f11 p)
theorem zB (hK:KnOk K) (h:tJ K n v1 v2=some r):ACalls Try.prog 11 [.sl (lm bg v1),iI v2] (fun v _=>v = .bool r):=by
  refine bj (cat Try.f11 []) Try.func11 Try.ntmps11 fun M w0=>(bb ⟨[(0,.sl (lm bg v1)),(1,iI v2)],[],[],[]⟩ ?_)
  unfold tJ at h
  refine ac (ks':=[kU [1,0,0],kU [1,0,1],kU [1,1]]) 4 (ai 0 ?_)
  obtain ⟨v3,h1,h⟩:=bind_some h
  refine aC (g_law19_fit_ok hK h1) (ae ?_)
  rcases ao h with ⟨h2,h⟩ | ⟨h2,h⟩
  ·
   refine ak 6 h2 (aM 5 ?_)
   cases h
   exact bu
  ·
   refine ak 6 h2 (ac (ks':=[kU p11_0,kU p11_1,kU [1,1,1]]) 4 (ai 1 ?_))
   obtain ⟨v4,h3,h⟩:=bind_some h
   refine aC (g_law19_fits_ok hK h3) (ae ?_)
   rcases ao h with ⟨h4,h⟩ | ⟨h4,h⟩
   ·
    refine ak 9 h4 (aM 5 ?_)
    cases h
    exact bu
   ·
    refine ak 9 h4 (ac (ks':=[kU p11_2,kU p11_3]) 3 (ai 1 ?_))
    obtain ⟨v5,h5,h⟩:=bind_some h
    refine cv 1011 (wT hK h5) (f0 (i:=58) (by kernel_rfl)) (aO 3 1 ?_)
    obtain ⟨v6,h6,h⟩:=bind_some h
    refine aC (tZ hK h6) (c9 1011 ?_)
    obtain ⟨v7,h7,h⟩:=bind_some h
    refine cv 1014 (Ar hK h7) (f0 (i:=66) (by kernel_rfl)) (aO 6 1 ?_)
    obtain ⟨v8,h8,h⟩:=bind_some h
    refine cv 1016 (wT hK h8) (f0 (i:=58) (by kernel_rfl)) (aO 8 1 (c9 1016 ?_))
    obtain ⟨v9,h9,h⟩:=bind_some h
    refine cv 1018 (A9 hK h9) (f0 (i:=66) (by kernel_rfl)) (c9 1014 (c9 1018 ?_))
    obtain ⟨v10,h10,h⟩:=bind_some h
    refine aC (yn hK h10) (ae (aM 1 ?_))
    cases h
    exact bu
end
def p116_0:=pth 0 110100
def p116_1:=pth 0 11010010
def p116_2:=pth 0 11010011
def p116_3:=pth 0 110100110010
def p116_4:=pth 0 110100110011
def p116_5:=pth 0 110100111
def p116_6:=pth 0 11010
noncomputable section
abbrev cx116 (M:Nat→Prop) (w0:Base):Cx:=⟨Try.prog,19,M,w0⟩
abbrev q116 (M:Nat→Prop) (w0:Base) (r:Int):=bodyPost Try.prog Try.f116 (RetQ M w0 (fun v _=>v=iI r))
abbrev eR (p:List Nat):Kont:=.c (cat Try.f116 p)
abbrev k116_1 (M:Nat→Prop) (w0:Base) (r:Int) (m1:Nat):Kont:=kl (cx116 M w0) (q116 M w0 r) [.b 0,eR [1,1]] (cat Try.f116 p116_0) m1
def s116_l1 (v1:List ab) (v2:Fv) (v4:Int):AS:=⟨[(0,.sl (lm aB v1)),(1,.fn v2.id v2.caps),(7,iI (v1.length:Int)),(8,iI v4)],[],[],[]⟩
abbrev H116_1 (M:Nat→Prop) (w0:Base) (r:Int) (v1:List ab) (v2:Fv) (m1:Nat) (L1:Int→Option Int):Prop:=∀ {v4:Int},L1 v4=some r→LP (cx116 M w0) (q116 M w0 r) [.b 0,eR [1,1]] (cat Try.f116 p116_0) m1 (s116_l1 v1 v2 v4)
variable {K:Kn} {n:Nat} {M:Nat→Prop} {w0:Base} {r:Int} {v1:List ab} {v2:Fv} {v4:Int} {m1:Nat} {L1:Int→Option Int}
theorem y2 (hK:KnOk K) (hL1:H116_1 M w0 r v1 v2 m1 L1) (h:jZ K n v1 v2 L1 v4=some r):VE (cx116 M w0) (q116 M w0 r) [eR p116_0,k116_1 M w0 r m1,.b 0,eR [1,1]] .normal (s116_l1 v1 v2 v4):=by
  unfold jZ at h
  refine ac (ks':=[eR p116_1,eR p116_2,k116_1 M w0 r m1,.b 0,eR [1,1]]) 3 ?_
  rcases ao h with ⟨h5,h⟩ | ⟨h5,h⟩
  ·
   refine ak 9 h5 (ac (ks':=[eR p116_3,eR p116_4,.b 1,eR p116_5,k116_1 M w0 r m1,.b 0,eR [1,1]]) 7 (ai 3 ?_))
   obtain ⟨h6,h⟩:=aq h
   refine ap (bF aB ax h6 (cj) (b9)) (aO 5 1 ?_)
   obtain ⟨v5,h7,h⟩:=bind_some h
   refine nb (hK.fr h7) (ae ?_)
   rcases ao h with ⟨h8,h⟩ | ⟨h8,h⟩
   ·
    refine ak 16 h8 (aM 9 ?_)
    cases h
    exact bu
   ·
    exact ak 16 h8 (ag 4 (aY (hL1 h)))
  ·
   refine ak 9 h5 (aM 8 ?_)
   cases h
   exact bu
theorem C6 (hK:KnOk K) (m:Nat):H116_1 M w0 r v1 v2 m (jJ K n v1 v2 m):=by
  induction m with
 | zero=>intro v4 h; cases h
 | succ m ih=>intro v4 h; have h:jZ K n v1 v2 (jJ K n v1 v2 m) v4=some r:=h; exact aR (y2 hK ih h)
theorem Bp (hK:KnOk K) (h:mN K n v1 v2=some r):ACalls Try.prog 116 [.sl (lm aB v1),.fn v2.id v2.caps] (fun v _=>v=iI r):=by
  refine bj (cat Try.f116 []) Try.func116 Try.ntmps116 fun M w0=>(bb ⟨[(0,.sl (lm aB v1)),(1,.fn v2.id v2.caps)],[],[],[]⟩ ?_)
  unfold mN at h
  exact ac (ks':=[eR [1,0,0],eR [1,0,1],eR [1,1]]) 4 (ai 1 (ap (br aB v1) (ae (ag 1 (bE (p:=p116_6) n (C6 hK n h))))))
end
noncomputable section
variable {K:Kn} {n:Nat} {M:Nat→Prop} {w0:Base} {r:Bool} {v1:List ab} {v2:Fv} 
abbrev cF115 (p:List Nat):Kont:=.c (cat Try.f115 p)
theorem CQ (hK:KnOk K) (h:jR K n v1 v2=some r):ACalls Try.prog 115 [.sl (lm aB v1),.fn v2.id v2.caps] (fun v _=>v = .bool r):=by
  refine bj (cat Try.f115 []) Try.func115 Try.ntmps115 fun M w0=>(bb ⟨[(0,.sl (lm aB v1)),(1,.fn v2.id v2.caps)],[],[],[]⟩ ?_)
  unfold jR at h
  refine ac (ks':=[cF115 [1,0],cF115 [1,1]]) 3 (ai 2 ?_)
  obtain ⟨v3,h1,h⟩:=bind_some h
  refine aC (Bp hK h1) (ae (aM 1 ?_))
  cases h
  exact bu
end
def p106_0:=pth 0 1110100
def p106_1:=pth 0 1110100111
def p106_2:=pth 0 111010010
def p106_3:=pth 0 111010011
def p106_4:=pth 0 111010011000
def p106_5:=pth 0 111010011001
def p106_6:=pth 0 1110100110010
def p106_7:=pth 0 1110100110011
def p106_8:=pth 0 11101001100110
def p106_9:=pth 0 11110
def p106_10:=pth 0 11111
def p106_11:=pth 0 11100
def p106_12:=pth 0 11101
def p106_13:=pth 0 111010
noncomputable section
abbrev cx106 (M:Nat→Prop) (w0:Base):Cx:=⟨Try.prog,24,M,w0⟩
abbrev q106 (M:Nat→Prop) (w0:Base) (r:(List ab)×Bool):=bodyPost Try.prog Try.f106 (RetQ M w0 (fun v _=>v = .tup [.sl (lm aB r.1),.bool r.2]))
abbrev cK (p:List Nat):Kont:=.c (cat Try.f106 p)
abbrev o4 (M:Nat→Prop) (w0:Base) (r:(List ab)×Bool) (m1:Nat):Kont:=kl (cx106 M w0) (q106 M w0 r) [.b 0,cK [1,1,1]] (cat Try.f106 p106_0) m1
def s106_j1 (v1:ab) (v8:Int) (v11:List ab):AS:=⟨[(4,.ref 19),(8,.sl (lm aB v1.Kids)),(9,iI (v1.Kids.length:Int)),(10,iI v8)],[],[(19,⟨50,59,lm aB v11⟩)],[19]⟩
def s106_l2 (v1:ab) (v8:Int) (v9:List ab):AS:=⟨[(4,.ref 19),(8,.sl (lm aB v1.Kids)),(9,iI (v1.Kids.length:Int)),(10,iI v8)],[],[(19,⟨50,59,lm aB v9⟩)],[19]⟩
abbrev H106_1 (M:Nat→Prop) (w0:Base) (r:(List ab)×Bool) (v1:ab) (m1:Nat) (L1:Int→(List ab)→Option ((List ab)×Bool)):Prop:=∀ {v8:Int} {v9:List ab},L1 v8 v9=some r→LP (cx106 M w0) (q106 M w0 r) [.b 0,cK [1,1,1]] (cat Try.f106 p106_0) m1 (s106_l2 v1 v8 v9)
variable {K:Kn} {n:Nat} {M:Nat→Prop} {w0:Base} {r:(List ab)×Bool} {v1:ab} {v8:Int} {v9 v11:List ab} {m1:Nat} {L1:Int→(List ab)→Option ((List ab)×Bool)}
theorem vj (hK:KnOk K) (hL1:H106_1 M w0 r v1 m1 L1) (h:kB K n v1 v8 L1 v11=some r):VE (cx106 M w0) (q106 M w0 r) [.b 1,cK p106_1,o4 M w0 r m1,.b 0,cK [1,1,1]] .normal (s106_j1 v1 v8 v11):=by
  unfold kB at h
  exact ag 2 (aY (hL1 h))
theorem yN (hK:KnOk K) (hL1:H106_1 M w0 r v1 m1 L1) (h:lK K n v1 L1 v8 v9=some r):VE (cx106 M w0) (q106 M w0 r) [cK p106_0,o4 M w0 r m1,.b 0,cK [1,1,1]] .normal (s106_l2 v1 v8 v9):=by
  unfold lK at h
  refine ac (ks':=[cK p106_2,cK p106_3,o4 M w0 r m1,.b 0,cK [1,1,1]]) 3 ?_
  rcases ao h with ⟨h13,h⟩ | ⟨h13,h⟩
  ·
   refine ak 11 h13 (ac (ks':=[cK p106_4,cK p106_5,.b 1,cK p106_1,o4 M w0 r m1,.b 0,cK [1,1,1]]) 5 (ai 0 ?_))
   obtain ⟨h14,h⟩:=aq h
   refine ap (bF aB ax h14 (cj) (b9)) (ae (ac (ks':=[cK p106_6,cK p106_7,.b 1,cK p106_1,o4 M w0 r m1,.b 0,cK [1,1,1]]) 1 (ai 1 ?_)))
   obtain ⟨v10,h15,h⟩:=bind_some h
   refine aC (xx hK h15) (ae ?_)
   rcases ao h with ⟨h16,h⟩ | ⟨h16,h⟩
   ·
    refine ak 15 h16 (ac (ks':=[cK p106_8,.b 1,cK p106_1,o4 M w0 r m1,.b 0,cK [1,1,1]]) 1 (ai 2 (ap (dN aB ([(gD v1.Kids v8)]:List ab) (new:=[ax (gD v1.Kids v8)]) (by simp only [List.map_cons,List.map_nil,b9])) ?_)))
    obtain ⟨h17,h⟩:=aq h
    exact ap (cb 19 19 50 59 aB (rfl) (cj) h17) (ae (ag 0 (vj hK hL1 h)))
   ·
    exact ak 15 h16 (ag 2 (vj hK hL1 h))
  ·
   refine ak 11 h13 (ac (ks':=[cK p106_9,cK p106_10]) 6 (ai 2 (c9 19 ?_)))
   obtain ⟨v12,h18,h⟩:=bind_some h
   refine aC (CQ hK h18) (ae (aM 1 ?_))
   cases h
   exact dv
theorem Dk (hK:KnOk K) (m:Nat):H106_1 M w0 r v1 m (j8 K n v1 m):=by
  induction m with
 | zero=>intro v8 v9 h; cases h
 | succ m ih=>intro v8 v9 h; have h:lK K n v1 (j8 K n v1 m) v8 v9=some r:=h; exact aR (yN hK ih h)
theorem xo (hK:KnOk K) (h:iL K n v1=some r):ACalls Try.prog 106 [.agg (ax v1)] (fun v _=>v = .tup [.sl (lm aB r.1),.bool r.2]):=by
  refine bj (cat Try.f106 []) Try.func106 Try.ntmps106 fun M w0=>(bb ⟨[(0,.agg (ax v1))],[],[],[]⟩ ?_)
  unfold iL at h
  exact ac (ks':=[cK p106_11,cK p106_12,cK [1,1,1]]) 6 (ai 2 (ap (br aB v1.Kids) (ae (ac (ks':=[cK p106_13,.b 0,cK [1,1,1]]) 1 (cw 19 4 50 59 (ag 0 (bE (p:=p106_13) n (Dk hK n h))))))))
end
noncomputable section
variable {K:Kn} {n:Nat} {M:Nat→Prop} {w0:Base} {r v1 v2:ah} 
theorem rW (hK:KnOk K) (h:eX K n v1 v2=some r):ACalls Try.prog 109 [.agg (bH v1),.agg (bH v2)] (fun v _=>v = .agg (bH r)):=by
  refine bj (cat Try.f109 []) Try.func109 Try.ntmps109 fun M w0=>(bb ⟨[(0,.agg (bH v1)),(1,.agg (bH v2))],[],[],[]⟩ ?_)
  unfold eX at h
  refine aM 5 ?_
  cases h
  exact bu
end
def d9:=pth 0 11111
def p107_1:=pth 0 11110100
def p107_2:=pth 0 11110100110011111
def jx:=pth 0 11110100111
def p107_4:=pth 0 11110100110011110101
def p107_5:=pth 0 1111010011001111
def p107_6:=pth 0 111101001100111101
def p107_7:=pth 0 111101001100111101001
def p107_8:=pth 5 1
def qc:=pth 5 10
def p107_10:=pth 6 1
def p107_11:=pth 0 1111010010
def p107_12:=pth 0 1111010011
def p107_13:=pth 0 1111010011000
def p107_14:=pth 0 1111010011001
def p107_15:=pth 0 11110100110010
def p107_16:=pth 0 11110100110011
def p107_17:=pth 0 11110100110011101
def p107_18:=pth 0 111101001100111010
def p107_19:=pth 0 1111101
def p107_20:=pth 0 111100
def p107_21:=pth 0 111101
def p107_22:=pth 0 1111010
noncomputable section
abbrev mr (M:Nat→Prop) (w0:Base):Cx:=⟨Try.prog,52,M,w0⟩
abbrev mK (M:Nat→Prop) (w0:Base) (r:(List aa)×Int×ah×ah×Bool):=bodyPost Try.prog Try.f107 (RetQ M w0 (fun v s=>v = .tup [.ref 43,iI r.2.1,.agg (bH r.2.2.1),.agg (bH r.2.2.2.1),.bool r.2.2.2.2]∧look 43 s.r=some ⟨67,67,lm au r.1⟩))
abbrev bT (p:List Nat):Kont:=.c (cat Try.f107 p)
abbrev gx (M:Nat→Prop) (w0:Base) (r:(List aa)×Int×ah×ah×Bool) (m1:Nat):Kont:=kl (mr M w0) (mK M w0 r) [.b 0,bT d9] (cat Try.f107 p107_1) m1
def s107_j3 (v1:List aa) (v18:Int) (v21:List aa) (v24 v26:Int) (v27:Bool) (v28 v29:ah):AS:=⟨[(2,.ref 43),(3,iI v26),(4,.ptr 4 0),(5,.ptr 5 0),(6,.bool v27),(7,.ptr 7 0),(9,.ptr 9 0),(10,.sl (lm au v1)),(11,iI (v1.length:Int)),(12,iI v18)],[(4,bH v28),(5,bH cR),(7,bH v29),(9,az ({ (gD v1 v18) with Y:=v24 }:aa))],[(43,⟨67,67,lm au v21⟩)],[4,5,7,9,43]⟩
def s107_j2 (v1:List aa) (v18:Int) (v21:List aa) (v22:ah) (v24:Int) (v25:ah):AS:=⟨[(2,.ref 43),(4,.ptr 4 0),(5,.ptr 5 0),(7,.ptr 7 0),(9,.ptr 9 0),(10,.sl (lm au v1)),(11,iI (v1.length:Int)),(12,iI v18)],[(4,bH v25),(5,bH cR),(7,bH v22),(9,az ({ (gD v1 v18) with Y:=v24 }:aa))],[(43,⟨67,67,lm au v21⟩)],[4,5,7,9,43]⟩
def s107_j1 (v1:List aa) (v16:Int) (v17:Bool) (v18:Int) (v19:ah) (v21:List aa) (v22:ah) (v24:Int):AS:=⟨[(2,.ref 43),(3,iI v16),(4,.ptr 4 0),(5,.ptr 5 0),(6,.bool v17),(7,.ptr 7 0),(9,.ptr 9 0),(10,.sl (lm au v1)),(11,iI (v1.length:Int)),(12,iI v18)],[(4,bH v19),(5,bH cR),(7,bH v22),(9,az ({ (gD v1 v18) with Y:=v24 }:aa))],[(43,⟨67,67,lm au v21⟩)],[4,5,7,9,43]⟩
def s107_j5 (v16:Int) (v17:Bool) (v20:ah) (v21:List aa) (v30:ah):AS:=⟨[(2,.ref 43),(3,iI v16),(4,.ptr 4 0),(5,.ptr 5 0),(6,.bool v17),(7,.ptr 7 0)],[(4,bH v30),(5,bH cR),(7,bH v20)],[(43,⟨67,67,lm au v21⟩)],[4,5,7,43]⟩
def s107_l4 (v1:List aa) (v16:Int) (v17:Bool) (v18:Int) (v19 v20:ah) (v21:List aa):AS:=⟨[(2,.ref 43),(3,iI v16),(4,.ptr 4 0),(5,.ptr 5 0),(6,.bool v17),(7,.ptr 7 0),(10,.sl (lm au v1)),(11,iI (v1.length:Int)),(12,iI v18)],[(4,bH v19),(5,bH cR),(7,bH v20)],[(43,⟨67,67,lm au v21⟩)],[4,5,7,43]⟩
abbrev q6 (M:Nat→Prop) (w0:Base) (r:(List aa)×Int×ah×ah×Bool) (v1:List aa) (m1:Nat) (L1:Int→Bool→Int→ah→ah→(List aa)→Option ((List aa)×Int×ah×ah×Bool)):Prop:=∀ {v16:Int} {v17:Bool} {v18:Int} {v19 v20:ah} {v21:List aa},L1 v16 v17 v18 v19 v20 v21=some r→LP (mr M w0) (mK M w0 r) [.b 0,bT d9] (cat Try.f107 p107_1) m1 (s107_l4 v1 v16 v17 v18 v19 v20 v21)
variable {K:Kn} {n:Nat} {M:Nat→Prop} {w0:Base} {r:(List aa)×Int×ah×ah×Bool} {v1:List aa} {v16:Int} {v17:Bool} {v18:Int} {v19 v20:ah} {v21:List aa} {v22:ah} {v24:Int} {v25:ah} {v26:Int} {v27:Bool} {v28 v29 v30:ah} {m1:Nat} {L1:Int→Bool→Int→ah→ah→(List aa)→Option ((List aa)×Int×ah×ah×Bool)}
theorem yc (hK:KnOk K) (hL1:q6 M w0 r v1 m1 L1) (h:ir K n v1 v18 v21 v24 L1 v26 v27 v28 v29=some r):VE (mr M w0) (mK M w0 r) [bT p107_2,.b 1,bT jx,gx M w0 r m1,.b 0,bT d9] .normal (s107_j3 v1 v18 v21 v24 v26 v27 v28 v29):=by
  unfold ir at h
  refine ai 2 (ap (dN au ([({ (gD v1 v18) with Y:=v24 }:aa)]:List aa) (new:=[az ({ (gD v1 v18) with Y:=v24 }:aa)]) (by simp only [List.map_cons,List.map_nil,cp])) ?_)
  obtain ⟨h22,h⟩:=aq h
  exact ap (cb 43 43 67 67 au (rfl) (dR) h22) (ae (ag 2 (aY (hL1 h))))
theorem xN (hK:KnOk K) (hL1:q6 M w0 r v1 m1 L1) (h:ij K n v1 v18 v21 v22 v24 L1 v25=some r):VE (mr M w0) (mK M w0 r) [bT p107_4,bT p107_2,.b 1,bT jx,gx M w0 r m1,.b 0,bT d9] .normal (s107_j2 v1 v18 v21 v22 v24 v25):=by
  unfold ij at h
  exact ag 5 (yc hK hL1 h)
theorem yF (hK:KnOk K) (hL1:q6 M w0 r v1 m1 L1) (h:iq K n v1 v16 v17 v18 v19 v21 v22 L1 v24=some r):VE (mr M w0) (mK M w0 r) [bT p107_5,.b 1,bT jx,gx M w0 r m1,.b 0,bT d9] .normal (s107_j1 v1 v16 v17 v18 v19 v21 v22 v24):=by
  unfold iq at h
  refine ac (ks':=[bT p107_6,bT p107_2,.b 1,bT jx,gx M w0 r m1,.b 0,bT d9]) 3 ?_
  rcases ao h with ⟨h20,h⟩ | ⟨h20,h⟩
  ·
   refine ak 30 h20 (ac (ks':=[bT p107_7,bT p107_4,bT p107_2,.b 1,bT jx,gx M w0 r m1,.b 0,bT d9]) 4 ?_)
   rcases ao h with ⟨h21,h⟩ | ⟨h21,h⟩
   ·
    exact ak 31 h21 (ag 2 (xN hK hL1 h))
   ·
    exact ak 31 h21 (ag 2 (xN hK hL1 h))
  ·
   exact ak 30 h20 (ag 2 (yc hK hL1 h))
theorem wG (hK:KnOk K) (h:iw K n v16 v17 v20 v21 v30=some r):VE (mr M w0) (mK M w0 r) [bT p107_8] .normal (s107_j5 v16 v17 v20 v21 v30):=by
  unfold iw at h
  refine ac (ks':=[bT qc,bT p107_10]) 1 (bL [2,3,4,5,6,7] [4,5,7] [43] (bm 5 (nu 47 [.ref 43,iI v16,.agg (bH v30),.agg (bH v20),.bool v17]) [] [] [stp Try.prog 52 Try.f107 qc 5,stp Try.prog 52 Try.f107 qc 6,stp Try.prog 52 Try.f107 qc 7,stp Try.prog 52 Try.f107 qc 8,stp Try.prog 52 Try.f107 qc 9] (am [.v 0 1,.v 0 2,.v 0 3,.v 0 4,.v 0 5] (aj (e_d 0) (aj (e_d 1) (aj (e_d 2) (aj (e_d 3) (aj (e_d 4) bk)))))) (aM 1 ?_)))
  cases h
  exact eH
theorem B9 (hK:KnOk K) (hL1:q6 M w0 r v1 m1 L1) (h:iE K n v1 L1 v16 v17 v18 v19 v20 v21=some r):VE (mr M w0) (mK M w0 r) [bT p107_1,gx M w0 r m1,.b 0,bT d9] .normal (s107_l4 v1 v16 v17 v18 v19 v20 v21):=by
  unfold iE at h
  refine ac (ks':=[bT p107_11,bT p107_12,gx M w0 r m1,.b 0,bT d9]) 3 ?_
  rcases ao h with ⟨h15,h⟩ | ⟨h15,h⟩
  ·
   refine ak 13 h15 (ac (ks':=[bT p107_13,bT p107_14,.b 1,bT jx,gx M w0 r m1,.b 0,bT d9]) 5 (ai 0 ?_))
   obtain ⟨h16,h⟩:=aq h
   refine ap (bF au az h16 (dR) (cp)) (ae (ac (ks':=[bT p107_15,bT p107_16,.b 1,bT jx,gx M w0 r m1,.b 0,bT d9]) 1 (ai 3 ?_)))
   obtain ⟨v22,h17,h⟩:=bind_some h
   refine aC (rW hK h17) (ae (ac (ks':=[bT p107_17,bT p107_5,.b 1,bT jx,gx M w0 r m1,.b 0,bT d9]) 5 ?_))
   rcases ao h with ⟨h18,h⟩ | ⟨h18,h⟩
   ·
    refine ak 22 h18 (ac (ks':=[bT p107_18,bT p107_5,.b 1,bT jx,gx M w0 r m1,.b 0,bT d9]) 1 (ai 2 ?_))
    obtain ⟨v23,h19,h⟩:=bind_some h
    exact aC (l5 hK h19) (ae (ag 0 (yF hK hL1 h)))
   ·
    exact ak 22 h18 (ag 2 (yF hK hL1 h))
  ·
   refine ak 13 h15 (ac (ks':=[bT p107_19,bT p107_8]) 8 ?_)
   rcases ao h with ⟨h23,h⟩ | ⟨h23,h⟩
   ·
    exact ak 45 h23 (ag 2 (wG hK h))
   ·
    exact ak 45 h23 (ag 2 (wG hK h))
theorem z0 (hK:KnOk K) (m:Nat):q6 M w0 r v1 m (fa K n v1 m):=by
  induction m with
 | zero=>intro v16 v17 v18 v19 v20 v21 h; cases h
 | succ m ih=>intro v16 v17 v18 v19 v20 v21 h; have h:iE K n v1 (fa K n v1 m) v16 v17 v18 v19 v20 v21=some r:=h; exact aR (B9 hK ih h)
theorem AA (hK:KnOk K) (h:gQ K n v1=some r):ACalls Try.prog 107 [.sl (lm au v1)] (fun v s=>v = .tup [.ref 43,iI r.2.1,.agg (bH r.2.2.1),.agg (bH r.2.2.2.1),.bool r.2.2.2.2]∧look 43 s.r=some ⟨67,67,lm au r.1⟩):=by
  refine bj (cat Try.f107 []) Try.func107 Try.ntmps107 fun M w0=>(bb ⟨[(0,.sl (lm au v1))],[],[],[]⟩ ?_)
  unfold gQ at h
  exact ac (ks':=[bT p107_20,bT p107_21,bT d9]) 8 (ai 1 (ap (br au v1) (ae (ac (ks':=[bT p107_22,.b 0,bT d9]) 1 (cw 43 2 67 67 (ag 0 (bE (p:=p107_22) n (z0 hK n h))))))))
end
noncomputable section
variable {K:Kn} {n:Nat} {M:Nat→Prop} {w0:Base} {r v1:List aa} 
abbrev cF108 (p:List Nat):Kont:=.c (cat Try.f108 p)
theorem A3 (hK:KnOk K) (h:jg K n v1=some r):ACalls Try.prog 108 [.sl (lm au v1)] (fun v s=>v = .ref 5∧look 5 s.r=some ⟨67,67,lm au r⟩):=by
  refine bj (cat Try.f108 []) Try.func108 Try.ntmps108 fun M w0=>(bb ⟨[(0,.sl (lm au v1))],[],[],[]⟩ ?_)
  unfold jg at h
  refine ac (ks':=[cF108 [1,0,0],cF108 [1,0,1],cF108 [1,1]]) 4 (ai 1 ?_)
  refine ot_nilq (opAt Try.f108 [1,0,0] 1) (.eql) 65 65 (.tmp 3) (.const (.slice none 0 0)) 4 (lm au v1) (r:=restAt Try.f108 [1,0,0] 2) (e:=67) (by kernel_rfl) (by kernel_rfl) (by kernel_rfl) (by kernel_rfl) (by kernel_rfl) (by kernel_rfl) (by kernel_rfl) (by kernel_rfl) (fun hq=>?_) ?_
  ·
   have h:=both_a (by simpa using hq) h
   refine ae (aM 5 (cw 5 2 67 67 ?_))
   cases h
   exact cP
  ·
   have h:=both_b h
   refine ae (ac (ks':=[cF108 [1,1,0],cF108 [1,1,1]]) 3 (ai 0 (ot_bs 65 5 (e:=67) (sz:=67) (aO 2 1 ?_))))
   obtain ⟨h2,h⟩:=aq h
   refine ap (cb 7 5 67 67 au (rfl) (dR) h2) (ae (aM 1 ?_))
   cases h
   exact cP
end
noncomputable section
variable {K:Kn} {n:Nat} {M:Nat→Prop} {w0:Base} {r:Int} {v1:ay} 
theorem BV (hK:KnOk K) (h:m7 K n v1=some r):ACalls Try.prog 110 [.agg (bh v1)] (fun v _=>v=iI r):=by
  refine bj (cat Try.f110 []) Try.func110 Try.ntmps110 fun M w0=>(bb ⟨[(0,.agg (bh v1))],[],[],[]⟩ ?_)
  unfold m7 at h
  refine aM 5 ?_
  cases h
  exact bu
end
noncomputable section
abbrev cx111 (M:Nat→Prop) (w0:Base):Cx:=⟨Try.prog,16,M,w0⟩
abbrev q111 (M:Nat→Prop) (w0:Base) (r:Bool):=bodyPost Try.prog Try.f111 (RetQ M w0 (fun v _=>v = .bool r))
def s111_j1 (v2:Bool):AS:=⟨[(2,.bool v2)],[],[],[]⟩
variable {K:Kn} {n:Nat} {M:Nat→Prop} {w0:Base} {r:Bool} {v1:ab} {v2:Bool} 
abbrev cF111 (p:List Nat):Kont:=.c (cat Try.f111 p)
theorem tT (hK:KnOk K) (h:jE K n v2=some r):VE (cx111 M w0) (q111 M w0 r) [cF111 [1,1]] .normal (s111_j1 v2):=by
  unfold jE at h
  refine aM 1 ?_
  cases h
  exact bu
theorem vD (hK:KnOk K) (h:gy K n v1=some r):ACalls Try.prog 111 [.agg (ax v1)] (fun v _=>v = .bool r):=by
  refine bj (cat Try.f111 []) Try.func111 Try.ntmps111 fun M w0=>(bb ⟨[(0,.agg (ax v1))],[],[],[]⟩ ?_)
  unfold gy at h
  refine ac (ks':=[cF111 [1,0],cF111 [1,1]]) 3 (ai 4 ?_)
  rcases ao h with ⟨h1,h⟩ | ⟨h1,h⟩
  ·
   exact aK 6 h1 (ae (ag 0 (tT hK h)))
  ·
   refine aK 6 h1 (aO 9 5 ?_)
   rcases ao h with ⟨h2,h⟩ | ⟨h2,h⟩
   ·
    exact aK 11 h2 (ae (ag 0 (tT hK h)))
   ·
    exact aK 11 h2 (ae (ag 0 (tT hK h)))
end
end Go.Proofs.Ytlpndemhnpajiaa

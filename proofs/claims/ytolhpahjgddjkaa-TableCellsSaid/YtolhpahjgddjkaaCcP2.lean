/- The runs of the functions that TableCells reaches do what their plain forms say, part 2. Made by a program. -/
import Derived.Test.YtolhpahjgddjkaaCcGk
import Derived.Test.YtolhpahjgddjkaaCcP1
namespace Go.Proofs.Ytolhpahjgddjkaa
open Go.RowKit
set_option maxRecDepth 20000
set_option linter.all false
set_option linter.unusedVariables false
set_option linter.unusedSimpArgs false
def g9:=pth 8 1
def p40_1:=pth 7 10100
def je:=pth 7 1
def p40_3:=pth 6 10100
def dw:=pth 0 11111
def p40_5:=pth 0 11110100
def fZ:=pth 0 111101001100111
def fb:=pth 0 11110100111
def p40_8:=pth 0 111101001100110100
def p40_9:=pth 0 11110100110011010010
def p40_10:=pth 0 11110100110011010011
def p40_11:=pth 0 11110100110011010011000
def p40_12:=pth 0 11110100110011010011001
def p40_13:=pth 0 111101001100110100111
def p40_14:=pth 0 111101001100110100110010
def p40_15:=pth 0 111101001100110100110011
def p40_16:=pth 7 1010010
def p40_17:=pth 7 1010011
def p40_18:=pth 7 1010011000
def p40_19:=pth 7 1010011001
def p40_20:=pth 7 10100111
def p40_21:=pth 7 10100110010
def p40_22:=pth 7 10100110011
def p40_23:=pth 8 10
def p40_24:=pth 9 1
def p40_25:=pth 6 1010010
def p40_26:=pth 6 1010011
def p40_27:=pth 6 1010011000
def p40_28:=pth 6 1010011001
def p40_29:=pth 6 10100111
def p40_30:=pth 7 100
def p40_31:=pth 7 101
def p40_32:=pth 7 1010
def p40_33:=pth 0 1111010010
def p40_34:=pth 0 1111010011
def p40_35:=pth 0 1111010011000
def p40_36:=pth 0 1111010011001
def p40_37:=pth 0 1111010011001100
def p40_38:=pth 0 1111010011001101
def p40_39:=pth 0 11110100110011010
def p40_40:=pth 0 111110
def p40_41:=pth 5 1
def p40_42:=pth 6 100
def p40_43:=pth 6 101
def p40_44:=pth 6 1010
def p40_45:=pth 0 111100
def p40_46:=pth 0 111101
def p40_47:=pth 0 1111010
noncomputable section
abbrev eQ (M:Nat→Prop) (w0:Base):Cx:=⟨Try.prog,103,M,w0⟩
abbrev q40 (M:Nat→Prop) (w0:Base) (r:bp):=bodyPost Try.prog Try.f40 (RetQ M w0 (fun v s=>v = .agg (List.set (di ({ r with rows:=[] }:bp)) 0 (.ref 1022))∧look 1022 s.r=some ⟨55,59,lm ax r.rows⟩))
abbrev aP (p:List Nat):Kont:=.c (cat Try.f40 p)
abbrev k40_4 (M:Nat→Prop) (w0:Base) (r:bp) (m4:Nat):Kont:=kl (eQ M w0) (q40 M w0 r) [.b 6,aP g9] (cat Try.f40 p40_1) m4
abbrev k40_3 (M:Nat→Prop) (w0:Base) (r:bp) (m3:Nat):Kont:=kl (eQ M w0) (q40 M w0 r) [.b 4,aP je] (cat Try.f40 p40_3) m3
abbrev eC (M:Nat→Prop) (w0:Base) (r:bp) (m1:Nat):Kont:=kl (eQ M w0) (q40 M w0 r) [.b 0,aP dw] (cat Try.f40 p40_5) m1
abbrev k40_2 (M:Nat→Prop) (w0:Base) (r:bp) (m1 m2:Nat):Kont:=kl (eQ M w0) (q40 M w0 r) [.b 2,aP fZ,.b 1,aP fb,eC M w0 r m1,.b 0,aP dw] (cat Try.f40 p40_8) m2
def s40_l1 (v2:bw) (v3:List ab) (v16:Int) (v18:List (List (V2 Int))) (v19:List ab) (v21:Int) (v22:List (V2 Int)) (v23:List ab):AS:=⟨[(3,.ptr 3 0),(4,.ptr 4 0),(5,.ptr 5 0),(6,.ref 56),(9,.ref 45),(25,.ref 1022),(26,iI (v3.length:Int)),(27,iI v16),(32,.ref 1032),(33,iI (v19.length:Int)),(34,iI v21)],[(3,cj v2),(4,List.set (List.set (List.set (List.set (di fd) 0 (.nils)) 1 (.nils)) 2 (.nils)) 3 (.nils)),(5,List.set (List.set (List.set (List.set (di fd) 0 (.ref 1022)) 1 (.ref 50)) 2 (.nils)) 3 (.nils))],[(45,⟨73,2,lm (eV2 (eInt .i64)) v22⟩),(50,⟨55,59,lm ax v23⟩),(56,⟨24,1,lm (eSl (eV2 (eInt .i64))) v18⟩),(1022,⟨55,59,lm ax v3⟩),(1032,⟨55,59,lm ax v19⟩)],[3,4,5,45,50,56,1022,1032]⟩
def s40_l4 (v2:bw) (v3 v17:List ab) (v25:(List (List ae))×Int) (v27:List ae) (v32:Int) (v33:List am):AS:=⟨[(3,.ptr 3 0),(4,.ptr 4 0),(5,.ptr 5 0),(13,iI v25.2),(14,.ref 94),(76,.ref 50),(77,iI (v17.length:Int)),(78,iI v32)],[(3,cj v2),(4,List.set (List.set (List.set (List.set (di fd) 0 (.nils)) 1 (.nils)) 2 (.nils)) 3 (.nils)),(5,List.set (List.set (List.set (List.set (di fd) 0 (.ref 1022)) 1 (.ref 50)) 2 (.ref 72)) 3 (.nils))],[(50,⟨55,59,lm ax v17⟩),(72,⟨30,4,lm aC v27⟩),(94,⟨36,2,lm aM v33⟩),(1022,⟨55,59,lm ax v3⟩)],[3,4,5,50,72,94,1022]⟩
def s40_l3 (v2:bw) (v3 v17:List ab) (v25:(List (List ae))×Int) (v26:Int) (v27:List ae):AS:=⟨[(3,.ptr 3 0),(4,.ptr 4 0),(5,.ptr 5 0),(13,iI v25.2),(14,.nils),(63,.ref 1060),(64,iI (v25.1.length:Int)),(65,iI v26)],[(3,cj v2),(4,List.set (List.set (List.set (List.set (di fd) 0 (.nils)) 1 (.nils)) 2 (.nils)) 3 (.nils)),(5,List.set (List.set (List.set (List.set (di fd) 0 (.ref 1022)) 1 (.ref 50)) 2 (.ref 72)) 3 (.nils))],[(50,⟨55,59,lm ax v17⟩),(72,⟨30,4,lm aC v27⟩),(1022,⟨55,59,lm ax v3⟩),(1060,⟨28,1,lm (eSl aC) v25.1⟩)],[3,4,5,50,72,1022,1060]⟩
def s40_l2 (v2:bw) (v3:List ab) (v16:Int) (v17:List ab) (v18:List (List (V2 Int))):AS:=⟨[(3,.ptr 3 0),(4,.ptr 4 0),(5,.ptr 5 0),(6,.ref 56),(25,.ref 1022),(26,iI (v3.length:Int)),(27,iI v16)],[(3,cj v2),(4,List.set (List.set (List.set (List.set (di fd) 0 (.nils)) 1 (.nils)) 2 (.nils)) 3 (.nils)),(5,List.set (List.set (List.set (List.set (di fd) 0 (.ref 1022)) 1 (.ref 50)) 2 (.nils)) 3 (.nils))],[(50,⟨55,59,lm ax v17⟩),(56,⟨24,1,lm (eSl (eV2 (eInt .i64))) v18⟩),(1022,⟨55,59,lm ax v3⟩)],[3,4,5,50,56,1022]⟩
abbrev H40_1 (M:Nat→Prop) (w0:Base) (r:bp) (v2:bw) (v3:List ab) (m1:Nat) (L1:Int→(List ab)→(List (List (V2 Int)))→Option bp):Prop:=∀ {v16:Int} {v17:(List ab)} {v18:(List (List (V2 Int)))},L1 v16 v17 v18=some r→LP (eQ M w0) (q40 M w0 r) [.b 0,aP dw] (cat Try.f40 p40_5) m1 (s40_l2 v2 v3 v16 v17 v18)
abbrev H40_2 (M:Nat→Prop) (w0:Base) (r:bp) (v2:bw) (v3:List ab) (v16:Int) (v18:List (List (V2 Int))) (v19:List ab) (m1 m2:Nat) (L2:Int→(List (V2 Int))→(List ab)→Option bp):Prop:=∀ {v21:Int} {v22:(List (V2 Int))} {v23:(List ab)},L2 v21 v22 v23=some r→LP (eQ M w0) (q40 M w0 r) [.b 2,aP fZ,.b 1,aP fb,eC M w0 r m1,.b 0,aP dw] (cat Try.f40 p40_8) m2 (s40_l1 v2 v3 v16 v18 v19 v21 v22 v23)
abbrev H40_3 (M:Nat→Prop) (w0:Base) (r:bp) (v2:bw) (v3 v17:List ab) (v25:(List (List ae))×Int) (m3:Nat) (L3:Int→(List ae)→Option bp):Prop:=∀ {v26:Int} {v27:(List ae)},L3 v26 v27=some r→LP (eQ M w0) (q40 M w0 r) [.b 4,aP je] (cat Try.f40 p40_3) m3 (s40_l3 v2 v3 v17 v25 v26 v27)
abbrev H40_4 (M:Nat→Prop) (w0:Base) (r:bp) (v2:bw) (v3 v17:List ab) (v25:(List (List ae))×Int) (v27:List ae) (m4:Nat) (L4:Int→(List am)→Option bp):Prop:=∀ {v32:Int} {v33:(List am)},L4 v32 v33=some r→LP (eQ M w0) (q40 M w0 r) [.b 6,aP g9] (cat Try.f40 p40_1) m4 (s40_l4 v2 v3 v17 v25 v27 v32 v33)
variable {K:Kn} {n:Nat} {M:Nat→Prop} {w0:Base} {r:bp} {v1:ab} {v2:bw} {v3:List ab} {v16:Int} {v17:List ab} {v18:List (List (V2 Int))} {v19:List ab} {v21:Int} {v22:List (V2 Int)} {v23:List ab} {v25:(List (List ae))×Int} {v26:Int} {v27:List ae} {v32:Int} {v33:List am} {m1:Nat} {L1:Int→(List ab)→(List (List (V2 Int)))→Option bp} {m2:Nat} {L2:Int→(List (V2 Int))→(List ab)→Option bp} {m3:Nat} {L3:Int→(List ae)→Option bp} {m4:Nat} {L4:Int→(List am)→Option bp}
theorem vW (hK:KnOk K) (hL1:H40_1 M w0 r v2 v3 m1 L1) (hL2:H40_2 M w0 r v2 v3 v16 v18 v19 m1 m2 L2) (h:nX K n v2 v3 v16 v18 v19 L1 L2 v21 v22 v23=some r):VE (eQ M w0) (q40 M w0 r) [aP p40_8,k40_2 M w0 r m1 m2,.b 2,aP fZ,.b 1,aP fb,eC M w0 r m1,.b 0,aP dw] .normal (s40_l1 v2 v3 v16 v18 v19 v21 v22 v23):=by
  unfold nX at h
  refine ac (ks':=[aP p40_9,aP p40_10,k40_2 M w0 r m1 m2,.b 2,aP fZ,.b 1,aP fb,eC M w0 r m1,.b 0,aP dw]) 3 ?_
  rcases au h with ⟨h50,h⟩ | ⟨h50,h⟩
  ·
   refine ak 35 h50 (ac (ks':=[aP p40_11,aP p40_12,.b 3,aP p40_13,k40_2 M w0 r m1 m2,.b 2,aP fZ,.b 1,aP fb,eC M w0 r m1,.b 0,aP dw]) 5 (ai 0 ?_))
   obtain ⟨h51,h⟩:=av h
   refine aq (bM 1032 59 ax h51) (aq (bj 55 0 ax aF (aI h51).2 (b8)) (ag (ac (ks':=[aP p40_14,aP p40_15,.b 3,aP p40_13,k40_2 M w0 r m1 m2,.b 2,aP fZ,.b 1,aP fb,eC M w0 r m1,.b 0,aP dw]) 1 (ai 7 ?_))))
   obtain ⟨h52,h⟩:=av h
   refine aq (cE 45 45 73 2 (eV2 (eInt .i64)) (rfl) (fun _=>rfl) h52) (ag ?_)
   obtain ⟨v24,h53,h⟩:=bind_some h
   have h53:=Option.some.inj h53
   refine bq (ks':=[aP p40_15,.b 3,aP p40_13,k40_2 M w0 r m1 m2,.b 2,aP fZ,.b 1,aP fb,eC M w0 r m1,.b 0,aP dw]) 0 ⟨[(3,.ptr 3 0),(4,.ptr 4 0),(5,.ptr 5 0),(6,.ref 56),(9,.ref 45),(11,.ptr 11 0),(25,.ref 1022),(26,iI (v3.length:Int)),(27,iI v16),(32,.ref 1032),(33,iI (v19.length:Int)),(34,iI v21)],[(3,cj v2),(4,List.set (List.set (List.set (List.set (di fd) 0 (.nils)) 1 (.nils)) 2 (.nils)) 3 (.nils)),(5,List.set (List.set (List.set (List.set (di fd) 0 (.ref 1022)) 1 (.ref 50)) 2 (.nils)) 3 (.nils)),(11,aF (gD v19 v21))],[(45,⟨73,2,lm (eV2 (eInt .i64)) v24⟩),(50,⟨55,59,lm ax v23⟩),(56,⟨24,1,lm (eSl (eV2 (eInt .i64))) v18⟩),(1022,⟨55,59,lm ax v3⟩),(1032,⟨55,59,lm ax v19⟩)],[3,4,5,11,45,50,56,1022,1032]⟩ ?_ (by subst h53; kernel_rfl)
   refine ai 3 (aq (fc ax ([(gD v19 v21)]:List ab) (new:=[aF (gD v19 v21)]) (by simp only [List.map_cons,List.map_nil,b8])) ?_)
   obtain ⟨h54,h⟩:=av h
   exact aq (cE 50 50 55 59 ax (rfl) (co) h54) (ag (ah 2 (aY (hL2 h))))
  ·
   refine ak 35 h50 (ac (ks':=[aP fZ,.b 1,aP fb,eC M w0 r m1,.b 0,aP dw]) 5 (ai 2 (dV 45 (aV 3 1 ?_))))
   obtain ⟨h55,h⟩:=av h
   exact aq (cE 56 56 24 1 (eSl (eV2 (eInt .i64))) (rfl) (fun _=>rfl) h55) (ag (ah 2 (aY (hL1 h))))
theorem vd (hK:KnOk K) (hL1:H40_1 M w0 r v2 v3 m1 L1) (m:Nat):H40_2 M w0 r v2 v3 v16 v18 v19 m1 m (jH K n v2 v3 v16 v18 v19 L1 m):=by
  induction m with
 | zero=>intro v21 v22 v23 h; cases h
 | succ m ih=>intro v21 v22 v23 h; have h:nX K n v2 v3 v16 v18 v19 L1 (jH K n v2 v3 v16 v18 v19 L1 m) v21 v22 v23=some r:=h; exact aW (vW hK hL1 ih h)
theorem xm (hK:KnOk K) (hL4:H40_4 M w0 r v2 v3 v17 v25 v27 m4 L4) (h:nh K n v2 v3 v17 v25 v27 L4 v32 v33=some r):VE (eQ M w0) (q40 M w0 r) [aP p40_1,k40_4 M w0 r m4,.b 6,aP g9] .normal (s40_l4 v2 v3 v17 v25 v27 v32 v33):=by
  unfold nh at h
  refine ac (ks':=[aP p40_16,aP p40_17,k40_4 M w0 r m4,.b 6,aP g9]) 3 ?_
  rcases au h with ⟨h76,h⟩ | ⟨h76,h⟩
  ·
   refine ak 79 h76 (ac (ks':=[aP p40_18,aP p40_19,.b 7,aP p40_20,k40_4 M w0 r m4,.b 6,aP g9]) 5 (ai 0 ?_))
   obtain ⟨h77,h⟩:=av h
   refine aq (bM 50 59 ax h77) (aq (bj 55 0 ax aF (aI h77).2 (b8)) (ag (ac (ks':=[aP p40_21,aP p40_22,.b 7,aP p40_20,k40_4 M w0 r m4,.b 6,aP g9]) 1 (bt [3,4,5,13,14,18,76,77,78] [3,4,5,18] [50,72,94,1022] ?_))))
   obtain ⟨v34,h78,h⟩:=bind_some h
   obtain ⟨v35,h79,h⟩:=bind_some h
   refine bE 2 (nu 83 [.agg (aF (gD v17 v32)),.agg (aF v34),.agg (cj v2),.tup [iI v35.1,iI v35.2]]++nu 82 [.tup [iI v35.1,iI v35.2]]++nu 87 [iI v35.1,iI v35.2]) [] [] [stp Try.prog 103 Try.f40 p40_21 7,stp Try.prog 103 Try.f40 p40_21 8] (az [.v 0 1] (aj (e_c 0 1 84 (uu hK h78)) (az [.v 0 1] (aj (e_c 0 1 86 (uh hK h79)) (az [.v 0 1,.v 0 1,.v 0 2] (aj (e_d 0) (aj (e_d 1) bC))))))) (ai 5 ?_)
   obtain ⟨h80,h⟩:=av h
   exact aq (cE 94 94 36 2 aM (rfl) (iY) h80) (ag (ah 2 (aY (hL4 h))))
  ·
   refine ak 79 h76 (ac (ks':=[aP p40_23,aP p40_24]) 6 (ai 4 (dV 72 (dV 94 ?_))))
   obtain ⟨v36,h81,h⟩:=bind_some h
   refine cZ 1100 (uB hK h81) (dQ 27) (ag (aQ 3 (iJ 50 (iJ 1100 ?_))))
   cases h
   exact cO
theorem xw (hK:KnOk K) (m:Nat):H40_4 M w0 r v2 v3 v17 v25 v27 m (gW K n v2 v3 v17 v25 v27 m):=by
  induction m with
 | zero=>intro v32 v33 h; cases h
 | succ m ih=>intro v32 v33 h; have h:nh K n v2 v3 v17 v25 v27 (gW K n v2 v3 v17 v25 v27 m) v32 v33=some r:=h; exact aW (xm hK ih h)
theorem wL (hK:KnOk K) (hL3:H40_3 M w0 r v2 v3 v17 v25 m3 L3) (h:n9 K n v2 v3 v17 v25 L3 v26 v27=some r):VE (eQ M w0) (q40 M w0 r) [aP p40_3,k40_3 M w0 r m3,.b 4,aP je] .normal (s40_l3 v2 v3 v17 v25 v26 v27):=by
  unfold n9 at h
  refine ac (ks':=[aP p40_25,aP p40_26,k40_3 M w0 r m3,.b 4,aP je]) 3 ?_
  rcases au h with ⟨h63,h⟩ | ⟨h63,h⟩
  ·
   refine ak 66 h63 (ac (ks':=[aP p40_27,aP p40_28,.b 5,aP p40_29,k40_3 M w0 r m3,.b 4,aP je]) 5 (ai 0 ?_))
   obtain ⟨h64,h⟩:=av h
   refine aq (bM 1060 1 (eSl aC) h64) (aq (bj 28 0 (eSl aC) (eSl aC) (aI h64).2 (fun _=>rfl)) (ag (ai 3 ?_)))
   obtain ⟨h65,h⟩:=av h
   exact aq (cE 72 72 30 4 aC (rfl) (fx) h65) (ag (ah 2 (aY (hL3 h))))
  ·
   exact ak 66 h63 (ac (ks':=[aP p40_30,aP p40_31,aP g9]) 7 (ai 2 (aq (aZ ax v17) (ag (ac (ks':=[aP p40_32,.b 6,aP g9]) 1 (bt [3,4,5,13,14,76,77,78] [3,4,5] [50,72,1022] (dF 94 14 36 2 (ah 0 (bz (p:=p40_32) n (xw hK n h))))))))))
theorem vV (hK:KnOk K) (m:Nat):H40_3 M w0 r v2 v3 v17 v25 m (iK K n v2 v3 v17 v25 m):=by
  induction m with
 | zero=>intro v26 v27 h; cases h
 | succ m ih=>intro v26 v27 h; have h:n9 K n v2 v3 v17 v25 (iK K n v2 v3 v17 v25 m) v26 v27=some r:=h; exact aW (wL hK ih h)
theorem vS (hK:KnOk K) (hL1:H40_1 M w0 r v2 v3 m1 L1) (h:pE K n v2 v3 L1 v16 v17 v18=some r):VE (eQ M w0) (q40 M w0 r) [aP p40_5,eC M w0 r m1,.b 0,aP dw] .normal (s40_l2 v2 v3 v16 v17 v18):=by
  unfold pE at h
  refine ac (ks':=[aP p40_33,aP p40_34,eC M w0 r m1,.b 0,aP dw]) 3 ?_
  rcases au h with ⟨h38,h⟩ | ⟨h38,h⟩
  ·
   refine ak 28 h38 (ac (ks':=[aP p40_35,aP p40_36,.b 1,aP fb,eC M w0 r m1,.b 0,aP dw]) 5 (ai 0 ?_))
   obtain ⟨h39,h⟩:=av h
   refine aq (bM 1022 59 ax h39) (aq (bj 55 0 ax aF (aI h39).2 (b8)) (ag (ac (ks':=[aP p40_37,aP p40_38,aP fZ,.b 1,aP fb,eC M w0 r m1,.b 0,aP dw]) 4 (ai 1 ?_))))
   obtain ⟨v19,h40,h⟩:=bind_some h
   exact cZ 1032 (td hK h40) (dQ 22) (aq (aZ ax v19) (ag (ac (ks':=[aP p40_39,.b 2,aP fZ,.b 1,aP fb,eC M w0 r m1,.b 0,aP dw]) 1 (bt [3,4,5,6,9,25,26,27,32,33,34] [3,4,5] [50,56,1022,1032] (dF 45 9 73 2 (ah 0 (bz (p:=p40_39) n (vd hK hL1 n h))))))))
  ·
   refine ak 28 h38 (ac (ks':=[aP p40_40,aP p40_41]) 6 (ai 1 (dV 56 ?_)))
   obtain ⟨v25,h56,h⟩:=bind_some h
   exact cZ 1060 (sE hK h56) (one_tup (i:=0) rfl) (ag (ac (ks':=[aP p40_42,aP p40_43,aP je]) 4 (ai 1 (aq (aZ (eSl aC) v25.1) (ag (ac (ks':=[aP p40_44,.b 4,aP je]) 1 (bt [3,4,5,13,14,63,64,65] [3,4,5] [50,1022,1060] (ve_wo 72 5 2 30 4 (ah 0 (bz (p:=p40_44) n (vV hK n h)))))))))))
theorem vF (hK:KnOk K) (m:Nat):H40_1 M w0 r v2 v3 m (gL K n v2 v3 m):=by
  induction m with
 | zero=>intro v16 v17 v18 h; cases h
 | succ m ih=>intro v16 v17 v18 h; have h:pE K n v2 v3 (gL K n v2 v3 m) v16 v17 v18=some r:=h; exact aW (vS hK ih h)
theorem wG (hK:KnOk K) (h:nT K n v1 v2=some r):ACalls Try.prog 40 [.agg (aF v1),.agg (cj v2)] (fun v s=>v = .agg (List.set (di ({ r with rows:=[] }:bp)) 0 (.ref 1022))∧look 1022 s.r=some ⟨55,59,lm ax r.rows⟩):=by
  refine bo (cat Try.f40 []) Try.func40 Try.ntmps40 fun M w0=>(bg ⟨[(0,.agg (aF v1)),(1,.agg (cj v2))],[],[],[]⟩ ?_)
  unfold nT at h
  refine ac (ks':=[aP [1,0],aP [1,1]]) 3 (ai 1 ?_)
  obtain ⟨v3,h1,h⟩:=bind_some h
  exact cZ 1022 (td hK h1) (dQ 22) (ag (ac (ks':=[aP p40_45,aP p40_46,aP dw]) 4 (ai 2 (aq (aZ ax v3) (ag (ac (ks':=[aP p40_47,.b 0,aP dw]) 1 (bt [3,4,5,6,25,26,27] [3,4,5] [1022] (dF 56 6 24 1 (ve_wo 50 5 1 55 59 (ah 0 (bz (p:=p40_47) n (vF hK n h))))))))))))
end
def p41_0:=pth 0 110100
def p41_1:=pth 0 11010010
def p41_2:=pth 0 11010011
def p41_3:=pth 0 11010011000
def p41_4:=pth 0 11010011001
def p41_5:=pth 0 110100111
def p41_6:=pth 0 11010
noncomputable section
abbrev cx41 (M:Nat→Prop) (w0:Base):Cx:=⟨Try.prog,24,M,w0⟩
abbrev q41 (M:Nat→Prop) (w0:Base) (r:Int×Int):=bodyPost Try.prog Try.f41 (RetQ M w0 (fun v _=>v = .tup [iI r.1,iI r.2]))
abbrev d7 (p:List Nat):Kont:=.c (cat Try.f41 p)
abbrev k41_1 (M:Nat→Prop) (w0:Base) (r:Int×Int) (m1:Nat):Kont:=kl (cx41 M w0) (q41 M w0 r) [.b 0,d7 [1,1]] (cat Try.f41 p41_0) m1
def s41_l1 (v1:bp) (v3 v4 v5:Int):AS:=⟨[(2,iI v3),(3,iI v4),(7,.sl (lm aM v1.columns)),(8,iI (v1.columns.length:Int)),(9,iI v5)],[],[],[]⟩
abbrev H41_1 (M:Nat→Prop) (w0:Base) (r:Int×Int) (v1:bp) (m1:Nat) (L1:Int→Int→Int→Option (Int×Int)):Prop:=∀ {v3:Int} {v4:Int} {v5:Int},L1 v3 v4 v5=some r→LP (cx41 M w0) (q41 M w0 r) [.b 0,d7 [1,1]] (cat Try.f41 p41_0) m1 (s41_l1 v1 v3 v4 v5)
variable {K:Kn} {n:Nat} {M:Nat→Prop} {w0:Base} {r:Int×Int} {v1:bp} {v3 v4 v5:Int} {m1:Nat} {L1:Int→Int→Int→Option (Int×Int)}
theorem wO (hK:KnOk K) (hL1:H41_1 M w0 r v1 m1 L1) (h:oY K n v1 L1 v3 v4 v5=some r):VE (cx41 M w0) (q41 M w0 r) [d7 p41_0,k41_1 M w0 r m1,.b 0,d7 [1,1]] .normal (s41_l1 v1 v3 v4 v5):=by
  unfold oY at h
  refine ac (ks':=[d7 p41_1,d7 p41_2,k41_1 M w0 r m1,.b 0,d7 [1,1]]) 3 ?_
  rcases au h with ⟨h4,h⟩ | ⟨h4,h⟩
  ·
   refine ak 10 h4 (ac (ks':=[d7 p41_3,d7 p41_4,.b 1,d7 p41_5,k41_1 M w0 r m1,.b 0,d7 [1,1]]) 5 (ai 0 ?_))
   obtain ⟨h5,h⟩:=av h
   exact aq (bL aM aM h5 (iY) (fun _=>rfl)) (ag (ah 5 (aY (hL1 h))))
  ·
   refine ak 10 h4 (aQ 8 ?_)
   cases h
   exact dW
theorem w4 (hK:KnOk K) (m:Nat):H41_1 M w0 r v1 m (mm K n v1 m):=by
  induction m with
 | zero=>intro v3 v4 v5 h; cases h
 | succ m ih=>intro v3 v4 v5 h; have h:oY K n v1 (mm K n v1 m) v3 v4 v5=some r:=h; exact aW (wO hK ih h)
theorem vJ (hK:KnOk K) (h:qy K n v1=some r):ACalls Try.prog 41 [.agg (di v1)] (fun v _=>v = .tup [iI r.1,iI r.2]):=by
  refine bo (cat Try.f41 []) Try.func41 Try.ntmps41 fun M w0=>(bg ⟨[(0,.agg (di v1))],[],[],[]⟩ ?_)
  unfold qy at h
  exact ac (ks':=[d7 [1,0,0],d7 [1,0,1],d7 [1,1]]) 4 (ai 2 (aq (aZ aM v1.columns) (ag (ah 1 (bz (p:=p41_6) n (w4 hK n h))))))
end
noncomputable section
variable {K:Kn} {n:Nat} {M:Nat→Prop} {w0:Base} {r v1:List ae} 
abbrev cF46 (p:List Nat):Kont:=.c (cat Try.f46 p)
theorem vA (hK:KnOk K) (h:nr K n v1=some r):ACalls Try.prog 46 [.sl (lm aC v1)] (fun v s=>v = .ref 5∧look 5 s.r=some ⟨30,4,lm aC r⟩):=by
  refine bo (cat Try.f46 []) Try.func46 Try.ntmps46 fun M w0=>(bg ⟨[(0,.sl (lm aC v1))],[],[],[]⟩ ?_)
  unfold nr at h
  refine ac (ks':=[cF46 [1,0,0],cF46 [1,0,1],cF46 [1,1]]) 4 (ai 1 ?_)
  refine ot_nilq (opAt Try.f46 [1,0,0] 1) (.eql) 28 28 (.tmp 3) (.const (.slice none 0 0)) 4 (lm aC v1) (r:=restAt Try.f46 [1,0,0] 2) (e:=30) (by kernel_rfl) (by kernel_rfl) (by kernel_rfl) (by kernel_rfl) (by kernel_rfl) (by kernel_rfl) (by kernel_rfl) (by kernel_rfl) (fun hq=>?_) ?_
  ·
   have h:=mX (by simpa using hq) h
   refine ag (aQ 5 (dF 5 2 30 4 ?_))
   cases h
   exact cO
  ·
   have h:=nB h
   refine ag (ac (ks':=[cF46 [1,1,0],cF46 [1,1,1]]) 3 (ai 0 (ot_bs 28 5 (e:=30) (sz:=4) (aV 2 1 ?_))))
   obtain ⟨h2,h⟩:=av h
   refine aq (cE 7 5 30 4 aC (rfl) (fx) h2) (ag (aQ 1 ?_))
   cases h
   exact cO
end
noncomputable section
variable {K:Kn} {n:Nat} {M:Nat→Prop} {w0:Base} {r:Int×Bool} {v1:cn} 
abbrev cF49 (p:List Nat):Kont:=.c (cat Try.f49 p)
theorem rE (hK:KnOk K) (h:iE K n v1=some r):ACalls Try.prog 49 [.agg (iG v1)] (fun v _=>v = .tup [iI r.1,.bool r.2]):=by
  refine bo (cat Try.f49 []) Try.func49 Try.ntmps49 fun M w0=>(bg ⟨[(0,.agg (iG v1))],[],[],[]⟩ ?_)
  unfold iE at h
  refine ac (ks':=[cF49 [1,0,1],cF49 [1,1]]) 5 ?_
  rcases au h with ⟨h1,h⟩ | ⟨h1,h⟩
  ·
   refine ak 8 h1 (aQ 5 ?_)
   cases h
   exact dW
  ·
   refine ak 8 h1 (ac (ks':=[cF49 [1,1,0],cF49 [1,1,1]]) 3 (ai 1 ?_))
   obtain ⟨v2,h2,h⟩:=bind_some h
   refine aR (df hK h2) (ag (aQ 3 ?_))
   cases h
   exact dW
end
noncomputable section
variable {K:Kn} {n:Nat} {M:Nat→Prop} {w0:Base} {r:Int} {v1:aS} 
theorem tu (hK:KnOk K) (h:l9 K n v1=some r):ACalls Try.prog 52 [.agg (bI v1)] (fun v _=>v=iI r):=by
  refine bo (cat Try.f52 []) Try.func52 Try.ntmps52 fun M w0=>(bg ⟨[(0,.agg (bI v1))],[],[],[]⟩ ?_)
  unfold l9 at h
  refine aQ 5 ?_
  cases h
  exact bF
end
noncomputable section
variable {K:Kn} {n:Nat} {M:Nat→Prop} {w0:Base} {r:aB} {v1:Int} 
theorem pV (hK:KnOk K) (h:iT K n v1=some r):ACalls Try.prog 51 [iI v1] (fun v _=>v = .agg (bR r)):=by
  refine bo (cat Try.f51 []) Try.func51 Try.ntmps51 fun M w0=>(bg ⟨[(0,iI v1)],[],[],[]⟩ ?_)
  unfold iT at h
  refine aQ 5 ?_
  cases h
  exact bF
end
noncomputable section
variable {K:Kn} {n:Nat} {M:Nat→Prop} {w0:Base} {r v1 v2:aB} 
theorem pf (hK:KnOk K) (h:jM K n v1 v2=some r):ACalls Try.prog 87 [.agg (bR v1),.agg (bR v2)] (fun v _=>v = .agg (bR r)):=by
  refine bo (cat Try.f87 []) Try.func87 Try.ntmps87 fun M w0=>(bg ⟨[(0,.agg (bR v1)),(1,.agg (bR v2))],[],[],[]⟩ ?_)
  unfold jM at h
  refine aQ 5 ?_
  cases h
  exact bF
end
noncomputable section
variable {K:Kn} {n:Nat} {M:Nat→Prop} {w0:Base} {r:Int} {v1:aB} 
theorem rD (hK:KnOk K) (h:mg K n v1=some r):ACalls Try.prog 88 [.agg (bR v1)] (fun v _=>v=iI r):=by
  refine bo (cat Try.f88 []) Try.func88 Try.ntmps88 fun M w0=>(bg ⟨[(0,.agg (bR v1))],[],[],[]⟩ ?_)
  unfold mg at h
  refine aQ 5 ?_
  cases h
  exact bF
end
def dN:=pth 0 11111
def p85_1:=pth 0 11110100
def p85_2:=pth 0 11110100110011111
def gJ:=pth 0 11110100111
def p85_4:=pth 0 11110100110011110101
def p85_5:=pth 0 1111010011001111
def p85_6:=pth 0 111101001100111101
def p85_7:=pth 0 111101001100111101001
def p85_8:=pth 5 1
def mF:=pth 5 10
def p85_10:=pth 6 1
def p85_11:=pth 0 1111010010
def p85_12:=pth 0 1111010011
def p85_13:=pth 0 1111010011000
def p85_14:=pth 0 1111010011001
def p85_15:=pth 0 11110100110010
def p85_16:=pth 0 11110100110011
def p85_17:=pth 0 11110100110011101
def p85_18:=pth 0 111101001100111010
def p85_19:=pth 0 1111101
def p85_20:=pth 0 111100
def p85_21:=pth 0 111101
def p85_22:=pth 0 1111010
noncomputable section
abbrev jo (M:Nat→Prop) (w0:Base):Cx:=⟨Try.prog,52,M,w0⟩
abbrev q85 (M:Nat→Prop) (w0:Base) (r:(List aa)×Int×aB×aB×Bool):=bodyPost Try.prog Try.f85 (RetQ M w0 (fun v s=>v = .tup [.ref 43,iI r.2.1,.agg (bR r.2.2.1),.agg (bR r.2.2.2.1),.bool r.2.2.2.2]∧look 43 s.r=some ⟨61,67,lm ao r.1⟩))
abbrev bJ (p:List Nat):Kont:=.c (cat Try.f85 p)
abbrev fq (M:Nat→Prop) (w0:Base) (r:(List aa)×Int×aB×aB×Bool) (m1:Nat):Kont:=kl (jo M w0) (q85 M w0 r) [.b 0,bJ dN] (cat Try.f85 p85_1) m1
def s85_j3 (v1:List aa) (v18:Int) (v21:List aa) (v24 v26:Int) (v27:Bool) (v28 v29:aB):AS:=⟨[(2,.ref 43),(3,iI v26),(4,.ptr 4 0),(5,.ptr 5 0),(6,.bool v27),(7,.ptr 7 0),(9,.ptr 9 0),(10,.sl (lm ao v1)),(11,iI (v1.length:Int)),(12,iI v18)],[(4,bR v28),(5,bR eX),(7,bR v29),(9,aD ({ (gD v1 v18) with Y:=v24 }:aa))],[(43,⟨61,67,lm ao v21⟩)],[4,5,7,9,43]⟩
def s85_j2 (v1:List aa) (v18:Int) (v21:List aa) (v22:aB) (v24:Int) (v25:aB):AS:=⟨[(2,.ref 43),(4,.ptr 4 0),(5,.ptr 5 0),(7,.ptr 7 0),(9,.ptr 9 0),(10,.sl (lm ao v1)),(11,iI (v1.length:Int)),(12,iI v18)],[(4,bR v25),(5,bR eX),(7,bR v22),(9,aD ({ (gD v1 v18) with Y:=v24 }:aa))],[(43,⟨61,67,lm ao v21⟩)],[4,5,7,9,43]⟩
def s85_j1 (v1:List aa) (v16:Int) (v17:Bool) (v18:Int) (v19:aB) (v21:List aa) (v22:aB) (v24:Int):AS:=⟨[(2,.ref 43),(3,iI v16),(4,.ptr 4 0),(5,.ptr 5 0),(6,.bool v17),(7,.ptr 7 0),(9,.ptr 9 0),(10,.sl (lm ao v1)),(11,iI (v1.length:Int)),(12,iI v18)],[(4,bR v19),(5,bR eX),(7,bR v22),(9,aD ({ (gD v1 v18) with Y:=v24 }:aa))],[(43,⟨61,67,lm ao v21⟩)],[4,5,7,9,43]⟩
def s85_j5 (v16:Int) (v17:Bool) (v20:aB) (v21:List aa) (v30:aB):AS:=⟨[(2,.ref 43),(3,iI v16),(4,.ptr 4 0),(5,.ptr 5 0),(6,.bool v17),(7,.ptr 7 0)],[(4,bR v30),(5,bR eX),(7,bR v20)],[(43,⟨61,67,lm ao v21⟩)],[4,5,7,43]⟩
def s85_l4 (v1:List aa) (v16:Int) (v17:Bool) (v18:Int) (v19 v20:aB) (v21:List aa):AS:=⟨[(2,.ref 43),(3,iI v16),(4,.ptr 4 0),(5,.ptr 5 0),(6,.bool v17),(7,.ptr 7 0),(10,.sl (lm ao v1)),(11,iI (v1.length:Int)),(12,iI v18)],[(4,bR v19),(5,bR eX),(7,bR v20)],[(43,⟨61,67,lm ao v21⟩)],[4,5,7,43]⟩
abbrev H85_1 (M:Nat→Prop) (w0:Base) (r:(List aa)×Int×aB×aB×Bool) (v1:List aa) (m1:Nat) (L1:Int→Bool→Int→aB→aB→(List aa)→Option ((List aa)×Int×aB×aB×Bool)):Prop:=∀ {v16:Int} {v17:Bool} {v18:Int} {v19:aB} {v20:aB} {v21:(List aa)},L1 v16 v17 v18 v19 v20 v21=some r→LP (jo M w0) (q85 M w0 r) [.b 0,bJ dN] (cat Try.f85 p85_1) m1 (s85_l4 v1 v16 v17 v18 v19 v20 v21)
variable {K:Kn} {n:Nat} {M:Nat→Prop} {w0:Base} {r:(List aa)×Int×aB×aB×Bool} {v1:List aa} {v16:Int} {v17:Bool} {v18:Int} {v19 v20:aB} {v21:List aa} {v22:aB} {v24:Int} {v25:aB} {v26:Int} {v27:Bool} {v28 v29 v30:aB} {m1:Nat} {L1:Int→Bool→Int→aB→aB→(List aa)→Option ((List aa)×Int×aB×aB×Bool)}
theorem tG (hK:KnOk K) (hL1:H85_1 M w0 r v1 m1 L1) (h:rb K n v1 v18 v21 v24 L1 v26 v27 v28 v29=some r):VE (jo M w0) (q85 M w0 r) [bJ p85_2,.b 1,bJ gJ,fq M w0 r m1,.b 0,bJ dN] .normal (s85_j3 v1 v18 v21 v24 v26 v27 v28 v29):=by
  unfold rb at h
  refine ai 2 (aq (fc ao ([({ (gD v1 v18) with Y:=v24 }:aa)]:List aa) (new:=[aD ({ (gD v1 v18) with Y:=v24 }:aa)]) (by simp only [List.map_cons,List.map_nil,cm])) ?_)
  obtain ⟨h22,h⟩:=av h
  exact aq (cE 43 43 61 67 ao (rfl) (db) h22) (ag (ah 2 (aY (hL1 h))))
theorem tC (hK:KnOk K) (hL1:H85_1 M w0 r v1 m1 L1) (h:qz K n v1 v18 v21 v22 v24 L1 v25=some r):VE (jo M w0) (q85 M w0 r) [bJ p85_4,bJ p85_2,.b 1,bJ gJ,fq M w0 r m1,.b 0,bJ dN] .normal (s85_j2 v1 v18 v21 v22 v24 v25):=by
  unfold qz at h
  exact ah 5 (tG hK hL1 h)
theorem tk (hK:KnOk K) (hL1:H85_1 M w0 r v1 m1 L1) (h:pY K n v1 v16 v17 v18 v19 v21 v22 L1 v24=some r):VE (jo M w0) (q85 M w0 r) [bJ p85_5,.b 1,bJ gJ,fq M w0 r m1,.b 0,bJ dN] .normal (s85_j1 v1 v16 v17 v18 v19 v21 v22 v24):=by
  unfold pY at h
  refine ac (ks':=[bJ p85_6,bJ p85_2,.b 1,bJ gJ,fq M w0 r m1,.b 0,bJ dN]) 3 ?_
  rcases au h with ⟨h20,h⟩ | ⟨h20,h⟩
  ·
   refine ak 30 h20 (ac (ks':=[bJ p85_7,bJ p85_4,bJ p85_2,.b 1,bJ gJ,fq M w0 r m1,.b 0,bJ dN]) 4 ?_)
   rcases au h with ⟨h21,h⟩ | ⟨h21,h⟩
   ·
    exact ak 31 h21 (ah 2 (tC hK hL1 h))
   ·
    exact ak 31 h21 (ah 2 (tC hK hL1 h))
  ·
   exact ak 30 h20 (ah 2 (tG hK hL1 h))
theorem tB (hK:KnOk K) (h:qP K n v16 v17 v20 v21 v30=some r):VE (jo M w0) (q85 M w0 r) [bJ p85_8] .normal (s85_j5 v16 v17 v20 v21 v30):=by
  unfold qP at h
  refine ac (ks':=[bJ mF,bJ p85_10]) 1 (bt [2,3,4,5,6,7] [4,5,7] [43] (bE 5 (nu 47 [.ref 43,iI v16,.agg (bR v30),.agg (bR v20),.bool v17]) [] [] [stp Try.prog 52 Try.f85 mF 5,stp Try.prog 52 Try.f85 mF 6,stp Try.prog 52 Try.f85 mF 7,stp Try.prog 52 Try.f85 mF 8,stp Try.prog 52 Try.f85 mF 9] (az [.v 0 1,.v 0 2,.v 0 3,.v 0 4,.v 0 5] (aj (e_d 0) (aj (e_d 1) (aj (e_d 2) (aj (e_d 3) (aj (e_d 4) bC)))))) (aQ 1 ?_)))
  cases h
  exact eI
theorem xb (hK:KnOk K) (hL1:H85_1 M w0 r v1 m1 L1) (h:rc K n v1 L1 v16 v17 v18 v19 v20 v21=some r):VE (jo M w0) (q85 M w0 r) [bJ p85_1,fq M w0 r m1,.b 0,bJ dN] .normal (s85_l4 v1 v16 v17 v18 v19 v20 v21):=by
  unfold rc at h
  refine ac (ks':=[bJ p85_11,bJ p85_12,fq M w0 r m1,.b 0,bJ dN]) 3 ?_
  rcases au h with ⟨h15,h⟩ | ⟨h15,h⟩
  ·
   refine ak 13 h15 (ac (ks':=[bJ p85_13,bJ p85_14,.b 1,bJ gJ,fq M w0 r m1,.b 0,bJ dN]) 5 (ai 0 ?_))
   obtain ⟨h16,h⟩:=av h
   refine aq (bL ao aD h16 (db) (cm)) (ag (ac (ks':=[bJ p85_15,bJ p85_16,.b 1,bJ gJ,fq M w0 r m1,.b 0,bJ dN]) 1 (ai 3 ?_)))
   obtain ⟨v22,h17,h⟩:=bind_some h
   refine aR (pf hK h17) (ag (ac (ks':=[bJ p85_17,bJ p85_5,.b 1,bJ gJ,fq M w0 r m1,.b 0,bJ dN]) 5 ?_))
   rcases au h with ⟨h18,h⟩ | ⟨h18,h⟩
   ·
    refine ak 22 h18 (ac (ks':=[bJ p85_18,bJ p85_5,.b 1,bJ gJ,fq M w0 r m1,.b 0,bJ dN]) 1 (ai 2 ?_))
    obtain ⟨v23,h19,h⟩:=bind_some h
    exact aR (rD hK h19) (ag (ah 0 (tk hK hL1 h)))
   ·
    exact ak 22 h18 (ah 2 (tk hK hL1 h))
  ·
   refine ak 13 h15 (ac (ks':=[bJ p85_19,bJ p85_8]) 8 ?_)
   rcases au h with ⟨h23,h⟩ | ⟨h23,h⟩
   ·
    exact ak 45 h23 (ah 2 (tB hK h))
   ·
    exact ak 45 h23 (ah 2 (tB hK h))
theorem wV (hK:KnOk K) (m:Nat):H85_1 M w0 r v1 m (qf K n v1 m):=by
  induction m with
 | zero=>intro v16 v17 v18 v19 v20 v21 h; cases h
 | succ m ih=>intro v16 v17 v18 v19 v20 v21 h; have h:rc K n v1 (qf K n v1 m) v16 v17 v18 v19 v20 v21=some r:=h; exact aW (xb hK ih h)
theorem vx (hK:KnOk K) (h:sx K n v1=some r):ACalls Try.prog 85 [.sl (lm ao v1)] (fun v s=>v = .tup [.ref 43,iI r.2.1,.agg (bR r.2.2.1),.agg (bR r.2.2.2.1),.bool r.2.2.2.2]∧look 43 s.r=some ⟨61,67,lm ao r.1⟩):=by
  refine bo (cat Try.f85 []) Try.func85 Try.ntmps85 fun M w0=>(bg ⟨[(0,.sl (lm ao v1))],[],[],[]⟩ ?_)
  unfold sx at h
  exact ac (ks':=[bJ p85_20,bJ p85_21,bJ dN]) 8 (ai 1 (aq (aZ ao v1) (ag (ac (ks':=[bJ p85_22,.b 0,bJ dN]) 1 (bt [2,3,4,5,6,7,10,11,12] [4,5,7] [] (dF 43 2 61 67 (ah 0 (bz (p:=p85_22) n (wV hK n h)))))))))
end
noncomputable section
variable {K:Kn} {n:Nat} {M:Nat→Prop} {w0:Base} {r v1:List aa} 
abbrev cF86 (p:List Nat):Kont:=.c (cat Try.f86 p)
theorem vK (hK:KnOk K) (h:n3 K n v1=some r):ACalls Try.prog 86 [.sl (lm ao v1)] (fun v s=>v = .ref 5∧look 5 s.r=some ⟨61,67,lm ao r⟩):=by
  refine bo (cat Try.f86 []) Try.func86 Try.ntmps86 fun M w0=>(bg ⟨[(0,.sl (lm ao v1))],[],[],[]⟩ ?_)
  unfold n3 at h
  refine ac (ks':=[cF86 [1,0,0],cF86 [1,0,1],cF86 [1,1]]) 4 (ai 1 ?_)
  refine ot_nilq (opAt Try.f86 [1,0,0] 1) (.eql) 59 59 (.tmp 3) (.const (.slice none 0 0)) 4 (lm ao v1) (r:=restAt Try.f86 [1,0,0] 2) (e:=61) (by kernel_rfl) (by kernel_rfl) (by kernel_rfl) (by kernel_rfl) (by kernel_rfl) (by kernel_rfl) (by kernel_rfl) (by kernel_rfl) (fun hq=>?_) ?_
  ·
   have h:=mX (by simpa using hq) h
   refine ag (aQ 5 (dF 5 2 61 67 ?_))
   cases h
   exact cO
  ·
   have h:=nB h
   refine ag (ac (ks':=[cF86 [1,1,0],cF86 [1,1,1]]) 3 (ai 0 (ot_bs 59 5 (e:=61) (sz:=67) (aV 2 1 ?_))))
   obtain ⟨h2,h⟩:=av h
   refine aq (cE 7 5 61 67 ao (rfl) (db) h2) (ag (aQ 1 ?_))
   cases h
   exact cO
end
noncomputable section
variable {K:Kn} {n:Nat} {M:Nat→Prop} {w0:Base} {r:Int} {v1:aS} 
theorem wd (hK:KnOk K) (h:qo K n v1=some r):ACalls Try.prog 89 [.agg (bI v1)] (fun v _=>v=iI r):=by
  refine bo (cat Try.f89 []) Try.func89 Try.ntmps89 fun M w0=>(bg ⟨[(0,.agg (bI v1))],[],[],[]⟩ ?_)
  unfold qo at h
  refine aQ 5 ?_
  cases h
  exact bF
end
noncomputable section
abbrev cx90 (M:Nat→Prop) (w0:Base):Cx:=⟨Try.prog,16,M,w0⟩
abbrev q90 (M:Nat→Prop) (w0:Base) (r:Bool):=bodyPost Try.prog Try.f90 (RetQ M w0 (fun v _=>v = .bool r))
def s90_j1 (v2:Bool):AS:=⟨[(2,.bool v2)],[],[],[]⟩
variable {K:Kn} {n:Nat} {M:Nat→Prop} {w0:Base} {r:Bool} {v1:ab} {v2:Bool} 
abbrev cF90 (p:List Nat):Kont:=.c (cat Try.f90 p)
theorem rS (hK:KnOk K) (h:l5 K n v2=some r):VE (cx90 M w0) (q90 M w0 r) [cF90 [1,1]] .normal (s90_j1 v2):=by
  unfold l5 at h
  refine aQ 1 ?_
  cases h
  exact bF
theorem ui (hK:KnOk K) (h:l6 K n v1=some r):ACalls Try.prog 90 [.agg (aF v1)] (fun v _=>v = .bool r):=by
  refine bo (cat Try.f90 []) Try.func90 Try.ntmps90 fun M w0=>(bg ⟨[(0,.agg (aF v1))],[],[],[]⟩ ?_)
  unfold l6 at h
  refine ac (ks':=[cF90 [1,0],cF90 [1,1]]) 3 (ai 4 ?_)
  rcases au h with ⟨h1,h⟩ | ⟨h1,h⟩
  ·
   exact aL 6 h1 (ag (ah 0 (rS hK h)))
  ·
   refine aL 6 h1 (aV 9 5 ?_)
   rcases au h with ⟨h2,h⟩ | ⟨h2,h⟩
   ·
    exact aL 11 h2 (ag (ah 0 (rS hK h)))
   ·
    exact aL 11 h2 (ag (ah 0 (rS hK h)))
end
def p91_0:=pth 5 1
def p91_1:=pth 0 1111101
def p91_2:=pth 0 111110100
def p91_3:=pth 0 111110101
noncomputable section
abbrev cx91 (M:Nat→Prop) (w0:Base):Cx:=⟨Try.prog,45,M,w0⟩
abbrev q91 (M:Nat→Prop) (w0:Base) (r:aa):=bodyPost Try.prog Try.f91 (RetQ M w0 (fun v _=>v = .agg (aD r)))
def s91_j1 (v1:aa) (v3:Int×Bool) (v5:Int):AS:=⟨[(2,.ptr 2 0),(4,.ptr 4 0)],[(2,aD ({ v1 with X:=(w64 (v1.X+v3.1)),Y:=v5 }:aa)),(4,List.set (aD aX) 66 (.nils))],[],[2,4]⟩
variable {K:Kn} {n:Nat} {M:Nat→Prop} {w0:Base} {r v1:aa} {v2:Int} {v3:Int×Bool} {v5:Int} 
abbrev f8 (p:List Nat):Kont:=.c (cat Try.f91 p)
theorem ux (hK:KnOk K) (h:nL K n v1 v3 v5=some r):VE (cx91 M w0) (q91 M w0 r) [f8 p91_0] .normal (s91_j1 v1 v3 v5):=by
  unfold nL at h
  refine aQ 3 ?_
  cases h
  exact bF
theorem xe (hK:KnOk K) (h:nM K n v1 v2=some r):ACalls Try.prog 91 [.agg (aD v1),iI v2] (fun v _=>v = .agg (aD r)):=by
  refine bo (cat Try.f91 []) Try.func91 Try.ntmps91 fun M w0=>(bg ⟨[(0,.agg (aD v1)),(1,iI v2)],[],[],[]⟩ ?_)
  unfold nM at h
  refine ac (ks':=[f8 [1,0,1],f8 [1,1]]) 5 ?_
  rcases au h with ⟨h1,h⟩ | ⟨h1,h⟩
  ·
   refine ak 12 h1 (aQ 5 ?_)
   cases h
   exact bF
  ·
   refine ak 12 h1 (ac (ks':=[f8 [1,1,0],f8 [1,1,1]]) 3 (ai 4 ?_))
   obtain ⟨v3,h2,h⟩:=bind_some h
   refine aR (df hK h2) (ag (ac (ks':=[f8 p91_1,f8 p91_0]) 5 ?_))
   rcases au h with ⟨h3,h⟩ | ⟨h3,h⟩
   ·
    refine ak 31 h3 (ac (ks':=[f8 p91_2,f8 p91_3,f8 p91_0]) 2 (ai 3 ?_))
    obtain ⟨v4,h4,h⟩:=bind_some h
    exact aR (df hK h4) (ag (ah 1 (ux hK h)))
   ·
    exact ak 31 h3 (ah 2 (ux hK h))
end
def fv:=pth 16 1
def p79_1:=pth 15 10100
def hI:=pth 6 101011
def eO:=pth 7 1
def p79_4:=pth 6 101010100
def lr:=pth 15 10100111
def p79_6:=pth 15 1010011001111
def p79_7:=pth 15 10100110011110
def p79_8:=pth 15 1010010
def p79_9:=pth 15 1010011
def p79_10:=pth 15 10100110010
def p79_11:=pth 15 10100110011
def p79_12:=pth 15 101001100110
def p79_13:=pth 15 101001100111
def p79_14:=pth 15 1010011001110
def p79_15:=pth 12 1
def p79_16:=pth 13 10
def p79_17:=pth 14 1
def p79_18:=pth 15 100
def p79_19:=pth 15 101
def p79_20:=pth 15 1010
def p79_21:=pth 11 1011
def fQ:=pth 10 1
def p79_23:=pth 11 100
def p79_24:=pth 11 101
def p79_25:=pth 11 1010
def p79_26:=pth 9 1001
def p79_27:=pth 9 100100
def p79_28:=pth 9 100101
def p79_29:=pth 9 100111
def p79_30:=pth 9 100111011
def p79_31:=pth 9 1001110110
def p79_32:=pth 9 10011111
def p79_33:=pth 9 1001111100
def p79_34:=pth 9 1001111101
def p79_35:=pth 9 100111111
def kJ:=pth 9 1
def p79_37:=pth 9 1000
def p79_38:=pth 8 100111
def p79_39:=pth 8 1001110
def p79_40:=pth 7 10
def p79_41:=pth 8 1
def p79_42:=pth 8 1001
def p79_43:=pth 8 10010
def p79_44:=pth 8 100110
def p79_45:=pth 6 10101010010
def p79_46:=pth 6 10101010011
def p79_47:=pth 6 10101010011000
def p79_48:=pth 6 10101010011001
def p79_49:=pth 6 101010100111
def p79_50:=pth 6 101
def p79_51:=pth 6 1010100
def p79_52:=pth 6 1010101
def p79_53:=pth 6 10101010
def p79_54:=pth 6 10110
def p79_55:=pth 6 10111
def p79_56:=pth 6 101110
def p79_57:=pth 6 101111
noncomputable section
abbrev dS (M:Nat→Prop) (w0:Base):Cx:=⟨Try.prog,259,M,w0⟩
abbrev q79 (M:Nat→Prop) (w0:Base) (r:aa):=bodyPost Try.prog Try.f79 (RetQ M w0 (fun v s=>v = .agg (List.set (aD ({ r with Kids:=[] }:aa)) 66 (.ref 1054))∧look 1054 s.r=some ⟨61,67,lm ao r.Kids⟩))
abbrev aJ (p:List Nat):Kont:=.c (cat Try.f79 p)
abbrev ik (M:Nat→Prop) (w0:Base) (r:aa) (m2:Nat):Kont:=kl (dS M w0) (q79 M w0 r) [.b 4,aJ fv] (cat Try.f79 p79_1) m2
abbrev k79_1 (M:Nat→Prop) (w0:Base) (r:aa) (m1:Nat):Kont:=kl (dS M w0) (q79 M w0 r) [.b 0,aJ hI,aJ eO] (cat Try.f79 p79_4) m1
def s79_j10 (v1:ab) (v2:aS) (v6:(List ab)×Bool) (v19:List aa) (v25:Int) (v33 v34:aB) (v35:Bool) (v39 v40 v47:Int) (v54:List aa):AS:=⟨[(6,.ptr 6 0),(10,.ptr 10 0),(11,.ptr 11 0),(12,.sl (lm ax v6.1)),(13,.bool v6.2),(15,iI v25),(199,iI (v19.length:Int)),(200,iI v47)],[(6,bI v2),(10,List.set (aD aX) 66 (.nils)),(11,List.set (aD (⟨1,v1.Node,v2.Margin.a3,0,(w64 (v2.Content+v39)),v40,0,⟨#[]⟩,v1.Style,v33,v34,v35,[]⟩:aa)) 66 (.ref 1054))],[(1054,⟨61,67,lm ao v54⟩)],[6,10,11,1054]⟩
def s79_j9 (v1:ab) (v2:aS) (v6:(List ab)×Bool) (v19:List aa) (v25:Int) (v33 v34:aB) (v35:Bool) (v39 v40 v47:Int) (v50:List aa) (v52:Bool):AS:=⟨[(6,.ptr 6 0),(10,.ptr 10 0),(11,.ptr 11 0),(12,.sl (lm ax v6.1)),(13,.bool v6.2),(15,iI v25),(24,iI v47),(199,iI (v19.length:Int)),(200,iI v47),(244,.bool v52)],[(6,bI v2),(10,List.set (aD aX) 66 (.nils)),(11,List.set (aD (⟨1,v1.Node,v2.Margin.a3,0,(w64 (v2.Content+v39)),v40,0,⟨#[]⟩,v1.Style,v33,v34,v35,[]⟩:aa)) 66 (.ref 1054))],[(1054,⟨61,67,lm ao v50⟩)],[6,10,11,1054]⟩
def s79_l11 (v1:ab) (v2:aS) (v6:(List ab)×Bool) (v19:List aa) (v25:Int) (v33 v34:aB) (v35:Bool) (v39 v40 v47:Int) (v48:List aa):AS:=⟨[(6,.ptr 6 0),(10,.ptr 10 0),(11,.ptr 11 0),(12,.sl (lm ax v6.1)),(13,.bool v6.2),(15,iI v25),(199,iI (v19.length:Int)),(200,iI v47)],[(6,bI v2),(10,List.set (aD aX) 66 (.nils)),(11,List.set (aD (⟨1,v1.Node,v2.Margin.a3,0,(w64 (v2.Content+v39)),v40,0,⟨#[]⟩,v1.Style,v33,v34,v35,[]⟩:aa)) 66 (.ref 1054))],[(1054,⟨61,67,lm ao v48⟩)],[6,10,11,1054]⟩
def s79_j8 (v1:ab) (v2:aS) (v6:(List ab)×Bool) (v19:List aa) (v25:Int) (v33 v34:aB) (v35:Bool) (v38:Int):AS:=⟨[(6,.ptr 6 0),(10,.ptr 10 0),(11,.ptr 11 0),(12,.sl (lm ax v6.1)),(13,.bool v6.2),(14,iI v38),(15,iI v25)],[(6,bI v2),(10,List.set (aD aX) 66 (.nils)),(11,List.set (aD ({ aX with Kind:=1,Node:=v1.Node,Style:=v1.Style,Before:=v33,After:=v34,Empty:=v35 }:aa)) 66 (.ref 1054))],[(1054,⟨61,67,lm ao v19⟩)],[6,10,11,1054]⟩
def s79_j7 (v1:ab) (v2:aS) (v6:(List ab)×Bool) (v19:List aa) (v25 v32:Int) (v33 v34:aB) (v35:Bool) (v36:Int×Bool) (v37:Bool):AS:=⟨[(6,.ptr 6 0),(10,.ptr 10 0),(11,.ptr 11 0),(12,.sl (lm ax v6.1)),(13,.bool v6.2),(14,iI (max v32 0)),(15,iI v25),(22,iI v36.1),(166,.bool v37)],[(6,bI v2),(10,List.set (aD aX) 66 (.nils)),(11,List.set (aD ({ aX with Kind:=1,Node:=v1.Node,Style:=v1.Style,Before:=v33,After:=v34,Empty:=v35 }:aa)) 66 (.ref 1054))],[(1054,⟨61,67,lm ao v19⟩)],[6,10,11,1054]⟩
def s79_j6 (v1:ab) (v2:aS) (v6:(List ab)×Bool) (v19:List aa) (v25 v32:Int) (v33 v34:aB) (v35:Bool):AS:=⟨[(5,.ptr 5 0),(6,.ptr 6 0),(10,.ptr 10 0),(11,.ptr 11 0),(12,.sl (lm ax v6.1)),(13,.bool v6.2),(14,iI v32),(15,iI v25)],[(5,aF v1),(6,bI v2),(10,List.set (aD aX) 66 (.nils)),(11,List.set (aD ({ aX with Kind:=1,Node:=v1.Node,Style:=v1.Style,Before:=v33,After:=v34,Empty:=v35 }:aa)) 66 (.ref 1054))],[(1054,⟨61,67,lm ao v19⟩)],[5,6,10,11,1054]⟩
def s79_j5 (v1:ab) (v2:aS) (v4:Bool) (v6:(List ab)×Bool) (v15:Int) (v16:Bool) (v17 v18:aB) (v19:List aa) (v21:aB) (v25:Int) (v26:aB) (v27:Bool):AS:=⟨[(3,.bool v4),(5,.ptr 5 0),(6,.ptr 6 0),(10,.ptr 10 0),(11,.ptr 11 0),(12,.sl (lm ax v6.1)),(13,.bool v6.2),(14,iI v15),(15,iI v25),(16,.ptr 16 0),(17,.ptr 17 0),(18,.bool v16),(113,.bool v27)],[(5,aF v1),(6,bI v2),(10,List.set (aD aX) 66 (.nils)),(11,List.set (aD ({ aX with Kind:=1,Node:=v1.Node,Style:=v1.Style,Before:=v26,After:=v21 }:aa)) 66 (.ref 1054)),(16,bR v17),(17,bR v18)],[(1054,⟨61,67,lm ao v19⟩)],[5,6,10,11,16,17,1054]⟩
def s79_j4 (v1:ab) (v2:aS) (v3 v4:Bool) (v6:(List ab)×Bool) (v15:Int) (v16:Bool) (v17 v18:aB) (v19:List aa) (v21:aB) (v25:Int) (v26:aB):AS:=⟨[(2,.bool v3),(3,.bool v4),(5,.ptr 5 0),(6,.ptr 6 0),(10,.ptr 10 0),(11,.ptr 11 0),(12,.sl (lm ax v6.1)),(13,.bool v6.2),(14,iI v15),(15,iI v25),(16,.ptr 16 0),(17,.ptr 17 0),(18,.bool v16)],[(5,aF v1),(6,bI v2),(10,List.set (aD aX) 66 (.nils)),(11,List.set (aD ({ aX with Kind:=1,Node:=v1.Node,Style:=v1.Style,Before:=v26,After:=v21 }:aa)) 66 (.ref 1054)),(16,bR v17),(17,bR v18)],[(1054,⟨61,67,lm ao v19⟩)],[5,6,10,11,16,17,1054]⟩
def s79_j3 (v1:ab) (v2:aS) (v3 v4:Bool) (v6:(List ab)×Bool) (v15:Int) (v16:Bool) (v17 v18:aB) (v19:List aa) (v20 v21:aB) (v23:Bool):AS:=⟨[(2,.bool v3),(3,.bool v4),(5,.ptr 5 0),(6,.ptr 6 0),(10,.ptr 10 0),(11,.ptr 11 0),(12,.sl (lm ax v6.1)),(13,.bool v6.2),(14,iI v15),(15,iI 0),(16,.ptr 16 0),(17,.ptr 17 0),(18,.bool v16),(98,.bool v23)],[(5,aF v1),(6,bI v2),(10,List.set (aD aX) 66 (.nils)),(11,List.set (aD ({ aX with Kind:=1,Node:=v1.Node,Style:=v1.Style,Before:=v20,After:=v21 }:aa)) 66 (.ref 1054)),(16,bR v17),(17,bR v18)],[(1054,⟨61,67,lm ao v19⟩)],[5,6,10,11,16,17,1054]⟩
def s79_j2 (v1:ab) (v2:aS) (v3 v4:Bool) (v6:(List ab)×Bool) (v15:Int) (v16:Bool) (v17 v18:aB) (v19:List aa):AS:=⟨[(2,.bool v3),(3,.bool v4),(5,.ptr 5 0),(6,.ptr 6 0),(10,.ptr 10 0),(11,.ptr 11 0),(12,.sl (lm ax v6.1)),(13,.bool v6.2),(14,iI v15),(15,iI 0),(16,.ptr 16 0),(17,.ptr 17 0),(18,.bool v16)],[(5,aF v1),(6,bI v2),(10,List.set (aD aX) 66 (.nils)),(11,List.set (aD ({ aX with Kind:=1,Node:=v1.Node,Style:=v1.Style }:aa)) 66 (.ref 1054)),(16,bR v17),(17,bR v18)],[(1054,⟨61,67,lm ao v19⟩)],[5,6,10,11,16,17,1054]⟩
def s79_l1 (v1:ab) (v2:aS) (v3 v4:Bool) (v5:bw) (v6:(List ab)×Bool) (v9:Int) (v10:List aa):AS:=⟨[(2,.bool v3),(3,.bool v4),(5,.ptr 5 0),(6,.ptr 6 0),(9,.ptr 9 0),(10,.ptr 10 0),(11,.ptr 11 0),(12,.sl (lm ax v6.1)),(13,.bool v6.2),(15,iI 0),(16,.ptr 16 0),(17,.ptr 17 0),(19,.ref 50),(36,.sl (lm ax v6.1)),(37,iI (v6.1.length:Int)),(38,iI v9)],[(5,aF v1),(6,bI v2),(9,cj v5),(10,List.set (aD aX) 66 (.nils)),(11,List.set (aD ({ aX with Kind:=1,Node:=v1.Node,Style:=v1.Style }:aa)) 66 (.nils)),(16,bR eX),(17,bR eX)],[(50,⟨61,67,lm ao v10⟩)],[5,6,9,10,11,16,17,50]⟩
abbrev H79_1 (M:Nat→Prop) (w0:Base) (r:aa) (v1:ab) (v2:aS) (v3 v4:Bool) (v5:bw) (v6:(List ab)×Bool) (m1:Nat) (L1:Int→(List aa)→Option aa):Prop:=∀ {v9:Int} {v10:(List aa)},L1 v9 v10=some r→LP (dS M w0) (q79 M w0 r) [.b 0,aJ hI,aJ eO] (cat Try.f79 p79_4) m1 (s79_l1 v1 v2 v3 v4 v5 v6 v9 v10)
abbrev H79_2 (M:Nat→Prop) (w0:Base) (r:aa) (v1:ab) (v2:aS) (v6:(List ab)×Bool) (v19:List aa) (v25:Int) (v33 v34:aB) (v35:Bool) (v39 v40:Int) (m2:Nat) (L2:Int→(List aa)→Option aa):Prop:=∀ {v47:Int} {v48:(List aa)},L2 v47 v48=some r→LP (dS M w0) (q79 M w0 r) [.b 4,aJ fv] (cat Try.f79 p79_1) m2 (s79_l11 v1 v2 v6 v19 v25 v33 v34 v35 v39 v40 v47 v48)
variable {K:Kn} {n:Nat} {M:Nat→Prop} {w0:Base} {r:aa} {v1:ab} {v2:aS} {v3 v4:Bool} {v5:bw} {v6:(List ab)×Bool} {v9:Int} {v10:List aa} {v15:Int} {v16:Bool} {v17 v18:aB} {v19:List aa} {v20 v21:aB} {v23:Bool} {v25:Int} {v26:aB} {v27:Bool} {v32:Int} {v33 v34:aB} {v35:Bool} {v36:Int×Bool} {v37:Bool} {v38 v39 v40 v47:Int} {v48 v50:List aa} {v52:Bool} {v54:List aa} {m1:Nat} {L1:Int→(List aa)→Option aa} {m2:Nat} {L2:Int→(List aa)→Option aa}
theorem tY (hK:KnOk K) (hL2:H79_2 M w0 r v1 v2 v6 v19 v25 v33 v34 v35 v39 v40 m2 L2) (h:oU K n v1 v2 v6 v19 v25 v33 v34 v35 v39 v40 v47 L2 v54=some r):VE (dS M w0) (q79 M w0 r) [.b 5,aJ lr,ik M w0 r m2,.b 4,aJ fv] .normal (s79_j10 v1 v2 v6 v19 v25 v33 v34 v35 v39 v40 v47 v54):=by
  unfold oU at h
  exact ah 2 (aY (hL2 h))
theorem uy (hK:KnOk K) (hL2:H79_2 M w0 r v1 v2 v6 v19 v25 v33 v34 v35 v39 v40 m2 L2) (h:nq K n v1 v2 v6 v19 v25 v33 v34 v35 v39 v40 v47 v50 L2 v52=some r):VE (dS M w0) (q79 M w0 r) [aJ p79_6,.b 5,aJ lr,ik M w0 r m2,.b 4,aJ fv] .normal (s79_j9 v1 v2 v6 v19 v25 v33 v34 v35 v39 v40 v47 v50 v52):=by
  unfold nq at h
  rcases au h with ⟨h64,h⟩ | ⟨h64,h⟩
  ·
   refine ak 244 h64 (ac (ks':=[aJ p79_7,.b 5,aJ lr,ik M w0 r m2,.b 4,aJ fv]) 1 (bt [6,10,11,12,13,15,24,199,200] [6,10,11] [1054] ?_))
   obtain ⟨h65,h⟩:=av h
   obtain ⟨v53,h66,h⟩:=bind_some h
   obtain ⟨h67,h⟩:=av h
   exact bE 1 (nu 245 [.ptr 11 66,.ref 1054,iI v47,.ptr 11 66,.ref 1054,iI v47,.eptr 1054 67 (v47.toNat) 0,.agg (aD (gD v50 v47)),.ptr 6 12,iI v2.Content,.agg (aD v53),.eptr 1054 67 (v47.toNat) 0]) [] [] [strS 1054 ⟨61,67,lm ao (List.set v50 v47.toNat v53)⟩] (az (vz 6) (d_v (bv 1054 67 ao (L:=v50) h65) (d_v (bj 61 0 ao aD (aI h67).2 (cm)) (az (vz 2) (aj (e_c 0 1 255 (xe hK h66)) (d_v (bv 1054 67 ao (L:=v50) h67) (aj (e_s (m:=0) (cq 1054 61 67 0 ao aD v53 (aI h67).2 (cm))) bC))))))) (ah 0 (tY hK hL2 h))
  ·
   exact ak 244 h64 (ah 2 (tY hK hL2 h))
theorem uU (hK:KnOk K) (hL2:H79_2 M w0 r v1 v2 v6 v19 v25 v33 v34 v35 v39 v40 m2 L2) (h:nb K n v1 v2 v6 v19 v25 v33 v34 v35 v39 v40 L2 v47 v48=some r):VE (dS M w0) (q79 M w0 r) [aJ p79_1,ik M w0 r m2,.b 4,aJ fv] .normal (s79_l11 v1 v2 v6 v19 v25 v33 v34 v35 v39 v40 v47 v48):=by
  unfold nb at h
  refine ac (ks':=[aJ p79_8,aJ p79_9,ik M w0 r m2,.b 4,aJ fv]) 3 ?_
  rcases au h with ⟨h54,h⟩ | ⟨h54,h⟩
  ·
   refine ak 201 h54 (ac (ks':=[aJ p79_10,aJ p79_11,.b 5,aJ lr,ik M w0 r m2,.b 4,aJ fv]) 7 (bt [6,10,11,12,13,15,24,199,200] [6,10,11] [1054] ?_))
   obtain ⟨h55,h⟩:=av h
   obtain ⟨h56,h⟩:=av h
   refine bE 1 (nu 203 [.ptr 11 66,.ref 1054,iI v47,.eptr 1054 67 (v47.toNat) 0,.eptr 1054 67 (v47.toNat) 2,iI ((gD v48 v47).X),.ptr 6 4,.ptr 6 7,iI v2.Border.a3,.ptr 6 8,.ptr 6 11,iI v2.Padding.a3,iI (w64 (v2.Border.a3+v2.Padding.a3)),iI (w64 (((gD v48 v47).X)+(w64 (v2.Border.a3+v2.Padding.a3)))),.eptr 1054 67 (v47.toNat) 0,.eptr 1054 67 (v47.toNat) 2]) [] [] [strS 1054 ⟨61,67,lm ao (List.set v48 v47.toNat ({ (gD v48 v47) with X:=(w64 (((gD v48 v47).X)+(w64 (v2.Border.a3+v2.Padding.a3)))) }:aa))⟩] (az (vz 3) (d_v (bv 1054 67 ao (L:=v48) h55) (az [.v 0 1] (d_v (bj 3 2 ao aD (aI h56).2 (cm)) (az (vz 8) (aj (k_v (lo:=0) (k:=2) (bW ⟨(by kernel_rfl),(cc (bv 1054 67 ao (L:=v48) h56) (by kernel_rfl))⟩ (bW ⟨(by kernel_rfl),(cc (bv 1054 67 ao (L:=(List.set v48 v47.toNat ({ (gD v48 v47) with X:=(w64 (((gD v48 v47).X)+(w64 (v2.Border.a3+v2.Padding.a3)))) }:aa))) h56) (by kernel_rfl))⟩ dd))) (az [.v 0 1] (aj (e_s (m:=0) (cq 1054 61 67 2 ao aD ({ (gD v48 v47) with X:=(w64 (((gD v48 v47).X)+(w64 (v2.Border.a3+v2.Padding.a3)))) }:aa) (aI h56).2 (cm))) bC)))))))) ?_
   obtain ⟨v49,h57,h⟩:=bind_some h
   have h57:=Option.some.inj h57
   refine bq (ks':=[aJ p79_12,aJ p79_13,.b 5,aJ lr,ik M w0 r m2,.b 4,aJ fv]) 1 ⟨[(6,.ptr 6 0),(10,.ptr 10 0),(11,.ptr 11 0),(12,.sl (lm ax v6.1)),(13,.bool v6.2),(15,iI v25),(24,iI v47),(199,iI (v19.length:Int)),(200,iI v47)],[(6,bI v2),(10,List.set (aD aX) 66 (.nils)),(11,List.set (aD (⟨1,v1.Node,v2.Margin.a3,0,(w64 (v2.Content+v39)),v40,0,⟨#[]⟩,v1.Style,v33,v34,v35,[]⟩:aa)) 66 (.ref 1054))],[(1054,⟨61,67,lm ao v49⟩)],[6,10,11,1054]⟩ ?_ (by subst h57; kernel_rfl)
   obtain ⟨h58,h⟩:=av h
   obtain ⟨h59,h⟩:=av h
   refine bE 1 (nu 219 [.ptr 11 66,.ref 1054,iI v47,.eptr 1054 67 (v47.toNat) 0,.eptr 1054 67 (v47.toNat) 3,iI ((gD v49 v47).Y),.ptr 6 4,.ptr 6 4,iI v2.Border.a0,.ptr 6 8,.ptr 6 8,iI v2.Padding.a0,iI (w64 (v2.Border.a0+v2.Padding.a0)),iI v25,iI (w64 ((w64 (v2.Border.a0+v2.Padding.a0))+v25)),iI (w64 (((gD v49 v47).Y)+(w64 ((w64 (v2.Border.a0+v2.Padding.a0))+v25)))),.eptr 1054 67 (v47.toNat) 0,.eptr 1054 67 (v47.toNat) 3]) [] [] [strS 1054 ⟨61,67,lm ao (List.set v49 v47.toNat ({ (gD v49 v47) with Y:=(w64 (((gD v49 v47).Y)+(w64 ((w64 (v2.Border.a0+v2.Padding.a0))+v25)))) }:aa))⟩] (az (vz 3) (d_v (bv 1054 67 ao (L:=v49) h58) (az [.v 0 1] (d_v (bj 3 3 ao aD (aI h59).2 (cm)) (az (vz 10) (aj (k_v (lo:=0) (k:=2) (bW ⟨(by kernel_rfl),(cc (bv 1054 67 ao (L:=v49) h59) (by kernel_rfl))⟩ (bW ⟨(by kernel_rfl),(cc (bv 1054 67 ao (L:=(List.set v49 v47.toNat ({ (gD v49 v47) with Y:=(w64 (((gD v49 v47).Y)+(w64 ((w64 (v2.Border.a0+v2.Padding.a0))+v25)))) }:aa))) h59) (by kernel_rfl))⟩ dd))) (az [.v 0 1] (aj (e_s (m:=0) (cq 1054 61 67 3 ao aD ({ (gD v49 v47) with Y:=(w64 (((gD v49 v47).Y)+(w64 ((w64 (v2.Border.a0+v2.Padding.a0))+v25)))) }:aa) (aI h59).2 (cm))) bC)))))))) ?_
   obtain ⟨v50,h60,h⟩:=bind_some h
   have h60:=Option.some.inj h60
   refine bq (ks':=[aJ p79_14,aJ p79_6,.b 5,aJ lr,ik M w0 r m2,.b 4,aJ fv]) 1 ⟨[(6,.ptr 6 0),(10,.ptr 10 0),(11,.ptr 11 0),(12,.sl (lm ax v6.1)),(13,.bool v6.2),(15,iI v25),(24,iI v47),(199,iI (v19.length:Int)),(200,iI v47)],[(6,bI v2),(10,List.set (aD aX) 66 (.nils)),(11,List.set (aD (⟨1,v1.Node,v2.Margin.a3,0,(w64 (v2.Content+v39)),v40,0,⟨#[]⟩,v1.Style,v33,v34,v35,[]⟩:aa)) 66 (.ref 1054))],[(1054,⟨61,67,lm ao v50⟩)],[6,10,11,1054]⟩ ?_ (by subst h60; kernel_rfl)
   refine ai 2 ?_
   rcases au h with ⟨h61,h⟩ | ⟨h61,h⟩
   ·
    refine aL 238 h61 (aV 4 2 ?_)
    obtain ⟨h62,h⟩:=av h
    refine aq (bL ax aF h62 (co) (b8)) (aV 6 1 ?_)
    obtain ⟨v51,h63,h⟩:=bind_some h
    exact aR (ui hK h63) (ag (ah 0 (uy hK hL2 h)))
   ·
    exact aL 238 h61 (ag (ah 0 (uy hK hL2 h)))
  ·
   refine ak 201 h54 (aQ 8 ?_)
   cases h
   exact cO
theorem uI (hK:KnOk K) (m:Nat):H79_2 M w0 r v1 v2 v6 v19 v25 v33 v34 v35 v39 v40 m (kY K n v1 v2 v6 v19 v25 v33 v34 v35 v39 v40 m):=by
  induction m with
 | zero=>intro v47 v48 h; cases h
 | succ m ih=>intro v47 v48 h; have h:nb K n v1 v2 v6 v19 v25 v33 v34 v35 v39 v40 (kY K n v1 v2 v6 v19 v25 v33 v34 v35 v39 v40 m) v47 v48=some r:=h; exact aW (uU hK ih h)
theorem ua (hK:KnOk K) (h:kU K n v1 v2 v6 v19 v25 v33 v34 v35 v38=some r):VE (dS M w0) (q79 M w0 r) [aJ p79_15] .normal (s79_j8 v1 v2 v6 v19 v25 v33 v34 v35 v38):=by
  unfold kU at h
  refine ac (ks':=[aJ p79_16,aJ p79_17]) 3 (bt [6,10,11,12,13,14,15] [6,10,11] [1054] ?_)
  obtain ⟨v39,h38,h⟩:=bind_some h
  refine bE 1 (nu 173 [.ptr 6 12,iI v2.Content,.agg (bI v2),iI v39,iI (w64 (v2.Content+v39)),.ptr 11 4]) [] [] [stp Try.prog 259 Try.f79 p79_16 6] (az (vz 3) (aj (e_c 0 1 176 (wd hK h38)) (az (vz 2) (aj (e_d 0) bC)))) ?_
  obtain ⟨v40,h39,h⟩:=bind_some h
  have h39:=Option.some.inj h39
  refine bq (ks':=[aJ p79_18,aJ p79_19,aJ fv]) 4 ⟨[(6,.ptr 6 0),(10,.ptr 10 0),(11,.ptr 11 0),(12,.sl (lm ax v6.1)),(13,.bool v6.2),(15,iI v25)],[(6,bI v2),(10,List.set (aD aX) 66 (.nils)),(11,List.set (aD (⟨1,v1.Node,v2.Margin.a3,0,(w64 (v2.Content+v39)),v40,0,⟨#[]⟩,v1.Style,v33,v34,v35,[]⟩:aa)) 66 (.ref 1054))],[(1054,⟨61,67,lm ao v19⟩)],[6,10,11,1054]⟩ ?_ (by subst h39; kernel_rfl)
  exact ai 2 (aq (aZ ao v19) (ag (ah 1 (bz (p:=p79_20) n (uI hK n h)))))
theorem ud (hK:KnOk K) (h:nd K n v1 v2 v6 v19 v25 v32 v33 v34 v35 v36 v37=some r):VE (dS M w0) (q79 M w0 r) [aJ p79_21,aJ p79_15] .normal (s79_j7 v1 v2 v6 v19 v25 v32 v33 v34 v35 v36 v37):=by
  unfold nd at h
  rcases au h with ⟨h37,h⟩ | ⟨h37,h⟩
  ·
   exact ak 166 h37 (ah 2 (ua hK h))
  ·
   exact ak 166 h37 (ah 2 (ua hK h))
theorem oB (hK:KnOk K) (h:fJ K n v1 v2 v6 v19 v25 v32 v33 v34 v35=some r):VE (dS M w0) (q79 M w0 r) [.b 3,aJ fQ] .normal (s79_j6 v1 v2 v6 v19 v25 v32 v33 v34 v35):=by
  unfold fJ at h
  refine ac (ks':=[aJ p79_23,aJ p79_24,aJ p79_15]) 5 (ai 3 ?_)
  obtain ⟨v36,h35,h⟩:=bind_some h
  refine aR (df hK h35) (ag (ac (ks':=[aJ p79_25,aJ p79_21,aJ p79_15]) 1 (ai 2 ?_)))
  rcases au h with ⟨h36,h⟩ | ⟨h36,h⟩
  ·
   exact aL 160 h36 (ag (ah 0 (ud hK h)))
  ·
   exact aL 160 h36 (ag (ah 0 (ud hK h)))
theorem ry (hK:KnOk K) (h:kz K n v1 v2 v4 v6 v15 v16 v17 v18 v19 v21 v25 v26 v27=some r):VE (dS M w0) (q79 M w0 r) [aJ p79_26,.b 3,aJ fQ] .normal (s79_j5 v1 v2 v4 v6 v15 v16 v17 v18 v19 v21 v25 v26 v27):=by
  unfold kz at h
  rcases au h with ⟨h27,h⟩ | ⟨h27,h⟩
  ·
   refine ak 113 h27 (ac (ks':=[aJ p79_27,aJ p79_28,.b 3,aJ fQ]) 2 (ai 4 ?_))
   obtain ⟨v28,h28,h⟩:=bind_some h
   exact aR (pf hK h28) (ag (ah 5 (oB hK h)))
  ·
   refine ak 113 h27 (ac (ks':=[aJ p79_29,.b 3,aJ fQ]) 3 ?_)
   rcases au h with ⟨h29,h⟩ | ⟨h29,h⟩
   ·
    refine ak 131 h29 (ac (ks':=[aJ p79_30,.b 3,aJ fQ]) 5 ?_)
    rcases au h with ⟨h30,h⟩ | ⟨h30,h⟩
    ·
     refine ak 134 h30 (ac (ks':=[aJ p79_31,.b 3,aJ fQ]) 1 (ai 3 ?_))
     obtain ⟨v29,h31,h⟩:=bind_some h
     exact aR (pf hK h31) (ag (ah 0 (oB hK h)))
    ·
     exact ak 134 h30 (ah 2 (oB hK h))
   ·
    refine ak 131 h29 (ac (ks':=[aJ p79_32,.b 3,aJ fQ]) 3 ?_)
    rcases au h with ⟨h32,h⟩ | ⟨h32,h⟩
    ·
     refine ak 140 h32 (ac (ks':=[aJ p79_33,aJ p79_34,.b 3,aJ fQ]) 2 (ai 3 ?_))
     obtain ⟨v30,h33,h⟩:=bind_some h
     exact aR (pf hK h33) (ag (ah 1 (oB hK h)))
    ·
     refine ak 140 h32 (ac (ks':=[aJ p79_35,.b 3,aJ fQ]) 1 (ai 3 ?_))
     obtain ⟨v31,h34,h⟩:=bind_some h
     exact aR (rD hK h34) (ag (ah 0 (oB hK h)))
theorem rW (hK:KnOk K) (h:lK K n v1 v2 v3 v4 v6 v15 v16 v17 v18 v19 v21 v25 v26=some r):VE (dS M w0) (q79 M w0 r) [.b 2,aJ kJ] .normal (s79_j4 v1 v2 v3 v4 v6 v15 v16 v17 v18 v19 v21 v25 v26):=by
  unfold lK at h
  refine ac (ks':=[aJ p79_37,aJ p79_26,.b 3,aJ fQ]) 4 (ai 2 ?_)
  rcases au h with ⟨h25,h⟩ | ⟨h25,h⟩
  ·
   refine aL 115 h25 (aV 5 3 ?_)
   rcases au h with ⟨h26,h⟩ | ⟨h26,h⟩
   ·
    exact aL 118 h26 (ag (ah 0 (ry hK h)))
   ·
    exact aL 118 h26 (ag (ah 0 (ry hK h)))
  ·
   exact aL 115 h25 (ag (ah 0 (ry hK h)))
theorem sO (hK:KnOk K) (h:oK K n v1 v2 v3 v4 v6 v15 v16 v17 v18 v19 v20 v21 v23=some r):VE (dS M w0) (q79 M w0 r) [aJ p79_38,.b 2,aJ kJ] .normal (s79_j3 v1 v2 v3 v4 v6 v15 v16 v17 v18 v19 v20 v21 v23):=by
  unfold oK at h
  rcases au h with ⟨h23,h⟩ | ⟨h23,h⟩
  ·
   refine ak 98 h23 (ac (ks':=[aJ p79_39,.b 2,aJ kJ]) 1 (ai 1 ?_))
   obtain ⟨v24,h24,h⟩:=bind_some h
   exact aR (rD hK h24) (ag (ah 0 (rW hK h)))
  ·
   exact ak 98 h23 (ah 2 (rW hK h))
theorem ta (hK:KnOk K) (h:pI K n v1 v2 v3 v4 v6 v15 v16 v17 v18 v19=some r):VE (dS M w0) (q79 M w0 r) [aJ eO] .normal (s79_j2 v1 v2 v3 v4 v6 v15 v16 v17 v18 v19):=by
  unfold pI at h
  refine ac (ks':=[aJ p79_40,aJ p79_41]) 1 (bt [2,3,5,6,10,11,12,13,14,15,16,17,18] [5,6,10,11,16,17] [1054] ?_)
  obtain ⟨v20,h18,h⟩:=bind_some h
  obtain ⟨v21,h19,h⟩:=bind_some h
  refine bE 2 (nu 81 [.ptr 6 0,.ptr 6 0,iI v2.Margin.a0,.agg (bR v20),.ptr 6 0,.ptr 6 2,iI v2.Margin.a2,.agg (bR v21),.ptr 11 61,.ptr 11 63]) [] [] [stp Try.prog 259 Try.f79 p79_40 9,stp Try.prog 259 Try.f79 p79_40 11] (az (vz 3) (aj (e_c 0 1 84 (pV hK h18)) (az [.v 0 2,.v 0 2,.v 0 2] (aj (e_c 0 1 88 (pV hK h19)) (az [.v 0 1] (aj (e_d 0) (az [.v 1 1] (aj (e_d 1) bC)))))))) (ac (ks':=[aJ p79_42,.b 2,aJ kJ]) 4 ?_)
  rcases au h with ⟨h20,h⟩ | ⟨h20,h⟩
  ·
   refine ak 91 h20 (ac (ks':=[aJ p79_43,.b 2,aJ kJ]) 1 (ai 3 ?_))
   obtain ⟨v22,h21,h⟩:=bind_some h
   exact aR (pf hK h21) (ag (ah 0 (rW hK h)))
  ·
   refine ak 91 h20 (ac (ks':=[aJ p79_44,aJ p79_38,.b 2,aJ kJ]) 2 (ai 3 ?_))
   rcases au h with ⟨h22,h⟩ | ⟨h22,h⟩
   ·
    exact aL 101 h22 (ag (ah 0 (sO hK h)))
   ·
    exact aL 101 h22 (ag (ah 0 (sO hK h)))
theorem wu (hK:KnOk K) (hL1:H79_1 M w0 r v1 v2 v3 v4 v5 v6 m1 L1) (h:qC K n v1 v2 v3 v4 v5 v6 L1 v9 v10=some r):VE (dS M w0) (q79 M w0 r) [aJ p79_4,k79_1 M w0 r m1,.b 0,aJ hI,aJ eO] .normal (s79_l1 v1 v2 v3 v4 v5 v6 v9 v10):=by
  unfold qC at h
  refine ac (ks':=[aJ p79_45,aJ p79_46,k79_1 M w0 r m1,.b 0,aJ hI,aJ eO]) 3 ?_
  rcases au h with ⟨h11,h⟩ | ⟨h11,h⟩
  ·
   refine ak 39 h11 (ac (ks':=[aJ p79_47,aJ p79_48,.b 1,aJ p79_49,k79_1 M w0 r m1,.b 0,aJ hI,aJ eO]) 5 (ai 0 ?_))
   obtain ⟨h12,h⟩:=av h
   refine aq (bL ax aF h12 (co) (b8)) (ag (ai 6 ?_))
   obtain ⟨v11,h13,h⟩:=bind_some h
   refine i8 (hK.q6 h13) (aq (fc ao ([v11]:List aa) (new:=[aD v11]) (by simp only [List.map_cons,List.map_nil,cm])) ?_)
   obtain ⟨h14,h⟩:=av h
   exact aq (cE 50 50 61 67 ao (rfl) (db) h14) (ag (ah 2 (aY (hL1 h))))
  ·
   refine ak 39 h11 (ac (ks':=[aJ hI,aJ eO]) 5 (ai 1 (dV 50 ?_)))
   obtain ⟨v12,h15,h⟩:=bind_some h
   exact cZ 1054 (vx hK h15) (one_tup (i:=0) rfl) (ag (ah 0 (ta hK h)))
theorem we (hK:KnOk K) (m:Nat):H79_1 M w0 r v1 v2 v3 v4 v5 v6 m (pS K n v1 v2 v3 v4 v5 v6 m):=by
  induction m with
 | zero=>intro v9 v10 h; cases h
 | succ m ih=>intro v9 v10 h; have h:qC K n v1 v2 v3 v4 v5 v6 (pS K n v1 v2 v3 v4 v5 v6 m) v9 v10=some r:=h; exact aW (wu hK ih h)
theorem tJ (hK:KnOk K) (h:nH K n v1 v2 v3 v4 v5=some r):ACalls Try.prog 79 [.agg (aF v1),.agg (bI v2),.bool v3,.bool v4,.agg (cj v5)] (fun v s=>v = .agg (List.set (aD ({ r with Kids:=[] }:aa)) 66 (.ref 1054))∧look 1054 s.r=some ⟨61,67,lm ao r.Kids⟩):=by
  refine bo (cat Try.f79 []) Try.func79 Try.ntmps79 fun M w0=>(bg ⟨[(0,.agg (aF v1)),(1,.agg (bI v2)),(2,.bool v3),(3,.bool v4),(4,.agg (cj v5))],[],[],[]⟩ ?_)
  unfold nH at h
  refine ac (ks':=[aJ [1,1,0],aJ [1,1,1]]) 5 (ai 1 ?_)
  obtain ⟨v6,h1,h⟩:=bind_some h
  refine aR (ue hK h1) (ag (ac (ks':=[aJ p79_50,aJ eO]) 9 ?_))
  rcases au h with ⟨h2,h⟩ | ⟨h2,h⟩
  ·
   exact ak 35 h2 (ac (ks':=[aJ p79_51,aJ p79_52,aJ hI,aJ eO]) 5 (ai 1 (aq (aZ ax v6.1) (ag (ac (ks':=[aJ p79_53,.b 0,aJ hI,aJ eO]) 1 (bt [2,3,5,6,9,10,11,12,13,15,16,17,19,36,37,38] [5,6,9,10,11,16,17] [] (dF 50 19 61 67 (ah 0 (bz (p:=p79_53) n (we hK n h))))))))))
  ·
   refine ak 35 h2 (ac (ks':=[aJ p79_54,aJ p79_55,aJ eO]) 2 (ai 7 ?_))
   obtain ⟨v13,h16,h⟩:=bind_some h
   refine i8 (hK.oZ h16) (ag (ac (ks':=[aJ p79_56,aJ p79_57,aJ eO]) 1 (ai 2 ?_)))
   obtain ⟨v14,h17,h⟩:=bind_some h
   exact cZ 1075 (vK hK h17) (dQ 5) (ag (ai 2 (aq (aZ ao v14) (ag (bt [2,3,5,6,10,11,12,13,14,15,16,17,18] [5,6,10,11,16,17] [1075] (ve_m 1075 1054 (ah 0 (ta hK h))))))))
end
noncomputable section
variable {K:Kn} {n:Nat} {M:Nat→Prop} {w0:Base} {r:aa} {v1:ab} {v2:aS} {v3:bw} 
abbrev cF71 (p:List Nat):Kont:=.c (cat Try.f71 p)
theorem xk (hK:KnOk K) (h:oQ K n v1 v2 v3=some r):ACalls Try.prog 71 [.agg (aF v1),.agg (bI v2),.agg (cj v3)] (fun v s=>v = .agg (List.set (aD ({ r with Kids:=[] }:aa)) 66 (.ref 1010))∧look 1010 s.r=some ⟨61,67,lm ao r.Kids⟩):=by
  refine bo (cat Try.f71 []) Try.func71 Try.ntmps71 fun M w0=>(bg ⟨[(0,.agg (aF v1)),(1,.agg (bI v2)),(2,.agg (cj v3))],[],[],[]⟩ ?_)
  unfold oQ at h
  refine ac (ks':=[cF71 [1,0],cF71 [1,1]]) 3 (ai 3 ?_)
  obtain ⟨v4,h1,h⟩:=bind_some h
  refine cZ 1010 (tJ hK h1) (gP (i:=66) (by kernel_rfl)) (ag (aQ 1 ?_))
  cases h
  exact cO
end
def p47_0:=pth 8 1
def p47_1:=pth 8 10
def p47_2:=pth 9 1
def p47_3:=pth 0 11110
def p47_4:=pth 0 11111
def p47_5:=pth 0 111110
def p47_6:=pth 5 1
def p47_7:=pth 5 10
def p47_8:=pth 6 1
def p47_9:=pth 7 100
def p47_10:=pth 7 101
def p47_11:=pth 7 1011
def p47_12:=pth 7 10110
noncomputable section
abbrev cx47 (M:Nat→Prop) (w0:Base):Cx:=⟨Try.prog,58,M,w0⟩
abbrev q47 (M:Nat→Prop) (w0:Base) (r:aa×Int):=bodyPost Try.prog Try.f47 (RetQ M w0 (fun v s=>v = .tup [.agg (List.set (aD ({ r.1 with Kids:=[] }:aa)) 66 (.ref 1034)),iI r.2]∧look 1034 s.r=some ⟨61,67,lm ao r.1.Kids⟩))
def s47_j1 (v1:ab) (v3:Int) (v8:aa) (v11:Int):AS:=⟨[(2,iI v3),(4,.ptr 4 0),(8,.ptr 8 0),(12,.ptr 12 0),(13,iI v11)],[(4,aF v1),(8,List.set (aD aX) 66 (.nils)),(12,List.set (aD ({ v8 with Kids:=[] }:aa)) 66 (.ref 1034))],[(1034,⟨61,67,lm ao v8.Kids⟩)],[4,8,12,1034]⟩
variable {K:Kn} {n:Nat} {M:Nat→Prop} {w0:Base} {r:aa×Int} {v1:ab} {v2 v3:Int} {v4:bw} {v8:aa} {v11:Int} 
abbrev dj (p:List Nat):Kont:=.c (cat Try.f47 p)
theorem tw (hK:KnOk K) (h:ph K n v1 v3 v8 v11=some r):VE (cx47 M w0) (q47 M w0 r) [dj p47_0] .normal (s47_j1 v1 v3 v8 v11):=by
  unfold ph at h
  refine ac (ks':=[dj p47_1,dj p47_2]) 1 (bt [2,4,8,12,13] [4,8,12] [1034] (bE 2 (nu 51 [iI v3,.ptr 4 2,.agg (aO v1.Style),.ptr 12 4,.ptr 12 8]) [] [] [stp Try.prog 58 Try.f47 p47_1 4,stp Try.prog 58 Try.f47 p47_1 6] (az [.v 0 1,.v 0 2,.v 0 2,.v 0 1] (aj (e_d 0) (az [.v 1 1] (aj (e_d 1) bC)))) (aQ 3 ?_)))
  cases h
  exact eI
theorem g_table_cell_ok (hK:KnOk K) (h:jI K n v1 v2 v3 v4=some r):ACalls Try.prog 47 [.agg (aF v1),iI v2,iI v3,.agg (cj v4)] (fun v s=>v = .tup [.agg (List.set (aD ({ r.1 with Kids:=[] }:aa)) 66 (.ref 1034)),iI r.2]∧look 1034 s.r=some ⟨61,67,lm ao r.1.Kids⟩):=by
  refine bo (cat Try.f47 []) Try.func47 Try.ntmps47 fun M w0=>(bg ⟨[(0,.agg (aF v1)),(1,iI v2),(2,iI v3),(3,.agg (cj v4))],[],[],[]⟩ ?_)
  unfold jI at h
  refine ac (ks':=[dj [1,0],dj [1,1]]) 3 (ai 1 ?_)
  obtain ⟨v5,h1,h⟩:=bind_some h
  refine aR (uu hK h1) (ag (ac (ks':=[dj p47_3,dj p47_4]) 3 (ai 3 ?_)))
  obtain ⟨v6,h2,h⟩:=bind_some h
  refine aR (pA hK h2) (ag (ac (ks':=[dj p47_5,dj p47_6]) 1 (ai 2 ?_)))
  obtain ⟨v7,h3,h⟩:=bind_some h
  refine aR (mC hK h3) (ag (ac (ks':=[dj p47_7,dj p47_8]) 1 (ai 3 ?_)))
  obtain ⟨v8,h4,h⟩:=bind_some h
  refine cZ 1034 (xk hK h4) (gP (i:=66) (by kernel_rfl)) (ag (ac (ks':=[dj p47_9,dj p47_10,dj p47_0]) 4 (ai 3 ?_)))
  obtain ⟨v9,h5,h⟩:=bind_some h
  refine aR (rE hK h5) (ag (ac (ks':=[dj p47_11,dj p47_0]) 2 ?_))
  rcases au h with ⟨h6,h⟩ | ⟨h6,h⟩
  ·
   refine ak 44 h6 (ac (ks':=[dj p47_12,dj p47_0]) 1 (ai 3 ?_))
   obtain ⟨v10,h7,h⟩:=bind_some h
   exact aR (tu hK h7) (ag (ah 0 (tw hK h)))
  ·
   exact ak 44 h6 (ah 2 (tw hK h))
end
noncomputable section
variable {K:Kn} {n:Nat} {M:Nat→Prop} {w0:Base} {r v1:List Int} 
abbrev cF48 (p:List Nat):Kont:=.c (cat Try.f48 p)
theorem wS (hK:KnOk K) (h:mM K n v1=some r):ACalls Try.prog 48 [.sl (lm (eInt .i64) v1)] (fun v s=>v = .ref 5∧look 5 s.r=some ⟨3,1,lm (eInt .i64) r⟩):=by
  refine bo (cat Try.f48 []) Try.func48 Try.ntmps48 fun M w0=>(bg ⟨[(0,.sl (lm (eInt .i64) v1))],[],[],[]⟩ ?_)
  unfold mM at h
  refine ac (ks':=[cF48 [1,0,0],cF48 [1,0,1],cF48 [1,1]]) 4 (ai 1 ?_)
  refine ot_nilq (opAt Try.f48 [1,0,0] 1) (.eql) 33 33 (.tmp 3) (.const (.slice none 0 0)) 4 (lm (eInt .i64) v1) (r:=restAt Try.f48 [1,0,0] 2) (e:=3) (by kernel_rfl) (by kernel_rfl) (by kernel_rfl) (by kernel_rfl) (by kernel_rfl) (by kernel_rfl) (by kernel_rfl) (by kernel_rfl) (fun hq=>?_) ?_
  ·
   have h:=mX (by simpa using hq) h
   refine ag (aQ 5 (dF 5 2 3 1 ?_))
   cases h
   exact cO
  ·
   have h:=nB h
   refine ag (ac (ks':=[cF48 [1,1,0],cF48 [1,1,1]]) 3 (ai 0 (ot_bs 33 5 (e:=3) (sz:=1) (aV 2 1 ?_))))
   obtain ⟨h2,h⟩:=av h
   refine aq (cE 7 5 3 1 (eInt .i64) (rfl) (fun _=>rfl) h2) (ag (aQ 1 ?_))
   cases h
   exact cO
end
def p50_0:=pth 11 1
def p50_1:=pth 10 1001
def p50_2:=pth 10 100111
def p50_3:=pth 10 10011111
def p50_4:=pth 5 1
def p50_5:=pth 5 10
def p50_6:=pth 6 1
def p50_7:=pth 6 10
def p50_8:=pth 7 1
def p50_9:=pth 7 101
def p50_10:=pth 8 1
def p50_11:=pth 8 10
def p50_12:=pth 9 1
def p50_13:=pth 9 10
def p50_14:=pth 10 1
def p50_15:=pth 10 1000
def p50_16:=pth 0 11110
def p50_17:=pth 0 11111
def p50_18:=pth 0 1111101
def p50_19:=pth 0 11111010
noncomputable section
abbrev cx50 (M:Nat→Prop) (w0:Base):Cx:=⟨Try.prog,89,M,w0⟩
abbrev q50 (M:Nat→Prop) (w0:Base) (r:aS):=bodyPost Try.prog Try.f50 (RetQ M w0 (fun v _=>v = .agg (bI r)))
def s50_j3 (v4:aS) (v8:Int) (v13:V4 Int):AS:=⟨[(4,.ptr 4 0),(5,.ptr 5 0)],[(4,bI fY),(5,bI ({ v4 with Margin:=v13,Content:=v8 }:aS))],[],[4,5]⟩
def s50_j2 (v3:Int) (v4:aS) (v8 v9:Int) (v10 v11:Int×Bool) (v12:Bool):AS:=⟨[(4,.ptr 4 0),(5,.ptr 5 0),(8,iI (w64 (v3 - v9))),(10,.bool v10.2),(12,.bool v11.2),(59,.bool v12)],[(4,bI fY),(5,bI ({ v4 with Content:=v8 }:aS))],[],[4,5]⟩
def s50_j1 (v1:aG) (v3:Int) (v4:aS) (v7:Int):AS:=⟨[(1,iI v3),(2,.ptr 2 0),(4,.ptr 4 0),(5,.ptr 5 0),(6,iI v7)],[(2,aO v1),(4,bI fY),(5,bI v4)],[],[2,4,5]⟩
variable {K:Kn} {n:Nat} {M:Nat→Prop} {w0:Base} {r:aS} {v1:aG} {v2 v3:Int} {v4:aS} {v7 v8 v9:Int} {v10 v11:Int×Bool} {v12:Bool} {v13:V4 Int} 
abbrev cp (p:List Nat):Kont:=.c (cat Try.f50 p)
theorem qe (hK:KnOk K) (h:jv K n v4 v8 v13=some r):VE (cx50 M w0) (q50 M w0 r) [.b 0,cp p50_0] .normal (s50_j3 v4 v8 v13):=by
  unfold jv at h
  refine aQ 4 ?_
  cases h
  exact bF
theorem tq (hK:KnOk K) (h:m7 K n v3 v4 v8 v9 v10 v11 v12=some r):VE (cx50 M w0) (q50 M w0 r) [cp p50_1,.b 0,cp p50_0] .normal (s50_j2 v3 v4 v8 v9 v10 v11 v12):=by
  unfold m7 at h
  rcases au h with ⟨h12,h⟩ | ⟨h12,h⟩
  ·
   exact ak 59 h12 (ah 4 (qe hK h))
  ·
   refine ak 59 h12 (ac (ks':=[cp p50_2,.b 0,cp p50_0]) 3 ?_)
   rcases au h with ⟨h13,h⟩ | ⟨h13,h⟩
   ·
    exact ak 76 h13 (ah 2 (qe hK h))
   ·
    refine ak 76 h13 (ac (ks':=[cp p50_3,.b 0,cp p50_0]) 3 ?_)
    rcases au h with ⟨h14,h⟩ | ⟨h14,h⟩
    ·
     exact ak 82 h14 (ah 2 (qe hK h))
    ·
     exact ak 82 h14 (ah 2 (qe hK h))
theorem tP (hK:KnOk K) (h:kM K n v1 v3 v4 v7=some r):VE (cx50 M w0) (q50 M w0 r) [cp p50_4] .normal (s50_j1 v1 v3 v4 v7):=by
  unfold kM at h
  refine ac (ks':=[cp p50_5,cp p50_6]) 1 (ai 3 ?_)
  obtain ⟨v8,h6,h⟩:=bind_some h
  refine aR (qM hK h6) (ag (ac (ks':=[cp p50_7,cp p50_8]) 1 (ai 2 ?_)))
  obtain ⟨v9,h7,h⟩:=bind_some h
  refine aR (mC hK h7) (ag (ac (ks':=[cp p50_9,cp p50_10]) 3 ?_))
  rcases au h with ⟨h8,h⟩ | ⟨h8,h⟩
  ·
   refine ak 41 h8 (aQ 5 ?_)
   cases h
   exact bF
  ·
   refine ak 41 h8 (ac (ks':=[cp p50_11,cp p50_12]) 3 (ai 4 ?_))
   obtain ⟨v10,h9,h⟩:=bind_some h
   refine aR (df hK h9) (ag (ac (ks':=[cp p50_13,cp p50_14]) 1 (ai 4 ?_)))
   obtain ⟨v11,h10,h⟩:=bind_some h
   refine aR (df hK h10) (ag (ac (ks':=[cp p50_15,cp p50_1,.b 0,cp p50_0]) 3 (ai 3 ?_)))
   rcases au h with ⟨h11,h⟩ | ⟨h11,h⟩
   ·
    exact aL 62 h11 (ag (ah 0 (tq hK h)))
   ·
    exact aL 62 h11 (ag (ah 0 (tq hK h)))
theorem tF (hK:KnOk K) (h:jg K n v1 v2=some r):ACalls Try.prog 50 [.agg (aO v1),iI v2] (fun v _=>v = .agg (bI r)):=by
  refine bo (cat Try.f50 []) Try.func50 Try.ntmps50 fun M w0=>(bg ⟨[(0,.agg (aO v1)),(1,iI v2)],[],[],[]⟩ ?_)
  unfold jg at h
  refine ac (ks':=[cp [1,0],cp [1,1]]) 3 (ai 1 ?_)
  obtain ⟨v3,h1,h⟩:=bind_some h
  refine aR (fj hK h1) (ag (ac (ks':=[cp [1,1,0],cp [1,1,1]]) 1 (ai 2 ?_)))
  obtain ⟨v4,h2,h⟩:=bind_some h
  refine aR (pA hK h2) (ag (ac (ks':=[cp p50_16,cp p50_17]) 1 (ai 3 ?_)))
  obtain ⟨v5,h3,h⟩:=bind_some h
  refine aR (df hK h3) (ag (ac (ks':=[cp p50_18,cp p50_4]) 3 ?_))
  rcases au h with ⟨h4,h⟩ | ⟨h4,h⟩
  ·
   refine ak 26 h4 (ac (ks':=[cp p50_19,cp p50_4]) 1 (ai 2 ?_))
   obtain ⟨v6,h5,h⟩:=bind_some h
   exact aR (mC hK h5) (ag (ah 0 (tP hK h)))
  ·
   exact ak 26 h4 (ah 2 (tP hK h))
end
def ji:=pth 28 1
def p22_1:=pth 27 10100
def cQ:=pth 18 1
def p22_3:=pth 17 10100
def gK:=pth 17 1
def p22_5:=pth 16 10100
def gg:=pth 13 1
def p22_7:=pth 12 10100
def eN:=pth 11 1
def p22_9:=pth 10 10100
def kL:=pth 17 1010011001111111
def dp:=pth 17 10100111
def p22_12:=pth 17 1010011001111110100
def n8:=pth 12 10100111
def p22_14:=pth 17 101001100111111010010
def p22_15:=pth 17 101001100111111010011
def p22_16:=pth 17 101001100111111010011001
def p22_17:=pth 17 1010011001111110100111
def p22_18:=pth 17 10100110011111110
def p22_19:=pth 17 10100110011111111
def p22_20:=pth 17 1010011001111111100
def p22_21:=pth 17 1010011001111111101
def p22_22:=pth 17 101001100111111111
def p22_23:=pth 17 101001100111111
def p22_24:=pth 17 10100110011111100
def p22_25:=pth 17 10100110011111101
def p22_26:=pth 17 101001100111111010
def p22_27:=pth 27 1010010
def p22_28:=pth 27 1010011
def p22_29:=pth 27 10100110010
def p22_30:=pth 27 10100110011
def p22_31:=pth 27 10100111
def p22_32:=pth 23 1
def p22_33:=pth 24 10
def p22_34:=pth 25 1
def p22_35:=pth 26 10
def p22_36:=pth 27 1
def p22_37:=pth 27 100
def p22_38:=pth 27 101
def p22_39:=pth 27 1010
def p22_40:=pth 17 1010010
def p22_41:=pth 17 1010011
def p22_42:=pth 17 1010011000
def p22_43:=pth 17 1010011001
def p22_44:=pth 17 10100110010
def p22_45:=pth 17 10100110011
def p22_46:=pth 17 101001100110
def p22_47:=pth 17 101001100111
def p22_48:=pth 17 1010011001110
def p22_49:=pth 17 1010011001111
def p22_50:=pth 17 101001100111110101
def p22_51:=pth 17 10100110011111010111
def p22_52:=pth 21 10
def p22_53:=pth 22 1
def p22_54:=pth 22 100
def p22_55:=pth 22 101
def p22_56:=pth 22 1011
def p22_57:=pth 16 1010010
def p22_58:=pth 16 1010011
def p22_59:=pth 16 1010011000
def p22_60:=pth 16 1010011001
def p22_61:=pth 16 10100111
def p22_62:=pth 16 10100110010
def p22_63:=pth 16 10100110011
def p22_64:=pth 17 100
def p22_65:=pth 17 101
def p22_66:=pth 17 1010
def p22_67:=pth 12 1010010
def p22_68:=pth 12 1010011
def p22_69:=pth 12 1010011000
def p22_70:=pth 12 1010011001
def p22_71:=pth 12 10100110010
def p22_72:=pth 12 10100110011
def p22_73:=pth 12 101001100111
def p22_74:=pth 12 10100110011100
def p22_75:=pth 12 10100110011101
def p22_76:=pth 13 10
def p22_77:=pth 14 1
def p22_78:=pth 16 100
def p22_79:=pth 16 101
def p22_80:=pth 16 1010
def p22_81:=pth 10 1010010
def p22_82:=pth 10 1010011
def p22_83:=pth 10 1010011000
def p22_84:=pth 10 1010011001
def kp:=pth 10 10100111
def p22_86:=pth 10 10100110010
def p22_87:=pth 10 10100110011
def p22_88:=pth 10 101001100110
def p22_89:=pth 10 101001100111
def p22_90:=pth 10 1010011001110
def p22_91:=pth 10 1010011001111
def p22_92:=pth 10 10100110011110
def p22_93:=pth 10 10100110011111
def p22_94:=pth 11 10
def p22_95:=pth 12 1
def p22_96:=pth 12 100
def p22_97:=pth 12 101
def p22_98:=pth 12 1010
def p22_99:=pth 5 1
def p22_100:=pth 5 10
def p22_101:=pth 6 1
def p22_102:=pth 6 10
def p22_103:=pth 7 1
def p22_104:=pth 7 10
def p22_105:=pth 8 1
def p22_106:=pth 10 100
def p22_107:=pth 10 101
def p22_108:=pth 10 1010
def p22_109:=pth 0 11110
def p22_110:=pth 0 11111
def p22_111:=pth 0 1111101
def p22_112:=pth 0 11111010
noncomputable section
abbrev cL (M:Nat→Prop) (w0:Base):Cx:=⟨Try.prog,391,M,w0⟩
abbrev q22 (M:Nat→Prop) (w0:Base) (r:aa):=bodyPost Try.prog Try.f22 (RetQ M w0 (fun v s=>v = .agg (List.set (aD ({ r with Kids:=[] }:aa)) 66 (.ref 440028))∧look 440028 s.r=some ⟨61,67,lm ao r.Kids⟩))
abbrev aw (p:List Nat):Kont:=.c (cat Try.f22 p)
abbrev k22_6 (M:Nat→Prop) (w0:Base) (r:aa) (m6:Nat):Kont:=kl (cL M w0) (q22 M w0 r) [.b 11,aw ji] (cat Try.f22 p22_1) m6
abbrev de (M:Nat→Prop) (w0:Base) (r:aa) (m4:Nat):Kont:=kl (cL M w0) (q22 M w0 r) [.b 6,aw cQ] (cat Try.f22 p22_3) m4
abbrev k22_3 (M:Nat→Prop) (w0:Base) (r:aa) (m3:Nat):Kont:=kl (cL M w0) (q22 M w0 r) [.b 4,aw gK] (cat Try.f22 p22_5) m3
abbrev js (M:Nat→Prop) (w0:Base) (r:aa) (m2:Nat):Kont:=kl (cL M w0) (q22 M w0 r) [.b 2,aw gg] (cat Try.f22 p22_7) m2
abbrev iD (M:Nat→Prop) (w0:Base) (r:aa) (m1:Nat):Kont:=kl (cL M w0) (q22 M w0 r) [.b 0,aw eN] (cat Try.f22 p22_9) m1
abbrev k22_5 (M:Nat→Prop) (w0:Base) (r:aa) (m4 m5:Nat):Kont:=kl (cL M w0) (q22 M w0 r) [.b 9,aw kL,.b 7,aw dp,de M w0 r m4,.b 6,aw cQ] (cat Try.f22 p22_12) m5
def s22_j3 (v1:ab) (v2:Int) (v4:bp) (v5:Int×Int) (v11:Int) (v25:List Int) (v26:List (aa×Option (List aa))) (v37:Int) (v41:List ae) (v42:List Int):AS:=⟨[(1,iI v2),(3,.ptr 3 0),(6,.ptr 6 0),(7,.ptr 7 0),(12,iI (max v11 v5.1)),(14,.ref 1084),(15,.ref 500015),(16,.sl (lm (eInt .i64) v25)),(22,.ref 1131),(133,.sl (lm ax v4.rows)),(134,iI (v4.rows.length:Int)),(135,iI v37)],[(3,aF v1),(6,List.set (aD aX) 66 (.nils)),(7,di v4)],[(1084,⟨30,4,lm aC v41⟩),(1131,⟨3,1,lm (eInt .i64) v42⟩),(500015,⟨61,67,lm (encN ao 66 61 67 ao) v26⟩)],[3,6,7,1084,1131,500015]⟩
def s22_j8 (v1:ab) (v2:Int) (v5:Int×Int) (v11:Int) (v25:List Int) (v26:List (aa×Option (List aa))) (v38:List ae) (v43:List Int) (v46 v94:Int) (v102 v110:List (aa×Option (List aa))):AS:=⟨[(1,iI v2),(3,.ptr 3 0),(6,.ptr 6 0),(12,iI (max v11 v5.1)),(14,.sl (lm aC v38)),(16,.sl (lm (eInt .i64) v25)),(27,.sl (lm (eInt .i64) v43)),(28,.ptr 28 0),(29,iI v46),(200,.ref 500015),(201,iI (v26.length:Int)),(202,iI v94)],[(3,aF v1),(6,List.set (aD aX) 66 (.nils)),(28,List.set (aD ({ aX with Kind:=1,Node:=v1.Node,Style:=v1.Style }:aa)) 66 (.ref 500028))],[(500015,⟨61,67,lm (encN ao 66 61 67 ao) v102⟩),(500028,⟨61,67,lm (encN ao 66 61 67 ao) v110⟩)],[3,6,28,500015,500028]⟩
def s22_l7 (v1:ab) (v2:Int) (v5:Int×Int) (v11:Int) (v25:List Int) (v26:List (aa×Option (List aa))) (v38:List ae) (v43:List Int) (v46 v94:Int) (v95 v96:List (aa×Option (List aa))) (v97:List aa) (v98:aG) (v99 v100:aB) (v101:Bool) (v102:List (aa×Option (List aa))) (v103 v105 v106:Int) (v107:List aa):AS:=⟨[(1,iI v2),(3,.ptr 3 0),(6,.ptr 6 0),(12,iI (max v11 v5.1)),(14,.sl (lm aC v38)),(16,.sl (lm (eInt .i64) v25)),(27,.sl (lm (eInt .i64) v43)),(28,.ptr 28 0),(29,iI v46),(33,.ptr 33 0),(34,.ptr 34 0),(36,iI v105),(200,.ref 500015),(201,iI (v26.length:Int)),(202,iI v94),(242,iI (v97.length:Int)),(243,iI v106)],[(3,aF v1),(6,List.set (aD aX) 66 (.nils)),(28,List.set (aD ({ aX with Kind:=1,Node:=v1.Node,Style:=v1.Style }:aa)) 66 (.ref 500028)),(33,List.set (aD ({ ((gD v95 v94).1) with H:=v103,Style:=v98,Before:=v99,After:=v100,Empty:=v101,Kids:=[] }:aa)) 66 (.ref 420206)),(34,aC (gD v38 v94))],[(420206,⟨61,67,lm ao v107⟩),(500015,⟨61,67,lm (encN ao 66 61 67 ao) v102⟩),(500028,⟨61,67,lm (encN ao 66 61 67 ao) v96⟩)],[3,6,28,33,34,420206,500015,500028]⟩
def s22_j6 (v1:ab) (v2:Int) (v5:Int×Int) (v11:Int) (v25:List Int) (v26:List (aa×Option (List aa))) (v38:List ae) (v43:List Int) (v46 v94:Int) (v95 v96:List (aa×Option (List aa))) (v97:List aa) (v98:aG) (v99 v100:aB) (v101:Bool) (v102:List (aa×Option (List aa))) (v103 v105:Int):AS:=⟨[(1,iI v2),(3,.ptr 3 0),(6,.ptr 6 0),(12,iI (max v11 v5.1)),(14,.sl (lm aC v38)),(16,.sl (lm (eInt .i64) v25)),(27,.sl (lm (eInt .i64) v43)),(28,.ptr 28 0),(29,iI v46),(33,.ptr 33 0),(34,.ptr 34 0),(36,iI v105),(200,.ref 500015),(201,iI (v26.length:Int)),(202,iI v94)],[(3,aF v1),(6,List.set (aD aX) 66 (.nils)),(28,List.set (aD ({ aX with Kind:=1,Node:=v1.Node,Style:=v1.Style }:aa)) 66 (.ref 500028)),(33,List.set (aD ({ ((gD v95 v94).1) with H:=v103,Style:=v98,Before:=v99,After:=v100,Empty:=v101,Kids:=[] }:aa)) 66 (.ref 420206)),(34,aC (gD v38 v94))],[(420206,⟨61,67,lm ao v97⟩),(500015,⟨61,67,lm (encN ao 66 61 67 ao) v102⟩),(500028,⟨61,67,lm (encN ao 66 61 67 ao) v96⟩)],[3,6,28,33,34,420206,500015,500028]⟩
def s22_l11 (v1:ab) (v96:List (aa×Option (List aa))) (v111:aS) (v113:Int) (v114 v115:aB) (v116 v117 v119:Int) (v120:List (aa×Option (List aa))):AS:=⟨[(6,.ptr 6 0),(28,.ptr 28 0),(39,.ptr 39 0),(353,iI (v96.length:Int)),(354,iI v119)],[(6,List.set (aD aX) 66 (.nils)),(28,List.set (aD (⟨1,v1.Node,v111.Margin.a3,0,v116,(w64 (v113+v117)),0,⟨#[]⟩,v1.Style,v114,v115,false,[]⟩:aa)) 66 (.ref 500028)),(39,bI v111)],[(500028,⟨61,67,lm (encN ao 66 61 67 ao) v120⟩)],[6,28,39,500028]⟩
def s22_j10 (v1:ab) (v96:List (aa×Option (List aa))) (v111:aS) (v113:Int):AS:=⟨[(6,.ptr 6 0),(28,.ptr 28 0),(29,iI v113),(39,.ptr 39 0)],[(6,List.set (aD aX) 66 (.nils)),(28,List.set (aD ({ aX with Kind:=1,Node:=v1.Node,Style:=v1.Style }:aa)) 66 (.ref 500028)),(39,bI v111)],[(500028,⟨61,67,lm (encN ao 66 61 67 ao) v96⟩)],[6,28,39,500028]⟩
def s22_l9 (v1:ab) (v2:Int) (v5:Int×Int) (v11:Int) (v25:List Int) (v26:List (aa×Option (List aa))) (v38:List ae) (v43:List Int) (v46 v94:Int) (v95 v96:List (aa×Option (List aa))):AS:=⟨[(1,iI v2),(3,.ptr 3 0),(6,.ptr 6 0),(12,iI (max v11 v5.1)),(14,.sl (lm aC v38)),(16,.sl (lm (eInt .i64) v25)),(27,.sl (lm (eInt .i64) v43)),(28,.ptr 28 0),(29,iI v46),(200,.ref 500015),(201,iI (v26.length:Int)),(202,iI v94)],[(3,aF v1),(6,List.set (aD aX) 66 (.nils)),(28,List.set (aD ({ aX with Kind:=1,Node:=v1.Node,Style:=v1.Style }:aa)) 66 (.ref 500028))],[(500015,⟨61,67,lm (encN ao 66 61 67 ao) v95⟩),(500028,⟨61,67,lm (encN ao 66 61 67 ao) v96⟩)],[3,6,28,500015,500028]⟩
def s22_l5 (v1:ab) (v2:Int) (v4:bp) (v5:Int×Int) (v11:Int) (v25:List Int) (v26:List (aa×Option (List aa))) (v38:List ae) (v43:List Int) (v46 v47:Int) (v48:List (aa×Option (List aa))):AS:=⟨[(1,iI v2),(3,.ptr 3 0),(6,.ptr 6 0),(12,iI (max v11 v5.1)),(14,.sl (lm aC v38)),(15,.ref 500015),(16,.sl (lm (eInt .i64) v25)),(27,.ref 1163),(28,.ptr 28 0),(29,iI v46),(170,.sl (lm ax v4.rows)),(171,iI (v4.rows.length:Int)),(172,iI v47)],[(3,aF v1),(6,List.set (aD aX) 66 (.nils)),(28,List.set (aD ({ aX with Kind:=1,Node:=v1.Node,Style:=v1.Style }:aa)) 66 (.ref 500028))],[(1163,⟨3,1,lm (eInt .i64) v43⟩),(500015,⟨61,67,lm (encN ao 66 61 67 ao) v26⟩),(500028,⟨61,67,lm (encN ao 66 61 67 ao) v48⟩)],[3,6,28,1163,500015,500028]⟩
def s22_l4 (v1:ab) (v2:Int) (v4:bp) (v5:Int×Int) (v11:Int) (v25:List Int) (v26:List (aa×Option (List aa))) (v37:Int) (v38:List ae) (v39:List Int):AS:=⟨[(1,iI v2),(3,.ptr 3 0),(6,.ptr 6 0),(7,.ptr 7 0),(12,iI (max v11 v5.1)),(14,.ref 1084),(15,.ref 500015),(16,.sl (lm (eInt .i64) v25)),(22,.ref 1131),(133,.sl (lm ax v4.rows)),(134,iI (v4.rows.length:Int)),(135,iI v37)],[(3,aF v1),(6,List.set (aD aX) 66 (.nils)),(7,di v4)],[(1084,⟨30,4,lm aC v38⟩),(1131,⟨3,1,lm (eInt .i64) v39⟩),(500015,⟨61,67,lm (encN ao 66 61 67 ao) v26⟩)],[3,6,7,1084,1131,500015]⟩
def s22_l2 (v1:ab) (v2:Int) (v3:bw) (v4:bp) (v5:Int×Int) (v11:Int) (v12:List Int) (v13:List ae) (v24:Int) (v25:List Int) (v26:List (aa×Option (List aa))):AS:=⟨[(1,iI v2),(3,.ptr 3 0),(5,.ptr 5 0),(6,.ptr 6 0),(7,.ptr 7 0),(12,iI (max v11 v5.1)),(13,.sl (lm (eInt .i64) v12)),(14,.ref 1084),(15,.ref 500015),(16,.ref 128),(86,.sl (lm ax v4.cells)),(87,iI (v4.cells.length:Int)),(88,iI v24)],[(3,aF v1),(5,cj v3),(6,List.set (aD aX) 66 (.nils)),(7,di v4)],[(128,⟨3,1,lm (eInt .i64) v25⟩),(1084,⟨30,4,lm aC v13⟩),(500015,⟨61,67,lm (encN ao 66 61 67 ao) v26⟩)],[3,5,6,7,128,1084,500015]⟩
def s22_j1 (v1:ab) (v2:Int) (v3:bw) (v4:bp) (v5:Int×Int) (v10:Int):AS:=⟨[(1,iI v2),(3,.ptr 3 0),(5,.ptr 5 0),(6,.ptr 6 0),(7,.ptr 7 0),(8,iI v5.1),(10,iI v10)],[(3,aF v1),(5,cj v3),(6,List.set (aD aX) 66 (.nils)),(7,di v4)],[],[3,5,6,7]⟩
abbrev H22_1 (M:Nat→Prop) (w0:Base) (r:aa) (v1:ab) (v2:Int) (v3:bw) (v4:bp) (v5:Int×Int) (v11:Int) (v12:List Int) (v13:List ae) (m1:Nat) (L1:Int→(List Int)→(List (aa×Option (List aa)))→Option aa):Prop:=∀ {v24:Int} {v25:(List Int)} {v26:(List (aa×Option (List aa)))},L1 v24 v25 v26=some r→LP (cL M w0) (q22 M w0 r) [.b 0,aw eN] (cat Try.f22 p22_9) m1 (s22_l2 v1 v2 v3 v4 v5 v11 v12 v13 v24 v25 v26)
abbrev H22_2 (M:Nat→Prop) (w0:Base) (r:aa) (v1:ab) (v2:Int) (v4:bp) (v5:Int×Int) (v11:Int) (v25:List Int) (v26:List (aa×Option (List aa))) (m2:Nat) (L2:Int→(List ae)→(List Int)→Option aa):Prop:=∀ {v37:Int} {v38:(List ae)} {v39:(List Int)},L2 v37 v38 v39=some r→LP (cL M w0) (q22 M w0 r) [.b 2,aw gg] (cat Try.f22 p22_7) m2 (s22_l4 v1 v2 v4 v5 v11 v25 v26 v37 v38 v39)
abbrev H22_3 (M:Nat→Prop) (w0:Base) (r:aa) (v1:ab) (v2:Int) (v4:bp) (v5:Int×Int) (v11:Int) (v25:List Int) (v26:List (aa×Option (List aa))) (v38:List ae) (v43:List Int) (m3:Nat) (L3:Int→Int→(List (aa×Option (List aa)))→Option aa):Prop:=∀ {v46:Int} {v47:Int} {v48:(List (aa×Option (List aa)))},L3 v46 v47 v48=some r→LP (cL M w0) (q22 M w0 r) [.b 4,aw gK] (cat Try.f22 p22_5) m3 (s22_l5 v1 v2 v4 v5 v11 v25 v26 v38 v43 v46 v47 v48)
abbrev kE (M:Nat→Prop) (w0:Base) (r:aa) (v1:ab) (v2:Int) (v5:Int×Int) (v11:Int) (v25:List Int) (v26:List (aa×Option (List aa))) (v38:List ae) (v43:List Int) (v46:Int) (m4:Nat) (L4:Int→(List (aa×Option (List aa)))→(List (aa×Option (List aa)))→Option aa):Prop:=∀ {v94:Int} {v95:(List (aa×Option (List aa)))} {v96:(List (aa×Option (List aa)))},L4 v94 v95 v96=some r→LP (cL M w0) (q22 M w0 r) [.b 6,aw cQ] (cat Try.f22 p22_3) m4 (s22_l9 v1 v2 v5 v11 v25 v26 v38 v43 v46 v94 v95 v96)
abbrev H22_5 (M:Nat→Prop) (w0:Base) (r:aa) (v1:ab) (v2:Int) (v5:Int×Int) (v11:Int) (v25:List Int) (v26:List (aa×Option (List aa))) (v38:List ae) (v43:List Int) (v46 v94:Int) (v95 v96:List (aa×Option (List aa))) (v97:List aa) (v98:aG) (v99 v100:aB) (v101:Bool) (v102:List (aa×Option (List aa))) (v103 v105:Int) (m4 m5:Nat) (L5:Int→(List aa)→Option aa):Prop:=∀ {v106:Int} {v107:(List aa)},L5 v106 v107=some r→LP (cL M w0) (q22 M w0 r) [.b 9,aw kL,.b 7,aw dp,de M w0 r m4,.b 6,aw cQ] (cat Try.f22 p22_12) m5 (s22_l7 v1 v2 v5 v11 v25 v26 v38 v43 v46 v94 v95 v96 v97 v98 v99 v100 v101 v102 v103 v105 v106 v107)
abbrev H22_6 (M:Nat→Prop) (w0:Base) (r:aa) (v1:ab) (v96:List (aa×Option (List aa))) (v111:aS) (v113:Int) (v114 v115:aB) (v116 v117:Int) (m6:Nat) (L6:Int→(List (aa×Option (List aa)))→Option aa):Prop:=∀ {v119:Int} {v120:(List (aa×Option (List aa)))},L6 v119 v120=some r→LP (cL M w0) (q22 M w0 r) [.b 11,aw ji] (cat Try.f22 p22_1) m6 (s22_l11 v1 v96 v111 v113 v114 v115 v116 v117 v119 v120)
variable {K:Kn} {n:Nat} {M:Nat→Prop} {w0:Base} {r:aa} {v1:ab} {v2:Int} {v3:bw} {v4:bp} {v5:Int×Int} {v10 v11:Int} {v12:List Int} {v13:List ae} {v24:Int} {v25:List Int} {v26:List (aa×Option (List aa))} {v37:Int} {v38:List ae} {v39:List Int} {v41:List ae} {v42 v43:List Int} {v46 v47:Int} {v48:List (aa×Option (List aa))} {v94:Int} {v95 v96:List (aa×Option (List aa))} {v97:List aa} {v98:aG} {v99 v100:aB} {v101:Bool} {v102:List (aa×Option (List aa))} {v103 v105 v106:Int} {v107:List aa} {v110:List (aa×Option (List aa))} {v111:aS} {v113:Int} {v114 v115:aB} {v116 v117 v119:Int} {v120:List (aa×Option (List aa))} {m1:Nat} {L1:Int→(List Int)→(List (aa×Option (List aa)))→Option aa} {m2:Nat} {L2:Int→(List ae)→(List Int)→Option aa} {m3:Nat} {L3:Int→Int→(List (aa×Option (List aa)))→Option aa} {m4:Nat} {L4:Int→(List (aa×Option (List aa)))→(List (aa×Option (List aa)))→Option aa} {m5:Nat} {L5:Int→(List aa)→Option aa} {m6:Nat} {L6:Int→(List (aa×Option (List aa)))→Option aa}
theorem tS (hK:KnOk K) (hL2:H22_2 M w0 r v1 v2 v4 v5 v11 v25 v26 m2 L2) (h:mT K n v1 v2 v4 v5 v11 v25 v26 v37 L2 v41 v42=some r):VE (cL M w0) (q22 M w0 r) [.b 3,aw n8,js M w0 r m2,.b 2,aw gg] .normal (s22_j3 v1 v2 v4 v5 v11 v25 v26 v37 v41 v42):=by
  unfold mT at h
  exact ah 2 (aY (hL2 h))
theorem um (hK:KnOk K) (hL4:kE M w0 r v1 v2 v5 v11 v25 v26 v38 v43 v46 m4 L4) (h:o9 K n v1 v2 v5 v11 v25 v26 v38 v43 v46 v94 v102 L4 v110=some r):VE (cL M w0) (q22 M w0 r) [aw dp,de M w0 r m4,.b 6,aw cQ] .normal (s22_j8 v1 v2 v5 v11 v25 v26 v38 v43 v46 v94 v102 v110):=by
  unfold o9 at h
  exact ah 1 (aY (hL4 h))
theorem vO (hK:KnOk K) (hL4:kE M w0 r v1 v2 v5 v11 v25 v26 v38 v43 v46 m4 L4) (hL5:H22_5 M w0 r v1 v2 v5 v11 v25 v26 v38 v43 v46 v94 v95 v96 v97 v98 v99 v100 v101 v102 v103 v105 m4 m5 L5) (h:pF K n v1 v2 v5 v11 v25 v26 v38 v43 v46 v94 v95 v96 v97 v98 v99 v100 v101 v102 v103 v105 L4 L5 v106 v107=some r):VE (cL M w0) (q22 M w0 r) [aw p22_12,k22_5 M w0 r m4 m5,.b 9,aw kL,.b 7,aw dp,de M w0 r m4,.b 6,aw cQ] .normal (s22_l7 v1 v2 v5 v11 v25 v26 v38 v43 v46 v94 v95 v96 v97 v98 v99 v100 v101 v102 v103 v105 v106 v107):=by
  unfold pF at h
  refine ac (ks':=[aw p22_14,aw p22_15,k22_5 M w0 r m4 m5,.b 9,aw kL,.b 7,aw dp,de M w0 r m4,.b 6,aw cQ]) 3 ?_
  rcases au h with ⟨h175,h⟩ | ⟨h175,h⟩
  ·
   refine ak 244 h175 (ac (ks':=[aw p22_16,.b 10,aw p22_17,k22_5 M w0 r m4 m5,.b 9,aw kL,.b 7,aw dp,de M w0 r m4,.b 6,aw cQ]) 6 (ai 3 ?_))
   obtain ⟨h176,h⟩:=av h
   refine aq (bM 420206 67 ao h176) (aV 5 1 (aq (bj 3 3 ao aD (aI h176).2 (cm)) (aV 8 2 ?_)))
   obtain ⟨h177,h⟩:=av h
   exact aq (bM 420206 67 ao h177) (aV 10 1 (aq (cq 420206 61 67 3 ao aD ({ (gD v107 v106) with Y:=(w64 (((gD v107 v106).Y)+v105)) }:aa) (aI h177).2 (cm)) (ag (ah 2 (aY (hL5 h))))))
  ·
   refine ak 244 h175 (ac (ks':=[aw p22_18,aw p22_19,.b 7,aw dp,de M w0 r m4,.b 6,aw cQ]) 6 (bt [1,3,6,12,14,16,27,28,29,33,34,200,201,202] [3,6,28,33,34] [420206,500015,500028] ?_))
   refine ve_two ?_ ?_
   ·
    have h:=mX rfl h
    obtain ⟨h178,h⟩:=av h
    obtain ⟨v108,h179,h⟩:=bind_some h
    refine ac (ks':=[aw p22_20,aw p22_21,.b 7,aw dp,de M w0 r m4,.b 6,aw cQ]) 2 (bt [1,3,6,12,14,16,27,28,29,33,34,200,201,202,258] [3,6,28,33,34] [420206,500015,500028] ?_)
    refine pT 500028 430258 258 28 66 61 67 66 61 67 ao ao v96 ((gD v38 v94).Row).toNat v108 (.bool true) (aI h178).2 h179 db (fun x15=>?_)
    obtain ⟨h180,h⟩:=av h
    refine ve_tl 10 0 [(259,.ptr 28 66),(260,.ref 500028),(261,.ptr 34 0),(262,iI ((gD v38 v94).Row)),(263,.eptr 500028 67 (((gD v38 v94).Row).toNat) 0),(264,.eptr 500028 67 (((gD v38 v94).Row).toNat) 66),(265,.ref 430258),(266,.agg (List.set (aD ({ ((gD v95 v94).1) with H:=v103,Style:=v98,Before:=v99,After:=v100,Empty:=v101,Kids:=[] }:aa)) 66 (.ref 420206))),(267,iI (v108.length:Int)),(268,.sl (lm ao [aX]))] [] [] [] (az (vz 4) (d_v (gf 500028 67 ((gD v38 v94).Row).toNat 66 (encN ao 66 61 67 ao) (.vv x15) (L:=v96) (i:=((gD v38 v94).Row)) (by simpa only [List.length_set] using h180)) (az [.v 0 1] (aj (e_y 0 265 258 430258 (b:=⟨61,67,lm ao v108⟩) (y_ldV 59 500028 67 66 61 67 ao aD ao x15 (L:=v96) (j:=((gD v38 v94).Row).toNat) (aI h180).2 cm)) (az [.v 0 1] (d_v (aZ ao v108) (d_v (fc ao ([aX]:List aa) (new:=[aD aX]) (by simp only [List.map_cons,List.map_nil,cm])) (d_nz)))))))) ?_
    obtain ⟨h181,h⟩:=av h
    refine aq (cE 269 430258 61 67 ao (rfl) (db) h181) ?_
    obtain ⟨h182,h⟩:=av h
    refine aq (gf 500028 67 ((gD v38 v94).Row).toNat 66 (encN ao 66 61 67 ao) (.vv x15) (L:=v96) (i:=((gD v38 v94).Row)) h182) (aV 13 1 ?_)
    refine pb 430258 258 (c0:=.any) (gF 269 0 (by kernel_rfl)) (fun x16=>?_)
    refine pj 269 258 (tid:=430258) (x:=x16) (c:=.ref 430258) (aq (y_stV 500028 61 67 66 61 67 ao ao (.vv x15) x16 (L:=v96) (j:=((gD v38 v94).Row).toNat) (aI h182).2 db) (ot_frv 269 258 (tid:=430258) (x:=x16) (b:=⟨61,67,lm ao (v108++[aX])⟩) (ag (ai 0 ?_))))
    obtain ⟨h183,h⟩:=av h
    exact aq (bM 430258 67 ao h183) (dV 420206 (aq (cq 430258 61 67 0 ao aD ({ ((gD v95 v94).1) with H:=v103,Style:=v98,Before:=v99,After:=v100,Empty:=v101,Kids:=v107 }:aa) (aI h183).2 (cm)) (qK 500028 430258 258 28 66 61 67 66 61 67 ao ao v96 ((gD v38 v94).Row).toNat (List.set (v108++[aX]) ((v108.length:Int)).toNat ({ ((gD v95 v94).1) with H:=v103,Style:=v98,Before:=v99,After:=v100,Empty:=v101,Kids:=v107 }:aa)) x16 (aI h182).2 db (ag (ah 1 (um hK hL4 h))))))
   ·
    have h:=nB h
    obtain ⟨h184,h⟩:=av h
    obtain ⟨v109,h185,h⟩:=bind_some h
    refine ac (ks':=[aw p22_22,.b 7,aw dp,de M w0 r m4,.b 6,aw cQ]) 1 (bt [1,3,6,12,14,16,27,28,29,33,34,200,201,202,258] [3,6,28,33,34] [420206,500015,500028] ?_)
    refine pT 500028 430258 258 28 66 61 67 66 61 67 ao ao v96 ((gD v38 v94).Row).toNat v109 (.bool false) (aI h184).2 h185 db (fun x17=>?_)
    refine iJ 420206 ?_
    obtain ⟨h187,h⟩:=av h
    obtain ⟨h188,h⟩:=av h
    refine ve_tl 14 1 [(273,.ptr 28 66),(274,.ref 500028),(275,.ptr 34 0),(276,iI ((gD v38 v94).Row)),(277,.ptr 28 66),(278,.ref 500028),(279,.ptr 34 0),(280,iI ((gD v38 v94).Row)),(281,.eptr 500028 67 (((gD v38 v94).Row).toNat) 0),(282,.eptr 500028 67 (((gD v38 v94).Row).toNat) 66),(283,.ref 430258),(284,.agg (aD ({ ((gD v95 v94).1) with H:=v103,Style:=v98,Before:=v99,After:=v100,Empty:=v101,Kids:=v107 }:aa))),(285,.sl (lm ao [({ ((gD v95 v94).1) with H:=v103,Style:=v98,Before:=v99,After:=v100,Empty:=v101,Kids:=v107 }:aa)]))] [] [] [appS 286 430258 ⟨61,67,lm ao (v109++[({ ((gD v95 v94).1) with H:=v103,Style:=v98,Before:=v99,After:=v100,Empty:=v101,Kids:=v107 }:aa)])⟩] (az [.v 0 2,.v 0 2,.v 0 2,.v 0 2,.v 0 2,.v 0 2,.v 0 2,.v 0 2] (aj (k_v (lo:=0) (k:=2) (bW ⟨(by kernel_rfl),(cc (gf 500028 67 ((gD v38 v94).Row).toNat 66 (encN ao 66 61 67 ao) (.vv x17) (L:=v96) (i:=((gD v38 v94).Row)) (by simpa only [List.length_set] using h187)) (by kernel_rfl))⟩ (bW ⟨(by kernel_rfl),(cc (gf 500028 67 ((gD v38 v94).Row).toNat 66 (encN ao 66 61 67 ao) (.vv x17) (L:=v96) (i:=((gD v38 v94).Row)) (by simpa only [List.length_set] using h187)) (by kernel_rfl))⟩ dd))) (az [.v 0 2] (aj (e_y 0 283 258 430258 (b:=⟨61,67,lm ao v109⟩) (y_ldV 59 500028 67 66 61 67 ao aD ao x17 (L:=v96) (j:=((gD v38 v94).Row).toNat) (aI h187).2 cm)) (az [.v 0 2] (d_v (fc ao ([({ ((gD v95 v94).1) with H:=v103,Style:=v98,Before:=v99,After:=v100,Empty:=v101,Kids:=v107 }:aa)]:List aa) (new:=[aD ({ ((gD v95 v94).1) with H:=v103,Style:=v98,Before:=v99,After:=v100,Empty:=v101,Kids:=v107 }:aa)]) (by simp only [List.map_cons,List.map_nil,cm])) (aj (e_s (m:=0) (cE 286 430258 61 67 ao (rfl) (db) h188)) (d_nz)))))))) ?_
    obtain ⟨h189,h⟩:=av h
    refine aq (gf 500028 67 ((gD v38 v94).Row).toNat 66 (encN ao 66 61 67 ao) (.vv x17) (L:=v96) (i:=((gD v38 v94).Row)) h189) (aV 16 1 ?_)
    refine pb 430258 258 (c0:=.any) (gF 286 0 (by kernel_rfl)) (fun x18=>?_)
    exact pj 286 258 (tid:=430258) (x:=x18) (c:=.ref 430258) (aq (y_stV 500028 61 67 66 61 67 ao ao (.vv x17) x18 (L:=v96) (j:=((gD v38 v94).Row).toNat) (aI h189).2 db) (ot_frv 286 258 (tid:=430258) (x:=x18) (b:=⟨61,67,lm ao (v109++[({ ((gD v95 v94).1) with H:=v103,Style:=v98,Before:=v99,After:=v100,Empty:=v101,Kids:=v107 }:aa)])⟩) (qK 500028 430258 258 28 66 61 67 66 61 67 ao ao v96 ((gD v38 v94).Row).toNat (v109++[({ ((gD v95 v94).1) with H:=v103,Style:=v98,Before:=v99,After:=v100,Empty:=v101,Kids:=v107 }:aa)]) x18 (aI h189).2 db (ag (ah 1 (um hK hL4 h))))))
theorem u0 (hK:KnOk K) (hL4:kE M w0 r v1 v2 v5 v11 v25 v26 v38 v43 v46 m4 L4) (m:Nat):H22_5 M w0 r v1 v2 v5 v11 v25 v26 v38 v43 v46 v94 v95 v96 v97 v98 v99 v100 v101 v102 v103 v105 m4 m (mu K n v1 v2 v5 v11 v25 v26 v38 v43 v46 v94 v95 v96 v97 v98 v99 v100 v101 v102 v103 v105 L4 m):=by
  induction m with
 | zero=>intro v106 v107 h; cases h
 | succ m ih=>intro v106 v107 h; have h:pF K n v1 v2 v5 v11 v25 v26 v38 v43 v46 v94 v95 v96 v97 v98 v99 v100 v101 v102 v103 v105 L4 (mu K n v1 v2 v5 v11 v25 v26 v38 v43 v46 v94 v95 v96 v97 v98 v99 v100 v101 v102 v103 v105 L4 m) v106 v107=some r:=h; exact aW (vO hK hL4 ih h)
theorem sj (hK:KnOk K) (hL4:kE M w0 r v1 v2 v5 v11 v25 v26 v38 v43 v46 m4 L4) (h:ja K n v1 v2 v5 v11 v25 v26 v38 v43 v46 v94 v95 v96 v97 v98 v99 v100 v101 v102 v103 L4 v105=some r):VE (cL M w0) (q22 M w0 r) [.b 8,aw p22_23,.b 7,aw dp,de M w0 r m4,.b 6,aw cQ] .normal (s22_j6 v1 v2 v5 v11 v25 v26 v38 v43 v46 v94 v95 v96 v97 v98 v99 v100 v101 v102 v103 v105):=by
  unfold ja at h
  exact ac (ks':=[aw p22_24,aw p22_25,aw kL,.b 7,aw dp,de M w0 r m4,.b 6,aw cQ]) 3 (ai 2 (aq (aZ ao v97) (ag (ah 1 (bz (p:=p22_26) n (u0 hK hL4 n h))))))
theorem xG (hK:KnOk K) (hL6:H22_6 M w0 r v1 v96 v111 v113 v114 v115 v116 v117 m6 L6) (h:pu K n v1 v96 v111 v113 v114 v115 v116 v117 L6 v119 v120=some r):VE (cL M w0) (q22 M w0 r) [aw p22_1,k22_6 M w0 r m6,.b 11,aw ji] .normal (s22_l11 v1 v96 v111 v113 v114 v115 v116 v117 v119 v120):=by
  unfold pu at h
  refine ac (ks':=[aw p22_27,aw p22_28,k22_6 M w0 r m6,.b 11,aw ji]) 3 ?_
  rcases au h with ⟨h203,h⟩ | ⟨h203,h⟩
  ·
   refine ak 355 h203 (ac (ks':=[aw p22_29,aw p22_30,.b 12,aw p22_31,k22_6 M w0 r m6,.b 11,aw ji]) 7 (bt [6,28,39,42,353,354] [6,28,39] [500028] ?_))
   obtain ⟨h204,h⟩:=av h
   obtain ⟨h205,h⟩:=av h
   refine bE 1 (nu 357 [.ptr 28 66,.ref 500028,iI v119,.eptr 500028 67 (v119.toNat) 0,.eptr 500028 67 (v119.toNat) 2,iI (((gD v120 v119).1).X),.ptr 39 4,.ptr 39 7,iI v111.Border.a3,.ptr 39 8,.ptr 39 11,iI v111.Padding.a3,iI (w64 (v111.Border.a3+v111.Padding.a3)),iI (w64 ((((gD v120 v119).1).X)+(w64 (v111.Border.a3+v111.Padding.a3)))),.eptr 500028 67 (v119.toNat) 0,.eptr 500028 67 (v119.toNat) 2]) [] [] [strS 500028 ⟨61,67,lm (encN ao 66 61 67 ao) (List.set v120 v119.toNat (({ ((gD v120 v119).1) with X:=(w64 ((((gD v120 v119).1).X)+(w64 (v111.Border.a3+v111.Padding.a3)))) }:aa),(gD v120 v119).2))⟩] (az (vz 3) (d_v (bv 500028 67 (encN ao 66 61 67 ao) (L:=v120) h204) (az [.v 0 1] (d_v (y_ldN 3 500028 67 2 66 61 67 ao aD ao (L:=v120) (j:=v119.toNat) (aI h205).2 cm) (az (vz 8) (aj (k_v (lo:=0) (k:=2) (bW ⟨(by kernel_rfl),(cc (bv 500028 67 (encN ao 66 61 67 ao) (L:=v120) h205) (by kernel_rfl))⟩ (bW ⟨(by kernel_rfl),(cc (bv 500028 67 (encN ao 66 61 67 ao) (L:=(List.set v120 v119.toNat (({ ((gD v120 v119).1) with X:=(w64 ((((gD v120 v119).1).X)+(w64 (v111.Border.a3+v111.Padding.a3)))) }:aa),(gD v120 v119).2))) h205) (by kernel_rfl))⟩ dd))) (az [.v 0 1] (aj (e_s (m:=0) (y_stN 500028 61 67 2 66 61 67 ao aD ao (L:=v120) (j:=v119.toNat) ({ ((gD v120 v119).1) with X:=(w64 ((((gD v120 v119).1).X)+(w64 (v111.Border.a3+v111.Padding.a3)))) }:aa) (aI h205).2 cm)) bC)))))))) ?_
   obtain ⟨v121,h206,h⟩:=bind_some h
   have h206:=Option.some.inj h206
   refine bq (ks':=[aw p22_30,.b 12,aw p22_31,k22_6 M w0 r m6,.b 11,aw ji]) 0 ⟨[(6,.ptr 6 0),(28,.ptr 28 0),(39,.ptr 39 0),(42,iI v119),(353,iI (v96.length:Int)),(354,iI v119)],[(6,List.set (aD aX) 66 (.nils)),(28,List.set (aD (⟨1,v1.Node,v111.Margin.a3,0,v116,(w64 (v113+v117)),0,⟨#[]⟩,v1.Style,v114,v115,false,[]⟩:aa)) 66 (.ref 500028)),(39,bI v111)],[(500028,⟨61,67,lm (encN ao 66 61 67 ao) v121⟩)],[6,28,39,500028]⟩ ?_ (by subst h206; kernel_rfl)
   obtain ⟨h207,h⟩:=av h
   obtain ⟨h208,h⟩:=av h
   exact bE 1 (nu 373 [.ptr 28 66,.ref 500028,iI v119,.eptr 500028 67 (v119.toNat) 0,.eptr 500028 67 (v119.toNat) 3,iI (((gD v121 v119).1).Y),.ptr 39 4,.ptr 39 4,iI v111.Border.a0,.ptr 39 8,.ptr 39 8,iI v111.Padding.a0,iI (w64 (v111.Border.a0+v111.Padding.a0)),iI (w64 ((((gD v121 v119).1).Y)+(w64 (v111.Border.a0+v111.Padding.a0)))),.eptr 500028 67 (v119.toNat) 0,.eptr 500028 67 (v119.toNat) 3]) [] [] [strS 500028 ⟨61,67,lm (encN ao 66 61 67 ao) (List.set v121 v119.toNat (({ ((gD v121 v119).1) with Y:=(w64 ((((gD v121 v119).1).Y)+(w64 (v111.Border.a0+v111.Padding.a0)))) }:aa),(gD v121 v119).2))⟩] (az (vz 3) (d_v (bv 500028 67 (encN ao 66 61 67 ao) (L:=v121) h207) (az [.v 0 1] (d_v (y_ldN 3 500028 67 3 66 61 67 ao aD ao (L:=v121) (j:=v119.toNat) (aI h208).2 cm) (az (vz 8) (aj (k_v (lo:=0) (k:=2) (bW ⟨(by kernel_rfl),(cc (bv 500028 67 (encN ao 66 61 67 ao) (L:=v121) h208) (by kernel_rfl))⟩ (bW ⟨(by kernel_rfl),(cc (bv 500028 67 (encN ao 66 61 67 ao) (L:=(List.set v121 v119.toNat (({ ((gD v121 v119).1) with Y:=(w64 ((((gD v121 v119).1).Y)+(w64 (v111.Border.a0+v111.Padding.a0)))) }:aa),(gD v121 v119).2))) h208) (by kernel_rfl))⟩ dd))) (az [.v 0 1] (aj (e_s (m:=0) (y_stN 500028 61 67 3 66 61 67 ao aD ao (L:=v121) (j:=v119.toNat) ({ ((gD v121 v119).1) with Y:=(w64 ((((gD v121 v119).1).Y)+(w64 (v111.Border.a0+v111.Padding.a0)))) }:aa) (aI h208).2 cm)) bC)))))))) (ah 2 (aY (hL6 h)))
  ·
   refine ak 355 h203 ?_
   obtain ⟨h209,h⟩:=av h
   refine aQ 8 (ve_sealN 500028 440028 61 67 66 61 67 ao ao v120 uTBlockFragment vj xq uQ h209 ?_)
   cases h
   exact cO
theorem xA (hK:KnOk K) (m:Nat):H22_6 M w0 r v1 v96 v111 v113 v114 v115 v116 v117 m (kw K n v1 v96 v111 v113 v114 v115 v116 v117 m):=by
  induction m with
 | zero=>intro v119 v120 h; cases h
 | succ m ih=>intro v119 v120 h; have h:pu K n v1 v96 v111 v113 v114 v115 v116 v117 (kw K n v1 v96 v111 v113 v114 v115 v116 v117 m) v119 v120=some r:=h; exact aW (xG hK ih h)
theorem s8 (hK:KnOk K) (h:gR K n v1 v96 v111 v113=some r):VE (cL M w0) (q22 M w0 r) [aw p22_32] .normal (s22_j10 v1 v96 v111 v113):=by
  unfold gR at h
  refine ac (ks':=[aw p22_33,aw p22_34]) 3 (bt [6,28,29,39] [6,28,39] [500028] ?_)
  obtain ⟨v114,h193,h⟩:=bind_some h
  obtain ⟨v115,h194,h⟩:=bind_some h
  refine bE 2 (nu 317 [.ptr 39 0,.ptr 39 0,iI v111.Margin.a0,.agg (bR v114),.ptr 39 0,.ptr 39 2,iI v111.Margin.a2,.agg (bR v115),.ptr 28 61,.ptr 28 63]) [] [] [stp Try.prog 391 Try.f22 p22_33 9,stp Try.prog 391 Try.f22 p22_33 11] (az (vz 3) (aj (e_c 0 1 320 (pV hK h193)) (az [.v 0 2,.v 0 2,.v 0 2] (aj (e_c 0 1 324 (pV hK h194)) (az [.v 0 1] (aj (e_d 0) (az [.v 1 1] (aj (e_d 1) bC)))))))) ?_
  obtain ⟨v116,h195,h⟩:=bind_some h
  have h195:=Option.some.inj h195
  refine bq (ks':=[aw p22_35,aw p22_36]) 3 ⟨[(6,.ptr 6 0),(28,.ptr 28 0),(29,iI v113),(39,.ptr 39 0)],[(6,List.set (aD aX) 66 (.nils)),(28,List.set (aD (⟨1,v1.Node,v111.Margin.a3,0,v116,0,0,⟨#[]⟩,v1.Style,v114,v115,false,[]⟩:aa)) 66 (.ref 500028)),(39,bI v111)],[(500028,⟨61,67,lm (encN ao 66 61 67 ao) v96⟩)],[6,28,39,500028]⟩ ?_ (by subst h195; kernel_rfl)
  refine ai 2 ?_
  obtain ⟨v117,h196,h⟩:=bind_some h
  exact aR (tu hK h196) (ag (ac (ks':=[aw p22_37,aw p22_38,aw ji]) 2 (ai 2 (aq (aZ (encN ao 66 61 67 ao) v96) (ag (ah 1 (bz (p:=p22_39) n (xA hK n h))))))))
theorem xz (hK:KnOk K) (hL4:kE M w0 r v1 v2 v5 v11 v25 v26 v38 v43 v46 m4 L4) (h:oN K n v1 v2 v5 v11 v25 v26 v38 v43 v46 L4 v94 v95 v96=some r):VE (cL M w0) (q22 M w0 r) [aw p22_3,de M w0 r m4,.b 6,aw cQ] .normal (s22_l9 v1 v2 v5 v11 v25 v26 v38 v43 v46 v94 v95 v96):=by
  unfold oN at h
  refine ac (ks':=[aw p22_40,aw p22_41,de M w0 r m4,.b 6,aw cQ]) 3 ?_
  rcases au h with ⟨h157,h⟩ | ⟨h157,h⟩
  ·
   refine ak 203 h157 (ac (ks':=[aw p22_42,aw p22_43,.b 7,aw dp,de M w0 r m4,.b 6,aw cQ]) 5 (ai 1 ?_))
   obtain ⟨h158,h⟩:=av h
   refine aq (bM 500015 67 (encN ao 66 61 67 ao) h158) ?_
   obtain ⟨v97,h159,h⟩:=bind_some h
   refine ot_outN 500015 420206 203 200 0 61 67 66 61 67 ao ao v95 v94.toNat v97 (.bool true) (aI h158).2 h159 db (fun x14=>?_)
   refine aq (y_ldX 61 500015 67 0 66 61 67 ao aD ao x14 (.agg ((aD (gD v95 v94).1).set 66 (.vv x14))) (L:=v95) (j:=v94.toNat) (aI h158).2 cm) ?_
   refine ot_frva 206 66 203 (tid:=420206) (x:=x14) (b:=⟨61,67,lm ao v97⟩) (cs:=(aD (gD v95 v94).1).set 66 (.vv x14)) ?_ (by kernel_rfl)
   refine ot_goneN 500015 61 67 66 61 67 ao ao v95 v94.toNat x14 (aI h158).2 db (ag ?_)
   obtain ⟨v98,h160,h⟩:=bind_some h
   have h160:=Option.some.inj h160
   obtain ⟨v99,h161,h⟩:=bind_some h
   have h161:=Option.some.inj h161
   obtain ⟨v100,h162,h⟩:=bind_some h
   have h162:=Option.some.inj h162
   obtain ⟨v101,h163,h⟩:=bind_some h
   have h163:=Option.some.inj h163
   obtain ⟨v102,h164,h⟩:=bind_some h
   have h164:=Option.some.inj h164
   refine bq (ks':=[aw p22_44,aw p22_45,.b 7,aw dp,de M w0 r m4,.b 6,aw cQ]) 1 ⟨[(1,iI v2),(3,.ptr 3 0),(6,.ptr 6 0),(12,iI (max v11 v5.1)),(14,.sl (lm aC v38)),(16,.sl (lm (eInt .i64) v25)),(27,.sl (lm (eInt .i64) v43)),(28,.ptr 28 0),(29,iI v46),(32,iI v94),(33,.ptr 33 0),(200,.ref 500015),(201,iI (v26.length:Int)),(202,iI v94)],[(3,aF v1),(6,List.set (aD aX) 66 (.nils)),(28,List.set (aD ({ aX with Kind:=1,Node:=v1.Node,Style:=v1.Style }:aa)) 66 (.ref 500028)),(33,List.set (aD ({ ((gD v95 v94).1) with Style:=v98,Before:=v99,After:=v100,Empty:=v101,Kids:=[] }:aa)) 66 (.ref 420206))],[(420206,⟨61,67,lm ao v97⟩),(500015,⟨61,67,lm (encN ao 66 61 67 ao) v102⟩),(500028,⟨61,67,lm (encN ao 66 61 67 ao) v96⟩)],[3,6,28,33,420206,500015,500028]⟩ ?_ (by subst h164; subst h163; subst h162; subst h161; subst h160; kernel_rfl)
   refine ai 2 ?_
   obtain ⟨h165,h⟩:=av h
   refine aq (bL aC aC h165 (fx) (fun _=>rfl)) (ag (ac (ks':=[aw p22_46,aw p22_47,.b 7,aw dp,de M w0 r m4,.b 6,aw cQ]) 1 (ai 8 ?_)))
   obtain ⟨h166,h⟩:=av h
   refine aq (qT (eInt .i64) v43 ((gD v38 v94).Row) (w64 (((gD v38 v94).Row)+((gD v38 v94).Rows))) 33 (.tmp 211) (some (.tmp 213)) (some (.tmp 218)) 219 (e:=3) (sz:=1) (by kernel_rfl) (by kernel_rfl) (by kernel_rfl) (by kernel_rfl) (by kernel_rfl) (by kernel_rfl) (fun _=>rfl) (fun k hk=>by subst hk; kernel_rfl) h166) ?_
   obtain ⟨v103,h167,h⟩:=bind_some h
   refine aR (pO hK h167) (ag (ac (ks':=[aw p22_48,aw p22_49,.b 7,aw dp,de M w0 r m4,.b 6,aw cQ]) 1 (bt [1,3,6,12,14,16,27,28,29,32,33,34,200,201,202] [3,6,28,33,34] [420206,500015,500028] ?_)))
   obtain ⟨h168,h⟩:=av h
   refine bE 1 (nu 222 [.ptr 33 5,iI v103,.sl (lm (eInt .i64) v25),iI v94,.cptr ([iI (gD v25 v94)]),iI (gD v25 v94),iI (w64 (v103 - (gD v25 v94))),iI (max (w64 (v103 - (gD v25 v94))) 0)]) [] [] [stp Try.prog 391 Try.f22 p22_48 8] (az (vz 4) (d_v (bL (eInt .i64) (eInt .i64) h168 (fun _=>rfl) (fun _=>rfl)) (az (vz 3) (aj (e_d 0) bC)))) ?_
   obtain ⟨v104,h169,h⟩:=bind_some h
   have h169:=Option.some.inj h169
   refine bq (ks':=[aw p22_50,.b 8,aw p22_23,.b 7,aw dp,de M w0 r m4,.b 6,aw cQ]) 8 ⟨[(1,iI v2),(3,.ptr 3 0),(6,.ptr 6 0),(12,iI (max v11 v5.1)),(14,.sl (lm aC v38)),(16,.sl (lm (eInt .i64) v25)),(27,.sl (lm (eInt .i64) v43)),(28,.ptr 28 0),(29,iI v46),(33,.ptr 33 0),(34,.ptr 34 0),(35,iI v104),(36,iI 0),(200,.ref 500015),(201,iI (v26.length:Int)),(202,iI v94),(232,iI v98.VAlign),(233,.bool (v98.VAlign == 2))],[(3,aF v1),(6,List.set (aD aX) 66 (.nils)),(28,List.set (aD ({ aX with Kind:=1,Node:=v1.Node,Style:=v1.Style }:aa)) 66 (.ref 500028)),(33,List.set (aD ({ ((gD v95 v94).1) with H:=v103,Style:=v98,Before:=v99,After:=v100,Empty:=v101,Kids:=[] }:aa)) 66 (.ref 420206)),(34,aC (gD v38 v94))],[(420206,⟨61,67,lm ao v97⟩),(500015,⟨61,67,lm (encN ao 66 61 67 ao) v102⟩),(500028,⟨61,67,lm (encN ao 66 61 67 ao) v96⟩)],[3,6,28,33,34,420206,500015,500028]⟩ ?_ (by subst h169; kernel_rfl)
   rcases au h with ⟨h170,h⟩ | ⟨h170,h⟩
   ·
    exact ak 233 h170 (ah 2 (sj hK hL4 h))
   ·
    refine ak 233 h170 (ac (ks':=[aw p22_51,.b 8,aw p22_23,.b 7,aw dp,de M w0 r m4,.b 6,aw cQ]) 3 ?_)
    rcases au h with ⟨h171,h⟩ | ⟨h171,h⟩
    ·
     exact ak 236 h171 (ah 2 (sj hK hL4 h))
    ·
     exact ak 236 h171 (ah 2 (sj hK hL4 h))
  ·
   refine ak 203 h157 (ac (ks':=[aw p22_52,aw p22_53]) 12 (ai 2 ?_))
   obtain ⟨v111,h190,h⟩:=bind_some h
   refine aR (tF hK h190) (ag (ac (ks':=[aw p22_54,aw p22_55,aw p22_32]) 2 (ai 3 ?_)))
   obtain ⟨v112,h191,h⟩:=bind_some h
   refine aR (rE hK h191) (ag (ac (ks':=[aw p22_56,aw p22_32]) 2 ?_))
   rcases au h with ⟨h192,h⟩ | ⟨h192,h⟩
   ·
    exact ak 309 h192 (ah 2 (s8 hK h))
   ·
    exact ak 309 h192 (ah 2 (s8 hK h))
theorem xy (hK:KnOk K) (m:Nat):kE M w0 r v1 v2 v5 v11 v25 v26 v38 v43 v46 m (gl K n v1 v2 v5 v11 v25 v26 v38 v43 v46 m):=by
  induction m with
 | zero=>intro v94 v95 v96 h; cases h
 | succ m ih=>intro v94 v95 v96 h; have h:oN K n v1 v2 v5 v11 v25 v26 v38 v43 v46 (gl K n v1 v2 v5 v11 v25 v26 v38 v43 v46 m) v94 v95 v96=some r:=h; exact aW (xz hK ih h)
theorem xv (hK:KnOk K) (hL3:H22_3 M w0 r v1 v2 v4 v5 v11 v25 v26 v38 v43 m3 L3) (h:pr K n v1 v2 v4 v5 v11 v25 v26 v38 v43 L3 v46 v47 v48=some r):VE (cL M w0) (q22 M w0 r) [aw p22_5,k22_3 M w0 r m3,.b 4,aw gK] .normal (s22_l5 v1 v2 v4 v5 v11 v25 v26 v38 v43 v46 v47 v48):=by
  unfold pr at h
  refine ac (ks':=[aw p22_57,aw p22_58,k22_3 M w0 r m3,.b 4,aw gK]) 3 ?_
  rcases au h with ⟨h69,h⟩ | ⟨h69,h⟩
  ·
   refine ak 173 h69 (ac (ks':=[aw p22_59,aw p22_60,.b 5,aw p22_61,k22_3 M w0 r m3,.b 4,aw gK]) 5 (ai 1 ?_))
   obtain ⟨h70,h⟩:=av h
   refine aq (bL ax aF h70 (co) (b8)) (ag (ac (ks':=[aw p22_62,aw p22_63,.b 5,aw p22_61,k22_3 M w0 r m3,.b 4,aw gK]) 1 (bt [1,3,6,12,14,15,16,27,28,29,30,31,170,171,172] [3,6,28,31] [1163,500015,500028] (ve_mark ?_))))
   obtain ⟨h71,h⟩:=av h
   obtain ⟨h72,h⟩:=av h
   refine bE 2 (nu 177 [.ptr 28 66,.ref 500028,.ptr 31 1,iI ((gD v4.rows v47).Node),.ptr 31 2,.agg (aO ((gD v4.rows v47).Style)),iI v46,iI (max v11 v5.1),.ref 1163,iI v47,.eptr 1163 1 (v47.toNat) 0,iI (gD v43 v47),.agg (List.set (aD ({ aX with Kind:=1,Node:=(gD v4.rows v47).Node,Y:=v46,W:=(max v11 v5.1),H:=(gD v43 v47),Style:=(gD v4.rows v47).Style }:aa)) 66 (.nils)),.sl [List.set (aD ({ aX with Kind:=1,Node:=(gD v4.rows v47).Node,Y:=v46,W:=(max v11 v5.1),H:=(gD v43 v47),Style:=(gD v4.rows v47).Style }:aa)) 66 (.nils)]]++nu 192 [.ptr 28 66]) [] [] [appS 191 500028 ⟨61,67,lm (encN ao 66 61 67 ao) v48++[(aD ({ aX with Kind:=1,Node:=(gD v4.rows v47).Node,Y:=v46,W:=(max v11 v5.1),H:=(gD v43 v47),Style:=(gD v4.rows v47).Style }:aa)).set 66 (.nils)]⟩,stp Try.prog 391 Try.f22 p22_62 16] (az [.v 0 2,.v 0 1,.v 0 2,.v 0 2,.v 0 2,.v 0 2,.v 0 2,.v 0 2,.v 0 2,.v 0 2] (aj (k_v (lo:=0) (k:=2) (bW ⟨(by kernel_rfl),(cc (bv 1163 1 (eInt .i64) (L:=v43) h71) (by kernel_rfl))⟩ (bW ⟨(by kernel_rfl),(cc (bv 1163 1 (eInt .i64) (L:=v43) h71) (by kernel_rfl))⟩ dd))) (aj (k_v (lo:=0) (k:=2) (bW ⟨(by kernel_rfl),(cc (bj 3 0 (eInt .i64) (eInt .i64) (aI h71).2 (fun _=>rfl)) (by kernel_rfl))⟩ (bW ⟨(by kernel_rfl),(cc (bj 3 0 (eInt .i64) (eInt .i64) (aI h71).2 (fun _=>rfl)) (by kernel_rfl))⟩ dd))) (az [.v 0 2,.v 0 1] (aj (e_s (m:=0) (y_apN 191 500028 61 67 66 61 67 ao aD ao ({ aX with Kind:=1,Node:=(gD v4.rows v47).Node,Y:=v46,W:=(max v11 v5.1),H:=(gD v43 v47),Style:=(gD v4.rows v47).Style }:aa) (.nils) cm db h72)) (az [.v 1 1] (aj (e_d 1) bC))))))) (ve_grow 500028 61 67 66 61 67 ao aD ao v48 ({ aX with Kind:=1,Node:=(gD v4.rows v47).Node,Y:=v46,W:=(max v11 v5.1),H:=(gD v43 v47),Style:=(gD v4.rows v47).Style }:aa) cm db ?_)
   obtain ⟨v49,h73,h⟩:=bind_some h
   have h73:=Option.some.inj h73
   refine bq (ks':=[aw p22_63,.b 5,aw p22_61,k22_3 M w0 r m3,.b 4,aw gK]) 0 ⟨[(1,iI v2),(3,.ptr 3 0),(6,.ptr 6 0),(12,iI (max v11 v5.1)),(14,.sl (lm aC v38)),(15,.ref 500015),(16,.sl (lm (eInt .i64) v25)),(27,.ref 1163),(28,.ptr 28 0),(29,iI v46),(30,iI v47),(170,.sl (lm ax v4.rows)),(171,iI (v4.rows.length:Int)),(172,iI v47)],[(3,aF v1),(6,List.set (aD aX) 66 (.nils)),(28,List.set (aD ({ aX with Kind:=1,Node:=v1.Node,Style:=v1.Style }:aa)) 66 (.ref 500028))],[(1163,⟨3,1,lm (eInt .i64) v43⟩),(500015,⟨61,67,lm (encN ao 66 61 67 ao) v26⟩),(500028,⟨61,67,lm (encN ao 66 61 67 ao) v49⟩)],[3,6,28,1163,500015,500028]⟩ ?_ (by subst h73; kernel_rfl)
   refine ai 3 ?_
   obtain ⟨h74,h⟩:=av h
   exact aq (bM 1163 1 (eInt .i64) h74) (aq (bj 3 0 (eInt .i64) (eInt .i64) (aI h74).2 (fun _=>rfl)) (ag (ah 2 (aY (hL3 h)))))
  ·
   exact ak 173 h69 (ac (ks':=[aw p22_64,aw p22_65,aw cQ]) 7 (ai 1 (aq (aZ (encN ao 66 61 67 ao) v26) (ag (ac (ks':=[aw p22_66,.b 6,aw cQ]) 1 (iJ 1163 (ah 0 (bz (p:=p22_66) n (xy hK n h)))))))))
theorem vi (hK:KnOk K) (m:Nat):H22_3 M w0 r v1 v2 v4 v5 v11 v25 v26 v38 v43 m (jG K n v1 v2 v4 v5 v11 v25 v26 v38 v43 m):=by
  induction m with
 | zero=>intro v46 v47 v48 h; cases h
 | succ m ih=>intro v46 v47 v48 h; have h:pr K n v1 v2 v4 v5 v11 v25 v26 v38 v43 (jG K n v1 v2 v4 v5 v11 v25 v26 v38 v43 m) v46 v47 v48=some r:=h; exact aW (xv hK ih h)
theorem wI (hK:KnOk K) (hL2:H22_2 M w0 r v1 v2 v4 v5 v11 v25 v26 m2 L2) (h:nJ K n v1 v2 v4 v5 v11 v25 v26 L2 v37 v38 v39=some r):VE (cL M w0) (q22 M w0 r) [aw p22_7,js M w0 r m2,.b 2,aw gg] .normal (s22_l4 v1 v2 v4 v5 v11 v25 v26 v37 v38 v39):=by
  unfold nJ at h
  refine ac (ks':=[aw p22_67,aw p22_68,js M w0 r m2,.b 2,aw gg]) 3 ?_
  rcases au h with ⟨h55,h⟩ | ⟨h55,h⟩
  ·
   refine ak 136 h55 (ac (ks':=[aw p22_69,aw p22_70,.b 3,aw n8,js M w0 r m2,.b 2,aw gg]) 5 (ai 1 ?_))
   obtain ⟨h56,h⟩:=av h
   refine aq (bL ax aF h56 (co) (b8)) (ag (ac (ks':=[aw p22_71,aw p22_72,.b 3,aw n8,js M w0 r m2,.b 2,aw gg]) 1 (ai 3 ?_)))
   obtain ⟨v40,h57,h⟩:=bind_some h
   refine aR (rE hK h57) (ag (ac (ks':=[aw p22_73,.b 3,aw n8,js M w0 r m2,.b 2,aw gg]) 2 ?_))
   rcases au h with ⟨h58,h⟩ | ⟨h58,h⟩
   ·
    refine ak 147 h58 (ac (ks':=[aw p22_74,aw p22_75,.b 3,aw n8,js M w0 r m2,.b 2,aw gg]) 2 (ai 4 ?_))
    obtain ⟨h59,h⟩:=av h
    refine aq (cE 152 1084 30 4 aC (rfl) (fx) h59) (ag (ai 3 ?_))
    obtain ⟨h60,h⟩:=av h
    exact aq (cE 156 1131 3 1 (eInt .i64) (rfl) (fun _=>rfl) h60) (ag (ah 0 (tS hK hL2 h)))
   ·
    exact ak 147 h58 (ah 2 (tS hK hL2 h))
  ·
   refine ak 136 h55 (ac (ks':=[aw p22_76,aw p22_77]) 6 (ai 4 (aq (aZ ax v4.rows) (dV 1084 (dV 1131 ?_)))))
   obtain ⟨v43,h61,h⟩:=bind_some h
   exact cZ 1163 (vE hK h61) (dQ 17) (ag (ac (ks':=[aw p22_78,aw p22_79,aw gK]) 6 (ai 2 (aq (aZ ax v4.rows) (ag (ac (ks':=[aw p22_80,.b 4,aw gK]) 1 (bt [1,3,6,12,14,15,16,27,28,29,170,171,172] [3,6,28] [1163,500015] (ve_wo 500028 28 66 61 67 (ah 0 (bz (p:=p22_80) n (vi hK n h)))))))))))
theorem uS (hK:KnOk K) (m:Nat):H22_2 M w0 r v1 v2 v4 v5 v11 v25 v26 m (jl K n v1 v2 v4 v5 v11 v25 v26 m):=by
  induction m with
 | zero=>intro v37 v38 v39 h; cases h
 | succ m ih=>intro v37 v38 v39 h; have h:nJ K n v1 v2 v4 v5 v11 v25 v26 (jl K n v1 v2 v4 v5 v11 v25 v26 m) v37 v38 v39=some r:=h; exact aW (wI hK ih h)
theorem xn (hK:KnOk K) (hL1:H22_1 M w0 r v1 v2 v3 v4 v5 v11 v12 v13 m1 L1) (h:n6 K n v1 v2 v3 v4 v5 v11 v12 v13 L1 v24 v25 v26=some r):VE (cL M w0) (q22 M w0 r) [aw p22_9,iD M w0 r m1,.b 0,aw eN] .normal (s22_l2 v1 v2 v3 v4 v5 v11 v12 v13 v24 v25 v26):=by
  unfold n6 at h
  refine ac (ks':=[aw p22_81,aw p22_82,iD M w0 r m1,.b 0,aw eN]) 3 ?_
  rcases au h with ⟨h35,h⟩ | ⟨h35,h⟩
  ·
   refine ak 89 h35 (ac (ks':=[aw p22_83,aw p22_84,.b 1,aw kp,iD M w0 r m1,.b 0,aw eN]) 5 (ai 1 ?_))
   obtain ⟨h36,h⟩:=av h
   refine aq (bL ax aF h36 (co) (b8)) (ag (ac (ks':=[aw p22_86,aw p22_87,.b 1,aw kp,iD M w0 r m1,.b 0,aw eN]) 1 (ai 2 ?_)))
   obtain ⟨h37,h⟩:=av h
   refine aq (bM 1084 4 aC h37) (aq (bj 30 0 aC aC (aI h37).2 (fun _=>rfl)) (ag (ac (ks':=[aw p22_88,aw p22_89,.b 1,aw kp,iD M w0 r m1,.b 0,aw eN]) 1 (bt [1,3,5,6,7,12,13,14,15,16,18,19,86,87,88] [3,5,6,7,18,19] [128,1084,500015] ?_))))
   obtain ⟨h38,h⟩:=av h
   obtain ⟨v27,h39,h⟩:=bind_some h
   obtain ⟨v28,h40,h⟩:=bind_some h
   refine bE 2 [(98,.agg (aF (gD v4.cells v24))),(99,iI (max v11 v5.1)),(100,.sl (lm (eInt .i64) v12)),(101,.ptr 19 1),(102,iI ((gD v13 v24).Col)),(103,.ptr 19 1),(104,iI ((gD v13 v24).Col)),(105,.ptr 19 3),(106,iI ((gD v13 v24).Cols)),(107,iI (w64 (((gD v13 v24).Col)+((gD v13 v24).Cols)))),(108,.sl (lm (eInt .i64) (List.drop (((gD v13 v24).Col)).toNat (List.take ((w64 (((gD v13 v24).Col)+((gD v13 v24).Cols)))).toNat v12)))),(109,iI v27),(110,.agg (cj v3)),(111,.tup [.agg (List.set (aD ({ v28.1 with Kids:=[] }:aa)) 66 (.ref 111)),iI v28.2]),(97,.tup [.agg (List.set (aD ({ v28.1 with Kids:=[] }:aa)) 66 (.ref 111)),iI v28.2]),(112,.agg (List.set (aD ({ v28.1 with Kids:=[] }:aa)) 66 (.ref 111))),(113,iI v28.2),(20,.ptr 20 0)] [(20,List.set (aD aX) 66 (.nils))] [(111,⟨61,67,lm ao v28.1.Kids⟩)] [stp Try.prog 391 Try.f22 p22_88 18,stp Try.prog 391 Try.f22 p22_88 19] (az (vz 10) (d_v (qT (eInt .i64) v12 ((gD v13 v24).Col) (w64 (((gD v13 v24).Col)+((gD v13 v24).Cols))) 33 (.tmp 100) (some (.tmp 102)) (some (.tmp 107)) 108 (e:=3) (sz:=1) (by kernel_rfl) (by kernel_rfl) (by kernel_rfl) (by kernel_rfl) (by kernel_rfl) (by kernel_rfl) (fun _=>rfl) (fun k hk=>by subst hk; kernel_rfl) h38) (aj (e_c 0 1 109 (pO hK h39)) (az [.v 0 1] (aj (e_o 0 1 111 (g_table_cell_ok hK h40) (one_tupa (i:=0) (j:=66) rfl (by kernel_rfl))) (az [.v 0 1,.v 0 1,.v 0 2] (aj (e_a 0 1 61 20 (List.set (aD aX) 66 (.nils))) (aj (e_d 0) (aj (e_d 1) bC))))))))) (ac (ks':=[aw p22_90,aw p22_91,.b 1,aw kp,iD M w0 r m1,.b 0,aw eN]) 1 (ai 3 ?_))
   obtain ⟨h41,h⟩:=av h
   refine aq (qT (eInt .i64) v12 (0:Int) ((gD v13 v24).Col) 33 (.tmp 114) none (some (.tmp 116)) 117 (e:=3) (sz:=1) (by kernel_rfl) (by kernel_rfl) (by kernel_rfl) (by kernel_rfl) (by kernel_rfl) (by kernel_rfl) (fun _=>rfl) (fun k hk=>by subst hk; kernel_rfl) h41) ?_
   obtain ⟨v29,h42,h⟩:=bind_some h
   refine aR (pO hK h42) (ag (ac (ks':=[aw p22_92,aw p22_93,.b 1,aw kp,iD M w0 r m1,.b 0,aw eN]) 1 (ve_mark (ai 2 ?_))))
   refine pb 111 99 (c0:=iI (max v11 v5.1)) (gF 122 66 (by kernel_rfl)) (fun x3=>?_)
   refine pj 122 99 (tid:=111) (x:=x3) (c:=.agg (List.set (aD ({ v28.1 with X:=v29,Y:=0,Kids:=[] }:aa)) 66 (.ref 111))) (aV 3 1 ?_)
   obtain ⟨h43,h⟩:=av h
   refine aq (y_apN 124 500015 61 67 66 61 67 ao aD ao ({ v28.1 with X:=v29,Y:=0,Kids:=[] }:aa) (.vv x3) cm db h43) (ot_groO 500015 111 99 124 0 61 67 66 61 67 ao aD ao v26 ({ v28.1 with X:=v29,Y:=0,Kids:=[] }:aa) v28.1.Kids x3 cm db (ag ?_))
   obtain ⟨v30,h44,h⟩:=bind_some h
   have h44:=Option.some.inj h44
   refine bq (ks':=[aw p22_93,.b 1,aw kp,iD M w0 r m1,.b 0,aw eN]) 0 ⟨[(1,iI v2),(3,.ptr 3 0),(5,.ptr 5 0),(6,.ptr 6 0),(7,.ptr 7 0),(12,iI (max v11 v5.1)),(13,.sl (lm (eInt .i64) v12)),(14,.ref 1084),(15,.ref 500015),(16,.ref 128),(21,iI v28.2),(86,.sl (lm ax v4.cells)),(87,iI (v4.cells.length:Int)),(88,iI v24)],[(3,aF v1),(5,cj v3),(6,List.set (aD aX) 66 (.nils)),(7,di v4)],[(128,⟨3,1,lm (eInt .i64) v25⟩),(1084,⟨30,4,lm aC v13⟩),(500015,⟨61,67,lm (encN ao 66 61 67 ao) v30⟩)],[3,5,6,7,128,1084,500015]⟩ ?_ (by subst h44; kernel_rfl)
   refine ai 3 ?_
   obtain ⟨h45,h⟩:=av h
   exact aq (cE 128 128 3 1 (eInt .i64) (rfl) (fun _=>rfl) h45) (ag (ah 2 (aY (hL1 h))))
  ·
   refine ak 89 h35 (ac (ks':=[aw p22_94,aw p22_95]) 6 (ai 1 (dV 128 ?_)))
   obtain ⟨v31,h46,h⟩:=bind_some h
   exact cZ 1131 (wS hK h46) (dQ 5) (ag (ac (ks':=[aw p22_96,aw p22_97,aw gg]) 2 (ai 2 (aq (aZ ax v4.rows) (ag (ah 1 (bz (p:=p22_98) n (uS hK n h))))))))
theorem ww (hK:KnOk K) (m:Nat):H22_1 M w0 r v1 v2 v3 v4 v5 v11 v12 v13 m (kI K n v1 v2 v3 v4 v5 v11 v12 v13 m):=by
  induction m with
 | zero=>intro v24 v25 v26 h; cases h
 | succ m ih=>intro v24 v25 v26 h; have h:n6 K n v1 v2 v3 v4 v5 v11 v12 v13 (kI K n v1 v2 v3 v4 v5 v11 v12 v13 m) v24 v25 v26=some r:=h; exact aW (xn hK ih h)
theorem tn (hK:KnOk K) (h:lO K n v1 v2 v3 v4 v5 v10=some r):VE (cL M w0) (q22 M w0 r) [aw p22_99] .normal (s22_j1 v1 v2 v3 v4 v5 v10):=by
  unfold lO at h
  refine ac (ks':=[aw p22_100,aw p22_101]) 1 (ai 4 ?_)
  obtain ⟨v11,h8,h⟩:=bind_some h
  refine aR (qM hK h8) (ag (ac (ks':=[aw p22_102,aw p22_103]) 1 (ai 3 ?_)))
  obtain ⟨v12,h9,h⟩:=bind_some h
  refine cZ 1081 (uv hK h9) (dQ 17) (ag (ac (ks':=[aw p22_104,aw p22_105]) 1 (ai 2 ?_)))
  obtain ⟨v13,h10,h⟩:=bind_some h
  exact cZ 1084 (vA hK h10) (dQ 5) (ag (ac (ks':=[aw p22_106,aw p22_107,aw eN]) 6 (ai 2 (aq (aZ ax v4.cells) (ag (ac (ks':=[aw p22_108,.b 0,aw eN]) 1 (bt [1,3,5,6,7,12,13,14,15,16,86,87,88] [3,5,6,7] [1081,1084] (dF 500015 15 61 67 (iJ 1081 (dF 128 16 3 1 (ah 0 (bz (p:=p22_108) n (ww hK n h)))))))))))))
theorem xp (hK:KnOk K) (h:pg K n v1 v2 v3=some r):ACalls Try.prog 22 [.agg (aF v1),iI v2,.agg (cj v3)] (fun v s=>v = .agg (List.set (aD ({ r with Kids:=[] }:aa)) 66 (.ref 440028))∧look 440028 s.r=some ⟨61,67,lm ao r.Kids⟩):=by
  refine bo (cat Try.f22 []) Try.func22 Try.ntmps22 fun M w0=>(bg ⟨[(0,.agg (aF v1)),(1,iI v2),(2,.agg (cj v3))],[],[],[]⟩ ?_)
  unfold pg at h
  refine ac (ks':=[aw [1,0],aw [1,1]]) 3 (ai 2 ?_)
  obtain ⟨v4,h1,h⟩:=bind_some h
  refine cZ 1045 (wG hK h1) (gP (i:=0) (by kernel_rfl)) (ag (ac (ks':=[aw [1,1,0],aw [1,1,1]]) 1 (ai 1 (dV 1045 ?_))))
  obtain ⟨v5,h2,h⟩:=bind_some h
  refine aR (vJ hK h2) (ag (ac (ks':=[aw p22_109,aw p22_110]) 1 (ai 4 ?_)))
  obtain ⟨v6,h3,h⟩:=bind_some h
  refine aR (df hK h3) (ag (ac (ks':=[aw p22_111,aw p22_99]) 3 ?_))
  rcases au h with ⟨h4,h⟩ | ⟨h4,h⟩
  ·
   refine ak 60 h4 (ac (ks':=[aw p22_112,aw p22_99]) 1 (bt [1,3,5,6,7,8,9] [3,5,6,7] [] ?_))
   obtain ⟨v7,h5,h⟩:=bind_some h
   obtain ⟨v8,h6,h⟩:=bind_some h
   obtain ⟨v9,h7,h⟩:=bind_some h
   exact bE 1 (nu 61 [iI v2,iI v7,.ptr 3 2,.agg (aO v1.Style),iI v2,.agg (bI v8),iI v9,iI (w64 (v7 - v9)),iI v5.2,iI (min (w64 (v7 - v9)) v5.2)]) [] [] [stp Try.prog 391 Try.f22 p22_112 10] (az [.v 0 1] (aj (e_c 0 1 62 (iu hK h5)) (az (vz 3) (aj (e_c 0 1 66 (pA hK h6)) (aj (e_c 0 1 67 (mC hK h7)) (az (vz 3) (aj (e_d 0) bC))))))) (ah 0 (tn hK h))
  ·
   exact ak 60 h4 (ah 2 (tn hK h))
end
noncomputable section
variable {K:Kn} {n:Nat} {M:Nat→Prop} {w0:Base} {r:bw}  
theorem ro (hK:KnOk K) (h:j8 K n=some r):ACalls Try.prog 23 [] (fun v _=>v = .agg (cj r)):=by
  refine bo (cat Try.f23 []) Try.func23 Try.ntmps23 fun M w0=>(bg ⟨[],[],[],[]⟩ ?_)
  unfold j8 at h
  refine aQ 5 ?_
  cases h
  exact bF
end
end Go.Proofs.Ytolhpahjgddjkaa

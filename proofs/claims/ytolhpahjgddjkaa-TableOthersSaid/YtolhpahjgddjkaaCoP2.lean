/- The runs of the functions that TableOthers reaches do what their plain forms say, part 2. Made by a program. -/
import Derived.Test.YtolhpahjgddjkaaCoGk
import Derived.Test.YtolhpahjgddjkaaCoP1
namespace Go.Proofs.Ytolhpahjgddjkaa
open Go.RowKit
set_option maxRecDepth 20000
set_option linter.all false
set_option linter.unusedVariables false
set_option linter.unusedSimpArgs false
def ib:=pth 8 1
def p40_1:=pth 7 10100
def jL:=pth 7 1
def p40_3:=pth 6 10100
def dj:=pth 0 11111
def p40_5:=pth 0 11110100
def gc:=pth 0 111101001100111
def fy:=pth 0 11110100111
def p40_8:=pth 0 111101001100110100
def p40_9:=pth 0 11110100110011010010
def p40_10:=pth 0 11110100110011010011
def p40_11:=pth 0 11110100110011010011000
def p40_12:=pth 0 11110100110011010011001
def p40_13:=pth 0 111101001100110100111
def p40_14:=pth 0 111101001100110100110010
def p40_15:=pth 0 111101001100110100110011
def p40_16:=pth 7 1010010
def p40_17:=pth 7 1010011
def p40_18:=pth 7 1010011000
def p40_19:=pth 7 1010011001
def p40_20:=pth 7 10100111
def p40_21:=pth 7 10100110010
def p40_22:=pth 7 10100110011
def p40_23:=pth 8 10
def p40_24:=pth 9 1
def p40_25:=pth 6 1010010
def p40_26:=pth 6 1010011
def p40_27:=pth 6 1010011000
def p40_28:=pth 6 1010011001
def p40_29:=pth 6 10100111
def p40_30:=pth 7 100
def p40_31:=pth 7 101
def p40_32:=pth 7 1010
def p40_33:=pth 0 1111010010
def p40_34:=pth 0 1111010011
def p40_35:=pth 0 1111010011000
def p40_36:=pth 0 1111010011001
def p40_37:=pth 0 1111010011001100
def p40_38:=pth 0 1111010011001101
def p40_39:=pth 0 11110100110011010
def p40_40:=pth 0 111110
def p40_41:=pth 5 1
def p40_42:=pth 6 100
def p40_43:=pth 6 101
def p40_44:=pth 6 1010
def p40_45:=pth 0 111100
def p40_46:=pth 0 111101
def p40_47:=pth 0 1111010
noncomputable section
abbrev eW (M:Nat→Prop) (w0:Base):Cx:=⟨Try.prog,103,M,w0⟩
abbrev q40 (M:Nat→Prop) (w0:Base) (r:bj):=bodyPost Try.prog Try.f40 (RetQ M w0 (fun v s=>v = .agg (List.set (dd ({ r with rows:=[] }:bj)) 0 (.ref 1022))∧look 1022 s.r=some ⟨55,59,lm aw r.rows⟩))
abbrev aN (p:List Nat):Kont:=.c (cat Try.f40 p)
abbrev k40_4 (M:Nat→Prop) (w0:Base) (r:bj) (m4:Nat):Kont:=kl (eW M w0) (q40 M w0 r) [.b 6,aN ib] (cat Try.f40 p40_1) m4
abbrev k40_3 (M:Nat→Prop) (w0:Base) (r:bj) (m3:Nat):Kont:=kl (eW M w0) (q40 M w0 r) [.b 4,aN jL] (cat Try.f40 p40_3) m3
abbrev d8 (M:Nat→Prop) (w0:Base) (r:bj) (m1:Nat):Kont:=kl (eW M w0) (q40 M w0 r) [.b 0,aN dj] (cat Try.f40 p40_5) m1
abbrev k40_2 (M:Nat→Prop) (w0:Base) (r:bj) (m1 m2:Nat):Kont:=kl (eW M w0) (q40 M w0 r) [.b 2,aN gc,.b 1,aN fy,d8 M w0 r m1,.b 0,aN dj] (cat Try.f40 p40_8) m2
def s40_l1 (v2:bv) (v3:List ab) (v16:Int) (v18:List (List (V2 Int))) (v19:List ab) (v21:Int) (v22:List (V2 Int)) (v23:List ab):AS:=⟨[(3,.ptr 3 0),(4,.ptr 4 0),(5,.ptr 5 0),(6,.ref 56),(9,.ref 45),(25,.ref 1022),(26,iI (v3.length:Int)),(27,iI v16),(32,.ref 1032),(33,iI (v19.length:Int)),(34,iI v21)],[(3,cf v2),(4,List.set (List.set (List.set (List.set (dd fp) 0 (.nils)) 1 (.nils)) 2 (.nils)) 3 (.nils)),(5,List.set (List.set (List.set (List.set (dd fp) 0 (.ref 1022)) 1 (.ref 50)) 2 (.nils)) 3 (.nils))],[(45,⟨73,2,lm (eV2 (eInt .i64)) v22⟩),(50,⟨55,59,lm aw v23⟩),(56,⟨24,1,lm (eSl (eV2 (eInt .i64))) v18⟩),(1022,⟨55,59,lm aw v3⟩),(1032,⟨55,59,lm aw v19⟩)],[3,4,5,45,50,56,1022,1032]⟩
def s40_l4 (v2:bv) (v3 v17:List ab) (v25:(List (List ae))×Int) (v27:List ae) (v32:Int) (v33:List ak):AS:=⟨[(3,.ptr 3 0),(4,.ptr 4 0),(5,.ptr 5 0),(13,iI v25.2),(14,.ref 94),(76,.ref 50),(77,iI (v17.length:Int)),(78,iI v32)],[(3,cf v2),(4,List.set (List.set (List.set (List.set (dd fp) 0 (.nils)) 1 (.nils)) 2 (.nils)) 3 (.nils)),(5,List.set (List.set (List.set (List.set (dd fp) 0 (.ref 1022)) 1 (.ref 50)) 2 (.ref 72)) 3 (.nils))],[(50,⟨55,59,lm aw v17⟩),(72,⟨30,4,lm aB v27⟩),(94,⟨36,2,lm aL v33⟩),(1022,⟨55,59,lm aw v3⟩)],[3,4,5,50,72,94,1022]⟩
def s40_l3 (v2:bv) (v3 v17:List ab) (v25:(List (List ae))×Int) (v26:Int) (v27:List ae):AS:=⟨[(3,.ptr 3 0),(4,.ptr 4 0),(5,.ptr 5 0),(13,iI v25.2),(14,.nils),(63,.ref 1060),(64,iI (v25.1.length:Int)),(65,iI v26)],[(3,cf v2),(4,List.set (List.set (List.set (List.set (dd fp) 0 (.nils)) 1 (.nils)) 2 (.nils)) 3 (.nils)),(5,List.set (List.set (List.set (List.set (dd fp) 0 (.ref 1022)) 1 (.ref 50)) 2 (.ref 72)) 3 (.nils))],[(50,⟨55,59,lm aw v17⟩),(72,⟨30,4,lm aB v27⟩),(1022,⟨55,59,lm aw v3⟩),(1060,⟨28,1,lm (eSl aB) v25.1⟩)],[3,4,5,50,72,1022,1060]⟩
def s40_l2 (v2:bv) (v3:List ab) (v16:Int) (v17:List ab) (v18:List (List (V2 Int))):AS:=⟨[(3,.ptr 3 0),(4,.ptr 4 0),(5,.ptr 5 0),(6,.ref 56),(25,.ref 1022),(26,iI (v3.length:Int)),(27,iI v16)],[(3,cf v2),(4,List.set (List.set (List.set (List.set (dd fp) 0 (.nils)) 1 (.nils)) 2 (.nils)) 3 (.nils)),(5,List.set (List.set (List.set (List.set (dd fp) 0 (.ref 1022)) 1 (.ref 50)) 2 (.nils)) 3 (.nils))],[(50,⟨55,59,lm aw v17⟩),(56,⟨24,1,lm (eSl (eV2 (eInt .i64))) v18⟩),(1022,⟨55,59,lm aw v3⟩)],[3,4,5,50,56,1022]⟩
abbrev H40_1 (M:Nat→Prop) (w0:Base) (r:bj) (v2:bv) (v3:List ab) (m1:Nat) (L1:Int→(List ab)→(List (List (V2 Int)))→Option bj):Prop:=∀ {v16:Int} {v17:(List ab)} {v18:(List (List (V2 Int)))},L1 v16 v17 v18=some r→LP (eW M w0) (q40 M w0 r) [.b 0,aN dj] (cat Try.f40 p40_5) m1 (s40_l2 v2 v3 v16 v17 v18)
abbrev H40_2 (M:Nat→Prop) (w0:Base) (r:bj) (v2:bv) (v3:List ab) (v16:Int) (v18:List (List (V2 Int))) (v19:List ab) (m1 m2:Nat) (L2:Int→(List (V2 Int))→(List ab)→Option bj):Prop:=∀ {v21:Int} {v22:(List (V2 Int))} {v23:(List ab)},L2 v21 v22 v23=some r→LP (eW M w0) (q40 M w0 r) [.b 2,aN gc,.b 1,aN fy,d8 M w0 r m1,.b 0,aN dj] (cat Try.f40 p40_8) m2 (s40_l1 v2 v3 v16 v18 v19 v21 v22 v23)
abbrev H40_3 (M:Nat→Prop) (w0:Base) (r:bj) (v2:bv) (v3 v17:List ab) (v25:(List (List ae))×Int) (m3:Nat) (L3:Int→(List ae)→Option bj):Prop:=∀ {v26:Int} {v27:(List ae)},L3 v26 v27=some r→LP (eW M w0) (q40 M w0 r) [.b 4,aN jL] (cat Try.f40 p40_3) m3 (s40_l3 v2 v3 v17 v25 v26 v27)
abbrev H40_4 (M:Nat→Prop) (w0:Base) (r:bj) (v2:bv) (v3 v17:List ab) (v25:(List (List ae))×Int) (v27:List ae) (m4:Nat) (L4:Int→(List ak)→Option bj):Prop:=∀ {v32:Int} {v33:(List ak)},L4 v32 v33=some r→LP (eW M w0) (q40 M w0 r) [.b 6,aN ib] (cat Try.f40 p40_1) m4 (s40_l4 v2 v3 v17 v25 v27 v32 v33)
variable {K:Kn} {n:Nat} {M:Nat→Prop} {w0:Base} {r:bj} {v1:ab} {v2:bv} {v3:List ab} {v16:Int} {v17:List ab} {v18:List (List (V2 Int))} {v19:List ab} {v21:Int} {v22:List (V2 Int)} {v23:List ab} {v25:(List (List ae))×Int} {v26:Int} {v27:List ae} {v32:Int} {v33:List ak} {m1:Nat} {L1:Int→(List ab)→(List (List (V2 Int)))→Option bj} {m2:Nat} {L2:Int→(List (V2 Int))→(List ab)→Option bj} {m3:Nat} {L3:Int→(List ae)→Option bj} {m4:Nat} {L4:Int→(List ak)→Option bj}
theorem xq (hK:KnOk K) (hL1:H40_1 M w0 r v2 v3 m1 L1) (hL2:H40_2 M w0 r v2 v3 v16 v18 v19 m1 m2 L2) (h:mW K n v2 v3 v16 v18 v19 L1 L2 v21 v22 v23=some r):VE (eW M w0) (q40 M w0 r) [aN p40_8,k40_2 M w0 r m1 m2,.b 2,aN gc,.b 1,aN fy,d8 M w0 r m1,.b 0,aN dj] .normal (s40_l1 v2 v3 v16 v18 v19 v21 v22 v23):=by
  unfold mW at h
  refine ac (ks':=[aN p40_9,aN p40_10,k40_2 M w0 r m1 m2,.b 2,aN gc,.b 1,aN fy,d8 M w0 r m1,.b 0,aN dj]) 3 ?_
  rcases aq h with ⟨h50,h⟩ | ⟨h50,h⟩
  ·
   refine aj 35 h50 (ac (ks':=[aN p40_11,aN p40_12,.b 3,aN p40_13,k40_2 M w0 r m1 m2,.b 2,aN gc,.b 1,aN fy,d8 M w0 r m1,.b 0,aN dj]) 5 (ai 0 ?_))
   obtain ⟨h51,h⟩:=au h
   refine ap (bJ 1032 59 aw h51) (ap (bk 55 0 aw aH (aI h51).2 (b9)) (ag (ac (ks':=[aN p40_14,aN p40_15,.b 3,aN p40_13,k40_2 M w0 r m1 m2,.b 2,aN gc,.b 1,aN fy,d8 M w0 r m1,.b 0,aN dj]) 1 (ai 7 ?_))))
   obtain ⟨h52,h⟩:=au h
   refine ap (co 45 45 73 2 (eV2 (eInt .i64)) (rfl) (fun _=>rfl) h52) (ag ?_)
   obtain ⟨v24,h53,h⟩:=bind_some h
   have h53:=Option.some.inj h53
   refine bo (ks':=[aN p40_15,.b 3,aN p40_13,k40_2 M w0 r m1 m2,.b 2,aN gc,.b 1,aN fy,d8 M w0 r m1,.b 0,aN dj]) 0 ⟨[(3,.ptr 3 0),(4,.ptr 4 0),(5,.ptr 5 0),(6,.ref 56),(9,.ref 45),(11,.ptr 11 0),(25,.ref 1022),(26,iI (v3.length:Int)),(27,iI v16),(32,.ref 1032),(33,iI (v19.length:Int)),(34,iI v21)],[(3,cf v2),(4,List.set (List.set (List.set (List.set (dd fp) 0 (.nils)) 1 (.nils)) 2 (.nils)) 3 (.nils)),(5,List.set (List.set (List.set (List.set (dd fp) 0 (.ref 1022)) 1 (.ref 50)) 2 (.nils)) 3 (.nils)),(11,aH (gD v19 v21))],[(45,⟨73,2,lm (eV2 (eInt .i64)) v24⟩),(50,⟨55,59,lm aw v23⟩),(56,⟨24,1,lm (eSl (eV2 (eInt .i64))) v18⟩),(1022,⟨55,59,lm aw v3⟩),(1032,⟨55,59,lm aw v19⟩)],[3,4,5,11,45,50,56,1022,1032]⟩ ?_ (by subst h53; kernel_rfl)
   refine ai 3 (ap (d7 aw ([(gD v19 v21)]:List ab) (new:=[aH (gD v19 v21)]) (by simp only [List.map_cons,List.map_nil,b9])) ?_)
   obtain ⟨h54,h⟩:=au h
   exact ap (co 50 50 55 59 aw (rfl) (ce) h54) (ag (ah 2 (aW (hL2 h))))
  ·
   refine aj 35 h50 (ac (ks':=[aN gc,.b 1,aN fy,d8 M w0 r m1,.b 0,aN dj]) 5 (ai 2 (dG 45 (aM 3 1 ?_))))
   obtain ⟨h55,h⟩:=au h
   exact ap (co 56 56 24 1 (eSl (eV2 (eInt .i64))) (rfl) (fun _=>rfl) h55) (ag (ah 2 (aW (hL1 h))))
theorem w3 (hK:KnOk K) (hL1:H40_1 M w0 r v2 v3 m1 L1) (m:Nat):H40_2 M w0 r v2 v3 v16 v18 v19 m1 m (js K n v2 v3 v16 v18 v19 L1 m):=by
  induction m with
 | zero=>intro v21 v22 v23 h; cases h
 | succ m ih=>intro v21 v22 v23 h; have h:mW K n v2 v3 v16 v18 v19 L1 (js K n v2 v3 v16 v18 v19 L1 m) v21 v22 v23=some r:=h; exact aV (xq hK hL1 ih h)
theorem vG (hK:KnOk K) (hL4:H40_4 M w0 r v2 v3 v17 v25 v27 m4 L4) (h:oM K n v2 v3 v17 v25 v27 L4 v32 v33=some r):VE (eW M w0) (q40 M w0 r) [aN p40_1,k40_4 M w0 r m4,.b 6,aN ib] .normal (s40_l4 v2 v3 v17 v25 v27 v32 v33):=by
  unfold oM at h
  refine ac (ks':=[aN p40_16,aN p40_17,k40_4 M w0 r m4,.b 6,aN ib]) 3 ?_
  rcases aq h with ⟨h76,h⟩ | ⟨h76,h⟩
  ·
   refine aj 79 h76 (ac (ks':=[aN p40_18,aN p40_19,.b 7,aN p40_20,k40_4 M w0 r m4,.b 6,aN ib]) 5 (ai 0 ?_))
   obtain ⟨h77,h⟩:=au h
   refine ap (bJ 50 59 aw h77) (ap (bk 55 0 aw aH (aI h77).2 (b9)) (ag (ac (ks':=[aN p40_21,aN p40_22,.b 7,aN p40_20,k40_4 M w0 r m4,.b 6,aN ib]) 1 (br [3,4,5,13,14,18,76,77,78] [3,4,5,18] [50,72,94,1022] ?_))))
   obtain ⟨v34,h78,h⟩:=bind_some h
   obtain ⟨v35,h79,h⟩:=bind_some h
   refine bH 2 (nu 83 [.agg (aH (gD v17 v32)),.agg (aH v34),.agg (cf v2),.tup [iI v35.1,iI v35.2]]++nu 82 [.tup [iI v35.1,iI v35.2]]++nu 87 [iI v35.1,iI v35.2]) [] [] [stp Try.prog 103 Try.f40 p40_21 7,stp Try.prog 103 Try.f40 p40_21 8] (aD [.v 0 1] (az (e_c 0 1 84 (ta hK h78)) (aD [.v 0 1] (az (e_c 0 1 86 (tf hK h79)) (aD [.v 0 1,.v 0 1,.v 0 2] (az (e_d 0) (az (e_d 1) bI))))))) (ai 5 ?_)
   obtain ⟨h80,h⟩:=au h
   exact ap (co 94 94 36 2 aL (rfl) (jy) h80) (ag (ah 2 (aW (hL4 h))))
  ·
   refine aj 79 h76 (ac (ks':=[aN p40_23,aN p40_24]) 6 (ai 4 (dG 72 (dG 94 ?_))))
   obtain ⟨v36,h81,h⟩:=bind_some h
   refine cZ 1100 (vQ hK h81) (dN 27) (ag (aQ 3 (gE 50 (gE 1100 ?_))))
   cases h
   exact cK
theorem wx (hK:KnOk K) (m:Nat):H40_4 M w0 r v2 v3 v17 v25 v27 m (gQ K n v2 v3 v17 v25 v27 m):=by
  induction m with
 | zero=>intro v32 v33 h; cases h
 | succ m ih=>intro v32 v33 h; have h:oM K n v2 v3 v17 v25 v27 (gQ K n v2 v3 v17 v25 v27 m) v32 v33=some r:=h; exact aV (vG hK ih h)
theorem wL (hK:KnOk K) (hL3:H40_3 M w0 r v2 v3 v17 v25 m3 L3) (h:o7 K n v2 v3 v17 v25 L3 v26 v27=some r):VE (eW M w0) (q40 M w0 r) [aN p40_3,k40_3 M w0 r m3,.b 4,aN jL] .normal (s40_l3 v2 v3 v17 v25 v26 v27):=by
  unfold o7 at h
  refine ac (ks':=[aN p40_25,aN p40_26,k40_3 M w0 r m3,.b 4,aN jL]) 3 ?_
  rcases aq h with ⟨h63,h⟩ | ⟨h63,h⟩
  ·
   refine aj 66 h63 (ac (ks':=[aN p40_27,aN p40_28,.b 5,aN p40_29,k40_3 M w0 r m3,.b 4,aN jL]) 5 (ai 0 ?_))
   obtain ⟨h64,h⟩:=au h
   refine ap (bJ 1060 1 (eSl aB) h64) (ap (bk 28 0 (eSl aB) (eSl aB) (aI h64).2 (fun _=>rfl)) (ag (ai 3 ?_)))
   obtain ⟨h65,h⟩:=au h
   exact ap (co 72 72 30 4 aB (rfl) (fz) h65) (ag (ah 2 (aW (hL3 h))))
  ·
   exact aj 66 h63 (ac (ks':=[aN p40_30,aN p40_31,aN ib]) 7 (ai 2 (ap (bi aw v17) (ag (ac (ks':=[aN p40_32,.b 6,aN ib]) 1 (br [3,4,5,13,14,76,77,78] [3,4,5] [50,72,1022] (dz 94 14 36 2 (ah 0 (bw (p:=p40_32) n (wx hK n h))))))))))
theorem wM (hK:KnOk K) (m:Nat):H40_3 M w0 r v2 v3 v17 v25 m (gY K n v2 v3 v17 v25 m):=by
  induction m with
 | zero=>intro v26 v27 h; cases h
 | succ m ih=>intro v26 v27 h; have h:o7 K n v2 v3 v17 v25 (gY K n v2 v3 v17 v25 m) v26 v27=some r:=h; exact aV (wL hK ih h)
theorem wB (hK:KnOk K) (hL1:H40_1 M w0 r v2 v3 m1 L1) (h:nS K n v2 v3 L1 v16 v17 v18=some r):VE (eW M w0) (q40 M w0 r) [aN p40_5,d8 M w0 r m1,.b 0,aN dj] .normal (s40_l2 v2 v3 v16 v17 v18):=by
  unfold nS at h
  refine ac (ks':=[aN p40_33,aN p40_34,d8 M w0 r m1,.b 0,aN dj]) 3 ?_
  rcases aq h with ⟨h38,h⟩ | ⟨h38,h⟩
  ·
   refine aj 28 h38 (ac (ks':=[aN p40_35,aN p40_36,.b 1,aN fy,d8 M w0 r m1,.b 0,aN dj]) 5 (ai 0 ?_))
   obtain ⟨h39,h⟩:=au h
   refine ap (bJ 1022 59 aw h39) (ap (bk 55 0 aw aH (aI h39).2 (b9)) (ag (ac (ks':=[aN p40_37,aN p40_38,aN gc,.b 1,aN fy,d8 M w0 r m1,.b 0,aN dj]) 4 (ai 1 ?_))))
   obtain ⟨v19,h40,h⟩:=bind_some h
   exact cZ 1032 (sR hK h40) (dN 22) (ap (bi aw v19) (ag (ac (ks':=[aN p40_39,.b 2,aN gc,.b 1,aN fy,d8 M w0 r m1,.b 0,aN dj]) 1 (br [3,4,5,6,9,25,26,27,32,33,34] [3,4,5] [50,56,1022,1032] (dz 45 9 73 2 (ah 0 (bw (p:=p40_39) n (w3 hK hL1 n h))))))))
  ·
   refine aj 28 h38 (ac (ks':=[aN p40_40,aN p40_41]) 6 (ai 1 (dG 56 ?_)))
   obtain ⟨v25,h56,h⟩:=bind_some h
   exact cZ 1060 (t6 hK h56) (one_tup (i:=0) rfl) (ag (ac (ks':=[aN p40_42,aN p40_43,aN jL]) 4 (ai 1 (ap (bi (eSl aB) v25.1) (ag (ac (ks':=[aN p40_44,.b 4,aN jL]) 1 (br [3,4,5,13,14,63,64,65] [3,4,5] [50,1022,1060] (ve_wo 72 5 2 30 4 (ah 0 (bw (p:=p40_44) n (wM hK n h)))))))))))
theorem vZ (hK:KnOk K) (m:Nat):H40_1 M w0 r v2 v3 m (gG K n v2 v3 m):=by
  induction m with
 | zero=>intro v16 v17 v18 h; cases h
 | succ m ih=>intro v16 v17 v18 h; have h:nS K n v2 v3 (gG K n v2 v3 m) v16 v17 v18=some r:=h; exact aV (wB hK ih h)
theorem vn (hK:KnOk K) (h:m9 K n v1 v2=some r):ACalls Try.prog 40 [.agg (aH v1),.agg (cf v2)] (fun v s=>v = .agg (List.set (dd ({ r with rows:=[] }:bj)) 0 (.ref 1022))∧look 1022 s.r=some ⟨55,59,lm aw r.rows⟩):=by
  refine bg (cat Try.f40 []) Try.func40 Try.ntmps40 fun M w0=>(aZ ⟨[(0,.agg (aH v1)),(1,.agg (cf v2))],[],[],[]⟩ ?_)
  unfold m9 at h
  refine ac (ks':=[aN [1,0],aN [1,1]]) 3 (ai 1 ?_)
  obtain ⟨v3,h1,h⟩:=bind_some h
  exact cZ 1022 (sR hK h1) (dN 22) (ag (ac (ks':=[aN p40_45,aN p40_46,aN dj]) 4 (ai 2 (ap (bi aw v3) (ag (ac (ks':=[aN p40_47,.b 0,aN dj]) 1 (br [3,4,5,6,25,26,27] [3,4,5] [1022] (dz 56 6 24 1 (ve_wo 50 5 1 55 59 (ah 0 (bw (p:=p40_47) n (vZ hK n h))))))))))))
end
def p41_0:=pth 0 110100
def p41_1:=pth 0 11010010
def p41_2:=pth 0 11010011
def p41_3:=pth 0 11010011000
def p41_4:=pth 0 11010011001
def p41_5:=pth 0 110100111
def p41_6:=pth 0 11010
noncomputable section
abbrev cx41 (M:Nat→Prop) (w0:Base):Cx:=⟨Try.prog,24,M,w0⟩
abbrev q41 (M:Nat→Prop) (w0:Base) (r:Int×Int):=bodyPost Try.prog Try.f41 (RetQ M w0 (fun v _=>v = .tup [iI r.1,iI r.2]))
abbrev dZ (p:List Nat):Kont:=.c (cat Try.f41 p)
abbrev k41_1 (M:Nat→Prop) (w0:Base) (r:Int×Int) (m1:Nat):Kont:=kl (cx41 M w0) (q41 M w0 r) [.b 0,dZ [1,1]] (cat Try.f41 p41_0) m1
def s41_l1 (v1:bj) (v3 v4 v5:Int):AS:=⟨[(2,iI v3),(3,iI v4),(7,.sl (lm aL v1.columns)),(8,iI (v1.columns.length:Int)),(9,iI v5)],[],[],[]⟩
abbrev H41_1 (M:Nat→Prop) (w0:Base) (r:Int×Int) (v1:bj) (m1:Nat) (L1:Int→Int→Int→Option (Int×Int)):Prop:=∀ {v3:Int} {v4:Int} {v5:Int},L1 v3 v4 v5=some r→LP (cx41 M w0) (q41 M w0 r) [.b 0,dZ [1,1]] (cat Try.f41 p41_0) m1 (s41_l1 v1 v3 v4 v5)
variable {K:Kn} {n:Nat} {M:Nat→Prop} {w0:Base} {r:Int×Int} {v1:bj} {v3 v4 v5:Int} {m1:Nat} {L1:Int→Int→Int→Option (Int×Int)}
theorem wJ (hK:KnOk K) (hL1:H41_1 M w0 r v1 m1 L1) (h:nr K n v1 L1 v3 v4 v5=some r):VE (cx41 M w0) (q41 M w0 r) [dZ p41_0,k41_1 M w0 r m1,.b 0,dZ [1,1]] .normal (s41_l1 v1 v3 v4 v5):=by
  unfold nr at h
  refine ac (ks':=[dZ p41_1,dZ p41_2,k41_1 M w0 r m1,.b 0,dZ [1,1]]) 3 ?_
  rcases aq h with ⟨h4,h⟩ | ⟨h4,h⟩
  ·
   refine aj 10 h4 (ac (ks':=[dZ p41_3,dZ p41_4,.b 1,dZ p41_5,k41_1 M w0 r m1,.b 0,dZ [1,1]]) 5 (ai 0 ?_))
   obtain ⟨h5,h⟩:=au h
   exact ap (bL aL aL h5 (jy) (fun _=>rfl)) (ag (ah 5 (aW (hL1 h))))
  ·
   refine aj 10 h4 (aQ 8 ?_)
   cases h
   exact d5
theorem uD (hK:KnOk K) (m:Nat):H41_1 M w0 r v1 m (kC K n v1 m):=by
  induction m with
 | zero=>intro v3 v4 v5 h; cases h
 | succ m ih=>intro v3 v4 v5 h; have h:nr K n v1 (kC K n v1 m) v3 v4 v5=some r:=h; exact aV (wJ hK ih h)
theorem vP (hK:KnOk K) (h:pD K n v1=some r):ACalls Try.prog 41 [.agg (dd v1)] (fun v _=>v = .tup [iI r.1,iI r.2]):=by
  refine bg (cat Try.f41 []) Try.func41 Try.ntmps41 fun M w0=>(aZ ⟨[(0,.agg (dd v1))],[],[],[]⟩ ?_)
  unfold pD at h
  exact ac (ks':=[dZ [1,0,0],dZ [1,0,1],dZ [1,1]]) 4 (ai 2 (ap (bi aL v1.columns) (ag (ah 1 (bw (p:=p41_6) n (uD hK n h))))))
end
noncomputable section
variable {K:Kn} {n:Nat} {M:Nat→Prop} {w0:Base} {r v1:List ae} 
abbrev cF46 (p:List Nat):Kont:=.c (cat Try.f46 p)
theorem wd (hK:KnOk K) (h:nC K n v1=some r):ACalls Try.prog 46 [.sl (lm aB v1)] (fun v s=>v = .ref 5∧look 5 s.r=some ⟨30,4,lm aB r⟩):=by
  refine bg (cat Try.f46 []) Try.func46 Try.ntmps46 fun M w0=>(aZ ⟨[(0,.sl (lm aB v1))],[],[],[]⟩ ?_)
  unfold nC at h
  refine ac (ks':=[cF46 [1,0,0],cF46 [1,0,1],cF46 [1,1]]) 4 (ai 1 ?_)
  refine ot_nilq (opAt Try.f46 [1,0,0] 1) (.eql) 28 28 (.tmp 3) (.const (.slice none 0 0)) 4 (lm aB v1) (r:=restAt Try.f46 [1,0,0] 2) (e:=30) (by kernel_rfl) (by kernel_rfl) (by kernel_rfl) (by kernel_rfl) (by kernel_rfl) (by kernel_rfl) (by kernel_rfl) (by kernel_rfl) (fun hq=>?_) ?_
  ·
   have h:=oL (by simpa using hq) h
   refine ag (aQ 5 (dz 5 2 30 4 ?_))
   cases h
   exact cK
  ·
   have h:=nl h
   refine ag (ac (ks':=[cF46 [1,1,0],cF46 [1,1,1]]) 3 (ai 0 (ot_bs 28 5 (e:=30) (sz:=4) (aM 2 1 ?_))))
   obtain ⟨h2,h⟩:=au h
   refine ap (co 7 5 30 4 aB (rfl) (fz) h2) (ag (aQ 1 ?_))
   cases h
   exact cK
end
noncomputable section
variable {K:Kn} {n:Nat} {M:Nat→Prop} {w0:Base} {r:Int×Bool} {v1:ci} 
abbrev cF49 (p:List Nat):Kont:=.c (cat Try.f49 p)
theorem rc (hK:KnOk K) (h:hH K n v1=some r):ACalls Try.prog 49 [.agg (gT v1)] (fun v _=>v = .tup [iI r.1,.bool r.2]):=by
  refine bg (cat Try.f49 []) Try.func49 Try.ntmps49 fun M w0=>(aZ ⟨[(0,.agg (gT v1))],[],[],[]⟩ ?_)
  unfold hH at h
  refine ac (ks':=[cF49 [1,0,1],cF49 [1,1]]) 5 ?_
  rcases aq h with ⟨h1,h⟩ | ⟨h1,h⟩
  ·
   refine aj 8 h1 (aQ 5 ?_)
   cases h
   exact d5
  ·
   refine aj 8 h1 (ac (ks':=[cF49 [1,1,0],cF49 [1,1,1]]) 3 (ai 1 ?_))
   obtain ⟨v2,h2,h⟩:=bind_some h
   refine aR (de hK h2) (ag (aQ 3 ?_))
   cases h
   exact d5
end
noncomputable section
variable {K:Kn} {n:Nat} {M:Nat→Prop} {w0:Base} {r:Int} {v1:aS} 
theorem tG (hK:KnOk K) (h:mc K n v1=some r):ACalls Try.prog 52 [.agg (bE v1)] (fun v _=>v=iI r):=by
  refine bg (cat Try.f52 []) Try.func52 Try.ntmps52 fun M w0=>(aZ ⟨[(0,.agg (bE v1))],[],[],[]⟩ ?_)
  unfold mc at h
  refine aQ 5 ?_
  cases h
  exact bz
end
noncomputable section
variable {K:Kn} {n:Nat} {M:Nat→Prop} {w0:Base} {r:aA} {v1:Int} 
theorem qG (hK:KnOk K) (h:gU K n v1=some r):ACalls Try.prog 51 [iI v1] (fun v _=>v = .agg (bS r)):=by
  refine bg (cat Try.f51 []) Try.func51 Try.ntmps51 fun M w0=>(aZ ⟨[(0,iI v1)],[],[],[]⟩ ?_)
  unfold gU at h
  refine aQ 5 ?_
  cases h
  exact bz
end
noncomputable section
variable {K:Kn} {n:Nat} {M:Nat→Prop} {w0:Base} {r v1 v2:aA} 
theorem pA (hK:KnOk K) (h:iP K n v1 v2=some r):ACalls Try.prog 87 [.agg (bS v1),.agg (bS v2)] (fun v _=>v = .agg (bS r)):=by
  refine bg (cat Try.f87 []) Try.func87 Try.ntmps87 fun M w0=>(aZ ⟨[(0,.agg (bS v1)),(1,.agg (bS v2))],[],[],[]⟩ ?_)
  unfold iP at h
  refine aQ 5 ?_
  cases h
  exact bz
end
noncomputable section
variable {K:Kn} {n:Nat} {M:Nat→Prop} {w0:Base} {r:Int} {v1:aA} 
theorem rt (hK:KnOk K) (h:kF K n v1=some r):ACalls Try.prog 88 [.agg (bS v1)] (fun v _=>v=iI r):=by
  refine bg (cat Try.f88 []) Try.func88 Try.ntmps88 fun M w0=>(aZ ⟨[(0,.agg (bS v1))],[],[],[]⟩ ?_)
  unfold kF at h
  refine aQ 5 ?_
  cases h
  exact bz
end
def dM:=pth 0 11111
def p85_1:=pth 0 11110100
def p85_2:=pth 0 11110100110011111
def gu:=pth 0 11110100111
def p85_4:=pth 0 11110100110011110101
def p85_5:=pth 0 1111010011001111
def p85_6:=pth 0 111101001100111101
def p85_7:=pth 0 111101001100111101001
def p85_8:=pth 5 1
def kg:=pth 5 10
def p85_10:=pth 6 1
def p85_11:=pth 0 1111010010
def p85_12:=pth 0 1111010011
def p85_13:=pth 0 1111010011000
def p85_14:=pth 0 1111010011001
def p85_15:=pth 0 11110100110010
def p85_16:=pth 0 11110100110011
def p85_17:=pth 0 11110100110011101
def p85_18:=pth 0 111101001100111010
def p85_19:=pth 0 1111101
def p85_20:=pth 0 111100
def p85_21:=pth 0 111101
def p85_22:=pth 0 1111010
noncomputable section
abbrev jg (M:Nat→Prop) (w0:Base):Cx:=⟨Try.prog,52,M,w0⟩
abbrev q85 (M:Nat→Prop) (w0:Base) (r:(List aa)×Int×aA×aA×Bool):=bodyPost Try.prog Try.f85 (RetQ M w0 (fun v s=>v = .tup [.ref 43,iI r.2.1,.agg (bS r.2.2.1),.agg (bS r.2.2.2.1),.bool r.2.2.2.2]∧look 43 s.r=some ⟨61,67,lm am r.1⟩))
abbrev bF (p:List Nat):Kont:=.c (cat Try.f85 p)
abbrev fq (M:Nat→Prop) (w0:Base) (r:(List aa)×Int×aA×aA×Bool) (m1:Nat):Kont:=kl (jg M w0) (q85 M w0 r) [.b 0,bF dM] (cat Try.f85 p85_1) m1
def s85_j3 (v1:List aa) (v18:Int) (v21:List aa) (v24 v26:Int) (v27:Bool) (v28 v29:aA):AS:=⟨[(2,.ref 43),(3,iI v26),(4,.ptr 4 0),(5,.ptr 5 0),(6,.bool v27),(7,.ptr 7 0),(9,.ptr 9 0),(10,.sl (lm am v1)),(11,iI (v1.length:Int)),(12,iI v18)],[(4,bS v28),(5,bS eI),(7,bS v29),(9,aC ({ (gD v1 v18) with Y:=v24 }:aa))],[(43,⟨61,67,lm am v21⟩)],[4,5,7,9,43]⟩
def s85_j2 (v1:List aa) (v18:Int) (v21:List aa) (v22:aA) (v24:Int) (v25:aA):AS:=⟨[(2,.ref 43),(4,.ptr 4 0),(5,.ptr 5 0),(7,.ptr 7 0),(9,.ptr 9 0),(10,.sl (lm am v1)),(11,iI (v1.length:Int)),(12,iI v18)],[(4,bS v25),(5,bS eI),(7,bS v22),(9,aC ({ (gD v1 v18) with Y:=v24 }:aa))],[(43,⟨61,67,lm am v21⟩)],[4,5,7,9,43]⟩
def s85_j1 (v1:List aa) (v16:Int) (v17:Bool) (v18:Int) (v19:aA) (v21:List aa) (v22:aA) (v24:Int):AS:=⟨[(2,.ref 43),(3,iI v16),(4,.ptr 4 0),(5,.ptr 5 0),(6,.bool v17),(7,.ptr 7 0),(9,.ptr 9 0),(10,.sl (lm am v1)),(11,iI (v1.length:Int)),(12,iI v18)],[(4,bS v19),(5,bS eI),(7,bS v22),(9,aC ({ (gD v1 v18) with Y:=v24 }:aa))],[(43,⟨61,67,lm am v21⟩)],[4,5,7,9,43]⟩
def s85_j5 (v16:Int) (v17:Bool) (v20:aA) (v21:List aa) (v30:aA):AS:=⟨[(2,.ref 43),(3,iI v16),(4,.ptr 4 0),(5,.ptr 5 0),(6,.bool v17),(7,.ptr 7 0)],[(4,bS v30),(5,bS eI),(7,bS v20)],[(43,⟨61,67,lm am v21⟩)],[4,5,7,43]⟩
def s85_l4 (v1:List aa) (v16:Int) (v17:Bool) (v18:Int) (v19 v20:aA) (v21:List aa):AS:=⟨[(2,.ref 43),(3,iI v16),(4,.ptr 4 0),(5,.ptr 5 0),(6,.bool v17),(7,.ptr 7 0),(10,.sl (lm am v1)),(11,iI (v1.length:Int)),(12,iI v18)],[(4,bS v19),(5,bS eI),(7,bS v20)],[(43,⟨61,67,lm am v21⟩)],[4,5,7,43]⟩
abbrev H85_1 (M:Nat→Prop) (w0:Base) (r:(List aa)×Int×aA×aA×Bool) (v1:List aa) (m1:Nat) (L1:Int→Bool→Int→aA→aA→(List aa)→Option ((List aa)×Int×aA×aA×Bool)):Prop:=∀ {v16:Int} {v17:Bool} {v18:Int} {v19:aA} {v20:aA} {v21:(List aa)},L1 v16 v17 v18 v19 v20 v21=some r→LP (jg M w0) (q85 M w0 r) [.b 0,bF dM] (cat Try.f85 p85_1) m1 (s85_l4 v1 v16 v17 v18 v19 v20 v21)
variable {K:Kn} {n:Nat} {M:Nat→Prop} {w0:Base} {r:(List aa)×Int×aA×aA×Bool} {v1:List aa} {v16:Int} {v17:Bool} {v18:Int} {v19 v20:aA} {v21:List aa} {v22:aA} {v24:Int} {v25:aA} {v26:Int} {v27:Bool} {v28 v29 v30:aA} {m1:Nat} {L1:Int→Bool→Int→aA→aA→(List aa)→Option ((List aa)×Int×aA×aA×Bool)}
theorem uf (hK:KnOk K) (hL1:H85_1 M w0 r v1 m1 L1) (h:qb K n v1 v18 v21 v24 L1 v26 v27 v28 v29=some r):VE (jg M w0) (q85 M w0 r) [bF p85_2,.b 1,bF gu,fq M w0 r m1,.b 0,bF dM] .normal (s85_j3 v1 v18 v21 v24 v26 v27 v28 v29):=by
  unfold qb at h
  refine ai 2 (ap (d7 am ([({ (gD v1 v18) with Y:=v24 }:aa)]:List aa) (new:=[aC ({ (gD v1 v18) with Y:=v24 }:aa)]) (by simp only [List.map_cons,List.map_nil,cj])) ?_)
  obtain ⟨h22,h⟩:=au h
  exact ap (co 43 43 61 67 am (rfl) (cX) h22) (ag (ah 2 (aW (hL1 h))))
theorem tD (hK:KnOk K) (hL1:H85_1 M w0 r v1 m1 L1) (h:pP K n v1 v18 v21 v22 v24 L1 v25=some r):VE (jg M w0) (q85 M w0 r) [bF p85_4,bF p85_2,.b 1,bF gu,fq M w0 r m1,.b 0,bF dM] .normal (s85_j2 v1 v18 v21 v22 v24 v25):=by
  unfold pP at h
  exact ah 5 (uf hK hL1 h)
theorem tX (hK:KnOk K) (hL1:H85_1 M w0 r v1 m1 L1) (h:qL K n v1 v16 v17 v18 v19 v21 v22 L1 v24=some r):VE (jg M w0) (q85 M w0 r) [bF p85_5,.b 1,bF gu,fq M w0 r m1,.b 0,bF dM] .normal (s85_j1 v1 v16 v17 v18 v19 v21 v22 v24):=by
  unfold qL at h
  refine ac (ks':=[bF p85_6,bF p85_2,.b 1,bF gu,fq M w0 r m1,.b 0,bF dM]) 3 ?_
  rcases aq h with ⟨h20,h⟩ | ⟨h20,h⟩
  ·
   refine aj 30 h20 (ac (ks':=[bF p85_7,bF p85_4,bF p85_2,.b 1,bF gu,fq M w0 r m1,.b 0,bF dM]) 4 ?_)
   rcases aq h with ⟨h21,h⟩ | ⟨h21,h⟩
   ·
    exact aj 31 h21 (ah 2 (tD hK hL1 h))
   ·
    exact aj 31 h21 (ah 2 (tD hK hL1 h))
  ·
   exact aj 30 h20 (ah 2 (uf hK hL1 h))
theorem tQ (hK:KnOk K) (h:pK K n v16 v17 v20 v21 v30=some r):VE (jg M w0) (q85 M w0 r) [bF p85_8] .normal (s85_j5 v16 v17 v20 v21 v30):=by
  unfold pK at h
  refine ac (ks':=[bF kg,bF p85_10]) 1 (br [2,3,4,5,6,7] [4,5,7] [43] (bH 5 (nu 47 [.ref 43,iI v16,.agg (bS v30),.agg (bS v20),.bool v17]) [] [] [stp Try.prog 52 Try.f85 kg 5,stp Try.prog 52 Try.f85 kg 6,stp Try.prog 52 Try.f85 kg 7,stp Try.prog 52 Try.f85 kg 8,stp Try.prog 52 Try.f85 kg 9] (aD [.v 0 1,.v 0 2,.v 0 3,.v 0 4,.v 0 5] (az (e_d 0) (az (e_d 1) (az (e_d 2) (az (e_d 3) (az (e_d 4) bI)))))) (aQ 1 ?_)))
  cases h
  exact eG
theorem vN (hK:KnOk K) (hL1:H85_1 M w0 r v1 m1 L1) (h:pT K n v1 L1 v16 v17 v18 v19 v20 v21=some r):VE (jg M w0) (q85 M w0 r) [bF p85_1,fq M w0 r m1,.b 0,bF dM] .normal (s85_l4 v1 v16 v17 v18 v19 v20 v21):=by
  unfold pT at h
  refine ac (ks':=[bF p85_11,bF p85_12,fq M w0 r m1,.b 0,bF dM]) 3 ?_
  rcases aq h with ⟨h15,h⟩ | ⟨h15,h⟩
  ·
   refine aj 13 h15 (ac (ks':=[bF p85_13,bF p85_14,.b 1,bF gu,fq M w0 r m1,.b 0,bF dM]) 5 (ai 0 ?_))
   obtain ⟨h16,h⟩:=au h
   refine ap (bL am aC h16 (cX) (cj)) (ag (ac (ks':=[bF p85_15,bF p85_16,.b 1,bF gu,fq M w0 r m1,.b 0,bF dM]) 1 (ai 3 ?_)))
   obtain ⟨v22,h17,h⟩:=bind_some h
   refine aR (pA hK h17) (ag (ac (ks':=[bF p85_17,bF p85_5,.b 1,bF gu,fq M w0 r m1,.b 0,bF dM]) 5 ?_))
   rcases aq h with ⟨h18,h⟩ | ⟨h18,h⟩
   ·
    refine aj 22 h18 (ac (ks':=[bF p85_18,bF p85_5,.b 1,bF gu,fq M w0 r m1,.b 0,bF dM]) 1 (ai 2 ?_))
    obtain ⟨v23,h19,h⟩:=bind_some h
    exact aR (rt hK h19) (ag (ah 0 (tX hK hL1 h)))
   ·
    exact aj 22 h18 (ah 2 (tX hK hL1 h))
  ·
   refine aj 13 h15 (ac (ks':=[bF p85_19,bF p85_8]) 8 ?_)
   rcases aq h with ⟨h23,h⟩ | ⟨h23,h⟩
   ·
    exact aj 45 h23 (ah 2 (tQ hK h))
   ·
    exact aj 45 h23 (ah 2 (tQ hK h))
theorem uU (hK:KnOk K) (m:Nat):H85_1 M w0 r v1 m (qn K n v1 m):=by
  induction m with
 | zero=>intro v16 v17 v18 v19 v20 v21 h; cases h
 | succ m ih=>intro v16 v17 v18 v19 v20 v21 h; have h:pT K n v1 (qn K n v1 m) v16 v17 v18 v19 v20 v21=some r:=h; exact aV (vN hK ih h)
theorem wF (hK:KnOk K) (h:rr K n v1=some r):ACalls Try.prog 85 [.sl (lm am v1)] (fun v s=>v = .tup [.ref 43,iI r.2.1,.agg (bS r.2.2.1),.agg (bS r.2.2.2.1),.bool r.2.2.2.2]∧look 43 s.r=some ⟨61,67,lm am r.1⟩):=by
  refine bg (cat Try.f85 []) Try.func85 Try.ntmps85 fun M w0=>(aZ ⟨[(0,.sl (lm am v1))],[],[],[]⟩ ?_)
  unfold rr at h
  exact ac (ks':=[bF p85_20,bF p85_21,bF dM]) 8 (ai 1 (ap (bi am v1) (ag (ac (ks':=[bF p85_22,.b 0,bF dM]) 1 (br [2,3,4,5,6,7,10,11,12] [4,5,7] [] (dz 43 2 61 67 (ah 0 (bw (p:=p85_22) n (uU hK n h)))))))))
end
noncomputable section
variable {K:Kn} {n:Nat} {M:Nat→Prop} {w0:Base} {r v1:List aa} 
abbrev cF86 (p:List Nat):Kont:=.c (cat Try.f86 p)
theorem ww (hK:KnOk K) (h:ns K n v1=some r):ACalls Try.prog 86 [.sl (lm am v1)] (fun v s=>v = .ref 5∧look 5 s.r=some ⟨61,67,lm am r⟩):=by
  refine bg (cat Try.f86 []) Try.func86 Try.ntmps86 fun M w0=>(aZ ⟨[(0,.sl (lm am v1))],[],[],[]⟩ ?_)
  unfold ns at h
  refine ac (ks':=[cF86 [1,0,0],cF86 [1,0,1],cF86 [1,1]]) 4 (ai 1 ?_)
  refine ot_nilq (opAt Try.f86 [1,0,0] 1) (.eql) 59 59 (.tmp 3) (.const (.slice none 0 0)) 4 (lm am v1) (r:=restAt Try.f86 [1,0,0] 2) (e:=61) (by kernel_rfl) (by kernel_rfl) (by kernel_rfl) (by kernel_rfl) (by kernel_rfl) (by kernel_rfl) (by kernel_rfl) (by kernel_rfl) (fun hq=>?_) ?_
  ·
   have h:=oL (by simpa using hq) h
   refine ag (aQ 5 (dz 5 2 61 67 ?_))
   cases h
   exact cK
  ·
   have h:=nl h
   refine ag (ac (ks':=[cF86 [1,1,0],cF86 [1,1,1]]) 3 (ai 0 (ot_bs 59 5 (e:=61) (sz:=67) (aM 2 1 ?_))))
   obtain ⟨h2,h⟩:=au h
   refine ap (co 7 5 61 67 am (rfl) (cX) h2) (ag (aQ 1 ?_))
   cases h
   exact cK
end
noncomputable section
variable {K:Kn} {n:Nat} {M:Nat→Prop} {w0:Base} {r:Int} {v1:aS} 
theorem vk (hK:KnOk K) (h:qN K n v1=some r):ACalls Try.prog 89 [.agg (bE v1)] (fun v _=>v=iI r):=by
  refine bg (cat Try.f89 []) Try.func89 Try.ntmps89 fun M w0=>(aZ ⟨[(0,.agg (bE v1))],[],[],[]⟩ ?_)
  unfold qN at h
  refine aQ 5 ?_
  cases h
  exact bz
end
noncomputable section
abbrev cx90 (M:Nat→Prop) (w0:Base):Cx:=⟨Try.prog,16,M,w0⟩
abbrev q90 (M:Nat→Prop) (w0:Base) (r:Bool):=bodyPost Try.prog Try.f90 (RetQ M w0 (fun v _=>v = .bool r))
def s90_j1 (v2:Bool):AS:=⟨[(2,.bool v2)],[],[],[]⟩
variable {K:Kn} {n:Nat} {M:Nat→Prop} {w0:Base} {r:Bool} {v1:ab} {v2:Bool} 
abbrev cF90 (p:List Nat):Kont:=.c (cat Try.f90 p)
theorem qZ (hK:KnOk K) (h:mm K n v2=some r):VE (cx90 M w0) (q90 M w0 r) [cF90 [1,1]] .normal (s90_j1 v2):=by
  unfold mm at h
  refine aQ 1 ?_
  cases h
  exact bz
theorem sO (hK:KnOk K) (h:kq K n v1=some r):ACalls Try.prog 90 [.agg (aH v1)] (fun v _=>v = .bool r):=by
  refine bg (cat Try.f90 []) Try.func90 Try.ntmps90 fun M w0=>(aZ ⟨[(0,.agg (aH v1))],[],[],[]⟩ ?_)
  unfold kq at h
  refine ac (ks':=[cF90 [1,0],cF90 [1,1]]) 3 (ai 4 ?_)
  rcases aq h with ⟨h1,h⟩ | ⟨h1,h⟩
  ·
   exact aE 6 h1 (ag (ah 0 (qZ hK h)))
  ·
   refine aE 6 h1 (aM 9 5 ?_)
   rcases aq h with ⟨h2,h⟩ | ⟨h2,h⟩
   ·
    exact aE 11 h2 (ag (ah 0 (qZ hK h)))
   ·
    exact aE 11 h2 (ag (ah 0 (qZ hK h)))
end
def p91_0:=pth 5 1
def p91_1:=pth 0 1111101
def p91_2:=pth 0 111110100
def p91_3:=pth 0 111110101
noncomputable section
abbrev cx91 (M:Nat→Prop) (w0:Base):Cx:=⟨Try.prog,45,M,w0⟩
abbrev q91 (M:Nat→Prop) (w0:Base) (r:aa):=bodyPost Try.prog Try.f91 (RetQ M w0 (fun v _=>v = .agg (aC r)))
def s91_j1 (v1:aa) (v3:Int×Bool) (v5:Int):AS:=⟨[(2,.ptr 2 0),(4,.ptr 4 0)],[(2,aC ({ v1 with X:=(w64 (v1.X+v3.1)),Y:=v5 }:aa)),(4,List.set (aC aX) 66 (.nils))],[],[2,4]⟩
variable {K:Kn} {n:Nat} {M:Nat→Prop} {w0:Base} {r v1:aa} {v2:Int} {v3:Int×Bool} {v5:Int} 
abbrev fH (p:List Nat):Kont:=.c (cat Try.f91 p)
theorem sN (hK:KnOk K) (h:oU K n v1 v3 v5=some r):VE (cx91 M w0) (q91 M w0 r) [fH p91_0] .normal (s91_j1 v1 v3 v5):=by
  unfold oU at h
  refine aQ 3 ?_
  cases h
  exact bz
theorem wN (hK:KnOk K) (h:nZ K n v1 v2=some r):ACalls Try.prog 91 [.agg (aC v1),iI v2] (fun v _=>v = .agg (aC r)):=by
  refine bg (cat Try.f91 []) Try.func91 Try.ntmps91 fun M w0=>(aZ ⟨[(0,.agg (aC v1)),(1,iI v2)],[],[],[]⟩ ?_)
  unfold nZ at h
  refine ac (ks':=[fH [1,0,1],fH [1,1]]) 5 ?_
  rcases aq h with ⟨h1,h⟩ | ⟨h1,h⟩
  ·
   refine aj 12 h1 (aQ 5 ?_)
   cases h
   exact bz
  ·
   refine aj 12 h1 (ac (ks':=[fH [1,1,0],fH [1,1,1]]) 3 (ai 4 ?_))
   obtain ⟨v3,h2,h⟩:=bind_some h
   refine aR (de hK h2) (ag (ac (ks':=[fH p91_1,fH p91_0]) 5 ?_))
   rcases aq h with ⟨h3,h⟩ | ⟨h3,h⟩
   ·
    refine aj 31 h3 (ac (ks':=[fH p91_2,fH p91_3,fH p91_0]) 2 (ai 3 ?_))
    obtain ⟨v4,h4,h⟩:=bind_some h
    exact aR (de hK h4) (ag (ah 1 (sN hK h)))
   ·
    exact aj 31 h3 (ah 2 (sN hK h))
end
def fu:=pth 16 1
def p79_1:=pth 15 10100
def iz:=pth 6 101011
def eQ:=pth 7 1
def p79_4:=pth 6 101010100
def lO:=pth 15 10100111
def p79_6:=pth 15 1010011001111
def p79_7:=pth 15 10100110011110
def p79_8:=pth 15 1010010
def p79_9:=pth 15 1010011
def p79_10:=pth 15 10100110010
def p79_11:=pth 15 10100110011
def p79_12:=pth 15 101001100110
def p79_13:=pth 15 101001100111
def p79_14:=pth 15 1010011001110
def p79_15:=pth 12 1
def p79_16:=pth 13 10
def p79_17:=pth 14 1
def p79_18:=pth 15 100
def p79_19:=pth 15 101
def p79_20:=pth 15 1010
def p79_21:=pth 11 1011
def fF:=pth 10 1
def p79_23:=pth 11 100
def p79_24:=pth 11 101
def p79_25:=pth 11 1010
def p79_26:=pth 9 1001
def p79_27:=pth 9 100100
def p79_28:=pth 9 100101
def p79_29:=pth 9 100111
def p79_30:=pth 9 100111011
def p79_31:=pth 9 1001110110
def p79_32:=pth 9 10011111
def p79_33:=pth 9 1001111100
def p79_34:=pth 9 1001111101
def p79_35:=pth 9 100111111
def lu:=pth 9 1
def p79_37:=pth 9 1000
def p79_38:=pth 8 100111
def p79_39:=pth 8 1001110
def p79_40:=pth 7 10
def p79_41:=pth 8 1
def p79_42:=pth 8 1001
def p79_43:=pth 8 10010
def p79_44:=pth 8 100110
def p79_45:=pth 6 10101010010
def p79_46:=pth 6 10101010011
def p79_47:=pth 6 10101010011000
def p79_48:=pth 6 10101010011001
def p79_49:=pth 6 101010100111
def p79_50:=pth 6 101
def p79_51:=pth 6 1010100
def p79_52:=pth 6 1010101
def p79_53:=pth 6 10101010
def p79_54:=pth 6 10110
def p79_55:=pth 6 10111
def p79_56:=pth 6 101110
def p79_57:=pth 6 101111
noncomputable section
abbrev dP (M:Nat→Prop) (w0:Base):Cx:=⟨Try.prog,259,M,w0⟩
abbrev q79 (M:Nat→Prop) (w0:Base) (r:aa):=bodyPost Try.prog Try.f79 (RetQ M w0 (fun v s=>v = .agg (List.set (aC ({ r with Kids:=[] }:aa)) 66 (.ref 1054))∧look 1054 s.r=some ⟨61,67,lm am r.Kids⟩))
abbrev aJ (p:List Nat):Kont:=.c (cat Try.f79 p)
abbrev ik (M:Nat→Prop) (w0:Base) (r:aa) (m2:Nat):Kont:=kl (dP M w0) (q79 M w0 r) [.b 4,aJ fu] (cat Try.f79 p79_1) m2
abbrev k79_1 (M:Nat→Prop) (w0:Base) (r:aa) (m1:Nat):Kont:=kl (dP M w0) (q79 M w0 r) [.b 0,aJ iz,aJ eQ] (cat Try.f79 p79_4) m1
def s79_j10 (v1:ab) (v2:aS) (v6:(List ab)×Bool) (v19:List aa) (v25:Int) (v33 v34:aA) (v35:Bool) (v39 v40 v47:Int) (v54:List aa):AS:=⟨[(6,.ptr 6 0),(10,.ptr 10 0),(11,.ptr 11 0),(12,.sl (lm aw v6.1)),(13,.bool v6.2),(15,iI v25),(199,iI (v19.length:Int)),(200,iI v47)],[(6,bE v2),(10,List.set (aC aX) 66 (.nils)),(11,List.set (aC (⟨1,v1.Node,v2.Margin.a3,0,(w64 (v2.Content+v39)),v40,0,⟨#[]⟩,v1.Style,v33,v34,v35,[]⟩:aa)) 66 (.ref 1054))],[(1054,⟨61,67,lm am v54⟩)],[6,10,11,1054]⟩
def s79_j9 (v1:ab) (v2:aS) (v6:(List ab)×Bool) (v19:List aa) (v25:Int) (v33 v34:aA) (v35:Bool) (v39 v40 v47:Int) (v50:List aa) (v52:Bool):AS:=⟨[(6,.ptr 6 0),(10,.ptr 10 0),(11,.ptr 11 0),(12,.sl (lm aw v6.1)),(13,.bool v6.2),(15,iI v25),(24,iI v47),(199,iI (v19.length:Int)),(200,iI v47),(244,.bool v52)],[(6,bE v2),(10,List.set (aC aX) 66 (.nils)),(11,List.set (aC (⟨1,v1.Node,v2.Margin.a3,0,(w64 (v2.Content+v39)),v40,0,⟨#[]⟩,v1.Style,v33,v34,v35,[]⟩:aa)) 66 (.ref 1054))],[(1054,⟨61,67,lm am v50⟩)],[6,10,11,1054]⟩
def s79_l11 (v1:ab) (v2:aS) (v6:(List ab)×Bool) (v19:List aa) (v25:Int) (v33 v34:aA) (v35:Bool) (v39 v40 v47:Int) (v48:List aa):AS:=⟨[(6,.ptr 6 0),(10,.ptr 10 0),(11,.ptr 11 0),(12,.sl (lm aw v6.1)),(13,.bool v6.2),(15,iI v25),(199,iI (v19.length:Int)),(200,iI v47)],[(6,bE v2),(10,List.set (aC aX) 66 (.nils)),(11,List.set (aC (⟨1,v1.Node,v2.Margin.a3,0,(w64 (v2.Content+v39)),v40,0,⟨#[]⟩,v1.Style,v33,v34,v35,[]⟩:aa)) 66 (.ref 1054))],[(1054,⟨61,67,lm am v48⟩)],[6,10,11,1054]⟩
def s79_j8 (v1:ab) (v2:aS) (v6:(List ab)×Bool) (v19:List aa) (v25:Int) (v33 v34:aA) (v35:Bool) (v38:Int):AS:=⟨[(6,.ptr 6 0),(10,.ptr 10 0),(11,.ptr 11 0),(12,.sl (lm aw v6.1)),(13,.bool v6.2),(14,iI v38),(15,iI v25)],[(6,bE v2),(10,List.set (aC aX) 66 (.nils)),(11,List.set (aC ({ aX with Kind:=1,Node:=v1.Node,Style:=v1.Style,Before:=v33,After:=v34,Empty:=v35 }:aa)) 66 (.ref 1054))],[(1054,⟨61,67,lm am v19⟩)],[6,10,11,1054]⟩
def s79_j7 (v1:ab) (v2:aS) (v6:(List ab)×Bool) (v19:List aa) (v25 v32:Int) (v33 v34:aA) (v35:Bool) (v36:Int×Bool) (v37:Bool):AS:=⟨[(6,.ptr 6 0),(10,.ptr 10 0),(11,.ptr 11 0),(12,.sl (lm aw v6.1)),(13,.bool v6.2),(14,iI (max v32 0)),(15,iI v25),(22,iI v36.1),(166,.bool v37)],[(6,bE v2),(10,List.set (aC aX) 66 (.nils)),(11,List.set (aC ({ aX with Kind:=1,Node:=v1.Node,Style:=v1.Style,Before:=v33,After:=v34,Empty:=v35 }:aa)) 66 (.ref 1054))],[(1054,⟨61,67,lm am v19⟩)],[6,10,11,1054]⟩
def s79_j6 (v1:ab) (v2:aS) (v6:(List ab)×Bool) (v19:List aa) (v25 v32:Int) (v33 v34:aA) (v35:Bool):AS:=⟨[(5,.ptr 5 0),(6,.ptr 6 0),(10,.ptr 10 0),(11,.ptr 11 0),(12,.sl (lm aw v6.1)),(13,.bool v6.2),(14,iI v32),(15,iI v25)],[(5,aH v1),(6,bE v2),(10,List.set (aC aX) 66 (.nils)),(11,List.set (aC ({ aX with Kind:=1,Node:=v1.Node,Style:=v1.Style,Before:=v33,After:=v34,Empty:=v35 }:aa)) 66 (.ref 1054))],[(1054,⟨61,67,lm am v19⟩)],[5,6,10,11,1054]⟩
def s79_j5 (v1:ab) (v2:aS) (v4:Bool) (v6:(List ab)×Bool) (v15:Int) (v16:Bool) (v17 v18:aA) (v19:List aa) (v21:aA) (v25:Int) (v26:aA) (v27:Bool):AS:=⟨[(3,.bool v4),(5,.ptr 5 0),(6,.ptr 6 0),(10,.ptr 10 0),(11,.ptr 11 0),(12,.sl (lm aw v6.1)),(13,.bool v6.2),(14,iI v15),(15,iI v25),(16,.ptr 16 0),(17,.ptr 17 0),(18,.bool v16),(113,.bool v27)],[(5,aH v1),(6,bE v2),(10,List.set (aC aX) 66 (.nils)),(11,List.set (aC ({ aX with Kind:=1,Node:=v1.Node,Style:=v1.Style,Before:=v26,After:=v21 }:aa)) 66 (.ref 1054)),(16,bS v17),(17,bS v18)],[(1054,⟨61,67,lm am v19⟩)],[5,6,10,11,16,17,1054]⟩
def s79_j4 (v1:ab) (v2:aS) (v3 v4:Bool) (v6:(List ab)×Bool) (v15:Int) (v16:Bool) (v17 v18:aA) (v19:List aa) (v21:aA) (v25:Int) (v26:aA):AS:=⟨[(2,.bool v3),(3,.bool v4),(5,.ptr 5 0),(6,.ptr 6 0),(10,.ptr 10 0),(11,.ptr 11 0),(12,.sl (lm aw v6.1)),(13,.bool v6.2),(14,iI v15),(15,iI v25),(16,.ptr 16 0),(17,.ptr 17 0),(18,.bool v16)],[(5,aH v1),(6,bE v2),(10,List.set (aC aX) 66 (.nils)),(11,List.set (aC ({ aX with Kind:=1,Node:=v1.Node,Style:=v1.Style,Before:=v26,After:=v21 }:aa)) 66 (.ref 1054)),(16,bS v17),(17,bS v18)],[(1054,⟨61,67,lm am v19⟩)],[5,6,10,11,16,17,1054]⟩
def s79_j3 (v1:ab) (v2:aS) (v3 v4:Bool) (v6:(List ab)×Bool) (v15:Int) (v16:Bool) (v17 v18:aA) (v19:List aa) (v20 v21:aA) (v23:Bool):AS:=⟨[(2,.bool v3),(3,.bool v4),(5,.ptr 5 0),(6,.ptr 6 0),(10,.ptr 10 0),(11,.ptr 11 0),(12,.sl (lm aw v6.1)),(13,.bool v6.2),(14,iI v15),(15,iI 0),(16,.ptr 16 0),(17,.ptr 17 0),(18,.bool v16),(98,.bool v23)],[(5,aH v1),(6,bE v2),(10,List.set (aC aX) 66 (.nils)),(11,List.set (aC ({ aX with Kind:=1,Node:=v1.Node,Style:=v1.Style,Before:=v20,After:=v21 }:aa)) 66 (.ref 1054)),(16,bS v17),(17,bS v18)],[(1054,⟨61,67,lm am v19⟩)],[5,6,10,11,16,17,1054]⟩
def s79_j2 (v1:ab) (v2:aS) (v3 v4:Bool) (v6:(List ab)×Bool) (v15:Int) (v16:Bool) (v17 v18:aA) (v19:List aa):AS:=⟨[(2,.bool v3),(3,.bool v4),(5,.ptr 5 0),(6,.ptr 6 0),(10,.ptr 10 0),(11,.ptr 11 0),(12,.sl (lm aw v6.1)),(13,.bool v6.2),(14,iI v15),(15,iI 0),(16,.ptr 16 0),(17,.ptr 17 0),(18,.bool v16)],[(5,aH v1),(6,bE v2),(10,List.set (aC aX) 66 (.nils)),(11,List.set (aC ({ aX with Kind:=1,Node:=v1.Node,Style:=v1.Style }:aa)) 66 (.ref 1054)),(16,bS v17),(17,bS v18)],[(1054,⟨61,67,lm am v19⟩)],[5,6,10,11,16,17,1054]⟩
def s79_l1 (v1:ab) (v2:aS) (v3 v4:Bool) (v5:bv) (v6:(List ab)×Bool) (v9:Int) (v10:List aa):AS:=⟨[(2,.bool v3),(3,.bool v4),(5,.ptr 5 0),(6,.ptr 6 0),(9,.ptr 9 0),(10,.ptr 10 0),(11,.ptr 11 0),(12,.sl (lm aw v6.1)),(13,.bool v6.2),(15,iI 0),(16,.ptr 16 0),(17,.ptr 17 0),(19,.ref 50),(36,.sl (lm aw v6.1)),(37,iI (v6.1.length:Int)),(38,iI v9)],[(5,aH v1),(6,bE v2),(9,cf v5),(10,List.set (aC aX) 66 (.nils)),(11,List.set (aC ({ aX with Kind:=1,Node:=v1.Node,Style:=v1.Style }:aa)) 66 (.nils)),(16,bS eI),(17,bS eI)],[(50,⟨61,67,lm am v10⟩)],[5,6,9,10,11,16,17,50]⟩
abbrev H79_1 (M:Nat→Prop) (w0:Base) (r:aa) (v1:ab) (v2:aS) (v3 v4:Bool) (v5:bv) (v6:(List ab)×Bool) (m1:Nat) (L1:Int→(List aa)→Option aa):Prop:=∀ {v9:Int} {v10:(List aa)},L1 v9 v10=some r→LP (dP M w0) (q79 M w0 r) [.b 0,aJ iz,aJ eQ] (cat Try.f79 p79_4) m1 (s79_l1 v1 v2 v3 v4 v5 v6 v9 v10)
abbrev H79_2 (M:Nat→Prop) (w0:Base) (r:aa) (v1:ab) (v2:aS) (v6:(List ab)×Bool) (v19:List aa) (v25:Int) (v33 v34:aA) (v35:Bool) (v39 v40:Int) (m2:Nat) (L2:Int→(List aa)→Option aa):Prop:=∀ {v47:Int} {v48:(List aa)},L2 v47 v48=some r→LP (dP M w0) (q79 M w0 r) [.b 4,aJ fu] (cat Try.f79 p79_1) m2 (s79_l11 v1 v2 v6 v19 v25 v33 v34 v35 v39 v40 v47 v48)
variable {K:Kn} {n:Nat} {M:Nat→Prop} {w0:Base} {r:aa} {v1:ab} {v2:aS} {v3 v4:Bool} {v5:bv} {v6:(List ab)×Bool} {v9:Int} {v10:List aa} {v15:Int} {v16:Bool} {v17 v18:aA} {v19:List aa} {v20 v21:aA} {v23:Bool} {v25:Int} {v26:aA} {v27:Bool} {v32:Int} {v33 v34:aA} {v35:Bool} {v36:Int×Bool} {v37:Bool} {v38 v39 v40 v47:Int} {v48 v50:List aa} {v52:Bool} {v54:List aa} {m1:Nat} {L1:Int→(List aa)→Option aa} {m2:Nat} {L2:Int→(List aa)→Option aa}
theorem s6 (hK:KnOk K) (hL2:H79_2 M w0 r v1 v2 v6 v19 v25 v33 v34 v35 v39 v40 m2 L2) (h:nL K n v1 v2 v6 v19 v25 v33 v34 v35 v39 v40 v47 L2 v54=some r):VE (dP M w0) (q79 M w0 r) [.b 5,aJ lO,ik M w0 r m2,.b 4,aJ fu] .normal (s79_j10 v1 v2 v6 v19 v25 v33 v34 v35 v39 v40 v47 v54):=by
  unfold nL at h
  exact ah 2 (aW (hL2 h))
theorem s9 (hK:KnOk K) (hL2:H79_2 M w0 r v1 v2 v6 v19 v25 v33 v34 v35 v39 v40 m2 L2) (h:oE K n v1 v2 v6 v19 v25 v33 v34 v35 v39 v40 v47 v50 L2 v52=some r):VE (dP M w0) (q79 M w0 r) [aJ p79_6,.b 5,aJ lO,ik M w0 r m2,.b 4,aJ fu] .normal (s79_j9 v1 v2 v6 v19 v25 v33 v34 v35 v39 v40 v47 v50 v52):=by
  unfold oE at h
  rcases aq h with ⟨h64,h⟩ | ⟨h64,h⟩
  ·
   refine aj 244 h64 (ac (ks':=[aJ p79_7,.b 5,aJ lO,ik M w0 r m2,.b 4,aJ fu]) 1 (br [6,10,11,12,13,15,24,199,200] [6,10,11] [1054] ?_))
   obtain ⟨h65,h⟩:=au h
   obtain ⟨v53,h66,h⟩:=bind_some h
   obtain ⟨h67,h⟩:=au h
   exact bH 1 (nu 245 [.ptr 11 66,.ref 1054,iI v47,.ptr 11 66,.ref 1054,iI v47,.eptr 1054 67 (v47.toNat) 0,.agg (aC (gD v50 v47)),.ptr 6 12,iI v2.Content,.agg (aC v53),.eptr 1054 67 (v47.toNat) 0]) [] [] [strS 1054 ⟨61,67,lm am (List.set v50 v47.toNat v53)⟩] (aD (vz 6) (d_v (bu 1054 67 am (L:=v50) h65) (d_v (bk 61 0 am aC (aI h67).2 (cj)) (aD (vz 2) (az (e_c 0 1 255 (wN hK h66)) (d_v (bu 1054 67 am (L:=v50) h67) (az (e_s (m:=0) (cm 1054 61 67 0 am aC v53 (aI h67).2 (cj))) bI))))))) (ah 0 (s6 hK hL2 h))
  ·
   exact aj 244 h64 (ah 2 (s6 hK hL2 h))
theorem ur (hK:KnOk K) (hL2:H79_2 M w0 r v1 v2 v6 v19 v25 v33 v34 v35 v39 v40 m2 L2) (h:oC K n v1 v2 v6 v19 v25 v33 v34 v35 v39 v40 L2 v47 v48=some r):VE (dP M w0) (q79 M w0 r) [aJ p79_1,ik M w0 r m2,.b 4,aJ fu] .normal (s79_l11 v1 v2 v6 v19 v25 v33 v34 v35 v39 v40 v47 v48):=by
  unfold oC at h
  refine ac (ks':=[aJ p79_8,aJ p79_9,ik M w0 r m2,.b 4,aJ fu]) 3 ?_
  rcases aq h with ⟨h54,h⟩ | ⟨h54,h⟩
  ·
   refine aj 201 h54 (ac (ks':=[aJ p79_10,aJ p79_11,.b 5,aJ lO,ik M w0 r m2,.b 4,aJ fu]) 7 (br [6,10,11,12,13,15,24,199,200] [6,10,11] [1054] ?_))
   obtain ⟨h55,h⟩:=au h
   obtain ⟨h56,h⟩:=au h
   refine bH 1 (nu 203 [.ptr 11 66,.ref 1054,iI v47,.eptr 1054 67 (v47.toNat) 0,.eptr 1054 67 (v47.toNat) 2,iI ((gD v48 v47).X),.ptr 6 4,.ptr 6 7,iI v2.Border.a3,.ptr 6 8,.ptr 6 11,iI v2.Padding.a3,iI (w64 (v2.Border.a3+v2.Padding.a3)),iI (w64 (((gD v48 v47).X)+(w64 (v2.Border.a3+v2.Padding.a3)))),.eptr 1054 67 (v47.toNat) 0,.eptr 1054 67 (v47.toNat) 2]) [] [] [strS 1054 ⟨61,67,lm am (List.set v48 v47.toNat ({ (gD v48 v47) with X:=(w64 (((gD v48 v47).X)+(w64 (v2.Border.a3+v2.Padding.a3)))) }:aa))⟩] (aD (vz 3) (d_v (bu 1054 67 am (L:=v48) h55) (aD [.v 0 1] (d_v (bk 3 2 am aC (aI h56).2 (cj)) (aD (vz 8) (az (k_v (lo:=0) (k:=2) (bR ⟨(by kernel_rfl),(bT (bu 1054 67 am (L:=v48) h56) (by kernel_rfl))⟩ (bR ⟨(by kernel_rfl),(bT (bu 1054 67 am (L:=(List.set v48 v47.toNat ({ (gD v48 v47) with X:=(w64 (((gD v48 v47).X)+(w64 (v2.Border.a3+v2.Padding.a3)))) }:aa))) h56) (by kernel_rfl))⟩ cT))) (aD [.v 0 1] (az (e_s (m:=0) (cm 1054 61 67 2 am aC ({ (gD v48 v47) with X:=(w64 (((gD v48 v47).X)+(w64 (v2.Border.a3+v2.Padding.a3)))) }:aa) (aI h56).2 (cj))) bI)))))))) ?_
   obtain ⟨v49,h57,h⟩:=bind_some h
   have h57:=Option.some.inj h57
   refine bo (ks':=[aJ p79_12,aJ p79_13,.b 5,aJ lO,ik M w0 r m2,.b 4,aJ fu]) 1 ⟨[(6,.ptr 6 0),(10,.ptr 10 0),(11,.ptr 11 0),(12,.sl (lm aw v6.1)),(13,.bool v6.2),(15,iI v25),(24,iI v47),(199,iI (v19.length:Int)),(200,iI v47)],[(6,bE v2),(10,List.set (aC aX) 66 (.nils)),(11,List.set (aC (⟨1,v1.Node,v2.Margin.a3,0,(w64 (v2.Content+v39)),v40,0,⟨#[]⟩,v1.Style,v33,v34,v35,[]⟩:aa)) 66 (.ref 1054))],[(1054,⟨61,67,lm am v49⟩)],[6,10,11,1054]⟩ ?_ (by subst h57; kernel_rfl)
   obtain ⟨h58,h⟩:=au h
   obtain ⟨h59,h⟩:=au h
   refine bH 1 (nu 219 [.ptr 11 66,.ref 1054,iI v47,.eptr 1054 67 (v47.toNat) 0,.eptr 1054 67 (v47.toNat) 3,iI ((gD v49 v47).Y),.ptr 6 4,.ptr 6 4,iI v2.Border.a0,.ptr 6 8,.ptr 6 8,iI v2.Padding.a0,iI (w64 (v2.Border.a0+v2.Padding.a0)),iI v25,iI (w64 ((w64 (v2.Border.a0+v2.Padding.a0))+v25)),iI (w64 (((gD v49 v47).Y)+(w64 ((w64 (v2.Border.a0+v2.Padding.a0))+v25)))),.eptr 1054 67 (v47.toNat) 0,.eptr 1054 67 (v47.toNat) 3]) [] [] [strS 1054 ⟨61,67,lm am (List.set v49 v47.toNat ({ (gD v49 v47) with Y:=(w64 (((gD v49 v47).Y)+(w64 ((w64 (v2.Border.a0+v2.Padding.a0))+v25)))) }:aa))⟩] (aD (vz 3) (d_v (bu 1054 67 am (L:=v49) h58) (aD [.v 0 1] (d_v (bk 3 3 am aC (aI h59).2 (cj)) (aD (vz 10) (az (k_v (lo:=0) (k:=2) (bR ⟨(by kernel_rfl),(bT (bu 1054 67 am (L:=v49) h59) (by kernel_rfl))⟩ (bR ⟨(by kernel_rfl),(bT (bu 1054 67 am (L:=(List.set v49 v47.toNat ({ (gD v49 v47) with Y:=(w64 (((gD v49 v47).Y)+(w64 ((w64 (v2.Border.a0+v2.Padding.a0))+v25)))) }:aa))) h59) (by kernel_rfl))⟩ cT))) (aD [.v 0 1] (az (e_s (m:=0) (cm 1054 61 67 3 am aC ({ (gD v49 v47) with Y:=(w64 (((gD v49 v47).Y)+(w64 ((w64 (v2.Border.a0+v2.Padding.a0))+v25)))) }:aa) (aI h59).2 (cj))) bI)))))))) ?_
   obtain ⟨v50,h60,h⟩:=bind_some h
   have h60:=Option.some.inj h60
   refine bo (ks':=[aJ p79_14,aJ p79_6,.b 5,aJ lO,ik M w0 r m2,.b 4,aJ fu]) 1 ⟨[(6,.ptr 6 0),(10,.ptr 10 0),(11,.ptr 11 0),(12,.sl (lm aw v6.1)),(13,.bool v6.2),(15,iI v25),(24,iI v47),(199,iI (v19.length:Int)),(200,iI v47)],[(6,bE v2),(10,List.set (aC aX) 66 (.nils)),(11,List.set (aC (⟨1,v1.Node,v2.Margin.a3,0,(w64 (v2.Content+v39)),v40,0,⟨#[]⟩,v1.Style,v33,v34,v35,[]⟩:aa)) 66 (.ref 1054))],[(1054,⟨61,67,lm am v50⟩)],[6,10,11,1054]⟩ ?_ (by subst h60; kernel_rfl)
   refine ai 2 ?_
   rcases aq h with ⟨h61,h⟩ | ⟨h61,h⟩
   ·
    refine aE 238 h61 (aM 4 2 ?_)
    obtain ⟨h62,h⟩:=au h
    refine ap (bL aw aH h62 (ce) (b9)) (aM 6 1 ?_)
    obtain ⟨v51,h63,h⟩:=bind_some h
    exact aR (sO hK h63) (ag (ah 0 (s9 hK hL2 h)))
   ·
    exact aE 238 h61 (ag (ah 0 (s9 hK hL2 h)))
  ·
   refine aj 201 h54 (aQ 8 ?_)
   cases h
   exact cK
theorem wX (hK:KnOk K) (m:Nat):H79_2 M w0 r v1 v2 v6 v19 v25 v33 v34 v35 v39 v40 m (kB K n v1 v2 v6 v19 v25 v33 v34 v35 v39 v40 m):=by
  induction m with
 | zero=>intro v47 v48 h; cases h
 | succ m ih=>intro v47 v48 h; have h:oC K n v1 v2 v6 v19 v25 v33 v34 v35 v39 v40 (kB K n v1 v2 v6 v19 v25 v33 v34 v35 v39 v40 m) v47 v48=some r:=h; exact aV (ur hK ih h)
theorem ub (hK:KnOk K) (h:l3 K n v1 v2 v6 v19 v25 v33 v34 v35 v38=some r):VE (dP M w0) (q79 M w0 r) [aJ p79_15] .normal (s79_j8 v1 v2 v6 v19 v25 v33 v34 v35 v38):=by
  unfold l3 at h
  refine ac (ks':=[aJ p79_16,aJ p79_17]) 3 (br [6,10,11,12,13,14,15] [6,10,11] [1054] ?_)
  obtain ⟨v39,h38,h⟩:=bind_some h
  refine bH 1 (nu 173 [.ptr 6 12,iI v2.Content,.agg (bE v2),iI v39,iI (w64 (v2.Content+v39)),.ptr 11 4]) [] [] [stp Try.prog 259 Try.f79 p79_16 6] (aD (vz 3) (az (e_c 0 1 176 (vk hK h38)) (aD (vz 2) (az (e_d 0) bI)))) ?_
  obtain ⟨v40,h39,h⟩:=bind_some h
  have h39:=Option.some.inj h39
  refine bo (ks':=[aJ p79_18,aJ p79_19,aJ fu]) 4 ⟨[(6,.ptr 6 0),(10,.ptr 10 0),(11,.ptr 11 0),(12,.sl (lm aw v6.1)),(13,.bool v6.2),(15,iI v25)],[(6,bE v2),(10,List.set (aC aX) 66 (.nils)),(11,List.set (aC (⟨1,v1.Node,v2.Margin.a3,0,(w64 (v2.Content+v39)),v40,0,⟨#[]⟩,v1.Style,v33,v34,v35,[]⟩:aa)) 66 (.ref 1054))],[(1054,⟨61,67,lm am v19⟩)],[6,10,11,1054]⟩ ?_ (by subst h39; kernel_rfl)
  exact ai 2 (ap (bi am v19) (ag (ah 1 (bw (p:=p79_20) n (wX hK n h)))))
theorem sr (hK:KnOk K) (h:oH K n v1 v2 v6 v19 v25 v32 v33 v34 v35 v36 v37=some r):VE (dP M w0) (q79 M w0 r) [aJ p79_21,aJ p79_15] .normal (s79_j7 v1 v2 v6 v19 v25 v32 v33 v34 v35 v36 v37):=by
  unfold oH at h
  rcases aq h with ⟨h37,h⟩ | ⟨h37,h⟩
  ·
   exact aj 166 h37 (ah 2 (ub hK h))
  ·
   exact aj 166 h37 (ah 2 (ub hK h))
theorem oJ (hK:KnOk K) (h:fG K n v1 v2 v6 v19 v25 v32 v33 v34 v35=some r):VE (dP M w0) (q79 M w0 r) [.b 3,aJ fF] .normal (s79_j6 v1 v2 v6 v19 v25 v32 v33 v34 v35):=by
  unfold fG at h
  refine ac (ks':=[aJ p79_23,aJ p79_24,aJ p79_15]) 5 (ai 3 ?_)
  obtain ⟨v36,h35,h⟩:=bind_some h
  refine aR (de hK h35) (ag (ac (ks':=[aJ p79_25,aJ p79_21,aJ p79_15]) 1 (ai 2 ?_)))
  rcases aq h with ⟨h36,h⟩ | ⟨h36,h⟩
  ·
   exact aE 160 h36 (ag (ah 0 (sr hK h)))
  ·
   exact aE 160 h36 (ag (ah 0 (sr hK h)))
theorem ro (hK:KnOk K) (h:lY K n v1 v2 v4 v6 v15 v16 v17 v18 v19 v21 v25 v26 v27=some r):VE (dP M w0) (q79 M w0 r) [aJ p79_26,.b 3,aJ fF] .normal (s79_j5 v1 v2 v4 v6 v15 v16 v17 v18 v19 v21 v25 v26 v27):=by
  unfold lY at h
  rcases aq h with ⟨h27,h⟩ | ⟨h27,h⟩
  ·
   refine aj 113 h27 (ac (ks':=[aJ p79_27,aJ p79_28,.b 3,aJ fF]) 2 (ai 4 ?_))
   obtain ⟨v28,h28,h⟩:=bind_some h
   exact aR (pA hK h28) (ag (ah 5 (oJ hK h)))
  ·
   refine aj 113 h27 (ac (ks':=[aJ p79_29,.b 3,aJ fF]) 3 ?_)
   rcases aq h with ⟨h29,h⟩ | ⟨h29,h⟩
   ·
    refine aj 131 h29 (ac (ks':=[aJ p79_30,.b 3,aJ fF]) 5 ?_)
    rcases aq h with ⟨h30,h⟩ | ⟨h30,h⟩
    ·
     refine aj 134 h30 (ac (ks':=[aJ p79_31,.b 3,aJ fF]) 1 (ai 3 ?_))
     obtain ⟨v29,h31,h⟩:=bind_some h
     exact aR (pA hK h31) (ag (ah 0 (oJ hK h)))
    ·
     exact aj 134 h30 (ah 2 (oJ hK h))
   ·
    refine aj 131 h29 (ac (ks':=[aJ p79_32,.b 3,aJ fF]) 3 ?_)
    rcases aq h with ⟨h32,h⟩ | ⟨h32,h⟩
    ·
     refine aj 140 h32 (ac (ks':=[aJ p79_33,aJ p79_34,.b 3,aJ fF]) 2 (ai 3 ?_))
     obtain ⟨v30,h33,h⟩:=bind_some h
     exact aR (pA hK h33) (ag (ah 1 (oJ hK h)))
    ·
     refine aj 140 h32 (ac (ks':=[aJ p79_35,.b 3,aJ fF]) 1 (ai 3 ?_))
     obtain ⟨v31,h34,h⟩:=bind_some h
     exact aR (rt hK h34) (ag (ah 0 (oJ hK h)))
theorem rx (hK:KnOk K) (h:lw K n v1 v2 v3 v4 v6 v15 v16 v17 v18 v19 v21 v25 v26=some r):VE (dP M w0) (q79 M w0 r) [.b 2,aJ lu] .normal (s79_j4 v1 v2 v3 v4 v6 v15 v16 v17 v18 v19 v21 v25 v26):=by
  unfold lw at h
  refine ac (ks':=[aJ p79_37,aJ p79_26,.b 3,aJ fF]) 4 (ai 2 ?_)
  rcases aq h with ⟨h25,h⟩ | ⟨h25,h⟩
  ·
   refine aE 115 h25 (aM 5 3 ?_)
   rcases aq h with ⟨h26,h⟩ | ⟨h26,h⟩
   ·
    exact aE 118 h26 (ag (ah 0 (ro hK h)))
   ·
    exact aE 118 h26 (ag (ah 0 (ro hK h)))
  ·
   exact aE 115 h25 (ag (ah 0 (ro hK h)))
theorem tY (hK:KnOk K) (h:nn K n v1 v2 v3 v4 v6 v15 v16 v17 v18 v19 v20 v21 v23=some r):VE (dP M w0) (q79 M w0 r) [aJ p79_38,.b 2,aJ lu] .normal (s79_j3 v1 v2 v3 v4 v6 v15 v16 v17 v18 v19 v20 v21 v23):=by
  unfold nn at h
  rcases aq h with ⟨h23,h⟩ | ⟨h23,h⟩
  ·
   refine aj 98 h23 (ac (ks':=[aJ p79_39,.b 2,aJ lu]) 1 (ai 1 ?_))
   obtain ⟨v24,h24,h⟩:=bind_some h
   exact aR (rt hK h24) (ag (ah 0 (rx hK h)))
  ·
   exact aj 98 h23 (ah 2 (rx hK h))
theorem ua (hK:KnOk K) (h:oz K n v1 v2 v3 v4 v6 v15 v16 v17 v18 v19=some r):VE (dP M w0) (q79 M w0 r) [aJ eQ] .normal (s79_j2 v1 v2 v3 v4 v6 v15 v16 v17 v18 v19):=by
  unfold oz at h
  refine ac (ks':=[aJ p79_40,aJ p79_41]) 1 (br [2,3,5,6,10,11,12,13,14,15,16,17,18] [5,6,10,11,16,17] [1054] ?_)
  obtain ⟨v20,h18,h⟩:=bind_some h
  obtain ⟨v21,h19,h⟩:=bind_some h
  refine bH 2 (nu 81 [.ptr 6 0,.ptr 6 0,iI v2.Margin.a0,.agg (bS v20),.ptr 6 0,.ptr 6 2,iI v2.Margin.a2,.agg (bS v21),.ptr 11 61,.ptr 11 63]) [] [] [stp Try.prog 259 Try.f79 p79_40 9,stp Try.prog 259 Try.f79 p79_40 11] (aD (vz 3) (az (e_c 0 1 84 (qG hK h18)) (aD [.v 0 2,.v 0 2,.v 0 2] (az (e_c 0 1 88 (qG hK h19)) (aD [.v 0 1] (az (e_d 0) (aD [.v 1 1] (az (e_d 1) bI)))))))) (ac (ks':=[aJ p79_42,.b 2,aJ lu]) 4 ?_)
  rcases aq h with ⟨h20,h⟩ | ⟨h20,h⟩
  ·
   refine aj 91 h20 (ac (ks':=[aJ p79_43,.b 2,aJ lu]) 1 (ai 3 ?_))
   obtain ⟨v22,h21,h⟩:=bind_some h
   exact aR (pA hK h21) (ag (ah 0 (rx hK h)))
  ·
   refine aj 91 h20 (ac (ks':=[aJ p79_44,aJ p79_38,.b 2,aJ lu]) 2 (ai 3 ?_))
   rcases aq h with ⟨h22,h⟩ | ⟨h22,h⟩
   ·
    exact aE 101 h22 (ag (ah 0 (tY hK h)))
   ·
    exact aE 101 h22 (ag (ah 0 (tY hK h)))
theorem vq (hK:KnOk K) (hL1:H79_1 M w0 r v1 v2 v3 v4 v5 v6 m1 L1) (h:qB K n v1 v2 v3 v4 v5 v6 L1 v9 v10=some r):VE (dP M w0) (q79 M w0 r) [aJ p79_4,k79_1 M w0 r m1,.b 0,aJ iz,aJ eQ] .normal (s79_l1 v1 v2 v3 v4 v5 v6 v9 v10):=by
  unfold qB at h
  refine ac (ks':=[aJ p79_45,aJ p79_46,k79_1 M w0 r m1,.b 0,aJ iz,aJ eQ]) 3 ?_
  rcases aq h with ⟨h11,h⟩ | ⟨h11,h⟩
  ·
   refine aj 39 h11 (ac (ks':=[aJ p79_47,aJ p79_48,.b 1,aJ p79_49,k79_1 M w0 r m1,.b 0,aJ iz,aJ eQ]) 5 (ai 0 ?_))
   obtain ⟨h12,h⟩:=au h
   refine ap (bL aw aH h12 (ce) (b9)) (ag (ai 6 ?_))
   obtain ⟨v11,h13,h⟩:=bind_some h
   refine iR (hK.qO h13) (ap (d7 am ([v11]:List aa) (new:=[aC v11]) (by simp only [List.map_cons,List.map_nil,cj])) ?_)
   obtain ⟨h14,h⟩:=au h
   exact ap (co 50 50 61 67 am (rfl) (cX) h14) (ag (ah 2 (aW (hL1 h))))
  ·
   refine aj 39 h11 (ac (ks':=[aJ iz,aJ eQ]) 5 (ai 1 (dG 50 ?_)))
   obtain ⟨v12,h15,h⟩:=bind_some h
   exact cZ 1054 (wF hK h15) (one_tup (i:=0) rfl) (ag (ah 0 (ua hK h)))
theorem uH (hK:KnOk K) (m:Nat):H79_1 M w0 r v1 v2 v3 v4 v5 v6 m (pY K n v1 v2 v3 v4 v5 v6 m):=by
  induction m with
 | zero=>intro v9 v10 h; cases h
 | succ m ih=>intro v9 v10 h; have h:qB K n v1 v2 v3 v4 v5 v6 (pY K n v1 v2 v3 v4 v5 v6 m) v9 v10=some r:=h; exact aV (vq hK ih h)
theorem tv (hK:KnOk K) (h:ny K n v1 v2 v3 v4 v5=some r):ACalls Try.prog 79 [.agg (aH v1),.agg (bE v2),.bool v3,.bool v4,.agg (cf v5)] (fun v s=>v = .agg (List.set (aC ({ r with Kids:=[] }:aa)) 66 (.ref 1054))∧look 1054 s.r=some ⟨61,67,lm am r.Kids⟩):=by
  refine bg (cat Try.f79 []) Try.func79 Try.ntmps79 fun M w0=>(aZ ⟨[(0,.agg (aH v1)),(1,.agg (bE v2)),(2,.bool v3),(3,.bool v4),(4,.agg (cf v5))],[],[],[]⟩ ?_)
  unfold ny at h
  refine ac (ks':=[aJ [1,1,0],aJ [1,1,1]]) 5 (ai 1 ?_)
  obtain ⟨v6,h1,h⟩:=bind_some h
  refine aR (tH hK h1) (ag (ac (ks':=[aJ p79_50,aJ eQ]) 9 ?_))
  rcases aq h with ⟨h2,h⟩ | ⟨h2,h⟩
  ·
   exact aj 35 h2 (ac (ks':=[aJ p79_51,aJ p79_52,aJ iz,aJ eQ]) 5 (ai 1 (ap (bi aw v6.1) (ag (ac (ks':=[aJ p79_53,.b 0,aJ iz,aJ eQ]) 1 (br [2,3,5,6,9,10,11,12,13,15,16,17,19,36,37,38] [5,6,9,10,11,16,17] [] (dz 50 19 61 67 (ah 0 (bw (p:=p79_53) n (uH hK n h))))))))))
  ·
   refine aj 35 h2 (ac (ks':=[aJ p79_54,aJ p79_55,aJ eQ]) 2 (ai 7 ?_))
   obtain ⟨v13,h16,h⟩:=bind_some h
   refine iR (hK.oa h16) (ag (ac (ks':=[aJ p79_56,aJ p79_57,aJ eQ]) 1 (ai 2 ?_)))
   obtain ⟨v14,h17,h⟩:=bind_some h
   exact cZ 1075 (ww hK h17) (dN 5) (ag (ai 2 (ap (bi am v14) (ag (br [2,3,5,6,10,11,12,13,14,15,16,17,18] [5,6,10,11,16,17] [1075] (ve_m 1075 1054 (ah 0 (ua hK h))))))))
end
noncomputable section
variable {K:Kn} {n:Nat} {M:Nat→Prop} {w0:Base} {r:aa} {v1:ab} {v2:aS} {v3:bv} 
abbrev cF71 (p:List Nat):Kont:=.c (cat Try.f71 p)
theorem vy (hK:KnOk K) (h:pg K n v1 v2 v3=some r):ACalls Try.prog 71 [.agg (aH v1),.agg (bE v2),.agg (cf v3)] (fun v s=>v = .agg (List.set (aC ({ r with Kids:=[] }:aa)) 66 (.ref 1010))∧look 1010 s.r=some ⟨61,67,lm am r.Kids⟩):=by
  refine bg (cat Try.f71 []) Try.func71 Try.ntmps71 fun M w0=>(aZ ⟨[(0,.agg (aH v1)),(1,.agg (bE v2)),(2,.agg (cf v3))],[],[],[]⟩ ?_)
  unfold pg at h
  refine ac (ks':=[cF71 [1,0],cF71 [1,1]]) 3 (ai 3 ?_)
  obtain ⟨v4,h1,h⟩:=bind_some h
  refine cZ 1010 (tv hK h1) (ju (i:=66) (by kernel_rfl)) (ag (aQ 1 ?_))
  cases h
  exact cK
end
def p47_0:=pth 8 1
def p47_1:=pth 8 10
def p47_2:=pth 9 1
def p47_3:=pth 0 11110
def p47_4:=pth 0 11111
def p47_5:=pth 0 111110
def p47_6:=pth 5 1
def p47_7:=pth 5 10
def p47_8:=pth 6 1
def p47_9:=pth 7 100
def p47_10:=pth 7 101
def p47_11:=pth 7 1011
def p47_12:=pth 7 10110
noncomputable section
abbrev cx47 (M:Nat→Prop) (w0:Base):Cx:=⟨Try.prog,58,M,w0⟩
abbrev q47 (M:Nat→Prop) (w0:Base) (r:aa×Int):=bodyPost Try.prog Try.f47 (RetQ M w0 (fun v s=>v = .tup [.agg (List.set (aC ({ r.1 with Kids:=[] }:aa)) 66 (.ref 1034)),iI r.2]∧look 1034 s.r=some ⟨61,67,lm am r.1.Kids⟩))
def s47_j1 (v1:ab) (v3:Int) (v8:aa) (v11:Int):AS:=⟨[(2,iI v3),(4,.ptr 4 0),(8,.ptr 8 0),(12,.ptr 12 0),(13,iI v11)],[(4,aH v1),(8,List.set (aC aX) 66 (.nils)),(12,List.set (aC ({ v8 with Kids:=[] }:aa)) 66 (.ref 1034))],[(1034,⟨61,67,lm am v8.Kids⟩)],[4,8,12,1034]⟩
variable {K:Kn} {n:Nat} {M:Nat→Prop} {w0:Base} {r:aa×Int} {v1:ab} {v2 v3:Int} {v4:bv} {v8:aa} {v11:Int} 
abbrev df (p:List Nat):Kont:=.c (cat Try.f47 p)
theorem tm (hK:KnOk K) (h:oo K n v1 v3 v8 v11=some r):VE (cx47 M w0) (q47 M w0 r) [df p47_0] .normal (s47_j1 v1 v3 v8 v11):=by
  unfold oo at h
  refine ac (ks':=[df p47_1,df p47_2]) 1 (br [2,4,8,12,13] [4,8,12] [1034] (bH 2 (nu 51 [iI v3,.ptr 4 2,.agg (aO v1.Style),.ptr 12 4,.ptr 12 8]) [] [] [stp Try.prog 58 Try.f47 p47_1 4,stp Try.prog 58 Try.f47 p47_1 6] (aD [.v 0 1,.v 0 2,.v 0 2,.v 0 1] (az (e_d 0) (aD [.v 1 1] (az (e_d 1) bI)))) (aQ 3 ?_)))
  cases h
  exact eG
theorem g_table_cell_ok (hK:KnOk K) (h:jr K n v1 v2 v3 v4=some r):ACalls Try.prog 47 [.agg (aH v1),iI v2,iI v3,.agg (cf v4)] (fun v s=>v = .tup [.agg (List.set (aC ({ r.1 with Kids:=[] }:aa)) 66 (.ref 1034)),iI r.2]∧look 1034 s.r=some ⟨61,67,lm am r.1.Kids⟩):=by
  refine bg (cat Try.f47 []) Try.func47 Try.ntmps47 fun M w0=>(aZ ⟨[(0,.agg (aH v1)),(1,iI v2),(2,iI v3),(3,.agg (cf v4))],[],[],[]⟩ ?_)
  unfold jr at h
  refine ac (ks':=[df [1,0],df [1,1]]) 3 (ai 1 ?_)
  obtain ⟨v5,h1,h⟩:=bind_some h
  refine aR (ta hK h1) (ag (ac (ks':=[df p47_3,df p47_4]) 3 (ai 3 ?_)))
  obtain ⟨v6,h2,h⟩:=bind_some h
  refine aR (oA hK h2) (ag (ac (ks':=[df p47_5,df p47_6]) 1 (ai 2 ?_)))
  obtain ⟨v7,h3,h⟩:=bind_some h
  refine aR (lZ hK h3) (ag (ac (ks':=[df p47_7,df p47_8]) 1 (ai 3 ?_)))
  obtain ⟨v8,h4,h⟩:=bind_some h
  refine cZ 1034 (vy hK h4) (ju (i:=66) (by kernel_rfl)) (ag (ac (ks':=[df p47_9,df p47_10,df p47_0]) 4 (ai 3 ?_)))
  obtain ⟨v9,h5,h⟩:=bind_some h
  refine aR (rc hK h5) (ag (ac (ks':=[df p47_11,df p47_0]) 2 ?_))
  rcases aq h with ⟨h6,h⟩ | ⟨h6,h⟩
  ·
   refine aj 44 h6 (ac (ks':=[df p47_12,df p47_0]) 1 (ai 3 ?_))
   obtain ⟨v10,h7,h⟩:=bind_some h
   exact aR (tG hK h7) (ag (ah 0 (tm hK h)))
  ·
   exact aj 44 h6 (ah 2 (tm hK h))
end
noncomputable section
variable {K:Kn} {n:Nat} {M:Nat→Prop} {w0:Base} {r v1:List Int} 
abbrev cF48 (p:List Nat):Kont:=.c (cat Try.f48 p)
theorem vF (hK:KnOk K) (h:nJ K n v1=some r):ACalls Try.prog 48 [.sl (lm (eInt .i64) v1)] (fun v s=>v = .ref 5∧look 5 s.r=some ⟨3,1,lm (eInt .i64) r⟩):=by
  refine bg (cat Try.f48 []) Try.func48 Try.ntmps48 fun M w0=>(aZ ⟨[(0,.sl (lm (eInt .i64) v1))],[],[],[]⟩ ?_)
  unfold nJ at h
  refine ac (ks':=[cF48 [1,0,0],cF48 [1,0,1],cF48 [1,1]]) 4 (ai 1 ?_)
  refine ot_nilq (opAt Try.f48 [1,0,0] 1) (.eql) 33 33 (.tmp 3) (.const (.slice none 0 0)) 4 (lm (eInt .i64) v1) (r:=restAt Try.f48 [1,0,0] 2) (e:=3) (by kernel_rfl) (by kernel_rfl) (by kernel_rfl) (by kernel_rfl) (by kernel_rfl) (by kernel_rfl) (by kernel_rfl) (by kernel_rfl) (fun hq=>?_) ?_
  ·
   have h:=oL (by simpa using hq) h
   refine ag (aQ 5 (dz 5 2 3 1 ?_))
   cases h
   exact cK
  ·
   have h:=nl h
   refine ag (ac (ks':=[cF48 [1,1,0],cF48 [1,1,1]]) 3 (ai 0 (ot_bs 33 5 (e:=3) (sz:=1) (aM 2 1 ?_))))
   obtain ⟨h2,h⟩:=au h
   refine ap (co 7 5 3 1 (eInt .i64) (rfl) (fun _=>rfl) h2) (ag (aQ 1 ?_))
   cases h
   exact cK
end
def p50_0:=pth 11 1
def p50_1:=pth 10 1001
def p50_2:=pth 10 100111
def p50_3:=pth 10 10011111
def p50_4:=pth 5 1
def p50_5:=pth 5 10
def p50_6:=pth 6 1
def p50_7:=pth 6 10
def p50_8:=pth 7 1
def p50_9:=pth 7 101
def p50_10:=pth 8 1
def p50_11:=pth 8 10
def p50_12:=pth 9 1
def p50_13:=pth 9 10
def p50_14:=pth 10 1
def p50_15:=pth 10 1000
def p50_16:=pth 0 11110
def p50_17:=pth 0 11111
def p50_18:=pth 0 1111101
def p50_19:=pth 0 11111010
noncomputable section
abbrev cx50 (M:Nat→Prop) (w0:Base):Cx:=⟨Try.prog,89,M,w0⟩
abbrev q50 (M:Nat→Prop) (w0:Base) (r:aS):=bodyPost Try.prog Try.f50 (RetQ M w0 (fun v _=>v = .agg (bE r)))
def s50_j3 (v4:aS) (v8:Int) (v13:V4 Int):AS:=⟨[(4,.ptr 4 0),(5,.ptr 5 0)],[(4,bE fM),(5,bE ({ v4 with Margin:=v13,Content:=v8 }:aS))],[],[4,5]⟩
def s50_j2 (v3:Int) (v4:aS) (v8 v9:Int) (v10 v11:Int×Bool) (v12:Bool):AS:=⟨[(4,.ptr 4 0),(5,.ptr 5 0),(8,iI (w64 (v3 - v9))),(10,.bool v10.2),(12,.bool v11.2),(59,.bool v12)],[(4,bE fM),(5,bE ({ v4 with Content:=v8 }:aS))],[],[4,5]⟩
def s50_j1 (v1:aG) (v3:Int) (v4:aS) (v7:Int):AS:=⟨[(1,iI v3),(2,.ptr 2 0),(4,.ptr 4 0),(5,.ptr 5 0),(6,iI v7)],[(2,aO v1),(4,bE fM),(5,bE v4)],[],[2,4,5]⟩
variable {K:Kn} {n:Nat} {M:Nat→Prop} {w0:Base} {r:aS} {v1:aG} {v2 v3:Int} {v4:aS} {v7 v8 v9:Int} {v10 v11:Int×Bool} {v12:Bool} {v13:V4 Int} 
abbrev cn (p:List Nat):Kont:=.c (cat Try.f50 p)
theorem qI (hK:KnOk K) (h:jq K n v4 v8 v13=some r):VE (cx50 M w0) (q50 M w0 r) [.b 0,cn p50_0] .normal (s50_j3 v4 v8 v13):=by
  unfold jq at h
  refine aQ 4 ?_
  cases h
  exact bz
theorem ul (hK:KnOk K) (h:nV K n v3 v4 v8 v9 v10 v11 v12=some r):VE (cx50 M w0) (q50 M w0 r) [cn p50_1,.b 0,cn p50_0] .normal (s50_j2 v3 v4 v8 v9 v10 v11 v12):=by
  unfold nV at h
  rcases aq h with ⟨h12,h⟩ | ⟨h12,h⟩
  ·
   exact aj 59 h12 (ah 4 (qI hK h))
  ·
   refine aj 59 h12 (ac (ks':=[cn p50_2,.b 0,cn p50_0]) 3 ?_)
   rcases aq h with ⟨h13,h⟩ | ⟨h13,h⟩
   ·
    exact aj 76 h13 (ah 2 (qI hK h))
   ·
    refine aj 76 h13 (ac (ks':=[cn p50_3,.b 0,cn p50_0]) 3 ?_)
    rcases aq h with ⟨h14,h⟩ | ⟨h14,h⟩
    ·
     exact aj 82 h14 (ah 2 (qI hK h))
    ·
     exact aj 82 h14 (ah 2 (qI hK h))
theorem uc (hK:KnOk K) (h:jT K n v1 v3 v4 v7=some r):VE (cx50 M w0) (q50 M w0 r) [cn p50_4] .normal (s50_j1 v1 v3 v4 v7):=by
  unfold jT at h
  refine ac (ks':=[cn p50_5,cn p50_6]) 1 (ai 3 ?_)
  obtain ⟨v8,h6,h⟩:=bind_some h
  refine aR (qk hK h6) (ag (ac (ks':=[cn p50_7,cn p50_8]) 1 (ai 2 ?_)))
  obtain ⟨v9,h7,h⟩:=bind_some h
  refine aR (lZ hK h7) (ag (ac (ks':=[cn p50_9,cn p50_10]) 3 ?_))
  rcases aq h with ⟨h8,h⟩ | ⟨h8,h⟩
  ·
   refine aj 41 h8 (aQ 5 ?_)
   cases h
   exact bz
  ·
   refine aj 41 h8 (ac (ks':=[cn p50_11,cn p50_12]) 3 (ai 4 ?_))
   obtain ⟨v10,h9,h⟩:=bind_some h
   refine aR (de hK h9) (ag (ac (ks':=[cn p50_13,cn p50_14]) 1 (ai 4 ?_)))
   obtain ⟨v11,h10,h⟩:=bind_some h
   refine aR (de hK h10) (ag (ac (ks':=[cn p50_15,cn p50_1,.b 0,cn p50_0]) 3 (ai 3 ?_)))
   rcases aq h with ⟨h11,h⟩ | ⟨h11,h⟩
   ·
    exact aE 62 h11 (ag (ah 0 (ul hK h)))
   ·
    exact aE 62 h11 (ag (ah 0 (ul hK h)))
theorem sy (hK:KnOk K) (h:jK K n v1 v2=some r):ACalls Try.prog 50 [.agg (aO v1),iI v2] (fun v _=>v = .agg (bE r)):=by
  refine bg (cat Try.f50 []) Try.func50 Try.ntmps50 fun M w0=>(aZ ⟨[(0,.agg (aO v1)),(1,iI v2)],[],[],[]⟩ ?_)
  unfold jK at h
  refine ac (ks':=[cn [1,0],cn [1,1]]) 3 (ai 1 ?_)
  obtain ⟨v3,h1,h⟩:=bind_some h
  refine aR (ft hK h1) (ag (ac (ks':=[cn [1,1,0],cn [1,1,1]]) 1 (ai 2 ?_)))
  obtain ⟨v4,h2,h⟩:=bind_some h
  refine aR (oA hK h2) (ag (ac (ks':=[cn p50_16,cn p50_17]) 1 (ai 3 ?_)))
  obtain ⟨v5,h3,h⟩:=bind_some h
  refine aR (de hK h3) (ag (ac (ks':=[cn p50_18,cn p50_4]) 3 ?_))
  rcases aq h with ⟨h4,h⟩ | ⟨h4,h⟩
  ·
   refine aj 26 h4 (ac (ks':=[cn p50_19,cn p50_4]) 1 (ai 2 ?_))
   obtain ⟨v6,h5,h⟩:=bind_some h
   exact aR (lZ hK h5) (ag (ah 0 (uc hK h)))
  ·
   exact aj 26 h4 (ah 2 (uc hK h))
end
def jn:=pth 28 1
def p22_1:=pth 27 10100
def cL:=pth 18 1
def p22_3:=pth 17 10100
def gi:=pth 17 1
def p22_5:=pth 16 10100
def gb:=pth 13 1
def p22_7:=pth 12 10100
def eE:=pth 11 1
def p22_9:=pth 10 10100
def kS:=pth 17 1010011001111111
def dr:=pth 17 10100111
def p22_12:=pth 17 1010011001111110100
def nF:=pth 12 10100111
def p22_14:=pth 17 101001100111111010010
def p22_15:=pth 17 101001100111111010011
def p22_16:=pth 17 101001100111111010011001
def p22_17:=pth 17 1010011001111110100111
def p22_18:=pth 17 10100110011111110
def p22_19:=pth 17 10100110011111111
def p22_20:=pth 17 1010011001111111100
def p22_21:=pth 17 1010011001111111101
def p22_22:=pth 17 101001100111111111
def p22_23:=pth 17 101001100111111
def p22_24:=pth 17 10100110011111100
def p22_25:=pth 17 10100110011111101
def p22_26:=pth 17 101001100111111010
def p22_27:=pth 27 1010010
def p22_28:=pth 27 1010011
def p22_29:=pth 27 10100110010
def p22_30:=pth 27 10100110011
def p22_31:=pth 27 10100111
def p22_32:=pth 23 1
def p22_33:=pth 24 10
def p22_34:=pth 25 1
def p22_35:=pth 26 10
def p22_36:=pth 27 1
def p22_37:=pth 27 100
def p22_38:=pth 27 101
def p22_39:=pth 27 1010
def p22_40:=pth 17 1010010
def p22_41:=pth 17 1010011
def p22_42:=pth 17 1010011000
def p22_43:=pth 17 1010011001
def p22_44:=pth 17 10100110010
def p22_45:=pth 17 10100110011
def p22_46:=pth 17 101001100110
def p22_47:=pth 17 101001100111
def p22_48:=pth 17 1010011001110
def p22_49:=pth 17 1010011001111
def p22_50:=pth 17 101001100111110101
def p22_51:=pth 17 10100110011111010111
def p22_52:=pth 21 10
def p22_53:=pth 22 1
def p22_54:=pth 22 100
def p22_55:=pth 22 101
def p22_56:=pth 22 1011
def p22_57:=pth 16 1010010
def p22_58:=pth 16 1010011
def p22_59:=pth 16 1010011000
def p22_60:=pth 16 1010011001
def p22_61:=pth 16 10100111
def p22_62:=pth 16 10100110010
def p22_63:=pth 16 10100110011
def p22_64:=pth 17 100
def p22_65:=pth 17 101
def p22_66:=pth 17 1010
def p22_67:=pth 12 1010010
def p22_68:=pth 12 1010011
def p22_69:=pth 12 1010011000
def p22_70:=pth 12 1010011001
def p22_71:=pth 12 10100110010
def p22_72:=pth 12 10100110011
def p22_73:=pth 12 101001100111
def p22_74:=pth 12 10100110011100
def p22_75:=pth 12 10100110011101
def p22_76:=pth 13 10
def p22_77:=pth 14 1
def p22_78:=pth 16 100
def p22_79:=pth 16 101
def p22_80:=pth 16 1010
def p22_81:=pth 10 1010010
def p22_82:=pth 10 1010011
def p22_83:=pth 10 1010011000
def p22_84:=pth 10 1010011001
def mw:=pth 10 10100111
def p22_86:=pth 10 10100110010
def p22_87:=pth 10 10100110011
def p22_88:=pth 10 101001100110
def p22_89:=pth 10 101001100111
def p22_90:=pth 10 1010011001110
def p22_91:=pth 10 1010011001111
def p22_92:=pth 10 10100110011110
def p22_93:=pth 10 10100110011111
def p22_94:=pth 11 10
def p22_95:=pth 12 1
def p22_96:=pth 12 100
def p22_97:=pth 12 101
def p22_98:=pth 12 1010
def p22_99:=pth 5 1
def p22_100:=pth 5 10
def p22_101:=pth 6 1
def p22_102:=pth 6 10
def p22_103:=pth 7 1
def p22_104:=pth 7 10
def p22_105:=pth 8 1
def p22_106:=pth 10 100
def p22_107:=pth 10 101
def p22_108:=pth 10 1010
def p22_109:=pth 0 11110
def p22_110:=pth 0 11111
def p22_111:=pth 0 1111101
def p22_112:=pth 0 11111010
noncomputable section
abbrev cI (M:Nat→Prop) (w0:Base):Cx:=⟨Try.prog,391,M,w0⟩
abbrev q22 (M:Nat→Prop) (w0:Base) (r:aa):=bodyPost Try.prog Try.f22 (RetQ M w0 (fun v s=>v = .agg (List.set (aC ({ r with Kids:=[] }:aa)) 66 (.ref 440028))∧look 440028 s.r=some ⟨61,67,lm am r.Kids⟩))
abbrev av (p:List Nat):Kont:=.c (cat Try.f22 p)
abbrev k22_6 (M:Nat→Prop) (w0:Base) (r:aa) (m6:Nat):Kont:=kl (cI M w0) (q22 M w0 r) [.b 11,av jn] (cat Try.f22 p22_1) m6
abbrev c9 (M:Nat→Prop) (w0:Base) (r:aa) (m4:Nat):Kont:=kl (cI M w0) (q22 M w0 r) [.b 6,av cL] (cat Try.f22 p22_3) m4
abbrev k22_3 (M:Nat→Prop) (w0:Base) (r:aa) (m3:Nat):Kont:=kl (cI M w0) (q22 M w0 r) [.b 4,av gi] (cat Try.f22 p22_5) m3
abbrev jd (M:Nat→Prop) (w0:Base) (r:aa) (m2:Nat):Kont:=kl (cI M w0) (q22 M w0 r) [.b 2,av gb] (cat Try.f22 p22_7) m2
abbrev iw (M:Nat→Prop) (w0:Base) (r:aa) (m1:Nat):Kont:=kl (cI M w0) (q22 M w0 r) [.b 0,av eE] (cat Try.f22 p22_9) m1
abbrev k22_5 (M:Nat→Prop) (w0:Base) (r:aa) (m4 m5:Nat):Kont:=kl (cI M w0) (q22 M w0 r) [.b 9,av kS,.b 7,av dr,c9 M w0 r m4,.b 6,av cL] (cat Try.f22 p22_12) m5
def s22_j3 (v1:ab) (v2:Int) (v4:bj) (v5:Int×Int) (v11:Int) (v25:List Int) (v26:List (aa×Option (List aa))) (v37:Int) (v41:List ae) (v42:List Int):AS:=⟨[(1,iI v2),(3,.ptr 3 0),(6,.ptr 6 0),(7,.ptr 7 0),(12,iI (max v11 v5.1)),(14,.ref 1084),(15,.ref 500015),(16,.sl (lm (eInt .i64) v25)),(22,.ref 1131),(133,.sl (lm aw v4.rows)),(134,iI (v4.rows.length:Int)),(135,iI v37)],[(3,aH v1),(6,List.set (aC aX) 66 (.nils)),(7,dd v4)],[(1084,⟨30,4,lm aB v41⟩),(1131,⟨3,1,lm (eInt .i64) v42⟩),(500015,⟨61,67,lm (encN am 66 61 67 am) v26⟩)],[3,6,7,1084,1131,500015]⟩
def s22_j8 (v1:ab) (v2:Int) (v5:Int×Int) (v11:Int) (v25:List Int) (v26:List (aa×Option (List aa))) (v38:List ae) (v43:List Int) (v46 v94:Int) (v102 v110:List (aa×Option (List aa))):AS:=⟨[(1,iI v2),(3,.ptr 3 0),(6,.ptr 6 0),(12,iI (max v11 v5.1)),(14,.sl (lm aB v38)),(16,.sl (lm (eInt .i64) v25)),(27,.sl (lm (eInt .i64) v43)),(28,.ptr 28 0),(29,iI v46),(200,.ref 500015),(201,iI (v26.length:Int)),(202,iI v94)],[(3,aH v1),(6,List.set (aC aX) 66 (.nils)),(28,List.set (aC ({ aX with Kind:=1,Node:=v1.Node,Style:=v1.Style }:aa)) 66 (.ref 500028))],[(500015,⟨61,67,lm (encN am 66 61 67 am) v102⟩),(500028,⟨61,67,lm (encN am 66 61 67 am) v110⟩)],[3,6,28,500015,500028]⟩
def s22_l7 (v1:ab) (v2:Int) (v5:Int×Int) (v11:Int) (v25:List Int) (v26:List (aa×Option (List aa))) (v38:List ae) (v43:List Int) (v46 v94:Int) (v95 v96:List (aa×Option (List aa))) (v97:List aa) (v98:aG) (v99 v100:aA) (v101:Bool) (v102:List (aa×Option (List aa))) (v103 v105 v106:Int) (v107:List aa):AS:=⟨[(1,iI v2),(3,.ptr 3 0),(6,.ptr 6 0),(12,iI (max v11 v5.1)),(14,.sl (lm aB v38)),(16,.sl (lm (eInt .i64) v25)),(27,.sl (lm (eInt .i64) v43)),(28,.ptr 28 0),(29,iI v46),(33,.ptr 33 0),(34,.ptr 34 0),(36,iI v105),(200,.ref 500015),(201,iI (v26.length:Int)),(202,iI v94),(242,iI (v97.length:Int)),(243,iI v106)],[(3,aH v1),(6,List.set (aC aX) 66 (.nils)),(28,List.set (aC ({ aX with Kind:=1,Node:=v1.Node,Style:=v1.Style }:aa)) 66 (.ref 500028)),(33,List.set (aC ({ ((gD v95 v94).1) with H:=v103,Style:=v98,Before:=v99,After:=v100,Empty:=v101,Kids:=[] }:aa)) 66 (.ref 420206)),(34,aB (gD v38 v94))],[(420206,⟨61,67,lm am v107⟩),(500015,⟨61,67,lm (encN am 66 61 67 am) v102⟩),(500028,⟨61,67,lm (encN am 66 61 67 am) v96⟩)],[3,6,28,33,34,420206,500015,500028]⟩
def s22_j6 (v1:ab) (v2:Int) (v5:Int×Int) (v11:Int) (v25:List Int) (v26:List (aa×Option (List aa))) (v38:List ae) (v43:List Int) (v46 v94:Int) (v95 v96:List (aa×Option (List aa))) (v97:List aa) (v98:aG) (v99 v100:aA) (v101:Bool) (v102:List (aa×Option (List aa))) (v103 v105:Int):AS:=⟨[(1,iI v2),(3,.ptr 3 0),(6,.ptr 6 0),(12,iI (max v11 v5.1)),(14,.sl (lm aB v38)),(16,.sl (lm (eInt .i64) v25)),(27,.sl (lm (eInt .i64) v43)),(28,.ptr 28 0),(29,iI v46),(33,.ptr 33 0),(34,.ptr 34 0),(36,iI v105),(200,.ref 500015),(201,iI (v26.length:Int)),(202,iI v94)],[(3,aH v1),(6,List.set (aC aX) 66 (.nils)),(28,List.set (aC ({ aX with Kind:=1,Node:=v1.Node,Style:=v1.Style }:aa)) 66 (.ref 500028)),(33,List.set (aC ({ ((gD v95 v94).1) with H:=v103,Style:=v98,Before:=v99,After:=v100,Empty:=v101,Kids:=[] }:aa)) 66 (.ref 420206)),(34,aB (gD v38 v94))],[(420206,⟨61,67,lm am v97⟩),(500015,⟨61,67,lm (encN am 66 61 67 am) v102⟩),(500028,⟨61,67,lm (encN am 66 61 67 am) v96⟩)],[3,6,28,33,34,420206,500015,500028]⟩
def s22_l11 (v1:ab) (v96:List (aa×Option (List aa))) (v111:aS) (v113:Int) (v114 v115:aA) (v116 v117 v119:Int) (v120:List (aa×Option (List aa))):AS:=⟨[(6,.ptr 6 0),(28,.ptr 28 0),(39,.ptr 39 0),(353,iI (v96.length:Int)),(354,iI v119)],[(6,List.set (aC aX) 66 (.nils)),(28,List.set (aC (⟨1,v1.Node,v111.Margin.a3,0,v116,(w64 (v113+v117)),0,⟨#[]⟩,v1.Style,v114,v115,false,[]⟩:aa)) 66 (.ref 500028)),(39,bE v111)],[(500028,⟨61,67,lm (encN am 66 61 67 am) v120⟩)],[6,28,39,500028]⟩
def s22_j10 (v1:ab) (v96:List (aa×Option (List aa))) (v111:aS) (v113:Int):AS:=⟨[(6,.ptr 6 0),(28,.ptr 28 0),(29,iI v113),(39,.ptr 39 0)],[(6,List.set (aC aX) 66 (.nils)),(28,List.set (aC ({ aX with Kind:=1,Node:=v1.Node,Style:=v1.Style }:aa)) 66 (.ref 500028)),(39,bE v111)],[(500028,⟨61,67,lm (encN am 66 61 67 am) v96⟩)],[6,28,39,500028]⟩
def s22_l9 (v1:ab) (v2:Int) (v5:Int×Int) (v11:Int) (v25:List Int) (v26:List (aa×Option (List aa))) (v38:List ae) (v43:List Int) (v46 v94:Int) (v95 v96:List (aa×Option (List aa))):AS:=⟨[(1,iI v2),(3,.ptr 3 0),(6,.ptr 6 0),(12,iI (max v11 v5.1)),(14,.sl (lm aB v38)),(16,.sl (lm (eInt .i64) v25)),(27,.sl (lm (eInt .i64) v43)),(28,.ptr 28 0),(29,iI v46),(200,.ref 500015),(201,iI (v26.length:Int)),(202,iI v94)],[(3,aH v1),(6,List.set (aC aX) 66 (.nils)),(28,List.set (aC ({ aX with Kind:=1,Node:=v1.Node,Style:=v1.Style }:aa)) 66 (.ref 500028))],[(500015,⟨61,67,lm (encN am 66 61 67 am) v95⟩),(500028,⟨61,67,lm (encN am 66 61 67 am) v96⟩)],[3,6,28,500015,500028]⟩
def s22_l5 (v1:ab) (v2:Int) (v4:bj) (v5:Int×Int) (v11:Int) (v25:List Int) (v26:List (aa×Option (List aa))) (v38:List ae) (v43:List Int) (v46 v47:Int) (v48:List (aa×Option (List aa))):AS:=⟨[(1,iI v2),(3,.ptr 3 0),(6,.ptr 6 0),(12,iI (max v11 v5.1)),(14,.sl (lm aB v38)),(15,.ref 500015),(16,.sl (lm (eInt .i64) v25)),(27,.ref 1163),(28,.ptr 28 0),(29,iI v46),(170,.sl (lm aw v4.rows)),(171,iI (v4.rows.length:Int)),(172,iI v47)],[(3,aH v1),(6,List.set (aC aX) 66 (.nils)),(28,List.set (aC ({ aX with Kind:=1,Node:=v1.Node,Style:=v1.Style }:aa)) 66 (.ref 500028))],[(1163,⟨3,1,lm (eInt .i64) v43⟩),(500015,⟨61,67,lm (encN am 66 61 67 am) v26⟩),(500028,⟨61,67,lm (encN am 66 61 67 am) v48⟩)],[3,6,28,1163,500015,500028]⟩
def s22_l4 (v1:ab) (v2:Int) (v4:bj) (v5:Int×Int) (v11:Int) (v25:List Int) (v26:List (aa×Option (List aa))) (v37:Int) (v38:List ae) (v39:List Int):AS:=⟨[(1,iI v2),(3,.ptr 3 0),(6,.ptr 6 0),(7,.ptr 7 0),(12,iI (max v11 v5.1)),(14,.ref 1084),(15,.ref 500015),(16,.sl (lm (eInt .i64) v25)),(22,.ref 1131),(133,.sl (lm aw v4.rows)),(134,iI (v4.rows.length:Int)),(135,iI v37)],[(3,aH v1),(6,List.set (aC aX) 66 (.nils)),(7,dd v4)],[(1084,⟨30,4,lm aB v38⟩),(1131,⟨3,1,lm (eInt .i64) v39⟩),(500015,⟨61,67,lm (encN am 66 61 67 am) v26⟩)],[3,6,7,1084,1131,500015]⟩
def s22_l2 (v1:ab) (v2:Int) (v3:bv) (v4:bj) (v5:Int×Int) (v11:Int) (v12:List Int) (v13:List ae) (v24:Int) (v25:List Int) (v26:List (aa×Option (List aa))):AS:=⟨[(1,iI v2),(3,.ptr 3 0),(5,.ptr 5 0),(6,.ptr 6 0),(7,.ptr 7 0),(12,iI (max v11 v5.1)),(13,.sl (lm (eInt .i64) v12)),(14,.ref 1084),(15,.ref 500015),(16,.ref 128),(86,.sl (lm aw v4.cells)),(87,iI (v4.cells.length:Int)),(88,iI v24)],[(3,aH v1),(5,cf v3),(6,List.set (aC aX) 66 (.nils)),(7,dd v4)],[(128,⟨3,1,lm (eInt .i64) v25⟩),(1084,⟨30,4,lm aB v13⟩),(500015,⟨61,67,lm (encN am 66 61 67 am) v26⟩)],[3,5,6,7,128,1084,500015]⟩
def s22_j1 (v1:ab) (v2:Int) (v3:bv) (v4:bj) (v5:Int×Int) (v10:Int):AS:=⟨[(1,iI v2),(3,.ptr 3 0),(5,.ptr 5 0),(6,.ptr 6 0),(7,.ptr 7 0),(8,iI v5.1),(10,iI v10)],[(3,aH v1),(5,cf v3),(6,List.set (aC aX) 66 (.nils)),(7,dd v4)],[],[3,5,6,7]⟩
abbrev H22_1 (M:Nat→Prop) (w0:Base) (r:aa) (v1:ab) (v2:Int) (v3:bv) (v4:bj) (v5:Int×Int) (v11:Int) (v12:List Int) (v13:List ae) (m1:Nat) (L1:Int→(List Int)→(List (aa×Option (List aa)))→Option aa):Prop:=∀ {v24:Int} {v25:(List Int)} {v26:(List (aa×Option (List aa)))},L1 v24 v25 v26=some r→LP (cI M w0) (q22 M w0 r) [.b 0,av eE] (cat Try.f22 p22_9) m1 (s22_l2 v1 v2 v3 v4 v5 v11 v12 v13 v24 v25 v26)
abbrev H22_2 (M:Nat→Prop) (w0:Base) (r:aa) (v1:ab) (v2:Int) (v4:bj) (v5:Int×Int) (v11:Int) (v25:List Int) (v26:List (aa×Option (List aa))) (m2:Nat) (L2:Int→(List ae)→(List Int)→Option aa):Prop:=∀ {v37:Int} {v38:(List ae)} {v39:(List Int)},L2 v37 v38 v39=some r→LP (cI M w0) (q22 M w0 r) [.b 2,av gb] (cat Try.f22 p22_7) m2 (s22_l4 v1 v2 v4 v5 v11 v25 v26 v37 v38 v39)
abbrev H22_3 (M:Nat→Prop) (w0:Base) (r:aa) (v1:ab) (v2:Int) (v4:bj) (v5:Int×Int) (v11:Int) (v25:List Int) (v26:List (aa×Option (List aa))) (v38:List ae) (v43:List Int) (m3:Nat) (L3:Int→Int→(List (aa×Option (List aa)))→Option aa):Prop:=∀ {v46:Int} {v47:Int} {v48:(List (aa×Option (List aa)))},L3 v46 v47 v48=some r→LP (cI M w0) (q22 M w0 r) [.b 4,av gi] (cat Try.f22 p22_5) m3 (s22_l5 v1 v2 v4 v5 v11 v25 v26 v38 v43 v46 v47 v48)
abbrev mC (M:Nat→Prop) (w0:Base) (r:aa) (v1:ab) (v2:Int) (v5:Int×Int) (v11:Int) (v25:List Int) (v26:List (aa×Option (List aa))) (v38:List ae) (v43:List Int) (v46:Int) (m4:Nat) (L4:Int→(List (aa×Option (List aa)))→(List (aa×Option (List aa)))→Option aa):Prop:=∀ {v94:Int} {v95:(List (aa×Option (List aa)))} {v96:(List (aa×Option (List aa)))},L4 v94 v95 v96=some r→LP (cI M w0) (q22 M w0 r) [.b 6,av cL] (cat Try.f22 p22_3) m4 (s22_l9 v1 v2 v5 v11 v25 v26 v38 v43 v46 v94 v95 v96)
abbrev H22_5 (M:Nat→Prop) (w0:Base) (r:aa) (v1:ab) (v2:Int) (v5:Int×Int) (v11:Int) (v25:List Int) (v26:List (aa×Option (List aa))) (v38:List ae) (v43:List Int) (v46 v94:Int) (v95 v96:List (aa×Option (List aa))) (v97:List aa) (v98:aG) (v99 v100:aA) (v101:Bool) (v102:List (aa×Option (List aa))) (v103 v105:Int) (m4 m5:Nat) (L5:Int→(List aa)→Option aa):Prop:=∀ {v106:Int} {v107:(List aa)},L5 v106 v107=some r→LP (cI M w0) (q22 M w0 r) [.b 9,av kS,.b 7,av dr,c9 M w0 r m4,.b 6,av cL] (cat Try.f22 p22_12) m5 (s22_l7 v1 v2 v5 v11 v25 v26 v38 v43 v46 v94 v95 v96 v97 v98 v99 v100 v101 v102 v103 v105 v106 v107)
abbrev H22_6 (M:Nat→Prop) (w0:Base) (r:aa) (v1:ab) (v96:List (aa×Option (List aa))) (v111:aS) (v113:Int) (v114 v115:aA) (v116 v117:Int) (m6:Nat) (L6:Int→(List (aa×Option (List aa)))→Option aa):Prop:=∀ {v119:Int} {v120:(List (aa×Option (List aa)))},L6 v119 v120=some r→LP (cI M w0) (q22 M w0 r) [.b 11,av jn] (cat Try.f22 p22_1) m6 (s22_l11 v1 v96 v111 v113 v114 v115 v116 v117 v119 v120)
variable {K:Kn} {n:Nat} {M:Nat→Prop} {w0:Base} {r:aa} {v1:ab} {v2:Int} {v3:bv} {v4:bj} {v5:Int×Int} {v10 v11:Int} {v12:List Int} {v13:List ae} {v24:Int} {v25:List Int} {v26:List (aa×Option (List aa))} {v37:Int} {v38:List ae} {v39:List Int} {v41:List ae} {v42 v43:List Int} {v46 v47:Int} {v48:List (aa×Option (List aa))} {v94:Int} {v95 v96:List (aa×Option (List aa))} {v97:List aa} {v98:aG} {v99 v100:aA} {v101:Bool} {v102:List (aa×Option (List aa))} {v103 v105 v106:Int} {v107:List aa} {v110:List (aa×Option (List aa))} {v111:aS} {v113:Int} {v114 v115:aA} {v116 v117 v119:Int} {v120:List (aa×Option (List aa))} {m1:Nat} {L1:Int→(List Int)→(List (aa×Option (List aa)))→Option aa} {m2:Nat} {L2:Int→(List ae)→(List Int)→Option aa} {m3:Nat} {L3:Int→Int→(List (aa×Option (List aa)))→Option aa} {m4:Nat} {L4:Int→(List (aa×Option (List aa)))→(List (aa×Option (List aa)))→Option aa} {m5:Nat} {L5:Int→(List aa)→Option aa} {m6:Nat} {L6:Int→(List (aa×Option (List aa)))→Option aa}
theorem um (hK:KnOk K) (hL2:H22_2 M w0 r v1 v2 v4 v5 v11 v25 v26 m2 L2) (h:o6 K n v1 v2 v4 v5 v11 v25 v26 v37 L2 v41 v42=some r):VE (cI M w0) (q22 M w0 r) [.b 3,av nF,jd M w0 r m2,.b 2,av gb] .normal (s22_j3 v1 v2 v4 v5 v11 v25 v26 v37 v41 v42):=by
  unfold o6 at h
  exact ah 2 (aW (hL2 h))
theorem tR (hK:KnOk K) (hL4:mC M w0 r v1 v2 v5 v11 v25 v26 v38 v43 v46 m4 L4) (h:px K n v1 v2 v5 v11 v25 v26 v38 v43 v46 v94 v102 L4 v110=some r):VE (cI M w0) (q22 M w0 r) [av dr,c9 M w0 r m4,.b 6,av cL] .normal (s22_j8 v1 v2 v5 v11 v25 v26 v38 v43 v46 v94 v102 v110):=by
  unfold px at h
  exact ah 1 (aW (hL4 h))
theorem uA (hK:KnOk K) (hL4:mC M w0 r v1 v2 v5 v11 v25 v26 v38 v43 v46 m4 L4) (hL5:H22_5 M w0 r v1 v2 v5 v11 v25 v26 v38 v43 v46 v94 v95 v96 v97 v98 v99 v100 v101 v102 v103 v105 m4 m5 L5) (h:oe K n v1 v2 v5 v11 v25 v26 v38 v43 v46 v94 v95 v96 v97 v98 v99 v100 v101 v102 v103 v105 L4 L5 v106 v107=some r):VE (cI M w0) (q22 M w0 r) [av p22_12,k22_5 M w0 r m4 m5,.b 9,av kS,.b 7,av dr,c9 M w0 r m4,.b 6,av cL] .normal (s22_l7 v1 v2 v5 v11 v25 v26 v38 v43 v46 v94 v95 v96 v97 v98 v99 v100 v101 v102 v103 v105 v106 v107):=by
  unfold oe at h
  refine ac (ks':=[av p22_14,av p22_15,k22_5 M w0 r m4 m5,.b 9,av kS,.b 7,av dr,c9 M w0 r m4,.b 6,av cL]) 3 ?_
  rcases aq h with ⟨h175,h⟩ | ⟨h175,h⟩
  ·
   refine aj 244 h175 (ac (ks':=[av p22_16,.b 10,av p22_17,k22_5 M w0 r m4 m5,.b 9,av kS,.b 7,av dr,c9 M w0 r m4,.b 6,av cL]) 6 (ai 3 ?_))
   obtain ⟨h176,h⟩:=au h
   refine ap (bJ 420206 67 am h176) (aM 5 1 (ap (bk 3 3 am aC (aI h176).2 (cj)) (aM 8 2 ?_)))
   obtain ⟨h177,h⟩:=au h
   exact ap (bJ 420206 67 am h177) (aM 10 1 (ap (cm 420206 61 67 3 am aC ({ (gD v107 v106) with Y:=(w64 (((gD v107 v106).Y)+v105)) }:aa) (aI h177).2 (cj)) (ag (ah 2 (aW (hL5 h))))))
  ·
   refine aj 244 h175 (ac (ks':=[av p22_18,av p22_19,.b 7,av dr,c9 M w0 r m4,.b 6,av cL]) 6 (br [1,3,6,12,14,16,27,28,29,33,34,200,201,202] [3,6,28,33,34] [420206,500015,500028] ?_))
   refine ve_two ?_ ?_
   ·
    have h:=oL rfl h
    obtain ⟨h178,h⟩:=au h
    obtain ⟨v108,h179,h⟩:=bind_some h
    refine ac (ks':=[av p22_20,av p22_21,.b 7,av dr,c9 M w0 r m4,.b 6,av cL]) 2 (br [1,3,6,12,14,16,27,28,29,33,34,200,201,202,258] [3,6,28,33,34] [420206,500015,500028] ?_)
    refine pV 500028 430258 258 28 66 61 67 66 61 67 am am v96 ((gD v38 v94).Row).toNat v108 (.bool true) (aI h178).2 h179 cX (fun x15=>?_)
    obtain ⟨h180,h⟩:=au h
    refine ve_tl 10 0 [(259,.ptr 28 66),(260,.ref 500028),(261,.ptr 34 0),(262,iI ((gD v38 v94).Row)),(263,.eptr 500028 67 (((gD v38 v94).Row).toNat) 0),(264,.eptr 500028 67 (((gD v38 v94).Row).toNat) 66),(265,.ref 430258),(266,.agg (List.set (aC ({ ((gD v95 v94).1) with H:=v103,Style:=v98,Before:=v99,After:=v100,Empty:=v101,Kids:=[] }:aa)) 66 (.ref 420206))),(267,iI (v108.length:Int)),(268,.sl (lm am [aX]))] [] [] [] (aD (vz 4) (d_v (ge 500028 67 ((gD v38 v94).Row).toNat 66 (encN am 66 61 67 am) (.vv x15) (L:=v96) (i:=((gD v38 v94).Row)) (by simpa only [List.length_set] using h180)) (aD [.v 0 1] (az (e_y 0 265 258 430258 (b:=⟨61,67,lm am v108⟩) (y_ldV 59 500028 67 66 61 67 am aC am x15 (L:=v96) (j:=((gD v38 v94).Row).toNat) (aI h180).2 cj)) (aD [.v 0 1] (d_v (bi am v108) (d_v (d7 am ([aX]:List aa) (new:=[aC aX]) (by simp only [List.map_cons,List.map_nil,cj])) (d_nz)))))))) ?_
    obtain ⟨h181,h⟩:=au h
    refine ap (co 269 430258 61 67 am (rfl) (cX) h181) ?_
    obtain ⟨h182,h⟩:=au h
    refine ap (ge 500028 67 ((gD v38 v94).Row).toNat 66 (encN am 66 61 67 am) (.vv x15) (L:=v96) (i:=((gD v38 v94).Row)) h182) (aM 13 1 ?_)
    refine m7 430258 258 (c0:=.any) (gj 269 0 (by kernel_rfl)) (fun x16=>?_)
    refine pr 269 258 (tid:=430258) (x:=x16) (c:=.ref 430258) (ap (y_stV 500028 61 67 66 61 67 am am (.vv x15) x16 (L:=v96) (j:=((gD v38 v94).Row).toNat) (aI h182).2 cX) (ot_frv 269 258 (tid:=430258) (x:=x16) (b:=⟨61,67,lm am (v108++[aX])⟩) (ag (ai 0 ?_))))
    obtain ⟨h183,h⟩:=au h
    exact ap (bJ 430258 67 am h183) (dG 420206 (ap (cm 430258 61 67 0 am aC ({ ((gD v95 v94).1) with H:=v103,Style:=v98,Before:=v99,After:=v100,Empty:=v101,Kids:=v107 }:aa) (aI h183).2 (cj)) (pU 500028 430258 258 28 66 61 67 66 61 67 am am v96 ((gD v38 v94).Row).toNat (List.set (v108++[aX]) ((v108.length:Int)).toNat ({ ((gD v95 v94).1) with H:=v103,Style:=v98,Before:=v99,After:=v100,Empty:=v101,Kids:=v107 }:aa)) x16 (aI h182).2 cX (ag (ah 1 (tR hK hL4 h))))))
   ·
    have h:=nl h
    obtain ⟨h184,h⟩:=au h
    obtain ⟨v109,h185,h⟩:=bind_some h
    refine ac (ks':=[av p22_22,.b 7,av dr,c9 M w0 r m4,.b 6,av cL]) 1 (br [1,3,6,12,14,16,27,28,29,33,34,200,201,202,258] [3,6,28,33,34] [420206,500015,500028] ?_)
    refine pV 500028 430258 258 28 66 61 67 66 61 67 am am v96 ((gD v38 v94).Row).toNat v109 (.bool false) (aI h184).2 h185 cX (fun x17=>?_)
    refine gE 420206 ?_
    obtain ⟨h187,h⟩:=au h
    obtain ⟨h188,h⟩:=au h
    refine ve_tl 14 1 [(273,.ptr 28 66),(274,.ref 500028),(275,.ptr 34 0),(276,iI ((gD v38 v94).Row)),(277,.ptr 28 66),(278,.ref 500028),(279,.ptr 34 0),(280,iI ((gD v38 v94).Row)),(281,.eptr 500028 67 (((gD v38 v94).Row).toNat) 0),(282,.eptr 500028 67 (((gD v38 v94).Row).toNat) 66),(283,.ref 430258),(284,.agg (aC ({ ((gD v95 v94).1) with H:=v103,Style:=v98,Before:=v99,After:=v100,Empty:=v101,Kids:=v107 }:aa))),(285,.sl (lm am [({ ((gD v95 v94).1) with H:=v103,Style:=v98,Before:=v99,After:=v100,Empty:=v101,Kids:=v107 }:aa)]))] [] [] [appS 286 430258 ⟨61,67,lm am (v109++[({ ((gD v95 v94).1) with H:=v103,Style:=v98,Before:=v99,After:=v100,Empty:=v101,Kids:=v107 }:aa)])⟩] (aD [.v 0 2,.v 0 2,.v 0 2,.v 0 2,.v 0 2,.v 0 2,.v 0 2,.v 0 2] (az (k_v (lo:=0) (k:=2) (bR ⟨(by kernel_rfl),(bT (ge 500028 67 ((gD v38 v94).Row).toNat 66 (encN am 66 61 67 am) (.vv x17) (L:=v96) (i:=((gD v38 v94).Row)) (by simpa only [List.length_set] using h187)) (by kernel_rfl))⟩ (bR ⟨(by kernel_rfl),(bT (ge 500028 67 ((gD v38 v94).Row).toNat 66 (encN am 66 61 67 am) (.vv x17) (L:=v96) (i:=((gD v38 v94).Row)) (by simpa only [List.length_set] using h187)) (by kernel_rfl))⟩ cT))) (aD [.v 0 2] (az (e_y 0 283 258 430258 (b:=⟨61,67,lm am v109⟩) (y_ldV 59 500028 67 66 61 67 am aC am x17 (L:=v96) (j:=((gD v38 v94).Row).toNat) (aI h187).2 cj)) (aD [.v 0 2] (d_v (d7 am ([({ ((gD v95 v94).1) with H:=v103,Style:=v98,Before:=v99,After:=v100,Empty:=v101,Kids:=v107 }:aa)]:List aa) (new:=[aC ({ ((gD v95 v94).1) with H:=v103,Style:=v98,Before:=v99,After:=v100,Empty:=v101,Kids:=v107 }:aa)]) (by simp only [List.map_cons,List.map_nil,cj])) (az (e_s (m:=0) (co 286 430258 61 67 am (rfl) (cX) h188)) (d_nz)))))))) ?_
    obtain ⟨h189,h⟩:=au h
    refine ap (ge 500028 67 ((gD v38 v94).Row).toNat 66 (encN am 66 61 67 am) (.vv x17) (L:=v96) (i:=((gD v38 v94).Row)) h189) (aM 16 1 ?_)
    refine m7 430258 258 (c0:=.any) (gj 286 0 (by kernel_rfl)) (fun x18=>?_)
    exact pr 286 258 (tid:=430258) (x:=x18) (c:=.ref 430258) (ap (y_stV 500028 61 67 66 61 67 am am (.vv x17) x18 (L:=v96) (j:=((gD v38 v94).Row).toNat) (aI h189).2 cX) (ot_frv 286 258 (tid:=430258) (x:=x18) (b:=⟨61,67,lm am (v109++[({ ((gD v95 v94).1) with H:=v103,Style:=v98,Before:=v99,After:=v100,Empty:=v101,Kids:=v107 }:aa)])⟩) (pU 500028 430258 258 28 66 61 67 66 61 67 am am v96 ((gD v38 v94).Row).toNat (v109++[({ ((gD v95 v94).1) with H:=v103,Style:=v98,Before:=v99,After:=v100,Empty:=v101,Kids:=v107 }:aa)]) x18 (aI h189).2 cX (ag (ah 1 (tR hK hL4 h))))))
theorem uM (hK:KnOk K) (hL4:mC M w0 r v1 v2 v5 v11 v25 v26 v38 v43 v46 m4 L4) (m:Nat):H22_5 M w0 r v1 v2 v5 v11 v25 v26 v38 v43 v46 v94 v95 v96 v97 v98 v99 v100 v101 v102 v103 v105 m4 m (mo K n v1 v2 v5 v11 v25 v26 v38 v43 v46 v94 v95 v96 v97 v98 v99 v100 v101 v102 v103 v105 L4 m):=by
  induction m with
 | zero=>intro v106 v107 h; cases h
 | succ m ih=>intro v106 v107 h; have h:oe K n v1 v2 v5 v11 v25 v26 v38 v43 v46 v94 v95 v96 v97 v98 v99 v100 v101 v102 v103 v105 L4 (mo K n v1 v2 v5 v11 v25 v26 v38 v43 v46 v94 v95 v96 v97 v98 v99 v100 v101 v102 v103 v105 L4 m) v106 v107=some r:=h; exact aV (uA hK hL4 ih h)
theorem rF (hK:KnOk K) (hL4:mC M w0 r v1 v2 v5 v11 v25 v26 v38 v43 v46 m4 L4) (h:jE K n v1 v2 v5 v11 v25 v26 v38 v43 v46 v94 v95 v96 v97 v98 v99 v100 v101 v102 v103 L4 v105=some r):VE (cI M w0) (q22 M w0 r) [.b 8,av p22_23,.b 7,av dr,c9 M w0 r m4,.b 6,av cL] .normal (s22_j6 v1 v2 v5 v11 v25 v26 v38 v43 v46 v94 v95 v96 v97 v98 v99 v100 v101 v102 v103 v105):=by
  unfold jE at h
  exact ac (ks':=[av p22_24,av p22_25,av kS,.b 7,av dr,c9 M w0 r m4,.b 6,av cL]) 3 (ai 2 (ap (bi am v97) (ag (ah 1 (bw (p:=p22_26) n (uM hK hL4 n h))))))
theorem wP (hK:KnOk K) (hL6:H22_6 M w0 r v1 v96 v111 v113 v114 v115 v116 v117 m6 L6) (h:oP K n v1 v96 v111 v113 v114 v115 v116 v117 L6 v119 v120=some r):VE (cI M w0) (q22 M w0 r) [av p22_1,k22_6 M w0 r m6,.b 11,av jn] .normal (s22_l11 v1 v96 v111 v113 v114 v115 v116 v117 v119 v120):=by
  unfold oP at h
  refine ac (ks':=[av p22_27,av p22_28,k22_6 M w0 r m6,.b 11,av jn]) 3 ?_
  rcases aq h with ⟨h203,h⟩ | ⟨h203,h⟩
  ·
   refine aj 355 h203 (ac (ks':=[av p22_29,av p22_30,.b 12,av p22_31,k22_6 M w0 r m6,.b 11,av jn]) 7 (br [6,28,39,42,353,354] [6,28,39] [500028] ?_))
   obtain ⟨h204,h⟩:=au h
   obtain ⟨h205,h⟩:=au h
   refine bH 1 (nu 357 [.ptr 28 66,.ref 500028,iI v119,.eptr 500028 67 (v119.toNat) 0,.eptr 500028 67 (v119.toNat) 2,iI (((gD v120 v119).1).X),.ptr 39 4,.ptr 39 7,iI v111.Border.a3,.ptr 39 8,.ptr 39 11,iI v111.Padding.a3,iI (w64 (v111.Border.a3+v111.Padding.a3)),iI (w64 ((((gD v120 v119).1).X)+(w64 (v111.Border.a3+v111.Padding.a3)))),.eptr 500028 67 (v119.toNat) 0,.eptr 500028 67 (v119.toNat) 2]) [] [] [strS 500028 ⟨61,67,lm (encN am 66 61 67 am) (List.set v120 v119.toNat (({ ((gD v120 v119).1) with X:=(w64 ((((gD v120 v119).1).X)+(w64 (v111.Border.a3+v111.Padding.a3)))) }:aa),(gD v120 v119).2))⟩] (aD (vz 3) (d_v (bu 500028 67 (encN am 66 61 67 am) (L:=v120) h204) (aD [.v 0 1] (d_v (y_ldN 3 500028 67 2 66 61 67 am aC am (L:=v120) (j:=v119.toNat) (aI h205).2 cj) (aD (vz 8) (az (k_v (lo:=0) (k:=2) (bR ⟨(by kernel_rfl),(bT (bu 500028 67 (encN am 66 61 67 am) (L:=v120) h205) (by kernel_rfl))⟩ (bR ⟨(by kernel_rfl),(bT (bu 500028 67 (encN am 66 61 67 am) (L:=(List.set v120 v119.toNat (({ ((gD v120 v119).1) with X:=(w64 ((((gD v120 v119).1).X)+(w64 (v111.Border.a3+v111.Padding.a3)))) }:aa),(gD v120 v119).2))) h205) (by kernel_rfl))⟩ cT))) (aD [.v 0 1] (az (e_s (m:=0) (y_stN 500028 61 67 2 66 61 67 am aC am (L:=v120) (j:=v119.toNat) ({ ((gD v120 v119).1) with X:=(w64 ((((gD v120 v119).1).X)+(w64 (v111.Border.a3+v111.Padding.a3)))) }:aa) (aI h205).2 cj)) bI)))))))) ?_
   obtain ⟨v121,h206,h⟩:=bind_some h
   have h206:=Option.some.inj h206
   refine bo (ks':=[av p22_30,.b 12,av p22_31,k22_6 M w0 r m6,.b 11,av jn]) 0 ⟨[(6,.ptr 6 0),(28,.ptr 28 0),(39,.ptr 39 0),(42,iI v119),(353,iI (v96.length:Int)),(354,iI v119)],[(6,List.set (aC aX) 66 (.nils)),(28,List.set (aC (⟨1,v1.Node,v111.Margin.a3,0,v116,(w64 (v113+v117)),0,⟨#[]⟩,v1.Style,v114,v115,false,[]⟩:aa)) 66 (.ref 500028)),(39,bE v111)],[(500028,⟨61,67,lm (encN am 66 61 67 am) v121⟩)],[6,28,39,500028]⟩ ?_ (by subst h206; kernel_rfl)
   obtain ⟨h207,h⟩:=au h
   obtain ⟨h208,h⟩:=au h
   exact bH 1 (nu 373 [.ptr 28 66,.ref 500028,iI v119,.eptr 500028 67 (v119.toNat) 0,.eptr 500028 67 (v119.toNat) 3,iI (((gD v121 v119).1).Y),.ptr 39 4,.ptr 39 4,iI v111.Border.a0,.ptr 39 8,.ptr 39 8,iI v111.Padding.a0,iI (w64 (v111.Border.a0+v111.Padding.a0)),iI (w64 ((((gD v121 v119).1).Y)+(w64 (v111.Border.a0+v111.Padding.a0)))),.eptr 500028 67 (v119.toNat) 0,.eptr 500028 67 (v119.toNat) 3]) [] [] [strS 500028 ⟨61,67,lm (encN am 66 61 67 am) (List.set v121 v119.toNat (({ ((gD v121 v119).1) with Y:=(w64 ((((gD v121 v119).1).Y)+(w64 (v111.Border.a0+v111.Padding.a0)))) }:aa),(gD v121 v119).2))⟩] (aD (vz 3) (d_v (bu 500028 67 (encN am 66 61 67 am) (L:=v121) h207) (aD [.v 0 1] (d_v (y_ldN 3 500028 67 3 66 61 67 am aC am (L:=v121) (j:=v119.toNat) (aI h208).2 cj) (aD (vz 8) (az (k_v (lo:=0) (k:=2) (bR ⟨(by kernel_rfl),(bT (bu 500028 67 (encN am 66 61 67 am) (L:=v121) h208) (by kernel_rfl))⟩ (bR ⟨(by kernel_rfl),(bT (bu 500028 67 (encN am 66 61 67 am) (L:=(List.set v121 v119.toNat (({ ((gD v121 v119).1) with Y:=(w64 ((((gD v121 v119).1).Y)+(w64 (v111.Border.a0+v111.Padding.a0)))) }:aa),(gD v121 v119).2))) h208) (by kernel_rfl))⟩ cT))) (aD [.v 0 1] (az (e_s (m:=0) (y_stN 500028 61 67 3 66 61 67 am aC am (L:=v121) (j:=v119.toNat) ({ ((gD v121 v119).1) with Y:=(w64 ((((gD v121 v119).1).Y)+(w64 (v111.Border.a0+v111.Padding.a0)))) }:aa) (aI h208).2 cj)) bI)))))))) (ah 2 (aW (hL6 h)))
  ·
   refine aj 355 h203 ?_
   obtain ⟨h209,h⟩:=au h
   refine aQ 8 (ve_sealN 500028 440028 61 67 66 61 67 am am v120 uTBlockFragment wq vR xi h209 ?_)
   cases h
   exact cK
theorem vf (hK:KnOk K) (m:Nat):H22_6 M w0 r v1 v96 v111 v113 v114 v115 v116 v117 m (lF K n v1 v96 v111 v113 v114 v115 v116 v117 m):=by
  induction m with
 | zero=>intro v119 v120 h; cases h
 | succ m ih=>intro v119 v120 h; have h:oP K n v1 v96 v111 v113 v114 v115 v116 v117 (lF K n v1 v96 v111 v113 v114 v115 v116 v117 m) v119 v120=some r:=h; exact aV (wP hK ih h)
theorem tN (hK:KnOk K) (h:ia K n v1 v96 v111 v113=some r):VE (cI M w0) (q22 M w0 r) [av p22_32] .normal (s22_j10 v1 v96 v111 v113):=by
  unfold ia at h
  refine ac (ks':=[av p22_33,av p22_34]) 3 (br [6,28,29,39] [6,28,39] [500028] ?_)
  obtain ⟨v114,h193,h⟩:=bind_some h
  obtain ⟨v115,h194,h⟩:=bind_some h
  refine bH 2 (nu 317 [.ptr 39 0,.ptr 39 0,iI v111.Margin.a0,.agg (bS v114),.ptr 39 0,.ptr 39 2,iI v111.Margin.a2,.agg (bS v115),.ptr 28 61,.ptr 28 63]) [] [] [stp Try.prog 391 Try.f22 p22_33 9,stp Try.prog 391 Try.f22 p22_33 11] (aD (vz 3) (az (e_c 0 1 320 (qG hK h193)) (aD [.v 0 2,.v 0 2,.v 0 2] (az (e_c 0 1 324 (qG hK h194)) (aD [.v 0 1] (az (e_d 0) (aD [.v 1 1] (az (e_d 1) bI)))))))) ?_
  obtain ⟨v116,h195,h⟩:=bind_some h
  have h195:=Option.some.inj h195
  refine bo (ks':=[av p22_35,av p22_36]) 3 ⟨[(6,.ptr 6 0),(28,.ptr 28 0),(29,iI v113),(39,.ptr 39 0)],[(6,List.set (aC aX) 66 (.nils)),(28,List.set (aC (⟨1,v1.Node,v111.Margin.a3,0,v116,0,0,⟨#[]⟩,v1.Style,v114,v115,false,[]⟩:aa)) 66 (.ref 500028)),(39,bE v111)],[(500028,⟨61,67,lm (encN am 66 61 67 am) v96⟩)],[6,28,39,500028]⟩ ?_ (by subst h195; kernel_rfl)
  refine ai 2 ?_
  obtain ⟨v117,h196,h⟩:=bind_some h
  exact aR (tG hK h196) (ag (ac (ks':=[av p22_37,av p22_38,av jn]) 2 (ai 2 (ap (bi (encN am 66 61 67 am) v96) (ag (ah 1 (bw (p:=p22_39) n (vf hK n h))))))))
theorem wy (hK:KnOk K) (hL4:mC M w0 r v1 v2 v5 v11 v25 v26 v38 v43 v46 m4 L4) (h:o5 K n v1 v2 v5 v11 v25 v26 v38 v43 v46 L4 v94 v95 v96=some r):VE (cI M w0) (q22 M w0 r) [av p22_3,c9 M w0 r m4,.b 6,av cL] .normal (s22_l9 v1 v2 v5 v11 v25 v26 v38 v43 v46 v94 v95 v96):=by
  unfold o5 at h
  refine ac (ks':=[av p22_40,av p22_41,c9 M w0 r m4,.b 6,av cL]) 3 ?_
  rcases aq h with ⟨h157,h⟩ | ⟨h157,h⟩
  ·
   refine aj 203 h157 (ac (ks':=[av p22_42,av p22_43,.b 7,av dr,c9 M w0 r m4,.b 6,av cL]) 5 (ai 1 ?_))
   obtain ⟨h158,h⟩:=au h
   refine ap (bJ 500015 67 (encN am 66 61 67 am) h158) ?_
   obtain ⟨v97,h159,h⟩:=bind_some h
   refine ot_outN 500015 420206 203 200 0 61 67 66 61 67 am am v95 v94.toNat v97 (.bool true) (aI h158).2 h159 cX (fun x14=>?_)
   refine ap (y_ldX 61 500015 67 0 66 61 67 am aC am x14 (.agg ((aC (gD v95 v94).1).set 66 (.vv x14))) (L:=v95) (j:=v94.toNat) (aI h158).2 cj) ?_
   refine ot_frva 206 66 203 (tid:=420206) (x:=x14) (b:=⟨61,67,lm am v97⟩) (cs:=(aC (gD v95 v94).1).set 66 (.vv x14)) ?_ (by kernel_rfl)
   refine ot_goneN 500015 61 67 66 61 67 am am v95 v94.toNat x14 (aI h158).2 cX (ag ?_)
   obtain ⟨v98,h160,h⟩:=bind_some h
   have h160:=Option.some.inj h160
   obtain ⟨v99,h161,h⟩:=bind_some h
   have h161:=Option.some.inj h161
   obtain ⟨v100,h162,h⟩:=bind_some h
   have h162:=Option.some.inj h162
   obtain ⟨v101,h163,h⟩:=bind_some h
   have h163:=Option.some.inj h163
   obtain ⟨v102,h164,h⟩:=bind_some h
   have h164:=Option.some.inj h164
   refine bo (ks':=[av p22_44,av p22_45,.b 7,av dr,c9 M w0 r m4,.b 6,av cL]) 1 ⟨[(1,iI v2),(3,.ptr 3 0),(6,.ptr 6 0),(12,iI (max v11 v5.1)),(14,.sl (lm aB v38)),(16,.sl (lm (eInt .i64) v25)),(27,.sl (lm (eInt .i64) v43)),(28,.ptr 28 0),(29,iI v46),(32,iI v94),(33,.ptr 33 0),(200,.ref 500015),(201,iI (v26.length:Int)),(202,iI v94)],[(3,aH v1),(6,List.set (aC aX) 66 (.nils)),(28,List.set (aC ({ aX with Kind:=1,Node:=v1.Node,Style:=v1.Style }:aa)) 66 (.ref 500028)),(33,List.set (aC ({ ((gD v95 v94).1) with Style:=v98,Before:=v99,After:=v100,Empty:=v101,Kids:=[] }:aa)) 66 (.ref 420206))],[(420206,⟨61,67,lm am v97⟩),(500015,⟨61,67,lm (encN am 66 61 67 am) v102⟩),(500028,⟨61,67,lm (encN am 66 61 67 am) v96⟩)],[3,6,28,33,420206,500015,500028]⟩ ?_ (by subst h164; subst h163; subst h162; subst h161; subst h160; kernel_rfl)
   refine ai 2 ?_
   obtain ⟨h165,h⟩:=au h
   refine ap (bL aB aB h165 (fz) (fun _=>rfl)) (ag (ac (ks':=[av p22_46,av p22_47,.b 7,av dr,c9 M w0 r m4,.b 6,av cL]) 1 (ai 8 ?_)))
   obtain ⟨h166,h⟩:=au h
   refine ap (g7 (eInt .i64) v43 ((gD v38 v94).Row) (w64 (((gD v38 v94).Row)+((gD v38 v94).Rows))) 33 (.tmp 211) (some (.tmp 213)) (some (.tmp 218)) 219 (e:=3) (sz:=1) (by kernel_rfl) (by kernel_rfl) (by kernel_rfl) (by kernel_rfl) (by kernel_rfl) (by kernel_rfl) (fun _=>rfl) (fun k hk=>by subst hk; kernel_rfl) h166) ?_
   obtain ⟨v103,h167,h⟩:=bind_some h
   refine aR (qS hK h167) (ag (ac (ks':=[av p22_48,av p22_49,.b 7,av dr,c9 M w0 r m4,.b 6,av cL]) 1 (br [1,3,6,12,14,16,27,28,29,32,33,34,200,201,202] [3,6,28,33,34] [420206,500015,500028] ?_)))
   obtain ⟨h168,h⟩:=au h
   refine bH 1 (nu 222 [.ptr 33 5,iI v103,.sl (lm (eInt .i64) v25),iI v94,.cptr ([iI (gD v25 v94)]),iI (gD v25 v94),iI (w64 (v103 - (gD v25 v94))),iI (max (w64 (v103 - (gD v25 v94))) 0)]) [] [] [stp Try.prog 391 Try.f22 p22_48 8] (aD (vz 4) (d_v (bL (eInt .i64) (eInt .i64) h168 (fun _=>rfl) (fun _=>rfl)) (aD (vz 3) (az (e_d 0) bI)))) ?_
   obtain ⟨v104,h169,h⟩:=bind_some h
   have h169:=Option.some.inj h169
   refine bo (ks':=[av p22_50,.b 8,av p22_23,.b 7,av dr,c9 M w0 r m4,.b 6,av cL]) 8 ⟨[(1,iI v2),(3,.ptr 3 0),(6,.ptr 6 0),(12,iI (max v11 v5.1)),(14,.sl (lm aB v38)),(16,.sl (lm (eInt .i64) v25)),(27,.sl (lm (eInt .i64) v43)),(28,.ptr 28 0),(29,iI v46),(33,.ptr 33 0),(34,.ptr 34 0),(35,iI v104),(36,iI 0),(200,.ref 500015),(201,iI (v26.length:Int)),(202,iI v94),(232,iI v98.VAlign),(233,.bool (v98.VAlign == 2))],[(3,aH v1),(6,List.set (aC aX) 66 (.nils)),(28,List.set (aC ({ aX with Kind:=1,Node:=v1.Node,Style:=v1.Style }:aa)) 66 (.ref 500028)),(33,List.set (aC ({ ((gD v95 v94).1) with H:=v103,Style:=v98,Before:=v99,After:=v100,Empty:=v101,Kids:=[] }:aa)) 66 (.ref 420206)),(34,aB (gD v38 v94))],[(420206,⟨61,67,lm am v97⟩),(500015,⟨61,67,lm (encN am 66 61 67 am) v102⟩),(500028,⟨61,67,lm (encN am 66 61 67 am) v96⟩)],[3,6,28,33,34,420206,500015,500028]⟩ ?_ (by subst h169; kernel_rfl)
   rcases aq h with ⟨h170,h⟩ | ⟨h170,h⟩
   ·
    exact aj 233 h170 (ah 2 (rF hK hL4 h))
   ·
    refine aj 233 h170 (ac (ks':=[av p22_51,.b 8,av p22_23,.b 7,av dr,c9 M w0 r m4,.b 6,av cL]) 3 ?_)
    rcases aq h with ⟨h171,h⟩ | ⟨h171,h⟩
    ·
     exact aj 236 h171 (ah 2 (rF hK hL4 h))
    ·
     exact aj 236 h171 (ah 2 (rF hK hL4 h))
  ·
   refine aj 203 h157 (ac (ks':=[av p22_52,av p22_53]) 12 (ai 2 ?_))
   obtain ⟨v111,h190,h⟩:=bind_some h
   refine aR (sy hK h190) (ag (ac (ks':=[av p22_54,av p22_55,av p22_32]) 2 (ai 3 ?_)))
   obtain ⟨v112,h191,h⟩:=bind_some h
   refine aR (rc hK h191) (ag (ac (ks':=[av p22_56,av p22_32]) 2 ?_))
   rcases aq h with ⟨h192,h⟩ | ⟨h192,h⟩
   ·
    exact aj 309 h192 (ah 2 (tN hK h))
   ·
    exact aj 309 h192 (ah 2 (tN hK h))
theorem vo (hK:KnOk K) (m:Nat):mC M w0 r v1 v2 v5 v11 v25 v26 v38 v43 v46 m (gM K n v1 v2 v5 v11 v25 v26 v38 v43 v46 m):=by
  induction m with
 | zero=>intro v94 v95 v96 h; cases h
 | succ m ih=>intro v94 v95 v96 h; have h:o5 K n v1 v2 v5 v11 v25 v26 v38 v43 v46 (gM K n v1 v2 v5 v11 v25 v26 v38 v43 v46 m) v94 v95 v96=some r:=h; exact aV (wy hK ih h)
theorem vA (hK:KnOk K) (hL3:H22_3 M w0 r v1 v2 v4 v5 v11 v25 v26 v38 v43 m3 L3) (h:oN K n v1 v2 v4 v5 v11 v25 v26 v38 v43 L3 v46 v47 v48=some r):VE (cI M w0) (q22 M w0 r) [av p22_5,k22_3 M w0 r m3,.b 4,av gi] .normal (s22_l5 v1 v2 v4 v5 v11 v25 v26 v38 v43 v46 v47 v48):=by
  unfold oN at h
  refine ac (ks':=[av p22_57,av p22_58,k22_3 M w0 r m3,.b 4,av gi]) 3 ?_
  rcases aq h with ⟨h69,h⟩ | ⟨h69,h⟩
  ·
   refine aj 173 h69 (ac (ks':=[av p22_59,av p22_60,.b 5,av p22_61,k22_3 M w0 r m3,.b 4,av gi]) 5 (ai 1 ?_))
   obtain ⟨h70,h⟩:=au h
   refine ap (bL aw aH h70 (ce) (b9)) (ag (ac (ks':=[av p22_62,av p22_63,.b 5,av p22_61,k22_3 M w0 r m3,.b 4,av gi]) 1 (br [1,3,6,12,14,15,16,27,28,29,30,31,170,171,172] [3,6,28,31] [1163,500015,500028] (ve_mark ?_))))
   obtain ⟨h71,h⟩:=au h
   obtain ⟨h72,h⟩:=au h
   refine bH 2 (nu 177 [.ptr 28 66,.ref 500028,.ptr 31 1,iI ((gD v4.rows v47).Node),.ptr 31 2,.agg (aO ((gD v4.rows v47).Style)),iI v46,iI (max v11 v5.1),.ref 1163,iI v47,.eptr 1163 1 (v47.toNat) 0,iI (gD v43 v47),.agg (List.set (aC ({ aX with Kind:=1,Node:=(gD v4.rows v47).Node,Y:=v46,W:=(max v11 v5.1),H:=(gD v43 v47),Style:=(gD v4.rows v47).Style }:aa)) 66 (.nils)),.sl [List.set (aC ({ aX with Kind:=1,Node:=(gD v4.rows v47).Node,Y:=v46,W:=(max v11 v5.1),H:=(gD v43 v47),Style:=(gD v4.rows v47).Style }:aa)) 66 (.nils)]]++nu 192 [.ptr 28 66]) [] [] [appS 191 500028 ⟨61,67,lm (encN am 66 61 67 am) v48++[(aC ({ aX with Kind:=1,Node:=(gD v4.rows v47).Node,Y:=v46,W:=(max v11 v5.1),H:=(gD v43 v47),Style:=(gD v4.rows v47).Style }:aa)).set 66 (.nils)]⟩,stp Try.prog 391 Try.f22 p22_62 16] (aD [.v 0 2,.v 0 1,.v 0 2,.v 0 2,.v 0 2,.v 0 2,.v 0 2,.v 0 2,.v 0 2,.v 0 2] (az (k_v (lo:=0) (k:=2) (bR ⟨(by kernel_rfl),(bT (bu 1163 1 (eInt .i64) (L:=v43) h71) (by kernel_rfl))⟩ (bR ⟨(by kernel_rfl),(bT (bu 1163 1 (eInt .i64) (L:=v43) h71) (by kernel_rfl))⟩ cT))) (az (k_v (lo:=0) (k:=2) (bR ⟨(by kernel_rfl),(bT (bk 3 0 (eInt .i64) (eInt .i64) (aI h71).2 (fun _=>rfl)) (by kernel_rfl))⟩ (bR ⟨(by kernel_rfl),(bT (bk 3 0 (eInt .i64) (eInt .i64) (aI h71).2 (fun _=>rfl)) (by kernel_rfl))⟩ cT))) (aD [.v 0 2,.v 0 1] (az (e_s (m:=0) (y_apN 191 500028 61 67 66 61 67 am aC am ({ aX with Kind:=1,Node:=(gD v4.rows v47).Node,Y:=v46,W:=(max v11 v5.1),H:=(gD v43 v47),Style:=(gD v4.rows v47).Style }:aa) (.nils) cj cX h72)) (aD [.v 1 1] (az (e_d 1) bI))))))) (ve_grow 500028 61 67 66 61 67 am aC am v48 ({ aX with Kind:=1,Node:=(gD v4.rows v47).Node,Y:=v46,W:=(max v11 v5.1),H:=(gD v43 v47),Style:=(gD v4.rows v47).Style }:aa) cj cX ?_)
   obtain ⟨v49,h73,h⟩:=bind_some h
   have h73:=Option.some.inj h73
   refine bo (ks':=[av p22_63,.b 5,av p22_61,k22_3 M w0 r m3,.b 4,av gi]) 0 ⟨[(1,iI v2),(3,.ptr 3 0),(6,.ptr 6 0),(12,iI (max v11 v5.1)),(14,.sl (lm aB v38)),(15,.ref 500015),(16,.sl (lm (eInt .i64) v25)),(27,.ref 1163),(28,.ptr 28 0),(29,iI v46),(30,iI v47),(170,.sl (lm aw v4.rows)),(171,iI (v4.rows.length:Int)),(172,iI v47)],[(3,aH v1),(6,List.set (aC aX) 66 (.nils)),(28,List.set (aC ({ aX with Kind:=1,Node:=v1.Node,Style:=v1.Style }:aa)) 66 (.ref 500028))],[(1163,⟨3,1,lm (eInt .i64) v43⟩),(500015,⟨61,67,lm (encN am 66 61 67 am) v26⟩),(500028,⟨61,67,lm (encN am 66 61 67 am) v49⟩)],[3,6,28,1163,500015,500028]⟩ ?_ (by subst h73; kernel_rfl)
   refine ai 3 ?_
   obtain ⟨h74,h⟩:=au h
   exact ap (bJ 1163 1 (eInt .i64) h74) (ap (bk 3 0 (eInt .i64) (eInt .i64) (aI h74).2 (fun _=>rfl)) (ag (ah 2 (aW (hL3 h)))))
  ·
   exact aj 173 h69 (ac (ks':=[av p22_64,av p22_65,av cL]) 7 (ai 1 (ap (bi (encN am 66 61 67 am) v26) (ag (ac (ks':=[av p22_66,.b 6,av cL]) 1 (gE 1163 (ah 0 (bw (p:=p22_66) n (vo hK n h)))))))))
theorem w7 (hK:KnOk K) (m:Nat):H22_3 M w0 r v1 v2 v4 v5 v11 v25 v26 v38 v43 m (jD K n v1 v2 v4 v5 v11 v25 v26 v38 v43 m):=by
  induction m with
 | zero=>intro v46 v47 v48 h; cases h
 | succ m ih=>intro v46 v47 v48 h; have h:oN K n v1 v2 v4 v5 v11 v25 v26 v38 v43 (jD K n v1 v2 v4 v5 v11 v25 v26 v38 v43 m) v46 v47 v48=some r:=h; exact aV (vA hK ih h)
theorem uR (hK:KnOk K) (hL2:H22_2 M w0 r v1 v2 v4 v5 v11 v25 v26 m2 L2) (h:oF K n v1 v2 v4 v5 v11 v25 v26 L2 v37 v38 v39=some r):VE (cI M w0) (q22 M w0 r) [av p22_7,jd M w0 r m2,.b 2,av gb] .normal (s22_l4 v1 v2 v4 v5 v11 v25 v26 v37 v38 v39):=by
  unfold oF at h
  refine ac (ks':=[av p22_67,av p22_68,jd M w0 r m2,.b 2,av gb]) 3 ?_
  rcases aq h with ⟨h55,h⟩ | ⟨h55,h⟩
  ·
   refine aj 136 h55 (ac (ks':=[av p22_69,av p22_70,.b 3,av nF,jd M w0 r m2,.b 2,av gb]) 5 (ai 1 ?_))
   obtain ⟨h56,h⟩:=au h
   refine ap (bL aw aH h56 (ce) (b9)) (ag (ac (ks':=[av p22_71,av p22_72,.b 3,av nF,jd M w0 r m2,.b 2,av gb]) 1 (ai 3 ?_)))
   obtain ⟨v40,h57,h⟩:=bind_some h
   refine aR (rc hK h57) (ag (ac (ks':=[av p22_73,.b 3,av nF,jd M w0 r m2,.b 2,av gb]) 2 ?_))
   rcases aq h with ⟨h58,h⟩ | ⟨h58,h⟩
   ·
    refine aj 147 h58 (ac (ks':=[av p22_74,av p22_75,.b 3,av nF,jd M w0 r m2,.b 2,av gb]) 2 (ai 4 ?_))
    obtain ⟨h59,h⟩:=au h
    refine ap (co 152 1084 30 4 aB (rfl) (fz) h59) (ag (ai 3 ?_))
    obtain ⟨h60,h⟩:=au h
    exact ap (co 156 1131 3 1 (eInt .i64) (rfl) (fun _=>rfl) h60) (ag (ah 0 (um hK hL2 h)))
   ·
    exact aj 147 h58 (ah 2 (um hK hL2 h))
  ·
   refine aj 136 h55 (ac (ks':=[av p22_76,av p22_77]) 6 (ai 4 (ap (bi aw v4.rows) (dG 1084 (dG 1131 ?_)))))
   obtain ⟨v43,h61,h⟩:=bind_some h
   exact cZ 1163 (u0 hK h61) (dN 17) (ag (ac (ks':=[av p22_78,av p22_79,av gi]) 6 (ai 2 (ap (bi aw v4.rows) (ag (ac (ks':=[av p22_80,.b 4,av gi]) 1 (br [1,3,6,12,14,15,16,27,28,29,170,171,172] [3,6,28] [1163,500015] (ve_wo 500028 28 66 61 67 (ah 0 (bw (p:=p22_80) n (w7 hK n h)))))))))))
theorem wE (hK:KnOk K) (m:Nat):H22_2 M w0 r v1 v2 v4 v5 v11 v25 v26 m (iV K n v1 v2 v4 v5 v11 v25 v26 m):=by
  induction m with
 | zero=>intro v37 v38 v39 h; cases h
 | succ m ih=>intro v37 v38 v39 h; have h:oF K n v1 v2 v4 v5 v11 v25 v26 (iV K n v1 v2 v4 v5 v11 v25 v26 m) v37 v38 v39=some r:=h; exact aV (uR hK ih h)
theorem vb (hK:KnOk K) (hL1:H22_1 M w0 r v1 v2 v3 v4 v5 v11 v12 v13 m1 L1) (h:nc K n v1 v2 v3 v4 v5 v11 v12 v13 L1 v24 v25 v26=some r):VE (cI M w0) (q22 M w0 r) [av p22_9,iw M w0 r m1,.b 0,av eE] .normal (s22_l2 v1 v2 v3 v4 v5 v11 v12 v13 v24 v25 v26):=by
  unfold nc at h
  refine ac (ks':=[av p22_81,av p22_82,iw M w0 r m1,.b 0,av eE]) 3 ?_
  rcases aq h with ⟨h35,h⟩ | ⟨h35,h⟩
  ·
   refine aj 89 h35 (ac (ks':=[av p22_83,av p22_84,.b 1,av mw,iw M w0 r m1,.b 0,av eE]) 5 (ai 1 ?_))
   obtain ⟨h36,h⟩:=au h
   refine ap (bL aw aH h36 (ce) (b9)) (ag (ac (ks':=[av p22_86,av p22_87,.b 1,av mw,iw M w0 r m1,.b 0,av eE]) 1 (ai 2 ?_)))
   obtain ⟨h37,h⟩:=au h
   refine ap (bJ 1084 4 aB h37) (ap (bk 30 0 aB aB (aI h37).2 (fun _=>rfl)) (ag (ac (ks':=[av p22_88,av p22_89,.b 1,av mw,iw M w0 r m1,.b 0,av eE]) 1 (br [1,3,5,6,7,12,13,14,15,16,18,19,86,87,88] [3,5,6,7,18,19] [128,1084,500015] ?_))))
   obtain ⟨h38,h⟩:=au h
   obtain ⟨v27,h39,h⟩:=bind_some h
   obtain ⟨v28,h40,h⟩:=bind_some h
   refine bH 2 [(98,.agg (aH (gD v4.cells v24))),(99,iI (max v11 v5.1)),(100,.sl (lm (eInt .i64) v12)),(101,.ptr 19 1),(102,iI ((gD v13 v24).Col)),(103,.ptr 19 1),(104,iI ((gD v13 v24).Col)),(105,.ptr 19 3),(106,iI ((gD v13 v24).Cols)),(107,iI (w64 (((gD v13 v24).Col)+((gD v13 v24).Cols)))),(108,.sl (lm (eInt .i64) (List.drop (((gD v13 v24).Col)).toNat (List.take ((w64 (((gD v13 v24).Col)+((gD v13 v24).Cols)))).toNat v12)))),(109,iI v27),(110,.agg (cf v3)),(111,.tup [.agg (List.set (aC ({ v28.1 with Kids:=[] }:aa)) 66 (.ref 111)),iI v28.2]),(97,.tup [.agg (List.set (aC ({ v28.1 with Kids:=[] }:aa)) 66 (.ref 111)),iI v28.2]),(112,.agg (List.set (aC ({ v28.1 with Kids:=[] }:aa)) 66 (.ref 111))),(113,iI v28.2),(20,.ptr 20 0)] [(20,List.set (aC aX) 66 (.nils))] [(111,⟨61,67,lm am v28.1.Kids⟩)] [stp Try.prog 391 Try.f22 p22_88 18,stp Try.prog 391 Try.f22 p22_88 19] (aD (vz 10) (d_v (g7 (eInt .i64) v12 ((gD v13 v24).Col) (w64 (((gD v13 v24).Col)+((gD v13 v24).Cols))) 33 (.tmp 100) (some (.tmp 102)) (some (.tmp 107)) 108 (e:=3) (sz:=1) (by kernel_rfl) (by kernel_rfl) (by kernel_rfl) (by kernel_rfl) (by kernel_rfl) (by kernel_rfl) (fun _=>rfl) (fun k hk=>by subst hk; kernel_rfl) h38) (az (e_c 0 1 109 (qS hK h39)) (aD [.v 0 1] (az (e_o 0 1 111 (g_table_cell_ok hK h40) (one_tupa (i:=0) (j:=66) rfl (by kernel_rfl))) (aD [.v 0 1,.v 0 1,.v 0 2] (az (e_a 0 1 61 20 (List.set (aC aX) 66 (.nils))) (az (e_d 0) (az (e_d 1) bI))))))))) (ac (ks':=[av p22_90,av p22_91,.b 1,av mw,iw M w0 r m1,.b 0,av eE]) 1 (ai 3 ?_))
   obtain ⟨h41,h⟩:=au h
   refine ap (g7 (eInt .i64) v12 (0:Int) ((gD v13 v24).Col) 33 (.tmp 114) none (some (.tmp 116)) 117 (e:=3) (sz:=1) (by kernel_rfl) (by kernel_rfl) (by kernel_rfl) (by kernel_rfl) (by kernel_rfl) (by kernel_rfl) (fun _=>rfl) (fun k hk=>by subst hk; kernel_rfl) h41) ?_
   obtain ⟨v29,h42,h⟩:=bind_some h
   refine aR (qS hK h42) (ag (ac (ks':=[av p22_92,av p22_93,.b 1,av mw,iw M w0 r m1,.b 0,av eE]) 1 (ve_mark (ai 2 ?_))))
   refine m7 111 99 (c0:=iI (max v11 v5.1)) (gj 122 66 (by kernel_rfl)) (fun x3=>?_)
   refine pr 122 99 (tid:=111) (x:=x3) (c:=.agg (List.set (aC ({ v28.1 with X:=v29,Y:=0,Kids:=[] }:aa)) 66 (.ref 111))) (aM 3 1 ?_)
   obtain ⟨h43,h⟩:=au h
   refine ap (y_apN 124 500015 61 67 66 61 67 am aC am ({ v28.1 with X:=v29,Y:=0,Kids:=[] }:aa) (.vv x3) cj cX h43) (ot_groO 500015 111 99 124 0 61 67 66 61 67 am aC am v26 ({ v28.1 with X:=v29,Y:=0,Kids:=[] }:aa) v28.1.Kids x3 cj cX (ag ?_))
   obtain ⟨v30,h44,h⟩:=bind_some h
   have h44:=Option.some.inj h44
   refine bo (ks':=[av p22_93,.b 1,av mw,iw M w0 r m1,.b 0,av eE]) 0 ⟨[(1,iI v2),(3,.ptr 3 0),(5,.ptr 5 0),(6,.ptr 6 0),(7,.ptr 7 0),(12,iI (max v11 v5.1)),(13,.sl (lm (eInt .i64) v12)),(14,.ref 1084),(15,.ref 500015),(16,.ref 128),(21,iI v28.2),(86,.sl (lm aw v4.cells)),(87,iI (v4.cells.length:Int)),(88,iI v24)],[(3,aH v1),(5,cf v3),(6,List.set (aC aX) 66 (.nils)),(7,dd v4)],[(128,⟨3,1,lm (eInt .i64) v25⟩),(1084,⟨30,4,lm aB v13⟩),(500015,⟨61,67,lm (encN am 66 61 67 am) v30⟩)],[3,5,6,7,128,1084,500015]⟩ ?_ (by subst h44; kernel_rfl)
   refine ai 3 ?_
   obtain ⟨h45,h⟩:=au h
   exact ap (co 128 128 3 1 (eInt .i64) (rfl) (fun _=>rfl) h45) (ag (ah 2 (aW (hL1 h))))
  ·
   refine aj 89 h35 (ac (ks':=[av p22_94,av p22_95]) 6 (ai 1 (dG 128 ?_)))
   obtain ⟨v31,h46,h⟩:=bind_some h
   exact cZ 1131 (vF hK h46) (dN 5) (ag (ac (ks':=[av p22_96,av p22_97,av gb]) 2 (ai 2 (ap (bi aw v4.rows) (ag (ah 1 (bw (p:=p22_98) n (wE hK n h))))))))
theorem uB (hK:KnOk K) (m:Nat):H22_1 M w0 r v1 v2 v3 v4 v5 v11 v12 v13 m (km K n v1 v2 v3 v4 v5 v11 v12 v13 m):=by
  induction m with
 | zero=>intro v24 v25 v26 h; cases h
 | succ m ih=>intro v24 v25 v26 h; have h:nc K n v1 v2 v3 v4 v5 v11 v12 v13 (km K n v1 v2 v3 v4 v5 v11 v12 v13 m) v24 v25 v26=some r:=h; exact aV (vb hK ih h)
theorem tW (hK:KnOk K) (h:l5 K n v1 v2 v3 v4 v5 v10=some r):VE (cI M w0) (q22 M w0 r) [av p22_99] .normal (s22_j1 v1 v2 v3 v4 v5 v10):=by
  unfold l5 at h
  refine ac (ks':=[av p22_100,av p22_101]) 1 (ai 4 ?_)
  obtain ⟨v11,h8,h⟩:=bind_some h
  refine aR (qk hK h8) (ag (ac (ks':=[av p22_102,av p22_103]) 1 (ai 3 ?_)))
  obtain ⟨v12,h9,h⟩:=bind_some h
  refine cZ 1081 (sv hK h9) (dN 17) (ag (ac (ks':=[av p22_104,av p22_105]) 1 (ai 2 ?_)))
  obtain ⟨v13,h10,h⟩:=bind_some h
  exact cZ 1084 (wd hK h10) (dN 5) (ag (ac (ks':=[av p22_106,av p22_107,av eE]) 6 (ai 2 (ap (bi aw v4.cells) (ag (ac (ks':=[av p22_108,.b 0,av eE]) 1 (br [1,3,5,6,7,12,13,14,15,16,86,87,88] [3,5,6,7] [1081,1084] (dz 500015 15 61 67 (gE 1081 (dz 128 16 3 1 (ah 0 (bw (p:=p22_108) n (uB hK n h)))))))))))))
theorem sV (hK:KnOk K) (h:j4 K n v1 v2 v3=some r):ACalls Try.prog 22 [.agg (aH v1),iI v2,.agg (cf v3)] (fun v s=>v = .agg (List.set (aC ({ r with Kids:=[] }:aa)) 66 (.ref 440028))∧look 440028 s.r=some ⟨61,67,lm am r.Kids⟩):=by
  refine bg (cat Try.f22 []) Try.func22 Try.ntmps22 fun M w0=>(aZ ⟨[(0,.agg (aH v1)),(1,iI v2),(2,.agg (cf v3))],[],[],[]⟩ ?_)
  unfold j4 at h
  refine ac (ks':=[av [1,0],av [1,1]]) 3 (ai 2 ?_)
  obtain ⟨v4,h1,h⟩:=bind_some h
  refine cZ 1045 (vn hK h1) (ju (i:=0) (by kernel_rfl)) (ag (ac (ks':=[av [1,1,0],av [1,1,1]]) 1 (ai 1 (dG 1045 ?_))))
  obtain ⟨v5,h2,h⟩:=bind_some h
  refine aR (vP hK h2) (ag (ac (ks':=[av p22_109,av p22_110]) 1 (ai 4 ?_)))
  obtain ⟨v6,h3,h⟩:=bind_some h
  refine aR (de hK h3) (ag (ac (ks':=[av p22_111,av p22_99]) 3 ?_))
  rcases aq h with ⟨h4,h⟩ | ⟨h4,h⟩
  ·
   refine aj 60 h4 (ac (ks':=[av p22_112,av p22_99]) 1 (br [1,3,5,6,7,8,9] [3,5,6,7] [] ?_))
   obtain ⟨v7,h5,h⟩:=bind_some h
   obtain ⟨v8,h6,h⟩:=bind_some h
   obtain ⟨v9,h7,h⟩:=bind_some h
   exact bH 1 (nu 61 [iI v2,iI v7,.ptr 3 2,.agg (aO v1.Style),iI v2,.agg (bE v8),iI v9,iI (w64 (v7 - v9)),iI v5.2,iI (min (w64 (v7 - v9)) v5.2)]) [] [] [stp Try.prog 391 Try.f22 p22_112 10] (aD [.v 0 1] (az (e_c 0 1 62 (ij hK h5)) (aD (vz 3) (az (e_c 0 1 66 (oA hK h6)) (az (e_c 0 1 67 (lZ hK h7)) (aD (vz 3) (az (e_d 0) bI))))))) (ah 0 (tW hK h))
  ·
   exact aj 60 h4 (ah 2 (tW hK h))
end
noncomputable section
variable {K:Kn} {n:Nat} {M:Nat→Prop} {w0:Base} {r:bv}  
theorem pM (hK:KnOk K) (h:jw K n=some r):ACalls Try.prog 23 [] (fun v _=>v = .agg (cf r)):=by
  refine bg (cat Try.f23 []) Try.func23 Try.ntmps23 fun M w0=>(aZ ⟨[],[],[],[]⟩ ?_)
  unfold jw at h
  refine aQ 5 ?_
  cases h
  exact bz
end
def p24_0:=pth 0 1110100
def p24_1:=pth 0 111010000
def p24_2:=pth 0 111010001
def p24_3:=pth 0 11101001
def p24_4:=pth 0 11101001000
def p24_5:=pth 0 11101001001
def p24_6:=pth 0 111010011
def p24_7:=pth 0 111010
noncomputable section
abbrev cx24 (M:Nat→Prop) (w0:Base):Cx:=⟨Try.prog,116,M,w0⟩
abbrev q24 (M:Nat→Prop) (w0:Base) (r:Bool):=bodyPost Try.prog Try.f24 (RetQ M w0 (fun v _=>v = .bool r))
abbrev du (p:List Nat):Kont:=.c (cat Try.f24 p)
abbrev k24_1 (M:Nat→Prop) (w0:Base) (r:Bool) (m1:Nat):Kont:=kl (cx24 M w0) (q24 M w0 r) [.b 0,du [1,1,1]] (cat Try.f24 p24_0) m1
def s24_l2 (v1 v2:aa) (v6:Int):AS:=⟨[(2,.ptr 2 0),(3,.ptr 3 0),(5,iI v6)],[(2,aC v1),(3,aC v2)],[],[2,3]⟩
def s24_j1 (v1 v2:aa) (v3:Bool):AS:=⟨[(2,.ptr 2 0),(3,.ptr 3 0),(96,.bool v3)],[(2,aC v1),(3,aC v2)],[],[2,3]⟩
abbrev H24_1 (M:Nat→Prop) (w0:Base) (r:Bool) (v1 v2:aa) (m1:Nat) (L1:Int→Option Bool):Prop:=∀ {v6:Int},L1 v6=some r→LP (cx24 M w0) (q24 M w0 r) [.b 0,du [1,1,1]] (cat Try.f24 p24_0) m1 (s24_l2 v1 v2 v6)
variable {K:Kn} {n:Nat} {M:Nat→Prop} {w0:Base} {r:Bool} {v1 v2:aa} {v3:Bool} {v6:Int} {m1:Nat} {L1:Int→Option Bool}
theorem vI (hK:KnOk K) (hL1:H24_1 M w0 r v1 v2 m1 L1) (h:nK K n v1 v2 L1 v6=some r):VE (cx24 M w0) (q24 M w0 r) [du p24_0,k24_1 M w0 r m1,.b 0,du [1,1,1]] .normal (s24_l2 v1 v2 v6):=by
  unfold nK at h
  refine ac (ks':=[du p24_1,du p24_2,du p24_3,k24_1 M w0 r m1,.b 0,du [1,1,1]]) 2 (ai 3 (ap (bi am v1.Kids) (ag ?_)))
  rcases aq h with ⟨h20,h⟩ | ⟨h20,h⟩
  ·
   refine aj 101 h20 (ac (ks':=[du p24_4,du p24_5,.b 1,du p24_6,k24_1 M w0 r m1,.b 0,du [1,1,1]]) 5 (br [2,3,5] [2,3] [] ?_))
   obtain ⟨h21,h⟩:=au h
   obtain ⟨h22,h⟩:=au h
   obtain ⟨v7,h23,h⟩:=bind_some h
   refine bH 0 (nu 104 [.ptr 2 66,.sl (lm am v1.Kids),iI v6,.cptr (aC (gD v1.Kids v6)),.agg (aC (gD v1.Kids v6)),.ptr 3 66,.sl (lm am v2.Kids),iI v6,.cptr (aC (gD v2.Kids v6)),.agg (aC (gD v2.Kids v6)),.bool v7,.bool (!v7)]) [] [] [] (aD (vz 3) (d_v (bL am aC h21 (cX) (cj)) (aD (vz 4) (d_v (bL am aC h22 (cX) (cj)) (aD [.v 0 1] (az (e_c 0 1 114 (hK.nR h23)) (aD [.v 0 1] bI))))))) ?_
   rcases aq h with ⟨h24,h⟩ | ⟨h24,h⟩
   ·
    refine aj 115 h24 (aQ 9 ?_)
    cases h
    exact bz
   ·
    exact aj 115 h24 (ah 4 (aW (hL1 h)))
  ·
   refine aj 101 h20 (aQ 8 ?_)
   cases h
   exact bz
theorem vH (hK:KnOk K) (m:Nat):H24_1 M w0 r v1 v2 m (j8 K n v1 v2 m):=by
  induction m with
 | zero=>intro v6 h; cases h
 | succ m ih=>intro v6 h; have h:nK K n v1 v2 (j8 K n v1 v2 m) v6=some r:=h; exact aV (vI hK ih h)
theorem eb (hK:KnOk K) (h:dK K n v1 v2 v3=some r):VE (cx24 M w0) (q24 M w0 r) [du [1,0,1],du [1,1]] .normal (s24_j1 v1 v2 v3):=by
  unfold dK at h
  rcases aq h with ⟨h13,h⟩ | ⟨h13,h⟩
  ·
   refine aj 96 h13 (aQ 5 ?_)
   cases h
   exact bz
  ·
   exact aj 96 h13 (ah 6 (bw (p:=p24_7) n (vH hK n h)))
theorem uo (hK:KnOk K) (h:i8 K n v1 v2=some r):ACalls Try.prog 24 [.agg (aC v1),.agg (aC v2)] (fun v _=>v = .bool r):=by
  refine bg (cat Try.f24 []) Try.func24 Try.ntmps24 fun M w0=>(aZ ⟨[(0,.agg (aC v1)),(1,.agg (aC v2))],[],[],[]⟩ ?_)
  unfold i8 at h
  refine ac (ks':=[du [1,0,0],du [1,0,1],du [1,1]]) 4 (ai 6 ?_)
  rcases aq h with ⟨h1,h⟩ | ⟨h1,h⟩
  ·
   exact aE 11 h1 (ag (ah 0 (eb hK h)))
  ·
   refine aE 11 h1 (aM 13 7 ?_)
   rcases aq h with ⟨h2,h⟩ | ⟨h2,h⟩
   ·
    exact aE 18 h2 (ag (ah 0 (eb hK h)))
   ·
    refine aE 18 h2 (aM 20 7 ?_)
    rcases aq h with ⟨h3,h⟩ | ⟨h3,h⟩
    ·
     exact aE 25 h3 (ag (ah 0 (eb hK h)))
    ·
     refine aE 25 h3 (aM 27 7 ?_)
     rcases aq h with ⟨h4,h⟩ | ⟨h4,h⟩
     ·
      exact aE 32 h4 (ag (ah 0 (eb hK h)))
     ·
      refine aE 32 h4 (aM 34 7 ?_)
      rcases aq h with ⟨h5,h⟩ | ⟨h5,h⟩
      ·
       exact aE 39 h5 (ag (ah 0 (eb hK h)))
      ·
       refine aE 39 h5 (aM 41 7 ?_)
       rcases aq h with ⟨h6,h⟩ | ⟨h6,h⟩
       ·
        exact aE 46 h6 (ag (ah 0 (eb hK h)))
       ·
        refine aE 46 h6 (aM 48 7 ?_)
        rcases aq h with ⟨h7,h⟩ | ⟨h7,h⟩
        ·
         exact aE 53 h7 (ag (ah 0 (eb hK h)))
        ·
         refine aE 53 h7 (aM 55 7 ?_)
         rcases aq h with ⟨h8,h⟩ | ⟨h8,h⟩
         ·
          exact aE 60 h8 (ag (ah 0 (eb hK h)))
         ·
          refine aE 60 h8 (aM 62 7 ?_)
          rcases aq h with ⟨h9,h⟩ | ⟨h9,h⟩
          ·
           exact aE 67 h9 (ag (ah 0 (eb hK h)))
          ·
           refine aE 67 h9 (aM 69 7 ?_)
           rcases aq h with ⟨h10,h⟩ | ⟨h10,h⟩
           ·
            exact aE 74 h10 (ag (ah 0 (eb hK h)))
           ·
            refine aE 74 h10 (aM 76 7 ?_)
            rcases aq h with ⟨h11,h⟩ | ⟨h11,h⟩
            ·
             exact aE 81 h11 (ag (ah 0 (eb hK h)))
            ·
             refine aE 81 h11 (aM 83 7 ?_)
             rcases aq h with ⟨h12,h⟩ | ⟨h12,h⟩
             ·
              exact aE 88 h12 (ag (ah 0 (eb hK h)))
             ·
              exact aE 88 h12 (aM 85 2 (ap (bi am v1.Kids) (aM 88 2 (ap (bi am v2.Kids) (ag (ah 0 (eb hK h)))))))
end
end Go.Proofs.Ytolhpahjgddjkaa

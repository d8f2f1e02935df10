/- The runs of the functions that TableOthers reaches do what their plain forms say, part 3. Made by a program. -/
import Derived.Test.YtolhpahjgddjkaaCoGk
import Derived.Test.YtolhpahjgddjkaaCoP2
namespace Go.Proofs.Ytolhpahjgddjkaa
open Go.RowKit
set_option maxRecDepth 20000
set_option linter.all false
set_option linter.unusedVariables false
set_option linter.unusedSimpArgs false
def p8_0:=pth 8 1
def p8_1:=pth 8 10
def p8_2:=pth 9 1
def p8_3:=pth 0 11100
def p8_4:=pth 0 11101
def p8_5:=pth 0 11110
def p8_6:=pth 0 11111
def p8_7:=pth 0 111110
def p8_8:=pth 5 1
def p8_9:=pth 6 10
def p8_10:=pth 7 1
def p8_11:=pth 7 100
def p8_12:=pth 7 101
def p8_13:=pth 7 10100
def p8_14:=pth 7 10101
def p8_15:=pth 7 101010
def p8_16:=pth 7 101011
noncomputable section
abbrev cx8 (M:Nat→Prop) (w0:Base):Cx:=⟨Try.prog,72,M,w0⟩
abbrev q8 (M:Nat→Prop) (w0:Base) (r:Bool):=bodyPost Try.prog Try.f8 (RetQ M w0 (fun v _=>v = .bool r))
def s8_j1 (v2:Int) (v6:ab) (v10:List ab):AS:=⟨[(1,iI v2),(7,.ptr 7 0),(9,.ptr 9 0)],[(7,aH v6),(9,List.set (aH ({ v6 with Kids:=[] }:ab)) 58 (.ref 26))],[(26,⟨55,59,lm aw v10⟩)],[7,9,26]⟩
variable {K:Kn} {n:Nat} {M:Nat→Prop} {w0:Base} {r:Bool} {v1:List bM} {v2 v3:Int} {v6:ab} {v10:List ab} 
abbrev cF8 (p:List Nat):Kont:=.c (cat Try.f8 p)
theorem tC (hK:KnOk K) (h:j9 K n v2 v6 v10=some r):VE (cx8 M w0) (q8 M w0 r) [cF8 p8_0] .normal (s8_j1 v2 v6 v10):=by
  unfold j9 at h
  refine ac (ks':=[cF8 p8_1,cF8 p8_2]) 1 (br [1,7,9] [7,9] [26] (gE 26 ?_))
  obtain ⟨v22,h30,h⟩:=bind_some h
  obtain ⟨v23,h31,h⟩:=bind_some h
  obtain ⟨v24,h32,h⟩:=bind_some h
  obtain ⟨v25,h33,h⟩:=bind_some h
  obtain ⟨v26,h34,h⟩:=bind_some h
  refine bH 1 (nu 63 [.agg (aH v6),iI v2,.agg (cf v22),.agg (aC v23),.agg (aH ({ v6 with Kids:=v10 }:ab)),iI v2,.agg (cf v24),.agg (aC v25),.bool v26]) [] [] [stp Try.prog 72 Try.f8 p8_1 9] (aD (vz 2) (az (e_c 0 1 65 (pM hK h30)) (az (e_c 0 1 66 (ACalls.frz (sV hK h31) (V':=.agg (aC v23)) (by kernel_rfl))) (aD (vz 2) (az (e_c 0 1 69 (pM hK h32)) (az (e_c 0 1 70 (ACalls.frz (sV hK h33) (V':=.agg (aC v25)) (by kernel_rfl))) (az (e_c 0 1 71 (uo hK h34)) (az (e_d 0) bI)))))))) (aQ 1 ?_)
  cases h
  exact bz
theorem wj (hK:KnOk K) (h:qo K n v1 v2 v3=some r):ACalls Try.prog 8 [.sl (lm bX v1),iI v2,.int .u8 v3] (fun v _=>v = .bool r):=by
  refine bg (cat Try.f8 []) Try.func8 Try.ntmps8 fun M w0=>(aZ ⟨[(0,.sl (lm bX v1)),(1,iI v2),(2,.int .u8 v3)],[],[],[]⟩ ?_)
  unfold qo at h
  refine ac (ks':=[cF8 [1,0,0],cF8 [1,0,1],cF8 [1,1]]) 4 (ai 0 ?_)
  obtain ⟨v4,h1,h⟩:=bind_some h
  refine aR (g_law20_fit_ok hK h1) (ag ?_)
  rcases aq h with ⟨h2,h⟩ | ⟨h2,h⟩
  ·
   refine aj 12 h2 (aQ 5 ?_)
   cases h
   exact bz
  ·
   refine aj 12 h2 (ac (ks':=[cF8 p8_3,cF8 p8_4,cF8 [1,1,1]]) 4 (ai 1 ?_))
   obtain ⟨v5,h3,h⟩:=bind_some h
   refine aR (g_law20_fits_ok hK h3) (ag ?_)
   rcases aq h with ⟨h4,h⟩ | ⟨h4,h⟩
   ·
    refine aj 15 h4 (aQ 5 ?_)
    cases h
    exact bz
   ·
    refine aj 15 h4 (ac (ks':=[cF8 p8_5,cF8 p8_6]) 3 (ai 1 ?_))
    obtain ⟨v6,h5,h⟩:=bind_some h
    refine cZ 1017 (g_ref20_Tree_ok hK h5) (ju (i:=58) (by kernel_rfl)) (ag (ac (ks':=[cF8 p8_7,cF8 p8_8]) 1 (ai 4 (ap (bi aw v6.Kids) (aM 6 1 ?_)))))
    obtain ⟨h6,h⟩:=au h
    refine ap (y_rem .i64 (w64 v3) h6) (ag ?_)
    obtain ⟨v7,h7,h⟩:=bind_some h
    have h7:=Option.some.inj h7
    refine bo (ks':=[cF8 p8_9,cF8 p8_10]) 3 ⟨[(1,iI v2),(7,.ptr 7 0),(8,iI v7),(9,.ptr 9 0)],[(7,List.set (aH ({ v6 with Kids:=[] }:ab)) 58 (.ref 1017)),(9,List.set (aH ({ v6 with Kids:=[] }:ab)) 58 (.ref 1017))],[(1017,⟨55,59,lm aw v6.Kids⟩)],[7,9,1017]⟩ ?_ (by subst h7; kernel_rfl)
    refine gE 1017 ?_
    obtain ⟨h8,h⟩:=au h
    obtain ⟨h9,h⟩:=au h
    obtain ⟨h10,h⟩:=au h
    obtain ⟨h11,h⟩:=au h
    obtain ⟨h12,h⟩:=au h
    refine bH 4 [(26,.ref 26),(27,.ptr 7 58),(28,.sl (lm aw v6.Kids)),(29,iI v7),(30,.sl (lm aw (List.drop ((0:Int)).toNat (List.take v7.toNat v6.Kids)))),(32,.agg (List.set (aH ({ bD with Kind:=1,Node:=9 }:ab)) 58 (.nils))),(33,.sl (lm aw [({ bD with Kind:=1,Node:=9 }:ab)])),(35,.ptr 7 58),(36,.sl (lm aw v6.Kids)),(37,iI v7),(38,.sl (lm aw (List.drop v7.toNat (List.take ((v6.Kids.length:Int)).toNat v6.Kids)))),(40,.ptr 9 58)] [] [(26,⟨55,59,[]⟩)] [appS 31 26 ⟨55,59,lm aw (([]:List ab)++(List.drop ((0:Int)).toNat (List.take v7.toNat v6.Kids)))⟩,appS 34 26 ⟨55,59,lm aw ((([]:List ab)++(List.drop ((0:Int)).toNat (List.take v7.toNat v6.Kids)))++[({ bD with Kind:=1,Node:=9 }:ab)])⟩,appS 39 26 ⟨55,59,lm aw (((([]:List ab)++(List.drop ((0:Int)).toNat (List.take v7.toNat v6.Kids)))++[({ bD with Kind:=1,Node:=9 }:ab)])++(List.drop v7.toNat (List.take ((v6.Kids.length:Int)).toNat v6.Kids)))⟩,stp Try.prog 72 Try.f8 p8_9 15] (az (e_n 0 1 53 26 55 59) (aD [.v 0 4,.v 0 4,.v 0 4] (d_v (g7 aw v6.Kids (0:Int) v7 53 (.tmp 28) none (some (.tmp 29)) 30 (e:=55) (sz:=59) (by kernel_rfl) (by kernel_rfl) (by kernel_rfl) (by kernel_rfl) (by kernel_rfl) (by kernel_rfl) (ce) (fun k hk=>by subst hk; kernel_rfl) h8) (az (e_s (m:=0) (co 31 26 55 59 aw (rfl) (ce) h9)) (aD [.v 0 4] (az (k_v (lo:=0) (k:=2) (bR ⟨(by kernel_rfl),(bT (d7 aw ([({ bD with Kind:=1,Node:=9 }:ab)]:List ab) (new:=[aH ({ bD with Kind:=1,Node:=9 }:ab)]) (by simp only [List.map_cons,List.map_nil,b9])) (by kernel_rfl))⟩ (bR ⟨(by kernel_rfl),(bT (d7 aw ([({ bD with Kind:=1,Node:=9 }:ab)]:List ab) (new:=[aH ({ bD with Kind:=1,Node:=9 }:ab)]) (by simp only [List.map_cons,List.map_nil,b9])) (by kernel_rfl))⟩ cT))) (az (e_s (m:=1) (co 34 26 55 59 aw (rfl) (ce) h10)) (aD [.v 0 4,.v 0 4,.v 0 4] (az (k_v (lo:=0) (k:=3) (bR ⟨(by kernel_rfl),(bT (g7 aw v6.Kids v7 (v6.Kids.length:Int) 53 (.tmp 36) (some (.tmp 37)) none 38 (e:=55) (sz:=59) (by kernel_rfl) (by kernel_rfl) (by kernel_rfl) (by kernel_rfl) (by kernel_rfl) (by kernel_rfl) (ce) (fun k hk=>by subst hk; kernel_rfl) h11) (by kernel_rfl))⟩ (bR ⟨(by kernel_rfl),(bT (g7 aw v6.Kids v7 (v6.Kids.length:Int) 53 (.tmp 36) (some (.tmp 37)) none 38 (e:=55) (sz:=59) (by kernel_rfl) (by kernel_rfl) (by kernel_rfl) (by kernel_rfl) (by kernel_rfl) (by kernel_rfl) (ce) (fun k hk=>by subst hk; kernel_rfl) h11) (by kernel_rfl))⟩ (bR ⟨(by kernel_rfl),(bT (g7 aw v6.Kids v7 (v6.Kids.length:Int) 53 (.tmp 36) (some (.tmp 37)) none 38 (e:=55) (sz:=59) (by kernel_rfl) (by kernel_rfl) (by kernel_rfl) (by kernel_rfl) (by kernel_rfl) (by kernel_rfl) (ce) (fun k hk=>by subst hk; kernel_rfl) h11) (by kernel_rfl))⟩ cT)))) (az (e_s (m:=2) (co 39 26 55 59 aw (rfl) (ce) h12)) (aD [.v 3 1] (az (e_d 3) bI)))))))))))) ?_
    obtain ⟨v8,h13,h⟩:=bind_some h
    have h13:=Option.some.inj h13
    refine bo (ks':=[cF8 p8_11,cF8 p8_12,cF8 p8_0]) 2 ⟨[(1,iI v2),(7,.ptr 7 0),(8,iI v7),(9,.ptr 9 0)],[(7,aH v6),(9,List.set (aH ({ v6 with Kids:=[] }:ab)) 58 (.ref 26))],[(26,⟨55,59,lm aw v8⟩)],[7,9,26]⟩ ?_ (by subst h13; kernel_rfl)
    refine ai 3 (ap (bi aw v6.Kids) (ag ?_))
    rcases aq h with ⟨h14,h⟩ | ⟨h14,h⟩
    ·
     refine aj 45 h14 (ac (ks':=[cF8 p8_13,cF8 p8_14,cF8 p8_0]) 2 (ai 3 ?_))
     obtain ⟨h15,h⟩:=au h
     refine ap (bL aw aH h15 (ce) (b9)) (ag (ac (ks':=[cF8 p8_15,cF8 p8_16,cF8 p8_0]) 1 (ai 1 (ot_bsx 53 1 #[(0,(.tmp 51))] 52 aw ([({ bD with Kind:=3,Text:=⟨#[120]⟩ }:ab)]:List ab) (e:=55) (sz:=59) (new:=[aH ({ bD with Kind:=3,Text:=⟨#[120]⟩ }:ab)]) (by simp only [List.map_cons,List.map_nil,b9]) (aM 4 2 ?_)))))
     obtain ⟨h16,h⟩:=au h
     refine ap (co 55 52 55 59 aw (rfl) (ce) h16) (ag ?_)
     obtain ⟨v9,h17,h⟩:=bind_some h
     have h17:=Option.some.inj h17
     refine bo (ks':=[cF8 p8_16,cF8 p8_0]) 0 ⟨[(1,iI v2),(7,.ptr 7 0),(8,iI v7),(9,.ptr 9 0),(10,.ptr 10 0)],[(7,aH v6),(9,List.set (aH ({ v6 with Kids:=[] }:ab)) 58 (.ref 26)),(10,List.set (aH ({ (gD v6.Kids v7) with Kids:=[] }:ab)) 58 (.ref 52))],[(26,⟨55,59,lm aw v8⟩),(52,⟨55,59,lm aw v9⟩)],[7,9,10,26,52]⟩ ?_ (by subst h17; kernel_rfl)
     refine ai 5 ?_
     obtain ⟨h18,h⟩:=au h
     exact ap (bJ 26 59 aw h18) (dG 52 (ap (cm 26 55 59 0 aw aH ({ (gD v6.Kids v7) with Kids:=v9 }:ab) (aI h18).2 (b9)) (ag (ah 0 (tC hK h)))))
    ·
     exact aj 45 h14 (ah 2 (tC hK h))
end
noncomputable section
variable {K:Kn} {n:Nat} {M:Nat→Prop} {w0:Base} {r:Int} {v1:ae} 
theorem vM (hK:KnOk K) (h:rW K n v1=some r):ACalls Try.prog 33 [.agg (aB v1)] (fun v _=>v=iI r):=by
  refine bg (cat Try.f33 []) Try.func33 Try.ntmps33 fun M w0=>(aZ ⟨[(0,.agg (aB v1))],[],[],[]⟩ ?_)
  unfold rW at h
  refine aQ 5 ?_
  cases h
  exact bz
end
noncomputable section
variable {K:Kn} {n:Nat} {M:Nat→Prop} {w0:Base} {r:Int} {v1:ae} 
theorem uT (hK:KnOk K) (h:re K n v1=some r):ACalls Try.prog 37 [.agg (aB v1)] (fun v _=>v=iI r):=by
  refine bg (cat Try.f37 []) Try.func37 Try.ntmps37 fun M w0=>(aZ ⟨[(0,.agg (aB v1))],[],[],[]⟩ ?_)
  unfold re at h
  refine aQ 5 ?_
  cases h
  exact bz
end
def p72_0:=pth 5 1
def p72_1:=pth 5 10
def p72_2:=pth 6 1
def p72_3:=pth 0 11111
def p72_4:=pth 0 111110
def p72_5:=pth 0 11110
noncomputable section
abbrev cx72 (M:Nat→Prop) (w0:Base):Cx:=⟨Try.prog,58,M,w0⟩
abbrev q72 (M:Nat→Prop) (w0:Base) (r:aa):=bodyPost Try.prog Try.f72 (RetQ M w0 (fun v s=>v = .agg (List.set (aC ({ r with Kids:=[] }:aa)) 66 (.ref 1057))∧look 1057 s.r=some ⟨61,67,lm am r.Kids⟩))
def s72_j2 (v1:ab) (v3:bv) (v4:aS) (v5 v6:Bool):AS:=⟨[(3,.ptr 3 0),(5,.ptr 5 0),(6,.ptr 6 0),(7,.ptr 7 0),(9,.bool v5),(10,.bool v6)],[(3,aH v1),(5,cf v3),(6,List.set (aC aX) 66 (.nils)),(7,bE v4)],[],[3,5,6,7]⟩
def s72_j1 (v1:ab) (v3:bv) (v4:aS) (v5:Bool):AS:=⟨[(3,.ptr 3 0),(5,.ptr 5 0),(6,.ptr 6 0),(7,.ptr 7 0),(8,.bool (v1.Style.Overflow == 0)),(9,.bool v5)],[(3,aH v1),(5,cf v3),(6,List.set (aC aX) 66 (.nils)),(7,bE v4)],[],[3,5,6,7]⟩
variable {K:Kn} {n:Nat} {M:Nat→Prop} {w0:Base} {r:aa} {v1:ab} {v2:Int} {v3:bv} {v4:aS} {v5 v6:Bool} 
abbrev fI (p:List Nat):Kont:=.c (cat Try.f72 p)
theorem qz (hK:KnOk K) (h:j0 K n v1 v3 v4 v5 v6=some r):VE (cx72 M w0) (q72 M w0 r) [fI p72_0] .normal (s72_j2 v1 v3 v4 v5 v6):=by
  unfold j0 at h
  refine ac (ks':=[fI p72_1,fI p72_2]) 1 (ai 5 ?_)
  obtain ⟨v7,h7,h⟩:=bind_some h
  refine cZ 1057 (tv hK h7) (ju (i:=66) (by kernel_rfl)) (ag (aQ 1 ?_))
  cases h
  exact cK
theorem se (hK:KnOk K) (h:nB K n v1 v3 v4 v5=some r):VE (cx72 M w0) (q72 M w0 r) [fI p72_3] .normal (s72_j1 v1 v3 v4 v5):=by
  unfold nB at h
  refine ac (ks':=[fI p72_4,fI p72_0]) 1 (ai 2 ?_)
  rcases aq h with ⟨h4,h⟩ | ⟨h4,h⟩
  ·
   refine aE 33 h4 (aM 8 6 ?_)
   rcases aq h with ⟨h5,h⟩ | ⟨h5,h⟩
   ·
    refine aE 39 h5 (aM 14 6 ?_)
    rcases aq h with ⟨h6,h⟩ | ⟨h6,h⟩
    ·
     exact aE 45 h6 (ag (ah 0 (qz hK h)))
    ·
     exact aE 45 h6 (ag (ah 0 (qz hK h)))
   ·
    exact aE 39 h5 (ag (ah 0 (qz hK h)))
  ·
   exact aE 33 h4 (ag (ah 0 (qz hK h)))
theorem xv (hK:KnOk K) (h:rE K n v1 v2 v3=some r):ACalls Try.prog 72 [.agg (aH v1),iI v2,.agg (cf v3)] (fun v s=>v = .agg (List.set (aC ({ r with Kids:=[] }:aa)) 66 (.ref 1057))∧look 1057 s.r=some ⟨61,67,lm am r.Kids⟩):=by
  refine bg (cat Try.f72 []) Try.func72 Try.ntmps72 fun M w0=>(aZ ⟨[(0,.agg (aH v1)),(1,iI v2),(2,.agg (cf v3))],[],[],[]⟩ ?_)
  unfold rE at h
  refine ac (ks':=[fI [1,0],fI [1,1]]) 3 (ai 3 ?_)
  obtain ⟨v4,h1,h⟩:=bind_some h
  refine aR (sy hK h1) (ag (ac (ks':=[fI p72_5,fI p72_3]) 3 (ai 2 ?_)))
  rcases aq h with ⟨h2,h⟩ | ⟨h2,h⟩
  ·
   refine aE 20 h2 (aM 8 6 ?_)
   rcases aq h with ⟨h3,h⟩ | ⟨h3,h⟩
   ·
    exact aE 26 h3 (ag (ah 0 (se hK h)))
   ·
    exact aE 26 h3 (ag (ah 0 (se hK h)))
  ·
   exact aE 20 h2 (ag (ah 0 (se hK h)))
end
noncomputable section
variable {K:Kn} {n:Nat} {M:Nat→Prop} {w0:Base} {r:aa} {v1:ab} {v2:Int} 
abbrev cF53 (p:List Nat):Kont:=.c (cat Try.f53 p)
theorem g_law17_lay_ok (hK:KnOk K) (h:rM K n v1 v2=some r):ACalls Try.prog 53 [.agg (aH v1),iI v2] (fun v s=>v = .agg (List.set (aC ({ r with Kids:=[] }:aa)) 66 (.ref 8))∧look 8 s.r=some ⟨61,67,lm am r.Kids⟩):=by
  refine bg (cat Try.f53 []) Try.func53 Try.ntmps53 fun M w0=>(aZ ⟨[(0,.agg (aH v1)),(1,iI v2)],[],[],[]⟩ ?_)
  unfold rM at h
  refine ac (ks':=[cF53 [1,0],cF53 [1,1]]) 3 (br [1,2,4] [2,4] [] ?_)
  obtain ⟨v3,h1,h⟩:=bind_some h
  obtain ⟨v4,h2,h⟩:=bind_some h
  refine bH 1 (nu 5 [.agg (aH v1),iI v2,.agg (cf v3),.agg (List.set (aC ({ v4 with Kids:=[] }:aa)) 66 (.ref 8))]) [] [(8,⟨61,67,lm am v4.Kids⟩)] [stp Try.prog 9 Try.f53 [1,0] 4] (aD (vz 2) (az (e_c 0 1 7 (pM hK h1)) (az (e_o 0 1 8 (xv hK h2) (ju (i:=66) (by kernel_rfl))) (az (e_d 0) bI)))) (aQ 1 ?_)
  cases h
  exact cK
end
noncomputable section
variable {K:Kn} {n:Nat} {M:Nat→Prop} {w0:Base} {r:Int×Int} {v1:ab} 
abbrev cF54 (p:List Nat):Kont:=.c (cat Try.f54 p)
theorem w9 (hK:KnOk K) (h:rY K n v1=some r):ACalls Try.prog 54 [.agg (aH v1)] (fun v _=>v = .tup [iI r.1,iI r.2]):=by
  refine bg (cat Try.f54 []) Try.func54 Try.ntmps54 fun M w0=>(aZ ⟨[(0,.agg (aH v1))],[],[],[]⟩ ?_)
  unfold rY at h
  refine ac (ks':=[cF54 [1,0],cF54 [1,1]]) 3 (br [1] [1] [] ?_)
  obtain ⟨v2,h1,h⟩:=bind_some h
  obtain ⟨v3,h2,h⟩:=bind_some h
  refine bH 2 (nu 4 [.agg (aH v1),.agg (cf v2),.tup [iI v3.1,iI v3.2],iI v3.1,iI v3.2]) [] [] [stp Try.prog 9 Try.f54 [1,0] 5,stp Try.prog 9 Try.f54 [1,0] 6] (aD [.v 0 1] (az (e_c 0 1 5 (pM hK h1)) (az (e_c 0 1 6 (tf hK h2)) (aD (vz 2) (az (e_d 0) (az (e_d 1) bI)))))) (aQ 1 ?_)
  cases h
  exact d5
end
def gh:=pth 0 11111
def p55_1:=pth 0 11110100
def p55_2:=pth 0 1111010011
def p55_3:=pth 0 1111010000
def p55_4:=pth 0 1111010001
def p55_5:=pth 0 111101001
def p55_6:=pth 0 111101001000
def p55_7:=pth 0 111101001001
def p55_8:=pth 0 11110100100100
def p55_9:=pth 0 11110100100101
def p55_10:=pth 0 1111010
noncomputable section
abbrev cx55 (M:Nat→Prop) (w0:Base):Cx:=⟨Try.prog,42,M,w0⟩
abbrev q55 (M:Nat→Prop) (w0:Base) (r:(List aa)×Int):=bodyPost Try.prog Try.f55 (RetQ M w0 (fun v s=>v = .tup [.ref 35,iI r.2]∧look 35 s.r=some ⟨61,67,lm am r.1⟩))
abbrev cJ (p:List Nat):Kont:=.c (cat Try.f55 p)
abbrev kH (M:Nat→Prop) (w0:Base) (r:(List aa)×Int) (m1:Nat):Kont:=kl (cx55 M w0) (q55 M w0 r) [.b 0,cJ gh] (cat Try.f55 p55_1) m1
def s55_j1 (v1:List ab) (v2:aG) (v3 v11 v14:Int) (v15:List aa):AS:=⟨[(0,.sl (lm aw v1)),(2,iI v3),(4,.ptr 4 0),(8,.ref 35),(9,iI v14),(10,iI v11)],[(4,aO v2)],[(35,⟨61,67,lm am v15⟩)],[4,35]⟩
def s55_l2 (v1:List ab) (v2:aG) (v3 v10 v11:Int) (v12:List aa):AS:=⟨[(0,.sl (lm aw v1)),(2,iI v3),(4,.ptr 4 0),(8,.ref 35),(9,iI v10),(10,iI v11)],[(4,aO v2)],[(35,⟨61,67,lm am v12⟩)],[4,35]⟩
abbrev H55_1 (M:Nat→Prop) (w0:Base) (r:(List aa)×Int) (v1:List ab) (v2:aG) (v3:Int) (m1:Nat) (L1:Int→Int→(List aa)→Option ((List aa)×Int)):Prop:=∀ {v10:Int} {v11:Int} {v12:(List aa)},L1 v10 v11 v12=some r→LP (cx55 M w0) (q55 M w0 r) [.b 0,cJ gh] (cat Try.f55 p55_1) m1 (s55_l2 v1 v2 v3 v10 v11 v12)
variable {K:Kn} {n:Nat} {M:Nat→Prop} {w0:Base} {r:(List aa)×Int} {v1:List ab} {v2:aG} {v3 v10 v11:Int} {v12:List aa} {v14:Int} {v15:List aa} {m1:Nat} {L1:Int→Int→(List aa)→Option ((List aa)×Int)}
theorem s7 (hK:KnOk K) (hL1:H55_1 M w0 r v1 v2 v3 m1 L1) (h:nO K n v1 v2 v3 v11 L1 v14 v15=some r):VE (cx55 M w0) (q55 M w0 r) [.b 1,cJ p55_2,kH M w0 r m1,.b 0,cJ gh] .normal (s55_j1 v1 v2 v3 v11 v14 v15):=by
  unfold nO at h
  exact ah 2 (aW (hL1 h))
theorem wG (hK:KnOk K) (hL1:H55_1 M w0 r v1 v2 v3 m1 L1) (h:nz K n v1 v2 v3 L1 v10 v11 v12=some r):VE (cx55 M w0) (q55 M w0 r) [cJ p55_1,kH M w0 r m1,.b 0,cJ gh] .normal (s55_l2 v1 v2 v3 v10 v11 v12):=by
  unfold nz at h
  refine ac (ks':=[cJ p55_3,cJ p55_4,cJ p55_5,kH M w0 r m1,.b 0,cJ gh]) 2 (ai 2 (ap (bi aw v1) (ag ?_)))
  rcases aq h with ⟨h13,h⟩ | ⟨h13,h⟩
  ·
   refine aj 14 h13 (ac (ks':=[cJ p55_6,cJ p55_7,.b 1,cJ p55_2,kH M w0 r m1,.b 0,cJ gh]) 5 (ai 2 ?_))
   obtain ⟨h14,h⟩:=au h
   refine ap (bL aw aH h14 (ce) (b9)) (ag ?_)
   obtain ⟨v13,h15,h⟩:=bind_some h
   have h15:=Option.some.inj h15
   refine bo (ks':=[cJ p55_7,.b 1,cJ p55_2,kH M w0 r m1,.b 0,cJ gh]) 0 ⟨[(0,.sl (lm aw v1)),(2,iI v3),(4,.ptr 4 0),(8,.ref 35),(9,iI v10),(10,iI v11),(22,.bool v13)],[(4,aO v2)],[(35,⟨61,67,lm am v12⟩)],[4,35]⟩ ?_ (by subst h15; kernel_rfl)
   rcases aq h with ⟨h16,h⟩ | ⟨h16,h⟩
   ·
    refine aj 22 h16 (ac (ks':=[cJ p55_8,cJ p55_9,.b 1,cJ p55_2,kH M w0 r m1,.b 0,cJ gh]) 2 (br [0,2,4,8,9,10] [4] [35] ?_))
    obtain ⟨h17,h⟩:=au h
    obtain ⟨h18,h⟩:=au h
    exact bH 2 (nu 23 [.ref 35,iI v10,iI v3,.ptr 4 38,iI v2.LineHeight,.sl (lm aw v1),iI v11,.cptr (aH (gD v1 v11)),.cptr (List.drop 55 (aH (gD v1 v11))),.str ((gD v1 v11).Text),.agg (List.set (aC ({ aX with Kind:=2,Y:=v10,W:=v3,H:=v2.LineHeight,Text:=(gD v1 v11).Text }:aa)) 66 (.nils)),.sl (lm am [({ aX with Kind:=2,Y:=v10,W:=v3,H:=v2.LineHeight,Text:=(gD v1 v11).Text }:aa)])]) [] [] [appS 35 35 ⟨61,67,lm am (v12++[({ aX with Kind:=2,Y:=v10,W:=v3,H:=v2.LineHeight,Text:=(gD v1 v11).Text }:aa)])⟩,stp Try.prog 42 Try.f55 p55_8 13] (aD [.v 0 1,.v 0 2,.v 0 2,.v 0 2,.v 0 2,.v 0 2,.v 0 2] (az (k_v (lo:=0) (k:=2) (bR ⟨(by kernel_rfl),(bT (bL aw aH h17 (ce) (b9)) (by kernel_rfl))⟩ (bR ⟨(by kernel_rfl),(bT (bL aw aH h17 (ce) (b9)) (by kernel_rfl))⟩ cT))) (aD [.v 0 2,.v 0 2,.v 0 2] (d_v (d7 am ([({ aX with Kind:=2,Y:=v10,W:=v3,H:=v2.LineHeight,Text:=(gD v1 v11).Text }:aa)]:List aa) (new:=[aC ({ aX with Kind:=2,Y:=v10,W:=v3,H:=v2.LineHeight,Text:=(gD v1 v11).Text }:aa)]) (by simp only [List.map_cons,List.map_nil,cj])) (az (e_s (m:=0) (co 35 35 61 67 am (rfl) (cX) h18)) (az (e_d 1) bI)))))) (ah 1 (s7 hK hL1 h))
   ·
    exact aj 22 h16 (ah 2 (s7 hK hL1 h))
  ·
   refine aj 14 h13 (aQ 8 ?_)
   cases h
   exact eG
theorem wo (hK:KnOk K) (m:Nat):H55_1 M w0 r v1 v2 v3 m (lj K n v1 v2 v3 m):=by
  induction m with
 | zero=>intro v10 v11 v12 h; cases h
 | succ m ih=>intro v10 v11 v12 h; have h:nz K n v1 v2 v3 (lj K n v1 v2 v3 m) v10 v11 v12=some r:=h; exact aV (wG hK ih h)
theorem wK (hK:KnOk K) (h:qy K n v1 v2 v3=some r):ACalls Try.prog 55 [.sl (lm aw v1),.agg (aO v2),iI v3] (fun v s=>v = .tup [.ref 35,iI r.2]∧look 35 s.r=some ⟨61,67,lm am r.1⟩):=by
  refine bg (cat Try.f55 []) Try.func55 Try.ntmps55 fun M w0=>(aZ ⟨[(0,.sl (lm aw v1)),(1,.agg (aO v2)),(2,iI v3)],[],[],[]⟩ ?_)
  unfold qy at h
  exact ac (ks':=[cJ p55_10,.b 0,cJ gh]) 10 (br [0,2,4,8,9,10] [4] [] (dz 35 8 61 67 (ah 0 (bw (p:=p55_10) n (wo hK n h)))))
end
def p56_0:=pth 0 11111
def p56_1:=pth 0 11110100
def p56_2:=pth 0 1111010000
def p56_3:=pth 0 1111010001
def p56_4:=pth 0 111101001
def p56_5:=pth 0 111101001000
def p56_6:=pth 0 111101001001
def p56_7:=pth 0 1111010011
def p56_8:=pth 0 1111010
noncomputable section
abbrev cx56 (M:Nat→Prop) (w0:Base):Cx:=⟨Try.prog,31,M,w0⟩
abbrev q56 (M:Nat→Prop) (w0:Base) (r:Int×Int):=bodyPost Try.prog Try.f56 (RetQ M w0 (fun v _=>v = .tup [iI r.1,iI r.2]))
abbrev eX (p:List Nat):Kont:=.c (cat Try.f56 p)
abbrev k56_1 (M:Nat→Prop) (w0:Base) (r:Int×Int) (m1:Nat):Kont:=kl (cx56 M w0) (q56 M w0 r) [.b 0,eX p56_0] (cat Try.f56 p56_1) m1
def s56_l1 (v1:List ab) (v3 v4 v5:Int):AS:=⟨[(0,.sl (lm aw v1)),(6,iI v3),(7,iI v4),(8,iI v5)],[],[],[]⟩
abbrev H56_1 (M:Nat→Prop) (w0:Base) (r:Int×Int) (v1:List ab) (m1:Nat) (L1:Int→Int→Int→Option (Int×Int)):Prop:=∀ {v3:Int} {v4:Int} {v5:Int},L1 v3 v4 v5=some r→LP (cx56 M w0) (q56 M w0 r) [.b 0,eX p56_0] (cat Try.f56 p56_1) m1 (s56_l1 v1 v3 v4 v5)
variable {K:Kn} {n:Nat} {M:Nat→Prop} {w0:Base} {r:Int×Int} {v1:List ab} {v2:aG} {v3 v4 v5:Int} {m1:Nat} {L1:Int→Int→Int→Option (Int×Int)}
theorem wh (hK:KnOk K) (hL1:H56_1 M w0 r v1 m1 L1) (h:nI K n v1 L1 v3 v4 v5=some r):VE (cx56 M w0) (q56 M w0 r) [eX p56_1,k56_1 M w0 r m1,.b 0,eX p56_0] .normal (s56_l1 v1 v3 v4 v5):=by
  unfold nI at h
  refine ac (ks':=[eX p56_2,eX p56_3,eX p56_4,k56_1 M w0 r m1,.b 0,eX p56_0]) 2 (ai 2 (ap (bi aw v1) (ag ?_)))
  rcases aq h with ⟨h3,h⟩ | ⟨h3,h⟩
  ·
   refine aj 13 h3 (ac (ks':=[eX p56_5,eX p56_6,.b 1,eX p56_7,k56_1 M w0 r m1,.b 0,eX p56_0]) 5 (ai 2 ?_))
   obtain ⟨h4,h⟩:=au h
   exact ap (bL aw aH h4 (ce) (b9)) (ag (ah 5 (aW (hL1 h))))
  ·
   refine aj 13 h3 (aQ 8 ?_)
   cases h
   exact d5
theorem wt (hK:KnOk K) (m:Nat):H56_1 M w0 r v1 m (jZ K n v1 m):=by
  induction m with
 | zero=>intro v3 v4 v5 h; cases h
 | succ m ih=>intro v3 v4 v5 h; have h:nI K n v1 (jZ K n v1 m) v3 v4 v5=some r:=h; exact aV (wh hK ih h)
theorem wD (hK:KnOk K) (h:qK K n v1 v2=some r):ACalls Try.prog 56 [.sl (lm aw v1),.agg (aO v2)] (fun v _=>v = .tup [iI r.1,iI r.2]):=by
  refine bg (cat Try.f56 []) Try.func56 Try.ntmps56 fun M w0=>(aZ ⟨[(0,.sl (lm aw v1)),(1,.agg (aO v2))],[],[],[]⟩ ?_)
  unfold qK at h
  exact ah 10 (bw (p:=p56_8) n (wt hK n h))
end
noncomputable section
variable {K:Kn} {n:Nat} {M:Nat→Prop} {w0:Base} {r:Bool} {v1:Int} 
theorem uF (hK:KnOk K) (h:rT K n v1=some r):ACalls Try.prog 62 [iI v1] (fun v _=>v = .bool r):=by
  refine bg (cat Try.f62 []) Try.func62 Try.ntmps62 fun M w0=>(aZ ⟨[(0,iI v1)],[],[],[]⟩ ?_)
  unfold rT at h
  refine aQ 5 ?_
  cases h
  exact bz
end
end Go.Proofs.Ytolhpahjgddjkaa

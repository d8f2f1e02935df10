/- The runs of the functions that RelayoutChanged reaches do what their plain forms say, part 3. Made by a program. -/
import Derived.Test.YtocgkfoifehcbaaGreatRcGk
import Derived.Test.YtocgkfoifehcbaaGreatRcP2
namespace Go.Proofs.YtocgkfoifehcbaaGreat
open Go.RowKit
set_option maxRecDepth 20000
set_option linter.all false
set_option linter.unusedVariables false
set_option linter.unusedSimpArgs false
noncomputable section
variable[GS](M:Nat→Prop)(w0:aB)(r:(List aj)×Int)(v1:List ah)(v2:aX)(v3:Int)(v4:bH)(v5:List aD)(v6:List Int)(v13 v14 v15:Int)(v16:List aj)(m1:Nat)(L1:Int→Int→Int→(List aj)→Option ((List aj)×Int))
abbrev zK:Cx:=⟨Tryz.prog,61,M,w0⟩
abbrev Ee:=bodyPost Tryz.prog Tryz.f53 (bC M w0 (fun v s=>v=.tup [.ref 57,iI r.2]∧look 57 s.r=some ⟨44,67,lm aL r.1⟩))
abbrev Sj(ks:List ao)(s:AS):=VE (zK M w0) (Ee M w0 r) ks .normal s
abbrev KH(n:Nat):ao:=.c (cat Tryz.f53 (pn n))
abbrev BR:List ao:=[.b 0,KH 63]
abbrev Vg:List ao:=kl (zK M w0) (Ee M w0 r) BR (cat Tryz.f53 (pn 500)) m1::BR
def Kv:AS:=⟨[(2,iI (min (max v3 0) 1048576)),(5,.ptr 5 0),(8,.ref 57),(9,iI v13),(10,.sl (lm aS v5)),(11,.ref 1023),(30,iI v14),(31,iI v15)],[(5,aE v2)],[(57,⟨44,67,lm aL v16⟩),(1023,⟨3,1,lm (af .i64) (v6++[(v5.length:Int)])⟩)],[5,57,1023]⟩
abbrev Ox:Prop:=∀{v13:Int} {v14:Int} {v15:Int} {v16:(List aj)},L1 v13 v14 v15 v16=some r→LP (zK M w0) (Ee M w0 r) BR (cat Tryz.f53 (pn 500)) m1 (Kv v2 v3 v5 v6 v13 v14 v15 v16)
variable{M w0 r v1 v2 v3 v4 v5 v6 v13 v14 v15 v16 m1 L1}{K:Kn}{n:Nat}
theorem St(hK:ak K)(hL1:Ox M w0 r v2 v3 v5 v6 m1 L1)(h:vw K n v2 v3 v5 v6 L1 v13 v14 v15 v16=some r):Sj M w0 r (KH 500::Vg M w0 r m1) (Kv v2 v3 v5 v6 v13 v14 v15 v16):=by
 unfold vw at h;refine av 6 7 3 ?_;obtain⟨h20,h⟩|⟨h20,h⟩:=am h
 ·refine ae 32 h20 (cr 18 19 1 3 7 (bA [2,5,8,9,10,11,12,30,31] [5] [57,1023] ?_));obtain⟨h21,h⟩:=ax h;obtain⟨h22,h⟩:=ax h;obtain⟨h23,h⟩:=ax h;obtain⟨v17,h24,h⟩:=bind_some h;refine bw 1 (nu 34 [.sl (lm aS v5),.ref 1023,iI v15,.eptr 1023 1 (v15.toNat) 0,iI (gD (v6++[(v5.length:Int)]) v15),.ref 1023,iI v15,iI (aa (v15+1)),.eptr 1023 1 (((aa (v15+1))).toNat) 0,iI (gD (v6++[(v5.length:Int)]) ((aa (v15+1)))),.sl (lm aS (List.drop ((gD (v6++[(v5.length:Int)]) v15)).toNat (List.take ((gD (v6++[(v5.length:Int)]) ((aa (v15+1))))).toNat v5))),.agg (aE v2),iI (min (max v3 0) 1048576),.agg (List.set (aI ({ v17 with Kids:=[] }:aj)) 66 (.ref 47))]++nu 13 [.ptr 13 0]) [(13,List.set (aI bQ) 66 (.nils))] [(47,⟨44,67,lm aL v17.Kids⟩)] [bS Tryz.prog 61 Tryz.f53 (pn 32050) 15] (aq (vz 3) (aR (bO 1023 1 (af .i64) (L:=(v6++[(v5.length:Int)])) h21) (aR (br 3 0 (af .i64) (af .i64) (bf h21).2 ((fun _=>rfl))) (aq (vz 3) (aR (bO 1023 1 (af .i64) (L:=(v6++[(v5.length:Int)])) h22) (aR (br 3 0 (af .i64) (af .i64) (bf h22).2 ((fun _=>rfl))) (aR (fF aS v5 (gD (v6++[(v5.length:Int)]) v15) (gD (v6++[(v5.length:Int)]) ((aa (v15+1)))) 159 (.tmp 34) (some (.tmp 38)) (some (.tmp 43)) 44 (e:=165) (sz:=62) (by kernel_rfl) (by kernel_rfl) (by kernel_rfl) (by kernel_rfl) (by kernel_rfl) (by kernel_rfl) (fj) (fun k hk=>by subst hk;kernel_rfl) h23) (aq (vz 2) (ag (rq 0 1 47 (XO hK h24) (sZ (i:=66) (by kernel_rfl))) (ag (i7 0 1 44 13 (List.set (aI bQ) 66 (.nils))) (ag (bU 0) bz))))))))))) (bd 7 4 (ai 2 (iV 47 (au (eJ aL ([({ v17 with Y:=v13 }:aj)]:List aj) (new:=[aI ({ v17 with Y:=v13 }:aj)]) (by simp only[List.map_cons,List.map_nil,c9])) ?_))))
  obtain⟨h25,h⟩:=ax h;exact au (cc 57 57 44 67 aL (rfl) (hZ) h25) (ab (ac 2 (bc (hL1 h))))
 ·refine ae 32 h20 (aJ 8 ?_);cases h;exact gc
theorem Pk(hK:ak K)(m:Nat):Ox M w0 r v2 v3 v5 v6 m (wc K n v2 v3 v5 v6 m):=by
 induction m with
 | zero=>intro v13 v14 v15 v16 h;cases h
 | succ m ih=>intro v13 v14 v15 v16 h;have h:vw K n v2 v3 v5 v6 (wc K n v2 v3 v5 v6 m) v13 v14 v15 v16=some r:=h;exact aZ (St hK ih h)
theorem aam(hK:ak K)(h:Cs K n v1 v2 v3 v4=some r):aW Tryz.prog 53 [.sl (lm aF v1),.agg (aE v2),iI v3,.agg (bG v4)] (fun v s=>v=.tup [.ref 57,iI r.2]∧look 57 s.r=some ⟨44,67,lm aL r.1⟩):=by
 refine bB (cat Tryz.f53 (pn 1)) Tryz.func53 Tryz.ntmps53 fun M w0=>(ba ⟨[(0,.sl (lm aF v1)),(1,.agg (aE v2)),(2,iI v3),(3,.agg (bG v4))],[],[],[]⟩ ?_);unfold Cs at h;refine av 14 15 5 (ai 3 ?_);obtain⟨v5,h1,h⟩:=bind_some h;refine dI 1020 (QP hK h1) (dt 1009) (ab (av 2 3 1 (ai 2 (iV 1020 ?_))));obtain⟨v6,h2,h⟩:=bind_some h;refine dI 1023 (ZO hK h2) (dt 16) (aO 4 1 (au (bj aS v5) (aO 6 1 ?_)));obtain⟨h3,h⟩:=ax h;exact au (cc 27 1023 3 1 (af .i64) (rfl) ((fun _=>rfl)) h3) (ab (bN 4 5 3 2 (ai 1 (au (bj (af .i64) (v6++[(v5.length:Int)])) (ab (eW 2 0 1 (bA [2,5,8,9,10,11,30,31] [5] [1023] (dw 57 8 44 67 (ac 0 (bK (p:=pn 250) n (Pk hK n h)))))))))))
end
noncomputable section
variable[GS](M:Nat→Prop)(w0:aB)(r:(List aj)×Int)(v1:List ah)(v2:aX)(v3:Int)(v4:bH)  
variable{M w0 r v1 v2 v3 v4}{K:Kn}{n:Nat}
theorem YJ(hK:ak K)(h:Dq K n v1 v2 v3 v4=some r):aW Tryz.prog 52 [.sl (lm aF v1),.agg (aE v2),iI v3,.cptr (bG v4)] (fun v s=>v=.tup [.ref 1013,iI r.2]∧look 1013 s.r=some ⟨44,67,lm aL r.1⟩):=by
 refine bB (cat Tryz.f52 (pn 1)) Tryz.func52 Tryz.ntmps52 fun M w0=>(ba ⟨[(0,.sl (lm aF v1)),(1,.agg (aE v2)),(2,iI v3),(3,.cptr (bG v4))],[],[],[]⟩ ?_);unfold Dq at h;refine av 6 7 3 (ai 4 ?_);obtain⟨v5,h1,h⟩:=bind_some h;refine dI 1013 (aam hK h1) (vq (i:=0) rfl) (ab (aJ 1 ?_));cases h;exact gc
end
noncomputable section
variable[GS](M:Nat→Prop)(w0:aB)(r:aD×(List Int))(v1:ah)(v2:bH)(v3:List Int)  
variable{M w0 r v1 v2 v3}{K:Kn}{n:Nat}
theorem WT(hK:ak K)(h:C2 K n v1 v2 v3=some r):ex Tryz.prog 113 [.agg (ap v1),.cptr (bG v2),.ptr 1 0] [(1,[.ref 9])] 9 ⟨3,1,lm (af .i64) v3⟩ [9,1,1000001] (fun v s=>v=.agg (aS r.1)∧bW s.o [(1,[.ref 9])]∧look 9 s.r=some ⟨3,1,lm (af .i64) r.2⟩):=by
 refine gA (c:=cat Tryz.f113 (pn 1)) Tryz.func113 (by kernel_rfl) _ Tryz.ntmps113 (of_decide_eq_true (by kernel_rfl)) fun M w0=>(ba ⟨[(0,.agg (ap v1)),(1,.cptr (bG v2)),(2,.ptr 1 0)],[(1,[.ref 9])],[(9,⟨3,1,lm (af .i64) v3⟩)],[9,1,1000001]⟩ ?_);unfold C2 at h;refine av 6 7 3 (ai 3 ?_);obtain⟨v4,h1,h⟩:=bind_some h;refine hF (hK.ii h1) (ab (av 2 3 1 (ai 3 ?_)));obtain⟨h2,h⟩:=ax h;refine au (cc 17 9 3 1 (af .i64) (rfl) ((fun _=>rfl)) h2) (ab (aJ 3 (jb 4 ?_)));cases h;exact dD
end
noncomputable section
variable[GS](M:Nat→Prop)(w0:aB)(r:aD×Int×(List Int))(v1:ah)(v2:Int)(v3:List Int)  
variable{M w0 r v1 v2 v3}{K:Kn}{n:Nat}
theorem Q1(hK:ak K)(h:Fs K n v1 v2 v3=some r):ex Tryz.prog 114 [.agg (ap v1),.ptr 1 0,.ptr 2 0] [(1,[iI v2]),(2,[.ref 9])] 9 ⟨3,1,lm (af .i64) v3⟩ [9,1,2,1000001,1000002] (fun v s=>v=.agg (aS r.1)∧bW s.o [(1,[iI r.2.1]),(2,[.ref 9])]∧look 9 s.r=some ⟨3,1,lm (af .i64) r.2.2⟩):=by
 refine gA (c:=cat Tryz.f114 (pn 1)) Tryz.func114 (by kernel_rfl) _ Tryz.ntmps114 (of_decide_eq_true (by kernel_rfl)) fun M w0=>(ba ⟨[(0,.agg (ap v1)),(1,.ptr 1 0),(2,.ptr 2 0)],[(1,[iI v2]),(2,[.ref 9])],[(9,⟨3,1,lm (af .i64) v3⟩)],[9,1,2,1000001,1000002]⟩ ?_);unfold Fs at h;refine av 14 15 5 (ai 3 ?_);obtain⟨h1,h⟩:=ax h;refine au (ca 9 1 (af .i64) h1) (au (br 3 0 (af .i64) (af .i64) (bf h1).2 ((fun _=>rfl))) (ab (aJ 1 (jb 4 ?_))));cases h;exact dD
end
noncomputable section
variable[GS](M:Nat→Prop)(w0:aB)(r:(List aD)×(List Int))(v1:List ah)(v2:bH)(v3:List Int)(v4:List bh)(v33:Int)(v34:List Int)(v35:List aD)(v37:Bool)(v43:Int)(v45:Bool)(v47:Int)(v48:List Int)(v49:aD)(m1 m2:Nat)(L1:Int→(List Int)→(List aD)→Option ((List aD)×(List Int)))(L2:Int→Option ((List aD)×(List Int)))
abbrev o6:Cx:=⟨Tryz.prog,120,M,w0⟩
abbrev qE:=bodyPost Tryz.prog Tryz.f112 (bC M w0 (fun v s=>v=.sl (lm aS r.1)∧bW s.o [(1,[.ref 9])]∧look 9 s.r=some ⟨3,1,lm (af .i64) r.2⟩))
abbrev pj(ks:List ao)(s:AS):=VE (o6 M w0) (qE M w0 r) ks .normal s
abbrev d9(n:Nat):ao:=.c (cat Tryz.f112 (pn n))
abbrev FF:List ao:=[.b 0,d9 31]
abbrev iq:List ao:=kl (o6 M w0) (qE M w0 r) FF (cat Tryz.f112 (pn 244)) m1::FF
abbrev BA:List ao:=.b 3::d9 4009823 :: .b 2::d9 31327 :: .b 1::iq M w0 r m1
abbrev M8:List ao:=kl (o6 M w0) (qE M w0 r) (BA M w0 r m1) (cat Tryz.f112 (pn 16039288)) m2::(BA M w0 r m1)
def P0:AS:=⟨[(1,.fno 113 [.cptr (bG v2),.ptr 1 0]),(5,.sl (lm aw v4)),(6,.ref 117),(8,.ptr 8 0),(9,.bool v37),(10,.ptr 10 0),(11,iI v47)],[(1,[.ref 9]),(8,aw (gD v4 v33)),(10,aS v49)],[(9,⟨3,1,lm (af .i64) v48⟩),(117,⟨165,62,lm aS v35⟩)],[1,8,10,9,117,1000001,1]⟩
def Yl:AS:=⟨[(1,.fno 113 [.cptr (bG v2),.ptr 1 0]),(5,.sl (lm aw v4)),(6,.ref 117),(7,iI v33),(8,.ptr 8 0),(9,.bool v37),(10,.ptr 10 0),(11,iI v43),(81,.bool v45)],[(1,[.ref 9]),(8,aw (gD v4 v33)),(10,List.set (aS cQ) 61 (.nils))],[(9,⟨3,1,lm (af .i64) v34⟩),(117,⟨165,62,lm aS v35⟩)],[1,8,10,9,117,1000001,1]⟩
def G6:AS:=⟨[(1,.fno 113 [.cptr (bG v2),.ptr 1 0]),(5,.sl (lm aw v4)),(6,.ref 117),(7,iI v33),(8,.ptr 8 0),(9,.bool v37),(10,.ptr 10 0),(11,iI v43)],[(1,[.ref 9]),(8,aw (gD v4 v33)),(10,List.set (aS cQ) 61 (.nils))],[(9,⟨3,1,lm (af .i64) v34⟩),(117,⟨165,62,lm aS v35⟩)],[1,8,10,9,117,1000001,1]⟩
def XH:AS:=⟨[(1,.fno 113 [.cptr (bG v2),.ptr 1 0]),(5,.sl (lm aw v4)),(6,.ref 117),(7,iI v33),(8,.ptr 8 0),(9,.bool v37)],[(1,[.ref 9]),(8,aw (gD v4 v33))],[(9,⟨3,1,lm (af .i64) v34⟩),(117,⟨165,62,lm aS v35⟩)],[1,8,9,117,1000001,1]⟩
def NO:AS:=⟨[(1,.fno 113 [.cptr (bG v2),.ptr 1 0]),(5,.sl (lm aw v4)),(6,.ref 117),(7,iI v33)],[(1,[.ref 9])],[(9,⟨3,1,lm (af .i64) v34⟩),(117,⟨165,62,lm aS v35⟩)],[1,9,117,1000001,1]⟩
abbrev km:Prop:=∀{v33:Int} {v34:(List Int)} {v35:(List aD)},L1 v33 v34 v35=some r→LP (o6 M w0) (qE M w0 r) FF (cat Tryz.f112 (pn 244)) m1 (NO v2 v4 v33 v34 v35)
abbrev Ak:Prop:=∀{v43:Int},L2 v43=some r→LP (o6 M w0) (qE M w0 r) (BA M w0 r m1) (cat Tryz.f112 (pn 16039288)) m2 (G6 v2 v4 v33 v34 v35 v37 v43)
variable{M w0 r v1 v2 v3 v4 v33 v34 v35 v37 v43 v45 v47 v48 v49 m1 m2 L1 L2}{K:Kn}{n:Nat}
theorem AG(hK:ak K)(hL1:km M w0 r v2 v4 m1 L1)(h:qa K n v2 v4 v33 v35 v37 L1 v47 v48 v49=some r):pj M w0 r (.b 2::d9 31327 :: .b 1::iq M w0 r m1) (P0 v2 v4 v33 v35 v37 v47 v48 v49):=by
 unfold qa at h;refine dQ 2 3 2 (bA [1,5,6,8,9,10,11] [1,8,10] [9,117] (bw 3 (nu 100 [.ptr 8 4,.cptr (ap ((gD v4 v33).Box)),.cptr (ap ((gD v4 v33).Box)),.cptr (List.drop 1 (ap ((gD v4 v33).Box))),iI (((gD v4 v33).Box).Node),.ptr 8 4,.cptr (ap ((gD v4 v33).Box)),.cptr (ap ((gD v4 v33).Box)),.cptr (List.drop 2 (ap ((gD v4 v33).Box))),.agg (aE (((gD v4 v33).Box).Style)),.bool v37,.ptr 10 0,.ptr 10 2,.ptr 10 59]) [] [] [bS Tryz.prog 120 Tryz.f112 (pn 62654) 12,bS Tryz.prog 120 Tryz.f112 (pn 62654) 14,bS Tryz.prog 120 Tryz.f112 (pn 62654) 16] (aq [.v 0 1,.v 0 1,.v 0 1,.v 0 1,.v 0 1,.v 0 2,.v 0 2,.v 0 2,.v 0 2,.v 0 2,.v 0 3,.v 0 1] (ag (bU 0) (aq [.v 1 1] (ag (bU 1) (aq [.v 2 1] (ag (bU 2) bz)))))) ?_));obtain⟨v50,h94,h⟩:=bF h;obtain⟨v51,h95,h⟩:=bF h;refine bm (ks':=d9 125310::d9 125311 :: .b 1::iq M w0 r m1) 1 ⟨[(1,.fno 113 [.cptr (bG v2),.ptr 1 0]),(5,.sl (lm aw v4)),(6,.ref 117),(10,.ptr 10 0),(11,iI v47)],[(1,[.ref 9]),(10,aS ({ v49 with Node:=v50,Style:=v51,Glued:=v37 }:aD))],[(9,⟨3,1,lm (af .i64) v48⟩),(117,⟨165,62,lm aS v35⟩)],[1,10,9,117,1000001,1]⟩ ?_ (by subst h95;subst h94;kernel_rfl)
 refine ai 3 ?_;obtain⟨h96,h⟩:=ax h;exact au (cc 117 117 165 62 aS (rfl) (fj) h96) (ab (ac 2 (bc (hL1 h))))
theorem sC(hK:ak K)(hL1:km M w0 r v2 v4 m1 L1)(hL2:Ak M w0 r v2 v4 v33 v34 v35 v37 m1 m2 L2)(h:mD K n v2 v4 v33 v34 v35 v37 v43 L1 L2 v45=some r):pj M w0 r (d9 64157153::d9 32078577::M8 M w0 r m1 m2) (Yl v2 v4 v33 v34 v35 v37 v43 v45):=by
 unfold mD at h;obtain⟨h91,h⟩|⟨h91,h⟩:=am h
 ·exact ae 81 h91 (ac 5 (bc (hL2 h)))
 ·refine ae 81 h91 (bM (ks':=d9 4009823 :: .b 2::d9 31327 :: .b 1::iq M w0 r m1) 5 (ai 3 ?_));obtain⟨h92,h⟩:=ax h;refine au (fF aw v4 v33 v43 206 (.tmp 84) (some (.tmp 85)) (some (.tmp 86)) 87 (e:=210) (sz:=5) (by kernel_rfl) (by kernel_rfl) (by kernel_rfl) (by kernel_rfl) (by kernel_rfl) (by kernel_rfl) (cB) (fun k hk=>by subst hk;kernel_rfl) h92) ?_;obtain⟨v46,h93,h⟩:=bind_some h;exact aP (E0 hK h93) (ab (ac 0 (AG hK hL1 h)))
theorem Ql(hK:ak K)(hL1:km M w0 r v2 v4 m1 L1)(hL2:Ak M w0 r v2 v4 v33 v34 v35 v37 m1 m2 L2)(h:yO K n v2 v4 v33 v34 v35 v37 L1 L2 v43=some r):pj M w0 r (d9 16039288::M8 M w0 r m1 m2) (G6 v2 v4 v33 v34 v35 v37 v43):=by
 unfold yO at h;refine bN 4 5 3 2 (bA [1,5,6,7,8,9,10,11] [1,8,10] [9,117] ?_);obtain⟨h83,h⟩|⟨h83,h⟩:=am h
 ·obtain⟨h84,h⟩:=ax h;obtain⟨h85,h⟩|⟨h85,h⟩:=am h
  ·obtain⟨h86,h⟩:=ax h;obtain⟨h87,h⟩|⟨h87,h⟩:=am h
   ·obtain⟨h88,h⟩:=ax h;obtain⟨h89,h⟩:=ax h;obtain⟨v44,h90,h⟩:=bind_some h;exact bw 0 (nu 47 [iI v43,.sl (lm aw v4),iI (v4.length:Int),.bool (decide (v43<(v4.length:Int))),.bool true,.sl (lm aw v4),iI v43,.cptr (aw (gD v4 v43)),.cptr (List.drop 0 (aw (gD v4 v43))),iI ((gD v4 v43).Kind),.bool (((gD v4 v43).Kind) == 1),.bool (((gD v4 v43).Kind) == 1),.bool true,.sl (lm aw v4),iI v43,.cptr (aw (gD v4 v43)),.cptr (List.drop 1 (aw (gD v4 v43))),iI ((gD v4 v43).Of),.ptr 8 1,iI ((gD v4 v33).Of),.bool (((gD v4 v43).Of) == ((gD v4 v33).Of)),.bool (((gD v4 v43).Of) == ((gD v4 v33).Of)),.bool true,.sl (lm aw v4),iI v43,iI (aa (v43-1)),.cptr (aw (gD v4 ((aa (v43-1))))),.agg (aw (gD v4 ((aa (v43-1))))),.sl (lm aw v4),iI v43,.cptr (aw (gD v4 v43)),.agg (aw (gD v4 v43)),.bool v44,.bool (!v44),.bool (!v44)]) [] [] [] (aq (vz 2) (aR (bj aw v4) (aq [.v 0 1] (ag (cm 0 51 (e:=(decide (v43<(v4.length:Int)))) (b:=true) h83) (aq (vz 2) (aR (bu aw aw h84 (cB) ((fun _=>rfl))) (aq (vz 4) (ag (cm 0 59 (e:=(((gD v4 v43).Kind) == 1)) (b:=true) h85) (aq (vz 2) (aR (bu aw aw h86 (cB) ((fun _=>rfl))) (aq (vz 6) (ag (cm 0 69 (e:=(((gD v4 v43).Of) == ((gD v4 v33).Of))) (b:=true) h87) (aq (vz 3) (aR (bu aw aw h88 (cB) ((fun _=>rfl))) (aq (vz 3) (aR (bu aw aw h89 (cB) ((fun _=>rfl))) (aq [.v 0 1] (ag (bL 0 1 79 (mH hK h90)) (aq (vz 2) bz))))))))))))))))))) (ac 0 (sC hK hL1 hL2 h))
   ·exact bw 0 (nu 47 [iI v43,.sl (lm aw v4),iI (v4.length:Int),.bool (decide (v43<(v4.length:Int))),.bool true,.sl (lm aw v4),iI v43,.cptr (aw (gD v4 v43)),.cptr (List.drop 0 (aw (gD v4 v43))),iI ((gD v4 v43).Kind),.bool (((gD v4 v43).Kind) == 1),.bool (((gD v4 v43).Kind) == 1),.bool true,.sl (lm aw v4),iI v43,.cptr (aw (gD v4 v43)),.cptr (List.drop 1 (aw (gD v4 v43))),iI ((gD v4 v43).Of),.ptr 8 1,iI ((gD v4 v33).Of),.bool (((gD v4 v43).Of) == ((gD v4 v33).Of)),.bool (((gD v4 v43).Of) == ((gD v4 v33).Of)),.bool false,.tup [],.tup [],.tup [],.tup [],.tup [],.tup [],.tup [],.tup [],.tup [],.tup [],.tup [],.bool false]) [] [] [] (aq (vz 2) (aR (bj aw v4) (aq [.v 0 1] (ag (cm 0 51 (e:=(decide (v43<(v4.length:Int)))) (b:=true) h83) (aq (vz 2) (aR (bu aw aw h84 (cB) ((fun _=>rfl))) (aq (vz 4) (ag (cm 0 59 (e:=(((gD v4 v43).Kind) == 1)) (b:=true) h85) (aq (vz 2) (aR (bu aw aw h86 (cB) ((fun _=>rfl))) (aq (vz 6) (ag (cm 0 69 (e:=(((gD v4 v43).Of) == ((gD v4 v33).Of))) (b:=false) h87) (ag (ay 0 1) (ag (ay 0 1) (ag (ay 0 1) (ag (ay 0 1) (ag (ay 0 1) (ag (ay 0 1) (ag (ay 0 1) (ag (ay 0 1) (ag (ay 0 1) (ag (ay 0 1) (ag (ay 0 1) (aq [.v 0 1] bz)))))))))))))))))))))))) (ac 0 (sC hK hL1 hL2 h))
  ·exact bw 0 (nu 47 [iI v43,.sl (lm aw v4),iI (v4.length:Int),.bool (decide (v43<(v4.length:Int))),.bool true,.sl (lm aw v4),iI v43,.cptr (aw (gD v4 v43)),.cptr (List.drop 0 (aw (gD v4 v43))),iI ((gD v4 v43).Kind),.bool (((gD v4 v43).Kind) == 1),.bool (((gD v4 v43).Kind) == 1),.bool false,.tup [],.tup [],.tup [],.tup [],.tup [],.tup [],.tup [],.tup [],.bool false,.bool false,.tup [],.tup [],.tup [],.tup [],.tup [],.tup [],.tup [],.tup [],.tup [],.tup [],.tup [],.bool false]) [] [] [] (aq (vz 2) (aR (bj aw v4) (aq [.v 0 1] (ag (cm 0 51 (e:=(decide (v43<(v4.length:Int)))) (b:=true) h83) (aq (vz 2) (aR (bu aw aw h84 (cB) ((fun _=>rfl))) (aq (vz 4) (ag (cm 0 59 (e:=(((gD v4 v43).Kind) == 1)) (b:=false) h85) (ag (ay 0 1) (ag (ay 0 1) (ag (ay 0 1) (ag (ay 0 1) (ag (ay 0 1) (ag (ay 0 1) (ag (ay 0 1) (ag (ay 0 1) (aq (vz 2) (ag (ay 0 1) (ag (ay 0 1) (ag (ay 0 1) (ag (ay 0 1) (ag (ay 0 1) (ag (ay 0 1) (ag (ay 0 1) (ag (ay 0 1) (ag (ay 0 1) (ag (ay 0 1) (ag (ay 0 1) (aq [.v 0 1] bz))))))))))))))))))))))))))))) (ac 0 (sC hK hL1 hL2 h))
 ·exact bw 0 (nu 47 [iI v43,.sl (lm aw v4),iI (v4.length:Int),.bool (decide (v43<(v4.length:Int))),.bool false,.tup [],.tup [],.tup [],.tup [],.tup [],.tup [],.bool false,.bool false,.tup [],.tup [],.tup [],.tup [],.tup [],.tup [],.tup [],.tup [],.bool false,.bool false,.tup [],.tup [],.tup [],.tup [],.tup [],.tup [],.tup [],.tup [],.tup [],.tup [],.tup [],.bool false]) [] [] [] (aq (vz 2) (aR (bj aw v4) (aq [.v 0 1] (ag (cm 0 51 (e:=(decide (v43<(v4.length:Int)))) (b:=false) h83) (ag (ay 0 1) (ag (ay 0 1) (ag (ay 0 1) (ag (ay 0 1) (ag (ay 0 1) (ag (ay 0 1) (aq (vz 2) (ag (ay 0 1) (ag (ay 0 1) (ag (ay 0 1) (ag (ay 0 1) (ag (ay 0 1) (ag (ay 0 1) (ag (ay 0 1) (ag (ay 0 1) (aq (vz 2) (ag (ay 0 1) (ag (ay 0 1) (ag (ay 0 1) (ag (ay 0 1) (ag (ay 0 1) (ag (ay 0 1) (ag (ay 0 1) (ag (ay 0 1) (ag (ay 0 1) (ag (ay 0 1) (ag (ay 0 1) (aq [.v 0 1] bz)))))))))))))))))))))))))))))))) (ac 0 (sC hK hL1 hL2 h))
theorem PV(hK:ak K)(hL1:km M w0 r v2 v4 m1 L1)(m:Nat):Ak M w0 r v2 v4 v33 v34 v35 v37 m1 m (yf K n v2 v4 v33 v34 v35 v37 L1 m):=by
 induction m with
 | zero=>intro v43 h;cases h
 | succ m ih=>intro v43 h;have h:yO K n v2 v4 v33 v34 v35 v37 L1 (yf K n v2 v4 v33 v34 v35 v37 L1 m) v43=some r:=h;exact aZ (Ql hK hL1 ih h)
theorem AE(hK:ak K)(hL1:km M w0 r v2 v4 m1 L1)(h:pW K n v2 v4 v33 v34 v35 L1 v37=some r):pj M w0 r (d9 3915 :: .b 1::iq M w0 r m1) (XH v2 v4 v33 v34 v35 v37):=by
 unfold pW at h;obtain⟨v38,h69,h⟩:=bF h;refine bm (ks':=d9 250613 :: .b 2::d9 31327 :: .b 1::iq M w0 r m1) 10 ⟨[(1,.fno 113 [.cptr (bG v2),.ptr 1 0]),(5,.sl (lm aw v4)),(6,.ref 117),(7,iI v33),(8,.ptr 8 0),(9,.bool v37),(10,.ptr 10 0),(11,iI (aa (v33+1))),(46,iI ((gD v4 v33).Kind)),(89,.bool v38)],[(1,[.ref 9]),(8,aw (gD v4 v33)),(10,List.set (aS cQ) 61 (.nils))],[(9,⟨3,1,lm (af .i64) v34⟩),(117,⟨165,62,lm aS v35⟩)],[1,8,10,9,117,1000001,1]⟩ ?_ (by subst h69;kernel_rfl);obtain⟨h70,h⟩|⟨h70,h⟩:=am h
 ·exact ae 89 h70 (bM (ks':=.b 2::d9 31327 :: .b 1::iq M w0 r m1) 2 (jb 10 (ac 0 (AG hK hL1 h))))
 ·refine ae 89 h70 ?_;obtain⟨v39,h71,h⟩:=bF h;refine bm (ks':=d9 1002455 :: .b 2::d9 31327 :: .b 1::iq M w0 r m1) 3 ⟨[(1,.fno 113 [.cptr (bG v2),.ptr 1 0]),(5,.sl (lm aw v4)),(6,.ref 117),(7,iI v33),(8,.ptr 8 0),(9,.bool v37),(10,.ptr 10 0),(11,iI (aa (v33+1))),(92,.bool v39)],[(1,[.ref 9]),(8,aw (gD v4 v33)),(10,List.set (aS cQ) 61 (.nils))],[(9,⟨3,1,lm (af .i64) v34⟩),(117,⟨165,62,lm aS v35⟩)],[1,8,10,9,117,1000001,1]⟩ ?_ (by subst h71;kernel_rfl);obtain⟨h72,h⟩|⟨h72,h⟩:=am h
  ·refine ae 92 h72 (bd 2 1 (ai 5 ?_));obtain⟨v40,h73,h⟩:=bind_some h;exact fp 9 9 [(1,1)] (WT hK h73) (ab (ac 0 (AG hK hL1 h)))
  ·exact ae 92 h72 (ac 3 (bK (p:=pn 8019644) n (PV hK hL1 n h)))
theorem XF(hK:ak K)(hL1:km M w0 r v2 v4 m1 L1)(h:vU K n v2 v4 L1 v33 v34 v35=some r):pj M w0 r (d9 244::iq M w0 r m1) (NO v2 v4 v33 v34 v35):=by
 unfold vU at h;refine bN 4 5 3 2 (ai 2 (au (bj aw v4) (ab ?_)));obtain⟨h62,h⟩|⟨h62,h⟩:=am h
 ·refine ae 17 h62 (bM (ks':=d9 1956::d9 1957 :: .b 1::iq M w0 r m1) 4 (ai 2 ?_));obtain⟨h63,h⟩:=ax h;refine au (bu aw aw h63 (cB) ((fun _=>rfl))) (ab (av 2 3 1 (bA [1,5,6,7,8] [1,8] [9,117] ?_)));obtain⟨h64,h⟩|⟨h64,h⟩:=am h
  ·obtain⟨h65,h⟩:=ax h;obtain⟨h66,h⟩|⟨h66,h⟩:=am h
   ·obtain⟨h67,h⟩:=ax h;obtain⟨v36,h68,h⟩:=bind_some h;exact bw 1 (nu 22 [iI v33,.bool (decide (v33>0)),.bool true,.sl (lm aw v4),iI v33,iI (aa (v33-1)),.cptr (aw (gD v4 ((aa (v33-1))))),.cptr (List.drop 0 (aw (gD v4 ((aa (v33-1)))))),iI ((gD v4 ((aa (v33-1)))).Kind),.bool (((gD v4 ((aa (v33-1)))).Kind) != 2),.bool (((gD v4 ((aa (v33-1)))).Kind) != 2),.bool true,.sl (lm aw v4),iI v33,iI (aa (v33-1)),.cptr (aw (gD v4 ((aa (v33-1))))),.agg (aw (gD v4 ((aa (v33-1))))),.agg (aw (gD v4 v33)),.bool v36,.bool (!v36),.bool (!v36)]) [] [] [bS Tryz.prog 120 Tryz.f112 (pn 3914) 21] (aq (vz 2) (ag (cm 0 24 (e:=(decide (v33>0))) (b:=true) h64) (aq (vz 3) (aR (bu aw aw h65 (cB) ((fun _=>rfl))) (aq (vz 4) (ag (cm 0 33 (e:=(((gD v4 ((aa (v33-1)))).Kind) != 2)) (b:=true) h66) (aq (vz 3) (aR (bu aw aw h67 (cB) ((fun _=>rfl))) (aq (vz 2) (ag (bL 0 1 40 (mH hK h68)) (aq (vz 2) (ag (bU 0) bz)))))))))))) (ac 0 (AE hK hL1 h))
   ·exact bw 1 (nu 22 [iI v33,.bool (decide (v33>0)),.bool true,.sl (lm aw v4),iI v33,iI (aa (v33-1)),.cptr (aw (gD v4 ((aa (v33-1))))),.cptr (List.drop 0 (aw (gD v4 ((aa (v33-1)))))),iI ((gD v4 ((aa (v33-1)))).Kind),.bool (((gD v4 ((aa (v33-1)))).Kind) != 2),.bool (((gD v4 ((aa (v33-1)))).Kind) != 2),.bool false,.tup [],.tup [],.tup [],.tup [],.tup [],.tup [],.tup [],.tup [],.bool false]) [] [] [bS Tryz.prog 120 Tryz.f112 (pn 3914) 21] (aq (vz 2) (ag (cm 0 24 (e:=(decide (v33>0))) (b:=true) h64) (aq (vz 3) (aR (bu aw aw h65 (cB) ((fun _=>rfl))) (aq (vz 4) (ag (cm 0 33 (e:=(((gD v4 ((aa (v33-1)))).Kind) != 2)) (b:=false) h66) (ag (ay 0 1) (ag (ay 0 1) (ag (ay 0 1) (ag (ay 0 1) (ag (ay 0 1) (ag (ay 0 1) (ag (ay 0 1) (ag (ay 0 1) (aq [.v 0 1] (ag (bU 0) bz)))))))))))))))) (ac 0 (AE hK hL1 h))
  ·exact bw 1 (nu 22 [iI v33,.bool (decide (v33>0)),.bool false,.tup [],.tup [],.tup [],.tup [],.tup [],.tup [],.tup [],.bool false,.bool false,.tup [],.tup [],.tup [],.tup [],.tup [],.tup [],.tup [],.tup [],.bool false]) [] [] [bS Tryz.prog 120 Tryz.f112 (pn 3914) 21] (aq (vz 2) (ag (cm 0 24 (e:=(decide (v33>0))) (b:=false) h64) (ag (ay 0 1) (ag (ay 0 1) (ag (ay 0 1) (ag (ay 0 1) (ag (ay 0 1) (ag (ay 0 1) (ag (ay 0 1) (aq (vz 2) (ag (ay 0 1) (ag (ay 0 1) (ag (ay 0 1) (ag (ay 0 1) (ag (ay 0 1) (ag (ay 0 1) (ag (ay 0 1) (ag (ay 0 1) (aq [.v 0 1] (ag (bU 0) bz)))))))))))))))))))) (ac 0 (AE hK hL1 h))
 ·refine ae 17 h62 (aJ 8 (eX 117 ?_));cases h;exact dD
theorem Tk(hK:ak K)(m:Nat):km M w0 r v2 v4 m (vx K n v2 v4 m):=by
 induction m with
 | zero=>intro v33 v34 v35 h;cases h
 | succ m ih=>intro v33 v34 v35 h;have h:vU K n v2 v4 (vx K n v2 v4 m) v33 v34 v35=some r:=h;exact aZ (XF hK ih h)
theorem OZ(hK:ak K)(h:Ad K n v1 v2 v3=some r):ex Tryz.prog 112 [.sl (lm aF v1),.fno 113 [.cptr (bG v2),.ptr 1 0]] [(1,[.ref 9])] 9 ⟨3,1,lm (af .i64) v3⟩ [9,1,1000001] (fun v s=>v=.sl (lm aS r.1)∧bW s.o [(1,[.ref 9])]∧look 9 s.r=some ⟨3,1,lm (af .i64) r.2⟩):=by
 refine gA (c:=cat Tryz.f112 (pn 1)) Tryz.func112 (by kernel_rfl) _ Tryz.ntmps112 (of_decide_eq_true (by kernel_rfl)) fun M w0=>(ba ⟨[(0,.sl (lm aF v1)),(1,.fno 113 [.cptr (bG v2),.ptr 1 0])],[(1,[.ref 9])],[(9,⟨3,1,lm (af .i64) v3⟩)],[9,1,1000001]⟩ ?_);unfold Ad at h;refine av 6 7 3 (ai 1 ?_);obtain⟨v4,h1,h⟩:=bind_some h;exact dI 1013 (DH hK h1) (dt 400003) (ab (eU 26 0 7 6 (bA [1,5,6,7] [1] [9,1013] (eX 1013 (dw 117 6 165 62 (ac 0 (bK (p:=pn 122) n (Tk hK n h))))))))
end
noncomputable section
variable[GS](M:Nat→Prop)(w0:aB)(r:(List aD)×Int×(List Int))(v1:List ah)(v2:Int)(v3:List Int)(v4:List bh)(v35 v36:Int)(v37:List Int)(v38:List aD)(v40:Bool)(v46:Int)(v48:Bool)(v50 v51:Int)(v52:List Int)(v53:aD)(m1 m2:Nat)(L1:Int→Int→(List Int)→(List aD)→Option ((List aD)×Int×(List Int)))(L2:Int→Option ((List aD)×Int×(List Int)))
abbrev qp:Cx:=⟨Tryz.prog,120,M,w0⟩
abbrev oA:=bodyPost Tryz.prog Tryz.f112 (bC M w0 (fun v s=>v=.sl (lm aS r.1)∧bW s.o [(1,[iI r.2.1]),(2,[.ref 9])]∧look 9 s.r=some ⟨3,1,lm (af .i64) r.2.2⟩))
abbrev pi(ks:List ao)(s:AS):=VE (qp M w0) (oA M w0 r) ks .normal s
abbrev d7(n:Nat):ao:=.c (cat Tryz.f112 (pn n))
abbrev AZ:List ao:=[.b 0,d7 31]
abbrev ix:List ao:=kl (qp M w0) (oA M w0 r) AZ (cat Tryz.f112 (pn 244)) m1::AZ
abbrev CL:List ao:=.b 3::d7 4009823 :: .b 2::d7 31327 :: .b 1::ix M w0 r m1
abbrev Hf:List ao:=kl (qp M w0) (oA M w0 r) (CL M w0 r m1) (cat Tryz.f112 (pn 16039288)) m2::(CL M w0 r m1)
def RW:AS:=⟨[(1,.fno 114 [.ptr 1 0,.ptr 2 0]),(5,.sl (lm aw v4)),(6,.ref 117),(8,.ptr 8 0),(9,.bool v40),(10,.ptr 10 0),(11,iI v50)],[(1,[iI v51]),(2,[.ref 9]),(8,aw (gD v4 v35)),(10,aS v53)],[(9,⟨3,1,lm (af .i64) v52⟩),(117,⟨165,62,lm aS v38⟩)],[1,2,8,10,9,117,1000001,1,1000002,2]⟩
def Ur:AS:=⟨[(1,.fno 114 [.ptr 1 0,.ptr 2 0]),(5,.sl (lm aw v4)),(6,.ref 117),(7,iI v35),(8,.ptr 8 0),(9,.bool v40),(10,.ptr 10 0),(11,iI v46),(81,.bool v48)],[(1,[iI v36]),(2,[.ref 9]),(8,aw (gD v4 v35)),(10,List.set (aS cQ) 61 (.nils))],[(9,⟨3,1,lm (af .i64) v37⟩),(117,⟨165,62,lm aS v38⟩)],[1,2,8,10,9,117,1000001,1,1000002,2]⟩
def KJ:AS:=⟨[(1,.fno 114 [.ptr 1 0,.ptr 2 0]),(5,.sl (lm aw v4)),(6,.ref 117),(7,iI v35),(8,.ptr 8 0),(9,.bool v40),(10,.ptr 10 0),(11,iI v46)],[(1,[iI v36]),(2,[.ref 9]),(8,aw (gD v4 v35)),(10,List.set (aS cQ) 61 (.nils))],[(9,⟨3,1,lm (af .i64) v37⟩),(117,⟨165,62,lm aS v38⟩)],[1,2,8,10,9,117,1000001,1,1000002,2]⟩
def S6:AS:=⟨[(1,.fno 114 [.ptr 1 0,.ptr 2 0]),(5,.sl (lm aw v4)),(6,.ref 117),(7,iI v35),(8,.ptr 8 0),(9,.bool v40)],[(1,[iI v36]),(2,[.ref 9]),(8,aw (gD v4 v35))],[(9,⟨3,1,lm (af .i64) v37⟩),(117,⟨165,62,lm aS v38⟩)],[1,2,8,9,117,1000001,1,1000002,2]⟩
def M5:AS:=⟨[(1,.fno 114 [.ptr 1 0,.ptr 2 0]),(5,.sl (lm aw v4)),(6,.ref 117),(7,iI v35)],[(1,[iI v36]),(2,[.ref 9])],[(9,⟨3,1,lm (af .i64) v37⟩),(117,⟨165,62,lm aS v38⟩)],[1,2,9,117,1000001,1,1000002,2]⟩
abbrev kf:Prop:=∀{v35:Int} {v36:Int} {v37:(List Int)} {v38:(List aD)},L1 v35 v36 v37 v38=some r→LP (qp M w0) (oA M w0 r) AZ (cat Tryz.f112 (pn 244)) m1 (M5 v4 v35 v36 v37 v38)
abbrev CR:Prop:=∀{v46:Int},L2 v46=some r→LP (qp M w0) (oA M w0 r) (CL M w0 r m1) (cat Tryz.f112 (pn 16039288)) m2 (KJ v4 v35 v36 v37 v38 v40 v46)
variable{M w0 r v1 v2 v3 v4 v35 v36 v37 v38 v40 v46 v48 v50 v51 v52 v53 m1 m2 L1 L2}{K:Kn}{n:Nat}
theorem Ch(hK:ak K)(hL1:kf M w0 r v4 m1 L1)(h:oP K n v4 v35 v38 v40 L1 v50 v51 v52 v53=some r):pi M w0 r (.b 2::d7 31327 :: .b 1::ix M w0 r m1) (RW v4 v35 v38 v40 v50 v51 v52 v53):=by
 unfold oP at h;refine dQ 2 3 2 (bA [1,5,6,8,9,10,11] [1,2,8,10] [9,117] (bw 3 (nu 100 [.ptr 8 4,.cptr (ap ((gD v4 v35).Box)),.cptr (ap ((gD v4 v35).Box)),.cptr (List.drop 1 (ap ((gD v4 v35).Box))),iI (((gD v4 v35).Box).Node),.ptr 8 4,.cptr (ap ((gD v4 v35).Box)),.cptr (ap ((gD v4 v35).Box)),.cptr (List.drop 2 (ap ((gD v4 v35).Box))),.agg (aE (((gD v4 v35).Box).Style)),.bool v40,.ptr 10 0,.ptr 10 2,.ptr 10 59]) [] [] [bS Tryz.prog 120 Tryz.f112 (pn 62654) 12,bS Tryz.prog 120 Tryz.f112 (pn 62654) 14,bS Tryz.prog 120 Tryz.f112 (pn 62654) 16] (aq [.v 0 1,.v 0 1,.v 0 1,.v 0 1,.v 0 1,.v 0 2,.v 0 2,.v 0 2,.v 0 2,.v 0 2,.v 0 3,.v 0 1] (ag (bU 0) (aq [.v 1 1] (ag (bU 1) (aq [.v 2 1] (ag (bU 2) bz)))))) ?_));obtain⟨v54,h94,h⟩:=bF h;obtain⟨v55,h95,h⟩:=bF h;refine bm (ks':=d7 125310::d7 125311 :: .b 1::ix M w0 r m1) 1 ⟨[(1,.fno 114 [.ptr 1 0,.ptr 2 0]),(5,.sl (lm aw v4)),(6,.ref 117),(10,.ptr 10 0),(11,iI v50)],[(1,[iI v51]),(2,[.ref 9]),(10,aS ({ v53 with Node:=v54,Style:=v55,Glued:=v40 }:aD))],[(9,⟨3,1,lm (af .i64) v52⟩),(117,⟨165,62,lm aS v38⟩)],[1,2,10,9,117,1000001,1,1000002,2]⟩ ?_ (by subst h95;subst h94;kernel_rfl)
 refine ai 3 ?_;obtain⟨h96,h⟩:=ax h;exact au (cc 117 117 165 62 aS (rfl) (fj) h96) (ab (ac 2 (bc (hL1 h))))
theorem rP(hK:ak K)(hL1:kf M w0 r v4 m1 L1)(hL2:CR M w0 r v4 v35 v36 v37 v38 v40 m1 m2 L2)(h:nG K n v4 v35 v36 v37 v38 v40 v46 L1 L2 v48=some r):pi M w0 r (d7 64157153::d7 32078577::Hf M w0 r m1 m2) (Ur v4 v35 v36 v37 v38 v40 v46 v48):=by
 unfold nG at h;obtain⟨h91,h⟩|⟨h91,h⟩:=am h
 ·exact ae 81 h91 (ac 5 (bc (hL2 h)))
 ·refine ae 81 h91 (bM (ks':=d7 4009823 :: .b 2::d7 31327 :: .b 1::ix M w0 r m1) 5 (ai 3 ?_));obtain⟨h92,h⟩:=ax h;refine au (fF aw v4 v35 v46 206 (.tmp 84) (some (.tmp 85)) (some (.tmp 86)) 87 (e:=210) (sz:=5) (by kernel_rfl) (by kernel_rfl) (by kernel_rfl) (by kernel_rfl) (by kernel_rfl) (by kernel_rfl) (cB) (fun k hk=>by subst hk;kernel_rfl) h92) ?_;obtain⟨v49,h93,h⟩:=bind_some h;exact aP (E0 hK h93) (ab (ac 0 (Ch hK hL1 h)))
theorem SH(hK:ak K)(hL1:kf M w0 r v4 m1 L1)(hL2:CR M w0 r v4 v35 v36 v37 v38 v40 m1 m2 L2)(h:yl K n v4 v35 v36 v37 v38 v40 L1 L2 v46=some r):pi M w0 r (d7 16039288::Hf M w0 r m1 m2) (KJ v4 v35 v36 v37 v38 v40 v46):=by
 unfold yl at h;refine bN 4 5 3 2 (bA [1,5,6,7,8,9,10,11] [1,2,8,10] [9,117] ?_);obtain⟨h83,h⟩|⟨h83,h⟩:=am h
 ·obtain⟨h84,h⟩:=ax h;obtain⟨h85,h⟩|⟨h85,h⟩:=am h
  ·obtain⟨h86,h⟩:=ax h;obtain⟨h87,h⟩|⟨h87,h⟩:=am h
   ·obtain⟨h88,h⟩:=ax h;obtain⟨h89,h⟩:=ax h;obtain⟨v47,h90,h⟩:=bind_some h;exact bw 0 (nu 47 [iI v46,.sl (lm aw v4),iI (v4.length:Int),.bool (decide (v46<(v4.length:Int))),.bool true,.sl (lm aw v4),iI v46,.cptr (aw (gD v4 v46)),.cptr (List.drop 0 (aw (gD v4 v46))),iI ((gD v4 v46).Kind),.bool (((gD v4 v46).Kind) == 1),.bool (((gD v4 v46).Kind) == 1),.bool true,.sl (lm aw v4),iI v46,.cptr (aw (gD v4 v46)),.cptr (List.drop 1 (aw (gD v4 v46))),iI ((gD v4 v46).Of),.ptr 8 1,iI ((gD v4 v35).Of),.bool (((gD v4 v46).Of) == ((gD v4 v35).Of)),.bool (((gD v4 v46).Of) == ((gD v4 v35).Of)),.bool true,.sl (lm aw v4),iI v46,iI (aa (v46-1)),.cptr (aw (gD v4 ((aa (v46-1))))),.agg (aw (gD v4 ((aa (v46-1))))),.sl (lm aw v4),iI v46,.cptr (aw (gD v4 v46)),.agg (aw (gD v4 v46)),.bool v47,.bool (!v47),.bool (!v47)]) [] [] [] (aq (vz 2) (aR (bj aw v4) (aq [.v 0 1] (ag (cm 0 51 (e:=(decide (v46<(v4.length:Int)))) (b:=true) h83) (aq (vz 2) (aR (bu aw aw h84 (cB) ((fun _=>rfl))) (aq (vz 4) (ag (cm 0 59 (e:=(((gD v4 v46).Kind) == 1)) (b:=true) h85) (aq (vz 2) (aR (bu aw aw h86 (cB) ((fun _=>rfl))) (aq (vz 6) (ag (cm 0 69 (e:=(((gD v4 v46).Of) == ((gD v4 v35).Of))) (b:=true) h87) (aq (vz 3) (aR (bu aw aw h88 (cB) ((fun _=>rfl))) (aq (vz 3) (aR (bu aw aw h89 (cB) ((fun _=>rfl))) (aq [.v 0 1] (ag (bL 0 1 79 (mH hK h90)) (aq (vz 2) bz))))))))))))))))))) (ac 0 (rP hK hL1 hL2 h))
   ·exact bw 0 (nu 47 [iI v46,.sl (lm aw v4),iI (v4.length:Int),.bool (decide (v46<(v4.length:Int))),.bool true,.sl (lm aw v4),iI v46,.cptr (aw (gD v4 v46)),.cptr (List.drop 0 (aw (gD v4 v46))),iI ((gD v4 v46).Kind),.bool (((gD v4 v46).Kind) == 1),.bool (((gD v4 v46).Kind) == 1),.bool true,.sl (lm aw v4),iI v46,.cptr (aw (gD v4 v46)),.cptr (List.drop 1 (aw (gD v4 v46))),iI ((gD v4 v46).Of),.ptr 8 1,iI ((gD v4 v35).Of),.bool (((gD v4 v46).Of) == ((gD v4 v35).Of)),.bool (((gD v4 v46).Of) == ((gD v4 v35).Of)),.bool false,.tup [],.tup [],.tup [],.tup [],.tup [],.tup [],.tup [],.tup [],.tup [],.tup [],.tup [],.bool false]) [] [] [] (aq (vz 2) (aR (bj aw v4) (aq [.v 0 1] (ag (cm 0 51 (e:=(decide (v46<(v4.length:Int)))) (b:=true) h83) (aq (vz 2) (aR (bu aw aw h84 (cB) ((fun _=>rfl))) (aq (vz 4) (ag (cm 0 59 (e:=(((gD v4 v46).Kind) == 1)) (b:=true) h85) (aq (vz 2) (aR (bu aw aw h86 (cB) ((fun _=>rfl))) (aq (vz 6) (ag (cm 0 69 (e:=(((gD v4 v46).Of) == ((gD v4 v35).Of))) (b:=false) h87) (ag (ay 0 1) (ag (ay 0 1) (ag (ay 0 1) (ag (ay 0 1) (ag (ay 0 1) (ag (ay 0 1) (ag (ay 0 1) (ag (ay 0 1) (ag (ay 0 1) (ag (ay 0 1) (ag (ay 0 1) (aq [.v 0 1] bz)))))))))))))))))))))))) (ac 0 (rP hK hL1 hL2 h))
  ·exact bw 0 (nu 47 [iI v46,.sl (lm aw v4),iI (v4.length:Int),.bool (decide (v46<(v4.length:Int))),.bool true,.sl (lm aw v4),iI v46,.cptr (aw (gD v4 v46)),.cptr (List.drop 0 (aw (gD v4 v46))),iI ((gD v4 v46).Kind),.bool (((gD v4 v46).Kind) == 1),.bool (((gD v4 v46).Kind) == 1),.bool false,.tup [],.tup [],.tup [],.tup [],.tup [],.tup [],.tup [],.tup [],.bool false,.bool false,.tup [],.tup [],.tup [],.tup [],.tup [],.tup [],.tup [],.tup [],.tup [],.tup [],.tup [],.bool false]) [] [] [] (aq (vz 2) (aR (bj aw v4) (aq [.v 0 1] (ag (cm 0 51 (e:=(decide (v46<(v4.length:Int)))) (b:=true) h83) (aq (vz 2) (aR (bu aw aw h84 (cB) ((fun _=>rfl))) (aq (vz 4) (ag (cm 0 59 (e:=(((gD v4 v46).Kind) == 1)) (b:=false) h85) (ag (ay 0 1) (ag (ay 0 1) (ag (ay 0 1) (ag (ay 0 1) (ag (ay 0 1) (ag (ay 0 1) (ag (ay 0 1) (ag (ay 0 1) (aq (vz 2) (ag (ay 0 1) (ag (ay 0 1) (ag (ay 0 1) (ag (ay 0 1) (ag (ay 0 1) (ag (ay 0 1) (ag (ay 0 1) (ag (ay 0 1) (ag (ay 0 1) (ag (ay 0 1) (ag (ay 0 1) (aq [.v 0 1] bz))))))))))))))))))))))))))))) (ac 0 (rP hK hL1 hL2 h))
 ·exact bw 0 (nu 47 [iI v46,.sl (lm aw v4),iI (v4.length:Int),.bool (decide (v46<(v4.length:Int))),.bool false,.tup [],.tup [],.tup [],.tup [],.tup [],.tup [],.bool false,.bool false,.tup [],.tup [],.tup [],.tup [],.tup [],.tup [],.tup [],.tup [],.bool false,.bool false,.tup [],.tup [],.tup [],.tup [],.tup [],.tup [],.tup [],.tup [],.tup [],.tup [],.tup [],.bool false]) [] [] [] (aq (vz 2) (aR (bj aw v4) (aq [.v 0 1] (ag (cm 0 51 (e:=(decide (v46<(v4.length:Int)))) (b:=false) h83) (ag (ay 0 1) (ag (ay 0 1) (ag (ay 0 1) (ag (ay 0 1) (ag (ay 0 1) (ag (ay 0 1) (aq (vz 2) (ag (ay 0 1) (ag (ay 0 1) (ag (ay 0 1) (ag (ay 0 1) (ag (ay 0 1) (ag (ay 0 1) (ag (ay 0 1) (ag (ay 0 1) (aq (vz 2) (ag (ay 0 1) (ag (ay 0 1) (ag (ay 0 1) (ag (ay 0 1) (ag (ay 0 1) (ag (ay 0 1) (ag (ay 0 1) (ag (ay 0 1) (ag (ay 0 1) (ag (ay 0 1) (ag (ay 0 1) (aq [.v 0 1] bz)))))))))))))))))))))))))))))))) (ac 0 (rP hK hL1 hL2 h))
theorem O6(hK:ak K)(hL1:kf M w0 r v4 m1 L1)(m:Nat):CR M w0 r v4 v35 v36 v37 v38 v40 m1 m (s7 K n v4 v35 v36 v37 v38 v40 L1 m):=by
 induction m with
 | zero=>intro v46 h;cases h
 | succ m ih=>intro v46 h;have h:yl K n v4 v35 v36 v37 v38 v40 L1 (s7 K n v4 v35 v36 v37 v38 v40 L1 m) v46=some r:=h;exact aZ (SH hK hL1 ih h)
theorem Ae(hK:ak K)(hL1:kf M w0 r v4 m1 L1)(h:oT K n v4 v35 v36 v37 v38 L1 v40=some r):pi M w0 r (d7 3915 :: .b 1::ix M w0 r m1) (S6 v4 v35 v36 v37 v38 v40):=by
 unfold oT at h;obtain⟨v41,h69,h⟩:=bF h;refine bm (ks':=d7 250613 :: .b 2::d7 31327 :: .b 1::ix M w0 r m1) 10 ⟨[(1,.fno 114 [.ptr 1 0,.ptr 2 0]),(5,.sl (lm aw v4)),(6,.ref 117),(7,iI v35),(8,.ptr 8 0),(9,.bool v40),(10,.ptr 10 0),(11,iI (aa (v35+1))),(46,iI ((gD v4 v35).Kind)),(89,.bool v41)],[(1,[iI v36]),(2,[.ref 9]),(8,aw (gD v4 v35)),(10,List.set (aS cQ) 61 (.nils))],[(9,⟨3,1,lm (af .i64) v37⟩),(117,⟨165,62,lm aS v38⟩)],[1,2,8,10,9,117,1000001,1,1000002,2]⟩ ?_ (by subst h69;kernel_rfl);obtain⟨h70,h⟩|⟨h70,h⟩:=am h
 ·exact ae 89 h70 (bM (ks':=.b 2::d7 31327 :: .b 1::ix M w0 r m1) 2 (jb 10 (ac 0 (Ch hK hL1 h))))
 ·refine ae 89 h70 ?_;obtain⟨v42,h71,h⟩:=bF h;refine bm (ks':=d7 1002455 :: .b 2::d7 31327 :: .b 1::ix M w0 r m1) 3 ⟨[(1,.fno 114 [.ptr 1 0,.ptr 2 0]),(5,.sl (lm aw v4)),(6,.ref 117),(7,iI v35),(8,.ptr 8 0),(9,.bool v40),(10,.ptr 10 0),(11,iI (aa (v35+1))),(92,.bool v42)],[(1,[iI v36]),(2,[.ref 9]),(8,aw (gD v4 v35)),(10,List.set (aS cQ) 61 (.nils))],[(9,⟨3,1,lm (af .i64) v37⟩),(117,⟨165,62,lm aS v38⟩)],[1,2,8,10,9,117,1000001,1,1000002,2]⟩ ?_ (by subst h71;kernel_rfl);obtain⟨h72,h⟩|⟨h72,h⟩:=am h
  ·refine ae 92 h72 (bd 2 1 (ai 5 ?_));obtain⟨v43,h73,h⟩:=bind_some h;exact fp 9 9 [(1,1),(2,2)] (Q1 hK h73) (ab (ac 0 (Ch hK hL1 h)))
  ·exact ae 92 h72 (ac 3 (bK (p:=pn 8019644) n (O6 hK hL1 n h)))
theorem Xa(hK:ak K)(hL1:kf M w0 r v4 m1 L1)(h:rh K n v4 L1 v35 v36 v37 v38=some r):pi M w0 r (d7 244::ix M w0 r m1) (M5 v4 v35 v36 v37 v38):=by
 unfold rh at h;refine bN 4 5 3 2 (ai 2 (au (bj aw v4) (ab ?_)));obtain⟨h62,h⟩|⟨h62,h⟩:=am h
 ·refine ae 17 h62 (bM (ks':=d7 1956::d7 1957 :: .b 1::ix M w0 r m1) 4 (ai 2 ?_));obtain⟨h63,h⟩:=ax h;refine au (bu aw aw h63 (cB) ((fun _=>rfl))) (ab (av 2 3 1 (bA [1,5,6,7,8] [1,2,8] [9,117] ?_)));obtain⟨h64,h⟩|⟨h64,h⟩:=am h
  ·obtain⟨h65,h⟩:=ax h;obtain⟨h66,h⟩|⟨h66,h⟩:=am h
   ·obtain⟨h67,h⟩:=ax h;obtain⟨v39,h68,h⟩:=bind_some h;exact bw 1 (nu 22 [iI v35,.bool (decide (v35>0)),.bool true,.sl (lm aw v4),iI v35,iI (aa (v35-1)),.cptr (aw (gD v4 ((aa (v35-1))))),.cptr (List.drop 0 (aw (gD v4 ((aa (v35-1)))))),iI ((gD v4 ((aa (v35-1)))).Kind),.bool (((gD v4 ((aa (v35-1)))).Kind) != 2),.bool (((gD v4 ((aa (v35-1)))).Kind) != 2),.bool true,.sl (lm aw v4),iI v35,iI (aa (v35-1)),.cptr (aw (gD v4 ((aa (v35-1))))),.agg (aw (gD v4 ((aa (v35-1))))),.agg (aw (gD v4 v35)),.bool v39,.bool (!v39),.bool (!v39)]) [] [] [bS Tryz.prog 120 Tryz.f112 (pn 3914) 21] (aq (vz 2) (ag (cm 0 24 (e:=(decide (v35>0))) (b:=true) h64) (aq (vz 3) (aR (bu aw aw h65 (cB) ((fun _=>rfl))) (aq (vz 4) (ag (cm 0 33 (e:=(((gD v4 ((aa (v35-1)))).Kind) != 2)) (b:=true) h66) (aq (vz 3) (aR (bu aw aw h67 (cB) ((fun _=>rfl))) (aq (vz 2) (ag (bL 0 1 40 (mH hK h68)) (aq (vz 2) (ag (bU 0) bz)))))))))))) (ac 0 (Ae hK hL1 h))
   ·exact bw 1 (nu 22 [iI v35,.bool (decide (v35>0)),.bool true,.sl (lm aw v4),iI v35,iI (aa (v35-1)),.cptr (aw (gD v4 ((aa (v35-1))))),.cptr (List.drop 0 (aw (gD v4 ((aa (v35-1)))))),iI ((gD v4 ((aa (v35-1)))).Kind),.bool (((gD v4 ((aa (v35-1)))).Kind) != 2),.bool (((gD v4 ((aa (v35-1)))).Kind) != 2),.bool false,.tup [],.tup [],.tup [],.tup [],.tup [],.tup [],.tup [],.tup [],.bool false]) [] [] [bS Tryz.prog 120 Tryz.f112 (pn 3914) 21] (aq (vz 2) (ag (cm 0 24 (e:=(decide (v35>0))) (b:=true) h64) (aq (vz 3) (aR (bu aw aw h65 (cB) ((fun _=>rfl))) (aq (vz 4) (ag (cm 0 33 (e:=(((gD v4 ((aa (v35-1)))).Kind) != 2)) (b:=false) h66) (ag (ay 0 1) (ag (ay 0 1) (ag (ay 0 1) (ag (ay 0 1) (ag (ay 0 1) (ag (ay 0 1) (ag (ay 0 1) (ag (ay 0 1) (aq [.v 0 1] (ag (bU 0) bz)))))))))))))))) (ac 0 (Ae hK hL1 h))
  ·exact bw 1 (nu 22 [iI v35,.bool (decide (v35>0)),.bool false,.tup [],.tup [],.tup [],.tup [],.tup [],.tup [],.tup [],.bool false,.bool false,.tup [],.tup [],.tup [],.tup [],.tup [],.tup [],.tup [],.tup [],.bool false]) [] [] [bS Tryz.prog 120 Tryz.f112 (pn 3914) 21] (aq (vz 2) (ag (cm 0 24 (e:=(decide (v35>0))) (b:=false) h64) (ag (ay 0 1) (ag (ay 0 1) (ag (ay 0 1) (ag (ay 0 1) (ag (ay 0 1) (ag (ay 0 1) (ag (ay 0 1) (aq (vz 2) (ag (ay 0 1) (ag (ay 0 1) (ag (ay 0 1) (ag (ay 0 1) (ag (ay 0 1) (ag (ay 0 1) (ag (ay 0 1) (ag (ay 0 1) (aq [.v 0 1] (ag (bU 0) bz)))))))))))))))))))) (ac 0 (Ae hK hL1 h))
 ·refine ae 17 h62 (aJ 8 (eX 117 ?_));cases h;exact dD
theorem Wc(hK:ak K)(m:Nat):kf M w0 r v4 m (w5 K n v4 m):=by
 induction m with
 | zero=>intro v35 v36 v37 v38 h;cases h
 | succ m ih=>intro v35 v36 v37 v38 h;have h:rh K n v4 (w5 K n v4 m) v35 v36 v37 v38=some r:=h;exact aZ (Xa hK ih h)
theorem SA(hK:ak K)(h:zZ K n v1 v2 v3=some r):ex Tryz.prog 112 [.sl (lm aF v1),.fno 114 [.ptr 1 0,.ptr 2 0]] [(1,[iI v2]),(2,[.ref 9])] 9 ⟨3,1,lm (af .i64) v3⟩ [9,1,2,1000001,1000002] (fun v s=>v=.sl (lm aS r.1)∧bW s.o [(1,[iI r.2.1]),(2,[.ref 9])]∧look 9 s.r=some ⟨3,1,lm (af .i64) r.2.2⟩):=by
 refine gA (c:=cat Tryz.f112 (pn 1)) Tryz.func112 (by kernel_rfl) _ Tryz.ntmps112 (of_decide_eq_true (by kernel_rfl)) fun M w0=>(ba ⟨[(0,.sl (lm aF v1)),(1,.fno 114 [.ptr 1 0,.ptr 2 0])],[(1,[iI v2]),(2,[.ref 9])],[(9,⟨3,1,lm (af .i64) v3⟩)],[9,1,2,1000001,1000002]⟩ ?_);unfold zZ at h;refine av 6 7 3 (ai 1 ?_);obtain⟨v4,h1,h⟩:=bind_some h;exact dI 1013 (DH hK h1) (dt 400003) (ab (eU 26 0 7 6 (bA [1,5,6,7] [1,2] [9,1013] (eX 1013 (dw 117 6 165 62 (ac 0 (bK (p:=pn 122) n (Wc hK n h))))))))
end
noncomputable section
variable[GS](M:Nat→Prop)(w0:aB)(r:Int×Int)(v1:List ah)(v2:aX)(v3:bH)(v4:(List aD)×(List Int))(v5:(List aD)×Int×(List Int))(v9 v10 v11 v13 v19 v20 v22:Int)(v23:Bool)(v25:Int)(m1 m2 m3:Nat)(L1 L2:Int→Int→Option (Int×Int))(L3:Int→Option (Int×Int))
abbrev lv:Cx:=⟨Tryz.prog,74,M,w0⟩
abbrev k9:=bodyPost Tryz.prog Tryz.f55 (bC M w0 (fun v _=>v=.tup [iI r.1,iI r.2]))
abbrev mX(ks:List ao)(s:AS):=VE (lv M w0) (k9 M w0 r) ks .normal s
abbrev fW(n:Nat):ao:=.c (cat Tryz.f55 (pn n))
abbrev Eo:List ao:=[.b 2,fW 255]
abbrev Fh:List ao:=kl (lv M w0) (k9 M w0 r) Eo (cat Tryz.f55 (pn 2036)) m2::Eo
abbrev EL:List ao:=[.b 0,fW 127]
abbrev zH:List ao:=kl (lv M w0) (k9 M w0 r) EL (cat Tryz.f55 (pn 1012)) m1::EL
abbrev Em:List ao:=.b 4::fW 32587 :: .b 3::Fh M w0 r m2
abbrev Ou:List ao:=kl (lv M w0) (k9 M w0 r) (Em M w0 r m2) (cat Tryz.f55 (pn 130344)) m3::(Em M w0 r m2)
def PN:AS:=⟨[(6,iI v13),(7,iI 0),(9,.sl (lm aS v4.1)),(11,.sl (lm aS v5.1)),(13,iI v11)],[],[],[]⟩
def Qc:AS:=⟨[(6,iI v9),(7,iI v25),(11,.sl (lm aS v5.1)),(16,iI v22)],[],[],[]⟩
def Zy:AS:=⟨[(6,iI v9),(7,iI v19),(11,.sl (lm aS v5.1)),(15,iI v20),(16,iI v22),(59,.bool v23)],[],[],[]⟩
def NM:AS:=⟨[(6,iI v9),(7,iI v19),(11,.sl (lm aS v5.1)),(15,iI v20),(16,iI v22)],[],[],[]⟩
def H3:AS:=⟨[(6,iI v9),(7,iI v19),(11,.sl (lm aS v5.1)),(15,iI v20)],[],[],[]⟩
def Hx:AS:=⟨[(6,iI v9),(7,iI 0),(9,.sl (lm aS v4.1)),(11,.sl (lm aS v5.1)),(12,iI v10)],[],[],[]⟩
abbrev Ea:Prop:=∀{v9:Int} {v10:Int},L1 v9 v10=some r→LP (lv M w0) (k9 M w0 r) EL (cat Tryz.f55 (pn 1012)) m1 (Hx v4 v5 v9 v10)
abbrev mL:Prop:=∀{v19:Int} {v20:Int},L2 v19 v20=some r→LP (lv M w0) (k9 M w0 r) Eo (cat Tryz.f55 (pn 2036)) m2 (H3 v5 v9 v19 v20)
abbrev C1:Prop:=∀{v22:Int},L3 v22=some r→LP (lv M w0) (k9 M w0 r) (Em M w0 r m2) (cat Tryz.f55 (pn 130344)) m3 (NM v5 v9 v19 v20 v22)
variable{M w0 r v1 v2 v3 v4 v5 v9 v10 v11 v13 v19 v20 v22 v23 v25 m1 m2 m3 L1 L2 L3}{K:Kn}{n:Nat}
theorem ME(hK:ak K)(hL1:Ea M w0 r v4 v5 m1 L1)(h:xM K n v4 v5 v11 L1 v13=some r):mX M w0 r (fW 16203 :: .b 1::zH M w0 r m1) (PN v4 v5 v11 v13):=by
 unfold xM at h;exact ac 2 (bc (hL1 h))
theorem Jt(hK:ak K)(hL2:mL M w0 r v5 v9 m2 L2)(h:ww K n v5 v9 v22 L2 v25=some r):mX M w0 r (fW 65175 :: .b 3::Fh M w0 r m2) (Qc v5 v9 v22 v25):=by
 unfold ww at h;exact ac 2 (bc (hL2 h))
theorem JC(hK:ak K)(hL2:mL M w0 r v5 v9 m2 L2)(hL3:C1 M w0 r v5 v9 v19 v20 m2 m3 L3)(h:xy K n v5 v9 v19 v20 v22 L2 L3 v23=some r):mX M w0 r (fW 521377::fW 260689::Ou M w0 r m2 m3) (Zy v5 v9 v19 v20 v22 v23):=by
 unfold xy at h;obtain⟨h29,h⟩|⟨h29,h⟩:=am h
 ·exact ae 59 h29 (ac 5 (bc (hL3 h)))
 ·refine ae 59 h29 (mj 4 5 3 7 (ai 3 ?_));obtain⟨h30,h⟩:=ax h;refine au (fF aS v5.1 v20 v22 159 (.tmp 62) (some (.tmp 63)) (some (.tmp 64)) 65 (e:=165) (sz:=62) (by kernel_rfl) (by kernel_rfl) (by kernel_rfl) (by kernel_rfl) (by kernel_rfl) (by kernel_rfl) (fj) (fun k hk=>by subst hk;kernel_rfl) h30) ?_;obtain⟨v24,h31,h⟩:=bind_some h;refine aP (xR hK h31) (ab (bd 3 2 ?_));obtain⟨h32,h⟩|⟨h32,h⟩:=am h
  ·exact ae 69 h32 (ac 2 (Jt hK hL2 h))
  ·exact ae 69 h32 (ac 2 (Jt hK hL2 h))
theorem Tw(hK:ak K)(hL2:mL M w0 r v5 v9 m2 L2)(hL3:C1 M w0 r v5 v9 v19 v20 m2 m3 L3)(h:uY K n v5 v9 v19 v20 L2 L3 v22=some r):mX M w0 r (fW 130344::Ou M w0 r m2 m3) (NM v5 v9 v19 v20 v22):=by
 unfold uY at h;refine bN 4 5 3 2 (ai 2 (au (bj aS v5.1) (aO 5 2 ?_)));obtain⟨h27,h⟩|⟨h27,h⟩:=am h
 ·refine aC 51 h27 (aO 8 3 ?_);obtain⟨h28,h⟩:=ax h;exact au (bu aS aS h28 (fj) ((fun _=>rfl))) (ab (ac 0 (JC hK hL2 hL3 h)))
 ·exact aC 51 h27 (ab (ac 0 (JC hK hL2 hL3 h)))
theorem UW(hK:ak K)(hL2:mL M w0 r v5 v9 m2 L2)(m:Nat):C1 M w0 r v5 v9 v19 v20 m2 m (vi K n v5 v9 v19 v20 L2 m):=by
 induction m with
 | zero=>intro v22 h;cases h
 | succ m ih=>intro v22 h;have h:uY K n v5 v9 v19 v20 L2 (vi K n v5 v9 v19 v20 L2 m) v22=some r:=h;exact aZ (Tw hK hL2 ih h)
theorem Sk(hK:ak K)(hL2:mL M w0 r v5 v9 m2 L2)(h:yr K n v5 v9 L2 v19 v20=some r):mX M w0 r (fW 2036::Fh M w0 r m2) (H3 v5 v9 v19 v20):=by
 unfold yr at h;refine bN 4 5 3 2 (ai 2 (au (bj aS v5.1) (ab ?_)));obtain⟨h23,h⟩|⟨h23,h⟩:=am h
 ·exact ae 44 h23 (ac 7 (bK (p:=pn 65172) n (UW hK hL2 n h)))
 ·refine ae 44 h23 (aJ 8 ?_);cases h;exact fL
theorem TC(hK:ak K)(m:Nat):mL M w0 r v5 v9 m (qV K n v5 v9 m):=by
 induction m with
 | zero=>intro v19 v20 h;cases h
 | succ m ih=>intro v19 v20 h;have h:yr K n v5 v9 (qV K n v5 v9 m) v19 v20=some r:=h;exact aZ (Sk hK ih h)
theorem Rc(hK:ak K)(hL1:Ea M w0 r v4 v5 m1 L1)(h:xD K n v4 v5 L1 v9 v10=some r):mX M w0 r (fW 1012::zH M w0 r m1) (Hx v4 v5 v9 v10):=by
 unfold xD at h;refine bN 4 5 3 2 (ai 2 (au (bj aS v4.1) (ab ?_)));obtain⟨h8,h⟩|⟨h8,h⟩:=am h
 ·refine ae 27 h8 (bM (ks':=fW 8100::fW 8101 :: .b 1::zH M w0 r m1) 4 (ai 2 ?_));obtain⟨v11,h9,h⟩:=bind_some h;refine aP (Bm hK h9) (ab (bN 4 5 3 2 (ai 3 ?_)));obtain⟨h10,h⟩:=ax h;refine au (fF aS v4.1 v10 v11 159 (.tmp 31) (some (.tmp 32)) (some (.tmp 33)) 34 (e:=165) (sz:=62) (by kernel_rfl) (by kernel_rfl) (by kernel_rfl) (by kernel_rfl) (by kernel_rfl) (by kernel_rfl) (fj) (fun k hk=>by subst hk;kernel_rfl) h10) ?_;obtain⟨v12,h11,h⟩:=bind_some h;refine aP (xR hK h11) (ab (bd 3 2 ?_));obtain⟨h12,h⟩|⟨h12,h⟩:=am h
  ·exact ae 38 h12 (ac 2 (ME hK hL1 h))
  ·exact ae 38 h12 (ac 2 (ME hK hL1 h))
 ·exact ae 27 h8 (ac 9 (bK (p:=pn 1018) n (TC hK n h)))
theorem YD(hK:ak K)(m:Nat):Ea M w0 r v4 v5 m (yu K n v4 v5 m):=by
 induction m with
 | zero=>intro v9 v10 h;cases h
 | succ m ih=>intro v9 v10 h;have h:xD K n v4 v5 (yu K n v4 v5 m) v9 v10=some r:=h;exact aZ (Rc hK ih h)
theorem U0(hK:ak K)(h:zx K n v1 v2 v3=some r):aW Tryz.prog 55 [.sl (lm aF v1),.agg (aE v2),.agg (bG v3)] (fun v _=>v=.tup [iI r.1,iI r.2]):=by
 refine bB (cat Tryz.f55 (pn 1)) Tryz.func55 Tryz.ntmps55 fun M w0=>(ba ⟨[(0,.sl (lm aF v1)),(1,.agg (aE v2)),(2,.agg (bG v3))],[],[],[]⟩ ?_);unfold zx at h;refine av 14 15 5 (ai 1 (jU 5 5 (bG v3) (jY 113 #[(.tmp 5),(.tmp 8)] [.cptr (bG v3),.ptr 8 0] (yM 400008 8 0 3 1 ?_))));obtain⟨v4,h1,h⟩:=bind_some h;refine fp 400008 9 [(8,1)] (OZ hK h1) (ab (av 6 7 3 (ai 1 (jY 114 #[(.tmp 10),(.tmp 8)] [.ptr 10 0,.ptr 8 0] ?_))));obtain⟨v5,h2,h⟩:=bind_some h;exact fp 400008 9 [(10,1),(8,2)] (SA hK h2) (ab (ac 4 (bK (p:=pn 506) n (YD hK n h))))
end
noncomputable section
variable[GS](M:Nat→Prop)(w0:aB)(r:Int×Int)(v1:List ah)(v2:aX)(v3:bH)  
variable{M w0 r v1 v2 v3}{K:Kn}{n:Nat}
theorem YU(hK:ak K)(h:EM K n v1 v2 v3=some r):aW Tryz.prog 54 [.sl (lm aF v1),.agg (aE v2),.cptr (bG v3)] (fun v _=>v=.tup [iI r.1,iI r.2]):=by
 refine bB (cat Tryz.f54 (pn 1)) Tryz.func54 Tryz.ntmps54 fun M w0=>(ba ⟨[(0,.sl (lm aF v1)),(1,.agg (aE v2)),(2,.cptr (bG v3))],[],[],[]⟩ ?_);unfold EM at h;refine av 6 7 3 (ai 3 ?_);obtain⟨v4,h1,h⟩:=bind_some h;refine aP (U0 hK h1) (ab (aJ 1 ?_));cases h;exact fL
end
noncomputable section
variable[GS](M:Nat→Prop)(w0:aB)(r:bH)(v1 v2:Bool)  
variable{M w0 r v1 v2}{K:Kn}{n:Nat}
theorem Is(v1 v2:Bool):∀d:Nat,iL [(2,[dj 36 v1]),(3,[dj 37 v2]),(4,[.fno 43 [.ptr 2 0,.ptr 5 0,.ptr 3 0],.fno 48 [.ptr 5 0],.fno 52 [.ptr 5 0],.fno 54 [.ptr 5 0]]),(5,[.fno 43 [.ptr 2 0,.ptr 5 0,.ptr 3 0],.fno 48 [.ptr 5 0],.fno 52 [.ptr 5 0],.fno 54 [.ptr 5 0]])] 5 [.fno 43 [.ptr 2 0,.ptr 5 0,.ptr 3 0],.fno 48 [.ptr 5 0],.fno 52 [.ptr 5 0],.fno 54 [.ptr 5 0]] d=bG (em d v1 v2)
 | 0=>rfl
 | d+1=>by
   show lm (stepT [(2,[dj 36 v1]),(3,[dj 37 v2]),(4,[.fno 43 [.ptr 2 0,.ptr 5 0,.ptr 3 0],.fno 48 [.ptr 5 0],.fno 52 [.ptr 5 0],.fno 54 [.ptr 5 0]]),(5,[.fno 43 [.ptr 2 0,.ptr 5 0,.ptr 3 0],.fno 48 [.ptr 5 0],.fno 52 [.ptr 5 0],.fno 54 [.ptr 5 0]])] 5 (iL [(2,[dj 36 v1]),(3,[dj 37 v2]),(4,[.fno 43 [.ptr 2 0,.ptr 5 0,.ptr 3 0],.fno 48 [.ptr 5 0],.fno 52 [.ptr 5 0],.fno 54 [.ptr 5 0]]),(5,[.fno 43 [.ptr 2 0,.ptr 5 0,.ptr 3 0],.fno 48 [.ptr 5 0],.fno 52 [.ptr 5 0],.fno 54 [.ptr 5 0]])] 5 [.fno 43 [.ptr 2 0,.ptr 5 0,.ptr 3 0],.fno 48 [.ptr 5 0],.fno 52 [.ptr 5 0],.fno 54 [.ptr 5 0]] d)) [.fno 43 [.ptr 2 0,.ptr 5 0,.ptr 3 0],.fno 48 [.ptr 5 0],.fno 52 [.ptr 5 0],.fno 54 [.ptr 5 0]]=_;rw[Is v1 v2 d];rfl
theorem TF(hK:ak K)(h:zS K n v1 v2=some r):aW Tryz.prog 18 [dj 36 v1,dj 37 v2] (fun v _=>v=.agg (bG r)):=by
 refine bB (cat Tryz.f18 (pn 1)) Tryz.func18 Tryz.ntmps18 fun M w0=>(ba ⟨[(0,dj 36 v1),(1,dj 37 v2)],[],[],[]⟩ ?_);unfold zS at h;refine av 14 15 5 (ai 0 (jY 43 #[(.tmp 2),(.tmp 5),(.tmp 3)] [.ptr 2 0,.ptr 5 0,.ptr 3 0] (ab (av 2 3 1 (ai 0 (jY 48 #[(.tmp 5)] [.ptr 5 0] (ab (av 2 3 1 (ai 0 (jY 52 #[(.tmp 5)] [.ptr 5 0] (ab (av 2 3 1 (ai 0 (jY 54 #[(.tmp 5)] [.ptr 5 0] (ab (aJ 3 (bA [4] [2,3,4,5] [] (ba ⟨[(4,.ptr 4 0)],[(2,[dj 36 v1]),(3,[dj 37 v2]),(4,[.fno 43 [.ptr 2 0,.ptr 5 0,.ptr 3 0],.fno 48 [.ptr 5 0],.fno 52 [.ptr 5 0],.fno 54 [.ptr 5 0]]),(5,[.fno 43 [.ptr 2 0,.ptr 5 0,.ptr 3 0],.fno 48 [.ptr 5 0],.fno 52 [.ptr 5 0],.fno 54 [.ptr 5 0]])],[],[2,3,4,5]⟩ (Yc 4 4 5 n (VD (s':=⟨[(4,.ptr 4 0)],[(4,bG (em n v1 v2))],[],[4]⟩) (congrArg (fun t=>(⟨[(4,.ptr 4 0)],[(4,t)],[],[4]⟩:AS)) (Is v1 v2 n)) ?_))))))))))))))))))));cases h;exact bp
end
noncomputable section
variable[GS](M:Nat→Prop)(w0:aB)(r:Bool)(v1 v2:ah)  
variable{M w0 r v1 v2}{K:Kn}{n:Nat}
theorem WG(hK:ak K)(h:oU K n v1 v2=some r):aW Tryz.prog 65 [.agg (ap v1),.cptr (ap v2)] (fun v _=>v=.bool r):=by
 refine bB (cat Tryz.f65 (pn 1)) Tryz.func65 Tryz.ntmps65 fun M w0=>(ba ⟨[(0,.agg (ap v1)),(1,.cptr (ap v2))],[],[],[]⟩ ?_);unfold oU at h;refine av 6 7 3 (ai 2 ?_);obtain⟨v3,h1,h⟩:=bind_some h;refine aP (hK.tx h1) (ab (aJ 1 ?_));cases h;exact bp
end
noncomputable section
variable[GS](M:Nat→Prop)(w0:aB)(r:Bool)(v1 v2:ah)(v5:Bool)  
abbrev aaz(n:Nat):ao:=.c (cat Tryz.f28 (pn n))
abbrev Tn:Cx:=⟨Tryz.prog,14,M,w0⟩
abbrev OE:=bodyPost Tryz.prog Tryz.f28 (bC M w0 (fun v _=>v=.bool r))
abbrev P7(ks:List ao)(s:AS):=VE (Tn M w0) (OE M w0 r) ks .normal s
def X9:AS:=⟨[(4,.bool v5)],[],[],[]⟩
variable{M w0 r v1 v2 v5}{K:Kn}{n:Nat}
theorem Mj(hK:ak K)(h:qt K n v5=some r):P7 M w0 r [aaz 7] (X9 v5):=by
 unfold qt at h;refine aJ 1 ?_;cases h;exact bp
theorem m9(hK:ak K)(h:hJ K n v1 v2=some r):aW Tryz.prog 28 [.agg (ap v1),.agg (ap v2)] (fun v _=>v=.bool r):=by
 refine bB (cat Tryz.f28 (pn 1)) Tryz.func28 Tryz.ntmps28 fun M w0=>(ba ⟨[(0,.agg (ap v1)),(1,.agg (ap v2))],[],[],[]⟩ ?_);unfold hJ at h;refine av 6 7 3 (ai 2 ?_);obtain⟨v3,h1,h⟩:=bind_some h;refine aP (gl hK h1) (aO 4 1 ?_);obtain⟨h2,h⟩|⟨h2,h⟩:=am h
 ·exact aC 8 h2 (ab (ac 0 (Mj hK h)))
 ·refine aC 8 h2 (aO 6 2 (jU 3 3 (ap v2) (mS 65 #[(.tmp 3)] [.cptr (ap v2)] ?_)));obtain⟨v4,h3,h⟩:=bind_some h;exact aP (Ht hK h3) (ab (ac 0 (Mj hK h)))
end
noncomputable section
variable[GS](M:Nat→Prop)(w0:aB)(r v1:aj)(v2:List aj)(v4:Int)(v5:List aj)(m1:Nat)(L1:Int→(List aj)→Option aj)
abbrev zw:Cx:=⟨Tryz.prog,26,M,w0⟩
abbrev FN:=bodyPost Tryz.prog Tryz.f73 (bC M w0 (fun v s=>v=.agg (List.set (aI ({ r with Kids:=[] }:aj)) 66 (.ref 1006))∧look 1006 s.r=some ⟨44,67,lm aL r.Kids⟩))
abbrev Pc(ks:List ao)(s:AS):=VE (zw M w0) (FN M w0 r) ks .normal s
abbrev Nm(n:Nat):ao:=.c (cat Tryz.f73 (pn n))
abbrev EB:List ao:=[.b 0,Nm 15]
abbrev aao:List ao:=kl (zw M w0) (FN M w0 r) EB (cat Tryz.f73 (pn 116)) m1::EB
def M4:AS:=⟨[(1,.ptr 1 0),(2,.ptr 2 0),(10,iI (v2.length:Int)),(11,iI v4)],[(1,List.set (aI ({ v1 with Kids:=[] }:aj)) 66 (.ref 1006)),(2,List.set (aI bQ) 66 (.nils))],[(1006,⟨44,67,lm aL v5⟩)],[1,2,1006]⟩
abbrev MP:Prop:=∀{v4:Int} {v5:(List aj)},L1 v4 v5=some r→LP (zw M w0) (FN M w0 r) EB (cat Tryz.f73 (pn 116)) m1 (M4 v1 v2 v4 v5)
variable{M w0 r v1 v2 v4 v5 m1 L1}{K:Kn}{n:Nat}
theorem SX(hK:ak K)(hL1:MP M w0 r v1 v2 m1 L1)(h:wk K n v1 v2 L1 v4 v5=some r):Pc M w0 r (Nm 116::aao M w0 r m1) (M4 v1 v2 v4 v5):=by
 unfold wk at h;refine av 6 7 3 ?_;obtain⟨h6,h⟩|⟨h6,h⟩:=am h
 ·refine ae 12 h6 (lg 9 1 3 6 (bA [1,2,3,10,11] [1,2] [1006] ?_));obtain⟨h7,h⟩:=ax h;obtain⟨v6,h8,h⟩:=bind_some h;obtain⟨h9,h⟩:=ax h;exact bw 1 (nu 14 [.ptr 1 66,.ref 1006,iI v4,.ptr 1 66,.ref 1006,iI v4,.eptr 1006 67 (v4.toNat) 0,.agg (aI (gD v5 v4)),.agg (aI v6),.eptr 1006 67 (v4.toNat) 0]) [] [] [cV 1006 ⟨44,67,lm aL (List.set v5 v4.toNat v6)⟩] (aq (vz 6) (aR (bO 1006 67 aL (L:=v5) h7) (aR (br 44 0 aL aI (bf h9).2 (c9)) (ag (bL 0 1 22 (hK.s5 h8)) (aR (bO 1006 67 aL (L:=v5) h9) (ag (cy (m:=0) (cJ 1006 44 67 0 aL aI v6 (bf h9).2 (c9))) bz)))))) (ac 2 (bc (hL1 h)))
 ·refine ae 12 h6 (aJ 8 ?_);cases h;exact dk
theorem SF(hK:ak K)(m:Nat):MP M w0 r v1 v2 m (si K n v1 v2 m):=by
 induction m with
 | zero=>intro v4 v5 h;cases h
 | succ m ih=>intro v4 v5 h;have h:wk K n v1 v2 (si K n v1 v2 m) v4 v5=some r:=h;exact aZ (SX hK ih h)
theorem ML(hK:ak K)(h:uE K n v1=some r):aW Tryz.prog 73 [.agg (aI v1)] (fun v s=>v=.agg (List.set (aI ({ r with Kids:=[] }:aj)) 66 (.ref 1006))∧look 1006 s.r=some ⟨44,67,lm aL r.Kids⟩):=by
 refine bB (cat Tryz.f73 (pn 1)) Tryz.func73 Tryz.ntmps73 fun M w0=>(ba ⟨[(0,.agg (aI v1))],[],[],[]⟩ ?_);unfold uE at h;refine av 6 7 3 (ai 2 ?_);obtain⟨v2,h1,h⟩:=bind_some h;exact dI 1006 (zC hK h1) (dt 5) (ab (bN 4 5 3 2 (ai 2 (au (bj aL v2) (ab (ac 1 (bK (p:=pn 58) n (SF hK n h))))))))
end
noncomputable section
variable[GS](M:Nat→Prop)(w0:aB)(r v1:List Int)  
variable{M w0 r v1}{K:Kn}{n:Nat}
theorem QO(hK:ak K)(h:zA K n v1=some r):aW Tryz.prog 95 [.sl (lm (af .i64) v1)] (fun v s=>v=.ref 5∧look 5 s.r=some ⟨3,1,lm (af .i64) r⟩):=by
 refine bB (cat Tryz.f95 (pn 1)) Tryz.func95 Tryz.ntmps95 fun M w0=>(ba ⟨[(0,.sl (lm (af .i64) v1))],[],[],[]⟩ ?_);unfold zA at h;refine bN 12 13 7 4 (ai 1 ?_);refine Ll (aQ Tryz.f95 (pn 12) 1) (.eql) 72 72 (.tmp 3) (.const (.slice none 0 0)) 4 (lm (af .i64) v1) (r:=aN Tryz.f95 (pn 12) 2) (e:=3) (by kernel_rfl) (by kernel_rfl) (by kernel_rfl) (by kernel_rfl) (by kernel_rfl) (by kernel_rfl) (by kernel_rfl) (by kernel_rfl) (fun hq=>?_) ?_
 ·have h:=K1 (by simpa using hq) h;refine ab (aJ 5 (dw 5 2 3 1 ?_));cases h;exact dk
 ·have h:=Om h;refine ab (dQ 2 3 3 (ai 0 (xO 72 5 (e:=3) (sz:=1) (aO 2 1 ?_))));obtain⟨h2,h⟩:=ax h;refine au (cc 7 5 3 1 (af .i64) (rfl) ((fun _=>rfl)) h2) (ab (aJ 1 ?_));cases h;exact dk
end
noncomputable section
variable[GS](M:Nat→Prop)(w0:aB)(r:Unit)(v1:fP)(v2:ah)(v3:List Int)(v4:Bool)(v6:List Int)(v10:Int)(v11:Bool)(m1:Nat)(L1:Int→Option Unit)
abbrev CZ:Cx:=⟨Tryz.prog,53,M,w0⟩
abbrev Cl:=bodyPost Tryz.prog Tryz.f76 (bC M w0 (fun v _=>v=fe r))
abbrev xt(ks:List ao)(s:AS):=VE (CZ M w0) (Cl M w0 r) ks .normal s
abbrev jg(n:Nat):ao:=.c (cat Tryz.f76 (pn n))
abbrev DZ:List ao:=[.b 0]
abbrev BW:List ao:=kl (CZ M w0) (Cl M w0 r) DZ (cat Tryz.f76 (pn 60)) m1::DZ
def X3:AS:=⟨[(2,.sl (lm (af .i64) v6)),(3,.ptr 3 0),(7,.ptr 7 0),(24,.sl (lm aF v2.Kids)),(25,iI (v2.Kids.length:Int)),(26,iI v10),(43,.bool v11)],[(3,kw v1),(7,ap (gD v2.Kids v10))],[],[3,7]⟩
def LR:AS:=⟨[(2,.sl (lm (af .i64) v6)),(3,.ptr 3 0),(24,.sl (lm aF v2.Kids)),(25,iI (v2.Kids.length:Int)),(26,iI v10)],[(3,kw v1)],[],[3]⟩
def Q9:AS:=⟨[(2,.sl (lm (af .i64) v6)),(3,.ptr 3 0),(4,.ptr 4 0)],[(3,kw v1),(4,ap v2)],[],[3,4]⟩
def Vb:AS:=⟨[(2,.sl (lm (af .i64) v3)),(3,.ptr 3 0),(4,.ptr 4 0),(16,.bool v4)],[(3,kw v1),(4,ap v2)],[],[3,4]⟩
abbrev FB:Prop:=∀{v10:Int},L1 v10=some r→LP (CZ M w0) (Cl M w0 r) DZ (cat Tryz.f76 (pn 60)) m1 (LR v1 v2 v6 v10)
variable{M w0 r v1 v2 v3 v4 v6 v10 v11 m1 L1}{K:Kn}{n:Nat}
theorem zo(hK:ak K)(hL1:FB M w0 r v1 v2 v6 m1 L1)(h:oJ K n v1 v2 v6 v10 L1 v11=some r):xt M w0 r (jg 7781::jg 3891 :: .b 1::jg 487::BW M w0 r m1) (X3 v1 v2 v6 v10 v11):=by
 unfold oJ at h;obtain⟨h16,h⟩|⟨h16,h⟩:=am h
 ·refine ae 43 h16 ?_;cases h
 ·refine ae 43 h16 (bM (ks':=jg 3891 :: .b 1::jg 487::BW M w0 r m1) 2 (ai 3 ?_));obtain⟨v12,h17,h⟩:=bind_some h;exact aP (hK.yT h17) (ab (ac 2 (bc (hL1 h))))
theorem Pv(hK:ak K)(hL1:FB M w0 r v1 v2 v6 m1 L1)(h:vS K n v1 v2 v6 L1 v10=some r):xt M w0 r (jg 60::BW M w0 r m1) (LR v1 v2 v6 v10):=by
 unfold vS at h;refine av 6 7 3 ?_;obtain⟨h12,h⟩|⟨h12,h⟩:=am h
 ·refine ae 27 h12 (cr 8 9 1 3 5 (ai 0 ?_));obtain⟨h13,h⟩:=ax h;refine au (bu aF ap h13 (dE) (cX)) (ab (bN 4 5 3 2 (ai 4 ?_)));obtain⟨h14,h⟩|⟨h14,h⟩:=am h
  ·refine aC 33 h14 (aO 9 5 ?_);obtain⟨h15,h⟩|⟨h15,h⟩:=am h
   ·exact aC 38 h15 (ab (ac 0 (zo hK hL1 h)))
   ·exact aC 38 h15 (ab (ac 0 (zo hK hL1 h)))
  ·exact aC 33 h14 (ab (ac 0 (zo hK hL1 h)))
 ·refine ae 27 h12 (bM (ks':=[]) 5 (im ?_));cases h;exact fL
theorem Q6(hK:ak K)(m:Nat):FB M w0 r v1 v2 v6 m (wJ K n v1 v2 v6 m):=by
 induction m with
 | zero=>intro v10 h;cases h
 | succ m ih=>intro v10 h;have h:vS K n v1 v2 v6 (wJ K n v1 v2 v6 m) v10=some r:=h;exact aZ (Pv hK ih h)
theorem Mt(hK:ak K)(h:vn K n v1 v2 v6=some r):xt M w0 r [jg 7] (Q9 v1 v2 v6):=by
 unfold vn at h;exact av 2 3 1 (ai 2 (au (bj aF v2.Kids) (ab (ac 1 (bK (p:=pn 30) n (Q6 hK n h))))))
theorem LW(hK:ak K)(h:rI K n v1 v2 v3 v4=some r):xt M w0 r [jg 13,jg 7] (Vb v1 v2 v3 v4):=by
 unfold rI at h;obtain⟨h2,h⟩|⟨h2,h⟩:=am h
 ·refine ae 16 h2 (bd 2 1 (bA [2,3,4] [3,4] [] ?_));obtain⟨v5,h3,h⟩:=bind_some h;obtain⟨h4,h⟩:=ax h;exact bw 2 (nu 17 [.sl (lm (af .i64) v3),.ref 18,.ptr 4 1,iI v2.Node,.sl (lm (af .i64) [v2.Node])]) [] [(18,⟨3,1,lm (af .i64) v5⟩)] [eb 22 18 ⟨3,1,lm (af .i64) (v5++[v2.Node])⟩,bS Tryz.prog 53 Tryz.f76 (pn 26) 6] (aq [.v 0 2] (ag (rq 0 1 18 (QO hK h3) (dt 5)) (aq [.v 0 2,.v 0 2,.v 0 1] (ag (cy (m:=0) (cc 22 18 3 1 (af .i64) (rfl) ((fun _=>rfl)) h4)) (ag (bU 1) bz))))) (eX 18 (ac 0 (Mt hK h)))
 ·exact ae 16 h2 (ac 2 (Mt hK h))
theorem Mi(hK:ak K)(h:wP K n v1 v2 v3=some r):aW Tryz.prog 76 [.agg (kw v1),.agg (ap v2),.sl (lm (af .i64) v3)] (fun v _=>v=fe r):=by
 refine bB (cat Tryz.f76 (pn 1)) Tryz.func76 Tryz.ntmps76 fun M w0=>(ba ⟨[(0,.agg (kw v1)),(1,.agg (ap v2)),(2,.sl (lm (af .i64) v3))],[],[],[]⟩ ?_);unfold wP at h;refine bN 12 13 7 4 (ai 4 ?_);obtain⟨h1,h⟩|⟨h1,h⟩:=am h
 ·exact aC 11 h1 (ab (ac 0 (LW hK h)))
 ·exact aC 11 h1 (ab (ac 0 (LW hK h)))
end
noncomputable section
variable[GS](M:Nat→Prop)(w0:aB)(r:aj×Int×Int×(List aA))(v1:ah)(v2 v3:Int)(v4:bH)(v5 v6:Int)(v7:List aA)  
abbrev Jb(n:Nat):ao:=.c (cat Tryz.f35 (pn n))
variable{M w0 r v1 v2 v3 v4 v5 v6 v7}{K:Kn}{n:Nat}[SG w0]
theorem Pu(hK:ak K)(h:BV K n v1 v2 v3 v4 v5 v6 v7=some r):dA Tryz.prog 35 [.agg (ap v1),iI v2,iI v3,.agg (bG v4)] [(440001,List.set (bt (⟨[],v5,v6⟩:bq)) 0 (.ref 440009))] ⟨64,127,lm aY v7⟩ (fun v s=>v=.agg (aI r.1)∧bW s.o [(440001,List.set (bt (⟨[],r.2.1,r.2.2.1⟩:bq)) 0 (.ref 440009))]∧look 440009 s.r=some ⟨64,127,lm aY r.2.2.2⟩):=by
 refine fZ (c:=cat Tryz.f35 []) Tryz.func35 (by kernel_rfl) _ Tryz.ntmps35 (of_decide_eq_true (by kernel_rfl)) fun M w0=>(ba ⟨[(0,.agg (ap v1)),(1,iI v2),(2,iI v3),(3,.agg (bG v4))],[(440001,List.set (bt (⟨[],v5,v6⟩:bq)) 0 (.ref 440009))],[(440009,⟨64,127,lm aY v7⟩)],[440009,440001,1440001]⟩ ?_);unfold BV at h;refine bM (ks':=[Jb 14,Jb 15]) 5 (bA [1,2,4,7,8,10] [4,7,8,440001] [440009] (Ao 10 ?_));obtain⟨v8,h1,h⟩:=bind_some h;obtain⟨v9,h2,h⟩:=bind_some h;obtain⟨v10,h3,h⟩:=bind_some h;refine bw 2 (nu 16 [.agg (ap v1),.ptr 4 2,.agg (aE v1.Style),iI (min (max v2 0) 1048576),.agg (cb v8),.agg (bG v4)]++nu 23 [.agg (List.set (aI ({ v10 with Kids:=[] }:aj)) 66 (.ref 23))]++nu 9 [.ptr 9 0]) [(9,List.set (aI bQ) 66 (.nils))] [(23,⟨44,67,lm aL v10.Kids⟩)] [iK (some 22) ⟨64,127,lm aY v9.2.2.2⟩ [(440001,List.set (bt (⟨[],v9.2.1,v9.2.2.1⟩:bq)) 0 (.ref 440009))] (.agg (aI v9.1)),bS Tryz.prog 34 Tryz.f35 (pn 14) 9] (aq [.v 0 1,.v 0 2,.v 0 2,.v 0 2] (ag (bL 0 1 20 (AD hK h1)) (aq [.v 0 1] (ag (Ce 0 10 (ZG hK h2)) (ag (rq 1 1 23 (ML hK h3) (sZ (i:=66) (by kernel_rfl))) (ag (i7 0 2 44 9 (List.set (aI bQ) 66 (.nils))) (ag (bU 1) bz))))))) (av 6 7 3 (ai 3 (Zm 30 0 ?_)))
 obtain⟨v11,h4,h⟩:=bind_some h;refine aP (Mi hK h4) (ab (aJ 3 (eX 23 ?_)));cases h;exact dD
end
noncomputable section
variable[GS](M:Nat→Prop)(w0:aB)(r:Int)(v1:List aA)(v2:Fv)(v4:Int)(m1:Nat)(L1:Int→Option Int)
abbrev Eg:Cx:=⟨Tryz.prog,19,M,w0⟩
abbrev zF:=bodyPost Tryz.prog Tryz.f77 (bC M w0 (fun v _=>v=iI r))
abbrev VU(ks:List ao)(s:AS):=VE (Eg M w0) (zF M w0 r) ks .normal s
abbrev MV(n:Nat):ao:=.c (cat Tryz.f77 (pn n))
abbrev DS:List ao:=[.b 0,MV 7]
abbrev RP:List ao:=kl (Eg M w0) (zF M w0 r) DS (cat Tryz.f77 (pn 52)) m1::DS
def HJ:AS:=⟨[(0,.sl (lm aY v1)),(1,.fn v2.id v2.aK),(7,iI (v1.length:Int)),(8,iI v4)],[],[],[]⟩
abbrev Gm:Prop:=∀{v4:Int},L1 v4=some r→LP (Eg M w0) (zF M w0 r) DS (cat Tryz.f77 (pn 52)) m1 (HJ v1 v2 v4)
variable{M w0 r v1 v2 v4 m1 L1}{K:Kn}{n:Nat}
theorem PR(hK:ak K)(hL1:Gm M w0 r v1 v2 m1 L1)(h:s6 K n v1 v2 L1 v4=some r):VU M w0 r (MV 52::RP M w0 r m1) (HJ v1 v2 v4):=by
 unfold s6 at h;refine av 6 7 3 ?_;obtain⟨h5,h⟩|⟨h5,h⟩:=am h
 ·refine ae 9 h5 (cr 18 19 1 3 7 (ai 3 ?_));obtain⟨h6,h⟩:=ax h;refine au (bu aY aY h6 (BD) ((fun _=>rfl))) (aO 5 1 ?_);obtain⟨v5,h7,h⟩:=bind_some h;refine hF (hK.xe h7) (ab ?_);obtain⟨h8,h⟩|⟨h8,h⟩:=am h
  ·refine ae 16 h8 (aJ 9 ?_);cases h;exact bp
  ·exact ae 16 h8 (ac 4 (bc (hL1 h)))
 ·refine ae 9 h5 (aJ 8 ?_);cases h;exact bp
theorem UU(hK:ak K)(m:Nat):Gm M w0 r v1 v2 m (vP K n v1 v2 m):=by
 induction m with
 | zero=>intro v4 h;cases h
 | succ m ih=>intro v4 h;have h:s6 K n v1 v2 (vP K n v1 v2 m) v4=some r:=h;exact aZ (PR hK ih h)
theorem Rt(hK:ak K)(h:EZ K n v1 v2=some r):aW Tryz.prog 77 [.sl (lm aY v1),.fn v2.id v2.aK] (fun v _=>v=iI r):=by
 refine bB (cat Tryz.f77 (pn 1)) Tryz.func77 Tryz.ntmps77 fun M w0=>(ba ⟨[(0,.sl (lm aY v1)),(1,.fn v2.id v2.aK)],[],[],[]⟩ ?_);unfold EZ at h;exact bN 12 13 7 4 (ai 1 (au (bj aY v1) (ab (ac 1 (bK (p:=pn 26) n (UU hK n h))))))
end
noncomputable section
variable[GS](M:Nat→Prop)(w0:aB)(r:Bool)(v1:List aA)(v2:Fv)  
variable{M w0 r v1 v2}{K:Kn}{n:Nat}
theorem Yq(hK:ak K)(h:zB K n v1 v2=some r):aW Tryz.prog 38 [.sl (lm aY v1),.fn v2.id v2.aK] (fun v _=>v=.bool r):=by
 refine bB (cat Tryz.f38 (pn 1)) Tryz.func38 Tryz.ntmps38 fun M w0=>(ba ⟨[(0,.sl (lm aY v1)),(1,.fn v2.id v2.aK)],[],[],[]⟩ ?_);unfold zB at h;refine av 6 7 3 (ai 2 ?_);obtain⟨v3,h1,h⟩:=bind_some h;refine aP (Rt hK h1) (ab (aJ 1 ?_));cases h;exact bp
end
noncomputable section
variable[GS](M:Nat→Prop)(w0:aB)(r:Bool)(v1 v2:aA)(v4:Bool)  
abbrev OM(n:Nat):ao:=.c (cat Tryz.f39 (pn n))
abbrev PG:Cx:=⟨Tryz.prog,16,M,w0⟩
abbrev Sg:=bodyPost Tryz.prog Tryz.f39 (bC M w0 (fun v _=>v=.bool r))
abbrev aay(ks:List ao)(s:AS):=VE (PG M w0) (Sg M w0 r) ks .normal s
def W3:AS:=⟨[(3,.bool v4)],[],[],[]⟩
variable{M w0 r v1 v2 v4}{K:Kn}{n:Nat}
theorem Ma(hK:ak K)(h:vf K n v4=some r):aay M w0 r [OM 7] (W3 v4):=by
 unfold vf at h;refine aJ 1 ?_;cases h;exact bp
theorem Vi(hK:ak K)(h:B3 K n v1 v2=some r):aW Tryz.prog 39 [.agg (aY v1),.cptr (aY v2)] (fun v _=>v=.bool r):=by
 refine bB (cat Tryz.f39 (pn 1)) Tryz.func39 Tryz.ntmps39 fun M w0=>(ba ⟨[(0,.agg (aY v1)),(1,.cptr (aY v2))],[],[],[]⟩ ?_);unfold B3 at h;refine av 6 7 3 (ai 6 ?_);obtain⟨h1,h⟩|⟨h1,h⟩:=am h
 ·refine aC 9 h1 (aO 10 4 ?_);obtain⟨v3,h2,h⟩:=bind_some h;exact aP (gl hK h2) (ab (ac 0 (Ma hK h)))
 ·exact aC 9 h1 (ab (ac 0 (Ma hK h)))
end
noncomputable section
variable[GS](M:Nat→Prop)(w0:aB)(r:aj×Int×Int×(List aA))(v1:ah)(v2 v3 v4 v5:Int)(v6:List aA)(v8:aj×Int×Int×(List aA))(v19:Int)(v20:List aA)(v23:Bool)(v24:List aA)(m2:Nat)(L2:Int→(List aA)→Option (aj×Int×Int×(List aA)))
abbrev EQ:Cx:=⟨Tryz.prog,60,M,w0⟩
abbrev Bt:=bodyPost Tryz.prog Tryz.f12 (bC M w0 (fun v s=>v=.agg (aI r.1)∧bW s.o [(440001,List.set (bt (⟨[],r.2.1,r.2.2.1⟩:bq)) 0 (.ref 440009))]∧look 440009 s.r=some ⟨64,127,lm aY r.2.2.2⟩))
abbrev y5(ks:List ao)(s:AS):=VE (EQ M w0) (Bt M w0 r) ks .normal s
abbrev kC(n:Nat):ao:=.c (cat Tryz.f12 (pn n))
abbrev DA:List ao:=[.b 0,kC 63]
abbrev DC:List ao:=kl (EQ M w0) (Bt M w0 r) DA (cat Tryz.f12 (pn 500)) m2::DA
def Ps:AS:=⟨[(0,.adr GS.g 0),(5,.ptr 5 0),(8,.ptr 8 0),(9,.ptr 9 0),(10,.ref 2010),(32,.ref 440009),(33,iI (v8.2.2.2.length:Int)),(34,iI v19)],[(5,ap v1),(8,List.set (aI bQ) 66 (.nils)),(9,aI v8.1),(440001,List.set (bt (⟨[],v8.2.1,v8.2.2.1⟩:bq)) 0 (.ref 440009))],[(2010,⟨64,127,lm aY v24⟩),(440009,⟨64,127,lm aY v8.2.2.2⟩)],[5,8,9,440001,2010,440009,1440001,440001]⟩
def VM:AS:=⟨[(0,.adr GS.g 0),(5,.ptr 5 0),(8,.ptr 8 0),(9,.ptr 9 0),(10,.ref 2010),(12,.cptr (aY (gD v8.2.2.2 v19))),(32,.ref 440009),(33,iI (v8.2.2.2.length:Int)),(34,iI v19),(48,.bool v23)],[(5,ap v1),(8,List.set (aI bQ) 66 (.nils)),(9,aI v8.1),(440001,List.set (bt (⟨[],v8.2.1,v8.2.2.1⟩:bq)) 0 (.ref 440009))],[(2010,⟨64,127,lm aY v20⟩),(440009,⟨64,127,lm aY v8.2.2.2⟩)],[5,8,9,440001,2010,440009,1440001,440001]⟩
def I3:AS:=⟨[(0,.adr GS.g 0),(5,.ptr 5 0),(8,.ptr 8 0),(9,.ptr 9 0),(10,.ref 2010),(32,.ref 440009),(33,iI (v8.2.2.2.length:Int)),(34,iI v19)],[(5,ap v1),(8,List.set (aI bQ) 66 (.nils)),(9,aI v8.1),(440001,List.set (bt (⟨[],v8.2.1,v8.2.2.1⟩:bq)) 0 (.ref 440009))],[(2010,⟨64,127,lm aY v20⟩),(440009,⟨64,127,lm aY v8.2.2.2⟩)],[5,8,9,440001,2010,440009,1440001,440001]⟩
abbrev tp:Prop:=∀{v19:Int} {v20:(List aA)},L2 v19 v20=some r→LP (EQ M w0) (Bt M w0 r) DA (cat Tryz.f12 (pn 500)) m2 (I3 v1 v8 v19 v20)
variable{M w0 r v1 v2 v3 v4 v5 v6 v8 v19 v20 v23 v24 m2 L2}{K:Kn}{n:Nat}[SG w0]
theorem IA(hK:ak K)(hL2:tp M w0 r v1 v8 m2 L2)(h:wB K n v1 v8 v19 L2 v24=some r):y5 M w0 r (.b 1::kC 4007::DC M w0 r m2) (Ps v1 v8 v19 v24):=by
 unfold wB at h;exact ac 2 (bc (hL2 h))
theorem L9(hK:ak K)(hL2:tp M w0 r v1 v8 m2 L2)(h:ym K n v1 v8 v19 v20 L2 v23=some r):y5 M w0 r (kC 64103 :: .b 1::kC 4007::DC M w0 r m2) (VM v1 v8 v19 v20 v23):=by
 unfold ym at h;obtain⟨h24,h⟩|⟨h24,h⟩:=am h
 ·refine ae 48 h24 (bd 2 1 (ai 3 ?_));obtain⟨h25,h⟩:=ax h;exact au (cc 52 2010 64 127 aY (rfl) (BD) h25) (ab (ac 0 (IA hK hL2 h)))
 ·exact ae 48 h24 (ac 2 (IA hK hL2 h))
theorem ZJ(hK:ak K)(hL2:tp M w0 r v1 v8 m2 L2)(h:rc K n v1 v8 L2 v19 v20=some r):y5 M w0 r (kC 500::DC M w0 r m2) (I3 v1 v8 v19 v20):=by
 unfold rc at h;refine av 6 7 3 ?_;obtain⟨h19,h⟩|⟨h19,h⟩:=am h
 ·refine ae 35 h19 (cr 8 9 1 3 5 (ai 0 ?_));obtain⟨h20,h⟩:=ax h;refine au (ca 440009 127 aY h20) (au (br 64 0 aY aY (bf h20).2 ((fun _=>rfl))) (ab (av 2 3 1 (ai 1 (jU 12 12 (aY (gD v8.2.2.2 v19)) (mS 39 #[(.tmp 12)] [.cptr (aY (gD v8.2.2.2 v19))] ?_))))));obtain⟨v21,h21,h⟩:=bind_some h;refine Ig (Yq hK h21) (ab (av 2 3 1 (ai 3 ?_)));obtain⟨h22,h⟩|⟨h22,h⟩:=am h
  ·refine aC 43 h22 (aO 6 3 ?_);obtain⟨v22,h23,h⟩:=bind_some h;exact aP (m9 hK h23) (ab (ac 0 (L9 hK hL2 h)))
  ·exact aC 43 h22 (ab (ac 0 (L9 hK hL2 h)))
 ·refine ae 35 h19 (eI 2 3 6 (ai 4 (Oi 57 0 (ab (av 2 3 1 (ai 1 ?_))))));obtain⟨v25,h26,h⟩:=bind_some h;refine dI 1059 (vo hK h26) (sZ (i:=66) (by kernel_rfl)) (ab (aJ 1 (bA [8] [8,440001] [1059,2010] (lx 2010 440009 (eX 1059 ?_)))));cases h;exact dD
theorem aar(hK:ak K)(m:Nat):tp M w0 r v1 v8 m (sU K n v1 v8 m):=by
 induction m with
 | zero=>intro v19 v20 h;cases h
 | succ m ih=>intro v19 v20 h;have h:rc K n v1 v8 (sU K n v1 v8 m) v19 v20=some r:=h;exact aZ (ZJ hK ih h)
theorem N8(hK:ak K)(h:uC K n v1 v2 v3 v4 v5 v6=some r):dA Tryz.prog 12 [.ptr 440001 0,.agg (ap v1),iI v2,iI v3] [(440001,List.set (bt (⟨[],v4,v5⟩:bq)) 0 (.ref 440009))] ⟨64,127,lm aY v6⟩ (fun v s=>v=.agg (aI r.1)∧bW s.o [(440001,List.set (bt (⟨[],r.2.1,r.2.2.1⟩:bq)) 0 (.ref 440009))]∧look 440009 s.r=some ⟨64,127,lm aY r.2.2.2⟩):=by
 refine fZ (c:=cat Tryz.f12 []) Tryz.func12 (by kernel_rfl) _ Tryz.ntmps12 (of_decide_eq_true (by kernel_rfl)) fun M w0=>(ba ⟨[(0,.ptr 440001 0),(1,.agg (ap v1)),(2,iI v2),(3,iI v3)],[(440001,List.set (bt (⟨[],v4,v5⟩:bq)) 0 (.ref 440009))],[(440009,⟨64,127,lm aY v6⟩)],[440009,440001,1440001]⟩ ?_);unfold uC at h;refine bM (ks':=[kC 14,kC 15]) 5 (bA [0,2,3,5,8,14] [5,8,440001] [440009] (Ao 14 (Us 0 0 ?_)));obtain⟨v7,h1,h⟩:=bind_some h;obtain⟨v8,h2,h⟩:=bind_some h;exact bw 2 (nu 20 [.agg (ap v1),iI v2,iI v3,.adr GS.g 0,dj 36 true,.adr GS.g 0,dj 37 true,.agg (bG v7)]++nu 9 [.ptr 9 0]) [(9,List.set (aI bQ) 66 (.nils))] [] [iK (some 28) ⟨64,127,lm aY v8.2.2.2⟩ [(440001,List.set (bt (⟨[],v8.2.1,v8.2.2.1⟩:bq)) 0 (.ref 440009))] (.agg (aI v8.1)),bS Tryz.prog 60 Tryz.f12 (pn 14) 10] (aq [.v 0 1,.v 0 1,.v 0 1,.v 0 2,.v 0 2,.v 0 2,.v 0 2] (ag (bL 0 1 27 (TF hK h1)) (ag (Ce 0 14 (Pu hK h2)) (ag (i7 0 2 44 9 (List.set (aI bQ) 66 (.nils))) (ag (bU 1) bz))))) (bN 12 13 7 4 (ai 3 (Oi 31 0 (aO 4 1 (au (bj aY v8.2.2.2) (ab (eW 2 0 1 (bA [0,5,8,9,10,32,33,34] [5,8,9,440001] [440009] (dw 2010 10 64 127 (ac 0 (bK (p:=pn 250) n (aar hK n h))))))))))))
end
noncomputable section
variable[GS](M:Nat→Prop)(w0:aB)(r:ah)(v1:Int)  
variable{M w0 r v1}{K:Kn}{n:Nat}
theorem uU(hK:ak K)(h:mI K n v1=some r):aW Tryz.prog 33 [iI v1] (fun v _=>v=.agg (ap r)):=by
 refine bB (cat Tryz.f33 (pn 1)) Tryz.func33 Tryz.ntmps33 fun M w0=>(ba ⟨[(0,iI v1)],[],[],[]⟩ ?_);unfold mI at h;refine aJ 5 (jb 2 ?_);cases h;exact bp
end
noncomputable section
variable(M:Nat→Prop)(w0:aB)(r v7:Bool)  
abbrev PJ(n:Nat):ao:=.c (cat Tryz.f10 (pn n))
abbrev TK:Cx:=⟨Tryz.prog,33,M,w0⟩
abbrev Qb:=bodyPost Tryz.prog Tryz.f10 (bC M w0 (fun v _=>v=.bool r))
abbrev Xk(ks:List ao)(s:AS):=VE (TK M w0) (Qb M w0 r) ks .normal s
def Wi:AS:=⟨[(0,.bool v7)],[],[],[]⟩
variable{M w0 r v7}{K:Kn}{n:Nat}
theorem uz(hA:∀ [GS],ak K)(h:ma K n v7=some r):Xk M w0 r [PJ 127] (Wi v7):=by
 letI:GS:=⟨0⟩;have hK:=@hA ⟨0⟩
 unfold ma at h;refine aJ 1 ?_;cases h;exact bp
theorem Pt(hA:∀ [GS],ak K)(h:qZ K n=some r):aW Tryz.prog 10 [] (fun v _=>v=.bool r):=by
 letI:GS:=⟨0⟩;have hK:=@hA ⟨0⟩
 refine bB (cat Tryz.f10 (pn 1)) Tryz.func10 Tryz.ntmps10 fun M w0=>(ba ⟨[],[],[],[]⟩ ?_);unfold qZ at h;refine av 14 15 5 (ai 0 ?_);obtain⟨v1,h1,h⟩:=bind_some h;refine aP (uU hK h1) ?_;obtain⟨v2,h2,h⟩:=bind_some h;refine aP (uU hK h2) (au (eJ aF ([v1,v2]:List ah) (new:=[ap v1,ap v2]) (by simp only[List.map_cons,List.map_nil,cX])) (aO 4 1 (yM 400001 1 0 64 127 ?_)));obtain⟨v3,h3,h⟩:=bind_some h;refine KT 1 400001 (fun [GS]=>(N8 hA h3)) (ab (av 6 7 3 (ai 0 ?_)));obtain⟨v4,h4,h⟩:=bind_some h;refine aP (uU hK h4) ?_;obtain⟨v5,h5,h⟩:=bind_some h;refine aP (uU hK h5) (au (eJ aF ([v4,v5]:List ah) (new:=[ap v4,ap v5]) (by simp only[List.map_cons,List.map_nil,cX])) (aO 4 1 ?_));obtain⟨v6,h6,h⟩:=bind_some h;refine KT 1 400001 (fun [GS]=>(N8 hA h6)) (ab (av 2 3 1 (ai 4 ?_)));obtain⟨h7,h⟩|⟨h7,h⟩:=am h
 ·refine aC 19 h7 (aO 8 4 ?_);obtain⟨h8,h⟩|⟨h8,h⟩:=am h
  ·refine aC 23 h8 (aO 13 5 ?_);obtain⟨h9,h⟩|⟨h9,h⟩:=am h
   ·exact aC 28 h9 (ab (ac 0 (uz hA h)))
   ·exact aC 28 h9 (ab (ac 0 (uz hA h)))
  ·exact aC 23 h8 (ab (ac 0 (uz hA h)))
 ·exact aC 19 h7 (ab (ac 0 (uz hA h)))
end
noncomputable section
variable[GS](M:Nat→Prop)(w0:aB)(r:Bool)(v1:cE)(v2:Bool)  
abbrev Sp(n:Nat):ao:=.c (cat Tryz.f72 (pn n))
abbrev PH:Cx:=⟨Tryz.prog,11,M,w0⟩
abbrev UG:=bodyPost Tryz.prog Tryz.f72 (bC M w0 (fun v _=>v=.bool r))
abbrev We(ks:List ao)(s:AS):=VE (PH M w0) (UG M w0 r) ks .normal s
def OI:AS:=⟨[(2,.bool v2)],[],[],[]⟩
variable{M w0 r v1 v2}{K:Kn}{n:Nat}
theorem Ln(hK:ak K)(h:oI K n v2=some r):We M w0 r [Sp 7] (OI v2):=by
 unfold oI at h;refine aJ 1 ?_;cases h;exact bp
theorem fi(hK:ak K)(h:ed K n v1=some r):aW Tryz.prog 72 [.agg (eh v1)] (fun v _=>v=.bool r):=by
 refine bB (cat Tryz.f72 (pn 1)) Tryz.func72 Tryz.ntmps72 fun M w0=>(ba ⟨[(0,.agg (eh v1))],[],[],[]⟩ ?_);unfold ed at h;refine av 6 7 3 (ai 4 ?_);obtain⟨h1,h⟩|⟨h1,h⟩:=am h
 ·exact aC 6 h1 (ab (ac 0 (Ln hK h)))
 ·exact aC 6 h1 (ab (ac 0 (Ln hK h)))
end
noncomputable section
variable[GS](M:Nat→Prop)(w0:aB)(r:Bool)(v1:List aM)(v2 v23:Int)(v31 v34 v37 v40 v43:Bool)(m1:Nat)(L1:Int→Option Bool)
abbrev uX:Cx:=⟨Tryz.prog,130,M,w0⟩
abbrev tn:=bodyPost Tryz.prog Tryz.f34 (bC M w0 (fun v _=>v=.bool r))
abbrev nB(ks:List ao)(s:AS):=VE (uX M w0) (tn M w0 r) ks .normal s
abbrev d6(n:Nat):ao:=.c (cat Tryz.f34 (pn n))
abbrev z8:List ao:=[.b 0,d6 7]
abbrev qi:List ao:=kl (uX M w0) (tn M w0 r) z8 (cat Tryz.f34 (pn 52)) m1::z8
def S1:AS:=⟨[(0,.sl (lm aH v1)),(1,iI v2),(5,iI v23),(6,.ptr 6 0),(7,iI 3),(125,.bool v43)],[(6,aE ((gD v1 v23).Style))],[],[6]⟩
def T8:AS:=⟨[(0,.sl (lm aH v1)),(1,iI v2),(5,iI v23),(6,.ptr 6 0),(7,iI 2),(125,.bool v40)],[(6,aE ((gD v1 v23).Style))],[],[6]⟩
def Qi:AS:=⟨[(0,.sl (lm aH v1)),(1,iI v2),(5,iI v23),(6,.ptr 6 0),(7,iI 1),(125,.bool v37)],[(6,aE ((gD v1 v23).Style))],[],[6]⟩
def OY:AS:=⟨[(0,.sl (lm aH v1)),(1,iI v2),(5,iI v23),(6,.ptr 6 0),(7,iI 0),(125,.bool v34)],[(6,aE ((gD v1 v23).Style))],[],[6]⟩
def ZX:AS:=⟨[(0,.sl (lm aH v1)),(1,iI v2),(5,iI v23),(6,.ptr 6 0),(107,.bool v31)],[(6,aE ((gD v1 v23).Style))],[],[6]⟩
def Jw:AS:=⟨[(0,.sl (lm aH v1)),(1,iI v2),(5,iI v23)],[],[],[]⟩
abbrev lB:Prop:=∀{v23:Int},L1 v23=some r→LP (uX M w0) (tn M w0 r) z8 (cat Tryz.f34 (pn 52)) m1 (Jw v1 v2 v23)
abbrev iQ(m:Nat):List ao:=kl (uX M w0) (tn M w0 r) (.b 2 :: .b 1::d6 211::qi M w0 r m1) (cat Tryz.f34 (pn 13468)) m::(.b 2 :: .b 1::d6 211::qi M w0 r m1)
variable{M w0 r v1 v2 v23 v31 v34 v37 v40 v43 m1 L1}{K:Kn}{n:Nat}
theorem Ow(hK:ak K)(hL1:lB M w0 r v1 v2 m1 L1)(h:ng K n v1 v2 v23 L1 v43=some r):nB M w0 r (d6 215497 :: .b 3::d6 53875::iQ M w0 r m1 36) (S1 v1 v2 v23 v43):=by
 unfold ng at h;obtain⟨h84,h⟩|⟨h84,h⟩:=am h
 ·refine ae 125 h84 (aJ 13 ?_);cases h;exact bp
 ·exact ae 125 h84 (bm (ks':=iQ M w0 r m1 36) 4 ⟨[(0,.sl (lm aH v1)),(1,iI v2),(5,iI v23),(6,.ptr 6 0),(7,iI 4)],[(6,aE ((gD v1 v23).Style))],[],[6]⟩ (bc (aZ (ac 10 (bc (hL1 h))))))
theorem LB(hK:ak K)(hL1:lB M w0 r v1 v2 m1 L1)(h:oa K n v1 v2 v23 L1 v40=some r):nB M w0 r (d6 215497 :: .b 3::d6 53875::iQ M w0 r m1 37) (T8 v1 v2 v23 v40):=by
 unfold oa at h;obtain⟨h80,h⟩|⟨h80,h⟩:=am h
 ·refine ae 125 h80 (aJ 13 ?_);cases h;exact bp
 ·refine ae 125 h80 (bm (ks':=iQ M w0 r m1 37) 4 ⟨[(0,.sl (lm aH v1)),(1,iI v2),(5,iI v23),(6,.ptr 6 0),(7,iI 3)],[(6,aE ((gD v1 v23).Style))],[],[6]⟩ (bc (aZ (cU 24 25 3 7 8 (ai 4 ?_)))));obtain⟨v41,h81,h⟩:=bind_some h;refine aP (fi hK h81) (aO 7 2 ?_);obtain⟨h82,h⟩|⟨h82,h⟩:=am h
  ·exact aC 118 h82 (ab (ac 0 (Ow hK hL1 h)))
  ·refine aC 118 h82 (aO 11 4 ?_);obtain⟨v42,h83,h⟩:=bind_some h;exact aP (fi hK h83) (ab (ac 0 (Ow hK hL1 h)))
theorem JW(hK:ak K)(hL1:lB M w0 r v1 v2 m1 L1)(h:qD K n v1 v2 v23 L1 v37=some r):nB M w0 r (d6 215497 :: .b 3::d6 53875::iQ M w0 r m1 38) (Qi v1 v2 v23 v37):=by
 unfold qD at h;obtain⟨h76,h⟩|⟨h76,h⟩:=am h
 ·refine ae 125 h76 (aJ 13 ?_);cases h;exact bp
 ·refine ae 125 h76 (bm (ks':=iQ M w0 r m1 38) 4 ⟨[(0,.sl (lm aH v1)),(1,iI v2),(5,iI v23),(6,.ptr 6 0),(7,iI 2)],[(6,aE ((gD v1 v23).Style))],[],[6]⟩ (bc (aZ (cU 24 25 3 7 8 (ai 4 ?_)))));obtain⟨v38,h77,h⟩:=bind_some h;refine aP (fi hK h77) (aO 7 2 ?_);obtain⟨h78,h⟩|⟨h78,h⟩:=am h
  ·exact aC 118 h78 (ab (ac 0 (LB hK hL1 h)))
  ·refine aC 118 h78 (aO 11 4 ?_);obtain⟨v39,h79,h⟩:=bind_some h;exact aP (fi hK h79) (ab (ac 0 (LB hK hL1 h)))
theorem Jv(hK:ak K)(hL1:lB M w0 r v1 v2 m1 L1)(h:qH K n v1 v2 v23 L1 v34=some r):nB M w0 r (d6 215497 :: .b 3::d6 53875::iQ M w0 r m1 39) (OY v1 v2 v23 v34):=by
 unfold qH at h;obtain⟨h72,h⟩|⟨h72,h⟩:=am h
 ·refine ae 125 h72 (aJ 13 ?_);cases h;exact bp
 ·refine ae 125 h72 (bm (ks':=iQ M w0 r m1 39) 4 ⟨[(0,.sl (lm aH v1)),(1,iI v2),(5,iI v23),(6,.ptr 6 0),(7,iI 1)],[(6,aE ((gD v1 v23).Style))],[],[6]⟩ (bc (aZ (cU 24 25 3 7 8 (ai 4 ?_)))));obtain⟨v35,h73,h⟩:=bind_some h;refine aP (fi hK h73) (aO 7 2 ?_);obtain⟨h74,h⟩|⟨h74,h⟩:=am h
  ·exact aC 118 h74 (ab (ac 0 (JW hK hL1 h)))
  ·refine aC 118 h74 (aO 11 4 ?_);obtain⟨v36,h75,h⟩:=bind_some h;exact aP (fi hK h75) (ab (ac 0 (JW hK hL1 h)))
theorem eY(hK:ak K)(hL1:lB M w0 r v1 v2 m1 L1)(h:dM K n v1 v2 v23 L1 v31=some r):nB M w0 r (d6 3365::d6 1683 :: .b 1::d6 211::qi M w0 r m1) (ZX v1 v2 v23 v31):=by
 unfold dM at h;obtain⟨h68,h⟩|⟨h68,h⟩:=am h
 ·refine ae 107 h68 (aJ 10 ?_);cases h;exact bp
 ·refine ae 107 h68 (bm (ks':=d6 6734 :: .b 2 :: .b 1::d6 211::qi M w0 r m1) 5 ⟨[(0,.sl (lm aH v1)),(1,iI v2),(5,iI v23),(6,.ptr 6 0),(7,iI 0)],[(6,aE ((gD v1 v23).Style))],[],[6]⟩ (jw 40 (c:=cat Tryz.f34 [1,0,1,0,0,1,0,0,1,1,1,0,0]) (by kernel_rfl) (aZ (bM (ks':=d6 215496::d6 215497 :: .b 3::d6 53875::iQ M w0 r m1 39) 8 (ai 4 ?_)))));obtain⟨v32,h69,h⟩:=bind_some h;refine aP (fi hK h69) (aO 7 2 ?_);obtain⟨h70,h⟩|⟨h70,h⟩:=am h
  ·exact aC 118 h70 (ab (ac 0 (Jv hK hL1 h)))
  ·refine aC 118 h70 (aO 11 4 ?_);obtain⟨v33,h71,h⟩:=bind_some h;exact aP (fi hK h71) (ab (ac 0 (Jv hK hL1 h)))
theorem X7(hK:ak K)(hL1:lB M w0 r v1 v2 m1 L1)(h:ji K n v1 v2 L1 v23=some r):nB M w0 r (d6 52::qi M w0 r m1) (Jw v1 v2 v23):=by
 unfold ji at h;refine bN 4 5 3 2 (ai 2 (au (bj aH v1) (ab ?_)));obtain⟨h43,h⟩|⟨h43,h⟩:=am h
 ·refine ae 11 h43 (cr 8 9 1 3 5 (ai 2 ?_));obtain⟨h44,h⟩:=ax h;refine au (bu aH aH h44 (cR) ((fun _=>rfl))) (ab (bN 4 5 3 2 (ai 2 ?_)));obtain⟨h45,h⟩:=ax h;refine au (bu aH aH h45 (cR) ((fun _=>rfl))) (aO 8 5 ?_);obtain⟨h46,h⟩|⟨h46,h⟩:=am h
  ·exact aC 26 h46 (ab (ac 0 (eY hK hL1 h)))
  ·refine aC 26 h46 (aO 10 2 ?_);obtain⟨v24,h47,h⟩:=bind_some h;refine aP (fi hK h47) (aO 14 3 ?_);obtain⟨h48,h⟩|⟨h48,h⟩:=am h
   ·exact aC 32 h48 (ab (ac 0 (eY hK hL1 h)))
   ·refine aC 32 h48 (aO 16 2 ?_);obtain⟨v25,h49,h⟩:=bind_some h;refine aP (fi hK h49) (aO 20 3 ?_);obtain⟨h50,h⟩|⟨h50,h⟩:=am h
    ·exact aC 38 h50 (ab (ac 0 (eY hK hL1 h)))
    ·refine aC 38 h50 (aO 22 2 ?_);obtain⟨v26,h51,h⟩:=bind_some h;refine aP (fi hK h51) (aO 26 3 ?_);obtain⟨h52,h⟩|⟨h52,h⟩:=am h
     ·exact aC 44 h52 (ab (ac 0 (eY hK hL1 h)))
     ·refine aC 44 h52 (aO 28 2 ?_);obtain⟨v27,h53,h⟩:=bind_some h;refine aP (fi hK h53) (aO 32 3 ?_);obtain⟨h54,h⟩|⟨h54,h⟩:=am h
      ·exact aC 50 h54 (ab (ac 0 (eY hK hL1 h)))
      ·refine aC 50 h54 (aO 34 2 ?_);obtain⟨v28,h55,h⟩:=bind_some h;refine aP (fi hK h55) (aO 38 3 ?_);obtain⟨h56,h⟩|⟨h56,h⟩:=am h
       ·exact aC 56 h56 (ab (ac 0 (eY hK hL1 h)))
       ·refine aC 56 h56 (aO 40 2 ?_);obtain⟨v29,h57,h⟩:=bind_some h;refine aP (fi hK h57) (aO 44 3 ?_);obtain⟨h58,h⟩|⟨h58,h⟩:=am h
        ·exact aC 62 h58 (ab (ac 0 (eY hK hL1 h)))
        ·refine aC 62 h58 (aO 46 2 ?_);obtain⟨v30,h59,h⟩:=bind_some h;refine aP (fi hK h59) (aO 50 3 ?_);obtain⟨h60,h⟩|⟨h60,h⟩:=am h
         ·exact aC 68 h60 (ab (ac 0 (eY hK hL1 h)))
         ·refine aC 68 h60 (aO 55 5 ?_);obtain⟨h61,h⟩|⟨h61,h⟩:=am h
          ·exact aC 73 h61 (ab (ac 0 (eY hK hL1 h)))
          ·refine aC 73 h61 (aO 60 5 ?_);obtain⟨h62,h⟩|⟨h62,h⟩:=am h
           ·exact aC 78 h62 (ab (ac 0 (eY hK hL1 h)))
           ·refine aC 78 h62 (aO 65 5 ?_);obtain⟨h63,h⟩|⟨h63,h⟩:=am h
            ·exact aC 83 h63 (ab (ac 0 (eY hK hL1 h)))
            ·refine aC 83 h63 (aO 70 5 ?_);obtain⟨h64,h⟩|⟨h64,h⟩:=am h
             ·exact aC 88 h64 (ab (ac 0 (eY hK hL1 h)))
             ·refine aC 88 h64 (aO 75 5 ?_);obtain⟨h65,h⟩|⟨h65,h⟩:=am h
              ·exact aC 93 h65 (ab (ac 0 (eY hK hL1 h)))
              ·refine aC 93 h65 (aO 80 5 ?_);obtain⟨h66,h⟩|⟨h66,h⟩:=am h
               ·exact aC 98 h66 (ab (ac 0 (eY hK hL1 h)))
               ·refine aC 98 h66 (aO 85 5 ?_);obtain⟨h67,h⟩|⟨h67,h⟩:=am h
                ·exact aC 103 h67 (ab (ac 0 (eY hK hL1 h)))
                ·exact aC 103 h67 (ab (ac 0 (eY hK hL1 h)))
 ·refine ae 11 h43 (eI 2 3 6 (ai 1 (au (bj aH v1) (ab (aJ 1 ?_)))));cases h;exact bp
theorem Tv(hK:ak K)(m:Nat):lB M w0 r v1 v2 m (kG K n v1 v2 m):=by
 induction m with
 | zero=>intro v23 h;cases h
 | succ m ih=>intro v23 h;have h:ji K n v1 v2 (kG K n v1 v2 m) v23=some r:=h;exact aZ (X7 hK ih h)
theorem IC(hK:ak K)(h:om K n v1 v2=some r):aW Tryz.prog 34 [.sl (lm aH v1),iI v2] (fun v _=>v=.bool r):=by
 refine bB (cat Tryz.f34 (pn 1)) Tryz.func34 Tryz.ntmps34 fun M w0=>(ba ⟨[(0,.sl (lm aH v1)),(1,iI v2)],[],[],[]⟩ ?_);unfold om at h;exact ac 6 (bK (p:=pn 26) n (Tv hK n h))
end
noncomputable section
variable[GS](M:Nat→Prop)(w0:aB)(r:Bool)(v1:List aM)(v2:List eo)(v4:Int)(v7:Bool)(m1:Nat)(L1:Int→Option Bool)
abbrev CQ:Cx:=⟨Tryz.prog,31,M,w0⟩
abbrev Cu:=bodyPost Tryz.prog Tryz.f11 (bC M w0 (fun v _=>v=.bool r))
abbrev K3(ks:List ao)(s:AS):=VE (CQ M w0) (Cu M w0 r) ks .normal s
abbrev Ab(n:Nat):ao:=.c (cat Tryz.f11 (pn n))
abbrev Am:List ao:=[.b 0,Ab 7]
abbrev Wn:List ao:=kl (CQ M w0) (Cu M w0 r) Am (cat Tryz.f11 (pn 52)) m1::Am
def QW:AS:=⟨[(4,.bool v7)],[],[],[]⟩
def IS:AS:=⟨[(0,.sl (lm aH v1)),(1,.sl (lm dP v2)),(7,.sl (lm dP v2)),(8,iI (v2.length:Int)),(9,iI v4)],[],[],[]⟩
abbrev N1:Prop:=∀{v4:Int},L1 v4=some r→LP (CQ M w0) (Cu M w0 r) Am (cat Tryz.f11 (pn 52)) m1 (IS v1 v2 v4)
variable{M w0 r v1 v2 v4 v7 m1 L1}{K:Kn}{n:Nat}
theorem zy(hK:ak K)(h:lU K n v7=some r):K3 M w0 r [Ab 15] (QW v7):=by
 unfold lU at h;refine aJ 1 ?_;cases h;exact bp
theorem aah(hK:ak K)(hL1:N1 M w0 r v1 v2 m1 L1)(h:oC K n v1 v2 L1 v4=some r):K3 M w0 r (Ab 52::Wn M w0 r m1) (IS v1 v2 v4):=by
 unfold oC at h;refine av 6 7 3 ?_;obtain⟨h5,h⟩|⟨h5,h⟩:=am h
 ·refine ae 10 h5 (cr 8 9 1 3 5 (ai 0 ?_));obtain⟨h6,h⟩:=ax h;refine au (bu dP dP h6 (Qh) ((fun _=>rfl))) (ab (av 2 3 1 (ai 3 ?_)));obtain⟨v5,h7,h⟩:=bind_some h;refine aP (IC hK h7) (ab ?_);obtain⟨h8,h⟩|⟨h8,h⟩:=am h
  ·refine ae 17 h8 (aJ 9 ?_);cases h;exact bp
  ·exact ae 17 h8 (ac 4 (bc (hL1 h)))
 ·refine ae 10 h5 (eI 2 3 6 (ai 1 ?_));obtain⟨v6,h9,h⟩:=bind_some h;refine aP (IC hK h9) (aO 3 1 ?_);obtain⟨h10,h⟩|⟨h10,h⟩:=am h
  ·refine aC 21 h10 (aO 4 1 (au (bj aH v1) (aO 8 3 ?_)));obtain⟨h11,h⟩|⟨h11,h⟩:=am h
   ·exact aC 26 h11 (aO 9 1 (au (bj dP v2) (ab (ac 0 (zy hK h)))))
   ·exact aC 26 h11 (ab (ac 0 (zy hK h)))
  ·exact aC 21 h10 (ab (ac 0 (zy hK h)))
theorem aai(hK:ak K)(m:Nat):N1 M w0 r v1 v2 m (me K n v1 v2 m):=by
 induction m with
 | zero=>intro v4 h;cases h
 | succ m ih=>intro v4 h;have h:oC K n v1 v2 (me K n v1 v2 m) v4=some r:=h;exact aZ (aah hK ih h)
theorem To(hK:ak K)(h:yt K n v1 v2=some r):aW Tryz.prog 11 [.sl (lm aH v1),.sl (lm dP v2)] (fun v _=>v=.bool r):=by
 refine bB (cat Tryz.f11 (pn 1)) Tryz.func11 Tryz.ntmps11 fun M w0=>(ba ⟨[(0,.sl (lm aH v1)),(1,.sl (lm dP v2))],[],[],[]⟩ ?_);unfold yt at h;exact bN 12 13 7 4 (ai 1 (au (bj dP v2) (ab (ac 1 (bK (p:=pn 26) n (aai hK n h))))))
end
noncomputable section
variable[GS](M:Nat→Prop)(w0:aB)(r:ah×Int)(v1:List aM)(v2:Int)(v3:Bool)(v8:Int)(v9:List ah)(v10:Bool)(m1:Nat)(L1:Int→(List ah)→Option (ah×Int))
abbrev As:Cx:=⟨Tryz.prog,95,M,w0⟩
abbrev Cq:=bodyPost Tryz.prog Tryz.f41 (bC M w0 (fun v s=>v=.tup [.agg (List.set (ap ({ r.1 with Kids:=[] }:ah)) 58 (.ref 72)),iI r.2]∧look 72 s.r=some ⟨48,59,lm aF r.1.Kids⟩))
abbrev zE(ks:List ao)(s:AS):=VE (As M w0) (Cq M w0 r) ks .normal s
abbrev kU(n:Nat):ao:=.c (cat Tryz.f41 (pn n))
abbrev zk:List ao:=[.b 0,kU 127]
abbrev BT:List ao:=kl (As M w0) (Cq M w0 r) zk (cat Tryz.f41 (pn 504)) m1::zk
def Pr:AS:=⟨[(0,.sl (lm aH v1)),(1,iI v8),(4,.ptr 4 0),(6,.ptr 6 0),(7,.int .u8 ((gD v1 v2).Depth)),(8,.bool v3),(60,.bool v10)],[(4,List.set (ap cA) 58 (.nils)),(6,List.set (ap ({ cA with Kind:=1,Node:=(aa (10+v2)),Style:=(gD v1 v2).Style }:ah)) 58 (.ref 72))],[(72,⟨48,59,lm aF v9⟩)],[4,6,72]⟩
def Ii:AS:=⟨[(0,.sl (lm aH v1)),(1,iI v8),(4,.ptr 4 0),(6,.ptr 6 0),(7,.int .u8 ((gD v1 v2).Depth)),(8,.bool v3)],[(4,List.set (ap cA) 58 (.nils)),(6,List.set (ap ({ cA with Kind:=1,Node:=(aa (10+v2)),Style:=(gD v1 v2).Style }:ah)) 58 (.ref 72))],[(72,⟨48,59,lm aF v9⟩)],[4,6,72]⟩
def Ug:AS:=⟨[(0,.sl (lm aH v1)),(1,iI (aa (v2+1))),(4,.ptr 4 0),(6,.ptr 6 0),(7,.int .u8 ((gD v1 v2).Depth)),(8,.bool v3)],[(4,List.set (ap cA) 58 (.nils)),(6,List.set (ap ({ cA with Kind:=1,Node:=(aa (10+v2)),Style:=(gD v1 v2).Style }:ah)) 58 (.nils))],[],[4,6]⟩
abbrev Ay:Prop:=∀{v8:Int} {v9:(List ah)},L1 v8 v9=some r→LP (As M w0) (Cq M w0 r) zk (cat Tryz.f41 (pn 504)) m1 (Ii v1 v2 v3 v8 v9)
variable{M w0 r v1 v2 v3 v8 v9 v10 m1 L1}{K:Kn}{n:Nat}
theorem GQ(hK:ak K)(hL1:Ay M w0 r v1 v2 v3 m1 L1)(h:jd K n v1 v2 v3 v8 v9 L1 v10=some r):zE M w0 r (kU 2017::kU 1009::BT M w0 r m1) (Pr v1 v2 v3 v8 v9 v10):=by
 unfold jd at h;obtain⟨h27,h⟩|⟨h27,h⟩:=am h
 ·refine ae 60 h27 (bM (ks':=kU 8073::kU 4037 :: .b 1::BT M w0 r m1) 6 ?_);obtain⟨h28,h⟩|⟨h28,h⟩:=am h
  ·refine ae 61 h28 (av 4 5 2 (ai 2 ?_));obtain⟨v11,h29,h⟩:=bind_some h;refine aP (hK.gQ h29) (ab (av 2 3 1 (ai 3 (au (eJ aF ([v11.1]:List ah) (new:=[ap v11.1]) (by simp only[List.map_cons,List.map_nil,cX])) ?_))));obtain⟨h30,h⟩:=ax h;exact au (cc 72 72 48 59 aF (rfl) (dE) h30) (ab (ac 5 (bc (hL1 h))))
  ·refine ae 61 h28 (dQ 2 3 3 (bA [0,1,4,6,7,8] [4,6] [72] ?_));obtain⟨h31,h⟩:=ax h;obtain⟨h32,h⟩:=ax h;obtain⟨h33,h⟩:=ax h;exact bw 2 (nu 75 [.ptr 6 58,.ref 72,.sl (lm aH v1),iI v8,.cptr (aH (gD v1 v8)),.cptr (List.drop 5 (aH (gD v1 v8))),.agg (aE ((gD v1 v8).Style)),.sl (lm aH v1),iI v8,.cptr (aH (gD v1 v8)),.cptr (List.drop 2 (aH (gD v1 v8))),.str ((gD v1 v8).Text),.agg (List.set (ap ({ cA with Kind:=3,Style:=(gD v1 v8).Style,Text:=(gD v1 v8).Text }:ah)) 58 (.nils)),.sl (lm aF [({ cA with Kind:=3,Style:=(gD v1 v8).Style,Text:=(gD v1 v8).Text }:ah)])]++nu 90 [.ptr 6 58]) [] [] [eb 89 72 ⟨48,59,lm aF (v9++[({ cA with Kind:=3,Style:=(gD v1 v8).Style,Text:=(gD v1 v8).Text }:ah)])⟩,bS Tryz.prog 95 Tryz.f41 (pn 8074) 16] (aq [.v 0 2,.v 0 1,.v 0 2,.v 0 2] (ag (dm (lo:=0) (k:=2) (cu ⟨(by kernel_rfl),(cw (bu aH aH h31 (cR) ((fun _=>rfl))) (by kernel_rfl))⟩ (cu ⟨(by kernel_rfl),(cw (bu aH aH h31 (cR) ((fun _=>rfl))) (by kernel_rfl))⟩ dp))) (aq [.v 0 2,.v 0 2,.v 0 2,.v 0 2] (ag (dm (lo:=0) (k:=2) (cu ⟨(by kernel_rfl),(cw (bu aH aH h32 (cR) ((fun _=>rfl))) (by kernel_rfl))⟩ (cu ⟨(by kernel_rfl),(cw (bu aH aH h32 (cR) ((fun _=>rfl))) (by kernel_rfl))⟩ dp))) (aq [.v 0 2,.v 0 2,.v 0 2] (aR (eJ aF ([({ cA with Kind:=3,Style:=(gD v1 v8).Style,Text:=(gD v1 v8).Text }:ah)]:List ah) (new:=[ap ({ cA with Kind:=3,Style:=(gD v1 v8).Style,Text:=(gD v1 v8).Text }:ah)]) (by simp only[List.map_cons,List.map_nil,cX])) (ag (cy (m:=0) (cc 89 72 48 59 aF (rfl) (dE) h33)) (aq [.v 1 1] (ag (bU 1) bz))))))))) (ac 2 (bc (hL1 h)))
 ·refine ae 60 h27 (aJ 8 ?_);cases h;exact gc
theorem Uu(hK:ak K)(hL1:Ay M w0 r v1 v2 v3 m1 L1)(h:jG K n v1 v2 v3 L1 v8 v9=some r):zE M w0 r (kU 504::BT M w0 r m1) (Ii v1 v2 v3 v8 v9):=by
 unfold jG at h;refine bN 4 5 3 2 (ai 2 (au (bj aH v1) (aO 5 2 ?_)));obtain⟨h25,h⟩|⟨h25,h⟩:=am h
 ·refine aC 52 h25 (aO 7 2 ?_);obtain⟨h26,h⟩:=ax h;exact au (bu aH aH h26 (cR) ((fun _=>rfl))) (ab (ac 0 (GQ hK hL1 h)))
 ·exact aC 52 h25 (ab (ac 0 (GQ hK hL1 h)))
theorem TT(hK:ak K)(m:Nat):Ay M w0 r v1 v2 v3 m (iC K n v1 v2 v3 m):=by
 induction m with
 | zero=>intro v8 v9 h;cases h
 | succ m ih=>intro v8 v9 h;have h:jG K n v1 v2 v3 (iC K n v1 v2 v3 m) v8 v9=some r:=h;exact aZ (Uu hK ih h)
theorem A4(hK:ak K)(h:jM K n v1 v2 v3=some r):zE M w0 r [kU 63] (Ug v1 v2 v3):=by
 unfold jM at h;exact eU 4 0 3 2 (bA [0,1,4,6,7,8] [4,6] [] (yN 72 6 58 48 59 (ac 0 (bK (p:=pn 252) n (TT hK n h)))))
theorem V7(hK:ak K)(h:jy K n v1 v2=some r):aW Tryz.prog 41 [.sl (lm aH v1),iI v2] (fun v s=>v=.tup [.agg (List.set (ap ({ r.1 with Kids:=[] }:ah)) 58 (.ref 72)),iI r.2]∧look 72 s.r=some ⟨48,59,lm aF r.1.Kids⟩):=by
 refine bB (cat Tryz.f41 (pn 1)) Tryz.func41 Tryz.ntmps41 fun M w0=>(ba ⟨[(0,.sl (lm aH v1)),(1,iI v2)],[],[],[]⟩ ?_);unfold jy at h;refine av 6 7 3 (ai 4 ?_);obtain⟨h1,h⟩:=ax h;refine au (bu aH aH h1 (cR) ((fun _=>rfl))) (ab (av 2 3 1 (ai 2 ?_)));obtain⟨h2,h⟩:=ax h;refine au (bu aH aH h2 (cR) ((fun _=>rfl))) (ab (av 6 7 3 (ai 2 (au (bj aH v1) (aO 5 2 ?_)))));obtain⟨h3,h⟩|⟨h3,h⟩:=am h
 ·refine aC 30 h3 (aO 7 2 ?_);obtain⟨h4,h⟩:=ax h;refine au (bu aH aH h4 (cR) ((fun _=>rfl))) (aO 14 6 ?_);obtain⟨h5,h⟩|⟨h5,h⟩:=am h
  ·refine aC 39 h5 (aO 16 2 ?_);obtain⟨h6,h⟩:=ax h;exact au (bu aH aH h6 (cR) ((fun _=>rfl))) (ab (ac 0 (A4 hK h)))
  ·exact aC 39 h5 (ab (ac 0 (A4 hK h)))
 ·exact aC 30 h3 (ab (ac 0 (A4 hK h)))
end
end Go.Proofs.YtocgkfoifehcbaaGreat

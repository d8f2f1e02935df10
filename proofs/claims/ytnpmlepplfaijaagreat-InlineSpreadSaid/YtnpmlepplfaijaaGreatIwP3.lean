/- The runs of the functions that InlineSpread reaches do what their plain forms say, part 3. Made by a program. -/
import Derived.Test.YtnpmlepplfaijaaGreatIwGk
import Derived.Test.YtnpmlepplfaijaaGreatIwP2
namespace Go.Proofs.YtnpmlepplfaijaaGreat
open Go.RowKit
set_option maxRecDepth 20000
set_option linter.all false
set_option linter.unusedVariables false
set_option linter.unusedSimpArgs false
noncomputable section
variable(M:Nat→Prop)(w0:aF)(r:Bool)(v1:List ci)(v2:Int)(v7:List ay)(v9:List aP)(v14:Int)(v16 v18:Bool)(m1:Nat)(L1:Int→Option Bool)
abbrev q3:=bodyPost Tryz.prog Tryz.f3 (bu M w0 (fun v _=>v=.bool r))
variable{M w0 r v1 v2 v7 v9 v14 v16 v18 m1 L1}{K:Kn}{n:Nat}
end
noncomputable section
variable(M:Nat→Prop)(w0:aF)(r:aI)(v1:List ci)  
variable{M w0 r v1}{K:Kn}{n:Nat}
theorem ab7(hK:am K)(h:qF K n v1=some r):aO Tryz.prog 15 [.sl (lm b9 v1)] (fun v _=>v=.agg (aJ r)):=by
 refine bg (cat Tryz.f15 (pn 1)) Tryz.func15 Tryz.ntmps15 fun M w0=>(bc ⟨[(0,.sl (lm b9 v1))],[],[],[]⟩ ?_);unfold qF at h;refine bH 12 13 7 4 (aj 1 (aB (bq b9 v1) (ac ?_)));obtain⟨h1,h⟩|⟨h1,h⟩:=ak h
 ·refine ag 5 h1 (aE 5 ?_);cases h;exact ba
 ·refine ag 5 h1 (dB 2 3 3 (aj 1 ?_));obtain⟨h2,h⟩:=aK h;refine aB (bw b9 b9 h2 (tI) ((fun _=>rfl))) (ac (aE 1 ?_));cases h;exact ba
end
noncomputable section
variable(M:Nat→Prop)(w0:aF)(r:ay×(List Int))(v1:ai)(v2:cg)(v3:List Int)  
variable{M w0 r v1 v2 v3}{K:Kn}{n:Nat}
theorem abY(hK:am K)(h:yH K n v1 v2 v3=some r):fl Tryz.prog 42 [.agg (aW v1),.cptr (ct v2),.ptr 1 0] [(1,[.ref 9])] 9 ⟨3,1,lm (bi .i64) v3⟩ [9,1,1000001] (fun v s=>v=.agg (aN r.1)∧dh s.o [(1,[.ref 9])]∧look 9 s.r=some ⟨3,1,lm (bi .i64) r.2⟩):=by
 refine je (c:=cat Tryz.f42 (pn 1)) Tryz.func42 (by kernel_rfl) _ Tryz.ntmps42 (of_decide_eq_true (by kernel_rfl)) fun M w0=>(bc ⟨[(0,.agg (aW v1)),(1,.cptr (ct v2)),(2,.ptr 1 0)],[(1,[.ref 9])],[(9,⟨3,1,lm (bi .i64) v3⟩)],[9,1,1000001]⟩ ?_);unfold yH at h;refine az 6 7 3 (aj 3 ?_);obtain⟨v4,h1,h⟩:=bind_some h;refine ox (hK.lJ h1) (ac (az 2 3 1 (aj 3 ?_)));obtain⟨h2,h⟩:=aK h;refine aB (cD 17 9 3 1 (bi .i64) (rfl) ((fun _=>rfl)) h2) (ac (aE 3 (kO 4 ?_)));cases h;exact eK
end
noncomputable section
variable(M:Nat→Prop)(w0:aF)(r:ay×Int×(List Int))(v1:ai)(v2:Int)(v3:List Int)  
variable{M w0 r v1 v2 v3}{K:Kn}{n:Nat}
theorem OL(hK:am K)(h:yT K n v1 v2 v3=some r):fl Tryz.prog 43 [.agg (aW v1),.ptr 1 0,.ptr 2 0] [(1,[iI v2]),(2,[.ref 9])] 9 ⟨3,1,lm (bi .i64) v3⟩ [9,1,2,1000001,1000002] (fun v s=>v=.agg (aN r.1)∧dh s.o [(1,[iI r.2.1]),(2,[.ref 9])]∧look 9 s.r=some ⟨3,1,lm (bi .i64) r.2.2⟩):=by
 refine je (c:=cat Tryz.f43 (pn 1)) Tryz.func43 (by kernel_rfl) _ Tryz.ntmps43 (of_decide_eq_true (by kernel_rfl)) fun M w0=>(bc ⟨[(0,.agg (aW v1)),(1,.ptr 1 0),(2,.ptr 2 0)],[(1,[iI v2]),(2,[.ref 9])],[(9,⟨3,1,lm (bi .i64) v3⟩)],[9,1,2,1000001,1000002]⟩ ?_);unfold yT at h;refine az 14 15 5 (aj 3 ?_);obtain⟨h1,h⟩:=aK h;refine aB (cS 9 1 (bi .i64) h1) (aB (cp 3 0 (bi .i64) (bi .i64) (cj h1).2 ((fun _=>rfl))) (ac (aE 1 (kO 4 ?_))));cases h;exact eK
end
noncomputable section
variable(M:Nat→Prop)(w0:aF)(r:(List ay)×(List Int))(v1:List ai)(v2:cg)(v3:List Int)(v4:List aw)(v33:Int)(v34:List Int)(v35:List ay)(v37:Bool)(v43:Int)(v45:Bool)(v47:Int)(v48:List Int)(v49:ay)(m1 m2:Nat)(L1:Int→(List Int)→(List ay)→Option ((List ay)×(List Int)))(L2:Int→Option ((List ay)×(List Int)))
abbrev uT:Cx:=⟨Tryz.prog,120,M,w0⟩
abbrev wM:=bodyPost Tryz.prog Tryz.f22 (bu M w0 (fun v s=>v=.sl (lm aN r.1)∧dh s.o [(1,[.ref 9])]∧look 9 s.r=some ⟨3,1,lm (bi .i64) r.2⟩))
abbrev uO(ks:List aq)(s:AS):=VE (uT M w0) (wM M w0 r) ks .normal s
abbrev eh(n:Nat):aq:=.c (cat Tryz.f22 (pn n))
abbrev FA:List aq:=[.b 0,eh 31]
abbrev ki:List aq:=kl (uT M w0) (wM M w0 r) FA (cat Tryz.f22 (pn 244)) m1::FA
abbrev CU:List aq:=.b 3::eh 4009823 :: .b 2::eh 31327 :: .b 1::ki M w0 r m1
abbrev K8:List aq:=kl (uT M w0) (wM M w0 r) (CU M w0 r m1) (cat Tryz.f22 (pn 16039288)) m2::(CU M w0 r m1)
def Wx:AS:=⟨[(1,.fno 42 [.cptr (ct v2),.ptr 1 0]),(5,.sl (lm au v4)),(6,.ref 117),(8,.ptr 8 0),(9,.bool v37),(10,.ptr 10 0),(11,iI v47)],[(1,[.ref 9]),(8,au (gD v4 v33)),(10,aN v49)],[(9,⟨3,1,lm (bi .i64) v48⟩),(117,⟨46,62,lm aN v35⟩)],[1,8,10,9,117,1000001,1]⟩
def Sh:AS:=⟨[(1,.fno 42 [.cptr (ct v2),.ptr 1 0]),(5,.sl (lm au v4)),(6,.ref 117),(7,iI v33),(8,.ptr 8 0),(9,.bool v37),(10,.ptr 10 0),(11,iI v43),(81,.bool v45)],[(1,[.ref 9]),(8,au (gD v4 v33)),(10,List.set (aN cq) 61 (.nils))],[(9,⟨3,1,lm (bi .i64) v34⟩),(117,⟨46,62,lm aN v35⟩)],[1,8,10,9,117,1000001,1]⟩
def Jb:AS:=⟨[(1,.fno 42 [.cptr (ct v2),.ptr 1 0]),(5,.sl (lm au v4)),(6,.ref 117),(7,iI v33),(8,.ptr 8 0),(9,.bool v37),(10,.ptr 10 0),(11,iI v43)],[(1,[.ref 9]),(8,au (gD v4 v33)),(10,List.set (aN cq) 61 (.nils))],[(9,⟨3,1,lm (bi .i64) v34⟩),(117,⟨46,62,lm aN v35⟩)],[1,8,10,9,117,1000001,1]⟩
def PT:AS:=⟨[(1,.fno 42 [.cptr (ct v2),.ptr 1 0]),(5,.sl (lm au v4)),(6,.ref 117),(7,iI v33),(8,.ptr 8 0),(9,.bool v37)],[(1,[.ref 9]),(8,au (gD v4 v33))],[(9,⟨3,1,lm (bi .i64) v34⟩),(117,⟨46,62,lm aN v35⟩)],[1,8,9,117,1000001,1]⟩
def LN:AS:=⟨[(1,.fno 42 [.cptr (ct v2),.ptr 1 0]),(5,.sl (lm au v4)),(6,.ref 117),(7,iI v33)],[(1,[.ref 9])],[(9,⟨3,1,lm (bi .i64) v34⟩),(117,⟨46,62,lm aN v35⟩)],[1,9,117,1000001,1]⟩
abbrev qe:Prop:=∀{v33:Int} {v34:(List Int)} {v35:(List ay)},L1 v33 v34 v35=some r→LP (uT M w0) (wM M w0 r) FA (cat Tryz.f22 (pn 244)) m1 (LN v2 v4 v33 v34 v35)
abbrev EV:Prop:=∀{v43:Int},L2 v43=some r→LP (uT M w0) (wM M w0 r) (CU M w0 r m1) (cat Tryz.f22 (pn 16039288)) m2 (Jb v2 v4 v33 v34 v35 v37 v43)
variable{M w0 r v1 v2 v3 v4 v33 v34 v35 v37 v43 v45 v47 v48 v49 m1 m2 L1 L2}{K:Kn}{n:Nat}
theorem BP(hK:am K)(hL1:qe M w0 r v2 v4 m1 L1)(h:kg K n v2 v4 v33 v35 v37 L1 v47 v48 v49=some r):uO M w0 r (.b 2::eh 31327 :: .b 1::ki M w0 r m1) (Wx v2 v4 v33 v35 v37 v47 v48 v49):=by
 unfold kg at h;refine dB 2 3 2 (bI [1,5,6,8,9,10,11] [1,8,10] [9,117] (bF 3 (nu 100 [.ptr 8 4,.cptr (aW ((gD v4 v33).Box)),.cptr (aW ((gD v4 v33).Box)),.cptr (List.drop 1 (aW ((gD v4 v33).Box))),iI (((gD v4 v33).Box).Node),.ptr 8 4,.cptr (aW ((gD v4 v33).Box)),.cptr (aW ((gD v4 v33).Box)),.cptr (List.drop 2 (aW ((gD v4 v33).Box))),.agg (aJ (((gD v4 v33).Box).Style)),.bool v37,.ptr 10 0,.ptr 10 2,.ptr 10 59]) [] [] [bR Tryz.prog 120 Tryz.f22 (pn 62654) 12,bR Tryz.prog 120 Tryz.f22 (pn 62654) 14,bR Tryz.prog 120 Tryz.f22 (pn 62654) 16] (av [.v 0 1,.v 0 1,.v 0 1,.v 0 1,.v 0 1,.v 0 2,.v 0 2,.v 0 2,.v 0 2,.v 0 2,.v 0 3,.v 0 1] (ab (bQ 0) (av [.v 1 1] (ab (bQ 1) (av [.v 2 1] (ab (bQ 2) bG)))))) ?_));obtain⟨v50,h94,h⟩:=bW h;obtain⟨v51,h95,h⟩:=bW h;refine bB (ks':=eh 125310::eh 125311 :: .b 1::ki M w0 r m1) 1 ⟨[(1,.fno 42 [.cptr (ct v2),.ptr 1 0]),(5,.sl (lm au v4)),(6,.ref 117),(10,.ptr 10 0),(11,iI v47)],[(1,[.ref 9]),(10,aN ({ v49 with Node:=v50,Style:=v51,Glued:=v37 }:ay))],[(9,⟨3,1,lm (bi .i64) v48⟩),(117,⟨46,62,lm aN v35⟩)],[1,10,9,117,1000001,1]⟩ ?_ (by subst h95;subst h94;kernel_rfl)
 refine aj 3 ?_;obtain⟨h96,h⟩:=aK h;exact aB (cD 117 117 46 62 aN (rfl) (gi) h96) (ac (ae 2 (bt (hL1 h))))
theorem zk(hK:am K)(hL1:qe M w0 r v2 v4 m1 L1)(hL2:EV M w0 r v2 v4 v33 v34 v35 v37 m1 m2 L2)(h:jP K n v2 v4 v33 v34 v35 v37 v43 L1 L2 v45=some r):uO M w0 r (eh 64157153::eh 32078577::K8 M w0 r m1 m2) (Sh v2 v4 v33 v34 v35 v37 v43 v45):=by
 unfold jP at h;obtain⟨h91,h⟩|⟨h91,h⟩:=ak h
 ·exact ag 81 h91 (ae 5 (bt (hL2 h)))
 ·refine ag 81 h91 (co (ks':=eh 4009823 :: .b 2::eh 31327 :: .b 1::ki M w0 r m1) 5 (aj 3 ?_));obtain⟨h92,h⟩:=aK h;refine aB (oM au v4 v33 v43 97 (.tmp 84) (some (.tmp 85)) (some (.tmp 86)) 87 (e:=101) (sz:=5) (by kernel_rfl) (by kernel_rfl) (by kernel_rfl) (by kernel_rfl) (by kernel_rfl) (by kernel_rfl) (cv) (fun k hk=>by subst hk;kernel_rfl) h92) ?_;obtain⟨v46,h93,h⟩:=bind_some h;exact aD (AN hK h93) (ac (ae 0 (BP hK hL1 h)))
theorem O2(hK:am K)(hL1:qe M w0 r v2 v4 m1 L1)(hL2:EV M w0 r v2 v4 v33 v34 v35 v37 m1 m2 L2)(h:sE K n v2 v4 v33 v34 v35 v37 L1 L2 v43=some r):uO M w0 r (eh 16039288::K8 M w0 r m1 m2) (Jb v2 v4 v33 v34 v35 v37 v43):=by
 unfold sE at h;refine bH 4 5 3 2 (bI [1,5,6,7,8,9,10,11] [1,8,10] [9,117] ?_);obtain⟨h83,h⟩|⟨h83,h⟩:=ak h
 ·obtain⟨h84,h⟩:=aK h;obtain⟨h85,h⟩|⟨h85,h⟩:=ak h
  ·obtain⟨h86,h⟩:=aK h;obtain⟨h87,h⟩|⟨h87,h⟩:=ak h
   ·obtain⟨h88,h⟩:=aK h;obtain⟨h89,h⟩:=aK h;obtain⟨v44,h90,h⟩:=bind_some h;exact bF 0 (nu 47 [iI v43,.sl (lm au v4),iI (v4.length:Int),.bool (decide (v43<(v4.length:Int))),.bool true,.sl (lm au v4),iI v43,.cptr (au (gD v4 v43)),.cptr (List.drop 0 (au (gD v4 v43))),iI ((gD v4 v43).Kind),.bool (((gD v4 v43).Kind) == 1),.bool (((gD v4 v43).Kind) == 1),.bool true,.sl (lm au v4),iI v43,.cptr (au (gD v4 v43)),.cptr (List.drop 1 (au (gD v4 v43))),iI ((gD v4 v43).Of),.ptr 8 1,iI ((gD v4 v33).Of),.bool (((gD v4 v43).Of) == ((gD v4 v33).Of)),.bool (((gD v4 v43).Of) == ((gD v4 v33).Of)),.bool true,.sl (lm au v4),iI v43,iI (aa (v43-1)),.cptr (au (gD v4 ((aa (v43-1))))),.agg (au (gD v4 ((aa (v43-1))))),.sl (lm au v4),iI v43,.cptr (au (gD v4 v43)),.agg (au (gD v4 v43)),.bool v44,.bool (!v44),.bool (!v44)]) [] [] [] (av (vz 2) (bv (bq au v4) (av [.v 0 1] (ab (bC 0 51 (e:=(decide (v43<(v4.length:Int)))) (b:=true) h83) (av (vz 2) (bv (bw au au h84 (cv) ((fun _=>rfl))) (av (vz 4) (ab (bC 0 59 (e:=(((gD v4 v43).Kind) == 1)) (b:=true) h85) (av (vz 2) (bv (bw au au h86 (cv) ((fun _=>rfl))) (av (vz 6) (ab (bC 0 69 (e:=(((gD v4 v43).Of) == ((gD v4 v33).Of))) (b:=true) h87) (av (vz 3) (bv (bw au au h88 (cv) ((fun _=>rfl))) (av (vz 3) (bv (bw au au h89 (cv) ((fun _=>rfl))) (av [.v 0 1] (ab (cb 0 1 79 (rb hK h90)) (av (vz 2) bG))))))))))))))))))) (ae 0 (zk hK hL1 hL2 h))
   ·exact bF 0 (nu 47 [iI v43,.sl (lm au v4),iI (v4.length:Int),.bool (decide (v43<(v4.length:Int))),.bool true,.sl (lm au v4),iI v43,.cptr (au (gD v4 v43)),.cptr (List.drop 0 (au (gD v4 v43))),iI ((gD v4 v43).Kind),.bool (((gD v4 v43).Kind) == 1),.bool (((gD v4 v43).Kind) == 1),.bool true,.sl (lm au v4),iI v43,.cptr (au (gD v4 v43)),.cptr (List.drop 1 (au (gD v4 v43))),iI ((gD v4 v43).Of),.ptr 8 1,iI ((gD v4 v33).Of),.bool (((gD v4 v43).Of) == ((gD v4 v33).Of)),.bool (((gD v4 v43).Of) == ((gD v4 v33).Of)),.bool false,.tup [],.tup [],.tup [],.tup [],.tup [],.tup [],.tup [],.tup [],.tup [],.tup [],.tup [],.bool false]) [] [] [] (av (vz 2) (bv (bq au v4) (av [.v 0 1] (ab (bC 0 51 (e:=(decide (v43<(v4.length:Int)))) (b:=true) h83) (av (vz 2) (bv (bw au au h84 (cv) ((fun _=>rfl))) (av (vz 4) (ab (bC 0 59 (e:=(((gD v4 v43).Kind) == 1)) (b:=true) h85) (av (vz 2) (bv (bw au au h86 (cv) ((fun _=>rfl))) (av (vz 6) (ab (bC 0 69 (e:=(((gD v4 v43).Of) == ((gD v4 v33).Of))) (b:=false) h87) (ab (ao 0 1) (ab (ao 0 1) (ab (ao 0 1) (ab (ao 0 1) (ab (ao 0 1) (ab (ao 0 1) (ab (ao 0 1) (ab (ao 0 1) (ab (ao 0 1) (ab (ao 0 1) (ab (ao 0 1) (av [.v 0 1] bG)))))))))))))))))))))))) (ae 0 (zk hK hL1 hL2 h))
  ·exact bF 0 (nu 47 [iI v43,.sl (lm au v4),iI (v4.length:Int),.bool (decide (v43<(v4.length:Int))),.bool true,.sl (lm au v4),iI v43,.cptr (au (gD v4 v43)),.cptr (List.drop 0 (au (gD v4 v43))),iI ((gD v4 v43).Kind),.bool (((gD v4 v43).Kind) == 1),.bool (((gD v4 v43).Kind) == 1),.bool false,.tup [],.tup [],.tup [],.tup [],.tup [],.tup [],.tup [],.tup [],.bool false,.bool false,.tup [],.tup [],.tup [],.tup [],.tup [],.tup [],.tup [],.tup [],.tup [],.tup [],.tup [],.bool false]) [] [] [] (av (vz 2) (bv (bq au v4) (av [.v 0 1] (ab (bC 0 51 (e:=(decide (v43<(v4.length:Int)))) (b:=true) h83) (av (vz 2) (bv (bw au au h84 (cv) ((fun _=>rfl))) (av (vz 4) (ab (bC 0 59 (e:=(((gD v4 v43).Kind) == 1)) (b:=false) h85) (ab (ao 0 1) (ab (ao 0 1) (ab (ao 0 1) (ab (ao 0 1) (ab (ao 0 1) (ab (ao 0 1) (ab (ao 0 1) (ab (ao 0 1) (av (vz 2) (ab (ao 0 1) (ab (ao 0 1) (ab (ao 0 1) (ab (ao 0 1) (ab (ao 0 1) (ab (ao 0 1) (ab (ao 0 1) (ab (ao 0 1) (ab (ao 0 1) (ab (ao 0 1) (ab (ao 0 1) (av [.v 0 1] bG))))))))))))))))))))))))))))) (ae 0 (zk hK hL1 hL2 h))
 ·exact bF 0 (nu 47 [iI v43,.sl (lm au v4),iI (v4.length:Int),.bool (decide (v43<(v4.length:Int))),.bool false,.tup [],.tup [],.tup [],.tup [],.tup [],.tup [],.bool false,.bool false,.tup [],.tup [],.tup [],.tup [],.tup [],.tup [],.tup [],.tup [],.bool false,.bool false,.tup [],.tup [],.tup [],.tup [],.tup [],.tup [],.tup [],.tup [],.tup [],.tup [],.tup [],.bool false]) [] [] [] (av (vz 2) (bv (bq au v4) (av [.v 0 1] (ab (bC 0 51 (e:=(decide (v43<(v4.length:Int)))) (b:=false) h83) (ab (ao 0 1) (ab (ao 0 1) (ab (ao 0 1) (ab (ao 0 1) (ab (ao 0 1) (ab (ao 0 1) (av (vz 2) (ab (ao 0 1) (ab (ao 0 1) (ab (ao 0 1) (ab (ao 0 1) (ab (ao 0 1) (ab (ao 0 1) (ab (ao 0 1) (ab (ao 0 1) (av (vz 2) (ab (ao 0 1) (ab (ao 0 1) (ab (ao 0 1) (ab (ao 0 1) (ab (ao 0 1) (ab (ao 0 1) (ab (ao 0 1) (ab (ao 0 1) (ab (ao 0 1) (ab (ao 0 1) (ab (ao 0 1) (av [.v 0 1] bG)))))))))))))))))))))))))))))))) (ae 0 (zk hK hL1 hL2 h))
theorem R8(hK:am K)(hL1:qe M w0 r v2 v4 m1 L1)(m:Nat):EV M w0 r v2 v4 v33 v34 v35 v37 m1 m (qj K n v2 v4 v33 v34 v35 v37 L1 m):=by
 induction m with
 | zero=>intro v43 h;cases h
 | succ m ih=>intro v43 h;have h:sE K n v2 v4 v33 v34 v35 v37 L1 (qj K n v2 v4 v33 v34 v35 v37 L1 m) v43=some r:=h;exact bp (O2 hK hL1 ih h)
theorem EI(hK:am K)(hL1:qe M w0 r v2 v4 m1 L1)(h:qu K n v2 v4 v33 v34 v35 L1 v37=some r):uO M w0 r (eh 3915 :: .b 1::ki M w0 r m1) (PT v2 v4 v33 v34 v35 v37):=by
 unfold qu at h;obtain⟨v38,h69,h⟩:=bW h;refine bB (ks':=eh 250613 :: .b 2::eh 31327 :: .b 1::ki M w0 r m1) 10 ⟨[(1,.fno 42 [.cptr (ct v2),.ptr 1 0]),(5,.sl (lm au v4)),(6,.ref 117),(7,iI v33),(8,.ptr 8 0),(9,.bool v37),(10,.ptr 10 0),(11,iI (aa (v33+1))),(46,iI ((gD v4 v33).Kind)),(89,.bool v38)],[(1,[.ref 9]),(8,au (gD v4 v33)),(10,List.set (aN cq) 61 (.nils))],[(9,⟨3,1,lm (bi .i64) v34⟩),(117,⟨46,62,lm aN v35⟩)],[1,8,10,9,117,1000001,1]⟩ ?_ (by subst h69;kernel_rfl);obtain⟨h70,h⟩|⟨h70,h⟩:=ak h
 ·exact ag 89 h70 (co (ks':=.b 2::eh 31327 :: .b 1::ki M w0 r m1) 2 (kO 10 (ae 0 (BP hK hL1 h))))
 ·refine ag 89 h70 ?_;obtain⟨v39,h71,h⟩:=bW h;refine bB (ks':=eh 1002455 :: .b 2::eh 31327 :: .b 1::ki M w0 r m1) 3 ⟨[(1,.fno 42 [.cptr (ct v2),.ptr 1 0]),(5,.sl (lm au v4)),(6,.ref 117),(7,iI v33),(8,.ptr 8 0),(9,.bool v37),(10,.ptr 10 0),(11,iI (aa (v33+1))),(92,.bool v39)],[(1,[.ref 9]),(8,au (gD v4 v33)),(10,List.set (aN cq) 61 (.nils))],[(9,⟨3,1,lm (bi .i64) v34⟩),(117,⟨46,62,lm aN v35⟩)],[1,8,10,9,117,1000001,1]⟩ ?_ (by subst h71;kernel_rfl);obtain⟨h72,h⟩|⟨h72,h⟩:=ak h
  ·refine ag 92 h72 (bh 2 1 (aj 5 ?_));obtain⟨v40,h73,h⟩:=bind_some h;exact gH 9 9 [(1,1)] (abY hK h73) (ac (ae 0 (BP hK hL1 h)))
  ·exact ag 92 h72 (ae 3 (cf (p:=pn 8019644) n (R8 hK hL1 n h)))
theorem Ry(hK:am K)(hL1:qe M w0 r v2 v4 m1 L1)(h:tE K n v2 v4 L1 v33 v34 v35=some r):uO M w0 r (eh 244::ki M w0 r m1) (LN v2 v4 v33 v34 v35):=by
 unfold tE at h;refine bH 4 5 3 2 (aj 2 (aB (bq au v4) (ac ?_)));obtain⟨h62,h⟩|⟨h62,h⟩:=ak h
 ·refine ag 17 h62 (co (ks':=eh 1956::eh 1957 :: .b 1::ki M w0 r m1) 4 (aj 2 ?_));obtain⟨h63,h⟩:=aK h;refine aB (bw au au h63 (cv) ((fun _=>rfl))) (ac (az 2 3 1 (bI [1,5,6,7,8] [1,8] [9,117] ?_)));obtain⟨h64,h⟩|⟨h64,h⟩:=ak h
  ·obtain⟨h65,h⟩:=aK h;obtain⟨h66,h⟩|⟨h66,h⟩:=ak h
   ·obtain⟨h67,h⟩:=aK h;obtain⟨v36,h68,h⟩:=bind_some h;exact bF 1 (nu 22 [iI v33,.bool (decide (v33>0)),.bool true,.sl (lm au v4),iI v33,iI (aa (v33-1)),.cptr (au (gD v4 ((aa (v33-1))))),.cptr (List.drop 0 (au (gD v4 ((aa (v33-1)))))),iI ((gD v4 ((aa (v33-1)))).Kind),.bool (((gD v4 ((aa (v33-1)))).Kind) != 2),.bool (((gD v4 ((aa (v33-1)))).Kind) != 2),.bool true,.sl (lm au v4),iI v33,iI (aa (v33-1)),.cptr (au (gD v4 ((aa (v33-1))))),.agg (au (gD v4 ((aa (v33-1))))),.agg (au (gD v4 v33)),.bool v36,.bool (!v36),.bool (!v36)]) [] [] [bR Tryz.prog 120 Tryz.f22 (pn 3914) 21] (av (vz 2) (ab (bC 0 24 (e:=(decide (v33>0))) (b:=true) h64) (av (vz 3) (bv (bw au au h65 (cv) ((fun _=>rfl))) (av (vz 4) (ab (bC 0 33 (e:=(((gD v4 ((aa (v33-1)))).Kind) != 2)) (b:=true) h66) (av (vz 3) (bv (bw au au h67 (cv) ((fun _=>rfl))) (av (vz 2) (ab (cb 0 1 40 (rb hK h68)) (av (vz 2) (ab (bQ 0) bG)))))))))))) (ae 0 (EI hK hL1 h))
   ·exact bF 1 (nu 22 [iI v33,.bool (decide (v33>0)),.bool true,.sl (lm au v4),iI v33,iI (aa (v33-1)),.cptr (au (gD v4 ((aa (v33-1))))),.cptr (List.drop 0 (au (gD v4 ((aa (v33-1)))))),iI ((gD v4 ((aa (v33-1)))).Kind),.bool (((gD v4 ((aa (v33-1)))).Kind) != 2),.bool (((gD v4 ((aa (v33-1)))).Kind) != 2),.bool false,.tup [],.tup [],.tup [],.tup [],.tup [],.tup [],.tup [],.tup [],.bool false]) [] [] [bR Tryz.prog 120 Tryz.f22 (pn 3914) 21] (av (vz 2) (ab (bC 0 24 (e:=(decide (v33>0))) (b:=true) h64) (av (vz 3) (bv (bw au au h65 (cv) ((fun _=>rfl))) (av (vz 4) (ab (bC 0 33 (e:=(((gD v4 ((aa (v33-1)))).Kind) != 2)) (b:=false) h66) (ab (ao 0 1) (ab (ao 0 1) (ab (ao 0 1) (ab (ao 0 1) (ab (ao 0 1) (ab (ao 0 1) (ab (ao 0 1) (ab (ao 0 1) (av [.v 0 1] (ab (bQ 0) bG)))))))))))))))) (ae 0 (EI hK hL1 h))
  ·exact bF 1 (nu 22 [iI v33,.bool (decide (v33>0)),.bool false,.tup [],.tup [],.tup [],.tup [],.tup [],.tup [],.tup [],.bool false,.bool false,.tup [],.tup [],.tup [],.tup [],.tup [],.tup [],.tup [],.tup [],.bool false]) [] [] [bR Tryz.prog 120 Tryz.f22 (pn 3914) 21] (av (vz 2) (ab (bC 0 24 (e:=(decide (v33>0))) (b:=false) h64) (ab (ao 0 1) (ab (ao 0 1) (ab (ao 0 1) (ab (ao 0 1) (ab (ao 0 1) (ab (ao 0 1) (ab (ao 0 1) (av (vz 2) (ab (ao 0 1) (ab (ao 0 1) (ab (ao 0 1) (ab (ao 0 1) (ab (ao 0 1) (ab (ao 0 1) (ab (ao 0 1) (ab (ao 0 1) (av [.v 0 1] (ab (bQ 0) bG)))))))))))))))))))) (ae 0 (EI hK hL1 h))
 ·refine ag 17 h62 (aE 8 (kB 117 ?_));cases h;exact eK
theorem Z7(hK:am K)(m:Nat):qe M w0 r v2 v4 m (qm K n v2 v4 m):=by
 induction m with
 | zero=>intro v33 v34 v35 h;cases h
 | succ m ih=>intro v33 v34 v35 h;have h:tE K n v2 v4 (qm K n v2 v4 m) v33 v34 v35=some r:=h;exact bp (Ry hK ih h)
theorem VX(hK:am K)(h:vC K n v1 v2 v3=some r):fl Tryz.prog 22 [.sl (lm aQ v1),.fno 42 [.cptr (ct v2),.ptr 1 0]] [(1,[.ref 9])] 9 ⟨3,1,lm (bi .i64) v3⟩ [9,1,1000001] (fun v s=>v=.sl (lm aN r.1)∧dh s.o [(1,[.ref 9])]∧look 9 s.r=some ⟨3,1,lm (bi .i64) r.2⟩):=by
 refine je (c:=cat Tryz.f22 (pn 1)) Tryz.func22 (by kernel_rfl) _ Tryz.ntmps22 (of_decide_eq_true (by kernel_rfl)) fun M w0=>(bc ⟨[(0,.sl (lm aQ v1)),(1,.fno 42 [.cptr (ct v2),.ptr 1 0])],[(1,[.ref 9])],[(9,⟨3,1,lm (bi .i64) v3⟩)],[9,1,1000001]⟩ ?_);unfold vC at h;refine az 6 7 3 (aj 1 ?_);obtain⟨v4,h1,h⟩:=bind_some h;exact dx 1013 (A8 hK h1) (fx 400003) (ac (fr 26 0 7 6 (bI [1,5,6,7] [1] [9,1013] (kB 1013 (fh 117 6 46 62 (ae 0 (cf (p:=pn 122) n (Z7 hK n h))))))))
end
noncomputable section
variable(M:Nat→Prop)(w0:aF)(r:(List ay)×Int×(List Int))(v1:List ai)(v2:Int)(v3:List Int)(v4:List aw)(v35 v36:Int)(v37:List Int)(v38:List ay)(v40:Bool)(v46:Int)(v48:Bool)(v50 v51:Int)(v52:List Int)(v53:ay)(m1 m2:Nat)(L1:Int→Int→(List Int)→(List ay)→Option ((List ay)×Int×(List Int)))(L2:Int→Option ((List ay)×Int×(List Int)))
abbrev u9:Cx:=⟨Tryz.prog,120,M,w0⟩
abbrev wG:=bodyPost Tryz.prog Tryz.f22 (bu M w0 (fun v s=>v=.sl (lm aN r.1)∧dh s.o [(1,[iI r.2.1]),(2,[.ref 9])]∧look 9 s.r=some ⟨3,1,lm (bi .i64) r.2.2⟩))
abbrev wF(ks:List aq)(s:AS):=VE (u9 M w0) (wG M w0 r) ks .normal s
abbrev ep(n:Nat):aq:=.c (cat Tryz.f22 (pn n))
abbrev EQ:List aq:=[.b 0,ep 31]
abbrev j8:List aq:=kl (u9 M w0) (wG M w0 r) EQ (cat Tryz.f22 (pn 244)) m1::EQ
abbrev Eu:List aq:=.b 3::ep 4009823 :: .b 2::ep 31327 :: .b 1::j8 M w0 r m1
abbrev Lw:List aq:=kl (u9 M w0) (wG M w0 r) (Eu M w0 r m1) (cat Tryz.f22 (pn 16039288)) m2::(Eu M w0 r m1)
def aax:AS:=⟨[(1,.fno 43 [.ptr 1 0,.ptr 2 0]),(5,.sl (lm au v4)),(6,.ref 117),(8,.ptr 8 0),(9,.bool v40),(10,.ptr 10 0),(11,iI v50)],[(1,[iI v51]),(2,[.ref 9]),(8,au (gD v4 v35)),(10,aN v53)],[(9,⟨3,1,lm (bi .i64) v52⟩),(117,⟨46,62,lm aN v38⟩)],[1,2,8,10,9,117,1000001,1,1000002,2]⟩
def U3:AS:=⟨[(1,.fno 43 [.ptr 1 0,.ptr 2 0]),(5,.sl (lm au v4)),(6,.ref 117),(7,iI v35),(8,.ptr 8 0),(9,.bool v40),(10,.ptr 10 0),(11,iI v46),(81,.bool v48)],[(1,[iI v36]),(2,[.ref 9]),(8,au (gD v4 v35)),(10,List.set (aN cq) 61 (.nils))],[(9,⟨3,1,lm (bi .i64) v37⟩),(117,⟨46,62,lm aN v38⟩)],[1,2,8,10,9,117,1000001,1,1000002,2]⟩
def Jg:AS:=⟨[(1,.fno 43 [.ptr 1 0,.ptr 2 0]),(5,.sl (lm au v4)),(6,.ref 117),(7,iI v35),(8,.ptr 8 0),(9,.bool v40),(10,.ptr 10 0),(11,iI v46)],[(1,[iI v36]),(2,[.ref 9]),(8,au (gD v4 v35)),(10,List.set (aN cq) 61 (.nils))],[(9,⟨3,1,lm (bi .i64) v37⟩),(117,⟨46,62,lm aN v38⟩)],[1,2,8,10,9,117,1000001,1,1000002,2]⟩
def Y9:AS:=⟨[(1,.fno 43 [.ptr 1 0,.ptr 2 0]),(5,.sl (lm au v4)),(6,.ref 117),(7,iI v35),(8,.ptr 8 0),(9,.bool v40)],[(1,[iI v36]),(2,[.ref 9]),(8,au (gD v4 v35))],[(9,⟨3,1,lm (bi .i64) v37⟩),(117,⟨46,62,lm aN v38⟩)],[1,2,8,9,117,1000001,1,1000002,2]⟩
def Ju:AS:=⟨[(1,.fno 43 [.ptr 1 0,.ptr 2 0]),(5,.sl (lm au v4)),(6,.ref 117),(7,iI v35)],[(1,[iI v36]),(2,[.ref 9])],[(9,⟨3,1,lm (bi .i64) v37⟩),(117,⟨46,62,lm aN v38⟩)],[1,2,9,117,1000001,1,1000002,2]⟩
abbrev nW:Prop:=∀{v35:Int} {v36:Int} {v37:(List Int)} {v38:(List ay)},L1 v35 v36 v37 v38=some r→LP (u9 M w0) (wG M w0 r) EQ (cat Tryz.f22 (pn 244)) m1 (Ju v4 v35 v36 v37 v38)
abbrev FU:Prop:=∀{v46:Int},L2 v46=some r→LP (u9 M w0) (wG M w0 r) (Eu M w0 r m1) (cat Tryz.f22 (pn 16039288)) m2 (Jg v4 v35 v36 v37 v38 v40 v46)
variable{M w0 r v1 v2 v3 v4 v35 v36 v37 v38 v40 v46 v48 v50 v51 v52 v53 m1 m2 L1 L2}{K:Kn}{n:Nat}
theorem ER(hK:am K)(hL1:nW M w0 r v4 m1 L1)(h:jD K n v4 v35 v38 v40 L1 v50 v51 v52 v53=some r):wF M w0 r (.b 2::ep 31327 :: .b 1::j8 M w0 r m1) (aax v4 v35 v38 v40 v50 v51 v52 v53):=by
 unfold jD at h;refine dB 2 3 2 (bI [1,5,6,8,9,10,11] [1,2,8,10] [9,117] (bF 3 (nu 100 [.ptr 8 4,.cptr (aW ((gD v4 v35).Box)),.cptr (aW ((gD v4 v35).Box)),.cptr (List.drop 1 (aW ((gD v4 v35).Box))),iI (((gD v4 v35).Box).Node),.ptr 8 4,.cptr (aW ((gD v4 v35).Box)),.cptr (aW ((gD v4 v35).Box)),.cptr (List.drop 2 (aW ((gD v4 v35).Box))),.agg (aJ (((gD v4 v35).Box).Style)),.bool v40,.ptr 10 0,.ptr 10 2,.ptr 10 59]) [] [] [bR Tryz.prog 120 Tryz.f22 (pn 62654) 12,bR Tryz.prog 120 Tryz.f22 (pn 62654) 14,bR Tryz.prog 120 Tryz.f22 (pn 62654) 16] (av [.v 0 1,.v 0 1,.v 0 1,.v 0 1,.v 0 1,.v 0 2,.v 0 2,.v 0 2,.v 0 2,.v 0 2,.v 0 3,.v 0 1] (ab (bQ 0) (av [.v 1 1] (ab (bQ 1) (av [.v 2 1] (ab (bQ 2) bG)))))) ?_));obtain⟨v54,h94,h⟩:=bW h;obtain⟨v55,h95,h⟩:=bW h;refine bB (ks':=ep 125310::ep 125311 :: .b 1::j8 M w0 r m1) 1 ⟨[(1,.fno 43 [.ptr 1 0,.ptr 2 0]),(5,.sl (lm au v4)),(6,.ref 117),(10,.ptr 10 0),(11,iI v50)],[(1,[iI v51]),(2,[.ref 9]),(10,aN ({ v53 with Node:=v54,Style:=v55,Glued:=v40 }:ay))],[(9,⟨3,1,lm (bi .i64) v52⟩),(117,⟨46,62,lm aN v38⟩)],[1,2,10,9,117,1000001,1,1000002,2]⟩ ?_ (by subst h95;subst h94;kernel_rfl)
 refine aj 3 ?_;obtain⟨h96,h⟩:=aK h;exact aB (cD 117 117 46 62 aN (rfl) (gi) h96) (ac (ae 2 (bt (hL1 h))))
theorem zB(hK:am K)(hL1:nW M w0 r v4 m1 L1)(hL2:FU M w0 r v4 v35 v36 v37 v38 v40 m1 m2 L2)(h:jR K n v4 v35 v36 v37 v38 v40 v46 L1 L2 v48=some r):wF M w0 r (ep 64157153::ep 32078577::Lw M w0 r m1 m2) (U3 v4 v35 v36 v37 v38 v40 v46 v48):=by
 unfold jR at h;obtain⟨h91,h⟩|⟨h91,h⟩:=ak h
 ·exact ag 81 h91 (ae 5 (bt (hL2 h)))
 ·refine ag 81 h91 (co (ks':=ep 4009823 :: .b 2::ep 31327 :: .b 1::j8 M w0 r m1) 5 (aj 3 ?_));obtain⟨h92,h⟩:=aK h;refine aB (oM au v4 v35 v46 97 (.tmp 84) (some (.tmp 85)) (some (.tmp 86)) 87 (e:=101) (sz:=5) (by kernel_rfl) (by kernel_rfl) (by kernel_rfl) (by kernel_rfl) (by kernel_rfl) (by kernel_rfl) (cv) (fun k hk=>by subst hk;kernel_rfl) h92) ?_;obtain⟨v49,h93,h⟩:=bind_some h;exact aD (AN hK h93) (ac (ae 0 (ER hK hL1 h)))
theorem Xg(hK:am K)(hL1:nW M w0 r v4 m1 L1)(hL2:FU M w0 r v4 v35 v36 v37 v38 v40 m1 m2 L2)(h:rZ K n v4 v35 v36 v37 v38 v40 L1 L2 v46=some r):wF M w0 r (ep 16039288::Lw M w0 r m1 m2) (Jg v4 v35 v36 v37 v38 v40 v46):=by
 unfold rZ at h;refine bH 4 5 3 2 (bI [1,5,6,7,8,9,10,11] [1,2,8,10] [9,117] ?_);obtain⟨h83,h⟩|⟨h83,h⟩:=ak h
 ·obtain⟨h84,h⟩:=aK h;obtain⟨h85,h⟩|⟨h85,h⟩:=ak h
  ·obtain⟨h86,h⟩:=aK h;obtain⟨h87,h⟩|⟨h87,h⟩:=ak h
   ·obtain⟨h88,h⟩:=aK h;obtain⟨h89,h⟩:=aK h;obtain⟨v47,h90,h⟩:=bind_some h;exact bF 0 (nu 47 [iI v46,.sl (lm au v4),iI (v4.length:Int),.bool (decide (v46<(v4.length:Int))),.bool true,.sl (lm au v4),iI v46,.cptr (au (gD v4 v46)),.cptr (List.drop 0 (au (gD v4 v46))),iI ((gD v4 v46).Kind),.bool (((gD v4 v46).Kind) == 1),.bool (((gD v4 v46).Kind) == 1),.bool true,.sl (lm au v4),iI v46,.cptr (au (gD v4 v46)),.cptr (List.drop 1 (au (gD v4 v46))),iI ((gD v4 v46).Of),.ptr 8 1,iI ((gD v4 v35).Of),.bool (((gD v4 v46).Of) == ((gD v4 v35).Of)),.bool (((gD v4 v46).Of) == ((gD v4 v35).Of)),.bool true,.sl (lm au v4),iI v46,iI (aa (v46-1)),.cptr (au (gD v4 ((aa (v46-1))))),.agg (au (gD v4 ((aa (v46-1))))),.sl (lm au v4),iI v46,.cptr (au (gD v4 v46)),.agg (au (gD v4 v46)),.bool v47,.bool (!v47),.bool (!v47)]) [] [] [] (av (vz 2) (bv (bq au v4) (av [.v 0 1] (ab (bC 0 51 (e:=(decide (v46<(v4.length:Int)))) (b:=true) h83) (av (vz 2) (bv (bw au au h84 (cv) ((fun _=>rfl))) (av (vz 4) (ab (bC 0 59 (e:=(((gD v4 v46).Kind) == 1)) (b:=true) h85) (av (vz 2) (bv (bw au au h86 (cv) ((fun _=>rfl))) (av (vz 6) (ab (bC 0 69 (e:=(((gD v4 v46).Of) == ((gD v4 v35).Of))) (b:=true) h87) (av (vz 3) (bv (bw au au h88 (cv) ((fun _=>rfl))) (av (vz 3) (bv (bw au au h89 (cv) ((fun _=>rfl))) (av [.v 0 1] (ab (cb 0 1 79 (rb hK h90)) (av (vz 2) bG))))))))))))))))))) (ae 0 (zB hK hL1 hL2 h))
   ·exact bF 0 (nu 47 [iI v46,.sl (lm au v4),iI (v4.length:Int),.bool (decide (v46<(v4.length:Int))),.bool true,.sl (lm au v4),iI v46,.cptr (au (gD v4 v46)),.cptr (List.drop 0 (au (gD v4 v46))),iI ((gD v4 v46).Kind),.bool (((gD v4 v46).Kind) == 1),.bool (((gD v4 v46).Kind) == 1),.bool true,.sl (lm au v4),iI v46,.cptr (au (gD v4 v46)),.cptr (List.drop 1 (au (gD v4 v46))),iI ((gD v4 v46).Of),.ptr 8 1,iI ((gD v4 v35).Of),.bool (((gD v4 v46).Of) == ((gD v4 v35).Of)),.bool (((gD v4 v46).Of) == ((gD v4 v35).Of)),.bool false,.tup [],.tup [],.tup [],.tup [],.tup [],.tup [],.tup [],.tup [],.tup [],.tup [],.tup [],.bool false]) [] [] [] (av (vz 2) (bv (bq au v4) (av [.v 0 1] (ab (bC 0 51 (e:=(decide (v46<(v4.length:Int)))) (b:=true) h83) (av (vz 2) (bv (bw au au h84 (cv) ((fun _=>rfl))) (av (vz 4) (ab (bC 0 59 (e:=(((gD v4 v46).Kind) == 1)) (b:=true) h85) (av (vz 2) (bv (bw au au h86 (cv) ((fun _=>rfl))) (av (vz 6) (ab (bC 0 69 (e:=(((gD v4 v46).Of) == ((gD v4 v35).Of))) (b:=false) h87) (ab (ao 0 1) (ab (ao 0 1) (ab (ao 0 1) (ab (ao 0 1) (ab (ao 0 1) (ab (ao 0 1) (ab (ao 0 1) (ab (ao 0 1) (ab (ao 0 1) (ab (ao 0 1) (ab (ao 0 1) (av [.v 0 1] bG)))))))))))))))))))))))) (ae 0 (zB hK hL1 hL2 h))
  ·exact bF 0 (nu 47 [iI v46,.sl (lm au v4),iI (v4.length:Int),.bool (decide (v46<(v4.length:Int))),.bool true,.sl (lm au v4),iI v46,.cptr (au (gD v4 v46)),.cptr (List.drop 0 (au (gD v4 v46))),iI ((gD v4 v46).Kind),.bool (((gD v4 v46).Kind) == 1),.bool (((gD v4 v46).Kind) == 1),.bool false,.tup [],.tup [],.tup [],.tup [],.tup [],.tup [],.tup [],.tup [],.bool false,.bool false,.tup [],.tup [],.tup [],.tup [],.tup [],.tup [],.tup [],.tup [],.tup [],.tup [],.tup [],.bool false]) [] [] [] (av (vz 2) (bv (bq au v4) (av [.v 0 1] (ab (bC 0 51 (e:=(decide (v46<(v4.length:Int)))) (b:=true) h83) (av (vz 2) (bv (bw au au h84 (cv) ((fun _=>rfl))) (av (vz 4) (ab (bC 0 59 (e:=(((gD v4 v46).Kind) == 1)) (b:=false) h85) (ab (ao 0 1) (ab (ao 0 1) (ab (ao 0 1) (ab (ao 0 1) (ab (ao 0 1) (ab (ao 0 1) (ab (ao 0 1) (ab (ao 0 1) (av (vz 2) (ab (ao 0 1) (ab (ao 0 1) (ab (ao 0 1) (ab (ao 0 1) (ab (ao 0 1) (ab (ao 0 1) (ab (ao 0 1) (ab (ao 0 1) (ab (ao 0 1) (ab (ao 0 1) (ab (ao 0 1) (av [.v 0 1] bG))))))))))))))))))))))))))))) (ae 0 (zB hK hL1 hL2 h))
 ·exact bF 0 (nu 47 [iI v46,.sl (lm au v4),iI (v4.length:Int),.bool (decide (v46<(v4.length:Int))),.bool false,.tup [],.tup [],.tup [],.tup [],.tup [],.tup [],.bool false,.bool false,.tup [],.tup [],.tup [],.tup [],.tup [],.tup [],.tup [],.tup [],.bool false,.bool false,.tup [],.tup [],.tup [],.tup [],.tup [],.tup [],.tup [],.tup [],.tup [],.tup [],.tup [],.bool false]) [] [] [] (av (vz 2) (bv (bq au v4) (av [.v 0 1] (ab (bC 0 51 (e:=(decide (v46<(v4.length:Int)))) (b:=false) h83) (ab (ao 0 1) (ab (ao 0 1) (ab (ao 0 1) (ab (ao 0 1) (ab (ao 0 1) (ab (ao 0 1) (av (vz 2) (ab (ao 0 1) (ab (ao 0 1) (ab (ao 0 1) (ab (ao 0 1) (ab (ao 0 1) (ab (ao 0 1) (ab (ao 0 1) (ab (ao 0 1) (av (vz 2) (ab (ao 0 1) (ab (ao 0 1) (ab (ao 0 1) (ab (ao 0 1) (ab (ao 0 1) (ab (ao 0 1) (ab (ao 0 1) (ab (ao 0 1) (ab (ao 0 1) (ab (ao 0 1) (ab (ao 0 1) (av [.v 0 1] bG)))))))))))))))))))))))))))))))) (ae 0 (zB hK hL1 hL2 h))
theorem Xw(hK:am K)(hL1:nW M w0 r v4 m1 L1)(m:Nat):FU M w0 r v4 v35 v36 v37 v38 v40 m1 m (pb K n v4 v35 v36 v37 v38 v40 L1 m):=by
 induction m with
 | zero=>intro v46 h;cases h
 | succ m ih=>intro v46 h;have h:rZ K n v4 v35 v36 v37 v38 v40 L1 (pb K n v4 v35 v36 v37 v38 v40 L1 m) v46=some r:=h;exact bp (Xg hK hL1 ih h)
theorem EZ(hK:am K)(hL1:nW M w0 r v4 m1 L1)(h:oA K n v4 v35 v36 v37 v38 L1 v40=some r):wF M w0 r (ep 3915 :: .b 1::j8 M w0 r m1) (Y9 v4 v35 v36 v37 v38 v40):=by
 unfold oA at h;obtain⟨v41,h69,h⟩:=bW h;refine bB (ks':=ep 250613 :: .b 2::ep 31327 :: .b 1::j8 M w0 r m1) 10 ⟨[(1,.fno 43 [.ptr 1 0,.ptr 2 0]),(5,.sl (lm au v4)),(6,.ref 117),(7,iI v35),(8,.ptr 8 0),(9,.bool v40),(10,.ptr 10 0),(11,iI (aa (v35+1))),(46,iI ((gD v4 v35).Kind)),(89,.bool v41)],[(1,[iI v36]),(2,[.ref 9]),(8,au (gD v4 v35)),(10,List.set (aN cq) 61 (.nils))],[(9,⟨3,1,lm (bi .i64) v37⟩),(117,⟨46,62,lm aN v38⟩)],[1,2,8,10,9,117,1000001,1,1000002,2]⟩ ?_ (by subst h69;kernel_rfl);obtain⟨h70,h⟩|⟨h70,h⟩:=ak h
 ·exact ag 89 h70 (co (ks':=.b 2::ep 31327 :: .b 1::j8 M w0 r m1) 2 (kO 10 (ae 0 (ER hK hL1 h))))
 ·refine ag 89 h70 ?_;obtain⟨v42,h71,h⟩:=bW h;refine bB (ks':=ep 1002455 :: .b 2::ep 31327 :: .b 1::j8 M w0 r m1) 3 ⟨[(1,.fno 43 [.ptr 1 0,.ptr 2 0]),(5,.sl (lm au v4)),(6,.ref 117),(7,iI v35),(8,.ptr 8 0),(9,.bool v40),(10,.ptr 10 0),(11,iI (aa (v35+1))),(92,.bool v42)],[(1,[iI v36]),(2,[.ref 9]),(8,au (gD v4 v35)),(10,List.set (aN cq) 61 (.nils))],[(9,⟨3,1,lm (bi .i64) v37⟩),(117,⟨46,62,lm aN v38⟩)],[1,2,8,10,9,117,1000001,1,1000002,2]⟩ ?_ (by subst h71;kernel_rfl);obtain⟨h72,h⟩|⟨h72,h⟩:=ak h
  ·refine ag 92 h72 (bh 2 1 (aj 5 ?_));obtain⟨v43,h73,h⟩:=bind_some h;exact gH 9 9 [(1,1),(2,2)] (OL hK h73) (ac (ae 0 (ER hK hL1 h)))
  ·exact ag 92 h72 (ae 3 (cf (p:=pn 8019644) n (Xw hK hL1 n h)))
theorem aaZ(hK:am K)(hL1:nW M w0 r v4 m1 L1)(h:rR K n v4 L1 v35 v36 v37 v38=some r):wF M w0 r (ep 244::j8 M w0 r m1) (Ju v4 v35 v36 v37 v38):=by
 unfold rR at h;refine bH 4 5 3 2 (aj 2 (aB (bq au v4) (ac ?_)));obtain⟨h62,h⟩|⟨h62,h⟩:=ak h
 ·refine ag 17 h62 (co (ks':=ep 1956::ep 1957 :: .b 1::j8 M w0 r m1) 4 (aj 2 ?_));obtain⟨h63,h⟩:=aK h;refine aB (bw au au h63 (cv) ((fun _=>rfl))) (ac (az 2 3 1 (bI [1,5,6,7,8] [1,2,8] [9,117] ?_)));obtain⟨h64,h⟩|⟨h64,h⟩:=ak h
  ·obtain⟨h65,h⟩:=aK h;obtain⟨h66,h⟩|⟨h66,h⟩:=ak h
   ·obtain⟨h67,h⟩:=aK h;obtain⟨v39,h68,h⟩:=bind_some h;exact bF 1 (nu 22 [iI v35,.bool (decide (v35>0)),.bool true,.sl (lm au v4),iI v35,iI (aa (v35-1)),.cptr (au (gD v4 ((aa (v35-1))))),.cptr (List.drop 0 (au (gD v4 ((aa (v35-1)))))),iI ((gD v4 ((aa (v35-1)))).Kind),.bool (((gD v4 ((aa (v35-1)))).Kind) != 2),.bool (((gD v4 ((aa (v35-1)))).Kind) != 2),.bool true,.sl (lm au v4),iI v35,iI (aa (v35-1)),.cptr (au (gD v4 ((aa (v35-1))))),.agg (au (gD v4 ((aa (v35-1))))),.agg (au (gD v4 v35)),.bool v39,.bool (!v39),.bool (!v39)]) [] [] [bR Tryz.prog 120 Tryz.f22 (pn 3914) 21] (av (vz 2) (ab (bC 0 24 (e:=(decide (v35>0))) (b:=true) h64) (av (vz 3) (bv (bw au au h65 (cv) ((fun _=>rfl))) (av (vz 4) (ab (bC 0 33 (e:=(((gD v4 ((aa (v35-1)))).Kind) != 2)) (b:=true) h66) (av (vz 3) (bv (bw au au h67 (cv) ((fun _=>rfl))) (av (vz 2) (ab (cb 0 1 40 (rb hK h68)) (av (vz 2) (ab (bQ 0) bG)))))))))))) (ae 0 (EZ hK hL1 h))
   ·exact bF 1 (nu 22 [iI v35,.bool (decide (v35>0)),.bool true,.sl (lm au v4),iI v35,iI (aa (v35-1)),.cptr (au (gD v4 ((aa (v35-1))))),.cptr (List.drop 0 (au (gD v4 ((aa (v35-1)))))),iI ((gD v4 ((aa (v35-1)))).Kind),.bool (((gD v4 ((aa (v35-1)))).Kind) != 2),.bool (((gD v4 ((aa (v35-1)))).Kind) != 2),.bool false,.tup [],.tup [],.tup [],.tup [],.tup [],.tup [],.tup [],.tup [],.bool false]) [] [] [bR Tryz.prog 120 Tryz.f22 (pn 3914) 21] (av (vz 2) (ab (bC 0 24 (e:=(decide (v35>0))) (b:=true) h64) (av (vz 3) (bv (bw au au h65 (cv) ((fun _=>rfl))) (av (vz 4) (ab (bC 0 33 (e:=(((gD v4 ((aa (v35-1)))).Kind) != 2)) (b:=false) h66) (ab (ao 0 1) (ab (ao 0 1) (ab (ao 0 1) (ab (ao 0 1) (ab (ao 0 1) (ab (ao 0 1) (ab (ao 0 1) (ab (ao 0 1) (av [.v 0 1] (ab (bQ 0) bG)))))))))))))))) (ae 0 (EZ hK hL1 h))
  ·exact bF 1 (nu 22 [iI v35,.bool (decide (v35>0)),.bool false,.tup [],.tup [],.tup [],.tup [],.tup [],.tup [],.tup [],.bool false,.bool false,.tup [],.tup [],.tup [],.tup [],.tup [],.tup [],.tup [],.tup [],.bool false]) [] [] [bR Tryz.prog 120 Tryz.f22 (pn 3914) 21] (av (vz 2) (ab (bC 0 24 (e:=(decide (v35>0))) (b:=false) h64) (ab (ao 0 1) (ab (ao 0 1) (ab (ao 0 1) (ab (ao 0 1) (ab (ao 0 1) (ab (ao 0 1) (ab (ao 0 1) (av (vz 2) (ab (ao 0 1) (ab (ao 0 1) (ab (ao 0 1) (ab (ao 0 1) (ab (ao 0 1) (ab (ao 0 1) (ab (ao 0 1) (ab (ao 0 1) (av [.v 0 1] (ab (bQ 0) bG)))))))))))))))))))) (ae 0 (EZ hK hL1 h))
 ·refine ag 17 h62 (aE 8 (kB 117 ?_));cases h;exact eK
theorem ac5(hK:am K)(m:Nat):nW M w0 r v4 m (oH K n v4 m):=by
 induction m with
 | zero=>intro v35 v36 v37 v38 h;cases h
 | succ m ih=>intro v35 v36 v37 v38 h;have h:rR K n v4 (oH K n v4 m) v35 v36 v37 v38=some r:=h;exact bp (aaZ hK ih h)
theorem Z9(hK:am K)(h:wT K n v1 v2 v3=some r):fl Tryz.prog 22 [.sl (lm aQ v1),.fno 43 [.ptr 1 0,.ptr 2 0]] [(1,[iI v2]),(2,[.ref 9])] 9 ⟨3,1,lm (bi .i64) v3⟩ [9,1,2,1000001,1000002] (fun v s=>v=.sl (lm aN r.1)∧dh s.o [(1,[iI r.2.1]),(2,[.ref 9])]∧look 9 s.r=some ⟨3,1,lm (bi .i64) r.2.2⟩):=by
 refine je (c:=cat Tryz.f22 (pn 1)) Tryz.func22 (by kernel_rfl) _ Tryz.ntmps22 (of_decide_eq_true (by kernel_rfl)) fun M w0=>(bc ⟨[(0,.sl (lm aQ v1)),(1,.fno 43 [.ptr 1 0,.ptr 2 0])],[(1,[iI v2]),(2,[.ref 9])],[(9,⟨3,1,lm (bi .i64) v3⟩)],[9,1,2,1000001,1000002]⟩ ?_);unfold wT at h;refine az 6 7 3 (aj 1 ?_);obtain⟨v4,h1,h⟩:=bind_some h;exact dx 1013 (A8 hK h1) (fx 400003) (ac (fr 26 0 7 6 (bI [1,5,6,7] [1,2] [9,1013] (kB 1013 (fh 117 6 46 62 (ae 0 (cf (p:=pn 122) n (ac5 hK n h))))))))
end
noncomputable section
variable(M:Nat→Prop)(w0:aF)(r:Int×Int)(v1:List ai)(v2:aI)(v3:cg)(v4:(List ay)×(List Int))(v5:(List ay)×Int×(List Int))(v9 v10 v11 v13 v19 v20 v22:Int)(v23:Bool)(v25:Int)(m1 m2 m3:Nat)(L1 L2:Int→Int→Option (Int×Int))(L3:Int→Option (Int×Int))
abbrev oJ:Cx:=⟨Tryz.prog,74,M,w0⟩
abbrev o6:=bodyPost Tryz.prog Tryz.f17 (bu M w0 (fun v _=>v=.tup [iI r.1,iI r.2]))
abbrev tf(ks:List aq)(s:AS):=VE (oJ M w0) (o6 M w0 r) ks .normal s
abbrev hI(n:Nat):aq:=.c (cat Tryz.f17 (pn n))
abbrev Cf:List aq:=[.b 2,hI 255]
abbrev Dx:List aq:=kl (oJ M w0) (o6 M w0 r) Cf (cat Tryz.f17 (pn 2036)) m2::Cf
abbrev F4:List aq:=[.b 0,hI 127]
abbrev De:List aq:=kl (oJ M w0) (o6 M w0 r) F4 (cat Tryz.f17 (pn 1012)) m1::F4
abbrev AQ:List aq:=.b 4::hI 32587 :: .b 3::Dx M w0 r m2
abbrev Kf:List aq:=kl (oJ M w0) (o6 M w0 r) (AQ M w0 r m2) (cat Tryz.f17 (pn 130344)) m3::(AQ M w0 r m2)
def QV:AS:=⟨[(6,iI v13),(7,iI 0),(9,.sl (lm aN v4.1)),(11,.sl (lm aN v5.1)),(13,iI v11)],[],[],[]⟩
def Pg:AS:=⟨[(6,iI v9),(7,iI v25),(11,.sl (lm aN v5.1)),(16,iI v22)],[],[],[]⟩
def Q3:AS:=⟨[(6,iI v9),(7,iI v19),(11,.sl (lm aN v5.1)),(15,iI v20),(16,iI v22),(59,.bool v23)],[],[],[]⟩
def HX:AS:=⟨[(6,iI v9),(7,iI v19),(11,.sl (lm aN v5.1)),(15,iI v20),(16,iI v22)],[],[],[]⟩
def KG:AS:=⟨[(6,iI v9),(7,iI v19),(11,.sl (lm aN v5.1)),(15,iI v20)],[],[],[]⟩
def K5:AS:=⟨[(6,iI v9),(7,iI 0),(9,.sl (lm aN v4.1)),(11,.sl (lm aN v5.1)),(12,iI v10)],[],[],[]⟩
abbrev C5:Prop:=∀{v9:Int} {v10:Int},L1 v9 v10=some r→LP (oJ M w0) (o6 M w0 r) F4 (cat Tryz.f17 (pn 1012)) m1 (K5 v4 v5 v9 v10)
abbrev sg:Prop:=∀{v19:Int} {v20:Int},L2 v19 v20=some r→LP (oJ M w0) (o6 M w0 r) Cf (cat Tryz.f17 (pn 2036)) m2 (KG v5 v9 v19 v20)
abbrev C1:Prop:=∀{v22:Int},L3 v22=some r→LP (oJ M w0) (o6 M w0 r) (AQ M w0 r m2) (cat Tryz.f17 (pn 130344)) m3 (HX v5 v9 v19 v20 v22)
variable{M w0 r v1 v2 v3 v4 v5 v9 v10 v11 v13 v19 v20 v22 v23 v25 m1 m2 m3 L1 L2 L3}{K:Kn}{n:Nat}
theorem GB(hK:am K)(hL1:C5 M w0 r v4 v5 m1 L1)(h:vO K n v4 v5 v11 L1 v13=some r):tf M w0 r (hI 16203 :: .b 1::De M w0 r m1) (QV v4 v5 v11 v13):=by
 unfold vO at h;exact ae 2 (bt (hL1 h))
theorem Iz(hK:am K)(hL2:sg M w0 r v5 v9 m2 L2)(h:xa K n v5 v9 v22 L2 v25=some r):tf M w0 r (hI 65175 :: .b 3::Dx M w0 r m2) (Pg v5 v9 v22 v25):=by
 unfold xa at h;exact ae 2 (bt (hL2 h))
theorem KL(hK:am K)(hL2:sg M w0 r v5 v9 m2 L2)(hL3:C1 M w0 r v5 v9 v19 v20 m2 m3 L3)(h:qv K n v5 v9 v19 v20 v22 L2 L3 v23=some r):tf M w0 r (hI 521377::hI 260689::Kf M w0 r m2 m3) (Q3 v5 v9 v19 v20 v22 v23):=by
 unfold qv at h;obtain⟨h29,h⟩|⟨h29,h⟩:=ak h
 ·exact ag 59 h29 (ae 5 (bt (hL3 h)))
 ·refine ag 59 h29 (Nj 4 5 3 7 (aj 3 ?_));obtain⟨h30,h⟩:=aK h;refine aB (oM aN v5.1 v20 v22 25 (.tmp 62) (some (.tmp 63)) (some (.tmp 64)) 65 (e:=46) (sz:=62) (by kernel_rfl) (by kernel_rfl) (by kernel_rfl) (by kernel_rfl) (by kernel_rfl) (by kernel_rfl) (gi) (fun k hk=>by subst hk;kernel_rfl) h30) ?_;obtain⟨v24,h31,h⟩:=bind_some h;refine aD (zX hK h31) (ac (bh 3 2 ?_));obtain⟨h32,h⟩|⟨h32,h⟩:=ak h
  ·exact ag 69 h32 (ae 2 (Iz hK hL2 h))
  ·exact ag 69 h32 (ae 2 (Iz hK hL2 h))
theorem Uz(hK:am K)(hL2:sg M w0 r v5 v9 m2 L2)(hL3:C1 M w0 r v5 v9 v19 v20 m2 m3 L3)(h:rr K n v5 v9 v19 v20 L2 L3 v22=some r):tf M w0 r (hI 130344::Kf M w0 r m2 m3) (HX v5 v9 v19 v20 v22):=by
 unfold rr at h;refine bH 4 5 3 2 (aj 2 (aB (bq aN v5.1) (aL 5 2 ?_)));obtain⟨h27,h⟩|⟨h27,h⟩:=ak h
 ·refine aA 51 h27 (aL 8 3 ?_);obtain⟨h28,h⟩:=aK h;exact aB (bw aN aN h28 (gi) ((fun _=>rfl))) (ac (ae 0 (KL hK hL2 hL3 h)))
 ·exact aA 51 h27 (ac (ae 0 (KL hK hL2 hL3 h)))
theorem Xo(hK:am K)(hL2:sg M w0 r v5 v9 m2 L2)(m:Nat):C1 M w0 r v5 v9 v19 v20 m2 m (rt K n v5 v9 v19 v20 L2 m):=by
 induction m with
 | zero=>intro v22 h;cases h
 | succ m ih=>intro v22 h;have h:rr K n v5 v9 v19 v20 L2 (rt K n v5 v9 v19 v20 L2 m) v22=some r:=h;exact bp (Uz hK hL2 ih h)
theorem abI(hK:am K)(hL2:sg M w0 r v5 v9 m2 L2)(h:qC K n v5 v9 L2 v19 v20=some r):tf M w0 r (hI 2036::Dx M w0 r m2) (KG v5 v9 v19 v20):=by
 unfold qC at h;refine bH 4 5 3 2 (aj 2 (aB (bq aN v5.1) (ac ?_)));obtain⟨h23,h⟩|⟨h23,h⟩:=ak h
 ·exact ag 44 h23 (ae 7 (cf (p:=pn 65172) n (Xo hK hL2 n h)))
 ·refine ag 44 h23 (aE 8 ?_);cases h;exact dS
theorem abs(hK:am K)(m:Nat):sg M w0 r v5 v9 m (ss K n v5 v9 m):=by
 induction m with
 | zero=>intro v19 v20 h;cases h
 | succ m ih=>intro v19 v20 h;have h:qC K n v5 v9 (ss K n v5 v9 m) v19 v20=some r:=h;exact bp (abI hK ih h)
theorem XG(hK:am K)(hL1:C5 M w0 r v4 v5 m1 L1)(h:s8 K n v4 v5 L1 v9 v10=some r):tf M w0 r (hI 1012::De M w0 r m1) (K5 v4 v5 v9 v10):=by
 unfold s8 at h;refine bH 4 5 3 2 (aj 2 (aB (bq aN v4.1) (ac ?_)));obtain⟨h8,h⟩|⟨h8,h⟩:=ak h
 ·refine ag 27 h8 (co (ks':=hI 8100::hI 8101 :: .b 1::De M w0 r m1) 4 (aj 2 ?_));obtain⟨v11,h9,h⟩:=bind_some h;refine aD (BS hK h9) (ac (bH 4 5 3 2 (aj 3 ?_)));obtain⟨h10,h⟩:=aK h;refine aB (oM aN v4.1 v10 v11 25 (.tmp 31) (some (.tmp 32)) (some (.tmp 33)) 34 (e:=46) (sz:=62) (by kernel_rfl) (by kernel_rfl) (by kernel_rfl) (by kernel_rfl) (by kernel_rfl) (by kernel_rfl) (gi) (fun k hk=>by subst hk;kernel_rfl) h10) ?_;obtain⟨v12,h11,h⟩:=bind_some h;refine aD (zX hK h11) (ac (bh 3 2 ?_));obtain⟨h12,h⟩|⟨h12,h⟩:=ak h
  ·exact ag 38 h12 (ae 2 (GB hK hL1 h))
  ·exact ag 38 h12 (ae 2 (GB hK hL1 h))
 ·exact ag 27 h8 (ae 9 (cf (p:=pn 1018) n (abs hK n h)))
theorem acr(hK:am K)(m:Nat):C5 M w0 r v4 v5 m (rQ K n v4 v5 m):=by
 induction m with
 | zero=>intro v9 v10 h;cases h
 | succ m ih=>intro v9 v10 h;have h:s8 K n v4 v5 (rQ K n v4 v5 m) v9 v10=some r:=h;exact bp (XG hK ih h)
theorem YT(hK:am K)(h:pj K n v1 v2 v3=some r):aO Tryz.prog 17 [.sl (lm aQ v1),.agg (aJ v2),.agg (ct v3)] (fun v _=>v=.tup [iI r.1,iI r.2]):=by
 refine bg (cat Tryz.f17 (pn 1)) Tryz.func17 Tryz.ntmps17 fun M w0=>(bc ⟨[(0,.sl (lm aQ v1)),(1,.agg (aJ v2)),(2,.agg (ct v3))],[],[],[]⟩ ?_);unfold pj at h;refine az 14 15 5 (aj 1 (Cs 5 5 (ct v3) (Bb 42 #[(.tmp 5),(.tmp 8)] [.cptr (ct v3),.ptr 8 0] (Ge 400008 8 0 3 1 ?_))));obtain⟨v4,h1,h⟩:=bind_some h;refine gH 400008 9 [(8,1)] (VX hK h1) (ac (az 6 7 3 (aj 1 (Bb 43 #[(.tmp 10),(.tmp 8)] [.ptr 10 0,.ptr 8 0] ?_))));obtain⟨v5,h2,h⟩:=bind_some h;exact gH 400008 9 [(10,1),(8,2)] (Z9 hK h2) (ac (ae 4 (cf (p:=pn 506) n (acr hK n h))))
end
noncomputable section
variable(M:Nat→Prop)(w0:aF)(r:Int)(v1:List aP)(v2 v4:Int)(v5:Bool)(m1:Nat)(L1:Int→Option Int)
abbrev ED:Cx:=⟨Tryz.prog,21,M,w0⟩
abbrev FS:=bodyPost Tryz.prog Tryz.f47 (bu M w0 (fun v _=>v=iI r))
abbrev NB(ks:List aq)(s:AS):=VE (ED M w0) (FS M w0 r) ks .normal s
abbrev zt(n:Nat):aq:=.c (cat Tryz.f47 (pn n))
abbrev DY:List aq:=[.b 0,zt 15]
abbrev Ky:List aq:=kl (ED M w0) (FS M w0 r) DY (cat Tryz.f47 (pn 56)) m1::DY
def UG:AS:=⟨[(0,.sl (lm bn v1)),(1,iI v4),(17,.bool v5)],[],[],[]⟩
def Na:AS:=⟨[(0,.sl (lm bn v1)),(1,iI v4)],[],[],[]⟩
abbrev CA:Prop:=∀{v4:Int},L1 v4=some r→LP (ED M w0) (FS M w0 r) DY (cat Tryz.f47 (pn 56)) m1 (Na v1 v4)
variable{M w0 r v1 v2 v4 v5 m1 L1}{K:Kn}{n:Nat}
theorem M7(hK:am K)(hL1:CA M w0 r v1 m1 L1)(h:qA K n v1 v4 L1 v5=some r):NB M w0 r (zt 225::zt 113::Ky M w0 r m1) (UG v1 v4 v5):=by
 unfold qA at h;obtain⟨h6,h⟩|⟨h6,h⟩:=ak h
 ·exact ag 17 h6 (ae 5 (bt (hL1 h)))
 ·refine ag 17 h6 (aE 8 ?_);cases h;exact ba
theorem XP(hK:am K)(hL1:CA M w0 r v1 m1 L1)(h:sN K n v1 L1 v4=some r):NB M w0 r (zt 56::Ky M w0 r m1) (Na v1 v4):=by
 unfold sN at h;refine bH 4 5 3 2 (aj 2 (aB (bq bn v1) (aL 5 2 ?_)));obtain⟨h4,h⟩|⟨h4,h⟩:=ak h
 ·refine aA 11 h4 (aL 7 2 ?_);obtain⟨h5,h⟩:=aK h;exact aB (bw bn bn h5 (td) ((fun _=>rfl))) (ac (ae 0 (M7 hK hL1 h)))
 ·exact aA 11 h4 (ac (ae 0 (M7 hK hL1 h)))
theorem ZP(hK:am K)(m:Nat):CA M w0 r v1 m (sH K n v1 m):=by
 induction m with
 | zero=>intro v4 h;cases h
 | succ m ih=>intro v4 h;have h:sN K n v1 (sH K n v1 m) v4=some r:=h;exact bp (XP hK ih h)
theorem Vz(hK:am K)(h:vQ K n v1 v2=some r):aO Tryz.prog 47 [.sl (lm bn v1),iI v2] (fun v _=>v=iI r):=by
 refine bg (cat Tryz.f47 (pn 1)) Tryz.func47 Tryz.ntmps47 fun M w0=>(bc ⟨[(0,.sl (lm bn v1)),(1,iI v2)],[],[],[]⟩ ?_);unfold vQ at h;exact ae 6 (cf (p:=pn 28) n (ZP hK n h))
end
noncomputable section
variable(M:Nat→Prop)(w0:aF)(r:Int)(v1:List aP)(v5 v6 v7 v8 v9:Int)(m1:Nat)(L1:Int→Int→Int→Option Int)
abbrev DK:Cx:=⟨Tryz.prog,39,M,w0⟩
abbrev Et:=bodyPost Tryz.prog Tryz.f48 (bu M w0 (fun v _=>v=iI r))
abbrev IE(ks:List aq)(s:AS):=VE (DK M w0) (Et M w0 r) ks .normal s
abbrev rD(n:Nat):aq:=.c (cat Tryz.f48 (pn n))
abbrev DR:List aq:=[.b 0,rD 31]
abbrev FO:List aq:=kl (DK M w0) (Et M w0 r) DR (cat Tryz.f48 (pn 244)) m1::DR
def Oz:AS:=⟨[(0,.sl (lm bn v1)),(3,iI v8),(4,iI v9),(5,iI v7)],[],[],[]⟩
def GD:AS:=⟨[(0,.sl (lm bn v1)),(3,iI v5),(4,iI v6),(5,iI v7)],[],[],[]⟩
abbrev B7:Prop:=∀{v5:Int} {v6:Int} {v7:Int},L1 v5 v6 v7=some r→LP (DK M w0) (Et M w0 r) DR (cat Tryz.f48 (pn 244)) m1 (GD v1 v5 v6 v7)
variable{M w0 r v1 v5 v6 v7 v8 v9 m1 L1}{K:Kn}{n:Nat}
theorem Oo(hK:am K)(hL1:B7 M w0 r v1 m1 L1)(h:ue K n v1 v7 v8 L1 v9=some r):IE M w0 r (.b 1::rD 979::FO M w0 r m1) (Oz v1 v7 v8 v9):=by
 unfold ue at h;exact ae 2 (bt (hL1 h))
theorem Ph(hK:am K)(hL1:B7 M w0 r v1 m1 L1)(h:rK K n v1 L1 v5 v6 v7=some r):IE M w0 r (rD 244::FO M w0 r m1) (GD v1 v5 v6 v7):=by
 unfold rK at h;refine bH 4 5 3 2 (aj 2 (aB (bq bn v1) (ac ?_)));obtain⟨h9,h⟩|⟨h9,h⟩:=ak h
 ·refine ag 9 h9 (cQ 8 9 1 3 5 (bI [0,3,4,5] [] [] ?_));obtain⟨h10,h⟩:=aK h;obtain⟨h11,h⟩:=aK h;refine bF 1 (nu 12 [iI v5,.sl (lm bn v1),iI v7,.cptr (bn (gD v1 v7)),.cptr (List.drop 2 (bn (gD v1 v7))),iI ((gD v1 v7).Width),.sl (lm bn v1),iI v7,.cptr (bn (gD v1 v7)),.cptr (List.drop 3 (bn (gD v1 v7))),iI ((gD v1 v7).Space),iI (aa (((gD v1 v7).Width)+((gD v1 v7).Space))),iI (aa (v5+(aa (((gD v1 v7).Width)+((gD v1 v7).Space)))))]) [] [] [bR Tryz.prog 39 Tryz.f48 (pn 3912) 13] (av (vz 3) (bv (bw bn bn h10 (td) ((fun _=>rfl))) (av (vz 4) (bv (bw bn bn h11 (td) ((fun _=>rfl))) (av (vz 4) (ab (bQ 0) bG)))))) ?_;obtain⟨v8,h12,h⟩:=bW h;refine bB (ks':=rD 7826::rD 7827 :: .b 1::rD 979::FO M w0 r m1) 1 ⟨[(0,.sl (lm bn v1)),(3,iI v8),(4,iI v6),(5,iI v7)],[],[],[]⟩ ?_ (by subst h12;kernel_rfl);refine aj 2 ?_;obtain⟨h13,h⟩:=aK h;refine aB (bw bn bn h13 (td) ((fun _=>rfl))) (ac ?_);obtain⟨h14,h⟩|⟨h14,h⟩:=ak h
  ·refine ag 30 h14 (bh 2 1 (aj 2 ?_));obtain⟨h15,h⟩:=aK h;exact aB (bw bn bn h15 (td) ((fun _=>rfl))) (ac (ae 0 (Oo hK hL1 h)))
  ·exact ag 30 h14 (ae 2 (Oo hK hL1 h))
 ·refine ag 9 h9 (aE 8 ?_);cases h;exact ba
theorem OV(hK:am K)(m:Nat):B7 M w0 r v1 m (q9 K n v1 m):=by
 induction m with
 | zero=>intro v5 v6 v7 h;cases h
 | succ m ih=>intro v5 v6 v7 h;have h:rK K n v1 (q9 K n v1 m) v5 v6 v7=some r:=h;exact bp (Ph hK ih h)
theorem KJ(hK:am K)(h:rg K n v1=some r):aO Tryz.prog 48 [.sl (lm bn v1)] (fun v _=>v=iI r):=by
 refine bg (cat Tryz.f48 (pn 1)) Tryz.func48 Tryz.ntmps48 fun M w0=>(bc ⟨[(0,.sl (lm bn v1))],[],[],[]⟩ ?_);unfold rg at h;exact ae 10 (cf (p:=pn 122) n (OV hK n h))
end
end Go.Proofs.YtnpmlepplfaijaaGreat

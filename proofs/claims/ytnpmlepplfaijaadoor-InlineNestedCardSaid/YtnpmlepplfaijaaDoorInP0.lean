/- The runs of the functions that InlineNested reaches do what their plain forms say, part 0. Made by a program. -/
import Derived.Test.YtnpmlepplfaijaaDoorInGk
namespace Go.Proofs.YtnpmlepplfaijaaDoor
open Go.RowKit
set_option maxRecDepth 20000
set_option linter.all false
set_option linter.unusedVariables false
set_option linter.unusedSimpArgs false
noncomputable section
variable(M:Nat→Prop)(w0:aC)(r:Bool)(v1:au)(v2:Bool)  
abbrev It(n:Nat):av:=.c (cat Tryd.f52 (pn n))
abbrev J6:Cx:=⟨Tryd.prog,12,M,w0⟩
abbrev EV:=bodyPost Tryd.prog Tryd.f52 (bu M w0 (fun v _=>v=.bool r))
abbrev CR(ks:List av)(s:AS):=VE (J6 M w0) (EV M w0 r) ks .normal s
def Jr:AS:=⟨[(2,.bool v2)],[],[],[]⟩
variable{M w0 r v1 v2}{K:Kn}{n:Nat}
theorem yH(hK:aq K)(h:nf K n v2=some r):CR M w0 r [It 7] (Jr v2):=by
 unfold nf at h;refine aJ 1 ?_;cases h;exact bc
theorem Cd(hK:aq K)(h:fw K n v1=some r):aS Tryd.prog 52 [.agg (aZ v1)] (fun v _=>v=.bool r):=by
 refine bl (cat Tryd.f52 (pn 1)) Tryd.func52 Tryd.ntmps52 fun M w0=>(bi ⟨[(0,.agg (aZ v1))],[],[],[]⟩ ?_);unfold fw at h;refine aA 6 7 3 (am 4 ?_);obtain⟨h1,h⟩|⟨h1,h⟩:=ak h
 ·exact ay 6 h1 (ac (ah 0 (yH hK h)))
 ·exact ay 6 h1 (ac (ah 0 (yH hK h)))
end
noncomputable section
variable(M:Nat→Prop)(w0:aC)(r:List ao)(v1:ao)(v2:List ao)(v3 v4 v5 v6:Bool)(v7:ao)  
abbrev fa(n:Nat):av:=.c (cat Tryd.f53 (pn n))
abbrev DX:Cx:=⟨Tryd.prog,72,M,w0⟩
abbrev Ky:=bodyPost Tryd.prog Tryd.f53 (bu M w0 (fun v s=>v=.ref 9∧dZ s.o []∧look 9 s.r=some ⟨93,5,lm az r⟩))
abbrev nM(ks:List av)(s:AS):=VE (DX M w0) (Ky M w0 r) ks .normal s
def Kl:AS:=⟨[(0,.ref 9),(3,.ptr 3 0)],[(3,az v7)],[(9,⟨93,5,lm az v2⟩)],[3,9]⟩
def Fj:AS:=⟨[(0,.ref 9),(3,.ptr 3 0),(64,.bool v6)],[(3,az v1)],[(9,⟨93,5,lm az v2⟩)],[3,9]⟩
def KJ:AS:=⟨[(0,.ref 9),(3,.ptr 3 0),(5,.bool (v1.Box.Style.WhiteSpace == 2)),(32,.bool v5)],[(3,az v1)],[(9,⟨93,5,lm az v2⟩)],[3,9]⟩
def HD:AS:=⟨[(0,.ref 9),(3,.ptr 3 0),(5,.bool (v1.Box.Style.WhiteSpace == 2)),(24,.bool v4)],[(3,az v1)],[(9,⟨93,5,lm az v2⟩)],[3,9]⟩
def G0:AS:=⟨[(0,.ref 9),(3,.ptr 3 0),(5,.bool (v1.Box.Style.WhiteSpace == 2)),(19,.bool v3)],[(3,az v1)],[(9,⟨93,5,lm az v2⟩)],[3,9]⟩
variable{M w0 r v1 v2 v3 v4 v5 v6 v7}{K:Kn}{n:Nat}
theorem uB(hK:aq K)(h:ja K n v2 v7=some r):nM M w0 r [.b 1,fa 31] (Kl v2 v7):=by
 unfold ja at h;refine gm 6 7 4 (am 3 ?_);obtain⟨h16,h⟩:=aU h;refine aF (cT 71 9 93 5 az (rfl) (di) h16) (ac (aJ 1 ?_));cases h;exact gd
theorem uP(hK:aq K)(h:gt K n v1 v2 v6=some r):nM M w0 r [fa 15609,fa 7805,.b 1,fa 31] (Fj v1 v2 v6):=by
 unfold gt at h;obtain⟨h15,h⟩|⟨h15,h⟩:=ak h
 ·refine ai 64 h15 (aJ 7 ?_);cases h;exact gd
 ·exact ai 64 h15 (ah 3 (uB hK h))
theorem zO(hK:aq K)(h:lX K n v1 v2 v5=some r):nM M w0 r [fa 487,.b 1,fa 31] (KJ v1 v2 v5):=by
 unfold lX at h;obtain⟨h9,h⟩|⟨h9,h⟩:=ak h
 ·refine ai 32 h9 (aJ 6 ?_);cases h;exact gd
 ·refine ai 32 h9 (ba 7 3 ?_);obtain⟨h10,h⟩|⟨h10,h⟩:=ak h
  ·refine ai 40 h10 (cj 8 9 5 3 (am 1 (aF (bE az v2) (aN 4 2 ?_))));obtain⟨h11,h⟩|⟨h11,h⟩:=ak h
   ·exact ay 46 h11 (ac (ah 0 (uP hK h)))
   ·refine ay 46 h11 (aN 6 2 (aF (bE az v2) (aN 8 1 ?_)));obtain⟨h12,h⟩:=aU h;refine aF (d6 9 5 az h12) (aN 10 1 (aF (bV 4 3 az az (cm h12).2 ((fun _=>rfl))) (aN 13 2 ?_)));obtain⟨h13,h⟩|⟨h13,h⟩:=ak h
    ·exact ay 55 h13 (ac (ah 0 (uP hK h)))
    ·refine ay 55 h13 (aN 15 2 (aF (bE az v2) (aN 17 1 ?_)));obtain⟨h14,h⟩:=aU h;exact aF (d6 9 5 az h14) (aN 19 1 (aF (bV 3 0 az az (cm h14).2 ((fun _=>rfl))) (ac (ah 0 (uP hK h)))))
  ·exact ai 40 h10 (ah 2 (uB hK h))
theorem zI(hK:aq K)(h:lY K n v1 v2 v4=some r):nM M w0 r [fa 121,.b 1,fa 31] (HD v1 v2 v4):=by
 unfold lY at h;obtain⟨h7,h⟩|⟨h7,h⟩:=ak h
 ·exact ai 24 h7 (ah 2 (uB hK h))
 ·refine ai 24 h7 (aA 6 7 2 (am 2 ?_));obtain⟨h8,h⟩|⟨h8,h⟩:=ak h
  ·exact ay 34 h8 (ac (ah 0 (zO hK h)))
  ·exact ay 34 h8 (ac (ah 0 (zO hK h)))
theorem q6(hK:aq K)(h:gp K n v1 v2 v3=some r):nM M w0 r [fa 117,.b 0,fa 15] (G0 v1 v2 v3):=by
 unfold gp at h;obtain⟨h4,h⟩|⟨h4,h⟩:=ak h
 ·refine ai 19 h4 (cC (ks':=[fa 120,fa 121,.b 1,fa 31]) 6 (am 2 ?_));obtain⟨h6,h⟩|⟨h6,h⟩:=ak h
  ·exact ay 26 h6 (ac (ah 0 (zI hK h)))
  ·exact ay 26 h6 (ac (ah 0 (zI hK h)))
 ·refine ai 19 h4 (aA 6 7 2 (am 3 ?_));obtain⟨h5,h⟩:=aU h;refine aF (cT 18 9 93 5 az (rfl) (di) h5) (ac (aJ 3 ?_));cases h;exact gd
theorem IH(hK:aq K)(h:oC K n v1 v2=some r):gG Tryd.prog 53 [.ref 9,.agg (az v1)] [] 9 ⟨93,5,lm az v2⟩ [9] (fun v s=>v=.ref 9∧dZ s.o []∧look 9 s.r=some ⟨93,5,lm az r⟩):=by
 refine nW (c:=cat Tryd.f53 (pn 1)) Tryd.func53 (by kernel_rfl) _ Tryd.ntmps53 (of_decide_eq_true (by kernel_rfl)) fun M w0=>(bi ⟨[(0,.ref 9),(1,.agg (az v1))],[],[(9,⟨93,5,lm az v2⟩)],[9]⟩ ?_);unfold oC at h;refine du 233 117 0 15 11 ?_;obtain⟨h1,h⟩|⟨h1,h⟩:=ak h
 ·exact ai 19 h1 (ah 2 (q6 hK h))
 ·refine ai 19 h1 (ba 7 3 ?_);obtain⟨h2,h⟩|⟨h2,h⟩:=ak h
  ·exact ai 19 h2 (ah 2 (q6 hK h))
  ·refine ai 19 h2 (ba 7 3 ?_);obtain⟨h3,h⟩|⟨h3,h⟩:=ak h
   ·exact ai 19 h3 (ah 2 (q6 hK h))
   ·exact ai 19 h3 (ah 2 (q6 hK h))
end
noncomputable section
variable(M:Nat→Prop)(w0:aC)(r:Int×(List ao))(v1:List au)(v2:Int)(v3:List ao)(v10:Nat)(v23 v24:Int)(v25:List ao)(v32 v36:Nat)(v37:List ao)(v41:Int)(v42:List ao)(v43:Int)(v44:List ao)(m1 m2:Nat)(L1:Int→Int→(List ao)→Option (Int×(List ao)))(L2:Nat→(List ao)→Option (Int×(List ao)))
abbrev oy:Cx:=⟨Tryd.prog,69,M,w0⟩
abbrev md:=bodyPost Tryd.prog Tryd.f51 (bu M w0 (fun v s=>v=.tup []∧dZ s.o [(1,[iI r.1]),(2,[.fno 51 [.ptr 1 0,.ptr 2 0,.ptr 3 0]]),(3,[.ref 9])]∧look 9 s.r=some ⟨93,5,lm az r.2⟩))
abbrev qO(ks:List av)(s:AS):=VE (oy M w0) (md M w0 r) ks .normal s
abbrev eQ(n:Nat):av:=.c (cat Tryd.f51 (pn n))
abbrev vR:List av:=[.b 0]
abbrev ir:List av:=kl (oy M w0) (md M w0 r) vR (cat Tryd.f51 (pn 12)) m1::vR
abbrev tq:List av:=.b 3 :: .b 2 :: .b 1::eQ 103::ir M w0 r m1
abbrev AN:List av:=kl (oy M w0) (md M w0 r) (tq M w0 r m1) (cat Tryd.f51 (pn 26867700)) m2::(tq M w0 r m1)
def J7:AS:=⟨[(0,.sl (lm aW v1)),(1,.ptr 1 0),(2,.ptr 2 0),(3,.ptr 3 0),(10,iI (v1.length:Int)),(11,iI v23)],[(1,[iI v43]),(2,[.fno 51 [.ptr 1 0,.ptr 2 0,.ptr 3 0]]),(3,[.ref 9])],[(9,⟨93,5,lm az v44⟩)],[1,2,3,9,1000001,1,1000002,2,1000003,3]⟩
def Fy:AS:=⟨[(0,.sl (lm aW v1)),(1,.ptr 1 0),(2,.ptr 2 0),(3,.ptr 3 0),(10,iI (v1.length:Int)),(11,iI v23)],[(1,[iI v41]),(2,[.fno 51 [.ptr 1 0,.ptr 2 0,.ptr 3 0]]),(3,[.ref 9])],[(9,⟨93,5,lm az v42⟩)],[1,2,3,9,1000001,1,1000002,2,1000003,3]⟩
def zf:AS:=⟨[(0,.sl (lm aW v1)),(1,.ptr 1 0),(2,.ptr 2 0),(3,.ptr 3 0),(6,.cptr (aZ (gD v1 v23))),(10,iI (v1.length:Int)),(11,iI v23),(58,.sit 320058 v32 ((gD v1 v23).Text) v36)],[(1,[iI (aa (v24+1))]),(2,[.fno 51 [.ptr 1 0,.ptr 2 0,.ptr 3 0]]),(3,[.ref 9])],[(9,⟨93,5,lm az v37⟩)],[1,2,3,9,320058,1000001,1,1000002,2,1000003,3]⟩
def zH:AS:=⟨[(0,.sl (lm aW v1)),(1,.ptr 1 0),(2,.ptr 2 0),(3,.ptr 3 0),(10,iI (v1.length:Int)),(11,iI v23)],[(1,[iI v24]),(2,[.fno 51 [.ptr 1 0,.ptr 2 0,.ptr 3 0]]),(3,[.ref 9])],[(9,⟨93,5,lm az v25⟩)],[1,2,3,9,1000001,1,1000002,2,1000003,3]⟩
abbrev lO:Prop:=∀{v23:Int} {v24:Int} {v25:(List ao)},L1 v23 v24 v25=some r→LP (oy M w0) (md M w0 r) vR (cat Tryd.f51 (pn 12)) m1 (zH v1 v23 v24 v25)
abbrev xJ:Prop:=∀{v36:Nat} {v37:(List ao)},L2 v36 v37=some r→LP (oy M w0) (md M w0 r) (tq M w0 r m1) (cat Tryd.f51 (pn 26867700)) m2 (zf v1 v23 v24 v32 v36 v37)
variable{M w0 r v1 v2 v3 v10 v23 v24 v25 v32 v36 v37 v41 v42 v43 v44 m1 m2 L1 L2}{K:Kn}{n:Nat}
theorem Ba(hK:aq K)(hL1:lO M w0 r v1 m1 L1)(h:gH K n v1 v23 L1 v43 v44=some r):qO M w0 r (eQ 103::ir M w0 r m1) (J7 v1 v23 v43 v44):=by
 unfold gH at h;exact ah 1 (bB (hL1 h))
theorem mR(hK:aq K)(hL1:lO M w0 r v1 m1 L1)(h:fB K n v1 v23 L1 v41 v42=some r):qO M w0 r (.b 2 :: .b 1::eQ 103::ir M w0 r m1) (Fy v1 v23 v41 v42):=by
 unfold fB at h;exact ah 2 (Ba hK hL1 h)
theorem GV(hK:aq K)(hv32:w0.w.heap.size≤v32)(hL1:lO M w0 r v1 m1 L1)(hL2:xJ M w0 r v1 v23 v24 v32 m1 m2 L2)(h:kk K n v1 v23 v24 L1 L2 v36 v37=some r):qO M w0 r (eQ 26867700::AN M w0 r m1 m2) (zf v1 v23 v24 v32 v36 v37):=by
 unfold kk at h;refine aA 2 3 1 (am 0 ?_);obtain⟨h43,h⟩|⟨h43,h⟩:=ak h
 ·refine wn 58 (id:=320058) (g:=v32) h43 hv32 (ac ?_);obtain⟨v38,h44,h⟩:=co h;obtain⟨v39,h45,h⟩:=co h;refine bC (ks':=eQ 429883213 :: .b 4::AN M w0 r m1 m2) 6 ⟨[(0,.sl (lm aW v1)),(1,.ptr 1 0),(2,.ptr 2 0),(3,.ptr 3 0),(6,.cptr (aZ (gD v1 v23))),(8,.int .i32 v38),(10,iI (v1.length:Int)),(11,iI v23),(58,.sit 320058 v32 ((gD v1 v23).Text) v39)],[(1,[iI (aa (v24+1))]),(2,[.fno 51 [.ptr 1 0,.ptr 2 0,.ptr 3 0]]),(3,[.ref 9])],[(9,⟨93,5,lm az v37⟩)],[1,2,3,9,320058,1000001,1,1000002,2,1000003,3]⟩ ?_ (by subst h45;subst h44;kernel_rfl);refine am 5 ?_;obtain⟨v40,h46,h⟩:=bind_some h;exact iT 9 9 [] (IH hK h46) (ac (ah 1 (bB (hL2 h))))
 ·exact uo 58 (id:=320058) (g:=v32) h43 (ac (ah 6 (mR hK hL1 h)))
theorem EX(hK:aq K)(hv32:w0.w.heap.size≤v32)(hL1:lO M w0 r v1 m1 L1)(m:Nat):xJ M w0 r v1 v23 v24 v32 m1 m (kw K n v1 v23 v24 L1 m):=by
 induction m with
 | zero=>intro v36 v37 h;cases h
 | succ m ih=>intro v36 v37 h;have h:kk K n v1 v23 v24 L1 (kw K n v1 v23 v24 L1 m) v36 v37=some r:=h;exact bt (GV hK hv32 hL1 ih h)
theorem FH(hK:aq K)(hL1:lO M w0 r v1 m1 L1)(h:l7 K n v1 L1 v23 v24 v25=some r):qO M w0 r (eQ 12::ir M w0 r m1) (zH v1 v23 v24 v25):=by
 unfold l7 at h;refine aA 6 7 3 ?_;obtain⟨h24,h⟩|⟨h24,h⟩:=ak h
 ·refine ai 12 h24 (dv 18 19 1 3 7 (am 2 ?_));obtain⟨h25,h⟩:=aU h;refine aF (bO aW aZ h25 (fL) (ep)) (ac (cj 4 5 3 2 (am 3 ?_)));obtain⟨v26,h26,h⟩:=bind_some h;refine aO (Cd hK h26) (ac ?_);obtain⟨h27,h⟩|⟨h27,h⟩:=ak h
  ·exact ai 21 h27 (ah 4 (Ba hK hL1 h))
  ·refine ai 21 h27 ?_;obtain⟨v27,h28,h⟩:=co h;refine bC (ks':=eQ 26237 :: .b 2 :: .b 1::eQ 103::ir M w0 r m1) 9 ⟨[(0,.sl (lm aW v1)),(1,.ptr 1 0),(2,.ptr 2 0),(3,.ptr 3 0),(6,.cptr (aZ (gD v1 v23))),(10,iI (v1.length:Int)),(11,iI v23),(27,iI ((gD v1 v23).Kind)),(28,.bool v27)],[(1,[iI (aa (v24+1))]),(2,[.fno 51 [.ptr 1 0,.ptr 2 0,.ptr 3 0]]),(3,[.ref 9])],[(9,⟨93,5,lm az v25⟩)],[1,2,3,9,1000001,1,1000002,2,1000003,3]⟩ ?_ (by subst h28;kernel_rfl);obtain⟨h29,h⟩|⟨h29,h⟩:=ak h
   ·refine ai 28 h29 (ba 2 1 (bU [0,1,2,3,6,10,11] [1,2,3] [9] (Ie 5 0 [(30,.fno 51 [.ptr 1 0,.ptr 2 0,.ptr 3 0]),(31,.cptr (aZ (gD v1 v23))),(32,.cptr (aZ (gD v1 v23))),(33,.cptr (List.drop 58 (aZ (gD v1 v23)))),(34,.sl (lm aW ((gD v1 v23).Kids)))] [] [] [] (aB (vz 5) (Fz)) ?_)));obtain⟨v28,h30,h⟩:=bind_some h;exact iT 9 9 [(1,1),(2,2),(3,3)] (hK.rh h30) (ac (ah 0 (mR hK hL1 h)))
   ·refine ai 28 h29 ?_;obtain⟨v29,h31,h⟩:=co h;refine bC (ks':=eQ 104951 :: .b 2 :: .b 1::eQ 103::ir M w0 r m1) 3 ⟨[(0,.sl (lm aW v1)),(1,.ptr 1 0),(2,.ptr 2 0),(3,.ptr 3 0),(6,.cptr (aZ (gD v1 v23))),(10,iI (v1.length:Int)),(11,iI v23),(27,iI ((gD v1 v23).Kind)),(36,.bool v29)],[(1,[iI (aa (v24+1))]),(2,[.fno 51 [.ptr 1 0,.ptr 2 0,.ptr 3 0]]),(3,[.ref 9])],[(9,⟨93,5,lm az v25⟩)],[1,2,3,9,1000001,1,1000002,2,1000003,3]⟩ ?_ (by subst h31;kernel_rfl);obtain⟨h32,h⟩|⟨h32,h⟩:=ak h
    ·refine ai 36 h32 (ba 2 1 (am 5 ?_));obtain⟨h33,h⟩:=aU h;exact aF (cT 43 9 93 5 az (rfl) (di) h33) (ac (ah 0 (mR hK hL1 h)))
    ·refine ai 36 h32 ?_;obtain⟨v30,h34,h⟩:=co h;refine bC (ks':=eQ 419807 :: .b 2 :: .b 1::eQ 103::ir M w0 r m1) 3 ⟨[(0,.sl (lm aW v1)),(1,.ptr 1 0),(2,.ptr 2 0),(3,.ptr 3 0),(6,.cptr (aZ (gD v1 v23))),(10,iI (v1.length:Int)),(11,iI v23),(27,iI ((gD v1 v23).Kind)),(44,.bool v30)],[(1,[iI (aa (v24+1))]),(2,[.fno 51 [.ptr 1 0,.ptr 2 0,.ptr 3 0]]),(3,[.ref 9])],[(9,⟨93,5,lm az v25⟩)],[1,2,3,9,1000001,1,1000002,2,1000003,3]⟩ ?_ (by subst h34;kernel_rfl);obtain⟨h35,h⟩|⟨h35,h⟩:=ak h
     ·refine ai 44 h35 (ba 2 1 (am 5 ?_));obtain⟨h36,h⟩:=aU h;exact aF (cT 51 9 93 5 az (rfl) (di) h36) (ac (ah 0 (mR hK hL1 h)))
     ·refine ai 44 h35 ?_;obtain⟨v31,h37,h⟩:=co h;refine bC (ks':=eQ 1679231 :: .b 2 :: .b 1::eQ 103::ir M w0 r m1) 3 ⟨[(0,.sl (lm aW v1)),(1,.ptr 1 0),(2,.ptr 2 0),(3,.ptr 3 0),(6,.cptr (aZ (gD v1 v23))),(10,iI (v1.length:Int)),(11,iI v23),(52,.bool v31)],[(1,[iI (aa (v24+1))]),(2,[.fno 51 [.ptr 1 0,.ptr 2 0,.ptr 3 0]]),(3,[.ref 9])],[(9,⟨93,5,lm az v25⟩)],[1,2,3,9,1000001,1,1000002,2,1000003,3]⟩ ?_ (by subst h37;kernel_rfl);obtain⟨h38,h⟩|⟨h38,h⟩:=ak h
      ·exact ai 52 h38 (aA 4 5 2 (am 4 (tF 320058 (b:=((gD v1 v23).Text)) fun v32 hv32=>(ac (ah 1 (cH (p:=pn 13433850) n (EX hK (v32:=v32) hv32 hL1 n h)))))))
      ·exact ai 52 h38 (ah 2 (mR hK hL1 h))
 ·refine ai 12 h24 (cC (ks':=[]) 5 (Gc ?_));cases h;exact uI
theorem IS(hK:aq K)(m:Nat):lO M w0 r v1 m (iY K n v1 m):=by
 induction m with
 | zero=>intro v23 v24 v25 h;cases h
 | succ m ih=>intro v23 v24 v25 h;have h:l7 K n v1 (iY K n v1 m) v23 v24 v25=some r:=h;exact bt (FH hK ih h)
theorem BJ(hK:aq K)(h:gP K n v1 v2 v3=some r):gG Tryd.prog 51 [.sl (lm aW v1),.ptr 1 0,.ptr 2 0,.ptr 3 0] [(1,[iI v2]),(2,[.fno 51 [.ptr 1 0,.ptr 2 0,.ptr 3 0]]),(3,[.ref 9])] 9 ⟨93,5,lm az v3⟩ [9,1,2,3,1000001,1000002,1000003] (fun v s=>v=.tup []∧dZ s.o [(1,[iI r.1]),(2,[.fno 51 [.ptr 1 0,.ptr 2 0,.ptr 3 0]]),(3,[.ref 9])]∧look 9 s.r=some ⟨93,5,lm az r.2⟩):=by
 refine nW (c:=cat Tryd.f51 (pn 1)) Tryd.func51 (by kernel_rfl) _ Tryd.ntmps51 (of_decide_eq_true (by kernel_rfl)) fun M w0=>(bi ⟨[(0,.sl (lm aW v1)),(1,.ptr 1 0),(2,.ptr 2 0),(3,.ptr 3 0)],[(1,[iI v2]),(2,[.fno 51 [.ptr 1 0,.ptr 2 0,.ptr 3 0]]),(3,[.ref 9])],[(9,⟨93,5,lm az v3⟩)],[9,1,2,3,1000001,1000002,1000003]⟩ ?_);unfold gP at h;exact aA 2 3 1 (am 1 (aF (bE aW v1) (ac (ah 1 (cH (p:=pn 6) n (IS hK n h))))))
end
noncomputable section
variable(M:Nat→Prop)(w0:aC)(r:List ao)(v1:List au)  
variable{M w0 r v1}{K:Kn}{n:Nat}
theorem C8(hK:aq K)(h:mD K n v1=some r):aS Tryd.prog 40 [.sl (lm aW v1)] (fun v s=>v=.ref 400003∧look 400003 s.r=some ⟨93,5,lm az r⟩):=by
 refine bl (cat Tryd.f40 (pn 1)) Tryd.func40 Tryd.ntmps40 fun M w0=>(bi ⟨[(0,.sl (lm aW v1))],[],[],[]⟩ ?_);unfold mD at h;refine aA 62 63 9 (am 0 (K2 51 #[(.tmp 4),(.tmp 5),(.tmp 3)] [.ptr 4 0,.ptr 5 0,.ptr 3 0] (ac (aA 2 3 1 (am 2 (EK 400003 3 0 93 5 ?_))))));obtain⟨v2,h1,h⟩:=bind_some h;refine iT 400003 9 [(4,1),(5,2),(3,3)] (BJ hK h1) (ac (aJ 3 ?_));cases h;exact fl
end
noncomputable section
variable(M:Nat→Prop)(w0:aC)(r:Bool)(v1:ao)(v2:Bool)  
abbrev CU(n:Nat):av:=.c (cat Tryd.f54 (pn n))
abbrev Ja:Cx:=⟨Tryd.prog,24,M,w0⟩
abbrev H4:=bodyPost Tryd.prog Tryd.f54 (bu M w0 (fun v _=>v=.bool r))
abbrev FP(ks:List av)(s:AS):=VE (Ja M w0) (H4 M w0 r) ks .normal s
def GQ:AS:=⟨[(2,.bool v2)],[],[],[]⟩
variable{M w0 r v1 v2}{K:Kn}{n:Nat}
theorem vV(hK:aq K)(h:lL K n v2=some r):FP M w0 r [CU 7] (GQ v2):=by
 unfold lL at h;refine aJ 1 ?_;cases h;exact bc
theorem mX(hK:aq K)(h:g9 K n v1=some r):aS Tryd.prog 54 [.agg (az v1)] (fun v _=>v=.bool r):=by
 refine bl (cat Tryd.f54 (pn 1)) Tryd.func54 Tryd.ntmps54 fun M w0=>(bi ⟨[(0,.agg (az v1))],[],[],[]⟩ ?_);unfold g9 at h;refine aA 6 7 3 (am 4 ?_);obtain⟨h1,h⟩|⟨h1,h⟩:=ak h
 ·refine ay 6 h1 (aN 13 9 ?_);obtain⟨h2,h⟩|⟨h2,h⟩:=ak h
  ·exact ay 15 h2 (ac (ah 0 (vV hK h)))
  ·exact ay 15 h2 (ac (ah 0 (vV hK h)))
 ·exact ay 6 h1 (ac (ah 0 (vV hK h)))
end
noncomputable section
variable(M:Nat→Prop)(w0:aC)(r v1:Int)(v2 v3 v4 v5 v6:Bool)  
abbrev eg(n:Nat):av:=.c (cat Tryd.f70 (pn n))
abbrev JM:Cx:=⟨Tryd.prog,73,M,w0⟩
abbrev El:=bodyPost Tryd.prog Tryd.f70 (bu M w0 (fun v _=>v=iI r))
abbrev nn(ks:List av)(s:AS):=VE (JM M w0) (El M w0 r) ks .normal s
def Dx:AS:=⟨[(72,.bool v6)],[],[],[]⟩
def Kf:AS:=⟨[(0,.int .i32 v1),(60,.bool v5)],[],[],[]⟩
def Ko:AS:=⟨[(0,.int .i32 v1),(29,.int .i32 v1),(44,.bool v4)],[],[],[]⟩
def FK:AS:=⟨[(0,.int .i32 v1),(29,.int .i32 v1),(30,.bool v3)],[],[],[]⟩
def H3:AS:=⟨[(0,.int .i32 v1),(3,.bool v2)],[],[],[]⟩
variable{M w0 r v1 v2 v3 v4 v5 v6}{K:Kn}{n:Nat}
theorem yj(hK:aq K)(h:lG K n v6=some r):nn M w0 r [eg 61,eg 31] (Dx v6):=by
 unfold lG at h;obtain⟨h44,h⟩|⟨h44,h⟩:=ak h
 ·refine ai 72 h44 (aJ 5 ?_);cases h;exact bc
 ·refine ai 72 h44 (aJ 5 ?_);cases h;exact bc
theorem j9(hK:aq K)(h:gn K n v1 v5=some r):nn M w0 r [eg 1887,.b 1,eg 15] (Kf v1 v5):=by
 unfold gn at h;obtain⟨h42,h⟩|⟨h42,h⟩:=ak h
 ·refine ai 60 h42 (aJ 6 ?_);cases h;exact bc
 ·refine ai 60 h42 (cC (ks':=[eg 60,eg 61,eg 31]) 5 (am 3 ?_));obtain⟨h43,h⟩|⟨h43,h⟩:=ak h
  ·exact ay 69 h43 (ac (ah 0 (yj hK h)))
  ·exact ay 69 h43 (ac (ah 0 (yj hK h)))
theorem eF(hK:aq K)(h:dL K n v1 v4=some r):nn M w0 r [eg 471,.b 1,eg 15] (Ko v1 v4):=by
 unfold dL at h;obtain⟨h36,h⟩|⟨h36,h⟩:=ak h
 ·refine ai 44 h36 (aJ 6 ?_);cases h;exact bc
 ·refine ai 44 h36 (aA 13 7 4 ?_);obtain⟨h37,h⟩|⟨h37,h⟩:=ak h
  ·exact ai 60 h37 (ah 2 (j9 hK h))
  ·refine ai 60 h37 (ba 7 3 ?_);obtain⟨h38,h⟩|⟨h38,h⟩:=ak h
   ·exact ai 60 h38 (ah 2 (j9 hK h))
   ·refine ai 60 h38 (ba 7 3 ?_);obtain⟨h39,h⟩|⟨h39,h⟩:=ak h
    ·exact ai 60 h39 (ah 2 (j9 hK h))
    ·refine ai 60 h39 (ba 7 3 ?_);obtain⟨h40,h⟩|⟨h40,h⟩:=ak h
     ·exact ai 60 h40 (ah 2 (j9 hK h))
     ·refine ai 60 h40 (ba 7 3 ?_);obtain⟨h41,h⟩|⟨h41,h⟩:=ak h
      ·exact ai 60 h41 (ah 2 (j9 hK h))
      ·exact ai 60 h41 (ah 2 (j9 hK h))
theorem fe(hK:aq K)(h:dW K n v1 v3=some r):nn M w0 r [eg 117,.b 1,eg 15] (FK v1 v3):=by
 unfold dW at h;obtain⟨h21,h⟩|⟨h21,h⟩:=ak h
 ·refine ai 30 h21 (aJ 6 ?_);cases h;exact bc
 ·refine ai 30 h21 (aA 13 7 4 ?_);obtain⟨h22,h⟩|⟨h22,h⟩:=ak h
  ·exact ai 44 h22 (ah 2 (eF hK h))
  ·refine ai 44 h22 (ba 7 3 ?_);obtain⟨h23,h⟩|⟨h23,h⟩:=ak h
   ·exact ai 44 h23 (ah 2 (eF hK h))
   ·refine ai 44 h23 (ba 7 3 ?_);obtain⟨h24,h⟩|⟨h24,h⟩:=ak h
    ·exact ai 44 h24 (ah 2 (eF hK h))
    ·refine ai 44 h24 (ba 7 3 ?_);obtain⟨h25,h⟩|⟨h25,h⟩:=ak h
     ·exact ai 44 h25 (ah 2 (eF hK h))
     ·refine ai 44 h25 (ba 7 3 ?_);obtain⟨h26,h⟩|⟨h26,h⟩:=ak h
      ·exact ai 44 h26 (ah 2 (eF hK h))
      ·refine ai 44 h26 (ba 7 3 ?_);obtain⟨h27,h⟩|⟨h27,h⟩:=ak h
       ·exact ai 44 h27 (ah 2 (eF hK h))
       ·refine ai 44 h27 (ba 7 3 ?_);obtain⟨h28,h⟩|⟨h28,h⟩:=ak h
        ·exact ai 44 h28 (ah 2 (eF hK h))
        ·refine ai 44 h28 (ba 7 3 ?_);obtain⟨h29,h⟩|⟨h29,h⟩:=ak h
         ·exact ai 44 h29 (ah 2 (eF hK h))
         ·refine ai 44 h29 (ba 7 3 ?_);obtain⟨h30,h⟩|⟨h30,h⟩:=ak h
          ·exact ai 44 h30 (ah 2 (eF hK h))
          ·refine ai 44 h30 (ba 7 3 ?_);obtain⟨h31,h⟩|⟨h31,h⟩:=ak h
           ·exact ai 44 h31 (ah 2 (eF hK h))
           ·refine ai 44 h31 (ba 7 3 ?_);obtain⟨h32,h⟩|⟨h32,h⟩:=ak h
            ·exact ai 44 h32 (ah 2 (eF hK h))
            ·refine ai 44 h32 (ba 7 3 ?_);obtain⟨h33,h⟩|⟨h33,h⟩:=ak h
             ·exact ai 44 h33 (ah 2 (eF hK h))
             ·refine ai 44 h33 (ba 7 3 ?_);obtain⟨h34,h⟩|⟨h34,h⟩:=ak h
              ·exact ai 44 h34 (ah 2 (eF hK h))
              ·refine ai 44 h34 (ba 7 3 ?_);obtain⟨h35,h⟩|⟨h35,h⟩:=ak h
               ·exact ai 44 h35 (ah 2 (eF hK h))
               ·exact ai 44 h35 (ah 2 (eF hK h))
theorem jq(hK:aq K)(h:fx K n v1 v2=some r):nn M w0 r [eg 25,.b 0,eg 7] (H3 v1 v2):=by
 unfold fx at h;obtain⟨h7,h⟩|⟨h7,h⟩:=ak h
 ·refine ai 3 h7 (aJ 6 ?_);cases h;exact bc
 ·refine ai 3 h7 (ba 7 3 ?_);obtain⟨h8,h⟩|⟨h8,h⟩:=ak h
  ·refine ai 26 h8 (aJ 6 ?_);cases h;exact bc
  ·refine ai 26 h8 (cC (ks':=[eg 233,eg 117,.b 1,eg 15]) 10 ?_);obtain⟨h9,h⟩|⟨h9,h⟩:=ak h
   ·exact ai 30 h9 (ah 2 (fe hK h))
   ·refine ai 30 h9 (ba 7 3 ?_);obtain⟨h10,h⟩|⟨h10,h⟩:=ak h
    ·exact ai 30 h10 (ah 2 (fe hK h))
    ·refine ai 30 h10 (ba 7 3 ?_);obtain⟨h11,h⟩|⟨h11,h⟩:=ak h
     ·exact ai 30 h11 (ah 2 (fe hK h))
     ·refine ai 30 h11 (ba 7 3 ?_);obtain⟨h12,h⟩|⟨h12,h⟩:=ak h
      ·exact ai 30 h12 (ah 2 (fe hK h))
      ·refine ai 30 h12 (ba 7 3 ?_);obtain⟨h13,h⟩|⟨h13,h⟩:=ak h
       ·exact ai 30 h13 (ah 2 (fe hK h))
       ·refine ai 30 h13 (ba 7 3 ?_);obtain⟨h14,h⟩|⟨h14,h⟩:=ak h
        ·exact ai 30 h14 (ah 2 (fe hK h))
        ·refine ai 30 h14 (ba 7 3 ?_);obtain⟨h15,h⟩|⟨h15,h⟩:=ak h
         ·exact ai 30 h15 (ah 2 (fe hK h))
         ·refine ai 30 h15 (ba 7 3 ?_);obtain⟨h16,h⟩|⟨h16,h⟩:=ak h
          ·exact ai 30 h16 (ah 2 (fe hK h))
          ·refine ai 30 h16 (ba 7 3 ?_);obtain⟨h17,h⟩|⟨h17,h⟩:=ak h
           ·exact ai 30 h17 (ah 2 (fe hK h))
           ·refine ai 30 h17 (ba 7 3 ?_);obtain⟨h18,h⟩|⟨h18,h⟩:=ak h
            ·exact ai 30 h18 (ah 2 (fe hK h))
            ·refine ai 30 h18 (ba 7 3 ?_);obtain⟨h19,h⟩|⟨h19,h⟩:=ak h
             ·exact ai 30 h19 (ah 2 (fe hK h))
             ·refine ai 30 h19 (ba 7 3 ?_);obtain⟨h20,h⟩|⟨h20,h⟩:=ak h
              ·exact ai 30 h20 (ah 2 (fe hK h))
              ·exact ai 30 h20 (ah 2 (fe hK h))
theorem A7(hK:aq K)(h:fv K n v1=some r):aS Tryd.prog 70 [.int .i32 v1] (fun v _=>v=iI r):=by
 refine bl (cat Tryd.f70 (pn 1)) Tryd.func70 Tryd.ntmps70 fun M w0=>(bi ⟨[(0,.int .i32 v1)],[],[],[]⟩ ?_);unfold fv at h;refine du 24 25 0 7 5 (am 3 ?_);obtain⟨h1,h⟩|⟨h1,h⟩:=ak h
 ·exact ay 6 h1 (ac (ah 0 (jq hK h)))
 ·refine ay 6 h1 (aN 7 4 ?_);obtain⟨h2,h⟩|⟨h2,h⟩:=ak h
  ·exact ay 10 h2 (ac (ah 0 (jq hK h)))
  ·refine ay 10 h2 (aN 10 3 ?_);obtain⟨h3,h⟩|⟨h3,h⟩:=ak h
   ·refine ay 13 h3 (aN 15 5 ?_);obtain⟨h4,h⟩|⟨h4,h⟩:=ak h
    ·exact ay 18 h4 (ac (ah 0 (jq hK h)))
    ·refine ay 18 h4 (aN 18 3 ?_);obtain⟨h5,h⟩|⟨h5,h⟩:=ak h
     ·exact ay 21 h5 (ac (ah 0 (jq hK h)))
     ·exact ay 21 h5 (ac (ah 0 (jq hK h)))
   ·refine ay 13 h3 (aN 18 8 ?_);obtain⟨h6,h⟩|⟨h6,h⟩:=ak h
    ·exact ay 21 h6 (ac (ah 0 (jq hK h)))
    ·exact ay 21 h6 (ac (ah 0 (jq hK h)))
end
noncomputable section
variable(M:Nat→Prop)(w0:aC)(r:Bool)(v1:Int)(v2:Bool)  
abbrev yn(n:Nat):av:=.c (cat Tryd.f72 (pn n))
abbrev KF:Cx:=⟨Tryd.prog,9,M,w0⟩
abbrev J4:=bodyPost Tryd.prog Tryd.f72 (bu M w0 (fun v _=>v=.bool r))
abbrev Dw(ks:List av)(s:AS):=VE (KF M w0) (J4 M w0 r) ks .normal s
def DJ:AS:=⟨[(4,.bool v2)],[],[],[]⟩
variable{M w0 r v1 v2}{K:Kn}{n:Nat}
theorem rd(hK:aq K)(h:jr K n v2=some r):Dw M w0 r [yn 53,.b 0,yn 7] (DJ v2):=by
 unfold jr at h;obtain⟨h4,h⟩|⟨h4,h⟩:=ak h
 ·refine ai 4 h4 (aJ 6 ?_);cases h;exact bc
 ·refine ai 4 h4 (aJ 6 ?_);cases h;exact bc
theorem wM(hK:aq K)(h:lc K n v1=some r):aS Tryd.prog 72 [.int .i32 v1] (fun v _=>v=.bool r):=by
 refine bl (cat Tryd.f72 (pn 1)) Tryd.func72 Tryd.ntmps72 fun M w0=>(bi ⟨[(0,.int .i32 v1)],[],[],[]⟩ ?_);unfold lc at h;refine du 105 53 0 7 9 ?_;obtain⟨h1,h⟩|⟨h1,h⟩:=ak h
 ·exact ai 4 h1 (ah 2 (rd hK h))
 ·refine ai 4 h1 (ba 7 3 ?_);obtain⟨h2,h⟩|⟨h2,h⟩:=ak h
  ·exact ai 4 h2 (ah 2 (rd hK h))
  ·refine ai 4 h2 (ba 7 3 ?_);obtain⟨h3,h⟩|⟨h3,h⟩:=ak h
   ·exact ai 4 h3 (ah 2 (rd hK h))
   ·exact ai 4 h3 (ah 2 (rd hK h))
end
noncomputable section
variable(M:Nat→Prop)(w0:aC)(r:Bool)(v1 v2:Int)(v5 v7 v8:Bool)  
abbrev je(n:Nat):av:=.c (cat Tryd.f67 (pn n))
abbrev KB:Cx:=⟨Tryd.prog,29,M,w0⟩
abbrev Ju:=bodyPost Tryd.prog Tryd.f67 (bu M w0 (fun v _=>v=.bool r))
abbrev wz(ks:List av)(s:AS):=VE (KB M w0) (Ju M w0 r) ks .normal s
def DM:AS:=⟨[(4,.bool v8)],[],[],[]⟩
def Hd:AS:=⟨[(0,.int .i32 v1),(1,.int .i32 v2),(16,.bool v7)],[],[],[]⟩
def Ex:AS:=⟨[(0,.int .i32 v1),(1,.int .i32 v2),(5,.bool v5)],[],[],[]⟩
variable{M w0 r v1 v2 v5 v7 v8}{K:Kn}{n:Nat}
theorem xo(hK:aq K)(h:mb K n v8=some r):wz M w0 r [je 15] (DM v8):=by
 unfold mb at h;refine aJ 1 ?_;cases h;exact bc
theorem Ax(hK:aq K)(h:n9 K n v1 v2 v7=some r):wz M w0 r [je 415,.b 0,je 7] (Hd v1 v2 v7):=by
 unfold n9 at h;obtain⟨h8,h⟩|⟨h8,h⟩:=ak h
 ·refine ai 16 h8 (aJ 6 ?_);cases h;exact bc
 ·refine ai 16 h8 (cC (ks':=[je 14,je 15]) 4 (am 3 ?_));obtain⟨h9,h⟩|⟨h9,h⟩:=ak h
  ·exact ay 25 h9 (ac (ah 0 (xo hK h)))
  ·exact ay 25 h9 (ac (ah 0 (xo hK h)))
theorem xE(hK:aq K)(h:iZ K n v1 v2 v5=some r):wz M w0 r [je 25,.b 0,je 7] (Ex v1 v2 v5):=by
 unfold iZ at h;obtain⟨h4,h⟩|⟨h4,h⟩:=ak h
 ·refine ai 5 h4 (aJ 6 ?_);cases h;exact bc
 ·refine ai 5 h4 (aA 6 7 2 (am 1 ?_));obtain⟨v6,h5,h⟩:=bind_some h;refine aO (wM hK h5) (ac ?_);obtain⟨h6,h⟩|⟨h6,h⟩:=ak h
  ·refine ai 13 h6 (aJ 6 ?_);cases h;exact bc
  ·refine ai 13 h6 (aA 6 7 2 (am 3 ?_));obtain⟨h7,h⟩|⟨h7,h⟩:=ak h
   ·exact ay 19 h7 (ac (ah 0 (Ax hK h)))
   ·exact ay 19 h7 (ac (ah 0 (Ax hK h)))
theorem K6(hK:aq K)(h:n0 K n v1 v2=some r):aS Tryd.prog 67 [.int .i32 v1,.int .i32 v2] (fun v _=>v=.bool r):=by
 refine bl (cat Tryd.f67 (pn 1)) Tryd.func67 Tryd.ntmps67 fun M w0=>(bi ⟨[(0,.int .i32 v1),(1,.int .i32 v2)],[],[],[]⟩ ?_);unfold n0 at h;refine du 24 25 0 7 5 (am 1 ?_);obtain⟨v3,h1,h⟩:=bind_some h;refine aO (wM hK h1) (aN 3 1 ?_);obtain⟨h2,h⟩|⟨h2,h⟩:=ak h
 ·exact ay 8 h2 (ac (ah 0 (xE hK h)))
 ·refine ay 8 h2 (aN 4 1 ?_);obtain⟨v4,h3,h⟩:=bind_some h;exact aO (A7 hK h3) (ac (ah 0 (xE hK h)))
end
noncomputable section
variable(M:Nat→Prop)(w0:aC)(r:List Int)(v1:ByteArray)(v2:Nat)(v9:Int)(v10:Nat)(v11:List Int)(v13:Bool)(v14:List Int)(m1:Nat)(L1:Int→Nat→(List Int)→Option (List Int))
abbrev vY:Cx:=⟨Tryd.prog,26,M,w0⟩
abbrev sX:=bodyPost Tryd.prog Tryd.f55 (bu M w0 (fun v s=>v=.ref 23∧look 23 s.r=some ⟨3,1,lm (bp .i64) r⟩))
abbrev uq(ks:List av)(s:AS):=VE (vY M w0) (sX M w0 r) ks .normal s
abbrev iQ(n:Nat):av:=.c (cat Tryd.f55 (pn n))
abbrev vm:List av:=[.b 0,iQ 31]
abbrev qk:List av:=kl (vY M w0) (sX M w0 r) vm (cat Tryd.f55 (pn 244)) m1::vm
def H7:AS:=⟨[(3,.ref 23),(6,.int .i32 ((Utf8.decode v1 v10).1:Int)),(8,.sit 320008 v2 v1 (v10+(Utf8.decode v1 v10).2))],[],[(23,⟨3,1,lm (bp .i64) v14⟩)],[23,320008]⟩
def KK:AS:=⟨[(3,.ref 23),(5,iI ((v10:Nat):Int)),(6,.int .i32 ((Utf8.decode v1 v10).1:Int)),(8,.sit 320008 v2 v1 (v10+(Utf8.decode v1 v10).2)),(19,.bool v13)],[],[(23,⟨3,1,lm (bp .i64) v11⟩)],[23,320008]⟩
def yf:AS:=⟨[(3,.ref 23),(4,.int .i32 v9),(8,.sit 320008 v2 v1 v10)],[],[(23,⟨3,1,lm (bp .i64) v11⟩)],[23,320008]⟩
abbrev qQ:Prop:=∀{v9:Int} {v10:Nat} {v11:(List Int)},L1 v9 v10 v11=some r→LP (vY M w0) (sX M w0 r) vm (cat Tryd.f55 (pn 244)) m1 (yf v1 v2 v9 v10 v11)
variable{M w0 r v1 v2 v9 v10 v11 v13 v14 m1 L1}{K:Kn}{n:Nat}
theorem xk(hK:aq K)(hv2:w0.w.heap.size≤v2)(hL1:qQ M w0 r v1 v2 m1 L1)(h:i8 K n v1 v10 L1 v14=some r):uq M w0 r (iQ 7835 :: .b 1::qk M w0 r m1) (H7 v1 v2 v10 v14):=by
 unfold i8 at h;exact ah 2 (bB (hL1 h))
theorem BB(hK:aq K)(hv2:w0.w.heap.size≤v2)(hL1:qQ M w0 r v1 v2 m1 L1)(h:jj K n v1 v10 v11 L1 v13=some r):uq M w0 r (iQ 15669::iQ 7835 :: .b 1::qk M w0 r m1) (KK v1 v2 v10 v11 v13):=by
 unfold jj at h;obtain⟨h14,h⟩|⟨h14,h⟩:=ak h
 ·refine ai 19 h14 (ba 2 1 (am 3 ?_));obtain⟨h15,h⟩:=aU h;exact aF (cT 23 23 3 1 (bp .i64) (rfl) ((fun _=>rfl)) h15) (ac (ah 0 (xk hK (v2:=v2) hv2 hL1 h)))
 ·exact ai 19 h14 (ah 2 (xk hK (v2:=v2) hv2 hL1 h))
theorem Jf(hK:aq K)(hv2:w0.w.heap.size≤v2)(hL1:qQ M w0 r v1 v2 m1 L1)(h:fX K n v1 L1 v9 v10 v11=some r):uq M w0 r (iQ 244::qk M w0 r m1) (yf v1 v2 v9 v10 v11):=by
 unfold fX at h;refine aA 2 3 1 (am 0 ?_);obtain⟨h11,h⟩|⟨h11,h⟩:=ak h
 ·refine wn 8 (id:=320008) (g:=v2) h11 hv2 (ac (cC (ks':=iQ 15668::iQ 15669::iQ 7835 :: .b 1::qk M w0 r m1) 8 (am 3 ?_)));obtain⟨h12,h⟩|⟨h12,h⟩:=ak h
  ·refine ay 15 h12 (aN 5 2 ?_);obtain⟨v12,h13,h⟩:=bind_some h;exact aO (K6 hK h13) (ac (ah 0 (BB hK (v2:=v2) hv2 hL1 h)))
  ·exact ay 15 h12 (ac (ah 0 (BB hK (v2:=v2) hv2 hL1 h)))
 ·refine uo 8 (id:=320008) (g:=v2) h11 (ac (aJ 9 ?_));cases h;exact fl
theorem GX(hK:aq K)(hv2:w0.w.heap.size≤v2)(m:Nat):qQ M w0 r v1 v2 m (iR K n v1 m):=by
 induction m with
 | zero=>intro v9 v10 v11 h;cases h
 | succ m ih=>intro v9 v10 v11 h;have h:fX K n v1 (iR K n v1 m) v9 v10 v11=some r:=h;exact bt (Jf hK hv2 ih h)
theorem JQ(hK:aq K)(h:nH K n v1=some r):aS Tryd.prog 55 [.str v1] (fun v s=>v=.ref 23∧look 23 s.r=some ⟨3,1,lm (bp .i64) r⟩):=by
 refine bl (cat Tryd.f55 (pn 1)) Tryd.func55 Tryd.ntmps55 fun M w0=>(bi ⟨[(0,.str v1)],[],[],[]⟩ ?_);unfold nH at h;exact cj 60 61 31 8 (am 1 (tF 320008 (b:=v1) fun v2 hv2=>(ac (gV 2 0 1 (bU [3,4,8] [] [] (gA 23 3 3 1 (ah 0 (cH (p:=pn 122) n (GX hK (v2:=v2) hv2 n h)))))))))
end
noncomputable section
variable(M:Nat→Prop)(w0:aC)(r:Bool)(v1 v2:ao)(v3 v7 v10:Bool)  
abbrev lW(n:Nat):av:=.c (cat Tryd.f41 (pn n))
abbrev DK:Cx:=⟨Tryd.prog,61,M,w0⟩
abbrev JI:=bodyPost Tryd.prog Tryd.f41 (bu M w0 (fun v _=>v=.bool r))
abbrev uZ(ks:List av)(s:AS):=VE (DK M w0) (JI M w0 r) ks .normal s
def C2:AS:=⟨[(4,.bool v7)],[],[],[]⟩
def KP:AS:=⟨[(2,.ptr 2 0),(3,.ptr 3 0),(51,.bool v10)],[(2,az v1),(3,az v2)],[],[2,3]⟩
def F0:AS:=⟨[(2,.ptr 2 0),(3,.ptr 3 0),(12,.bool v3)],[(2,az v1),(3,az v2)],[],[2,3]⟩
variable{M w0 r v1 v2 v3 v7 v10}{K:Kn}{n:Nat}
theorem m8(hK:aq K)(h:il K n v7=some r):uZ M w0 r [lW 53,lW 7] (C2 v7):=by
 unfold il at h;refine aJ 2 ?_;cases h;exact bc
theorem nK(hK:aq K)(h:fS K n v1 v2 v10=some r):uZ M w0 r [lW 29,lW 15] (KP v1 v2 v10):=by
 unfold fS at h;obtain⟨h16,h⟩|⟨h16,h⟩:=ak h
 ·refine ai 51 h16 (aJ 5 ?_);cases h;exact bc
 ·refine ai 51 h16 (gm 2 3 3 (am 6 ?_));obtain⟨v11,h17,h⟩:=bind_some h;refine gS 1058 (JQ hK h17) (iG 23) (aF (bE (bp .i64) v11) (ac (aJ 1 ?_)));cases h;exact bc
theorem BS(hK:aq K)(h:ij K n v1 v2 v3=some r):uZ M w0 r [lW 13,lW 7] (F0 v1 v2 v3):=by
 unfold ij at h;obtain⟨h2,h⟩|⟨h2,h⟩:=ak h
 ·refine ai 12 h2 (aA 4 5 2 (am 4 ?_));obtain⟨h3,h⟩|⟨h3,h⟩:=ak h
  ·refine ay 16 h3 (aN 12 8 ?_);obtain⟨h4,h⟩|⟨h4,h⟩:=ak h
   ·exact ay 24 h4 (ac (ah 0 (m8 hK h)))
   ·refine ay 24 h4 (aN 13 1 ?_);obtain⟨v4,h5,h⟩:=bind_some h;exact aO (mX hK h5) (ac (ah 0 (m8 hK h)))
  ·refine ay 16 h3 (aN 5 1 ?_);obtain⟨v5,h6,h⟩:=bind_some h;refine aO (mX hK h6) (aN 8 2 ?_);obtain⟨h7,h⟩|⟨h7,h⟩:=ak h
   ·refine ay 20 h7 (aN 12 4 ?_);obtain⟨h8,h⟩|⟨h8,h⟩:=ak h
    ·exact ay 24 h8 (ac (ah 0 (m8 hK h)))
    ·refine ay 24 h8 (aN 13 1 ?_);obtain⟨v6,h9,h⟩:=bind_some h;exact aO (mX hK h9) (ac (ah 0 (m8 hK h)))
   ·exact ay 20 h7 (ac (ah 0 (m8 hK h)))
 ·refine ai 12 h2 (mc 4 5 3 4 (am 4 ?_));obtain⟨h10,h⟩|⟨h10,h⟩:=ak h
  ·exact ay 32 h10 (ac (ah 0 (nK hK h)))
  ·refine ay 32 h10 (aN 9 5 ?_);obtain⟨h11,h⟩|⟨h11,h⟩:=ak h
   ·exact ay 37 h11 (ac (ah 0 (nK hK h)))
   ·refine ay 37 h11 (aN 10 1 ?_);obtain⟨v8,h12,h⟩:=bind_some h;refine aO (mX hK h12) (aN 14 3 ?_);obtain⟨h13,h⟩|⟨h13,h⟩:=ak h
    ·exact ay 42 h13 (ac (ah 0 (nK hK h)))
    ·refine ay 42 h13 (aN 18 4 ?_);obtain⟨h14,h⟩|⟨h14,h⟩:=ak h
     ·refine ay 46 h14 (aN 19 1 ?_);obtain⟨v9,h15,h⟩:=bind_some h;exact aO (mX hK h15) (ac (ah 0 (nK hK h)))
     ·exact ay 46 h14 (ac (ah 0 (nK hK h)))
theorem yF(hK:aq K)(h:li K n v1 v2=some r):aS Tryd.prog 41 [.agg (az v1),.agg (az v2)] (fun v _=>v=.bool r):=by
 refine bl (cat Tryd.f41 (pn 1)) Tryd.func41 Tryd.ntmps41 fun M w0=>(bi ⟨[(0,.agg (az v1)),(1,.agg (az v2))],[],[],[]⟩ ?_);unfold li at h;refine cj 12 13 7 4 (am 4 ?_);obtain⟨h1,h⟩|⟨h1,h⟩:=ak h
 ·exact ay 8 h1 (ac (ah 0 (BS hK h)))
 ·exact ay 8 h1 (ac (ah 0 (BS hK h)))
end
noncomputable section
variable(M:Nat→Prop)(w0:aC)(r v1:Int)  
variable{M w0 r v1}{K:Kn}{n:Nat}
theorem sd(hK:aq K)(h:jQ K n v1=some r):aS Tryd.prog 39 [iI v1] (fun v _=>v=iI r):=by
 refine bl (cat Tryd.f39 (pn 1)) Tryd.func39 Tryd.ntmps39 fun M w0=>(bi ⟨[(0,iI v1)],[],[],[]⟩ ?_);unfold jQ at h;refine aJ 5 ?_;cases h;exact bc
end
noncomputable section
variable(M:Nat→Prop)(w0:aC)(r v1:Int)  
variable{M w0 r v1}{K:Kn}{n:Nat}
theorem BC(hK:aq K)(h:ov K n v1=some r):aS Tryd.prog 21 [iI v1] (fun v _=>v=iI r):=by
 refine bl (cat Tryd.f21 (pn 1)) Tryd.func21 Tryd.ntmps21 fun M w0=>(bi ⟨[(0,iI v1)],[],[],[]⟩ ?_);unfold ov at h;refine aA 6 7 3 (am 1 ?_);obtain⟨v2,h1,h⟩:=bind_some h;refine aO (sd hK h1) (ac (aJ 1 ?_));cases h;exact bc
end
noncomputable section
variable(M:Nat→Prop)(w0:aC)(r v1:Int)  
variable{M w0 r v1}{K:Kn}{n:Nat}
theorem Cc(hK:aq K)(h:ml K n v1=some r):aS Tryd.prog 22 [iI v1] (fun v _=>v=iI r):=by
 refine bl (cat Tryd.f22 (pn 1)) Tryd.func22 Tryd.ntmps22 fun M w0=>(bi ⟨[(0,iI v1)],[],[],[]⟩ ?_);unfold ml at h;refine aA 6 7 3 (am 1 ?_);obtain⟨v2,h1,h⟩:=bind_some h;refine aO (sd hK h1) (aN 3 1 ?_);obtain⟨v3,h2,h⟩:=bind_some h;refine aO (sd hK h2) (ac (aJ 1 ?_));cases h;exact bc
end
noncomputable section
variable(M:Nat→Prop)(w0:aC)(r:Int×Int)(v1:aH)  
variable{M w0 r v1}{K:Kn}{n:Nat}
theorem pL(hK:aq K)(h:gQ K n v1=some r):aS Tryd.prog 11 [.agg (aG v1)] (fun v _=>v=.tup [iI r.1,iI r.2]):=by
 refine bl (cat Tryd.f11 (pn 1)) Tryd.func11 Tryd.ntmps11 fun M w0=>(bi ⟨[(0,.agg (aG v1))],[],[],[]⟩ ?_);unfold gQ at h;refine aA 14 15 5 (bU [1,4] [1] [] ?_);obtain⟨v2,h1,h⟩:=bind_some h;obtain⟨v3,h2,h⟩:=bind_some h;refine bZ 1 (nu 8 [.ptr 1 37,iI v1.FontSize,iI v2,iI (max v1.LineHeight 0),.ptr 1 37,iI v1.FontSize,iI v3,iI (aa ((max v1.LineHeight 0)-v3)),iI ((aa ((max v1.LineHeight 0)-v3)) / 2),iI (aa (v2+((aa ((max v1.LineHeight 0)-v3)) / 2)))]) [] [] [bL Tryd.prog 22 Tryd.f11 (pn 14) 10] (aB (vz 2) (aj (bG 0 1 10 (BC hK h1)) (aB (vz 3) (aj (bG 0 1 14 (Cc hK h2)) (aB (vz 3) (aj (bQ 0) bW)))))) (aJ 3 ?_);cases h;exact fT
end
noncomputable section
variable(M:Nat→Prop)(w0:aC)(r:List Int)(v1:Int)(v2:List Int)(v3 v4:Bool)  
abbrev yU(n:Nat):av:=.c (cat Tryd.f74 (pn n))
abbrev GW:Cx:=⟨Tryd.prog,78,M,w0⟩
abbrev EN:=bodyPost Tryd.prog Tryd.f74 (bu M w0 (fun v s=>v=.ref 9∧dZ s.o []∧look 9 s.r=some ⟨5,1,lm (bp .u8) r⟩))
abbrev Ce(ks:List av)(s:AS):=VE (GW M w0) (EN M w0 r) ks .normal s
def IP:AS:=⟨[(0,.ref 9),(1,.int .i32 v1),(50,.bool v4)],[],[(9,⟨5,1,lm (bp .u8) v2⟩)],[9]⟩
def FQ:AS:=⟨[(0,.ref 9),(1,.int .i32 v1),(5,.int .u32 (IntKind.wrap .u32 v1)),(25,.bool v3)],[],[(9,⟨5,1,lm (bp .u8) v2⟩)],[9]⟩
variable{M w0 r v1 v2 v3 v4}{K:Kn}{n:Nat}
theorem yB(hK:aq K)(h:nT K n v1 v2 v4=some r):Ce M w0 r [yU 479,.b 0] (IP v1 v2 v4):=by
 unfold nT at h;obtain⟨h8,h⟩|⟨h8,h⟩:=ak h
 ·refine ai 50 h8 (aA 4 5 2 (am 20 ?_));obtain⟨h9,h⟩:=aU h;refine aF (cT 77 9 5 1 (bp .u8) (rfl) ((fun _=>rfl)) h9) (ac (aJ 2 ?_));cases h;exact gd
 ·refine ai 50 h8 (aA 6 7 2 (am 2 ?_));obtain⟨h10,h⟩:=aU h;refine aF (cT 10 9 5 1 (bp .u8) (rfl) ((fun _=>rfl)) h10) (ac (aJ 2 ?_));cases h;exact gd
theorem vi(hK:aq K)(h:hJ K n v1 v2 v3=some r):Ce M w0 r [yU 119,.b 0] (FQ v1 v2 v3):=by
 unfold hJ at h;obtain⟨h5,h⟩|⟨h5,h⟩:=ak h
 ·refine ai 25 h5 (aA 4 5 2 (am 15 ?_));obtain⟨h6,h⟩:=aU h;refine aF (cT 49 9 5 1 (bp .u8) (rfl) ((fun _=>rfl)) h6) (ac (aJ 2 ?_));cases h;exact gd
 ·refine ai 25 h5 (aA 6 7 2 (am 3 ?_));obtain⟨h7,h⟩|⟨h7,h⟩:=ak h
  ·exact ay 53 h7 (ac (ah 0 (yB hK h)))
  ·exact ay 53 h7 (ac (ah 0 (yB hK h)))
theorem Fa(hK:aq K)(h:ly K n v1 v2=some r):gG Tryd.prog 74 [.ref 9,.int .i32 v1] [] 9 ⟨5,1,lm (bp .u8) v2⟩ [9] (fun v s=>v=.ref 9∧dZ s.o []∧look 9 s.r=some ⟨5,1,lm (bp .u8) r⟩):=by
 refine nW (c:=cat Tryd.f74 (pn 1)) Tryd.func74 (by kernel_rfl) _ Tryd.ntmps74 (of_decide_eq_true (by kernel_rfl)) fun M w0=>(bi ⟨[(0,.ref 9),(1,.int .i32 v1)],[],[(9,⟨5,1,lm (bp .u8) v2⟩)],[9]⟩ ?_);unfold ly at h;refine gV 29 0 7 ?_;obtain⟨h1,h⟩|⟨h1,h⟩:=ak h
 ·refine ai 11 h1 (aA 4 5 2 (am 10 ?_));obtain⟨h2,h⟩:=aU h;refine aF (cT 24 9 5 1 (bp .u8) (rfl) ((fun _=>rfl)) h2) (ac (aJ 2 ?_));cases h;exact gd
 ·refine ai 11 h1 (aA 13 7 4 ?_);obtain⟨h3,h⟩|⟨h3,h⟩:=ak h
  ·exact ai 25 h3 (ah 2 (vi hK h))
  ·refine ai 25 h3 (ba 3 1 (am 3 ?_));obtain⟨h4,h⟩|⟨h4,h⟩:=ak h
   ·exact ay 30 h4 (ac (ah 0 (vi hK h)))
   ·exact ay 30 h4 (ac (ah 0 (vi hK h)))
end
noncomputable section
variable(M:Nat→Prop)(w0:aC)(r:List Int)(v1:Int)(v2:List Int)  
variable{M w0 r v1 v2}{K:Kn}{n:Nat}
theorem yb(hK:aq K)(h:lD K n v1 v2=some r):gG Tryd.prog 69 [.ref 9,.int .i32 v1] [] 9 ⟨5,1,lm (bp .u8) v2⟩ [9] (fun v s=>v=.ref 9∧dZ s.o []∧look 9 s.r=some ⟨5,1,lm (bp .u8) r⟩):=by
 refine nW (c:=cat Tryd.f69 (pn 1)) Tryd.func69 (by kernel_rfl) _ Tryd.ntmps69 (of_decide_eq_true (by kernel_rfl)) fun M w0=>(bi ⟨[(0,.ref 9),(1,.int .i32 v1)],[],[(9,⟨5,1,lm (bp .u8) v2⟩)],[9]⟩ ?_);unfold lD at h;refine aA 13 7 5 ?_;obtain⟨h1,h⟩|⟨h1,h⟩:=ak h
 ·refine ai 7 h1 (aA 4 5 2 (am 4 ?_));obtain⟨h2,h⟩:=aU h;refine aF (cT 12 9 5 1 (bp .u8) (rfl) ((fun _=>rfl)) h2) (ac (aJ 2 ?_));cases h;exact gd
 ·refine ai 7 h1 (gm 2 3 3 (am 2 ?_));obtain⟨v3,h3,h⟩:=bind_some h;refine iT 9 9 [] (Fa hK h3) (ac (aJ 1 ?_));cases h;exact gd
end
noncomputable section
variable(M:Nat→Prop)(w0:aC)(r:Int×Unit×(List Int))(v1:Int)(v2:Bool)(v3:List Int)  
variable{M w0 r v1 v2 v3}{K:Kn}{n:Nat}
theorem xT(hK:aq K)(h:js K n v1 v2 v3=some r):gG Tryd.prog 56 [.ptr 450109 0,.int .i32 v1] [(450109,[(oo v2 450109),.ref 9])] 9 ⟨5,1,lm (bp .u8) v3⟩ [9,450109,1450109] (fun v s=>v=.tup [iI r.1,.vv .nilIface]∧dZ s.o [(450109,[.ptr 450109 0,.ref 9])]∧look 9 s.r=some ⟨5,1,lm (bp .u8) r.2.2⟩):=by
 refine nW (c:=cat Tryd.f56 (pn 1)) Tryd.func56 (by kernel_rfl) _ Tryd.ntmps56 (of_decide_eq_true (by kernel_rfl)) fun M w0=>(bi ⟨[(0,.ptr 450109 0),(1,.int .i32 v1)],[(450109,[(oo v2 450109),.ref 9])],[(9,⟨5,1,lm (bp .u8) v3⟩)],[9,450109,1450109]⟩ ?_);unfold js at h;refine aA 6 7 3 (am 1 ?_);rcases ak h with⟨h1,gh1⟩|⟨h1,gh1⟩
 ·subst h1;have h:=gh1;refine Bn 450109 (b:=true) (c1:=.ref 9) (ac (aA 2 3 1 (am 4 (aF (bE (bp .u8) v3) (ac (aA 2 3 1 (am 6 ?_)))))));obtain⟨v4,h2,h⟩:=bind_some h;refine iT 9 9 [] (yb hK h2) (ac (aA 2 3 1 (am 4 (aF (bE (bp .u8) v4) (ac (aJ 1 ?_))))));cases h;exact uI
 ·subst h1;have h:=gh1;refine Bn 450109 (b:=false) (c1:=.ref 9) (ac (aA 2 3 1 (am 4 (aF (bE (bp .u8) v3) (ac (aA 2 3 1 (am 6 ?_)))))));obtain⟨v5,h3,h⟩:=bind_some h;refine iT 9 9 [] (yb hK h3) (ac (aA 2 3 1 (am 4 (aF (bE (bp .u8) v5) (ac (aJ 1 ?_))))));cases h;exact uI
end
noncomputable section
variable(M:Nat→Prop)(w0:aC)(r:Int)(v1 v2:Int)  
variable{M w0 r v1 v2}{K:Kn}{n:Nat}
theorem vD(hK:aq K)(h:ia K n v1 v2=some r):aS Tryd.prog 58 [.int .i32 v1,iI v2] (fun v _=>v=iI r):=by
 refine bl (cat Tryd.f58 (pn 1)) Tryd.func58 Tryd.ntmps58 fun M w0=>(bi ⟨[(0,.int .i32 v1),(1,iI v2)],[],[],[]⟩ ?_);unfold ia at h;refine aA 6 7 3 (am 1 ?_);obtain⟨v3,h1,h⟩:=bind_some h;refine aO (A7 hK h1) (aN 3 1 ?_);obtain⟨v4,h2,h⟩:=bind_some h;refine aO (sd hK h2) (ac (aJ 1 ?_));cases h;exact bc
end
noncomputable section
variable(M:Nat→Prop)(w0:aC)(r:Int)(v1:ByteArray)(v2:Int)(v3:Nat)(v5:Int)(v6 m1:Nat)(L1:Int→Nat→Option Int)
abbrev sH:Cx:=⟨Tryd.prog,19,M,w0⟩
abbrev vH:=bodyPost Tryd.prog Tryd.f59 (bu M w0 (fun v _=>v=iI r))
abbrev KE(ks:List av)(s:AS):=VE (sH M w0) (vH M w0 r) ks .normal s
abbrev y5(n:Nat):av:=.c (cat Tryd.f59 (pn n))
abbrev uY:List av:=[.b 0,y5 15]
abbrev KS:List av:=kl (sH M w0) (vH M w0 r) uY (cat Tryd.f59 (pn 116)) m1::uY
def CJ:AS:=⟨[(1,iI v2),(5,iI v5),(9,.sit 320009 v3 v1 v6)],[],[],[320009]⟩
abbrev wJ:Prop:=∀{v5:Int} {v6:Nat},L1 v5 v6=some r→LP (sH M w0) (vH M w0 r) uY (cat Tryd.f59 (pn 116)) m1 (CJ v1 v2 v3 v5 v6)
variable{M w0 r v1 v2 v3 v5 v6 m1 L1}{K:Kn}{n:Nat}
theorem GT(hK:aq K)(hv3:w0.w.heap.size≤v3)(hL1:wJ M w0 r v1 v2 v3 m1 L1)(h:lz K n v1 v2 L1 v5 v6=some r):KE M w0 r (y5 116::KS M w0 r m1) (CJ v1 v2 v3 v5 v6):=by
 unfold lz at h;refine aA 2 3 1 (am 0 ?_);obtain⟨h3,h⟩|⟨h3,h⟩:=ak h
 ·refine wn 9 (id:=320009) (g:=v3) h3 hv3 (ac (gV 13 1 6 (am 3 ?_)));obtain⟨v7,h4,h⟩:=bind_some h;exact aO (vD hK h4) (ac (ah 1 (bB (hL1 h))))
 ·refine uo 9 (id:=320009) (g:=v3) h3 (ac (aJ 9 ?_));cases h;exact bc
theorem Ho(hK:aq K)(hv3:w0.w.heap.size≤v3)(m:Nat):wJ M w0 r v1 v2 v3 m (lQ K n v1 v2 m):=by
 induction m with
 | zero=>intro v5 v6 h;cases h
 | succ m ih=>intro v5 v6 h;have h:lz K n v1 v2 (lQ K n v1 v2 m) v5 v6=some r:=h;exact bt (GT hK hv3 ih h)
theorem yv(hK:aq K)(h:i7 K n v1 v2=some r):aS Tryd.prog 59 [.str v1,iI v2] (fun v _=>v=iI r):=by
 refine bl (cat Tryd.f59 (pn 1)) Tryd.func59 Tryd.ntmps59 fun M w0=>(bi ⟨[(0,.str v1),(1,iI v2)],[],[],[]⟩ ?_);unfold i7 at h;exact cj 28 29 15 6 (am 1 (tF 320009 (b:=v1) fun v3 hv3=>(ac (ah 1 (cH (p:=pn 58) n (Ho hK (v3:=v3) hv3 n h))))))
end
noncomputable section
variable(M:Nat→Prop)(w0:aC)(r:aw)(v1:List ao)(v4:Int)(v5:Bool)(v6:List Int)(v9:Bool)(v10:aH)(v14:ByteArray)(v15:Int)(v18:aH)(v22:ByteArray)(v23:Int)(m1:Nat)(L1:Int→Bool→(List Int)→Option aw)
abbrev uL:Cx:=⟨Tryd.prog,59,M,w0⟩
abbrev vx:=bodyPost Tryd.prog Tryd.f42 (bu M w0 (fun v _=>v=.agg (aM r)))
abbrev oL(ks:List av)(s:AS):=VE (uL M w0) (vx M w0 r) ks .normal s
abbrev dY(n:Nat):av:=.c (cat Tryd.f42 (pn n))
abbrev sZ:List av:=[.b 0,dY 15]
abbrev Iq:List av:=kl (uL M w0) (vx M w0 r) sZ (cat Tryd.f42 (pn 116)) m1::sZ
def KO:AS:=⟨[(2,.ptr 2 0),(6,.ptr 6 0),(7,.ptr 7 0),(8,.str v14)],[(2,List.set (aM cy) 61 (.nils)),(6,aG v10),(7,List.set (aM ({ cy with Text:=(bytesOf v6),Space:=v15 }:aw)) 61 (.nils))],[],[2,6,7]⟩
def EM:AS:=⟨[(2,.ptr 2 0),(6,.ptr 6 0),(7,.ptr 7 0),(8,.str v22)],[(2,List.set (aM cy) 61 (.nils)),(6,aG v18),(7,List.set (aM ({ cy with Text:=(bytesOf v6),Space:=v23 }:aw)) 61 (.nils))],[],[2,6,7]⟩
def Gz:AS:=⟨[(0,.sl (lm az v1)),(2,.ptr 2 0),(3,.ptr 451109 0)],[(2,List.set (aM cy) 61 (.nils)),(451109,[(oo v9 451109),.ref 401109])],[(401109,⟨5,1,lm (bp .u8) v6⟩)],[2,451109,401109]⟩
def Br:AS:=⟨[(0,.sl (lm az v1)),(2,.ptr 2 0),(3,.ptr 451109 0),(9,.sl (lm az v1)),(10,iI (v1.length:Int)),(11,iI v4)],[(2,List.set (aM cy) 61 (.nils)),(451109,[(oo v5 451109),.ref 401109])],[(401109,⟨5,1,lm (bp .u8) v6⟩)],[2,451109,401109]⟩
abbrev zW:Prop:=∀{v4:Int} {v5:Bool} {v6:(List Int)},L1 v4 v5 v6=some r→LP (uL M w0) (vx M w0 r) sZ (cat Tryd.f42 (pn 116)) m1 (Br v1 v4 v5 v6)
variable{M w0 r v1 v4 v5 v6 v9 v10 v14 v15 v18 v22 v23 m1 L1}{K:Kn}{n:Nat}
theorem yM(hK:aq K)(h:mJ K n v6 v10 v14 v15=some r):oL M w0 r [dY 255] (KO v6 v10 v14 v15):=by
 unfold mJ at h;refine aA 2 3 1 (am 3 ?_);obtain⟨v16,h24,h⟩:=bind_some h;refine aO (yv hK h24) (ac (aA 2 3 1 (am 1 ?_)));obtain⟨v17,h25,h⟩:=bind_some h;refine aO (pL hK h25) (ac (aJ 3 (tZ 2 ?_)));cases h;exact bc
theorem AK(hK:aq K)(h:mE K n v6 v18 v22 v23=some r):oL M w0 r [dY 255] (EM v6 v18 v22 v23):=by
 unfold mE at h;refine aA 2 3 1 (am 3 ?_);obtain⟨v24,h35,h⟩:=bind_some h;refine aO (yv hK h35) (ac (aA 2 3 1 (am 1 ?_)));obtain⟨v25,h36,h⟩:=bind_some h;refine aO (pL hK h36) (ac (aJ 3 (tZ 2 ?_)));cases h;exact bc
theorem CB(hK:aq K)(h:lf K n v1 v6 v9=some r):oL M w0 r [dY 15] (Gz v1 v6 v9):=by
 unfold lf at h;rcases ak h with⟨h14,gh14⟩|⟨h14,gh14⟩
 ·subst h14;have h:=gh14;refine aA 2 3 1 (am 1 ?_);obtain⟨h15,h⟩:=aU h;refine aF (bO az az h15 (di) ((fun _=>rfl))) (ac ?_);obtain⟨v10,h16,h⟩:=co h;refine bC (ks':=[dY 62,dY 63]) 1 ⟨[(0,.sl (lm az v1)),(2,.ptr 2 0),(3,.ptr 451109 0),(6,.ptr 6 0)],[(2,List.set (aM cy) 61 (.nils)),(6,aG v10),(451109,[.ptr 451109 0,.ref 401109])],[(401109,⟨5,1,lm (bp .u8) v6⟩)],[2,6,451109,401109]⟩ ?_ (by subst h16;kernel_rfl);refine am 0 ?_;obtain⟨h17,h⟩:=aU h;refine Bw 451109 401109 (L:=v6) h17 (ac (cj 12 13 7 4 (am 2 (aF (bE az v1) (aN 4 1 ?_)))));obtain⟨h18,h⟩:=aU h;refine aF (bO az az h18 (di) ((fun _=>rfl))) (ac ?_);obtain⟨v11,h19,h⟩:=co h;refine bC (ks':=[dY 509,dY 255]) 0 ⟨[(2,.ptr 2 0),(6,.ptr 6 0),(7,.ptr 7 0),(8,.str (bytesOf v6)),(36,.bool v11)],[(2,List.set (aM cy) 61 (.nils)),(6,aG v10),(7,List.set (aM ({ cy with Text:=(bytesOf v6) }:aw)) 61 (.nils))],[],[2,6,7]⟩ ?_ (by subst h19;kernel_rfl)
  obtain⟨h20,h⟩|⟨h20,h⟩:=ak h
  ·refine ai 36 h20 (aA 4 5 2 (am 4 ?_));obtain⟨h21,h⟩:=aU h;refine aF (pB h21) (ac ?_);obtain⟨v12,h22,h⟩:=co h;refine bC (ks':=[dY 2037,dY 255]) 0 ⟨[(2,.ptr 2 0),(6,.ptr 6 0),(7,.ptr 7 0),(8,.str v12)],[(2,List.set (aM cy) 61 (.nils)),(6,aG v10),(7,List.set (aM ({ cy with Text:=(bytesOf v6) }:aw)) 61 (.nils))],[],[2,6,7]⟩ ?_ (by subst h22;kernel_rfl);refine am 2 ?_;obtain⟨v13,h23,h⟩:=bind_some h;exact aO (vD hK h23) (ac (ah 0 (yM hK h)))
  ·exact ai 36 h20 (ah 2 (yM hK h))
 ·subst h14;have h:=gh14;refine aA 2 3 1 (am 1 ?_);obtain⟨h26,h⟩:=aU h;refine aF (bO az az h26 (di) ((fun _=>rfl))) (ac ?_);obtain⟨v18,h27,h⟩:=co h;refine bC (ks':=[dY 62,dY 63]) 1 ⟨[(0,.sl (lm az v1)),(2,.ptr 2 0),(3,.ptr 451109 0),(6,.ptr 6 0)],[(2,List.set (aM cy) 61 (.nils)),(6,aG v18),(451109,[.nilp,.ref 401109])],[(401109,⟨5,1,lm (bp .u8) v6⟩)],[2,6,451109,401109]⟩ ?_ (by subst h27;kernel_rfl);refine am 0 ?_;obtain⟨h28,h⟩:=aU h;refine Bw 451109 401109 (L:=v6) h28 (ac (cj 12 13 7 4 (am 2 (aF (bE az v1) (aN 4 1 ?_)))));obtain⟨h29,h⟩:=aU h;refine aF (bO az az h29 (di) ((fun _=>rfl))) (ac ?_);obtain⟨v19,h30,h⟩:=co h;refine bC (ks':=[dY 509,dY 255]) 0 ⟨[(2,.ptr 2 0),(6,.ptr 6 0),(7,.ptr 7 0),(8,.str (bytesOf v6)),(36,.bool v19)],[(2,List.set (aM cy) 61 (.nils)),(6,aG v18),(7,List.set (aM ({ cy with Text:=(bytesOf v6) }:aw)) 61 (.nils))],[],[2,6,7]⟩ ?_ (by subst h30;kernel_rfl);obtain⟨h31,h⟩|⟨h31,h⟩:=ak h
  ·refine ai 36 h31 (aA 4 5 2 (am 4 ?_));obtain⟨h32,h⟩:=aU h;refine aF (pB h32) (ac ?_);obtain⟨v20,h33,h⟩:=co h;refine bC (ks':=[dY 2037,dY 255]) 0 ⟨[(2,.ptr 2 0),(6,.ptr 6 0),(7,.ptr 7 0),(8,.str v20)],[(2,List.set (aM cy) 61 (.nils)),(6,aG v18),(7,List.set (aM ({ cy with Text:=(bytesOf v6) }:aw)) 61 (.nils))],[],[2,6,7]⟩ ?_ (by subst h33;kernel_rfl);refine am 2 ?_;obtain⟨v21,h34,h⟩:=bind_some h;exact aO (vD hK h34) (ac (ah 0 (AK hK h)))
  ·exact ai 36 h31 (ah 2 (AK hK h))
theorem JD(hK:aq K)(hL1:zW M w0 r v1 m1 L1)(h:lp K n v1 L1 v4 v5 v6=some r):oL M w0 r (dY 116::Iq M w0 r m1) (Br v1 v4 v5 v6):=by
 unfold lp at h;rcases ak h with⟨h7,gh7⟩|⟨h7,gh7⟩
 ·subst h7;have h:=gh7;refine aA 6 7 3 ?_;obtain⟨h8,h⟩|⟨h8,h⟩:=ak h
  ·refine ai 12 h8 (dv 8 9 1 3 5 (am 0 ?_));obtain⟨h9,h⟩:=aU h;refine aF (bO az az h9 (di) ((fun _=>rfl))) (ac (am 2 ?_));obtain⟨v7,h10,h⟩:=bind_some h;exact iT 401109 9 [(451109,450109)] (xT hK h10) (ac (ah 2 (bB (hL1 h))))
  ·exact ai 12 h8 (ah 5 (CB hK h))
 ·subst h7;have h:=gh7;refine aA 6 7 3 ?_;obtain⟨h11,h⟩|⟨h11,h⟩:=ak h
  ·refine ai 12 h11 (dv 8 9 1 3 5 (am 0 ?_));obtain⟨h12,h⟩:=aU h;refine aF (bO az az h12 (di) ((fun _=>rfl))) (ac (am 2 ?_));obtain⟨v8,h13,h⟩:=bind_some h;exact iT 401109 9 [(451109,450109)] (xT hK h13) (ac (ah 2 (bB (hL1 h))))
  ·exact ai 12 h11 (ah 5 (CB hK h))
theorem EB(hK:aq K)(m:Nat):zW M w0 r v1 m (jw K n v1 m):=by
 induction m with
 | zero=>intro v4 v5 v6 h;cases h
 | succ m ih=>intro v4 v5 v6 h;have h:lp K n v1 (jw K n v1 m) v4 v5 v6=some r:=h;exact bt (JD hK ih h)
theorem Dy(hK:aq K)(h:mL K n v1=some r):aS Tryd.prog 42 [.sl (lm az v1)] (fun v _=>v=.agg (aM r)):=by
 refine bl (cat Tryd.f42 (pn 1)) Tryd.func42 Tryd.ntmps42 fun M w0=>(bi ⟨[(0,.sl (lm az v1))],[],[],[]⟩ ?_);unfold mL at h;exact aA 6 7 3 (am 0 (DY 451109 (T:=109) (d:=3) (cs:=[.nilp,.nils]) (ac (cj 4 5 3 2 (am 1 (aF (bE az v1) (ac (gV 2 0 1 (bU [0,2,3,9,10,11] [2,451109] [] (yG 401109 451109 1 5 1 (ah 0 (cH (p:=pn 58) n (EB hK n h)))))))))))))
end
noncomputable section
variable(M:Nat→Prop)(w0:aC)(r:List aw)(v1:List au)(v2:Fv)(v3:List ao)(v30:Int)(v31:List aw)(v33:Bool)(v39:Int)(v41:Bool)(v43:Int)(v44:aw)(m1 m2:Nat)(L1:Int→(List aw)→Option (List aw))(L2:Int→Option (List aw))
abbrev nr:Cx:=⟨Tryd.prog,120,M,w0⟩
abbrev nC:=bodyPost Tryd.prog Tryd.f24 (bu M w0 (fun v s=>v=.ref 117∧look 117 s.r=some ⟨74,62,lm aM r⟩))
abbrev mw(ks:List av)(s:AS):=VE (nr M w0) (nC M w0 r) ks .normal s
abbrev dG(n:Nat):av:=.c (cat Tryd.f24 (pn n))
abbrev s6:List av:=[.b 0,dG 31]
abbrev gf:List av:=kl (nr M w0) (nC M w0 r) s6 (cat Tryd.f24 (pn 244)) m1::s6
abbrev vS:List av:=.b 3::dG 4009823 :: .b 2::dG 31327 :: .b 1::gf M w0 r m1
abbrev Bg:List av:=kl (nr M w0) (nC M w0 r) (vS M w0 r m1) (cat Tryd.f24 (pn 16039288)) m2::(vS M w0 r m1)
def DV:AS:=⟨[(1,.fn v2.id v2.aK),(5,.sl (lm az v3)),(6,.ref 117),(8,.ptr 8 0),(9,.bool v33),(10,.ptr 10 0),(11,iI v43)],[(8,az (gD v3 v30)),(10,aM v44)],[(117,⟨74,62,lm aM v31⟩)],[8,10,117]⟩
def HK:AS:=⟨[(1,.fn v2.id v2.aK),(5,.sl (lm az v3)),(6,.ref 117),(7,iI v30),(8,.ptr 8 0),(9,.bool v33),(10,.ptr 10 0),(11,iI v39),(81,.bool v41)],[(8,az (gD v3 v30)),(10,List.set (aM cy) 61 (.nils))],[(117,⟨74,62,lm aM v31⟩)],[8,10,117]⟩
def zE:AS:=⟨[(1,.fn v2.id v2.aK),(5,.sl (lm az v3)),(6,.ref 117),(7,iI v30),(8,.ptr 8 0),(9,.bool v33),(10,.ptr 10 0),(11,iI v39)],[(8,az (gD v3 v30)),(10,List.set (aM cy) 61 (.nils))],[(117,⟨74,62,lm aM v31⟩)],[8,10,117]⟩
def K0:AS:=⟨[(1,.fn v2.id v2.aK),(5,.sl (lm az v3)),(6,.ref 117),(7,iI v30),(8,.ptr 8 0),(9,.bool v33)],[(8,az (gD v3 v30))],[(117,⟨74,62,lm aM v31⟩)],[8,117]⟩
def xC:AS:=⟨[(1,.fn v2.id v2.aK),(5,.sl (lm az v3)),(6,.ref 117),(7,iI v30)],[],[(117,⟨74,62,lm aM v31⟩)],[117]⟩
abbrev i0:Prop:=∀{v30:Int} {v31:(List aw)},L1 v30 v31=some r→LP (nr M w0) (nC M w0 r) s6 (cat Tryd.f24 (pn 244)) m1 (xC v2 v3 v30 v31)
abbrev u9:Prop:=∀{v39:Int},L2 v39=some r→LP (nr M w0) (nC M w0 r) (vS M w0 r m1) (cat Tryd.f24 (pn 16039288)) m2 (zE v2 v3 v30 v31 v33 v39)
variable{M w0 r v1 v2 v3 v30 v31 v33 v39 v41 v43 v44 m1 m2 L1 L2}{K:Kn}{n:Nat}
theorem sN(hK:aq K)(hL1:i0 M w0 r v2 v3 m1 L1)(h:fP K n v2 v3 v30 v31 v33 L1 v43 v44=some r):mw M w0 r (.b 2::dG 31327 :: .b 1::gf M w0 r m1) (DV v2 v3 v30 v31 v33 v43 v44):=by
 unfold fP at h;refine gm 2 3 2 (bU [1,5,6,8,9,10,11] [8,10] [117] (bZ 3 (nu 100 [.ptr 8 4,.cptr (aZ ((gD v3 v30).Box)),.cptr (aZ ((gD v3 v30).Box)),.cptr (List.drop 1 (aZ ((gD v3 v30).Box))),iI (((gD v3 v30).Box).Node),.ptr 8 4,.cptr (aZ ((gD v3 v30).Box)),.cptr (aZ ((gD v3 v30).Box)),.cptr (List.drop 2 (aZ ((gD v3 v30).Box))),.agg (aG (((gD v3 v30).Box).Style)),.bool v33,.ptr 10 0,.ptr 10 2,.ptr 10 59]) [] [] [bL Tryd.prog 120 Tryd.f24 (pn 62654) 12,bL Tryd.prog 120 Tryd.f24 (pn 62654) 14,bL Tryd.prog 120 Tryd.f24 (pn 62654) 16] (aB [.v 0 1,.v 0 1,.v 0 1,.v 0 1,.v 0 1,.v 0 2,.v 0 2,.v 0 2,.v 0 2,.v 0 2,.v 0 3,.v 0 1] (aj (bQ 0) (aB [.v 1 1] (aj (bQ 1) (aB [.v 2 1] (aj (bQ 2) bW)))))) ?_));obtain⟨v45,h94,h⟩:=co h;obtain⟨v46,h95,h⟩:=co h;refine bC (ks':=dG 125310::dG 125311 :: .b 1::gf M w0 r m1) 1 ⟨[(1,.fn v2.id v2.aK),(5,.sl (lm az v3)),(6,.ref 117),(10,.ptr 10 0),(11,iI v43)],[(10,aM ({ v44 with Node:=v45,Style:=v46,Glued:=v33 }:aw))],[(117,⟨74,62,lm aM v31⟩)],[10,117]⟩ ?_ (by subst h95;subst h94;kernel_rfl)
 refine am 3 ?_;obtain⟨h96,h⟩:=aU h;exact aF (cT 117 117 74 62 aM (rfl) (gj) h96) (ac (ah 2 (bB (hL1 h))))
theorem rQ(hK:aq K)(hL1:i0 M w0 r v2 v3 m1 L1)(hL2:u9 M w0 r v2 v3 v30 v31 v33 m1 m2 L2)(h:fQ K n v2 v3 v30 v31 v33 v39 L1 L2 v41=some r):mw M w0 r (dG 64157153::dG 32078577::Bg M w0 r m1 m2) (HK v2 v3 v30 v31 v33 v39 v41):=by
 unfold fQ at h;obtain⟨h91,h⟩|⟨h91,h⟩:=ak h
 ·exact ai 81 h91 (ah 5 (bB (hL2 h)))
 ·refine ai 81 h91 (cC (ks':=dG 4009823 :: .b 2::dG 31327 :: .b 1::gf M w0 r m1) 5 (am 3 ?_));obtain⟨h92,h⟩:=aU h;refine aF (uD az v3 v30 v39 89 (.tmp 84) (some (.tmp 85)) (some (.tmp 86)) 87 (e:=93) (sz:=5) (by kernel_rfl) (by kernel_rfl) (by kernel_rfl) (by kernel_rfl) (by kernel_rfl) (by kernel_rfl) (di) (fun k hk=>by subst hk;kernel_rfl) h92) ?_;obtain⟨v42,h93,h⟩:=bind_some h;exact aO (Dy hK h93) (ac (ah 0 (sN hK hL1 h)))
theorem HW(hK:aq K)(hL1:i0 M w0 r v2 v3 m1 L1)(hL2:u9 M w0 r v2 v3 v30 v31 v33 m1 m2 L2)(h:kZ K n v2 v3 v30 v31 v33 L1 L2 v39=some r):mw M w0 r (dG 16039288::Bg M w0 r m1 m2) (zE v2 v3 v30 v31 v33 v39):=by
 unfold kZ at h;refine cj 4 5 3 2 (bU [1,5,6,7,8,9,10,11] [8,10] [117] ?_);obtain⟨h83,h⟩|⟨h83,h⟩:=ak h
 ·obtain⟨h84,h⟩:=aU h;obtain⟨h85,h⟩|⟨h85,h⟩:=ak h
  ·obtain⟨h86,h⟩:=aU h;obtain⟨h87,h⟩|⟨h87,h⟩:=ak h
   ·obtain⟨h88,h⟩:=aU h;obtain⟨h89,h⟩:=aU h;obtain⟨v40,h90,h⟩:=bind_some h;exact bZ 0 (nu 47 [iI v39,.sl (lm az v3),iI (v3.length:Int),.bool (decide (v39<(v3.length:Int))),.bool true,.sl (lm az v3),iI v39,.cptr (az (gD v3 v39)),.cptr (List.drop 0 (az (gD v3 v39))),iI ((gD v3 v39).Kind),.bool (((gD v3 v39).Kind) == 1),.bool (((gD v3 v39).Kind) == 1),.bool true,.sl (lm az v3),iI v39,.cptr (az (gD v3 v39)),.cptr (List.drop 1 (az (gD v3 v39))),iI ((gD v3 v39).Of),.ptr 8 1,iI ((gD v3 v30).Of),.bool (((gD v3 v39).Of) == ((gD v3 v30).Of)),.bool (((gD v3 v39).Of) == ((gD v3 v30).Of)),.bool true,.sl (lm az v3),iI v39,iI (aa (v39-1)),.cptr (az (gD v3 ((aa (v39-1))))),.agg (az (gD v3 ((aa (v39-1))))),.sl (lm az v3),iI v39,.cptr (az (gD v3 v39)),.agg (az (gD v3 v39)),.bool v40,.bool (!v40),.bool (!v40)]) [] [] [] (aB (vz 2) (bd (bE az v3) (aB [.v 0 1] (aj (c7 0 51 (e:=(decide (v39<(v3.length:Int)))) (b:=true) h83) (aB (vz 2) (bd (bO az az h84 (di) ((fun _=>rfl))) (aB (vz 4) (aj (c7 0 59 (e:=(((gD v3 v39).Kind) == 1)) (b:=true) h85) (aB (vz 2) (bd (bO az az h86 (di) ((fun _=>rfl))) (aB (vz 6) (aj (c7 0 69 (e:=(((gD v3 v39).Of) == ((gD v3 v30).Of))) (b:=true) h87) (aB (vz 3) (bd (bO az az h88 (di) ((fun _=>rfl))) (aB (vz 3) (bd (bO az az h89 (di) ((fun _=>rfl))) (aB [.v 0 1] (aj (bG 0 1 79 (yF hK h90)) (aB (vz 2) bW))))))))))))))))))) (ah 0 (rQ hK hL1 hL2 h))
   ·exact bZ 0 (nu 47 [iI v39,.sl (lm az v3),iI (v3.length:Int),.bool (decide (v39<(v3.length:Int))),.bool true,.sl (lm az v3),iI v39,.cptr (az (gD v3 v39)),.cptr (List.drop 0 (az (gD v3 v39))),iI ((gD v3 v39).Kind),.bool (((gD v3 v39).Kind) == 1),.bool (((gD v3 v39).Kind) == 1),.bool true,.sl (lm az v3),iI v39,.cptr (az (gD v3 v39)),.cptr (List.drop 1 (az (gD v3 v39))),iI ((gD v3 v39).Of),.ptr 8 1,iI ((gD v3 v30).Of),.bool (((gD v3 v39).Of) == ((gD v3 v30).Of)),.bool (((gD v3 v39).Of) == ((gD v3 v30).Of)),.bool false,.tup [],.tup [],.tup [],.tup [],.tup [],.tup [],.tup [],.tup [],.tup [],.tup [],.tup [],.bool false]) [] [] [] (aB (vz 2) (bd (bE az v3) (aB [.v 0 1] (aj (c7 0 51 (e:=(decide (v39<(v3.length:Int)))) (b:=true) h83) (aB (vz 2) (bd (bO az az h84 (di) ((fun _=>rfl))) (aB (vz 4) (aj (c7 0 59 (e:=(((gD v3 v39).Kind) == 1)) (b:=true) h85) (aB (vz 2) (bd (bO az az h86 (di) ((fun _=>rfl))) (aB (vz 6) (aj (c7 0 69 (e:=(((gD v3 v39).Of) == ((gD v3 v30).Of))) (b:=false) h87) (aj (aE 0 1) (aj (aE 0 1) (aj (aE 0 1) (aj (aE 0 1) (aj (aE 0 1) (aj (aE 0 1) (aj (aE 0 1) (aj (aE 0 1) (aj (aE 0 1) (aj (aE 0 1) (aj (aE 0 1) (aB [.v 0 1] bW)))))))))))))))))))))))) (ah 0 (rQ hK hL1 hL2 h))
  ·exact bZ 0 (nu 47 [iI v39,.sl (lm az v3),iI (v3.length:Int),.bool (decide (v39<(v3.length:Int))),.bool true,.sl (lm az v3),iI v39,.cptr (az (gD v3 v39)),.cptr (List.drop 0 (az (gD v3 v39))),iI ((gD v3 v39).Kind),.bool (((gD v3 v39).Kind) == 1),.bool (((gD v3 v39).Kind) == 1),.bool false,.tup [],.tup [],.tup [],.tup [],.tup [],.tup [],.tup [],.tup [],.bool false,.bool false,.tup [],.tup [],.tup [],.tup [],.tup [],.tup [],.tup [],.tup [],.tup [],.tup [],.tup [],.bool false]) [] [] [] (aB (vz 2) (bd (bE az v3) (aB [.v 0 1] (aj (c7 0 51 (e:=(decide (v39<(v3.length:Int)))) (b:=true) h83) (aB (vz 2) (bd (bO az az h84 (di) ((fun _=>rfl))) (aB (vz 4) (aj (c7 0 59 (e:=(((gD v3 v39).Kind) == 1)) (b:=false) h85) (aj (aE 0 1) (aj (aE 0 1) (aj (aE 0 1) (aj (aE 0 1) (aj (aE 0 1) (aj (aE 0 1) (aj (aE 0 1) (aj (aE 0 1) (aB (vz 2) (aj (aE 0 1) (aj (aE 0 1) (aj (aE 0 1) (aj (aE 0 1) (aj (aE 0 1) (aj (aE 0 1) (aj (aE 0 1) (aj (aE 0 1) (aj (aE 0 1) (aj (aE 0 1) (aj (aE 0 1) (aB [.v 0 1] bW))))))))))))))))))))))))))))) (ah 0 (rQ hK hL1 hL2 h))
 ·exact bZ 0 (nu 47 [iI v39,.sl (lm az v3),iI (v3.length:Int),.bool (decide (v39<(v3.length:Int))),.bool false,.tup [],.tup [],.tup [],.tup [],.tup [],.tup [],.bool false,.bool false,.tup [],.tup [],.tup [],.tup [],.tup [],.tup [],.tup [],.tup [],.bool false,.bool false,.tup [],.tup [],.tup [],.tup [],.tup [],.tup [],.tup [],.tup [],.tup [],.tup [],.tup [],.bool false]) [] [] [] (aB (vz 2) (bd (bE az v3) (aB [.v 0 1] (aj (c7 0 51 (e:=(decide (v39<(v3.length:Int)))) (b:=false) h83) (aj (aE 0 1) (aj (aE 0 1) (aj (aE 0 1) (aj (aE 0 1) (aj (aE 0 1) (aj (aE 0 1) (aB (vz 2) (aj (aE 0 1) (aj (aE 0 1) (aj (aE 0 1) (aj (aE 0 1) (aj (aE 0 1) (aj (aE 0 1) (aj (aE 0 1) (aj (aE 0 1) (aB (vz 2) (aj (aE 0 1) (aj (aE 0 1) (aj (aE 0 1) (aj (aE 0 1) (aj (aE 0 1) (aj (aE 0 1) (aj (aE 0 1) (aj (aE 0 1) (aj (aE 0 1) (aj (aE 0 1) (aj (aE 0 1) (aB [.v 0 1] bW)))))))))))))))))))))))))))))))) (ah 0 (rQ hK hL1 hL2 h))
theorem F9(hK:aq K)(hL1:i0 M w0 r v2 v3 m1 L1)(m:Nat):u9 M w0 r v2 v3 v30 v31 v33 m1 m (jP K n v2 v3 v30 v31 v33 L1 m):=by
 induction m with
 | zero=>intro v39 h;cases h
 | succ m ih=>intro v39 h;have h:kZ K n v2 v3 v30 v31 v33 L1 (jP K n v2 v3 v30 v31 v33 L1 m) v39=some r:=h;exact bt (HW hK hL1 ih h)
theorem vf(hK:aq K)(hL1:i0 M w0 r v2 v3 m1 L1)(h:jd K n v2 v3 v30 v31 L1 v33=some r):mw M w0 r (dG 3915 :: .b 1::gf M w0 r m1) (K0 v2 v3 v30 v31 v33):=by
 unfold jd at h;obtain⟨v34,h69,h⟩:=co h;refine bC (ks':=dG 250613 :: .b 2::dG 31327 :: .b 1::gf M w0 r m1) 10 ⟨[(1,.fn v2.id v2.aK),(5,.sl (lm az v3)),(6,.ref 117),(7,iI v30),(8,.ptr 8 0),(9,.bool v33),(10,.ptr 10 0),(11,iI (aa (v30+1))),(46,iI ((gD v3 v30).Kind)),(89,.bool v34)],[(8,az (gD v3 v30)),(10,List.set (aM cy) 61 (.nils))],[(117,⟨74,62,lm aM v31⟩)],[8,10,117]⟩ ?_ (by subst h69;kernel_rfl);obtain⟨h70,h⟩|⟨h70,h⟩:=ak h
 ·exact ai 89 h70 (cC (ks':=.b 2::dG 31327 :: .b 1::gf M w0 r m1) 2 (tZ 10 (ah 0 (sN hK hL1 h))))
 ·refine ai 89 h70 ?_;obtain⟨v35,h71,h⟩:=co h;refine bC (ks':=dG 1002455 :: .b 2::dG 31327 :: .b 1::gf M w0 r m1) 3 ⟨[(1,.fn v2.id v2.aK),(5,.sl (lm az v3)),(6,.ref 117),(7,iI v30),(8,.ptr 8 0),(9,.bool v33),(10,.ptr 10 0),(11,iI (aa (v30+1))),(92,.bool v35)],[(8,az (gD v3 v30)),(10,List.set (aM cy) 61 (.nils))],[(117,⟨74,62,lm aM v31⟩)],[8,10,117]⟩ ?_ (by subst h71;kernel_rfl);obtain⟨h72,h⟩|⟨h72,h⟩:=ak h
  ·refine ai 92 h72 (ba 2 1 (am 5 ?_));obtain⟨v36,h73,h⟩:=bind_some h;exact kL (hK.lq h73) (ac (ah 0 (sN hK hL1 h)))
  ·exact ai 92 h72 (ah 3 (cH (p:=pn 8019644) n (F9 hK hL1 n h)))
theorem Dt(hK:aq K)(hL1:i0 M w0 r v2 v3 m1 L1)(h:ls K n v2 v3 L1 v30 v31=some r):mw M w0 r (dG 244::gf M w0 r m1) (xC v2 v3 v30 v31):=by
 unfold ls at h;refine cj 4 5 3 2 (am 2 (aF (bE az v3) (ac ?_)));obtain⟨h62,h⟩|⟨h62,h⟩:=ak h
 ·refine ai 17 h62 (cC (ks':=dG 1956::dG 1957 :: .b 1::gf M w0 r m1) 4 (am 2 ?_));obtain⟨h63,h⟩:=aU h;refine aF (bO az az h63 (di) ((fun _=>rfl))) (ac (aA 2 3 1 (bU [1,5,6,7,8] [8] [117] ?_)));obtain⟨h64,h⟩|⟨h64,h⟩:=ak h
  ·obtain⟨h65,h⟩:=aU h;obtain⟨h66,h⟩|⟨h66,h⟩:=ak h
   ·obtain⟨h67,h⟩:=aU h;obtain⟨v32,h68,h⟩:=bind_some h;exact bZ 1 (nu 22 [iI v30,.bool (decide (v30>0)),.bool true,.sl (lm az v3),iI v30,iI (aa (v30-1)),.cptr (az (gD v3 ((aa (v30-1))))),.cptr (List.drop 0 (az (gD v3 ((aa (v30-1)))))),iI ((gD v3 ((aa (v30-1)))).Kind),.bool (((gD v3 ((aa (v30-1)))).Kind) != 2),.bool (((gD v3 ((aa (v30-1)))).Kind) != 2),.bool true,.sl (lm az v3),iI v30,iI (aa (v30-1)),.cptr (az (gD v3 ((aa (v30-1))))),.agg (az (gD v3 ((aa (v30-1))))),.agg (az (gD v3 v30)),.bool v32,.bool (!v32),.bool (!v32)]) [] [] [bL Tryd.prog 120 Tryd.f24 (pn 3914) 21] (aB (vz 2) (aj (c7 0 24 (e:=(decide (v30>0))) (b:=true) h64) (aB (vz 3) (bd (bO az az h65 (di) ((fun _=>rfl))) (aB (vz 4) (aj (c7 0 33 (e:=(((gD v3 ((aa (v30-1)))).Kind) != 2)) (b:=true) h66) (aB (vz 3) (bd (bO az az h67 (di) ((fun _=>rfl))) (aB (vz 2) (aj (bG 0 1 40 (yF hK h68)) (aB (vz 2) (aj (bQ 0) bW)))))))))))) (ah 0 (vf hK hL1 h))
   ·exact bZ 1 (nu 22 [iI v30,.bool (decide (v30>0)),.bool true,.sl (lm az v3),iI v30,iI (aa (v30-1)),.cptr (az (gD v3 ((aa (v30-1))))),.cptr (List.drop 0 (az (gD v3 ((aa (v30-1)))))),iI ((gD v3 ((aa (v30-1)))).Kind),.bool (((gD v3 ((aa (v30-1)))).Kind) != 2),.bool (((gD v3 ((aa (v30-1)))).Kind) != 2),.bool false,.tup [],.tup [],.tup [],.tup [],.tup [],.tup [],.tup [],.tup [],.bool false]) [] [] [bL Tryd.prog 120 Tryd.f24 (pn 3914) 21] (aB (vz 2) (aj (c7 0 24 (e:=(decide (v30>0))) (b:=true) h64) (aB (vz 3) (bd (bO az az h65 (di) ((fun _=>rfl))) (aB (vz 4) (aj (c7 0 33 (e:=(((gD v3 ((aa (v30-1)))).Kind) != 2)) (b:=false) h66) (aj (aE 0 1) (aj (aE 0 1) (aj (aE 0 1) (aj (aE 0 1) (aj (aE 0 1) (aj (aE 0 1) (aj (aE 0 1) (aj (aE 0 1) (aB [.v 0 1] (aj (bQ 0) bW)))))))))))))))) (ah 0 (vf hK hL1 h))
  ·exact bZ 1 (nu 22 [iI v30,.bool (decide (v30>0)),.bool false,.tup [],.tup [],.tup [],.tup [],.tup [],.tup [],.tup [],.bool false,.bool false,.tup [],.tup [],.tup [],.tup [],.tup [],.tup [],.tup [],.tup [],.bool false]) [] [] [bL Tryd.prog 120 Tryd.f24 (pn 3914) 21] (aB (vz 2) (aj (c7 0 24 (e:=(decide (v30>0))) (b:=false) h64) (aj (aE 0 1) (aj (aE 0 1) (aj (aE 0 1) (aj (aE 0 1) (aj (aE 0 1) (aj (aE 0 1) (aj (aE 0 1) (aB (vz 2) (aj (aE 0 1) (aj (aE 0 1) (aj (aE 0 1) (aj (aE 0 1) (aj (aE 0 1) (aj (aE 0 1) (aj (aE 0 1) (aj (aE 0 1) (aB [.v 0 1] (aj (bQ 0) bW)))))))))))))))))))) (ah 0 (vf hK hL1 h))
 ·refine ai 17 h62 (aJ 8 ?_);cases h;exact fl
theorem KG(hK:aq K)(m:Nat):i0 M w0 r v2 v3 m (jn K n v2 v3 m):=by
 induction m with
 | zero=>intro v30 v31 h;cases h
 | succ m ih=>intro v30 v31 h;have h:ls K n v2 v3 (jn K n v2 v3 m) v30 v31=some r:=h;exact bt (Dt hK ih h)
theorem Gp(hK:aq K)(h:kS K n v1 v2=some r):aS Tryd.prog 24 [.sl (lm aW v1),.fn v2.id v2.aK] (fun v s=>v=.ref 117∧look 117 s.r=some ⟨74,62,lm aM r⟩):=by
 refine bl (cat Tryd.f24 (pn 1)) Tryd.func24 Tryd.ntmps24 fun M w0=>(bi ⟨[(0,.sl (lm aW v1)),(1,.fn v2.id v2.aK)],[],[],[]⟩ ?_);unfold kS at h;refine aA 6 7 3 (am 1 ?_);obtain⟨v3,h1,h⟩:=bind_some h;exact gS 1013 (C8 hK h1) (iG 400003) (ac (iS 26 0 7 6 (bU [1,5,6,7] [] [1013] (HH 1013 (gA 117 6 74 62 (ah 0 (cH (p:=pn 122) n (KG hK n h))))))))
end
noncomputable section
variable(M:Nat→Prop)(w0:aC)(r v1:Int)  
variable{M w0 r v1}{K:Kn}{n:Nat}
theorem fg(hK:aq K)(h:eW K n v1=some r):aS Tryd.prog 44 [iI v1] (fun v _=>v=iI r):=by
 refine bl (cat Tryd.f44 (pn 1)) Tryd.func44 Tryd.ntmps44 fun M w0=>(bi ⟨[(0,iI v1)],[],[],[]⟩ ?_);unfold eW at h;refine aJ 5 ?_;cases h;exact bc
end
noncomputable section
variable(M:Nat→Prop)(w0:aC)(r:Int×Bool)(v1:dF)(v2 v4:Int)  
abbrev HP(n:Nat):av:=.c (cat Tryd.f43 (pn n))
abbrev Fq:Cx:=⟨Tryd.prog,25,M,w0⟩
abbrev IT:=bodyPost Tryd.prog Tryd.f43 (bu M w0 (fun v _=>v=.tup [iI r.1,.bool r.2]))
abbrev Fr(ks:List av)(s:AS):=VE (Fq M w0) (IT M w0 r) ks .normal s
def Er:AS:=⟨[(6,iI v4)],[],[],[]⟩
variable{M w0 r v1 v2 v4}{K:Kn}{n:Nat}
theorem Bf(hK:aq K)(h:qj K n v4=some r):Fr M w0 r [.b 0,HP 15] (Er v4):=by
 unfold qj at h;refine aJ 4 ?_;cases h;exact fT
theorem dR(hK:aq K)(h:dx K n v1 v2=some r):aS Tryd.prog 43 [.agg (jY v1),iI v2] (fun v _=>v=.tup [iI r.1,.bool r.2]):=by
 refine bl (cat Tryd.f43 (pn 1)) Tryd.func43 Tryd.ntmps43 fun M w0=>(bi ⟨[(0,.agg (jY v1)),(1,iI v2)],[],[],[]⟩ ?_);unfold dx at h;refine iS 117 0 15 10 ?_;obtain⟨h1,h⟩|⟨h1,h⟩:=ak h
 ·exact ai 11 h1 (ah 2 (Bf hK h))
 ·refine ai 11 h1 (ba 7 3 ?_);obtain⟨h2,h⟩|⟨h2,h⟩:=ak h
  ·refine ai 13 h2 (ba 2 1 (am 1 ?_));obtain⟨v3,h3,h⟩:=bind_some h;exact aO (fg hK h3) (ac (ah 0 (Bf hK h)))
  ·refine ai 13 h2 (aJ 6 ?_);cases h;exact fT
end
noncomputable section
variable(M:Nat→Prop)(w0:aC)(r:bD)(v1:aH)(v2 v3:Int)  
abbrev jM(n:Nat):av:=.c (cat Tryd.f26 (pn n))
abbrev Lg:Cx:=⟨Tryd.prog,52,M,w0⟩
abbrev Gy:=bodyPost Tryd.prog Tryd.f26 (bu M w0 (fun v _=>v=.agg (bz r)))
abbrev nB(m:Nat):List av:=kl (Lg M w0) (Gy M w0 r) [.b 0,jM 15] (cat Tryd.f26 (pn 116)) m::[.b 0,jM 15]
variable{M w0 r v1 v2 v3}{K:Kn}{n:Nat}
theorem nO(hK:aq K)(h:jT K n v1 v2 v3=some r):aS Tryd.prog 26 [.agg (aG v1),iI v2,iI v3] (fun v _=>v=.agg (bz r)):=by
 refine bl (cat Tryd.f26 (pn 1)) Tryd.func26 Tryd.ntmps26 fun M w0=>(bi ⟨[(0,.agg (aG v1)),(1,iI v2),(2,iI v3)],[],[],[]⟩ ?_);unfold jT at h;refine bC (ks':=[jM 58,.b 0,jM 15]) 8 ⟨[(1,iI v2),(3,.ptr 3 0),(6,.ptr 6 0),(7,.ptr 7 0),(13,iI 0)],[(3,aG v1),(6,bz fq),(7,bz ({ fq with Content:=v3 }:bD))],[],[3,6,7]⟩ (mU 40 (c:=cat Tryd.f26 [1,1,0,1,0,0]) (by kernel_rfl) (bt (cC (ks':=jM 7474::jM 7475 :: .b 1::jM 935::nB M w0 r 39) 10 (am 6 ?_))));obtain⟨v4,h1,h⟩:=bind_some h;refine aO (dR hK h1) (ac (aA 2 3 1 (am 5 ?_)));obtain⟨v5,h2,h⟩:=bind_some h;refine aO (fg hK h2) (ac (aA 2 3 1 (am 5 ?_)));obtain⟨v6,h3,h⟩:=bind_some h;refine aO (dR hK h3) (ac (bC (ks':=nB M w0 r 39) 3 ⟨[(1,iI v2),(3,.ptr 3 0),(6,.ptr 6 0),(7,.ptr 7 0),(13,iI 1)],[(3,aG v1),(6,bz fq),(7,bz (⟨⟨v4.1,0,0,0⟩,⟨v5,0,0,0⟩,⟨(max v6.1 0),0,0,0⟩,v3⟩:bD))],[],[3,6,7]⟩ (bB (bt (du 114 115 1 15 10 (am 6 ?_))))));obtain⟨v7,h4,h⟩:=bind_some h
 refine aO (dR hK h4) (ac (aA 2 3 1 (am 5 ?_)));obtain⟨v8,h5,h⟩:=bind_some h;refine aO (fg hK h5) (ac (aA 2 3 1 (am 5 ?_)));obtain⟨v9,h6,h⟩:=bind_some h;refine aO (dR hK h6) (ac (bC (ks':=nB M w0 r 38) 3 ⟨[(1,iI v2),(3,.ptr 3 0),(6,.ptr 6 0),(7,.ptr 7 0),(13,iI 2)],[(3,aG v1),(6,bz fq),(7,bz (⟨⟨v4.1,v7.1,0,0⟩,⟨v5,v8,0,0⟩,⟨(max v6.1 0),(max v9.1 0),0,0⟩,v3⟩:bD))],[],[3,6,7]⟩ (bB (bt (du 114 115 1 15 10 (am 6 ?_))))));obtain⟨v10,h7,h⟩:=bind_some h;refine aO (dR hK h7) (ac (aA 2 3 1 (am 5 ?_)));obtain⟨v11,h8,h⟩:=bind_some h;refine aO (fg hK h8) (ac (aA 2 3 1 (am 5 ?_)));obtain⟨v12,h9,h⟩:=bind_some h;refine aO (dR hK h9) (ac (bC (ks':=nB M w0 r 37) 3 ⟨[(1,iI v2),(3,.ptr 3 0),(6,.ptr 6 0),(7,.ptr 7 0),(13,iI 3)],[(3,aG v1),(6,bz fq),(7,bz (⟨⟨v4.1,v7.1,v10.1,0⟩,⟨v5,v8,v11,0⟩,⟨(max v6.1 0),(max v9.1 0),(max v12.1 0),0⟩,v3⟩:bD))],[],[3,6,7]⟩ (bB (bt (du 114 115 1 15 10 (am 6 ?_))))));obtain⟨v13,h10,h⟩:=bind_some h
 refine aO (dR hK h10) (ac (aA 2 3 1 (am 5 ?_)));obtain⟨v14,h11,h⟩:=bind_some h;refine aO (fg hK h11) (ac (aA 2 3 1 (am 5 ?_)));obtain⟨v15,h12,h⟩:=bind_some h;refine aO (dR hK h12) (ac (bC (ks':=nB M w0 r 36) 3 ⟨[(1,iI v2),(3,.ptr 3 0),(6,.ptr 6 0),(7,.ptr 7 0),(13,iI 4)],[(3,aG v1),(6,bz fq),(7,bz (⟨⟨v4.1,v7.1,v10.1,v13.1⟩,⟨v5,v8,v11,v14⟩,⟨(max v6.1 0),(max v9.1 0),(max v12.1 0),(max v15.1 0)⟩,v3⟩:bD))],[],[3,6,7]⟩ (bB (bt (aJ 11 ?_)))));cases h;exact bc
end
noncomputable section
variable(M:Nat→Prop)(w0:aC)(r:Int)(v1:bD)  
variable{M w0 r v1}{K:Kn}{n:Nat}
theorem kD(hK:aq K)(h:iq K n v1=some r):aS Tryd.prog 30 [.agg (bz v1)] (fun v _=>v=iI r):=by
 refine bl (cat Tryd.f30 (pn 1)) Tryd.func30 Tryd.ntmps30 fun M w0=>(bi ⟨[(0,.agg (bz v1))],[],[],[]⟩ ?_);unfold iq at h;refine aJ 5 ?_;cases h;exact bc
end
noncomputable section
variable(M:Nat→Prop)(w0:aC)(r v1:aH)(v2:Nat)(v3 v4 v5 v6 v7 v8 v9 v10 v11 v12 v13:aH)  
abbrev cX(n:Nat):av:=.c (cat Tryd.f50 (pn n))
abbrev vN:Cx:=⟨Tryd.prog,40,M,w0⟩
abbrev tM:=bodyPost Tryd.prog Tryd.f50 (bu M w0 (fun v _=>v=.agg (aG r)))
abbrev fy(ks:List av)(s:AS):=VE (vN M w0) (tM M w0 r) ks .normal s
def CQ:AS:=⟨[(1,.pp 1 v2 0),(2,.ptr 2 0),(24,.ref 10),(25,iI 11),(26,iI 10)],[(1,aG v13),(2,aG cd)],[(10,⟨125,1,lm bb [(v2,6),(v2,10),(v2,12),(v2,14),(v2,22),(v2,16),(v2,24),(v2,18),(v2,26),(v2,20),(v2,28)]⟩)],[1,2,10]⟩
def Fd:AS:=⟨[(1,.pp 1 v2 0),(2,.ptr 2 0),(24,.ref 10),(25,iI 11),(26,iI 9)],[(1,aG v12),(2,aG cd)],[(10,⟨125,1,lm bb [(v2,6),(v2,10),(v2,12),(v2,14),(v2,22),(v2,16),(v2,24),(v2,18),(v2,26),(v2,20),(v2,28)]⟩)],[1,2,10]⟩
def D8:AS:=⟨[(1,.pp 1 v2 0),(2,.ptr 2 0),(24,.ref 10),(25,iI 11),(26,iI 8)],[(1,aG v11),(2,aG cd)],[(10,⟨125,1,lm bb [(v2,6),(v2,10),(v2,12),(v2,14),(v2,22),(v2,16),(v2,24),(v2,18),(v2,26),(v2,20),(v2,28)]⟩)],[1,2,10]⟩
def JU:AS:=⟨[(1,.pp 1 v2 0),(2,.ptr 2 0),(24,.ref 10),(25,iI 11),(26,iI 7)],[(1,aG v10),(2,aG cd)],[(10,⟨125,1,lm bb [(v2,6),(v2,10),(v2,12),(v2,14),(v2,22),(v2,16),(v2,24),(v2,18),(v2,26),(v2,20),(v2,28)]⟩)],[1,2,10]⟩
def IW:AS:=⟨[(1,.pp 1 v2 0),(2,.ptr 2 0),(24,.ref 10),(25,iI 11),(26,iI 6)],[(1,aG v9),(2,aG cd)],[(10,⟨125,1,lm bb [(v2,6),(v2,10),(v2,12),(v2,14),(v2,22),(v2,16),(v2,24),(v2,18),(v2,26),(v2,20),(v2,28)]⟩)],[1,2,10]⟩
def EG:AS:=⟨[(1,.pp 1 v2 0),(2,.ptr 2 0),(24,.ref 10),(25,iI 11),(26,iI 5)],[(1,aG v8),(2,aG cd)],[(10,⟨125,1,lm bb [(v2,6),(v2,10),(v2,12),(v2,14),(v2,22),(v2,16),(v2,24),(v2,18),(v2,26),(v2,20),(v2,28)]⟩)],[1,2,10]⟩
def Ed:AS:=⟨[(1,.pp 1 v2 0),(2,.ptr 2 0),(24,.ref 10),(25,iI 11),(26,iI 4)],[(1,aG v7),(2,aG cd)],[(10,⟨125,1,lm bb [(v2,6),(v2,10),(v2,12),(v2,14),(v2,22),(v2,16),(v2,24),(v2,18),(v2,26),(v2,20),(v2,28)]⟩)],[1,2,10]⟩
def JR:AS:=⟨[(1,.pp 1 v2 0),(2,.ptr 2 0),(24,.ref 10),(25,iI 11),(26,iI 3)],[(1,aG v6),(2,aG cd)],[(10,⟨125,1,lm bb [(v2,6),(v2,10),(v2,12),(v2,14),(v2,22),(v2,16),(v2,24),(v2,18),(v2,26),(v2,20),(v2,28)]⟩)],[1,2,10]⟩
def Le:AS:=⟨[(1,.pp 1 v2 0),(2,.ptr 2 0),(24,.ref 10),(25,iI 11),(26,iI 2)],[(1,aG v5),(2,aG cd)],[(10,⟨125,1,lm bb [(v2,6),(v2,10),(v2,12),(v2,14),(v2,22),(v2,16),(v2,24),(v2,18),(v2,26),(v2,20),(v2,28)]⟩)],[1,2,10]⟩
def Iw:AS:=⟨[(1,.pp 1 v2 0),(2,.ptr 2 0),(24,.ref 10),(25,iI 11),(26,iI 1)],[(1,aG v4),(2,aG cd)],[(10,⟨125,1,lm bb [(v2,6),(v2,10),(v2,12),(v2,14),(v2,22),(v2,16),(v2,24),(v2,18),(v2,26),(v2,20),(v2,28)]⟩)],[1,2,10]⟩
def Gm:AS:=⟨[(1,.pp 1 v2 0),(2,.ptr 2 0),(24,.ref 10),(25,iI 11),(26,iI 0)],[(1,aG v3),(2,aG cd)],[(10,⟨125,1,lm bb [(v2,6),(v2,10),(v2,12),(v2,14),(v2,22),(v2,16),(v2,24),(v2,18),(v2,26),(v2,20),(v2,28)]⟩)],[1,2,10]⟩
abbrev de(m:Nat):List av:=kl (vN M w0) (tM M w0 r) [.b 2,cX 31] (cat Tryd.f50 (pn 244)) m::[.b 2,cX 31]
abbrev nk(m:Nat):List av:=kl (vN M w0) (tM M w0 r) [.b 0,cX 15] (cat Tryd.f50 (pn 116)) m::[.b 0,cX 15]
variable{M w0 r v1 v2 v3 v4 v5 v6 v7 v8 v9 v10 v11 v12 v13}{K:Kn}{n:Nat}
theorem zM(hK:aq K)(h:oJ K n v13=some r):fy M w0 r (.b 3::cX 1959::de M w0 r 29) (CQ v2 v13):=by
 unfold oJ at h;refine bC (ks':=de M w0 r 29) 2 ⟨[(1,.pp 1 v2 0),(2,.ptr 2 0),(24,.ref 10),(25,iI 11),(26,iI 11)],[(1,aG v13),(2,aG cd)],[(10,⟨125,1,lm bb [(v2,6),(v2,10),(v2,12),(v2,14),(v2,22),(v2,16),(v2,24),(v2,18),(v2,26),(v2,20),(v2,28)]⟩)],[1,2,10]⟩ (bB (bt (aJ 11 ?_)));cases h;exact bc
theorem zX(hK:aq K)(h:pe K n v12=some r):fy M w0 r (.b 3::cX 1959::de M w0 r 30) (Fd v2 v12):=by
 unfold pe at h;refine bC (ks':=de M w0 r 30) 2 ⟨[(1,.pp 1 v2 0),(2,.ptr 2 0),(24,.ref 10),(25,iI 11),(26,iI 10)],[(1,aG v12),(2,aG cd)],[(10,⟨125,1,lm bb [(v2,6),(v2,10),(v2,12),(v2,14),(v2,22),(v2,16),(v2,24),(v2,18),(v2,26),(v2,20),(v2,28)]⟩)],[1,2,10]⟩ (bB (bt (du 56 57 3 15 8 (am 0 (aF (d6 10 1 bb (L:=([(v2,6),(v2,10),(v2,12),(v2,14),(v2,22),(v2,16),(v2,24),(v2,18),(v2,26),(v2,20),(v2,28)]:List (Nat×Nat))) (i:=(10:Int)) (by kernel_rfl)) (aF (bV 125 0 bb bb (L:=([(v2,6),(v2,10),(v2,12),(v2,14),(v2,22),(v2,16),(v2,24),(v2,18),(v2,26),(v2,20),(v2,28)]:List (Nat×Nat))) (j:=(10:Int).toNat) (of_decide_eq_true (by kernel_rfl)) ((fun _=>rfl))) (ac (aA 2 3 1 (am 3 (dm 32 1 1 v2 28 0 (ac ?_)))))))))));obtain⟨h11,h⟩|⟨h11,h⟩:=ak h
 ·exact ai 34 h11 (ba 2 1 (am 3 (dm 37 1 1 v2 28 0 (ac (ah 0 (zM hK (v2:=v2) h))))))
 ·exact ai 34 h11 (ah 2 (zM hK (v2:=v2) h))
theorem CH(hK:aq K)(h:sc K n v11=some r):fy M w0 r (.b 3::cX 1959::de M w0 r 31) (D8 v2 v11):=by
 unfold sc at h;refine bC (ks':=de M w0 r 31) 2 ⟨[(1,.pp 1 v2 0),(2,.ptr 2 0),(24,.ref 10),(25,iI 11),(26,iI 9)],[(1,aG v11),(2,aG cd)],[(10,⟨125,1,lm bb [(v2,6),(v2,10),(v2,12),(v2,14),(v2,22),(v2,16),(v2,24),(v2,18),(v2,26),(v2,20),(v2,28)]⟩)],[1,2,10]⟩ (bB (bt (du 56 57 3 15 8 (am 0 (aF (d6 10 1 bb (L:=([(v2,6),(v2,10),(v2,12),(v2,14),(v2,22),(v2,16),(v2,24),(v2,18),(v2,26),(v2,20),(v2,28)]:List (Nat×Nat))) (i:=(9:Int)) (by kernel_rfl)) (aF (bV 125 0 bb bb (L:=([(v2,6),(v2,10),(v2,12),(v2,14),(v2,22),(v2,16),(v2,24),(v2,18),(v2,26),(v2,20),(v2,28)]:List (Nat×Nat))) (j:=(9:Int).toNat) (of_decide_eq_true (by kernel_rfl)) ((fun _=>rfl))) (ac (aA 2 3 1 (am 3 (dm 32 1 1 v2 20 0 (ac ?_)))))))))));obtain⟨h10,h⟩|⟨h10,h⟩:=ak h
 ·exact ai 34 h10 (ba 2 1 (am 3 (dm 37 1 1 v2 20 0 (ac (ah 0 (zX hK (v2:=v2) h))))))
 ·exact ai 34 h10 (ah 2 (zX hK (v2:=v2) h))
theorem y7(hK:aq K)(h:rK K n v10=some r):fy M w0 r (.b 3::cX 1959::de M w0 r 32) (JU v2 v10):=by
 unfold rK at h;refine bC (ks':=de M w0 r 32) 2 ⟨[(1,.pp 1 v2 0),(2,.ptr 2 0),(24,.ref 10),(25,iI 11),(26,iI 8)],[(1,aG v10),(2,aG cd)],[(10,⟨125,1,lm bb [(v2,6),(v2,10),(v2,12),(v2,14),(v2,22),(v2,16),(v2,24),(v2,18),(v2,26),(v2,20),(v2,28)]⟩)],[1,2,10]⟩ (bB (bt (du 56 57 3 15 8 (am 0 (aF (d6 10 1 bb (L:=([(v2,6),(v2,10),(v2,12),(v2,14),(v2,22),(v2,16),(v2,24),(v2,18),(v2,26),(v2,20),(v2,28)]:List (Nat×Nat))) (i:=(8:Int)) (by kernel_rfl)) (aF (bV 125 0 bb bb (L:=([(v2,6),(v2,10),(v2,12),(v2,14),(v2,22),(v2,16),(v2,24),(v2,18),(v2,26),(v2,20),(v2,28)]:List (Nat×Nat))) (j:=(8:Int).toNat) (of_decide_eq_true (by kernel_rfl)) ((fun _=>rfl))) (ac (aA 2 3 1 (am 3 (dm 32 1 1 v2 26 0 (ac ?_)))))))))));obtain⟨h9,h⟩|⟨h9,h⟩:=ak h
 ·exact ai 34 h9 (ba 2 1 (am 3 (dm 37 1 1 v2 26 0 (ac (ah 0 (CH hK (v2:=v2) h))))))
 ·exact ai 34 h9 (ah 2 (CH hK (v2:=v2) h))
theorem Ah(hK:aq K)(h:o9 K n v9=some r):fy M w0 r (.b 3::cX 1959::de M w0 r 33) (IW v2 v9):=by
 unfold o9 at h;refine bC (ks':=de M w0 r 33) 2 ⟨[(1,.pp 1 v2 0),(2,.ptr 2 0),(24,.ref 10),(25,iI 11),(26,iI 7)],[(1,aG v9),(2,aG cd)],[(10,⟨125,1,lm bb [(v2,6),(v2,10),(v2,12),(v2,14),(v2,22),(v2,16),(v2,24),(v2,18),(v2,26),(v2,20),(v2,28)]⟩)],[1,2,10]⟩ (bB (bt (du 56 57 3 15 8 (am 0 (aF (d6 10 1 bb (L:=([(v2,6),(v2,10),(v2,12),(v2,14),(v2,22),(v2,16),(v2,24),(v2,18),(v2,26),(v2,20),(v2,28)]:List (Nat×Nat))) (i:=(7:Int)) (by kernel_rfl)) (aF (bV 125 0 bb bb (L:=([(v2,6),(v2,10),(v2,12),(v2,14),(v2,22),(v2,16),(v2,24),(v2,18),(v2,26),(v2,20),(v2,28)]:List (Nat×Nat))) (j:=(7:Int).toNat) (of_decide_eq_true (by kernel_rfl)) ((fun _=>rfl))) (ac (aA 2 3 1 (am 3 (dm 32 1 1 v2 18 0 (ac ?_)))))))))));obtain⟨h8,h⟩|⟨h8,h⟩:=ak h
 ·exact ai 34 h8 (ba 2 1 (am 3 (dm 37 1 1 v2 18 0 (ac (ah 0 (y7 hK (v2:=v2) h))))))
 ·exact ai 34 h8 (ah 2 (y7 hK (v2:=v2) h))
theorem Au(hK:aq K)(h:qn K n v8=some r):fy M w0 r (.b 3::cX 1959::de M w0 r 34) (EG v2 v8):=by
 unfold qn at h;refine bC (ks':=de M w0 r 34) 2 ⟨[(1,.pp 1 v2 0),(2,.ptr 2 0),(24,.ref 10),(25,iI 11),(26,iI 6)],[(1,aG v8),(2,aG cd)],[(10,⟨125,1,lm bb [(v2,6),(v2,10),(v2,12),(v2,14),(v2,22),(v2,16),(v2,24),(v2,18),(v2,26),(v2,20),(v2,28)]⟩)],[1,2,10]⟩ (bB (bt (du 56 57 3 15 8 (am 0 (aF (d6 10 1 bb (L:=([(v2,6),(v2,10),(v2,12),(v2,14),(v2,22),(v2,16),(v2,24),(v2,18),(v2,26),(v2,20),(v2,28)]:List (Nat×Nat))) (i:=(6:Int)) (by kernel_rfl)) (aF (bV 125 0 bb bb (L:=([(v2,6),(v2,10),(v2,12),(v2,14),(v2,22),(v2,16),(v2,24),(v2,18),(v2,26),(v2,20),(v2,28)]:List (Nat×Nat))) (j:=(6:Int).toNat) (of_decide_eq_true (by kernel_rfl)) ((fun _=>rfl))) (ac (aA 2 3 1 (am 3 (dm 32 1 1 v2 24 0 (ac ?_)))))))))));obtain⟨h7,h⟩|⟨h7,h⟩:=ak h
 ·exact ai 34 h7 (ba 2 1 (am 3 (dm 37 1 1 v2 24 0 (ac (ah 0 (Ah hK (v2:=v2) h))))))
 ·exact ai 34 h7 (ah 2 (Ah hK (v2:=v2) h))
theorem AA(hK:aq K)(h:oM K n v7=some r):fy M w0 r (.b 3::cX 1959::de M w0 r 35) (Ed v2 v7):=by
 unfold oM at h;refine bC (ks':=de M w0 r 35) 2 ⟨[(1,.pp 1 v2 0),(2,.ptr 2 0),(24,.ref 10),(25,iI 11),(26,iI 5)],[(1,aG v7),(2,aG cd)],[(10,⟨125,1,lm bb [(v2,6),(v2,10),(v2,12),(v2,14),(v2,22),(v2,16),(v2,24),(v2,18),(v2,26),(v2,20),(v2,28)]⟩)],[1,2,10]⟩ (bB (bt (du 56 57 3 15 8 (am 0 (aF (d6 10 1 bb (L:=([(v2,6),(v2,10),(v2,12),(v2,14),(v2,22),(v2,16),(v2,24),(v2,18),(v2,26),(v2,20),(v2,28)]:List (Nat×Nat))) (i:=(5:Int)) (by kernel_rfl)) (aF (bV 125 0 bb bb (L:=([(v2,6),(v2,10),(v2,12),(v2,14),(v2,22),(v2,16),(v2,24),(v2,18),(v2,26),(v2,20),(v2,28)]:List (Nat×Nat))) (j:=(5:Int).toNat) (of_decide_eq_true (by kernel_rfl)) ((fun _=>rfl))) (ac (aA 2 3 1 (am 3 (dm 32 1 1 v2 16 0 (ac ?_)))))))))));obtain⟨h6,h⟩|⟨h6,h⟩:=ak h
 ·exact ai 34 h6 (ba 2 1 (am 3 (dm 37 1 1 v2 16 0 (ac (ah 0 (Au hK (v2:=v2) h))))))
 ·exact ai 34 h6 (ah 2 (Au hK (v2:=v2) h))
theorem Cr(hK:aq K)(h:qg K n v6=some r):fy M w0 r (.b 3::cX 1959::de M w0 r 36) (JR v2 v6):=by
 unfold qg at h;refine bC (ks':=de M w0 r 36) 2 ⟨[(1,.pp 1 v2 0),(2,.ptr 2 0),(24,.ref 10),(25,iI 11),(26,iI 4)],[(1,aG v6),(2,aG cd)],[(10,⟨125,1,lm bb [(v2,6),(v2,10),(v2,12),(v2,14),(v2,22),(v2,16),(v2,24),(v2,18),(v2,26),(v2,20),(v2,28)]⟩)],[1,2,10]⟩ (bB (bt (du 56 57 3 15 8 (am 0 (aF (d6 10 1 bb (L:=([(v2,6),(v2,10),(v2,12),(v2,14),(v2,22),(v2,16),(v2,24),(v2,18),(v2,26),(v2,20),(v2,28)]:List (Nat×Nat))) (i:=(4:Int)) (by kernel_rfl)) (aF (bV 125 0 bb bb (L:=([(v2,6),(v2,10),(v2,12),(v2,14),(v2,22),(v2,16),(v2,24),(v2,18),(v2,26),(v2,20),(v2,28)]:List (Nat×Nat))) (j:=(4:Int).toNat) (of_decide_eq_true (by kernel_rfl)) ((fun _=>rfl))) (ac (aA 2 3 1 (am 3 (dm 32 1 1 v2 22 0 (ac ?_)))))))))));obtain⟨h5,h⟩|⟨h5,h⟩:=ak h
 ·exact ai 34 h5 (ba 2 1 (am 3 (dm 37 1 1 v2 22 0 (ac (ah 0 (AA hK (v2:=v2) h))))))
 ·exact ai 34 h5 (ah 2 (AA hK (v2:=v2) h))
theorem yw(hK:aq K)(h:qN K n v5=some r):fy M w0 r (.b 3::cX 1959::de M w0 r 37) (Le v2 v5):=by
 unfold qN at h;refine bC (ks':=de M w0 r 37) 2 ⟨[(1,.pp 1 v2 0),(2,.ptr 2 0),(24,.ref 10),(25,iI 11),(26,iI 3)],[(1,aG v5),(2,aG cd)],[(10,⟨125,1,lm bb [(v2,6),(v2,10),(v2,12),(v2,14),(v2,22),(v2,16),(v2,24),(v2,18),(v2,26),(v2,20),(v2,28)]⟩)],[1,2,10]⟩ (bB (bt (du 56 57 3 15 8 (am 0 (aF (d6 10 1 bb (L:=([(v2,6),(v2,10),(v2,12),(v2,14),(v2,22),(v2,16),(v2,24),(v2,18),(v2,26),(v2,20),(v2,28)]:List (Nat×Nat))) (i:=(3:Int)) (by kernel_rfl)) (aF (bV 125 0 bb bb (L:=([(v2,6),(v2,10),(v2,12),(v2,14),(v2,22),(v2,16),(v2,24),(v2,18),(v2,26),(v2,20),(v2,28)]:List (Nat×Nat))) (j:=(3:Int).toNat) (of_decide_eq_true (by kernel_rfl)) ((fun _=>rfl))) (ac (aA 2 3 1 (am 3 (dm 32 1 1 v2 14 0 (ac ?_)))))))))));obtain⟨h4,h⟩|⟨h4,h⟩:=ak h
 ·exact ai 34 h4 (ba 2 1 (am 3 (dm 37 1 1 v2 14 0 (ac (ah 0 (Cr hK (v2:=v2) h))))))
 ·exact ai 34 h4 (ah 2 (Cr hK (v2:=v2) h))
theorem y9(hK:aq K)(h:rZ K n v4=some r):fy M w0 r (.b 3::cX 1959::de M w0 r 38) (Iw v2 v4):=by
 unfold rZ at h;refine bC (ks':=de M w0 r 38) 2 ⟨[(1,.pp 1 v2 0),(2,.ptr 2 0),(24,.ref 10),(25,iI 11),(26,iI 2)],[(1,aG v4),(2,aG cd)],[(10,⟨125,1,lm bb [(v2,6),(v2,10),(v2,12),(v2,14),(v2,22),(v2,16),(v2,24),(v2,18),(v2,26),(v2,20),(v2,28)]⟩)],[1,2,10]⟩ (bB (bt (du 56 57 3 15 8 (am 0 (aF (d6 10 1 bb (L:=([(v2,6),(v2,10),(v2,12),(v2,14),(v2,22),(v2,16),(v2,24),(v2,18),(v2,26),(v2,20),(v2,28)]:List (Nat×Nat))) (i:=(2:Int)) (by kernel_rfl)) (aF (bV 125 0 bb bb (L:=([(v2,6),(v2,10),(v2,12),(v2,14),(v2,22),(v2,16),(v2,24),(v2,18),(v2,26),(v2,20),(v2,28)]:List (Nat×Nat))) (j:=(2:Int).toNat) (of_decide_eq_true (by kernel_rfl)) ((fun _=>rfl))) (ac (aA 2 3 1 (am 3 (dm 32 1 1 v2 12 0 (ac ?_)))))))))));obtain⟨h3,h⟩|⟨h3,h⟩:=ak h
 ·exact ai 34 h3 (ba 2 1 (am 3 (dm 37 1 1 v2 12 0 (ac (ah 0 (yw hK (v2:=v2) h))))))
 ·exact ai 34 h3 (ah 2 (yw hK (v2:=v2) h))
theorem yu(hK:aq K)(h:qZ K n v3=some r):fy M w0 r (.b 3::cX 1959::de M w0 r 39) (Gm v2 v3):=by
 unfold qZ at h;refine bC (ks':=de M w0 r 39) 2 ⟨[(1,.pp 1 v2 0),(2,.ptr 2 0),(24,.ref 10),(25,iI 11),(26,iI 1)],[(1,aG v3),(2,aG cd)],[(10,⟨125,1,lm bb [(v2,6),(v2,10),(v2,12),(v2,14),(v2,22),(v2,16),(v2,24),(v2,18),(v2,26),(v2,20),(v2,28)]⟩)],[1,2,10]⟩ (bB (bt (du 56 57 3 15 8 (am 0 (aF (d6 10 1 bb (L:=([(v2,6),(v2,10),(v2,12),(v2,14),(v2,22),(v2,16),(v2,24),(v2,18),(v2,26),(v2,20),(v2,28)]:List (Nat×Nat))) (i:=(1:Int)) (by kernel_rfl)) (aF (bV 125 0 bb bb (L:=([(v2,6),(v2,10),(v2,12),(v2,14),(v2,22),(v2,16),(v2,24),(v2,18),(v2,26),(v2,20),(v2,28)]:List (Nat×Nat))) (j:=(1:Int).toNat) (of_decide_eq_true (by kernel_rfl)) ((fun _=>rfl))) (ac (aA 2 3 1 (am 3 (dm 32 1 1 v2 10 0 (ac ?_)))))))))));obtain⟨h2,h⟩|⟨h2,h⟩:=ak h
 ·exact ai 34 h2 (ba 2 1 (am 3 (dm 37 1 1 v2 10 0 (ac (ah 0 (y9 hK (v2:=v2) h))))))
 ·exact ai 34 h2 (ah 2 (y9 hK (v2:=v2) h))
theorem Cz(hK:aq K)(h:ro K n v1=some r):aS Tryd.prog 50 [.agg (aG v1)] (fun v _=>v=.agg (aG r)):=by
 refine bl (cat Tryd.f50 (pn 1)) Tryd.func50 Tryd.ntmps50 fun M w0=>(bi ⟨[(0,.agg (aG v1))],[],[],[]⟩ ?_);unfold ro at h;refine aA 6 7 3 (F1 1 1 0 fun v2=>(am 3 (GA 126 3 #[(0,(.tmp 7)),(1,(.tmp 8)),(2,(.tmp 9))] 10 (e:=125) (sz:=1) (l:=lm bb [(v2,6),(v2,10),(v2,12)]) (ac (bC (ks':=[cX 58,.b 0,cX 15]) 4 ⟨[(1,.pp 1 v2 0),(2,.ptr 2 0),(3,.ref 10),(11,iI 0)],[(1,aG v1),(2,aG cd)],[(10,⟨125,1,lm bb [(v2,6),(v2,10),(v2,12)]⟩)],[1,2,10]⟩ (mU 40 (c:=cat Tryd.f50 [1,1,0,1,0,0]) (by kernel_rfl) (bt (cC (ks':=cX 3737 :: .b 1::cX 935::nk M w0 r 39) 9 (bU [1,2,3,4,11] [1,2] [10] (bZ 2 (nu 14 [.ref 10,iI 0,.adr v2 14,.adr v2 14,iI 0,.adr v2 22,.adr v2 22,.sl (lm bb [(v2,14),(v2,22)])]) [] [] [jx 22 10 ⟨125,1,lm bb [(v2,6),(v2,10),(v2,12),(v2,14),(v2,22)]⟩,bL Tryd.prog 40 Tryd.f50 (pn 3737) 9] (aB [.v 0 1,.v 0 2,.v 0 2,.v 0 2,.v 0 2,.v 0 2,.v 0 2,.v 0 1] (aj (gw (m:=0) (cT 22 10 125 1 bb (L:=([(v2,6),(v2,10),(v2,12)]:List (Nat×Nat))) (M:=([(v2,14),(v2,22)]:(List (Nat×Nat)))) (bytes:=8) (rfl) (fun _=>rfl) (by kernel_rfl))) (aj (bQ 1) bW))) (bC (ks':=nk M w0 r 39) 2 ⟨[(1,.pp 1 v2 0),(2,.ptr 2 0),(3,.ref 10),(11,iI 1)],[(1,aG v1),(2,aG cd)],[(10,⟨125,1,lm bb [(v2,6),(v2,10),(v2,12),(v2,14),(v2,22)]⟩)],[1,2,10]⟩ (bB (bt (iS 57 1 15 9 (bU [1,2,3,4,11] [1,2] [10] (bZ 2 (nu 14 [.ref 10,iI 1,.adr v2 14,.adr v2 16,iI 1,.adr v2 22,.adr v2 24,.sl (lm bb [(v2,16),(v2,24)])]) [] [] [jx 22 10 ⟨125,1,lm bb [(v2,6),(v2,10),(v2,12),(v2,14),(v2,22),(v2,16),(v2,24)]⟩,bL Tryd.prog 40 Tryd.f50 (pn 3737) 9] (aB [.v 0 1,.v 0 2,.v 0 2,.v 0 2,.v 0 2,.v 0 2,.v 0 2,.v 0 1] (aj (gw (m:=0) (cT 22 10 125 1 bb (L:=([(v2,6),(v2,10),(v2,12),(v2,14),(v2,22)]:List (Nat×Nat))) (M:=([(v2,16),(v2,24)]:(List (Nat×Nat)))) (bytes:=8) (rfl) (fun _=>rfl) (by kernel_rfl))) (aj (bQ 1) bW))) (bC (ks':=nk M w0 r 38) 2 ⟨[(1,.pp 1 v2 0),(2,.ptr 2 0),(3,.ref 10),(11,iI 2)],[(1,aG v1),(2,aG cd)],[(10,⟨125,1,lm bb [(v2,6),(v2,10),(v2,12),(v2,14),(v2,22),(v2,16),(v2,24)]⟩)],[1,2,10]⟩ (bB (bt (iS 57 1 15 9 (bU [1,2,3,4,11] [1,2] [10] (bZ 2 (nu 14 [.ref 10,iI 2,.adr v2 14,.adr v2 18,iI 2,.adr v2 22,.adr v2 26,.sl (lm bb [(v2,18),(v2,26)])]) [] [] [jx 22 10 ⟨125,1,lm bb [(v2,6),(v2,10),(v2,12),(v2,14),(v2,22),(v2,16),(v2,24),(v2,18),(v2,26)]⟩,bL Tryd.prog 40 Tryd.f50 (pn 3737) 9] (aB [.v 0 1,.v 0 2,.v 0 2,.v 0 2,.v 0 2,.v 0 2,.v 0 2,.v 0 1] (aj (gw (m:=0) (cT 22 10 125 1 bb (L:=([(v2,6),(v2,10),(v2,12),(v2,14),(v2,22),(v2,16),(v2,24)]:List (Nat×Nat))) (M:=([(v2,18),(v2,26)]:(List (Nat×Nat)))) (bytes:=8) (rfl) (fun _=>rfl) (by kernel_rfl))) (aj (bQ 1) bW))) (bC (ks':=nk M w0 r 37) 2 ⟨[(1,.pp 1 v2 0),(2,.ptr 2 0),(3,.ref 10),(11,iI 3)],[(1,aG v1),(2,aG cd)],[(10,⟨125,1,lm bb [(v2,6),(v2,10),(v2,12),(v2,14),(v2,22),(v2,16),(v2,24),(v2,18),(v2,26)]⟩)],[1,2,10]⟩ ?_)))))))))))))))))))))))
 refine bB (bt (iS 57 1 15 9 (bU [1,2,3,4,11] [1,2] [10] (bZ 2 (nu 14 [.ref 10,iI 3,.adr v2 14,.adr v2 20,iI 3,.adr v2 22,.adr v2 28,.sl (lm bb [(v2,20),(v2,28)])]) [] [] [jx 22 10 ⟨125,1,lm bb [(v2,6),(v2,10),(v2,12),(v2,14),(v2,22),(v2,16),(v2,24),(v2,18),(v2,26),(v2,20),(v2,28)]⟩,bL Tryd.prog 40 Tryd.f50 (pn 3737) 9] (aB [.v 0 1,.v 0 2,.v 0 2,.v 0 2,.v 0 2,.v 0 2,.v 0 2,.v 0 1] (aj (gw (m:=0) (cT 22 10 125 1 bb (L:=([(v2,6),(v2,10),(v2,12),(v2,14),(v2,22),(v2,16),(v2,24),(v2,18),(v2,26)]:List (Nat×Nat))) (M:=([(v2,20),(v2,28)]:(List (Nat×Nat)))) (bytes:=8) (rfl) (fun _=>rfl) (by kernel_rfl))) (aj (bQ 1) bW))) (bC (ks':=nk M w0 r 36) 2 ⟨[(1,.pp 1 v2 0),(2,.ptr 2 0),(3,.ref 10),(11,iI 4)],[(1,aG v1),(2,aG cd)],[(10,⟨125,1,lm bb [(v2,6),(v2,10),(v2,12),(v2,14),(v2,22),(v2,16),(v2,24),(v2,18),(v2,26),(v2,20),(v2,28)]⟩)],[1,2,10]⟩ (bB (bt (Fm 4 5 3 10 (am 1 (aF (bE bb ([(v2,6),(v2,10),(v2,12),(v2,14),(v2,22),(v2,16),(v2,24),(v2,18),(v2,26),(v2,20),(v2,28)]:List (Nat×Nat))) (ac (bC (ks':=[cX 122,.b 2,cX 31]) 1 ⟨[(1,.pp 1 v2 0),(2,.ptr 2 0),(24,.ref 10),(25,iI 11),(26,iI 0)],[(1,aG v1),(2,aG cd)],[(10,⟨125,1,lm bb [(v2,6),(v2,10),(v2,12),(v2,14),(v2,22),(v2,16),(v2,24),(v2,18),(v2,26),(v2,20),(v2,28)]⟩)],[1,2,10]⟩ (mU 40 (c:=cat Tryd.f50 [1,1,1,0,1,0,0]) (by kernel_rfl) (bt (cC (ks':=cX 7832::cX 7833 :: .b 3::cX 1959::de M w0 r 39) 8 (am 0 (aF (d6 10 1 bb (L:=([(v2,6),(v2,10),(v2,12),(v2,14),(v2,22),(v2,16),(v2,24),(v2,18),(v2,26),(v2,20),(v2,28)]:List (Nat×Nat))) (i:=(0:Int)) (by kernel_rfl)) (aF (bV 125 0 bb bb (L:=([(v2,6),(v2,10),(v2,12),(v2,14),(v2,22),(v2,16),(v2,24),(v2,18),(v2,26),(v2,20),(v2,28)]:List (Nat×Nat))) (j:=(0:Int).toNat) (of_decide_eq_true (by kernel_rfl)) ((fun _=>rfl))) (ac (aA 2 3 1 (am 3 (dm 32 1 1 v2 6 0 (ac ?_)))))))))))))))))))))))
 obtain⟨h1,h⟩|⟨h1,h⟩:=ak h
 ·exact ai 34 h1 (ba 2 1 (am 3 (dm 37 1 1 v2 6 0 (ac (ah 0 (yu hK (v2:=v2) h))))))
 ·exact ai 34 h1 (ah 2 (yu hK (v2:=v2) h))
end
noncomputable section
variable(M:Nat→Prop)(w0:aC)(r:Int)(v1:List au)(v2:Fv)(v4:Int)(m1:Nat)(L1:Int→Option Int)
abbrev uU:Cx:=⟨Tryd.prog,19,M,w0⟩
abbrev sV:=bodyPost Tryd.prog Tryd.f75 (bu M w0 (fun v _=>v=iI r))
abbrev D4(ks:List av)(s:AS):=VE (uU M w0) (sV M w0 r) ks .normal s
abbrev wI(n:Nat):av:=.c (cat Tryd.f75 (pn n))
abbrev s9:List av:=[.b 0,wI 7]
abbrev G1:List av:=kl (uU M w0) (sV M w0 r) s9 (cat Tryd.f75 (pn 52)) m1::s9
def Bc:AS:=⟨[(0,.sl (lm aW v1)),(1,.fn v2.id v2.aK),(7,iI (v1.length:Int)),(8,iI v4)],[],[],[]⟩
abbrev BN:Prop:=∀{v4:Int},L1 v4=some r→LP (uU M w0) (sV M w0 r) s9 (cat Tryd.f75 (pn 52)) m1 (Bc v1 v2 v4)
variable{M w0 r v1 v2 v4 m1 L1}{K:Kn}{n:Nat}
theorem Jm(hK:aq K)(hL1:BN M w0 r v1 v2 m1 L1)(h:pg K n v1 v2 L1 v4=some r):D4 M w0 r (wI 52::G1 M w0 r m1) (Bc v1 v2 v4):=by
 unfold pg at h;refine aA 6 7 3 ?_;obtain⟨h5,h⟩|⟨h5,h⟩:=ak h
 ·refine ai 9 h5 (dv 18 19 1 3 7 (am 3 ?_));obtain⟨h6,h⟩:=aU h;refine aF (bO aW aZ h6 (fL) (ep)) (aN 5 1 ?_);obtain⟨v5,h7,h⟩:=bind_some h;refine kL (hK.rW h7) (ac ?_);obtain⟨h8,h⟩|⟨h8,h⟩:=ak h
  ·refine ai 16 h8 (aJ 9 ?_);cases h;exact bc
  ·exact ai 16 h8 (ah 4 (bB (hL1 h)))
 ·refine ai 9 h5 (aJ 8 ?_);cases h;exact bc
theorem DS(hK:aq K)(m:Nat):BN M w0 r v1 v2 m (pT K n v1 v2 m):=by
 induction m with
 | zero=>intro v4 h;cases h
 | succ m ih=>intro v4 h;have h:pg K n v1 v2 (pT K n v1 v2 m) v4=some r:=h;exact bt (Jm hK ih h)
theorem Ig(hK:aq K)(h:uH K n v1 v2=some r):aS Tryd.prog 75 [.sl (lm aW v1),.fn v2.id v2.aK] (fun v _=>v=iI r):=by
 refine bl (cat Tryd.f75 (pn 1)) Tryd.func75 Tryd.ntmps75 fun M w0=>(bi ⟨[(0,.sl (lm aW v1)),(1,.fn v2.id v2.aK)],[],[],[]⟩ ?_);unfold uH at h;exact cj 12 13 7 4 (am 1 (aF (bE aW v1) (ac (ah 1 (cH (p:=pn 26) n (DS hK n h))))))
end
noncomputable section
variable(M:Nat→Prop)(w0:aC)(r:Bool)(v1:List au)(v2:Fv)  
variable{M w0 r v1 v2}{K:Kn}{n:Nat}
theorem JC(hK:aq K)(h:wk K n v1 v2=some r):aS Tryd.prog 71 [.sl (lm aW v1),.fn v2.id v2.aK] (fun v _=>v=.bool r):=by
 refine bl (cat Tryd.f71 (pn 1)) Tryd.func71 Tryd.ntmps71 fun M w0=>(bi ⟨[(0,.sl (lm aW v1)),(1,.fn v2.id v2.aK)],[],[],[]⟩ ?_);unfold wk at h;refine aA 6 7 3 (am 2 ?_);obtain⟨v3,h1,h⟩:=bind_some h;refine aO (Ig hK h1) (ac (aJ 1 ?_));cases h;exact bc
end
noncomputable section
variable(M:Nat→Prop)(w0:aC)(r:(List au)×Bool)(v1:au)(v8:Int)(v9 v11:(List au))(m1:Nat)(L1:Int→(List au)→Option ((List au)×Bool))
abbrev sR:Cx:=⟨Tryd.prog,24,M,w0⟩
abbrev uN:=bodyPost Tryd.prog Tryd.f60 (bu M w0 (fun v _=>v=.tup [.sl (lm aW r.1),.bool r.2]))
abbrev yW(ks:List av)(s:AS):=VE (sR M w0) (uN M w0 r) ks .normal s
abbrev tk(n:Nat):av:=.c (cat Tryd.f60 (pn n))
abbrev sY:List av:=[.b 0,tk 15]
abbrev BV:List av:=kl (sR M w0) (uN M w0 r) sY (cat Tryd.f60 (pn 116)) m1::sY
def FC:AS:=⟨[(4,.ref 19),(8,.sl (lm aW v1.Kids)),(9,iI (v1.Kids.length:Int)),(10,iI v8)],[],[(19,⟨36,59,lm aW v11⟩)],[19]⟩
def AI:AS:=⟨[(4,.ref 19),(8,.sl (lm aW v1.Kids)),(9,iI (v1.Kids.length:Int)),(10,iI v8)],[],[(19,⟨36,59,lm aW v9⟩)],[19]⟩
abbrev uy:Prop:=∀{v8:Int} {v9:(List au)},L1 v8 v9=some r→LP (sR M w0) (uN M w0 r) sY (cat Tryd.f60 (pn 116)) m1 (AI v1 v8 v9)
variable{M w0 r v1 v8 v9 v11 m1 L1}{K:Kn}{n:Nat}
theorem zu(hK:aq K)(hL1:uy M w0 r v1 m1 L1)(h:oY K n v1 v8 L1 v11=some r):yW M w0 r (.b 1::tk 935::BV M w0 r m1) (FC v1 v8 v11):=by
 unfold oY at h;exact ah 2 (bB (hL1 h))
theorem KT(hK:aq K)(hL1:uy M w0 r v1 m1 L1)(h:o6 K n v1 L1 v8 v9=some r):yW M w0 r (tk 116::BV M w0 r m1) (AI v1 v8 v9):=by
 unfold o6 at h;refine aA 6 7 3 ?_;obtain⟨h13,h⟩|⟨h13,h⟩:=ak h
 ·refine ai 11 h13 (dv 8 9 1 3 5 (am 0 ?_));obtain⟨h14,h⟩:=aU h;refine aF (bO aW aZ h14 (fL) (ep)) (ac (aA 2 3 1 (am 1 ?_)));obtain⟨v10,h15,h⟩:=bind_some h;refine aO (Cd hK h15) (ac ?_);obtain⟨h16,h⟩|⟨h16,h⟩:=ak h
  ·refine ai 15 h16 (ba 2 1 (am 2 (aF (fh aW ([(gD v1.Kids v8)]:List au) (new:=[aZ (gD v1.Kids v8)]) (by simp only[List.map_cons,List.map_nil,ep])) ?_)));obtain⟨h17,h⟩:=aU h;exact aF (cT 19 19 36 59 aW (rfl) (fL) h17) (ac (ah 0 (zu hK hL1 h)))
  ·exact ai 15 h16 (ah 2 (zu hK hL1 h))
 ·refine ai 11 h13 (nz 2 3 6 (am 2 (pJ 19 ?_)));obtain⟨v12,h18,h⟩:=bind_some h;refine aO (JC hK h18) (ac (aJ 1 ?_));cases h;exact fT
theorem Kz(hK:aq K)(m:Nat):uy M w0 r v1 m (qV K n v1 m):=by
 induction m with
 | zero=>intro v8 v9 h;cases h
 | succ m ih=>intro v8 v9 h;have h:o6 K n v1 (qV K n v1 m) v8 v9=some r:=h;exact bt (KT hK ih h)
theorem A4(hK:aq K)(h:qY K n v1=some r):aS Tryd.prog 60 [.agg (aZ v1)] (fun v _=>v=.tup [.sl (lm aW r.1),.bool r.2]):=by
 refine bl (cat Tryd.f60 (pn 1)) Tryd.func60 Tryd.ntmps60 fun M w0=>(bi ⟨[(0,.agg (aZ v1))],[],[],[]⟩ ?_);unfold qY at h;exact cj 28 29 15 6 (am 2 (aF (bE aW v1.Kids) (ac (gV 2 0 1 (bU [4,8,9,10] [] [] (gA 19 4 36 59 (ah 0 (cH (p:=pn 58) n (Kz hK n h)))))))))
end
noncomputable section
variable(M:Nat→Prop)(w0:aC)(r:Int×Int)(v1:au)(v2:cq)(v6:(List au)×Bool)(v11 v12 v13:Int)(m1:Nat)(L1:Int→Int→Int→Option (Int×Int))
abbrev wE:Cx:=⟨Tryd.prog,71,M,w0⟩
abbrev tR:=bodyPost Tryd.prog Tryd.f45 (bu M w0 (fun v _=>v=.tup [iI r.1,iI r.2]))
abbrev GK(ks:List av)(s:AS):=VE (wE M w0) (tR M w0 r) ks .normal s
abbrev xj(n:Nat):av:=.c (cat Tryd.f45 (pn n))
abbrev tT:List av:=[.b 0,xj 63]
abbrev F2:List av:=kl (wE M w0) (tR M w0 r) tT (cat Tryd.f45 (pn 500)) m1::tT
def BQ:AS:=⟨[(3,.ptr 3 0),(4,iI v11),(5,iI v12),(47,.sl (lm aW v6.1)),(48,iI (v6.1.length:Int)),(49,iI v13)],[(3,ct v2)],[],[3]⟩
abbrev yD:Prop:=∀{v11:Int} {v12:Int} {v13:Int},L1 v11 v12 v13=some r→LP (wE M w0) (tR M w0 r) tT (cat Tryd.f45 (pn 500)) m1 (BQ v2 v6 v11 v12 v13)
variable{M w0 r v1 v2 v6 v11 v12 v13 m1 L1}{K:Kn}{n:Nat}
theorem FX(hK:aq K)(hL1:yD M w0 r v2 v6 m1 L1)(h:oP K n v2 v6 L1 v11 v12 v13=some r):GK M w0 r (xj 500::F2 M w0 r m1) (BQ v2 v6 v11 v12 v13):=by
 unfold oP at h;refine aA 6 7 3 ?_;obtain⟨h13,h⟩|⟨h13,h⟩:=ak h
 ·refine ai 50 h13 (dv 8 9 1 3 5 (am 0 ?_));obtain⟨h14,h⟩:=aU h;refine aF (bO aW aZ h14 (fL) (ep)) (ac (aA 2 3 1 (am 3 ?_)));obtain⟨v14,h15,h⟩:=bind_some h;exact kL (hK.pX h15) (ac (ah 3 (bB (hL1 h))))
 ·refine ai 50 h13 (nz 2 3 6 (am 1 ?_));obtain⟨v15,h16,h⟩:=bind_some h;refine aO (fg hK h16) (aN 3 1 ?_);obtain⟨v16,h17,h⟩:=bind_some h;refine aO (fg hK h17) (ac (aJ 1 ?_));cases h;exact fT
theorem G6(hK:aq K)(m:Nat):yD M w0 r v2 v6 m (rD K n v2 v6 m):=by
 induction m with
 | zero=>intro v11 v12 v13 h;cases h
 | succ m ih=>intro v11 v12 v13 h;have h:oP K n v2 v6 (rD K n v2 v6 m) v11 v12 v13=some r:=h;exact bt (FX hK ih h)
theorem wV(hK:aq K)(h:qq K n v1 v2=some r):aS Tryd.prog 45 [.agg (aZ v1),.agg (ct v2)] (fun v _=>v=.tup [iI r.1,iI r.2]):=by
 refine bl (cat Tryd.f45 (pn 1)) Tryd.func45 Tryd.ntmps45 fun M w0=>(bi ⟨[(0,.agg (aZ v1)),(1,.agg (ct v2))],[],[],[]⟩ ?_);unfold qq at h;refine cj 12 13 7 4 (am 2 ?_);obtain⟨v3,h1,h⟩:=bind_some h;refine aO (Cz hK h1) (aN 4 1 ?_);obtain⟨v4,h2,h⟩:=bind_some h;refine aO (dR hK h2) (ac (ba 3 2 ?_));obtain⟨h3,h⟩|⟨h3,h⟩:=ak h
 ·refine ai 22 h3 (aA 4 5 2 (am 1 ?_));obtain⟨v5,h4,h⟩:=bind_some h;refine aO (fg hK h4) (ac (aJ 4 ?_));cases h;exact fT
 ·refine ai 22 h3 (gm 2 3 3 (am 1 ?_));obtain⟨v6,h5,h⟩:=bind_some h;refine aO (A4 hK h5) (ac (aA 5 3 3 ?_));obtain⟨h6,h⟩|⟨h6,h⟩:=ak h
  ·refine ai 33 h6 (aA 4 5 2 (am 5 ?_));obtain⟨v7,h7,h⟩:=bind_some h;refine kL (hK.qB h7) (ac (aA 2 3 1 (am 1 ?_)));obtain⟨v8,h8,h⟩:=bind_some h;refine aO (fg hK h8) (aN 3 1 ?_);obtain⟨v9,h9,h⟩:=bind_some h;refine aO (fg hK h9) (ac (aJ 2 ?_));cases h;exact fT
  ·exact ai 33 h6 (mc 4 5 3 4 (am 1 (aF (bE aW v6.1) (ac (ah 1 (cH (p:=pn 250) n (G6 hK n h)))))))
end
noncomputable section
variable(M:Nat→Prop)(w0:aC)(r:Int)(v1:aH)(v2 v3 v5 v7:Int)  
abbrev yd(n:Nat):av:=.c (cat Tryd.f46 (pn n))
abbrev IA:Cx:=⟨Tryd.prog,37,M,w0⟩
abbrev Lm:=bodyPost Tryd.prog Tryd.f46 (bu M w0 (fun v _=>v=iI r))
abbrev BZ(ks:List av)(s:AS):=VE (IA M w0) (Lm M w0 r) ks .normal s
def GN:AS:=⟨[(2,iI v7)],[],[],[]⟩
def GP:AS:=⟨[(1,iI v2),(2,iI v5),(3,.ptr 3 0)],[(3,aG v1)],[],[3]⟩
variable{M w0 r v1 v2 v3 v5 v7}{K:Kn}{n:Nat}
theorem As(hK:aq K)(h:qH K n v7=some r):BZ M w0 r [yd 31] (GN v7):=by
 unfold qH at h;refine aJ 3 ?_;cases h;exact bc
theorem AZ(hK:aq K)(h:rF K n v1 v2 v5=some r):BZ M w0 r [yd 15] (GP v1 v2 v5):=by
 unfold rF at h;refine cj 4 5 3 2 (am 3 ?_);obtain⟨v6,h3,h⟩:=bind_some h;refine aO (dR hK h3) (ac (ba 3 2 ?_));obtain⟨h4,h⟩|⟨h4,h⟩:=ak h
 ·exact ai 32 h4 (ah 2 (As hK h))
 ·exact ai 32 h4 (ah 2 (As hK h))
theorem rS(hK:aq K)(h:j8 K n v1 v2 v3=some r):aS Tryd.prog 46 [.agg (aG v1),iI v2,iI v3] (fun v _=>v=iI r):=by
 refine bl (cat Tryd.f46 (pn 1)) Tryd.func46 Tryd.ntmps46 fun M w0=>(bi ⟨[(0,.agg (aG v1)),(1,iI v2),(2,iI v3)],[],[],[]⟩ ?_);unfold j8 at h;refine cj 28 29 15 6 (am 3 ?_);obtain⟨v4,h1,h⟩:=bind_some h;refine aO (dR hK h1) (ac (ba 3 2 ?_));obtain⟨h2,h⟩|⟨h2,h⟩:=ak h
 ·exact ai 20 h2 (ah 2 (AZ hK h))
 ·exact ai 20 h2 (ah 2 (AZ hK h))
end
noncomputable section
variable(M:Nat→Prop)(w0:aC)(r:Int)(v1:au)(v2:Int)(v3:cq)(v9:Int)  
abbrev Ek(n:Nat):av:=.c (cat Tryd.f27 (pn n))
abbrev I8:Cx:=⟨Tryd.prog,46,M,w0⟩
abbrev I6:=bodyPost Tryd.prog Tryd.f27 (bu M w0 (fun v _=>v=iI r))
abbrev Eo(ks:List av)(s:AS):=VE (I8 M w0) (I6 M w0 r) ks .normal s
def KH:AS:=⟨[(1,iI v2),(3,.ptr 3 0),(7,iI v9)],[(3,aZ v1)],[],[3]⟩
variable{M w0 r v1 v2 v3 v9}{K:Kn}{n:Nat}
theorem AJ(hK:aq K)(h:qL K n v1 v2 v9=some r):Eo M w0 r [Ek 15] (KH v1 v2 v9):=by
 unfold qL at h;refine aA 2 3 1 (am 4 ?_);obtain⟨v10,h7,h⟩:=bind_some h;refine aO (rS hK h7) (ac (aJ 1 ?_));cases h;exact bc
theorem Dh(hK:aq K)(h:ur K n v1 v2 v3=some r):aS Tryd.prog 27 [.agg (aZ v1),iI v2,.agg (ct v3)] (fun v _=>v=iI r):=by
 refine bl (cat Tryd.f27 (pn 1)) Tryd.func27 Tryd.ntmps27 fun M w0=>(bi ⟨[(0,.agg (aZ v1)),(1,iI v2),(2,.agg (ct v3))],[],[],[]⟩ ?_);unfold ur at h;refine aA 6 7 3 (am 4 ?_);obtain⟨v4,h1,h⟩:=bind_some h;refine aO (dR hK h1) (ac (aA 5 3 3 ?_));obtain⟨h2,h⟩|⟨h2,h⟩:=ak h
 ·refine ai 21 h2 (aA 4 5 2 (am 2 ?_));obtain⟨v5,h3,h⟩:=bind_some h;refine aO (wV hK h3) (ac (aA 2 3 1 (bU [1,3,9,10] [3] [] ?_)));obtain⟨v6,h4,h⟩:=bind_some h;obtain⟨v7,h5,h⟩:=bind_some h;obtain⟨v8,h6,h⟩:=bind_some h;exact bZ 1 (nu 28 [iI v2,iI v6,.ptr 3 2,.agg (aG v1.Style),iI v2,.agg (bz v7),iI v8,iI (aa (v6-v8))]) [] [] [bL Tryd.prog 46 Tryd.f27 (pn 234) 8] (aB [.v 0 1] (aj (bG 0 1 29 (fg hK h4)) (aB (vz 3) (aj (bG 0 1 33 (nO hK h5)) (aj (bG 0 1 34 (kD hK h6)) (aB [.v 0 1] (aj (bQ 0) bW))))))) (ah 1 (AJ hK h))
 ·exact ai 21 h2 (ah 2 (AJ hK h))
end
noncomputable section
variable(M:Nat→Prop)(w0:aC)(r v1:ae)(v2:Int)(v3:Int×Bool)(v5:Int)  
abbrev K5(n:Nat):av:=.c (cat Tryd.f28 (pn n))
abbrev Fw:Cx:=⟨Tryd.prog,45,M,w0⟩
abbrev CV:=bodyPost Tryd.prog Tryd.f28 (bu M w0 (fun v _=>v=.agg (aD r)))
abbrev JZ(ks:List av)(s:AS):=VE (Fw M w0) (CV M w0 r) ks .normal s
def Hx:AS:=⟨[(2,.ptr 2 0),(4,.ptr 4 0)],[(2,aD ({ v1 with X:=(aa (v1.X+v3.1)),Y:=v5 }:ae)),(4,List.set (aD bo) 66 (.nils))],[],[2,4]⟩
variable{M w0 r v1 v2 v3 v5}{K:Kn}{n:Nat}
theorem xl(hK:aq K)(h:sg K n v1 v3 v5=some r):JZ M w0 r [K5 63] (Hx v1 v3 v5):=by
 unfold sg at h;refine aJ 3 ?_;cases h;exact bc
theorem zq(hK:aq K)(h:rP K n v1 v2=some r):aS Tryd.prog 28 [.agg (aD v1),iI v2] (fun v _=>v=.agg (aD r)):=by
 refine bl (cat Tryd.f28 (pn 1)) Tryd.func28 Tryd.ntmps28 fun M w0=>(bi ⟨[(0,.agg (aD v1)),(1,iI v2)],[],[],[]⟩ ?_);unfold rP at h;refine aA 13 7 5 ?_;obtain⟨h1,h⟩|⟨h1,h⟩:=ak h
 ·refine ai 12 h1 (aJ 5 ?_);cases h;exact bc
 ·refine ai 12 h1 (gm 2 3 3 (am 4 ?_));obtain⟨v3,h2,h⟩:=bind_some h;refine aO (dR hK h2) (ac (aA 13 7 5 ?_));obtain⟨h3,h⟩|⟨h3,h⟩:=ak h
  ·refine ai 31 h3 (aA 4 5 2 (am 3 ?_));obtain⟨v4,h4,h⟩:=bind_some h;exact aO (dR hK h4) (ac (ah 1 (xl hK h)))
  ·exact ai 31 h3 (ah 2 (xl hK h))
end
noncomputable section
variable(M:Nat→Prop)(w0:aC)(r:Int)(v1:aP)  
variable{M w0 r v1}{K:Kn}{n:Nat}
theorem jZ(hK:aq K)(h:gR K n v1=some r):aS Tryd.prog 31 [.agg (bJ v1)] (fun v _=>v=iI r):=by
 refine bl (cat Tryd.f31 (pn 1)) Tryd.func31 Tryd.ntmps31 fun M w0=>(bi ⟨[(0,.agg (bJ v1))],[],[],[]⟩ ?_);unfold gR at h;refine aJ 5 ?_;cases h;exact bc
end
noncomputable section
variable(M:Nat→Prop)(w0:aC)(r:aP)(v1 v2:aP)  
variable{M w0 r v1 v2}{K:Kn}{n:Nat}
theorem ng(hK:aq K)(h:ji K n v1 v2=some r):aS Tryd.prog 64 [.agg (bJ v1),.agg (bJ v2)] (fun v _=>v=.agg (bJ r)):=by
 refine bl (cat Tryd.f64 (pn 1)) Tryd.func64 Tryd.ntmps64 fun M w0=>(bi ⟨[(0,.agg (bJ v1)),(1,.agg (bJ v2))],[],[],[]⟩ ?_);unfold ji at h;refine aJ 5 ?_;cases h;exact bc
end
noncomputable section
variable(M:Nat→Prop)(w0:aC)(r:(List ae)×Int×aP×aP×Bool)(v1:List ae)(v16:Int)(v17:Bool)(v18:Int)(v19 v20:aP)(v21:List ae)(v22:aP)(v24:Int)(v25:aP)(v26:Int)(v27:Bool)(v28 v29 v30:aP)(m1:Nat)(L1:Int→Bool→Int→aP→aP→(List ae)→Option ((List ae)×Int×aP×aP×Bool))
abbrev vX:Cx:=⟨Tryd.prog,52,M,w0⟩
abbrev tz:=bodyPost Tryd.prog Tryd.f61 (bu M w0 (fun v s=>v=.tup [.ref 43,iI r.2.1,.agg (bJ r.2.2.1),.agg (bJ r.2.2.2.1),.bool r.2.2.2.2]∧look 43 s.r=some ⟨51,67,lm ax r.1⟩))
abbrev mO(ks:List av)(s:AS):=VE (vX M w0) (tz M w0 r) ks .normal s
abbrev fR(n:Nat):av:=.c (cat Tryd.f61 (pn n))
abbrev sn:List av:=[.b 0,fR 31]
abbrev rI:List av:=kl (vX M w0) (tz M w0 r) sn (cat Tryd.f61 (pn 244)) m1::sn
def G9:AS:=⟨[(2,.ref 43),(3,iI v26),(4,.ptr 4 0),(5,.ptr 5 0),(6,.bool v27),(7,.ptr 7 0),(9,.ptr 9 0),(10,.sl (lm ax v1)),(11,iI (v1.length:Int)),(12,iI v18)],[(4,bJ v28),(5,bJ cr),(7,bJ v29),(9,aD ({ (gD v1 v18)with Y:=v24 }:ae))],[(43,⟨51,67,lm ax v21⟩)],[4,5,7,9,43]⟩
def HU:AS:=⟨[(2,.ref 43),(4,.ptr 4 0),(5,.ptr 5 0),(7,.ptr 7 0),(9,.ptr 9 0),(10,.sl (lm ax v1)),(11,iI (v1.length:Int)),(12,iI v18)],[(4,bJ v25),(5,bJ cr),(7,bJ v22),(9,aD ({ (gD v1 v18)with Y:=v24 }:ae))],[(43,⟨51,67,lm ax v21⟩)],[4,5,7,9,43]⟩
def HC:AS:=⟨[(2,.ref 43),(3,iI v16),(4,.ptr 4 0),(5,.ptr 5 0),(6,.bool v17),(7,.ptr 7 0),(9,.ptr 9 0),(10,.sl (lm ax v1)),(11,iI (v1.length:Int)),(12,iI v18)],[(4,bJ v19),(5,bJ cr),(7,bJ v22),(9,aD ({ (gD v1 v18)with Y:=v24 }:ae))],[(43,⟨51,67,lm ax v21⟩)],[4,5,7,9,43]⟩
def JA:AS:=⟨[(2,.ref 43),(3,iI v16),(4,.ptr 4 0),(5,.ptr 5 0),(6,.bool v17),(7,.ptr 7 0)],[(4,bJ v30),(5,bJ cr),(7,bJ v20)],[(43,⟨51,67,lm ax v21⟩)],[4,5,7,43]⟩
def yQ:AS:=⟨[(2,.ref 43),(3,iI v16),(4,.ptr 4 0),(5,.ptr 5 0),(6,.bool v17),(7,.ptr 7 0),(10,.sl (lm ax v1)),(11,iI (v1.length:Int)),(12,iI v18)],[(4,bJ v19),(5,bJ cr),(7,bJ v20)],[(43,⟨51,67,lm ax v21⟩)],[4,5,7,43]⟩
abbrev mm:Prop:=∀{v16:Int} {v17:Bool} {v18:Int} {v19:aP} {v20:aP} {v21:(List ae)},L1 v16 v17 v18 v19 v20 v21=some r→LP (vX M w0) (tz M w0 r) sn (cat Tryd.f61 (pn 244)) m1 (yQ v1 v16 v17 v18 v19 v20 v21)
variable{M w0 r v1 v16 v17 v18 v19 v20 v21 v22 v24 v25 v26 v27 v28 v29 v30 m1 L1}{K:Kn}{n:Nat}
theorem zR(hK:aq K)(hL1:mm M w0 r v1 m1 L1)(h:rH K n v1 v18 v21 v24 L1 v26 v27 v28 v29=some r):mO M w0 r (fR 125343 :: .b 1::fR 1959::rI M w0 r m1) (G9 v1 v18 v21 v24 v26 v27 v28 v29):=by
 unfold rH at h;refine am 2 (aF (fh ax ([({ (gD v1 v18)with Y:=v24 }:ae)]:List ae) (new:=[aD ({ (gD v1 v18)with Y:=v24 }:ae)]) (by simp only[List.map_cons,List.map_nil,bN])) ?_);obtain⟨h22,h⟩:=aU h;exact aF (cT 43 43 51 67 ax (rfl) (eN) h22) (ac (ah 2 (bB (hL1 h))))
theorem z7(hK:aq K)(hL1:mm M w0 r v1 m1 L1)(h:rt K n v1 v18 v21 v22 v24 L1 v25=some r):mO M w0 r (fR 1002741::fR 125343 :: .b 1::fR 1959::rI M w0 r m1) (HU v1 v18 v21 v22 v24 v25):=by
 unfold rt at h;exact ah 5 (zR hK hL1 h)
theorem AG(hK:aq K)(hL1:mm M w0 r v1 m1 L1)(h:pk K n v1 v16 v17 v18 v19 v21 v22 L1 v24=some r):mO M w0 r (fR 62671 :: .b 1::fR 1959::rI M w0 r m1) (HC v1 v16 v17 v18 v19 v21 v22 v24):=by
 unfold pk at h;refine aA 5 3 3 ?_;obtain⟨h20,h⟩|⟨h20,h⟩:=ak h
 ·refine ai 30 h20 (aA 9 5 4 ?_);obtain⟨h21,h⟩|⟨h21,h⟩:=ak h
  ·exact ai 31 h21 (ah 2 (z7 hK hL1 h))
  ·exact ai 31 h21 (ah 2 (z7 hK hL1 h))
 ·exact ai 30 h20 (ah 2 (zR hK hL1 h))
theorem wN(hK:aq K)(h:pU K n v16 v17 v20 v21 v30=some r):mO M w0 r [fR 63] (JA v16 v17 v20 v21 v30):=by
 unfold pU at h;refine aA 2 3 1 (bU [2,3,4,5,6,7] [4,5,7] [43] (bZ 5 (nu 47 [.ref 43,iI v16,.agg (bJ v30),.agg (bJ v20),.bool v17]) [] [] [bL Tryd.prog 52 Tryd.f61 (pn 126) 5,bL Tryd.prog 52 Tryd.f61 (pn 126) 6,bL Tryd.prog 52 Tryd.f61 (pn 126) 7,bL Tryd.prog 52 Tryd.f61 (pn 126) 8,bL Tryd.prog 52 Tryd.f61 (pn 126) 9] (aB [.v 0 1,.v 0 2,.v 0 3,.v 0 4,.v 0 5] (aj (bQ 0) (aj (bQ 1) (aj (bQ 2) (aj (bQ 3) (aj (bQ 4) bW)))))) (aJ 1 ?_)));cases h;exact vL
theorem CS(hK:aq K)(hL1:mm M w0 r v1 m1 L1)(h:rX K n v1 L1 v16 v17 v18 v19 v20 v21=some r):mO M w0 r (fR 244::rI M w0 r m1) (yQ v1 v16 v17 v18 v19 v20 v21):=by
 unfold rX at h;refine aA 6 7 3 ?_;obtain⟨h15,h⟩|⟨h15,h⟩:=ak h
 ·refine ai 13 h15 (dv 8 9 1 3 5 (am 0 ?_));obtain⟨h16,h⟩:=aU h;refine aF (bO ax aD h16 (eN) (bN)) (ac (aA 2 3 1 (am 3 ?_)));obtain⟨v22,h17,h⟩:=bind_some h;refine aO (ng hK h17) (ac (aA 13 7 5 ?_));obtain⟨h18,h⟩|⟨h18,h⟩:=ak h
  ·refine ai 22 h18 (ba 2 1 (am 2 ?_));obtain⟨v23,h19,h⟩:=bind_some h;exact aO (jZ hK h19) (ac (ah 0 (AG hK hL1 h)))
  ·exact ai 22 h18 (ah 2 (AG hK hL1 h))
 ·refine ai 13 h15 (nz 5 3 8 ?_);obtain⟨h23,h⟩|⟨h23,h⟩:=ak h
  ·exact ai 45 h23 (ah 2 (wN hK h))
  ·exact ai 45 h23 (ah 2 (wN hK h))
theorem Dm(hK:aq K)(m:Nat):mm M w0 r v1 m (oK K n v1 m):=by
 induction m with
 | zero=>intro v16 v17 v18 v19 v20 v21 h;cases h
 | succ m ih=>intro v16 v17 v18 v19 v20 v21 h;have h:rX K n v1 (oK K n v1 m) v16 v17 v18 v19 v20 v21=some r:=h;exact bt (CS hK ih h)
theorem JP(hK:aq K)(h:wx K n v1=some r):aS Tryd.prog 61 [.sl (lm ax v1)] (fun v s=>v=.tup [.ref 43,iI r.2.1,.agg (bJ r.2.2.1),.agg (bJ r.2.2.2.1),.bool r.2.2.2.2]∧look 43 s.r=some ⟨51,67,lm ax r.1⟩):=by
 refine bl (cat Tryd.f61 (pn 1)) Tryd.func61 Tryd.ntmps61 fun M w0=>(bi ⟨[(0,.sl (lm ax v1))],[],[],[]⟩ ?_);unfold wx at h;exact cj 60 61 31 8 (am 1 (aF (bE ax v1) (ac (gV 2 0 1 (bU [2,3,4,5,6,7,10,11,12] [4,5,7] [] (gA 43 2 51 67 (ah 0 (cH (p:=pn 122) n (Dm hK n h)))))))))
end
noncomputable section
variable(M:Nat→Prop)(w0:aC)(r v1:List ae)  
variable{M w0 r v1}{K:Kn}{n:Nat}
theorem F5(hK:aq K)(h:sA K n v1=some r):aS Tryd.prog 62 [.sl (lm ax v1)] (fun v s=>v=.ref 5∧look 5 s.r=some ⟨51,67,lm ax r⟩):=by
 refine bl (cat Tryd.f62 (pn 1)) Tryd.func62 Tryd.ntmps62 fun M w0=>(bi ⟨[(0,.sl (lm ax v1))],[],[],[]⟩ ?_);unfold sA at h;refine cj 12 13 7 4 (am 1 ?_);refine Gx (aV Tryd.f62 (pn 12) 1) (.eql) 37 37 (.tmp 3) (.const (.slice none 0 0)) 4 (lm ax v1) (r:=aL Tryd.f62 (pn 12) 2) (e:=51) (by kernel_rfl) (by kernel_rfl) (by kernel_rfl) (by kernel_rfl) (by kernel_rfl) (by kernel_rfl) (by kernel_rfl) (by kernel_rfl) (fun hq=>?_) ?_
 ·have h:=C6 (by simpa using hq) h;refine ac (aJ 5 (gA 5 2 51 67 ?_));cases h;exact fl
 ·have h:=JE h;refine ac (gm 2 3 3 (am 0 (Hv 37 5 (e:=51) (sz:=67) (aN 2 1 ?_))));obtain⟨h2,h⟩:=aU h;refine aF (cT 7 5 51 67 ax (rfl) (eN) h2) (ac (aJ 1 ?_));cases h;exact fl
end
noncomputable section
variable(M:Nat→Prop)(w0:aC)(r:aP)(v1:Int)  
variable{M w0 r v1}{K:Kn}{n:Nat}
theorem yg(hK:aq K)(h:pZ K n v1=some r):aS Tryd.prog 63 [iI v1] (fun v _=>v=.agg (bJ r)):=by
 refine bl (cat Tryd.f63 (pn 1)) Tryd.func63 Tryd.ntmps63 fun M w0=>(bi ⟨[(0,iI v1)],[],[],[]⟩ ?_);unfold pZ at h;refine aJ 5 ?_;cases h;exact bc
end
noncomputable section
variable(M:Nat→Prop)(w0:aC)(r:Int)(v1:bD)  
variable{M w0 r v1}{K:Kn}{n:Nat}
theorem Li(hK:aq K)(h:vW K n v1=some r):aS Tryd.prog 65 [.agg (bz v1)] (fun v _=>v=iI r):=by
 refine bl (cat Tryd.f65 (pn 1)) Tryd.func65 Tryd.ntmps65 fun M w0=>(bi ⟨[(0,.agg (bz v1))],[],[],[]⟩ ?_);unfold vW at h;refine aJ 5 ?_;cases h;exact bc
end
noncomputable section
variable(M:Nat→Prop)(w0:aC)(r:Bool)(v1:au)(v2:Bool)  
abbrev IY(n:Nat):av:=.c (cat Tryd.f66 (pn n))
abbrev EU:Cx:=⟨Tryd.prog,16,M,w0⟩
abbrev HF:=bodyPost Tryd.prog Tryd.f66 (bu M w0 (fun v _=>v=.bool r))
abbrev Eb(ks:List av)(s:AS):=VE (EU M w0) (HF M w0 r) ks .normal s
def Iz:AS:=⟨[(2,.bool v2)],[],[],[]⟩
variable{M w0 r v1 v2}{K:Kn}{n:Nat}
theorem sO(hK:aq K)(h:mP K n v2=some r):Eb M w0 r [IY 7] (Iz v2):=by
 unfold mP at h;refine aJ 1 ?_;cases h;exact bc
theorem ya(hK:aq K)(h:pc K n v1=some r):aS Tryd.prog 66 [.agg (aZ v1)] (fun v _=>v=.bool r):=by
 refine bl (cat Tryd.f66 (pn 1)) Tryd.func66 Tryd.ntmps66 fun M w0=>(bi ⟨[(0,.agg (aZ v1))],[],[],[]⟩ ?_);unfold pc at h;refine aA 6 7 3 (am 4 ?_);obtain⟨h1,h⟩|⟨h1,h⟩:=ak h
 ·exact ay 6 h1 (ac (ah 0 (sO hK h)))
 ·refine ay 6 h1 (aN 9 5 ?_);obtain⟨h2,h⟩|⟨h2,h⟩:=ak h
  ·exact ay 11 h2 (ac (ah 0 (sO hK h)))
  ·exact ay 11 h2 (ac (ah 0 (sO hK h)))
end
end Go.Proofs.YtnpmlepplfaijaaDoor

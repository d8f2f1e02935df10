/- The runs of the functions that InlineRuns reaches do what their plain forms say, part 0. Made by a program. -/
import Derived.Test.YtnpmlepplfaijaaGreatIrGk
namespace Go.Proofs.YtnpmlepplfaijaaGreat
open Go.RowKit
set_option maxRecDepth 20000
set_option linter.all false
set_option linter.unusedVariables false
set_option linter.unusedSimpArgs false
noncomputable section
variable(M:Nat→Prop)(w0:aH)(r:cA)   
variable{M w0 r }{K:Kn}{n:Nat}
theorem wR(hK:aq K)(h:mR K n=some r):aN Tryz.prog 10 [] (fun v _=>v=.agg (cR r)):=by
 refine bc (cat Tryz.f10 (pn 1)) Tryz.func10 Tryz.ntmps10 fun M w0=>(aZ ⟨[],[],[],[]⟩ ?_);unfold mR at h;refine aG 5 ?_;cases h;exact aU
end
noncomputable section
variable(M:Nat→Prop)(w0:aH)(r:Bool)(v1:aj)(v2:Bool)  
abbrev S2(n:Nat):av:=.c (cat Tryz.f87 (pn n))
abbrev T6:Cx:=⟨Tryz.prog,12,M,w0⟩
abbrev Lu:=bodyPost Tryz.prog Tryz.f87 (bq M w0 (fun v _=>v=.bool r))
abbrev PC(ks:List av)(s:AS):=VE (T6 M w0) (Lu M w0 r) ks .normal s
def St:AS:=⟨[(2,.bool v2)],[],[],[]⟩
variable{M w0 r v1 v2}{K:Kn}{n:Nat}
theorem F1(hK:aq K)(h:tc K n v2=some r):PC M w0 r [S2 7] (St v2):=by
 unfold tc at h;refine aG 1 ?_;cases h;exact aU
theorem DU(hK:aq K)(h:fz K n v1=some r):aN Tryz.prog 87 [.agg (aV v1)] (fun v _=>v=.bool r):=by
 refine bc (cat Tryz.f87 (pn 1)) Tryz.func87 Tryz.ntmps87 fun M w0=>(aZ ⟨[(0,.agg (aV v1))],[],[],[]⟩ ?_);unfold fz at h;refine aw 6 7 3 (ak 4 ?_);obtain⟨h1,h⟩|⟨h1,h⟩:=am h
 ·exact ay 6 h1 (ac (ag 0 (F1 hK h)))
 ·exact ay 6 h1 (ac (ag 0 (F1 hK h)))
end
noncomputable section
variable(M:Nat→Prop)(w0:aH)(r:List ax)(v1:ax)(v2:List ax)(v3 v4 v5 v6:Bool)(v7:ax)  
abbrev gh(n:Nat):av:=.c (cat Tryz.f88 (pn n))
abbrev MH:Cx:=⟨Tryz.prog,72,M,w0⟩
abbrev KJ:=bodyPost Tryz.prog Tryz.f88 (bq M w0 (fun v s=>v=.ref 9∧dt s.o []∧look 9 s.r=some ⟨101,5,lm aK r⟩))
abbrev tC(ks:List av)(s:AS):=VE (MH M w0) (KJ M w0 r) ks .normal s
def Me:AS:=⟨[(0,.ref 9),(3,.ptr 3 0)],[(3,aK v7)],[(9,⟨101,5,lm aK v2⟩)],[3,9]⟩
def LO:AS:=⟨[(0,.ref 9),(3,.ptr 3 0),(64,.bool v6)],[(3,aK v1)],[(9,⟨101,5,lm aK v2⟩)],[3,9]⟩
def J2:AS:=⟨[(0,.ref 9),(3,.ptr 3 0),(5,.bool (v1.Box.Style.WhiteSpace == 2)),(32,.bool v5)],[(3,aK v1)],[(9,⟨101,5,lm aK v2⟩)],[3,9]⟩
def LL:AS:=⟨[(0,.ref 9),(3,.ptr 3 0),(5,.bool (v1.Box.Style.WhiteSpace == 2)),(24,.bool v4)],[(3,aK v1)],[(9,⟨101,5,lm aK v2⟩)],[3,9]⟩
def KY:AS:=⟨[(0,.ref 9),(3,.ptr 3 0),(5,.bool (v1.Box.Style.WhiteSpace == 2)),(19,.bool v3)],[(3,aK v1)],[(9,⟨101,5,lm aK v2⟩)],[3,9]⟩
variable{M w0 r v1 v2 v3 v4 v5 v6 v7}{K:Kn}{n:Nat}
theorem AI(hK:aq K)(h:oJ K n v2 v7=some r):tC M w0 r [.b 1,gh 31] (Me v2 v7):=by
 unfold oJ at h;refine dJ 6 7 4 (ak 3 ?_);obtain⟨h16,h⟩:=aS h;refine aA (cy 71 9 101 5 aK (rfl) (dF) h16) (ac (aG 1 ?_));cases h;exact fg
theorem B7(hK:aq K)(h:jB K n v1 v2 v6=some r):tC M w0 r [gh 15609,gh 7805,.b 1,gh 31] (LO v1 v2 v6):=by
 unfold jB at h;obtain⟨h15,h⟩|⟨h15,h⟩:=am h
 ·refine ai 64 h15 (aG 7 ?_);cases h;exact fg
 ·exact ai 64 h15 (ag 3 (AI hK h))
theorem Hx(hK:aq K)(h:pR K n v1 v2 v5=some r):tC M w0 r [gh 487,.b 1,gh 31] (J2 v1 v2 v5):=by
 unfold pR at h;obtain⟨h9,h⟩|⟨h9,h⟩:=am h
 ·refine ai 32 h9 (aG 6 ?_);cases h;exact fg
 ·refine ai 32 h9 (bd 7 3 ?_);obtain⟨h10,h⟩|⟨h10,h⟩:=am h
  ·refine ai 40 h10 (bP 8 9 5 3 (ak 1 (aA (bz aK v2) (aL 4 2 ?_))));obtain⟨h11,h⟩|⟨h11,h⟩:=am h
   ·exact ay 46 h11 (ac (ag 0 (B7 hK h)))
   ·refine ay 46 h11 (aL 6 2 (aA (bz aK v2) (aL 8 1 ?_)));obtain⟨h12,h⟩:=aS h;refine aA (c9 9 5 aK h12) (aL 10 1 (aA (ci 4 3 aK aK (ca h12).2 ((fun _=>rfl))) (aL 13 2 ?_)));obtain⟨h13,h⟩|⟨h13,h⟩:=am h
    ·exact ay 55 h13 (ac (ag 0 (B7 hK h)))
    ·refine ay 55 h13 (aL 15 2 (aA (bz aK v2) (aL 17 1 ?_)));obtain⟨h14,h⟩:=aS h;exact aA (c9 9 5 aK h14) (aL 19 1 (aA (ci 3 0 aK aK (ca h14).2 ((fun _=>rfl))) (ac (ag 0 (B7 hK h)))))
  ·exact ai 40 h10 (ag 2 (AI hK h))
theorem Dd(hK:aq K)(h:pU K n v1 v2 v4=some r):tC M w0 r [gh 121,.b 1,gh 31] (LL v1 v2 v4):=by
 unfold pU at h;obtain⟨h7,h⟩|⟨h7,h⟩:=am h
 ·exact ai 24 h7 (ag 2 (AI hK h))
 ·refine ai 24 h7 (aw 6 7 2 (ak 2 ?_));obtain⟨h8,h⟩|⟨h8,h⟩:=am h
  ·exact ay 34 h8 (ac (ag 0 (Hx hK h)))
  ·exact ay 34 h8 (ac (ag 0 (Hx hK h)))
theorem ul(hK:aq K)(h:iJ K n v1 v2 v3=some r):tC M w0 r [gh 117,.b 0,gh 15] (KY v1 v2 v3):=by
 unfold iJ at h;obtain⟨h4,h⟩|⟨h4,h⟩:=am h
 ·refine ai 19 h4 (cr (ks':=[gh 120,gh 121,.b 1,gh 31]) 6 (ak 2 ?_));obtain⟨h6,h⟩|⟨h6,h⟩:=am h
  ·exact ay 26 h6 (ac (ag 0 (Dd hK h)))
  ·exact ay 26 h6 (ac (ag 0 (Dd hK h)))
 ·refine ai 19 h4 (aw 6 7 2 (ak 3 ?_));obtain⟨h5,h⟩:=aS h;refine aA (cy 18 9 101 5 aK (rfl) (dF) h5) (ac (aG 3 ?_));cases h;exact fg
theorem Kc(hK:aq K)(h:qW K n v1 v2=some r):f0 Tryz.prog 88 [.ref 9,.agg (aK v1)] [] 9 ⟨101,5,lm aK v2⟩ [9] (fun v s=>v=.ref 9∧dt s.o []∧look 9 s.r=some ⟨101,5,lm aK r⟩):=by
 refine mX (c:=cat Tryz.f88 (pn 1)) Tryz.func88 (by kernel_rfl) _ Tryz.ntmps88 (of_decide_eq_true (by kernel_rfl)) fun M w0=>(aZ ⟨[(0,.ref 9),(1,.agg (aK v1))],[],[(9,⟨101,5,lm aK v2⟩)],[9]⟩ ?_);unfold qW at h;refine cZ 233 117 0 15 11 ?_;obtain⟨h1,h⟩|⟨h1,h⟩:=am h
 ·exact ai 19 h1 (ag 2 (ul hK h))
 ·refine ai 19 h1 (bd 7 3 ?_);obtain⟨h2,h⟩|⟨h2,h⟩:=am h
  ·exact ai 19 h2 (ag 2 (ul hK h))
  ·refine ai 19 h2 (bd 7 3 ?_);obtain⟨h3,h⟩|⟨h3,h⟩:=am h
   ·exact ai 19 h3 (ag 2 (ul hK h))
   ·exact ai 19 h3 (ag 2 (ul hK h))
end
noncomputable section
variable(M:Nat→Prop)(w0:aH)(r:Int×(List ax))(v1:List aj)(v2:Int)(v3:List ax)(v10:Nat)(v23 v24:Int)(v25:List ax)(v32 v36:Nat)(v37:List ax)(v41:Int)(v42:List ax)(v43:Int)(v44:List ax)(m1 m2:Nat)(L1:Int→Int→(List ax)→Option (Int×(List ax)))(L2:Nat→(List ax)→Option (Int×(List ax)))
abbrev qX:Cx:=⟨Tryz.prog,69,M,w0⟩
abbrev sQ:=bodyPost Tryz.prog Tryz.f86 (bq M w0 (fun v s=>v=.tup []∧dt s.o [(1,[iI r.1]),(2,[.fno 86 [.ptr 1 0,.ptr 2 0,.ptr 3 0]]),(3,[.ref 9])]∧look 9 s.r=some ⟨101,5,lm aK r.2⟩))
abbrev wZ(ks:List av)(s:AS):=VE (qX M w0) (sQ M w0 r) ks .normal s
abbrev fF(n:Nat):av:=.c (cat Tryz.f86 (pn n))
abbrev Bs:List av:=[.b 0]
abbrev lZ:List av:=kl (qX M w0) (sQ M w0 r) Bs (cat Tryz.f86 (pn 12)) m1::Bs
abbrev Au:List av:=.b 3 :: .b 2 :: .b 1::fF 103::lZ M w0 r m1
abbrev ET:List av:=kl (qX M w0) (sQ M w0 r) (Au M w0 r m1) (cat Tryz.f86 (pn 26867700)) m2::(Au M w0 r m1)
def WJ:AS:=⟨[(0,.sl (lm aO v1)),(1,.ptr 1 0),(2,.ptr 2 0),(3,.ptr 3 0),(10,iI (v1.length:Int)),(11,iI v23)],[(1,[iI v43]),(2,[.fno 86 [.ptr 1 0,.ptr 2 0,.ptr 3 0]]),(3,[.ref 9])],[(9,⟨101,5,lm aK v44⟩)],[1,2,3,9,1000001,1,1000002,2,1000003,3]⟩
def LK:AS:=⟨[(0,.sl (lm aO v1)),(1,.ptr 1 0),(2,.ptr 2 0),(3,.ptr 3 0),(10,iI (v1.length:Int)),(11,iI v23)],[(1,[iI v41]),(2,[.fno 86 [.ptr 1 0,.ptr 2 0,.ptr 3 0]]),(3,[.ref 9])],[(9,⟨101,5,lm aK v42⟩)],[1,2,3,9,1000001,1,1000002,2,1000003,3]⟩
def Hb:AS:=⟨[(0,.sl (lm aO v1)),(1,.ptr 1 0),(2,.ptr 2 0),(3,.ptr 3 0),(6,.cptr (aV (gD v1 v23))),(10,iI (v1.length:Int)),(11,iI v23),(58,.sit 320058 v32 ((gD v1 v23).Text) v36)],[(1,[iI (ab (v24+1))]),(2,[.fno 86 [.ptr 1 0,.ptr 2 0,.ptr 3 0]]),(3,[.ref 9])],[(9,⟨101,5,lm aK v37⟩)],[1,2,3,9,320058,1000001,1,1000002,2,1000003,3]⟩
def EA:AS:=⟨[(0,.sl (lm aO v1)),(1,.ptr 1 0),(2,.ptr 2 0),(3,.ptr 3 0),(10,iI (v1.length:Int)),(11,iI v23)],[(1,[iI v24]),(2,[.fno 86 [.ptr 1 0,.ptr 2 0,.ptr 3 0]]),(3,[.ref 9])],[(9,⟨101,5,lm aK v25⟩)],[1,2,3,9,1000001,1,1000002,2,1000003,3]⟩
abbrev qP:Prop:=∀{v23:Int} {v24:Int} {v25:(List ax)},L1 v23 v24 v25=some r→LP (qX M w0) (sQ M w0 r) Bs (cat Tryz.f86 (pn 12)) m1 (EA v1 v23 v24 v25)
abbrev IQ:Prop:=∀{v36:Nat} {v37:(List ax)},L2 v36 v37=some r→LP (qX M w0) (sQ M w0 r) (Au M w0 r m1) (cat Tryz.f86 (pn 26867700)) m2 (Hb v1 v23 v24 v32 v36 v37)
variable{M w0 r v1 v2 v3 v10 v23 v24 v25 v32 v36 v37 v41 v42 v43 v44 m1 m2 L1 L2}{K:Kn}{n:Nat}
theorem Ce(hK:aq K)(hL1:qP M w0 r v1 m1 L1)(h:kw K n v1 v23 L1 v43 v44=some r):wZ M w0 r (fF 103::lZ M w0 r m1) (WJ v1 v23 v43 v44):=by
 unfold kw at h;exact ag 1 (bu (hL1 h))
theorem rE(hK:aq K)(hL1:qP M w0 r v1 m1 L1)(h:iq K n v1 v23 L1 v41 v42=some r):wZ M w0 r (.b 2 :: .b 1::fF 103::lZ M w0 r m1) (LK v1 v23 v41 v42):=by
 unfold iq at h;exact ag 2 (Ce hK hL1 h)
theorem MQ(hK:aq K)(hv32:w0.w.heap.size≤v32)(hL1:qP M w0 r v1 m1 L1)(hL2:IQ M w0 r v1 v23 v24 v32 m1 m2 L2)(h:oO K n v1 v23 v24 L1 L2 v36 v37=some r):wZ M w0 r (fF 26867700::ET M w0 r m1 m2) (Hb v1 v23 v24 v32 v36 v37):=by
 unfold oO at h;refine aw 2 3 1 (ak 0 ?_);obtain⟨h43,h⟩|⟨h43,h⟩:=am h
 ·refine w2 58 (id:=320058) (g:=v32) h43 hv32 (ac ?_);obtain⟨v38,h44,h⟩:=bW h;obtain⟨v39,h45,h⟩:=bW h;refine bB (ks':=fF 429883213 :: .b 4::ET M w0 r m1 m2) 6 ⟨[(0,.sl (lm aO v1)),(1,.ptr 1 0),(2,.ptr 2 0),(3,.ptr 3 0),(6,.cptr (aV (gD v1 v23))),(8,.int .i32 v38),(10,iI (v1.length:Int)),(11,iI v23),(58,.sit 320058 v32 ((gD v1 v23).Text) v39)],[(1,[iI (ab (v24+1))]),(2,[.fno 86 [.ptr 1 0,.ptr 2 0,.ptr 3 0]]),(3,[.ref 9])],[(9,⟨101,5,lm aK v37⟩)],[1,2,3,9,320058,1000001,1,1000002,2,1000003,3]⟩ ?_ (by subst h45;subst h44;kernel_rfl);refine ak 5 ?_;obtain⟨v40,h46,h⟩:=bind_some h;exact jj 9 9 [] (Kc hK h46) (ac (ag 1 (bu (hL2 h))))
 ·exact t7 58 (id:=320058) (g:=v32) h43 (ac (ag 6 (rE hK hL1 h)))
theorem Rg(hK:aq K)(hv32:w0.w.heap.size≤v32)(hL1:qP M w0 r v1 m1 L1)(m:Nat):IQ M w0 r v1 v23 v24 v32 m1 m (qm K n v1 v23 v24 L1 m):=by
 induction m with
 | zero=>intro v36 v37 h;cases h
 | succ m ih=>intro v36 v37 h;have h:oO K n v1 v23 v24 L1 (qm K n v1 v23 v24 L1 m) v36 v37=some r:=h;exact br (MQ hK hv32 hL1 ih h)
theorem TF(hK:aq K)(hL1:qP M w0 r v1 m1 L1)(h:qy K n v1 L1 v23 v24 v25=some r):wZ M w0 r (fF 12::lZ M w0 r m1) (EA v1 v23 v24 v25):=by
 unfold qy at h;refine aw 6 7 3 ?_;obtain⟨h24,h⟩|⟨h24,h⟩:=am h
 ·refine ai 12 h24 (cN 18 19 1 3 7 (ak 2 ?_));obtain⟨h25,h⟩:=aS h;refine aA (bM aO aV h25 (eC) (dp)) (ac (bP 4 5 3 2 (ak 3 ?_)));obtain⟨v26,h26,h⟩:=bind_some h;refine aB (DU hK h26) (ac ?_);obtain⟨h27,h⟩|⟨h27,h⟩:=am h
  ·exact ai 21 h27 (ag 4 (Ce hK hL1 h))
  ·refine ai 21 h27 ?_;obtain⟨v27,h28,h⟩:=bW h;refine bB (ks':=fF 26237 :: .b 2 :: .b 1::fF 103::lZ M w0 r m1) 9 ⟨[(0,.sl (lm aO v1)),(1,.ptr 1 0),(2,.ptr 2 0),(3,.ptr 3 0),(6,.cptr (aV (gD v1 v23))),(10,iI (v1.length:Int)),(11,iI v23),(27,iI ((gD v1 v23).Kind)),(28,.bool v27)],[(1,[iI (ab (v24+1))]),(2,[.fno 86 [.ptr 1 0,.ptr 2 0,.ptr 3 0]]),(3,[.ref 9])],[(9,⟨101,5,lm aK v25⟩)],[1,2,3,9,1000001,1,1000002,2,1000003,3]⟩ ?_ (by subst h28;kernel_rfl);obtain⟨h29,h⟩|⟨h29,h⟩:=am h
   ·refine ai 28 h29 (bd 2 1 (bJ [0,1,2,3,6,10,11] [1,2,3] [9] (Tb 5 0 [(30,.fno 86 [.ptr 1 0,.ptr 2 0,.ptr 3 0]),(31,.cptr (aV (gD v1 v23))),(32,.cptr (aV (gD v1 v23))),(33,.cptr (List.drop 58 (aV (gD v1 v23)))),(34,.sl (lm aO ((gD v1 v23).Kids)))] [] [] [] (ao (vz 5) (xL)) ?_)));obtain⟨v28,h30,h⟩:=bind_some h;exact jj 9 9 [(1,1),(2,2),(3,3)] (hK.wz h30) (ac (ag 0 (rE hK hL1 h)))
   ·refine ai 28 h29 ?_;obtain⟨v29,h31,h⟩:=bW h;refine bB (ks':=fF 104951 :: .b 2 :: .b 1::fF 103::lZ M w0 r m1) 3 ⟨[(0,.sl (lm aO v1)),(1,.ptr 1 0),(2,.ptr 2 0),(3,.ptr 3 0),(6,.cptr (aV (gD v1 v23))),(10,iI (v1.length:Int)),(11,iI v23),(27,iI ((gD v1 v23).Kind)),(36,.bool v29)],[(1,[iI (ab (v24+1))]),(2,[.fno 86 [.ptr 1 0,.ptr 2 0,.ptr 3 0]]),(3,[.ref 9])],[(9,⟨101,5,lm aK v25⟩)],[1,2,3,9,1000001,1,1000002,2,1000003,3]⟩ ?_ (by subst h31;kernel_rfl);obtain⟨h32,h⟩|⟨h32,h⟩:=am h
    ·refine ai 36 h32 (bd 2 1 (ak 5 ?_));obtain⟨h33,h⟩:=aS h;exact aA (cy 43 9 101 5 aK (rfl) (dF) h33) (ac (ag 0 (rE hK hL1 h)))
    ·refine ai 36 h32 ?_;obtain⟨v30,h34,h⟩:=bW h;refine bB (ks':=fF 419807 :: .b 2 :: .b 1::fF 103::lZ M w0 r m1) 3 ⟨[(0,.sl (lm aO v1)),(1,.ptr 1 0),(2,.ptr 2 0),(3,.ptr 3 0),(6,.cptr (aV (gD v1 v23))),(10,iI (v1.length:Int)),(11,iI v23),(27,iI ((gD v1 v23).Kind)),(44,.bool v30)],[(1,[iI (ab (v24+1))]),(2,[.fno 86 [.ptr 1 0,.ptr 2 0,.ptr 3 0]]),(3,[.ref 9])],[(9,⟨101,5,lm aK v25⟩)],[1,2,3,9,1000001,1,1000002,2,1000003,3]⟩ ?_ (by subst h34;kernel_rfl);obtain⟨h35,h⟩|⟨h35,h⟩:=am h
     ·refine ai 44 h35 (bd 2 1 (ak 5 ?_));obtain⟨h36,h⟩:=aS h;exact aA (cy 51 9 101 5 aK (rfl) (dF) h36) (ac (ag 0 (rE hK hL1 h)))
     ·refine ai 44 h35 ?_;obtain⟨v31,h37,h⟩:=bW h;refine bB (ks':=fF 1679231 :: .b 2 :: .b 1::fF 103::lZ M w0 r m1) 3 ⟨[(0,.sl (lm aO v1)),(1,.ptr 1 0),(2,.ptr 2 0),(3,.ptr 3 0),(6,.cptr (aV (gD v1 v23))),(10,iI (v1.length:Int)),(11,iI v23),(52,.bool v31)],[(1,[iI (ab (v24+1))]),(2,[.fno 86 [.ptr 1 0,.ptr 2 0,.ptr 3 0]]),(3,[.ref 9])],[(9,⟨101,5,lm aK v25⟩)],[1,2,3,9,1000001,1,1000002,2,1000003,3]⟩ ?_ (by subst h37;kernel_rfl);obtain⟨h38,h⟩|⟨h38,h⟩:=am h
      ·exact ai 52 h38 (aw 4 5 2 (ak 4 (vG 320058 (b:=((gD v1 v23).Text)) fun v32 hv32=>(ac (ag 1 (cm (p:=pn 13433850) n (Rg hK (v32:=v32) hv32 hL1 n h)))))))
      ·exact ai 52 h38 (ag 2 (rE hK hL1 h))
 ·refine ai 12 h24 (cr (ks':=[]) 5 (NW ?_));cases h;exact AR
theorem La(hK:aq K)(m:Nat):qP M w0 r v1 m (n7 K n v1 m):=by
 induction m with
 | zero=>intro v23 v24 v25 h;cases h
 | succ m ih=>intro v23 v24 v25 h;have h:qy K n v1 (n7 K n v1 m) v23 v24 v25=some r:=h;exact br (TF hK ih h)
theorem Ee(hK:aq K)(h:ky K n v1 v2 v3=some r):f0 Tryz.prog 86 [.sl (lm aO v1),.ptr 1 0,.ptr 2 0,.ptr 3 0] [(1,[iI v2]),(2,[.fno 86 [.ptr 1 0,.ptr 2 0,.ptr 3 0]]),(3,[.ref 9])] 9 ⟨101,5,lm aK v3⟩ [9,1,2,3,1000001,1000002,1000003] (fun v s=>v=.tup []∧dt s.o [(1,[iI r.1]),(2,[.fno 86 [.ptr 1 0,.ptr 2 0,.ptr 3 0]]),(3,[.ref 9])]∧look 9 s.r=some ⟨101,5,lm aK r.2⟩):=by
 refine mX (c:=cat Tryz.f86 (pn 1)) Tryz.func86 (by kernel_rfl) _ Tryz.ntmps86 (of_decide_eq_true (by kernel_rfl)) fun M w0=>(aZ ⟨[(0,.sl (lm aO v1)),(1,.ptr 1 0),(2,.ptr 2 0),(3,.ptr 3 0)],[(1,[iI v2]),(2,[.fno 86 [.ptr 1 0,.ptr 2 0,.ptr 3 0]]),(3,[.ref 9])],[(9,⟨101,5,lm aK v3⟩)],[9,1,2,3,1000001,1000002,1000003]⟩ ?_);unfold ky at h;exact aw 2 3 1 (ak 1 (aA (bz aO v1) (ac (ag 1 (cm (p:=pn 6) n (La hK n h))))))
end
noncomputable section
variable(M:Nat→Prop)(w0:aH)(r:List ax)(v1:List aj)  
variable{M w0 r v1}{K:Kn}{n:Nat}
theorem UO(hK:aq K)(h:rm K n v1=some r):aN Tryz.prog 52 [.sl (lm aO v1)] (fun v s=>v=.ref 400003∧look 400003 s.r=some ⟨101,5,lm aK r⟩):=by
 refine bc (cat Tryz.f52 (pn 1)) Tryz.func52 Tryz.ntmps52 fun M w0=>(aZ ⟨[(0,.sl (lm aO v1))],[],[],[]⟩ ?_);unfold rm at h;refine aw 62 63 9 (ak 0 (Py 86 #[(.tmp 4),(.tmp 5),(.tmp 3)] [.ptr 4 0,.ptr 5 0,.ptr 3 0] (ac (aw 2 3 1 (ak 2 (Ni 400003 3 0 101 5 ?_))))));obtain⟨v2,h1,h⟩:=bind_some h;refine jj 400003 9 [(4,1),(5,2),(3,3)] (Ee hK h1) (ac (aG 3 ?_));cases h;exact eg
end
noncomputable section
variable(M:Nat→Prop)(w0:aH)(r:Bool)(v1:ax)(v2:Bool)  
abbrev KZ(n:Nat):av:=.c (cat Tryz.f89 (pn n))
abbrev J9:Cx:=⟨Tryz.prog,24,M,w0⟩
abbrev Km:=bodyPost Tryz.prog Tryz.f89 (bq M w0 (fun v _=>v=.bool r))
abbrev V9(ks:List av)(s:AS):=VE (J9 M w0) (Km M w0 r) ks .normal s
def M2:AS:=⟨[(2,.bool v2)],[],[],[]⟩
variable{M w0 r v1 v2}{K:Kn}{n:Nat}
theorem yK(hK:aq K)(h:qj K n v2=some r):V9 M w0 r [KZ 7] (M2 v2):=by
 unfold qj at h;refine aG 1 ?_;cases h;exact aU
theorem sq(hK:aq K)(h:jI K n v1=some r):aN Tryz.prog 89 [.agg (aK v1)] (fun v _=>v=.bool r):=by
 refine bc (cat Tryz.f89 (pn 1)) Tryz.func89 Tryz.ntmps89 fun M w0=>(aZ ⟨[(0,.agg (aK v1))],[],[],[]⟩ ?_);unfold jI at h;refine aw 6 7 3 (ak 4 ?_);obtain⟨h1,h⟩|⟨h1,h⟩:=am h
 ·refine ay 6 h1 (aL 13 9 ?_);obtain⟨h2,h⟩|⟨h2,h⟩:=am h
  ·exact ay 15 h2 (ac (ag 0 (yK hK h)))
  ·exact ay 15 h2 (ac (ag 0 (yK hK h)))
 ·exact ay 6 h1 (ac (ag 0 (yK hK h)))
end
noncomputable section
variable(M:Nat→Prop)(w0:aH)(r v1:Int)(v2 v3 v4 v5 v6:Bool)  
abbrev eR(n:Nat):av:=.c (cat Tryz.f117 (pn n))
abbrev Tl:Cx:=⟨Tryz.prog,73,M,w0⟩
abbrev Vy:=bodyPost Tryz.prog Tryz.f117 (bq M w0 (fun v _=>v=iI r))
abbrev rt(ks:List av)(s:AS):=VE (Tl M w0) (Vy M w0 r) ks .normal s
def QA:AS:=⟨[(72,.bool v6)],[],[],[]⟩
def VD:AS:=⟨[(0,.int .i32 v1),(60,.bool v5)],[],[],[]⟩
def Td:AS:=⟨[(0,.int .i32 v1),(29,.int .i32 v1),(44,.bool v4)],[],[],[]⟩
def MI:AS:=⟨[(0,.int .i32 v1),(29,.int .i32 v1),(30,.bool v3)],[],[],[]⟩
def UK:AS:=⟨[(0,.int .i32 v1),(3,.bool v2)],[],[],[]⟩
variable{M w0 r v1 v2 v3 v4 v5 v6}{K:Kn}{n:Nat}
theorem IE(hK:aq K)(h:qO K n v6=some r):rt M w0 r [eR 61,eR 31] (QA v6):=by
 unfold qO at h;obtain⟨h44,h⟩|⟨h44,h⟩:=am h
 ·refine ai 72 h44 (aG 5 ?_);cases h;exact aU
 ·refine ai 72 h44 (aG 5 ?_);cases h;exact aU
theorem qw(hK:aq K)(h:fx K n v1 v5=some r):rt M w0 r [eR 1887,.b 1,eR 15] (VD v1 v5):=by
 unfold fx at h;obtain⟨h42,h⟩|⟨h42,h⟩:=am h
 ·refine ai 60 h42 (aG 6 ?_);cases h;exact aU
 ·refine ai 60 h42 (cr (ks':=[eR 60,eR 61,eR 31]) 5 (ak 3 ?_));obtain⟨h43,h⟩|⟨h43,h⟩:=am h
  ·exact ay 69 h43 (ac (ag 0 (IE hK h)))
  ·exact ay 69 h43 (ac (ag 0 (IE hK h)))
theorem ft(hK:aq K)(h:dm K n v1 v4=some r):rt M w0 r [eR 471,.b 1,eR 15] (Td v1 v4):=by
 unfold dm at h;obtain⟨h36,h⟩|⟨h36,h⟩:=am h
 ·refine ai 44 h36 (aG 6 ?_);cases h;exact aU
 ·refine ai 44 h36 (aw 13 7 4 ?_);obtain⟨h37,h⟩|⟨h37,h⟩:=am h
  ·exact ai 60 h37 (ag 2 (qw hK h))
  ·refine ai 60 h37 (bd 7 3 ?_);obtain⟨h38,h⟩|⟨h38,h⟩:=am h
   ·exact ai 60 h38 (ag 2 (qw hK h))
   ·refine ai 60 h38 (bd 7 3 ?_);obtain⟨h39,h⟩|⟨h39,h⟩:=am h
    ·exact ai 60 h39 (ag 2 (qw hK h))
    ·refine ai 60 h39 (bd 7 3 ?_);obtain⟨h40,h⟩|⟨h40,h⟩:=am h
     ·exact ai 60 h40 (ag 2 (qw hK h))
     ·refine ai 60 h40 (bd 7 3 ?_);obtain⟨h41,h⟩|⟨h41,h⟩:=am h
      ·exact ai 60 h41 (ag 2 (qw hK h))
      ·exact ai 60 h41 (ag 2 (qw hK h))
theorem fY(hK:aq K)(h:dz K n v1 v3=some r):rt M w0 r [eR 117,.b 1,eR 15] (MI v1 v3):=by
 unfold dz at h;obtain⟨h21,h⟩|⟨h21,h⟩:=am h
 ·refine ai 30 h21 (aG 6 ?_);cases h;exact aU
 ·refine ai 30 h21 (aw 13 7 4 ?_);obtain⟨h22,h⟩|⟨h22,h⟩:=am h
  ·exact ai 44 h22 (ag 2 (ft hK h))
  ·refine ai 44 h22 (bd 7 3 ?_);obtain⟨h23,h⟩|⟨h23,h⟩:=am h
   ·exact ai 44 h23 (ag 2 (ft hK h))
   ·refine ai 44 h23 (bd 7 3 ?_);obtain⟨h24,h⟩|⟨h24,h⟩:=am h
    ·exact ai 44 h24 (ag 2 (ft hK h))
    ·refine ai 44 h24 (bd 7 3 ?_);obtain⟨h25,h⟩|⟨h25,h⟩:=am h
     ·exact ai 44 h25 (ag 2 (ft hK h))
     ·refine ai 44 h25 (bd 7 3 ?_);obtain⟨h26,h⟩|⟨h26,h⟩:=am h
      ·exact ai 44 h26 (ag 2 (ft hK h))
      ·refine ai 44 h26 (bd 7 3 ?_);obtain⟨h27,h⟩|⟨h27,h⟩:=am h
       ·exact ai 44 h27 (ag 2 (ft hK h))
       ·refine ai 44 h27 (bd 7 3 ?_);obtain⟨h28,h⟩|⟨h28,h⟩:=am h
        ·exact ai 44 h28 (ag 2 (ft hK h))
        ·refine ai 44 h28 (bd 7 3 ?_);obtain⟨h29,h⟩|⟨h29,h⟩:=am h
         ·exact ai 44 h29 (ag 2 (ft hK h))
         ·refine ai 44 h29 (bd 7 3 ?_);obtain⟨h30,h⟩|⟨h30,h⟩:=am h
          ·exact ai 44 h30 (ag 2 (ft hK h))
          ·refine ai 44 h30 (bd 7 3 ?_);obtain⟨h31,h⟩|⟨h31,h⟩:=am h
           ·exact ai 44 h31 (ag 2 (ft hK h))
           ·refine ai 44 h31 (bd 7 3 ?_);obtain⟨h32,h⟩|⟨h32,h⟩:=am h
            ·exact ai 44 h32 (ag 2 (ft hK h))
            ·refine ai 44 h32 (bd 7 3 ?_);obtain⟨h33,h⟩|⟨h33,h⟩:=am h
             ·exact ai 44 h33 (ag 2 (ft hK h))
             ·refine ai 44 h33 (bd 7 3 ?_);obtain⟨h34,h⟩|⟨h34,h⟩:=am h
              ·exact ai 44 h34 (ag 2 (ft hK h))
              ·refine ai 44 h34 (bd 7 3 ?_);obtain⟨h35,h⟩|⟨h35,h⟩:=am h
               ·exact ai 44 h35 (ag 2 (ft hK h))
               ·exact ai 44 h35 (ag 2 (ft hK h))
theorem nz(hK:aq K)(h:gg K n v1 v2=some r):rt M w0 r [eR 25,.b 0,eR 7] (UK v1 v2):=by
 unfold gg at h;obtain⟨h7,h⟩|⟨h7,h⟩:=am h
 ·refine ai 3 h7 (aG 6 ?_);cases h;exact aU
 ·refine ai 3 h7 (bd 7 3 ?_);obtain⟨h8,h⟩|⟨h8,h⟩:=am h
  ·refine ai 26 h8 (aG 6 ?_);cases h;exact aU
  ·refine ai 26 h8 (cr (ks':=[eR 233,eR 117,.b 1,eR 15]) 10 ?_);obtain⟨h9,h⟩|⟨h9,h⟩:=am h
   ·exact ai 30 h9 (ag 2 (fY hK h))
   ·refine ai 30 h9 (bd 7 3 ?_);obtain⟨h10,h⟩|⟨h10,h⟩:=am h
    ·exact ai 30 h10 (ag 2 (fY hK h))
    ·refine ai 30 h10 (bd 7 3 ?_);obtain⟨h11,h⟩|⟨h11,h⟩:=am h
     ·exact ai 30 h11 (ag 2 (fY hK h))
     ·refine ai 30 h11 (bd 7 3 ?_);obtain⟨h12,h⟩|⟨h12,h⟩:=am h
      ·exact ai 30 h12 (ag 2 (fY hK h))
      ·refine ai 30 h12 (bd 7 3 ?_);obtain⟨h13,h⟩|⟨h13,h⟩:=am h
       ·exact ai 30 h13 (ag 2 (fY hK h))
       ·refine ai 30 h13 (bd 7 3 ?_);obtain⟨h14,h⟩|⟨h14,h⟩:=am h
        ·exact ai 30 h14 (ag 2 (fY hK h))
        ·refine ai 30 h14 (bd 7 3 ?_);obtain⟨h15,h⟩|⟨h15,h⟩:=am h
         ·exact ai 30 h15 (ag 2 (fY hK h))
         ·refine ai 30 h15 (bd 7 3 ?_);obtain⟨h16,h⟩|⟨h16,h⟩:=am h
          ·exact ai 30 h16 (ag 2 (fY hK h))
          ·refine ai 30 h16 (bd 7 3 ?_);obtain⟨h17,h⟩|⟨h17,h⟩:=am h
           ·exact ai 30 h17 (ag 2 (fY hK h))
           ·refine ai 30 h17 (bd 7 3 ?_);obtain⟨h18,h⟩|⟨h18,h⟩:=am h
            ·exact ai 30 h18 (ag 2 (fY hK h))
            ·refine ai 30 h18 (bd 7 3 ?_);obtain⟨h19,h⟩|⟨h19,h⟩:=am h
             ·exact ai 30 h19 (ag 2 (fY hK h))
             ·refine ai 30 h19 (bd 7 3 ?_);obtain⟨h20,h⟩|⟨h20,h⟩:=am h
              ·exact ai 30 h20 (ag 2 (fY hK h))
              ·exact ai 30 h20 (ag 2 (fY hK h))
theorem C1(hK:aq K)(h:gn K n v1=some r):aN Tryz.prog 117 [.int .i32 v1] (fun v _=>v=iI r):=by
 refine bc (cat Tryz.f117 (pn 1)) Tryz.func117 Tryz.ntmps117 fun M w0=>(aZ ⟨[(0,.int .i32 v1)],[],[],[]⟩ ?_);unfold gn at h;refine cZ 24 25 0 7 5 (ak 3 ?_);obtain⟨h1,h⟩|⟨h1,h⟩:=am h
 ·exact ay 6 h1 (ac (ag 0 (nz hK h)))
 ·refine ay 6 h1 (aL 7 4 ?_);obtain⟨h2,h⟩|⟨h2,h⟩:=am h
  ·exact ay 10 h2 (ac (ag 0 (nz hK h)))
  ·refine ay 10 h2 (aL 10 3 ?_);obtain⟨h3,h⟩|⟨h3,h⟩:=am h
   ·refine ay 13 h3 (aL 15 5 ?_);obtain⟨h4,h⟩|⟨h4,h⟩:=am h
    ·exact ay 18 h4 (ac (ag 0 (nz hK h)))
    ·refine ay 18 h4 (aL 18 3 ?_);obtain⟨h5,h⟩|⟨h5,h⟩:=am h
     ·exact ay 21 h5 (ac (ag 0 (nz hK h)))
     ·exact ay 21 h5 (ac (ag 0 (nz hK h)))
   ·refine ay 13 h3 (aL 18 8 ?_);obtain⟨h6,h⟩|⟨h6,h⟩:=am h
    ·exact ay 21 h6 (ac (ag 0 (nz hK h)))
    ·exact ay 21 h6 (ac (ag 0 (nz hK h)))
end
noncomputable section
variable(M:Nat→Prop)(w0:aH)(r:Bool)(v1:Int)(v2:Bool)  
abbrev Hz(n:Nat):av:=.c (cat Tryz.f126 (pn n))
abbrev U1:Cx:=⟨Tryz.prog,9,M,w0⟩
abbrev K4:=bodyPost Tryz.prog Tryz.f126 (bq M w0 (fun v _=>v=.bool r))
abbrev Qg(ks:List av)(s:AS):=VE (U1 M w0) (K4 M w0 r) ks .normal s
def JK:AS:=⟨[(4,.bool v2)],[],[],[]⟩
variable{M w0 r v1 v2}{K:Kn}{n:Nat}
theorem vP(hK:aq K)(h:m6 K n v2=some r):Qg M w0 r [Hz 53,.b 0,Hz 7] (JK v2):=by
 unfold m6 at h;obtain⟨h4,h⟩|⟨h4,h⟩:=am h
 ·refine ai 4 h4 (aG 6 ?_);cases h;exact aU
 ·refine ai 4 h4 (aG 6 ?_);cases h;exact aU
theorem DB(hK:aq K)(h:oU K n v1=some r):aN Tryz.prog 126 [.int .i32 v1] (fun v _=>v=.bool r):=by
 refine bc (cat Tryz.f126 (pn 1)) Tryz.func126 Tryz.ntmps126 fun M w0=>(aZ ⟨[(0,.int .i32 v1)],[],[],[]⟩ ?_);unfold oU at h;refine cZ 105 53 0 7 9 ?_;obtain⟨h1,h⟩|⟨h1,h⟩:=am h
 ·exact ai 4 h1 (ag 2 (vP hK h))
 ·refine ai 4 h1 (bd 7 3 ?_);obtain⟨h2,h⟩|⟨h2,h⟩:=am h
  ·exact ai 4 h2 (ag 2 (vP hK h))
  ·refine ai 4 h2 (bd 7 3 ?_);obtain⟨h3,h⟩|⟨h3,h⟩:=am h
   ·exact ai 4 h3 (ag 2 (vP hK h))
   ·exact ai 4 h3 (ag 2 (vP hK h))
end
noncomputable section
variable(M:Nat→Prop)(w0:aH)(r:Bool)(v1 v2:Int)(v5 v7 v8:Bool)  
abbrev nW(n:Nat):av:=.c (cat Tryz.f114 (pn n))
abbrev Lt:Cx:=⟨Tryz.prog,29,M,w0⟩
abbrev LM:=bodyPost Tryz.prog Tryz.f114 (bq M w0 (fun v _=>v=.bool r))
abbrev BI(ks:List av)(s:AS):=VE (Lt M w0) (LM M w0 r) ks .normal s
def P0:AS:=⟨[(4,.bool v8)],[],[],[]⟩
def O6:AS:=⟨[(0,.int .i32 v1),(1,.int .i32 v2),(16,.bool v7)],[],[],[]⟩
def Ke:AS:=⟨[(0,.int .i32 v1),(1,.int .i32 v2),(5,.bool v5)],[],[],[]⟩
variable{M w0 r v1 v2 v5 v7 v8}{K:Kn}{n:Nat}
theorem Jp(hK:aq K)(h:sO K n v8=some r):BI M w0 r [nW 15] (P0 v8):=by
 unfold sO at h;refine aG 1 ?_;cases h;exact aU
theorem C6(hK:aq K)(h:rF K n v1 v2 v7=some r):BI M w0 r [nW 415,.b 0,nW 7] (O6 v1 v2 v7):=by
 unfold rF at h;obtain⟨h8,h⟩|⟨h8,h⟩:=am h
 ·refine ai 16 h8 (aG 6 ?_);cases h;exact aU
 ·refine ai 16 h8 (cr (ks':=[nW 14,nW 15]) 4 (ak 3 ?_));obtain⟨h9,h⟩|⟨h9,h⟩:=am h
  ·exact ay 25 h9 (ac (ag 0 (Jp hK h)))
  ·exact ay 25 h9 (ac (ag 0 (Jp hK h)))
theorem Gw(hK:aq K)(h:ou K n v1 v2 v5=some r):BI M w0 r [nW 25,.b 0,nW 7] (Ke v1 v2 v5):=by
 unfold ou at h;obtain⟨h4,h⟩|⟨h4,h⟩:=am h
 ·refine ai 5 h4 (aG 6 ?_);cases h;exact aU
 ·refine ai 5 h4 (aw 6 7 2 (ak 1 ?_));obtain⟨v6,h5,h⟩:=bind_some h;refine aB (DB hK h5) (ac ?_);obtain⟨h6,h⟩|⟨h6,h⟩:=am h
  ·refine ai 13 h6 (aG 6 ?_);cases h;exact aU
  ·refine ai 13 h6 (aw 6 7 2 (ak 3 ?_));obtain⟨h7,h⟩|⟨h7,h⟩:=am h
   ·exact ay 19 h7 (ac (ag 0 (C6 hK h)))
   ·exact ay 19 h7 (ac (ag 0 (C6 hK h)))
theorem QU(hK:aq K)(h:rN K n v1 v2=some r):aN Tryz.prog 114 [.int .i32 v1,.int .i32 v2] (fun v _=>v=.bool r):=by
 refine bc (cat Tryz.f114 (pn 1)) Tryz.func114 Tryz.ntmps114 fun M w0=>(aZ ⟨[(0,.int .i32 v1),(1,.int .i32 v2)],[],[],[]⟩ ?_);unfold rN at h;refine cZ 24 25 0 7 5 (ak 1 ?_);obtain⟨v3,h1,h⟩:=bind_some h;refine aB (DB hK h1) (aL 3 1 ?_);obtain⟨h2,h⟩|⟨h2,h⟩:=am h
 ·exact ay 8 h2 (ac (ag 0 (Gw hK h)))
 ·refine ay 8 h2 (aL 4 1 ?_);obtain⟨v4,h3,h⟩:=bind_some h;exact aB (C1 hK h3) (ac (ag 0 (Gw hK h)))
end
noncomputable section
variable(M:Nat→Prop)(w0:aH)(r:List Int)(v1:ByteArray)(v2:Nat)(v9:Int)(v10:Nat)(v11:List Int)(v13:Bool)(v14:List Int)(m1:Nat)(L1:Int→Nat→(List Int)→Option (List Int))
abbrev zH:Cx:=⟨Tryz.prog,26,M,w0⟩
abbrev A1:=bodyPost Tryz.prog Tryz.f90 (bq M w0 (fun v s=>v=.ref 23∧look 23 s.r=some ⟨3,1,lm (bG .i64) r⟩))
abbrev BE(ks:List av)(s:AS):=VE (zH M w0) (A1 M w0 r) ks .normal s
abbrev lX(n:Nat):av:=.c (cat Tryz.f90 (pn n))
abbrev zm:List av:=[.b 0,lX 31]
abbrev uX:List av:=kl (zH M w0) (A1 M w0 r) zm (cat Tryz.f90 (pn 244)) m1::zm
def QV:AS:=⟨[(3,.ref 23),(6,.int .i32 ((Utf8.decode v1 v10).1:Int)),(8,.sit 320008 v2 v1 (v10+(Utf8.decode v1 v10).2))],[],[(23,⟨3,1,lm (bG .i64) v14⟩)],[23,320008]⟩
def ML:AS:=⟨[(3,.ref 23),(5,iI ((v10:Nat):Int)),(6,.int .i32 ((Utf8.decode v1 v10).1:Int)),(8,.sit 320008 v2 v1 (v10+(Utf8.decode v1 v10).2)),(19,.bool v13)],[],[(23,⟨3,1,lm (bG .i64) v11⟩)],[23,320008]⟩
def Ez:AS:=⟨[(3,.ref 23),(4,.int .i32 v9),(8,.sit 320008 v2 v1 v10)],[],[(23,⟨3,1,lm (bG .i64) v11⟩)],[23,320008]⟩
abbrev wO:Prop:=∀{v9:Int} {v10:Nat} {v11:(List Int)},L1 v9 v10 v11=some r→LP (zH M w0) (A1 M w0 r) zm (cat Tryz.f90 (pn 244)) m1 (Ez v1 v2 v9 v10 v11)
variable{M w0 r v1 v2 v9 v10 v11 v13 v14 m1 L1}{K:Kn}{n:Nat}
theorem GC(hK:aq K)(hv2:w0.w.heap.size≤v2)(hL1:wO M w0 r v1 v2 m1 L1)(h:mY K n v1 v10 L1 v14=some r):BE M w0 r (lX 7835 :: .b 1::uX M w0 r m1) (QV v1 v2 v10 v14):=by
 unfold mY at h;exact ag 2 (bu (hL1 h))
theorem CK(hK:aq K)(hv2:w0.w.heap.size≤v2)(hL1:wO M w0 r v1 v2 m1 L1)(h:mO K n v1 v10 v11 L1 v13=some r):BE M w0 r (lX 15669::lX 7835 :: .b 1::uX M w0 r m1) (ML v1 v2 v10 v11 v13):=by
 unfold mO at h;obtain⟨h14,h⟩|⟨h14,h⟩:=am h
 ·refine ai 19 h14 (bd 2 1 (ak 3 ?_));obtain⟨h15,h⟩:=aS h;exact aA (cy 23 23 3 1 (bG .i64) (rfl) ((fun _=>rfl)) h15) (ac (ag 0 (GC hK (v2:=v2) hv2 hL1 h)))
 ·exact ai 19 h14 (ag 2 (GC hK (v2:=v2) hv2 hL1 h))
theorem SQ(hK:aq K)(hv2:w0.w.heap.size≤v2)(hL1:wO M w0 r v1 v2 m1 L1)(h:iZ K n v1 L1 v9 v10 v11=some r):BE M w0 r (lX 244::uX M w0 r m1) (Ez v1 v2 v9 v10 v11):=by
 unfold iZ at h;refine aw 2 3 1 (ak 0 ?_);obtain⟨h11,h⟩|⟨h11,h⟩:=am h
 ·refine w2 8 (id:=320008) (g:=v2) h11 hv2 (ac (cr (ks':=lX 15668::lX 15669::lX 7835 :: .b 1::uX M w0 r m1) 8 (ak 3 ?_)));obtain⟨h12,h⟩|⟨h12,h⟩:=am h
  ·refine ay 15 h12 (aL 5 2 ?_);obtain⟨v12,h13,h⟩:=bind_some h;exact aB (QU hK h13) (ac (ag 0 (CK hK (v2:=v2) hv2 hL1 h)))
  ·exact ay 15 h12 (ac (ag 0 (CK hK (v2:=v2) hv2 hL1 h)))
 ·refine t7 8 (id:=320008) (g:=v2) h11 (ac (aG 9 ?_));cases h;exact eg
theorem LJ(hK:aq K)(hv2:w0.w.heap.size≤v2)(m:Nat):wO M w0 r v1 v2 m (lT K n v1 m):=by
 induction m with
 | zero=>intro v9 v10 v11 h;cases h
 | succ m ih=>intro v9 v10 v11 h;have h:iZ K n v1 (lT K n v1 m) v9 v10 v11=some r:=h;exact br (SQ hK hv2 ih h)
theorem P3(hK:aq K)(h:rD K n v1=some r):aN Tryz.prog 90 [.str v1] (fun v s=>v=.ref 23∧look 23 s.r=some ⟨3,1,lm (bG .i64) r⟩):=by
 refine bc (cat Tryz.f90 (pn 1)) Tryz.func90 Tryz.ntmps90 fun M w0=>(aZ ⟨[(0,.str v1)],[],[],[]⟩ ?_);unfold rD at h;exact bP 60 61 31 8 (ak 1 (vG 320008 (b:=v1) fun v2 hv2=>(ac (iD 2 0 1 (bJ [3,4,8] [] [] (fk 23 3 3 1 (ag 0 (cm (p:=pn 122) n (LJ hK (v2:=v2) hv2 n h)))))))))
end
noncomputable section
variable(M:Nat→Prop)(w0:aH)(r:Bool)(v1 v2:ax)(v3 v7 v10:Bool)  
abbrev qL(n:Nat):av:=.c (cat Tryz.f53 (pn n))
abbrev LN:Cx:=⟨Tryz.prog,61,M,w0⟩
abbrev Mh:=bodyPost Tryz.prog Tryz.f53 (bq M w0 (fun v _=>v=.bool r))
abbrev yq(ks:List av)(s:AS):=VE (LN M w0) (Mh M w0 r) ks .normal s
def Md:AS:=⟨[(4,.bool v7)],[],[],[]⟩
def VY:AS:=⟨[(2,.ptr 2 0),(3,.ptr 3 0),(51,.bool v10)],[(2,aK v1),(3,aK v2)],[],[2,3]⟩
def JA:AS:=⟨[(2,.ptr 2 0),(3,.ptr 3 0),(12,.bool v3)],[(2,aK v1),(3,aK v2)],[],[2,3]⟩
variable{M w0 r v1 v2 v3 v7 v10}{K:Kn}{n:Nat}
theorem ro(hK:aq K)(h:lf K n v7=some r):yq M w0 r [qL 53,qL 7] (Md v7):=by
 unfold lf at h;refine aG 2 ?_;cases h;exact aU
theorem rc(hK:aq K)(h:iE K n v1 v2 v10=some r):yq M w0 r [qL 29,qL 15] (VY v1 v2 v10):=by
 unfold iE at h;obtain⟨h16,h⟩|⟨h16,h⟩:=am h
 ·refine ai 51 h16 (aG 5 ?_);cases h;exact aU
 ·refine ai 51 h16 (dJ 2 3 3 (ak 6 ?_));obtain⟨v11,h17,h⟩:=bind_some h;refine dE 1058 (P3 hK h17) (fm 23) (aA (bz (bG .i64) v11) (ac (aG 1 ?_)));cases h;exact aU
theorem Jh(hK:aq K)(h:k7 K n v1 v2 v3=some r):yq M w0 r [qL 13,qL 7] (JA v1 v2 v3):=by
 unfold k7 at h;obtain⟨h2,h⟩|⟨h2,h⟩:=am h
 ·refine ai 12 h2 (aw 4 5 2 (ak 4 ?_));obtain⟨h3,h⟩|⟨h3,h⟩:=am h
  ·refine ay 16 h3 (aL 12 8 ?_);obtain⟨h4,h⟩|⟨h4,h⟩:=am h
   ·exact ay 24 h4 (ac (ag 0 (ro hK h)))
   ·refine ay 24 h4 (aL 13 1 ?_);obtain⟨v4,h5,h⟩:=bind_some h;exact aB (sq hK h5) (ac (ag 0 (ro hK h)))
  ·refine ay 16 h3 (aL 5 1 ?_);obtain⟨v5,h6,h⟩:=bind_some h;refine aB (sq hK h6) (aL 8 2 ?_);obtain⟨h7,h⟩|⟨h7,h⟩:=am h
   ·refine ay 20 h7 (aL 12 4 ?_);obtain⟨h8,h⟩|⟨h8,h⟩:=am h
    ·exact ay 24 h8 (ac (ag 0 (ro hK h)))
    ·refine ay 24 h8 (aL 13 1 ?_);obtain⟨v6,h9,h⟩:=bind_some h;exact aB (sq hK h9) (ac (ag 0 (ro hK h)))
   ·exact ay 20 h7 (ac (ag 0 (ro hK h)))
 ·refine ai 12 h2 (gp 4 5 3 4 (ak 4 ?_));obtain⟨h10,h⟩|⟨h10,h⟩:=am h
  ·exact ay 32 h10 (ac (ag 0 (rc hK h)))
  ·refine ay 32 h10 (aL 9 5 ?_);obtain⟨h11,h⟩|⟨h11,h⟩:=am h
   ·exact ay 37 h11 (ac (ag 0 (rc hK h)))
   ·refine ay 37 h11 (aL 10 1 ?_);obtain⟨v8,h12,h⟩:=bind_some h;refine aB (sq hK h12) (aL 14 3 ?_);obtain⟨h13,h⟩|⟨h13,h⟩:=am h
    ·exact ay 42 h13 (ac (ag 0 (rc hK h)))
    ·refine ay 42 h13 (aL 18 4 ?_);obtain⟨h14,h⟩|⟨h14,h⟩:=am h
     ·refine ay 46 h14 (aL 19 1 ?_);obtain⟨v9,h15,h⟩:=bind_some h;exact aB (sq hK h15) (ac (ag 0 (rc hK h)))
     ·exact ay 46 h14 (ac (ag 0 (rc hK h)))
theorem Ir(hK:aq K)(h:px K n v1 v2=some r):aN Tryz.prog 53 [.agg (aK v1),.agg (aK v2)] (fun v _=>v=.bool r):=by
 refine bc (cat Tryz.f53 (pn 1)) Tryz.func53 Tryz.ntmps53 fun M w0=>(aZ ⟨[(0,.agg (aK v1)),(1,.agg (aK v2))],[],[],[]⟩ ?_);unfold px at h;refine bP 12 13 7 4 (ak 4 ?_);obtain⟨h1,h⟩|⟨h1,h⟩:=am h
 ·exact ay 8 h1 (ac (ag 0 (Jh hK h)))
 ·exact ay 8 h1 (ac (ag 0 (Jh hK h)))
end
noncomputable section
variable(M:Nat→Prop)(w0:aH)(r v1:Int)  
variable{M w0 r v1}{K:Kn}{n:Nat}
theorem uk(hK:aq K)(h:nE K n v1=some r):aN Tryz.prog 85 [iI v1] (fun v _=>v=iI r):=by
 refine bc (cat Tryz.f85 (pn 1)) Tryz.func85 Tryz.ntmps85 fun M w0=>(aZ ⟨[(0,iI v1)],[],[],[]⟩ ?_);unfold nE at h;refine aG 5 ?_;cases h;exact aU
end
noncomputable section
variable(M:Nat→Prop)(w0:aH)(r v1:Int)  
variable{M w0 r v1}{K:Kn}{n:Nat}
theorem Gm(hK:aq K)(h:rf K n v1=some r):aN Tryz.prog 49 [iI v1] (fun v _=>v=iI r):=by
 refine bc (cat Tryz.f49 (pn 1)) Tryz.func49 Tryz.ntmps49 fun M w0=>(aZ ⟨[(0,iI v1)],[],[],[]⟩ ?_);unfold rf at h;refine aw 6 7 3 (ak 1 ?_);obtain⟨v2,h1,h⟩:=bind_some h;refine aB (uk hK h1) (ac (aG 1 ?_));cases h;exact aU
end
noncomputable section
variable(M:Nat→Prop)(w0:aH)(r v1:Int)  
variable{M w0 r v1}{K:Kn}{n:Nat}
theorem Jg(hK:aq K)(h:qY K n v1=some r):aN Tryz.prog 50 [iI v1] (fun v _=>v=iI r):=by
 refine bc (cat Tryz.f50 (pn 1)) Tryz.func50 Tryz.ntmps50 fun M w0=>(aZ ⟨[(0,iI v1)],[],[],[]⟩ ?_);unfold qY at h;refine aw 6 7 3 (ak 1 ?_);obtain⟨v2,h1,h⟩:=bind_some h;refine aB (uk hK h1) (aL 3 1 ?_);obtain⟨v3,h2,h⟩:=bind_some h;refine aB (uk hK h2) (ac (aG 1 ?_));cases h;exact aU
end
noncomputable section
variable(M:Nat→Prop)(w0:aH)(r:Int×Int)(v1:aJ)  
variable{M w0 r v1}{K:Kn}{n:Nat}
theorem xe(hK:aq K)(h:iM K n v1=some r):aN Tryz.prog 20 [.agg (aE v1)] (fun v _=>v=.tup [iI r.1,iI r.2]):=by
 refine bc (cat Tryz.f20 (pn 1)) Tryz.func20 Tryz.ntmps20 fun M w0=>(aZ ⟨[(0,.agg (aE v1))],[],[],[]⟩ ?_);unfold iM at h;refine aw 14 15 5 (bJ [1,4] [1] [] ?_);obtain⟨v2,h1,h⟩:=bind_some h;obtain⟨v3,h2,h⟩:=bind_some h;refine bD 1 (nu 8 [.ptr 1 37,iI v1.FontSize,iI v2,iI (max v1.LineHeight 0),.ptr 1 37,iI v1.FontSize,iI v3,iI (ab ((max v1.LineHeight 0)-v3)),iI ((ab ((max v1.LineHeight 0)-v3)) / 2),iI (ab (v2+((ab ((max v1.LineHeight 0)-v3)) / 2)))]) [] [] [bT Tryz.prog 22 Tryz.f20 (pn 14) 10] (ao (vz 2) (aa (bL 0 1 10 (Gm hK h1)) (ao (vz 3) (aa (bL 0 1 14 (Jg hK h2)) (ao (vz 3) (aa (bU 0) bE)))))) (aG 3 ?_);cases h;exact dV
end
noncomputable section
variable(M:Nat→Prop)(w0:aH)(r:List Int)(v1:Int)(v2:List Int)(v3 v4:Bool)  
abbrev Gc(n:Nat):av:=.c (cat Tryz.f128 (pn n))
abbrev RU:Cx:=⟨Tryz.prog,78,M,w0⟩
abbrev Qn:=bodyPost Tryz.prog Tryz.f128 (bq M w0 (fun v s=>v=.ref 9∧dt s.o []∧look 9 s.r=some ⟨5,1,lm (bG .u8) r⟩))
abbrev DK(ks:List av)(s:AS):=VE (RU M w0) (Qn M w0 r) ks .normal s
def U8:AS:=⟨[(0,.ref 9),(1,.int .i32 v1),(50,.bool v4)],[],[(9,⟨5,1,lm (bG .u8) v2⟩)],[9]⟩
def Ms:AS:=⟨[(0,.ref 9),(1,.int .i32 v1),(5,.int .u32 (IntKind.wrap .u32 v1)),(25,.bool v3)],[],[(9,⟨5,1,lm (bG .u8) v2⟩)],[9]⟩
variable{M w0 r v1 v2 v3 v4}{K:Kn}{n:Nat}
theorem E3(hK:aq K)(h:sU K n v1 v2 v4=some r):DK M w0 r [Gc 479,.b 0] (U8 v1 v2 v4):=by
 unfold sU at h;obtain⟨h8,h⟩|⟨h8,h⟩:=am h
 ·refine ai 50 h8 (aw 4 5 2 (ak 20 ?_));obtain⟨h9,h⟩:=aS h;refine aA (cy 77 9 5 1 (bG .u8) (rfl) ((fun _=>rfl)) h9) (ac (aG 2 ?_));cases h;exact fg
 ·refine ai 50 h8 (aw 6 7 2 (ak 2 ?_));obtain⟨h10,h⟩:=aS h;refine aA (cy 10 9 5 1 (bG .u8) (rfl) ((fun _=>rfl)) h10) (ac (aG 2 ?_));cases h;exact fg
theorem zK(hK:aq K)(h:kW K n v1 v2 v3=some r):DK M w0 r [Gc 119,.b 0] (Ms v1 v2 v3):=by
 unfold kW at h;obtain⟨h5,h⟩|⟨h5,h⟩:=am h
 ·refine ai 25 h5 (aw 4 5 2 (ak 15 ?_));obtain⟨h6,h⟩:=aS h;refine aA (cy 49 9 5 1 (bG .u8) (rfl) ((fun _=>rfl)) h6) (ac (aG 2 ?_));cases h;exact fg
 ·refine ai 25 h5 (aw 6 7 2 (ak 3 ?_));obtain⟨h7,h⟩|⟨h7,h⟩:=am h
  ·exact ay 53 h7 (ac (ag 0 (E3 hK h)))
  ·exact ay 53 h7 (ac (ag 0 (E3 hK h)))
theorem L4(hK:aq K)(h:qq K n v1 v2=some r):f0 Tryz.prog 128 [.ref 9,.int .i32 v1] [] 9 ⟨5,1,lm (bG .u8) v2⟩ [9] (fun v s=>v=.ref 9∧dt s.o []∧look 9 s.r=some ⟨5,1,lm (bG .u8) r⟩):=by
 refine mX (c:=cat Tryz.f128 (pn 1)) Tryz.func128 (by kernel_rfl) _ Tryz.ntmps128 (of_decide_eq_true (by kernel_rfl)) fun M w0=>(aZ ⟨[(0,.ref 9),(1,.int .i32 v1)],[],[(9,⟨5,1,lm (bG .u8) v2⟩)],[9]⟩ ?_);unfold qq at h;refine iD 29 0 7 ?_;obtain⟨h1,h⟩|⟨h1,h⟩:=am h
 ·refine ai 11 h1 (aw 4 5 2 (ak 10 ?_));obtain⟨h2,h⟩:=aS h;refine aA (cy 24 9 5 1 (bG .u8) (rfl) ((fun _=>rfl)) h2) (ac (aG 2 ?_));cases h;exact fg
 ·refine ai 11 h1 (aw 13 7 4 ?_);obtain⟨h3,h⟩|⟨h3,h⟩:=am h
  ·exact ai 25 h3 (ag 2 (zK hK h))
  ·refine ai 25 h3 (bd 3 1 (ak 3 ?_));obtain⟨h4,h⟩|⟨h4,h⟩:=am h
   ·exact ay 30 h4 (ac (ag 0 (zK hK h)))
   ·exact ay 30 h4 (ac (ag 0 (zK hK h)))
end
noncomputable section
variable(M:Nat→Prop)(w0:aH)(r:List Int)(v1:Int)(v2:List Int)  
variable{M w0 r v1 v2}{K:Kn}{n:Nat}
theorem F8(hK:aq K)(h:qE K n v1 v2=some r):f0 Tryz.prog 116 [.ref 9,.int .i32 v1] [] 9 ⟨5,1,lm (bG .u8) v2⟩ [9] (fun v s=>v=.ref 9∧dt s.o []∧look 9 s.r=some ⟨5,1,lm (bG .u8) r⟩):=by
 refine mX (c:=cat Tryz.f116 (pn 1)) Tryz.func116 (by kernel_rfl) _ Tryz.ntmps116 (of_decide_eq_true (by kernel_rfl)) fun M w0=>(aZ ⟨[(0,.ref 9),(1,.int .i32 v1)],[],[(9,⟨5,1,lm (bG .u8) v2⟩)],[9]⟩ ?_);unfold qE at h;refine aw 13 7 5 ?_;obtain⟨h1,h⟩|⟨h1,h⟩:=am h
 ·refine ai 7 h1 (aw 4 5 2 (ak 4 ?_));obtain⟨h2,h⟩:=aS h;refine aA (cy 12 9 5 1 (bG .u8) (rfl) ((fun _=>rfl)) h2) (ac (aG 2 ?_));cases h;exact fg
 ·refine ai 7 h1 (dJ 2 3 3 (ak 2 ?_));obtain⟨v3,h3,h⟩:=bind_some h;refine jj 9 9 [] (L4 hK h3) (ac (aG 1 ?_));cases h;exact fg
end
noncomputable section
variable(M:Nat→Prop)(w0:aH)(r:Int×Unit×(List Int))(v1:Int)(v2:Bool)(v3:List Int)  
variable{M w0 r v1 v2 v3}{K:Kn}{n:Nat}
theorem H6(hK:aq K)(h:nI K n v1 v2 v3=some r):f0 Tryz.prog 91 [.ptr 450132 0,.int .i32 v1] [(450132,[(rC v2 450132),.ref 9])] 9 ⟨5,1,lm (bG .u8) v3⟩ [9,450132,1450132] (fun v s=>v=.tup [iI r.1,.vv .nilIface]∧dt s.o [(450132,[.ptr 450132 0,.ref 9])]∧look 9 s.r=some ⟨5,1,lm (bG .u8) r.2.2⟩):=by
 refine mX (c:=cat Tryz.f91 (pn 1)) Tryz.func91 (by kernel_rfl) _ Tryz.ntmps91 (of_decide_eq_true (by kernel_rfl)) fun M w0=>(aZ ⟨[(0,.ptr 450132 0),(1,.int .i32 v1)],[(450132,[(rC v2 450132),.ref 9])],[(9,⟨5,1,lm (bG .u8) v3⟩)],[9,450132,1450132]⟩ ?_);unfold nI at h;refine aw 6 7 3 (ak 1 ?_);rcases am h with⟨h1,gh1⟩|⟨h1,gh1⟩
 ·subst h1;have h:=gh1;refine Fr 450132 (b:=true) (c1:=.ref 9) (ac (aw 2 3 1 (ak 4 (aA (bz (bG .u8) v3) (ac (aw 2 3 1 (ak 6 ?_)))))));obtain⟨v4,h2,h⟩:=bind_some h;refine jj 9 9 [] (F8 hK h2) (ac (aw 2 3 1 (ak 4 (aA (bz (bG .u8) v4) (ac (aG 1 ?_))))));cases h;exact AR
 ·subst h1;have h:=gh1;refine Fr 450132 (b:=false) (c1:=.ref 9) (ac (aw 2 3 1 (ak 4 (aA (bz (bG .u8) v3) (ac (aw 2 3 1 (ak 6 ?_)))))));obtain⟨v5,h3,h⟩:=bind_some h;refine jj 9 9 [] (F8 hK h3) (ac (aw 2 3 1 (ak 4 (aA (bz (bG .u8) v5) (ac (aG 1 ?_))))));cases h;exact AR
end
noncomputable section
variable(M:Nat→Prop)(w0:aH)(r:Int)(v1 v2:Int)  
variable{M w0 r v1 v2}{K:Kn}{n:Nat}
theorem A2(hK:aq K)(h:lR K n v1 v2=some r):aN Tryz.prog 93 [.int .i32 v1,iI v2] (fun v _=>v=iI r):=by
 refine bc (cat Tryz.f93 (pn 1)) Tryz.func93 Tryz.ntmps93 fun M w0=>(aZ ⟨[(0,.int .i32 v1),(1,iI v2)],[],[],[]⟩ ?_);unfold lR at h;refine aw 6 7 3 (ak 1 ?_);obtain⟨v3,h1,h⟩:=bind_some h;refine aB (C1 hK h1) (aL 3 1 ?_);obtain⟨v4,h2,h⟩:=bind_some h;refine aB (uk hK h2) (ac (aG 1 ?_));cases h;exact aU
end
noncomputable section
variable(M:Nat→Prop)(w0:aH)(r:Int)(v1:ByteArray)(v2:Int)(v3:Nat)(v5:Int)(v6 m1:Nat)(L1:Int→Nat→Option Int)
abbrev yf:Cx:=⟨Tryz.prog,19,M,w0⟩
abbrev z4:=bodyPost Tryz.prog Tryz.f94 (bq M w0 (fun v _=>v=iI r))
abbrev LA(ks:List av)(s:AS):=VE (yf M w0) (z4 M w0 r) ks .normal s
abbrev Gg(n:Nat):av:=.c (cat Tryz.f94 (pn n))
abbrev xH:List av:=[.b 0,Gg 15]
abbrev PS:List av:=kl (yf M w0) (z4 M w0 r) xH (cat Tryz.f94 (pn 116)) m1::xH
def DE:AS:=⟨[(1,iI v2),(5,iI v5),(9,.sit 320009 v3 v1 v6)],[],[],[320009]⟩
abbrev FI:Prop:=∀{v5:Int} {v6:Nat},L1 v5 v6=some r→LP (yf M w0) (z4 M w0 r) xH (cat Tryz.f94 (pn 116)) m1 (DE v1 v2 v3 v5 v6)
variable{M w0 r v1 v2 v3 v5 v6 m1 L1}{K:Kn}{n:Nat}
theorem PM(hK:aq K)(hv3:w0.w.heap.size≤v3)(hL1:FI M w0 r v1 v2 v3 m1 L1)(h:pM K n v1 v2 L1 v5 v6=some r):LA M w0 r (Gg 116::PS M w0 r m1) (DE v1 v2 v3 v5 v6):=by
 unfold pM at h;refine aw 2 3 1 (ak 0 ?_);obtain⟨h3,h⟩|⟨h3,h⟩:=am h
 ·refine w2 9 (id:=320009) (g:=v3) h3 hv3 (ac (iD 13 1 6 (ak 3 ?_)));obtain⟨v7,h4,h⟩:=bind_some h;exact aB (A2 hK h4) (ac (ag 1 (bu (hL1 h))))
 ·refine t7 9 (id:=320009) (g:=v3) h3 (ac (aG 9 ?_));cases h;exact aU
theorem JV(hK:aq K)(hv3:w0.w.heap.size≤v3)(m:Nat):FI M w0 r v1 v2 v3 m (qR K n v1 v2 m):=by
 induction m with
 | zero=>intro v5 v6 h;cases h
 | succ m ih=>intro v5 v6 h;have h:pM K n v1 v2 (qR K n v1 v2 m) v5 v6=some r:=h;exact br (PM hK hv3 ih h)
theorem HY(hK:aq K)(h:nH K n v1 v2=some r):aN Tryz.prog 94 [.str v1,iI v2] (fun v _=>v=iI r):=by
 refine bc (cat Tryz.f94 (pn 1)) Tryz.func94 Tryz.ntmps94 fun M w0=>(aZ ⟨[(0,.str v1),(1,iI v2)],[],[],[]⟩ ?_);unfold nH at h;exact bP 28 29 15 6 (ak 1 (vG 320009 (b:=v1) fun v3 hv3=>(ac (ag 1 (cm (p:=pn 58) n (JV hK (v3:=v3) hv3 n h))))))
end
noncomputable section
variable(M:Nat→Prop)(w0:aH)(r:aM)(v1:List ax)(v4:Int)(v5:Bool)(v6:List Int)(v9:Bool)(v10:aJ)(v14:ByteArray)(v15:Int)(v18:aJ)(v22:ByteArray)(v23:Int)(m1:Nat)(L1:Int→Bool→(List Int)→Option aM)
abbrev BD:Cx:=⟨Tryz.prog,59,M,w0⟩
abbrev xI:=bodyPost Tryz.prog Tryz.f54 (bq M w0 (fun v _=>v=.agg (aY r)))
abbrev wI(ks:List av)(s:AS):=VE (BD M w0) (xI M w0 r) ks .normal s
abbrev eH(n:Nat):av:=.c (cat Tryz.f54 (pn n))
abbrev zB:List av:=[.b 0,eH 15]
abbrev Pg:List av:=kl (BD M w0) (xI M w0 r) zB (cat Tryz.f54 (pn 116)) m1::zB
def Mj:AS:=⟨[(2,.ptr 2 0),(6,.ptr 6 0),(7,.ptr 7 0),(8,.str v14)],[(2,List.set (aY cO) 61 (.nils)),(6,aE v10),(7,List.set (aY ({ cO with Text:=(bytesOf v6),Space:=v15 }:aM)) 61 (.nils))],[],[2,6,7]⟩
def KG:AS:=⟨[(2,.ptr 2 0),(6,.ptr 6 0),(7,.ptr 7 0),(8,.str v22)],[(2,List.set (aY cO) 61 (.nils)),(6,aE v18),(7,List.set (aY ({ cO with Text:=(bytesOf v6),Space:=v23 }:aM)) 61 (.nils))],[],[2,6,7]⟩
def Sk:AS:=⟨[(0,.sl (lm aK v1)),(2,.ptr 2 0),(3,.ptr 451132 0)],[(2,List.set (aY cO) 61 (.nils)),(451132,[(rC v9 451132),.ref 401132])],[(401132,⟨5,1,lm (bG .u8) v6⟩)],[2,451132,401132]⟩
def F4:AS:=⟨[(0,.sl (lm aK v1)),(2,.ptr 2 0),(3,.ptr 451132 0),(9,.sl (lm aK v1)),(10,iI (v1.length:Int)),(11,iI v4)],[(2,List.set (aY cO) 61 (.nils)),(451132,[(rC v5 451132),.ref 401132])],[(401132,⟨5,1,lm (bG .u8) v6⟩)],[2,451132,401132]⟩
abbrev Fo:Prop:=∀{v4:Int} {v5:Bool} {v6:(List Int)},L1 v4 v5 v6=some r→LP (BD M w0) (xI M w0 r) zB (cat Tryz.f54 (pn 116)) m1 (F4 v1 v4 v5 v6)
variable{M w0 r v1 v4 v5 v6 v9 v10 v14 v15 v18 v22 v23 m1 L1}{K:Kn}{n:Nat}
theorem E0(hK:aq K)(h:tJ K n v6 v10 v14 v15=some r):wI M w0 r [eH 255] (Mj v6 v10 v14 v15):=by
 unfold tJ at h;refine aw 2 3 1 (ak 3 ?_);obtain⟨v16,h24,h⟩:=bind_some h;refine aB (HY hK h24) (ac (aw 2 3 1 (ak 1 ?_)));obtain⟨v17,h25,h⟩:=bind_some h;refine aB (xe hK h25) (ac (aG 3 (rM 2 ?_)));cases h;exact aU
theorem G5(hK:aq K)(h:sW K n v6 v18 v22 v23=some r):wI M w0 r [eH 255] (KG v6 v18 v22 v23):=by
 unfold sW at h;refine aw 2 3 1 (ak 3 ?_);obtain⟨v24,h35,h⟩:=bind_some h;refine aB (HY hK h35) (ac (aw 2 3 1 (ak 1 ?_)));obtain⟨v25,h36,h⟩:=bind_some h;refine aB (xe hK h36) (ac (aG 3 (rM 2 ?_)));cases h;exact aU
theorem H4(hK:aq K)(h:po K n v1 v6 v9=some r):wI M w0 r [eH 15] (Sk v1 v6 v9):=by
 unfold po at h;rcases am h with⟨h14,gh14⟩|⟨h14,gh14⟩
 ·subst h14;have h:=gh14;refine aw 2 3 1 (ak 1 ?_);obtain⟨h15,h⟩:=aS h;refine aA (bM aK aK h15 (dF) ((fun _=>rfl))) (ac ?_);obtain⟨v10,h16,h⟩:=bW h;refine bB (ks':=[eH 62,eH 63]) 1 ⟨[(0,.sl (lm aK v1)),(2,.ptr 2 0),(3,.ptr 451132 0),(6,.ptr 6 0)],[(2,List.set (aY cO) 61 (.nils)),(6,aE v10),(451132,[.ptr 451132 0,.ref 401132])],[(401132,⟨5,1,lm (bG .u8) v6⟩)],[2,6,451132,401132]⟩ ?_ (by subst h16;kernel_rfl);refine ak 0 ?_;obtain⟨h17,h⟩:=aS h;refine EI 451132 401132 (L:=v6) h17 (ac (bP 12 13 7 4 (ak 2 (aA (bz aK v1) (aL 4 1 ?_)))));obtain⟨h18,h⟩:=aS h;refine aA (bM aK aK h18 (dF) ((fun _=>rfl))) (ac ?_);obtain⟨v11,h19,h⟩:=bW h;refine bB (ks':=[eH 509,eH 255]) 0 ⟨[(2,.ptr 2 0),(6,.ptr 6 0),(7,.ptr 7 0),(8,.str (bytesOf v6)),(36,.bool v11)],[(2,List.set (aY cO) 61 (.nils)),(6,aE v10),(7,List.set (aY ({ cO with Text:=(bytesOf v6) }:aM)) 61 (.nils))],[],[2,6,7]⟩ ?_ (by subst h19;kernel_rfl)
  obtain⟨h20,h⟩|⟨h20,h⟩:=am h
  ·refine ai 36 h20 (aw 4 5 2 (ak 4 ?_));obtain⟨h21,h⟩:=aS h;refine aA (ve h21) (ac ?_);obtain⟨v12,h22,h⟩:=bW h;refine bB (ks':=[eH 2037,eH 255]) 0 ⟨[(2,.ptr 2 0),(6,.ptr 6 0),(7,.ptr 7 0),(8,.str v12)],[(2,List.set (aY cO) 61 (.nils)),(6,aE v10),(7,List.set (aY ({ cO with Text:=(bytesOf v6) }:aM)) 61 (.nils))],[],[2,6,7]⟩ ?_ (by subst h22;kernel_rfl);refine ak 2 ?_;obtain⟨v13,h23,h⟩:=bind_some h;exact aB (A2 hK h23) (ac (ag 0 (E0 hK h)))
  ·exact ai 36 h20 (ag 2 (E0 hK h))
 ·subst h14;have h:=gh14;refine aw 2 3 1 (ak 1 ?_);obtain⟨h26,h⟩:=aS h;refine aA (bM aK aK h26 (dF) ((fun _=>rfl))) (ac ?_);obtain⟨v18,h27,h⟩:=bW h;refine bB (ks':=[eH 62,eH 63]) 1 ⟨[(0,.sl (lm aK v1)),(2,.ptr 2 0),(3,.ptr 451132 0),(6,.ptr 6 0)],[(2,List.set (aY cO) 61 (.nils)),(6,aE v18),(451132,[.nilp,.ref 401132])],[(401132,⟨5,1,lm (bG .u8) v6⟩)],[2,6,451132,401132]⟩ ?_ (by subst h27;kernel_rfl);refine ak 0 ?_;obtain⟨h28,h⟩:=aS h;refine EI 451132 401132 (L:=v6) h28 (ac (bP 12 13 7 4 (ak 2 (aA (bz aK v1) (aL 4 1 ?_)))));obtain⟨h29,h⟩:=aS h;refine aA (bM aK aK h29 (dF) ((fun _=>rfl))) (ac ?_);obtain⟨v19,h30,h⟩:=bW h;refine bB (ks':=[eH 509,eH 255]) 0 ⟨[(2,.ptr 2 0),(6,.ptr 6 0),(7,.ptr 7 0),(8,.str (bytesOf v6)),(36,.bool v19)],[(2,List.set (aY cO) 61 (.nils)),(6,aE v18),(7,List.set (aY ({ cO with Text:=(bytesOf v6) }:aM)) 61 (.nils))],[],[2,6,7]⟩ ?_ (by subst h30;kernel_rfl);obtain⟨h31,h⟩|⟨h31,h⟩:=am h
  ·refine ai 36 h31 (aw 4 5 2 (ak 4 ?_));obtain⟨h32,h⟩:=aS h;refine aA (ve h32) (ac ?_);obtain⟨v20,h33,h⟩:=bW h;refine bB (ks':=[eH 2037,eH 255]) 0 ⟨[(2,.ptr 2 0),(6,.ptr 6 0),(7,.ptr 7 0),(8,.str v20)],[(2,List.set (aY cO) 61 (.nils)),(6,aE v18),(7,List.set (aY ({ cO with Text:=(bytesOf v6) }:aM)) 61 (.nils))],[],[2,6,7]⟩ ?_ (by subst h33;kernel_rfl);refine ak 2 ?_;obtain⟨v21,h34,h⟩:=bind_some h;exact aB (A2 hK h34) (ac (ag 0 (G5 hK h)))
  ·exact ai 36 h31 (ag 2 (G5 hK h))
theorem RK(hK:aq K)(hL1:Fo M w0 r v1 m1 L1)(h:pS K n v1 L1 v4 v5 v6=some r):wI M w0 r (eH 116::Pg M w0 r m1) (F4 v1 v4 v5 v6):=by
 unfold pS at h;rcases am h with⟨h7,gh7⟩|⟨h7,gh7⟩
 ·subst h7;have h:=gh7;refine aw 6 7 3 ?_;obtain⟨h8,h⟩|⟨h8,h⟩:=am h
  ·refine ai 12 h8 (cN 8 9 1 3 5 (ak 0 ?_));obtain⟨h9,h⟩:=aS h;refine aA (bM aK aK h9 (dF) ((fun _=>rfl))) (ac (ak 2 ?_));obtain⟨v7,h10,h⟩:=bind_some h;exact jj 401132 9 [(451132,450132)] (H6 hK h10) (ac (ag 2 (bu (hL1 h))))
  ·exact ai 12 h8 (ag 5 (H4 hK h))
 ·subst h7;have h:=gh7;refine aw 6 7 3 ?_;obtain⟨h11,h⟩|⟨h11,h⟩:=am h
  ·refine ai 12 h11 (cN 8 9 1 3 5 (ak 0 ?_));obtain⟨h12,h⟩:=aS h;refine aA (bM aK aK h12 (dF) ((fun _=>rfl))) (ac (ak 2 ?_));obtain⟨v8,h13,h⟩:=bind_some h;exact jj 401132 9 [(451132,450132)] (H6 hK h13) (ac (ag 2 (bu (hL1 h))))
  ·exact ai 12 h11 (ag 5 (H4 hK h))
theorem S3(hK:aq K)(m:Nat):Fo M w0 r v1 m (nd K n v1 m):=by
 induction m with
 | zero=>intro v4 v5 v6 h;cases h
 | succ m ih=>intro v4 v5 v6 h;have h:pS K n v1 (nd K n v1 m) v4 v5 v6=some r:=h;exact br (RK hK ih h)
theorem UX(hK:aq K)(h:tw K n v1=some r):aN Tryz.prog 54 [.sl (lm aK v1)] (fun v _=>v=.agg (aY r)):=by
 refine bc (cat Tryz.f54 (pn 1)) Tryz.func54 Tryz.ntmps54 fun M w0=>(aZ ⟨[(0,.sl (lm aK v1))],[],[],[]⟩ ?_);unfold tw at h;exact aw 6 7 3 (ak 0 (Sx 451132 (T:=132) (d:=3) (cs:=[.nilp,.nils]) (ac (bP 4 5 3 2 (ak 1 (aA (bz aK v1) (ac (iD 2 0 1 (bJ [0,2,3,9,10,11] [2,451132] [] (wu 401132 451132 1 5 1 (ag 0 (cm (p:=pn 58) n (S3 hK n h)))))))))))))
end
noncomputable section
variable(M:Nat→Prop)(w0:aH)(r:List aM)(v1:List aj)(v2:Fv)(v3:List ax)(v30:Int)(v31:List aM)(v33:Bool)(v39:Int)(v41:Bool)(v43:Int)(v44:aM)(m1 m2:Nat)(L1:Int→(List aM)→Option (List aM))(L2:Int→Option (List aM))
abbrev rZ:Cx:=⟨Tryz.prog,120,M,w0⟩
abbrev q9:=bodyPost Tryz.prog Tryz.f22 (bq M w0 (fun v s=>v=.ref 117∧look 117 s.r=some ⟨46,62,lm aY r⟩))
abbrev tA(ks:List av)(s:AS):=VE (rZ M w0) (q9 M w0 r) ks .normal s
abbrev dQ(n:Nat):av:=.c (cat Tryz.f22 (pn n))
abbrev yc:List av:=[.b 0,dQ 31]
abbrev iT:List av:=kl (rZ M w0) (q9 M w0 r) yc (cat Tryz.f22 (pn 244)) m1::yc
abbrev AH:List av:=.b 3::dQ 4009823 :: .b 2::dQ 31327 :: .b 1::iT M w0 r m1
abbrev FO:List av:=kl (rZ M w0) (q9 M w0 r) (AH M w0 r m1) (cat Tryz.f22 (pn 16039288)) m2::(AH M w0 r m1)
def MK:AS:=⟨[(1,.fn v2.id v2.aX),(5,.sl (lm aK v3)),(6,.ref 117),(8,.ptr 8 0),(9,.bool v33),(10,.ptr 10 0),(11,iI v43)],[(8,aK (gD v3 v30)),(10,aY v44)],[(117,⟨46,62,lm aY v31⟩)],[8,10,117]⟩
def Sh:AS:=⟨[(1,.fn v2.id v2.aX),(5,.sl (lm aK v3)),(6,.ref 117),(7,iI v30),(8,.ptr 8 0),(9,.bool v33),(10,.ptr 10 0),(11,iI v39),(81,.bool v41)],[(8,aK (gD v3 v30)),(10,List.set (aY cO) 61 (.nils))],[(117,⟨46,62,lm aY v31⟩)],[8,10,117]⟩
def HM:AS:=⟨[(1,.fn v2.id v2.aX),(5,.sl (lm aK v3)),(6,.ref 117),(7,iI v30),(8,.ptr 8 0),(9,.bool v33),(10,.ptr 10 0),(11,iI v39)],[(8,aK (gD v3 v30)),(10,List.set (aY cO) 61 (.nils))],[(117,⟨46,62,lm aY v31⟩)],[8,10,117]⟩
def Jx:AS:=⟨[(1,.fn v2.id v2.aX),(5,.sl (lm aK v3)),(6,.ref 117),(7,iI v30),(8,.ptr 8 0),(9,.bool v33)],[(8,aK (gD v3 v30))],[(117,⟨46,62,lm aY v31⟩)],[8,117]⟩
def I6:AS:=⟨[(1,.fn v2.id v2.aX),(5,.sl (lm aK v3)),(6,.ref 117),(7,iI v30)],[],[(117,⟨46,62,lm aY v31⟩)],[117]⟩
abbrev mP:Prop:=∀{v30:Int} {v31:(List aM)},L1 v30 v31=some r→LP (rZ M w0) (q9 M w0 r) yc (cat Tryz.f22 (pn 244)) m1 (I6 v2 v3 v30 v31)
abbrev zl:Prop:=∀{v39:Int},L2 v39=some r→LP (rZ M w0) (q9 M w0 r) (AH M w0 r m1) (cat Tryz.f22 (pn 16039288)) m2 (HM v2 v3 v30 v31 v33 v39)
variable{M w0 r v1 v2 v3 v30 v31 v33 v39 v41 v43 v44 m1 m2 L1 L2}{K:Kn}{n:Nat}
theorem BJ(hK:aq K)(hL1:mP M w0 r v2 v3 m1 L1)(h:iG K n v2 v3 v30 v31 v33 L1 v43 v44=some r):tA M w0 r (.b 2::dQ 31327 :: .b 1::iT M w0 r m1) (MK v2 v3 v30 v31 v33 v43 v44):=by
 unfold iG at h;refine dJ 2 3 2 (bJ [1,5,6,8,9,10,11] [8,10] [117] (bD 3 (nu 100 [.ptr 8 4,.cptr (aV ((gD v3 v30).Box)),.cptr (aV ((gD v3 v30).Box)),.cptr (List.drop 1 (aV ((gD v3 v30).Box))),iI (((gD v3 v30).Box).Node),.ptr 8 4,.cptr (aV ((gD v3 v30).Box)),.cptr (aV ((gD v3 v30).Box)),.cptr (List.drop 2 (aV ((gD v3 v30).Box))),.agg (aE (((gD v3 v30).Box).Style)),.bool v33,.ptr 10 0,.ptr 10 2,.ptr 10 59]) [] [] [bT Tryz.prog 120 Tryz.f22 (pn 62654) 12,bT Tryz.prog 120 Tryz.f22 (pn 62654) 14,bT Tryz.prog 120 Tryz.f22 (pn 62654) 16] (ao [.v 0 1,.v 0 1,.v 0 1,.v 0 1,.v 0 1,.v 0 2,.v 0 2,.v 0 2,.v 0 2,.v 0 2,.v 0 3,.v 0 1] (aa (bU 0) (ao [.v 1 1] (aa (bU 1) (ao [.v 2 1] (aa (bU 2) bE)))))) ?_));obtain⟨v45,h94,h⟩:=bW h;obtain⟨v46,h95,h⟩:=bW h;refine bB (ks':=dQ 125310::dQ 125311 :: .b 1::iT M w0 r m1) 1 ⟨[(1,.fn v2.id v2.aX),(5,.sl (lm aK v3)),(6,.ref 117),(10,.ptr 10 0),(11,iI v43)],[(10,aY ({ v44 with Node:=v45,Style:=v46,Glued:=v33 }:aM))],[(117,⟨46,62,lm aY v31⟩)],[10,117]⟩ ?_ (by subst h95;subst h94;kernel_rfl)
 refine ak 3 ?_;obtain⟨h96,h⟩:=aS h;exact aA (cy 117 117 46 62 aY (rfl) (iz) h96) (ac (ag 2 (bu (hL1 h))))
theorem xr(hK:aq K)(hL1:mP M w0 r v2 v3 m1 L1)(hL2:zl M w0 r v2 v3 v30 v31 v33 m1 m2 L2)(h:jm K n v2 v3 v30 v31 v33 v39 L1 L2 v41=some r):tA M w0 r (dQ 64157153::dQ 32078577::FO M w0 r m1 m2) (Sh v2 v3 v30 v31 v33 v39 v41):=by
 unfold jm at h;obtain⟨h91,h⟩|⟨h91,h⟩:=am h
 ·exact ai 81 h91 (ag 5 (bu (hL2 h)))
 ·refine ai 81 h91 (cr (ks':=dQ 4009823 :: .b 2::dQ 31327 :: .b 1::iT M w0 r m1) 5 (ak 3 ?_));obtain⟨h92,h⟩:=aS h;refine aA (zM aK v3 v30 v39 97 (.tmp 84) (some (.tmp 85)) (some (.tmp 86)) 87 (e:=101) (sz:=5) (by kernel_rfl) (by kernel_rfl) (by kernel_rfl) (by kernel_rfl) (by kernel_rfl) (by kernel_rfl) (dF) (fun k hk=>by subst hk;kernel_rfl) h92) ?_;obtain⟨v42,h93,h⟩:=bind_some h;exact aB (UX hK h93) (ac (ag 0 (BJ hK hL1 h)))
theorem Kd(hK:aq K)(hL1:mP M w0 r v2 v3 m1 L1)(hL2:zl M w0 r v2 v3 v30 v31 v33 m1 m2 L2)(h:pB K n v2 v3 v30 v31 v33 L1 L2 v39=some r):tA M w0 r (dQ 16039288::FO M w0 r m1 m2) (HM v2 v3 v30 v31 v33 v39):=by
 unfold pB at h;refine bP 4 5 3 2 (bJ [1,5,6,7,8,9,10,11] [8,10] [117] ?_);obtain⟨h83,h⟩|⟨h83,h⟩:=am h
 ·obtain⟨h84,h⟩:=aS h;obtain⟨h85,h⟩|⟨h85,h⟩:=am h
  ·obtain⟨h86,h⟩:=aS h;obtain⟨h87,h⟩|⟨h87,h⟩:=am h
   ·obtain⟨h88,h⟩:=aS h;obtain⟨h89,h⟩:=aS h;obtain⟨v40,h90,h⟩:=bind_some h;exact bD 0 (nu 47 [iI v39,.sl (lm aK v3),iI (v3.length:Int),.bool (decide (v39<(v3.length:Int))),.bool true,.sl (lm aK v3),iI v39,.cptr (aK (gD v3 v39)),.cptr (List.drop 0 (aK (gD v3 v39))),iI ((gD v3 v39).Kind),.bool (((gD v3 v39).Kind) == 1),.bool (((gD v3 v39).Kind) == 1),.bool true,.sl (lm aK v3),iI v39,.cptr (aK (gD v3 v39)),.cptr (List.drop 1 (aK (gD v3 v39))),iI ((gD v3 v39).Of),.ptr 8 1,iI ((gD v3 v30).Of),.bool (((gD v3 v39).Of) == ((gD v3 v30).Of)),.bool (((gD v3 v39).Of) == ((gD v3 v30).Of)),.bool true,.sl (lm aK v3),iI v39,iI (ab (v39-1)),.cptr (aK (gD v3 ((ab (v39-1))))),.agg (aK (gD v3 ((ab (v39-1))))),.sl (lm aK v3),iI v39,.cptr (aK (gD v3 v39)),.agg (aK (gD v3 v39)),.bool v40,.bool (!v40),.bool (!v40)]) [] [] [] (ao (vz 2) (bC (bz aK v3) (ao [.v 0 1] (aa (bb 0 51 (e:=(decide (v39<(v3.length:Int)))) (b:=true) h83) (ao (vz 2) (bC (bM aK aK h84 (dF) ((fun _=>rfl))) (ao (vz 4) (aa (bb 0 59 (e:=(((gD v3 v39).Kind) == 1)) (b:=true) h85) (ao (vz 2) (bC (bM aK aK h86 (dF) ((fun _=>rfl))) (ao (vz 6) (aa (bb 0 69 (e:=(((gD v3 v39).Of) == ((gD v3 v30).Of))) (b:=true) h87) (ao (vz 3) (bC (bM aK aK h88 (dF) ((fun _=>rfl))) (ao (vz 3) (bC (bM aK aK h89 (dF) ((fun _=>rfl))) (ao [.v 0 1] (aa (bL 0 1 79 (Ir hK h90)) (ao (vz 2) bE))))))))))))))))))) (ag 0 (xr hK hL1 hL2 h))
   ·exact bD 0 (nu 47 [iI v39,.sl (lm aK v3),iI (v3.length:Int),.bool (decide (v39<(v3.length:Int))),.bool true,.sl (lm aK v3),iI v39,.cptr (aK (gD v3 v39)),.cptr (List.drop 0 (aK (gD v3 v39))),iI ((gD v3 v39).Kind),.bool (((gD v3 v39).Kind) == 1),.bool (((gD v3 v39).Kind) == 1),.bool true,.sl (lm aK v3),iI v39,.cptr (aK (gD v3 v39)),.cptr (List.drop 1 (aK (gD v3 v39))),iI ((gD v3 v39).Of),.ptr 8 1,iI ((gD v3 v30).Of),.bool (((gD v3 v39).Of) == ((gD v3 v30).Of)),.bool (((gD v3 v39).Of) == ((gD v3 v30).Of)),.bool false,.tup [],.tup [],.tup [],.tup [],.tup [],.tup [],.tup [],.tup [],.tup [],.tup [],.tup [],.bool false]) [] [] [] (ao (vz 2) (bC (bz aK v3) (ao [.v 0 1] (aa (bb 0 51 (e:=(decide (v39<(v3.length:Int)))) (b:=true) h83) (ao (vz 2) (bC (bM aK aK h84 (dF) ((fun _=>rfl))) (ao (vz 4) (aa (bb 0 59 (e:=(((gD v3 v39).Kind) == 1)) (b:=true) h85) (ao (vz 2) (bC (bM aK aK h86 (dF) ((fun _=>rfl))) (ao (vz 6) (aa (bb 0 69 (e:=(((gD v3 v39).Of) == ((gD v3 v30).Of))) (b:=false) h87) (aa (ah 0 1) (aa (ah 0 1) (aa (ah 0 1) (aa (ah 0 1) (aa (ah 0 1) (aa (ah 0 1) (aa (ah 0 1) (aa (ah 0 1) (aa (ah 0 1) (aa (ah 0 1) (aa (ah 0 1) (ao [.v 0 1] bE)))))))))))))))))))))))) (ag 0 (xr hK hL1 hL2 h))
  ·exact bD 0 (nu 47 [iI v39,.sl (lm aK v3),iI (v3.length:Int),.bool (decide (v39<(v3.length:Int))),.bool true,.sl (lm aK v3),iI v39,.cptr (aK (gD v3 v39)),.cptr (List.drop 0 (aK (gD v3 v39))),iI ((gD v3 v39).Kind),.bool (((gD v3 v39).Kind) == 1),.bool (((gD v3 v39).Kind) == 1),.bool false,.tup [],.tup [],.tup [],.tup [],.tup [],.tup [],.tup [],.tup [],.bool false,.bool false,.tup [],.tup [],.tup [],.tup [],.tup [],.tup [],.tup [],.tup [],.tup [],.tup [],.tup [],.bool false]) [] [] [] (ao (vz 2) (bC (bz aK v3) (ao [.v 0 1] (aa (bb 0 51 (e:=(decide (v39<(v3.length:Int)))) (b:=true) h83) (ao (vz 2) (bC (bM aK aK h84 (dF) ((fun _=>rfl))) (ao (vz 4) (aa (bb 0 59 (e:=(((gD v3 v39).Kind) == 1)) (b:=false) h85) (aa (ah 0 1) (aa (ah 0 1) (aa (ah 0 1) (aa (ah 0 1) (aa (ah 0 1) (aa (ah 0 1) (aa (ah 0 1) (aa (ah 0 1) (ao (vz 2) (aa (ah 0 1) (aa (ah 0 1) (aa (ah 0 1) (aa (ah 0 1) (aa (ah 0 1) (aa (ah 0 1) (aa (ah 0 1) (aa (ah 0 1) (aa (ah 0 1) (aa (ah 0 1) (aa (ah 0 1) (ao [.v 0 1] bE))))))))))))))))))))))))))))) (ag 0 (xr hK hL1 hL2 h))
 ·exact bD 0 (nu 47 [iI v39,.sl (lm aK v3),iI (v3.length:Int),.bool (decide (v39<(v3.length:Int))),.bool false,.tup [],.tup [],.tup [],.tup [],.tup [],.tup [],.bool false,.bool false,.tup [],.tup [],.tup [],.tup [],.tup [],.tup [],.tup [],.tup [],.bool false,.bool false,.tup [],.tup [],.tup [],.tup [],.tup [],.tup [],.tup [],.tup [],.tup [],.tup [],.tup [],.bool false]) [] [] [] (ao (vz 2) (bC (bz aK v3) (ao [.v 0 1] (aa (bb 0 51 (e:=(decide (v39<(v3.length:Int)))) (b:=false) h83) (aa (ah 0 1) (aa (ah 0 1) (aa (ah 0 1) (aa (ah 0 1) (aa (ah 0 1) (aa (ah 0 1) (ao (vz 2) (aa (ah 0 1) (aa (ah 0 1) (aa (ah 0 1) (aa (ah 0 1) (aa (ah 0 1) (aa (ah 0 1) (aa (ah 0 1) (aa (ah 0 1) (ao (vz 2) (aa (ah 0 1) (aa (ah 0 1) (aa (ah 0 1) (aa (ah 0 1) (aa (ah 0 1) (aa (ah 0 1) (aa (ah 0 1) (aa (ah 0 1) (aa (ah 0 1) (aa (ah 0 1) (aa (ah 0 1) (ao [.v 0 1] bE)))))))))))))))))))))))))))))))) (ag 0 (xr hK hL1 hL2 h))
theorem OC(hK:aq K)(hL1:mP M w0 r v2 v3 m1 L1)(m:Nat):zl M w0 r v2 v3 v30 v31 v33 m1 m (mV K n v2 v3 v30 v31 v33 L1 m):=by
 induction m with
 | zero=>intro v39 h;cases h
 | succ m ih=>intro v39 h;have h:pB K n v2 v3 v30 v31 v33 L1 (mV K n v2 v3 v30 v31 v33 L1 m) v39=some r:=h;exact br (Kd hK hL1 ih h)
theorem xQ(hK:aq K)(hL1:mP M w0 r v2 v3 m1 L1)(h:mS K n v2 v3 v30 v31 L1 v33=some r):tA M w0 r (dQ 3915 :: .b 1::iT M w0 r m1) (Jx v2 v3 v30 v31 v33):=by
 unfold mS at h;obtain⟨v34,h69,h⟩:=bW h;refine bB (ks':=dQ 250613 :: .b 2::dQ 31327 :: .b 1::iT M w0 r m1) 10 ⟨[(1,.fn v2.id v2.aX),(5,.sl (lm aK v3)),(6,.ref 117),(7,iI v30),(8,.ptr 8 0),(9,.bool v33),(10,.ptr 10 0),(11,iI (ab (v30+1))),(46,iI ((gD v3 v30).Kind)),(89,.bool v34)],[(8,aK (gD v3 v30)),(10,List.set (aY cO) 61 (.nils))],[(117,⟨46,62,lm aY v31⟩)],[8,10,117]⟩ ?_ (by subst h69;kernel_rfl);obtain⟨h70,h⟩|⟨h70,h⟩:=am h
 ·exact ai 89 h70 (cr (ks':=.b 2::dQ 31327 :: .b 1::iT M w0 r m1) 2 (rM 10 (ag 0 (BJ hK hL1 h))))
 ·refine ai 89 h70 ?_;obtain⟨v35,h71,h⟩:=bW h;refine bB (ks':=dQ 1002455 :: .b 2::dQ 31327 :: .b 1::iT M w0 r m1) 3 ⟨[(1,.fn v2.id v2.aX),(5,.sl (lm aK v3)),(6,.ref 117),(7,iI v30),(8,.ptr 8 0),(9,.bool v33),(10,.ptr 10 0),(11,iI (ab (v30+1))),(92,.bool v35)],[(8,aK (gD v3 v30)),(10,List.set (aY cO) 61 (.nils))],[(117,⟨46,62,lm aY v31⟩)],[8,10,117]⟩ ?_ (by subst h71;kernel_rfl);obtain⟨h72,h⟩|⟨h72,h⟩:=am h
  ·refine ai 92 h72 (bd 2 1 (ak 5 ?_));obtain⟨v36,h73,h⟩:=bind_some h;exact pc (hK.qg h73) (ac (ag 0 (BJ hK hL1 h)))
  ·exact ai 92 h72 (ag 3 (cm (p:=pn 8019644) n (OC hK hL1 n h)))
theorem SR(hK:aq K)(hL1:mP M w0 r v2 v3 m1 L1)(h:pA K n v2 v3 L1 v30 v31=some r):tA M w0 r (dQ 244::iT M w0 r m1) (I6 v2 v3 v30 v31):=by
 unfold pA at h;refine bP 4 5 3 2 (ak 2 (aA (bz aK v3) (ac ?_)));obtain⟨h62,h⟩|⟨h62,h⟩:=am h
 ·refine ai 17 h62 (cr (ks':=dQ 1956::dQ 1957 :: .b 1::iT M w0 r m1) 4 (ak 2 ?_));obtain⟨h63,h⟩:=aS h;refine aA (bM aK aK h63 (dF) ((fun _=>rfl))) (ac (aw 2 3 1 (bJ [1,5,6,7,8] [8] [117] ?_)));obtain⟨h64,h⟩|⟨h64,h⟩:=am h
  ·obtain⟨h65,h⟩:=aS h;obtain⟨h66,h⟩|⟨h66,h⟩:=am h
   ·obtain⟨h67,h⟩:=aS h;obtain⟨v32,h68,h⟩:=bind_some h;exact bD 1 (nu 22 [iI v30,.bool (decide (v30>0)),.bool true,.sl (lm aK v3),iI v30,iI (ab (v30-1)),.cptr (aK (gD v3 ((ab (v30-1))))),.cptr (List.drop 0 (aK (gD v3 ((ab (v30-1)))))),iI ((gD v3 ((ab (v30-1)))).Kind),.bool (((gD v3 ((ab (v30-1)))).Kind) != 2),.bool (((gD v3 ((ab (v30-1)))).Kind) != 2),.bool true,.sl (lm aK v3),iI v30,iI (ab (v30-1)),.cptr (aK (gD v3 ((ab (v30-1))))),.agg (aK (gD v3 ((ab (v30-1))))),.agg (aK (gD v3 v30)),.bool v32,.bool (!v32),.bool (!v32)]) [] [] [bT Tryz.prog 120 Tryz.f22 (pn 3914) 21] (ao (vz 2) (aa (bb 0 24 (e:=(decide (v30>0))) (b:=true) h64) (ao (vz 3) (bC (bM aK aK h65 (dF) ((fun _=>rfl))) (ao (vz 4) (aa (bb 0 33 (e:=(((gD v3 ((ab (v30-1)))).Kind) != 2)) (b:=true) h66) (ao (vz 3) (bC (bM aK aK h67 (dF) ((fun _=>rfl))) (ao (vz 2) (aa (bL 0 1 40 (Ir hK h68)) (ao (vz 2) (aa (bU 0) bE)))))))))))) (ag 0 (xQ hK hL1 h))
   ·exact bD 1 (nu 22 [iI v30,.bool (decide (v30>0)),.bool true,.sl (lm aK v3),iI v30,iI (ab (v30-1)),.cptr (aK (gD v3 ((ab (v30-1))))),.cptr (List.drop 0 (aK (gD v3 ((ab (v30-1)))))),iI ((gD v3 ((ab (v30-1)))).Kind),.bool (((gD v3 ((ab (v30-1)))).Kind) != 2),.bool (((gD v3 ((ab (v30-1)))).Kind) != 2),.bool false,.tup [],.tup [],.tup [],.tup [],.tup [],.tup [],.tup [],.tup [],.bool false]) [] [] [bT Tryz.prog 120 Tryz.f22 (pn 3914) 21] (ao (vz 2) (aa (bb 0 24 (e:=(decide (v30>0))) (b:=true) h64) (ao (vz 3) (bC (bM aK aK h65 (dF) ((fun _=>rfl))) (ao (vz 4) (aa (bb 0 33 (e:=(((gD v3 ((ab (v30-1)))).Kind) != 2)) (b:=false) h66) (aa (ah 0 1) (aa (ah 0 1) (aa (ah 0 1) (aa (ah 0 1) (aa (ah 0 1) (aa (ah 0 1) (aa (ah 0 1) (aa (ah 0 1) (ao [.v 0 1] (aa (bU 0) bE)))))))))))))))) (ag 0 (xQ hK hL1 h))
  ·exact bD 1 (nu 22 [iI v30,.bool (decide (v30>0)),.bool false,.tup [],.tup [],.tup [],.tup [],.tup [],.tup [],.tup [],.bool false,.bool false,.tup [],.tup [],.tup [],.tup [],.tup [],.tup [],.tup [],.tup [],.bool false]) [] [] [bT Tryz.prog 120 Tryz.f22 (pn 3914) 21] (ao (vz 2) (aa (bb 0 24 (e:=(decide (v30>0))) (b:=false) h64) (aa (ah 0 1) (aa (ah 0 1) (aa (ah 0 1) (aa (ah 0 1) (aa (ah 0 1) (aa (ah 0 1) (aa (ah 0 1) (ao (vz 2) (aa (ah 0 1) (aa (ah 0 1) (aa (ah 0 1) (aa (ah 0 1) (aa (ah 0 1) (aa (ah 0 1) (aa (ah 0 1) (aa (ah 0 1) (ao [.v 0 1] (aa (bU 0) bE)))))))))))))))))))) (ag 0 (xQ hK hL1 h))
 ·refine ai 17 h62 (aG 8 ?_);cases h;exact eg
theorem NK(hK:aq K)(m:Nat):mP M w0 r v2 v3 m (n9 K n v2 v3 m):=by
 induction m with
 | zero=>intro v30 v31 h;cases h
 | succ m ih=>intro v30 v31 h;have h:pA K n v2 v3 (n9 K n v2 v3 m) v30 v31=some r:=h;exact br (SR hK ih h)
theorem Kp(hK:aq K)(h:qN K n v1 v2=some r):aN Tryz.prog 22 [.sl (lm aO v1),.fn v2.id v2.aX] (fun v s=>v=.ref 117∧look 117 s.r=some ⟨46,62,lm aY r⟩):=by
 refine bc (cat Tryz.f22 (pn 1)) Tryz.func22 Tryz.ntmps22 fun M w0=>(aZ ⟨[(0,.sl (lm aO v1)),(1,.fn v2.id v2.aX)],[],[],[]⟩ ?_);unfold qN at h;refine aw 6 7 3 (ak 1 ?_);obtain⟨v3,h1,h⟩:=bind_some h;exact dE 1013 (UO hK h1) (fm 400003) (ac (fp 26 0 7 6 (bJ [1,5,6,7] [] [1013] (sX 1013 (fk 117 6 46 62 (ag 0 (cm (p:=pn 122) n (NK hK n h))))))))
end
noncomputable section
variable(M:Nat→Prop)(w0:aH)(r v1:Int)  
variable{M w0 r v1}{K:Kn}{n:Nat}
theorem gF(hK:aq K)(h:eQ K n v1=some r):aN Tryz.prog 56 [iI v1] (fun v _=>v=iI r):=by
 refine bc (cat Tryz.f56 (pn 1)) Tryz.func56 Tryz.ntmps56 fun M w0=>(aZ ⟨[(0,iI v1)],[],[],[]⟩ ?_);unfold eQ at h;refine aG 5 ?_;cases h;exact aU
end
noncomputable section
variable(M:Nat→Prop)(w0:aH)(r:Int×Bool)(v1:cj)(v2 v4:Int)  
abbrev Nm(n:Nat):av:=.c (cat Tryz.f55 (pn n))
abbrev V3:Cx:=⟨Tryz.prog,25,M,w0⟩
abbrev NT:=bodyPost Tryz.prog Tryz.f55 (bq M w0 (fun v _=>v=.tup [iI r.1,.bool r.2]))
abbrev UI(ks:List av)(s:AS):=VE (V3 M w0) (NT M w0 r) ks .normal s
def KD:AS:=⟨[(6,iI v4)],[],[],[]⟩
variable{M w0 r v1 v2 v4}{K:Kn}{n:Nat}
theorem G6(hK:aq K)(h:pI K n v4=some r):UI M w0 r [.b 0,Nm 15] (KD v4):=by
 unfold pI at h;refine aG 4 ?_;cases h;exact dV
theorem ef(hK:aq K)(h:dD K n v1 v2=some r):aN Tryz.prog 55 [.agg (fX v1),iI v2] (fun v _=>v=.tup [iI r.1,.bool r.2]):=by
 refine bc (cat Tryz.f55 (pn 1)) Tryz.func55 Tryz.ntmps55 fun M w0=>(aZ ⟨[(0,.agg (fX v1)),(1,iI v2)],[],[],[]⟩ ?_);unfold dD at h;refine fp 117 0 15 10 ?_;obtain⟨h1,h⟩|⟨h1,h⟩:=am h
 ·exact ai 11 h1 (ag 2 (G6 hK h))
 ·refine ai 11 h1 (bd 7 3 ?_);obtain⟨h2,h⟩|⟨h2,h⟩:=am h
  ·refine ai 13 h2 (bd 2 1 (ak 1 ?_));obtain⟨v3,h3,h⟩:=bind_some h;exact aB (gF hK h3) (ac (ag 0 (G6 hK h)))
  ·refine ai 13 h2 (aG 6 ?_);cases h;exact dV
end
noncomputable section
variable(M:Nat→Prop)(w0:aH)(r:aP)(v1:aJ)(v2 v3:Int)  
abbrev mL(n:Nat):av:=.c (cat Tryz.f24 (pn n))
abbrev N1:Cx:=⟨Tryz.prog,52,M,w0⟩
abbrev Vd:=bodyPost Tryz.prog Tryz.f24 (bq M w0 (fun v _=>v=.agg (bg r)))
abbrev tM(m:Nat):List av:=kl (N1 M w0) (Vd M w0 r) [.b 0,mL 15] (cat Tryz.f24 (pn 116)) m::[.b 0,mL 15]
variable{M w0 r v1 v2 v3}{K:Kn}{n:Nat}
theorem sE(hK:aq K)(h:jS K n v1 v2 v3=some r):aN Tryz.prog 24 [.agg (aE v1),iI v2,iI v3] (fun v _=>v=.agg (bg r)):=by
 refine bc (cat Tryz.f24 (pn 1)) Tryz.func24 Tryz.ntmps24 fun M w0=>(aZ ⟨[(0,.agg (aE v1)),(1,iI v2),(2,iI v3)],[],[],[]⟩ ?_);unfold jS at h;refine bB (ks':=[mL 58,.b 0,mL 15]) 8 ⟨[(1,iI v2),(3,.ptr 3 0),(6,.ptr 6 0),(7,.ptr 7 0),(13,iI 0)],[(3,aE v1),(6,bg dr),(7,bg ({ dr with Content:=v3 }:aP))],[],[3,6,7]⟩ (nR 40 (c:=cat Tryz.f24 [1,1,0,1,0,0]) (by kernel_rfl) (br (cr (ks':=mL 7474::mL 7475 :: .b 1::mL 935::tM M w0 r 39) 10 (ak 6 ?_))));obtain⟨v4,h1,h⟩:=bind_some h;refine aB (ef hK h1) (ac (aw 2 3 1 (ak 5 ?_)));obtain⟨v5,h2,h⟩:=bind_some h;refine aB (gF hK h2) (ac (aw 2 3 1 (ak 5 ?_)));obtain⟨v6,h3,h⟩:=bind_some h;refine aB (ef hK h3) (ac (bB (ks':=tM M w0 r 39) 3 ⟨[(1,iI v2),(3,.ptr 3 0),(6,.ptr 6 0),(7,.ptr 7 0),(13,iI 1)],[(3,aE v1),(6,bg dr),(7,bg (⟨⟨v4.1,0,0,0⟩,⟨v5,0,0,0⟩,⟨(max v6.1 0),0,0,0⟩,v3⟩:aP))],[],[3,6,7]⟩ (bu (br (cZ 114 115 1 15 10 (ak 6 ?_))))));obtain⟨v7,h4,h⟩:=bind_some h
 refine aB (ef hK h4) (ac (aw 2 3 1 (ak 5 ?_)));obtain⟨v8,h5,h⟩:=bind_some h;refine aB (gF hK h5) (ac (aw 2 3 1 (ak 5 ?_)));obtain⟨v9,h6,h⟩:=bind_some h;refine aB (ef hK h6) (ac (bB (ks':=tM M w0 r 38) 3 ⟨[(1,iI v2),(3,.ptr 3 0),(6,.ptr 6 0),(7,.ptr 7 0),(13,iI 2)],[(3,aE v1),(6,bg dr),(7,bg (⟨⟨v4.1,v7.1,0,0⟩,⟨v5,v8,0,0⟩,⟨(max v6.1 0),(max v9.1 0),0,0⟩,v3⟩:aP))],[],[3,6,7]⟩ (bu (br (cZ 114 115 1 15 10 (ak 6 ?_))))));obtain⟨v10,h7,h⟩:=bind_some h;refine aB (ef hK h7) (ac (aw 2 3 1 (ak 5 ?_)));obtain⟨v11,h8,h⟩:=bind_some h;refine aB (gF hK h8) (ac (aw 2 3 1 (ak 5 ?_)));obtain⟨v12,h9,h⟩:=bind_some h;refine aB (ef hK h9) (ac (bB (ks':=tM M w0 r 37) 3 ⟨[(1,iI v2),(3,.ptr 3 0),(6,.ptr 6 0),(7,.ptr 7 0),(13,iI 3)],[(3,aE v1),(6,bg dr),(7,bg (⟨⟨v4.1,v7.1,v10.1,0⟩,⟨v5,v8,v11,0⟩,⟨(max v6.1 0),(max v9.1 0),(max v12.1 0),0⟩,v3⟩:aP))],[],[3,6,7]⟩ (bu (br (cZ 114 115 1 15 10 (ak 6 ?_))))));obtain⟨v13,h10,h⟩:=bind_some h
 refine aB (ef hK h10) (ac (aw 2 3 1 (ak 5 ?_)));obtain⟨v14,h11,h⟩:=bind_some h;refine aB (gF hK h11) (ac (aw 2 3 1 (ak 5 ?_)));obtain⟨v15,h12,h⟩:=bind_some h;refine aB (ef hK h12) (ac (bB (ks':=tM M w0 r 36) 3 ⟨[(1,iI v2),(3,.ptr 3 0),(6,.ptr 6 0),(7,.ptr 7 0),(13,iI 4)],[(3,aE v1),(6,bg dr),(7,bg (⟨⟨v4.1,v7.1,v10.1,v13.1⟩,⟨v5,v8,v11,v14⟩,⟨(max v6.1 0),(max v9.1 0),(max v12.1 0),(max v15.1 0)⟩,v3⟩:aP))],[],[3,6,7]⟩ (bu (br (aG 11 ?_)))));cases h;exact aU
end
noncomputable section
variable(M:Nat→Prop)(w0:aH)(r:Int)(v1:aP)  
variable{M w0 r v1}{K:Kn}{n:Nat}
theorem qT(hK:aq K)(h:j9 K n v1=some r):aN Tryz.prog 28 [.agg (bg v1)] (fun v _=>v=iI r):=by
 refine bc (cat Tryz.f28 (pn 1)) Tryz.func28 Tryz.ntmps28 fun M w0=>(aZ ⟨[(0,.agg (bg v1))],[],[],[]⟩ ?_);unfold j9 at h;refine aG 5 ?_;cases h;exact aU
end
noncomputable section
variable(M:Nat→Prop)(w0:aH)(r v1:aJ)(v2:Nat)(v3 v4 v5 v6 v7 v8 v9 v10 v11 v12 v13:aJ)  
abbrev dj(n:Nat):av:=.c (cat Tryz.f95 (pn n))
abbrev A7:Cx:=⟨Tryz.prog,40,M,w0⟩
abbrev xv:=bodyPost Tryz.prog Tryz.f95 (bq M w0 (fun v _=>v=.agg (aE r)))
abbrev gX(ks:List av)(s:AS):=VE (A7 M w0) (xv M w0 r) ks .normal s
def N6:AS:=⟨[(1,.pp 1 v2 0),(2,.ptr 2 0),(24,.ref 10),(25,iI 11),(26,iI 10)],[(1,aE v13),(2,aE ce)],[(10,⟨154,1,lm bt [(v2,6),(v2,10),(v2,12),(v2,14),(v2,22),(v2,16),(v2,24),(v2,18),(v2,26),(v2,20),(v2,28)]⟩)],[1,2,10]⟩
def Wy:AS:=⟨[(1,.pp 1 v2 0),(2,.ptr 2 0),(24,.ref 10),(25,iI 11),(26,iI 9)],[(1,aE v12),(2,aE ce)],[(10,⟨154,1,lm bt [(v2,6),(v2,10),(v2,12),(v2,14),(v2,22),(v2,16),(v2,24),(v2,18),(v2,26),(v2,20),(v2,28)]⟩)],[1,2,10]⟩
def VM:AS:=⟨[(1,.pp 1 v2 0),(2,.ptr 2 0),(24,.ref 10),(25,iI 11),(26,iI 8)],[(1,aE v11),(2,aE ce)],[(10,⟨154,1,lm bt [(v2,6),(v2,10),(v2,12),(v2,14),(v2,22),(v2,16),(v2,24),(v2,18),(v2,26),(v2,20),(v2,28)]⟩)],[1,2,10]⟩
def P9:AS:=⟨[(1,.pp 1 v2 0),(2,.ptr 2 0),(24,.ref 10),(25,iI 11),(26,iI 7)],[(1,aE v10),(2,aE ce)],[(10,⟨154,1,lm bt [(v2,6),(v2,10),(v2,12),(v2,14),(v2,22),(v2,16),(v2,24),(v2,18),(v2,26),(v2,20),(v2,28)]⟩)],[1,2,10]⟩
def Pc:AS:=⟨[(1,.pp 1 v2 0),(2,.ptr 2 0),(24,.ref 10),(25,iI 11),(26,iI 6)],[(1,aE v9),(2,aE ce)],[(10,⟨154,1,lm bt [(v2,6),(v2,10),(v2,12),(v2,14),(v2,22),(v2,16),(v2,24),(v2,18),(v2,26),(v2,20),(v2,28)]⟩)],[1,2,10]⟩
def UF:AS:=⟨[(1,.pp 1 v2 0),(2,.ptr 2 0),(24,.ref 10),(25,iI 11),(26,iI 5)],[(1,aE v8),(2,aE ce)],[(10,⟨154,1,lm bt [(v2,6),(v2,10),(v2,12),(v2,14),(v2,22),(v2,16),(v2,24),(v2,18),(v2,26),(v2,20),(v2,28)]⟩)],[1,2,10]⟩
def VB:AS:=⟨[(1,.pp 1 v2 0),(2,.ptr 2 0),(24,.ref 10),(25,iI 11),(26,iI 4)],[(1,aE v7),(2,aE ce)],[(10,⟨154,1,lm bt [(v2,6),(v2,10),(v2,12),(v2,14),(v2,22),(v2,16),(v2,24),(v2,18),(v2,26),(v2,20),(v2,28)]⟩)],[1,2,10]⟩
def R0:AS:=⟨[(1,.pp 1 v2 0),(2,.ptr 2 0),(24,.ref 10),(25,iI 11),(26,iI 3)],[(1,aE v6),(2,aE ce)],[(10,⟨154,1,lm bt [(v2,6),(v2,10),(v2,12),(v2,14),(v2,22),(v2,16),(v2,24),(v2,18),(v2,26),(v2,20),(v2,28)]⟩)],[1,2,10]⟩
def L5:AS:=⟨[(1,.pp 1 v2 0),(2,.ptr 2 0),(24,.ref 10),(25,iI 11),(26,iI 2)],[(1,aE v5),(2,aE ce)],[(10,⟨154,1,lm bt [(v2,6),(v2,10),(v2,12),(v2,14),(v2,22),(v2,16),(v2,24),(v2,18),(v2,26),(v2,20),(v2,28)]⟩)],[1,2,10]⟩
def VI:AS:=⟨[(1,.pp 1 v2 0),(2,.ptr 2 0),(24,.ref 10),(25,iI 11),(26,iI 1)],[(1,aE v4),(2,aE ce)],[(10,⟨154,1,lm bt [(v2,6),(v2,10),(v2,12),(v2,14),(v2,22),(v2,16),(v2,24),(v2,18),(v2,26),(v2,20),(v2,28)]⟩)],[1,2,10]⟩
def VT:AS:=⟨[(1,.pp 1 v2 0),(2,.ptr 2 0),(24,.ref 10),(25,iI 11),(26,iI 0)],[(1,aE v3),(2,aE ce)],[(10,⟨154,1,lm bt [(v2,6),(v2,10),(v2,12),(v2,14),(v2,22),(v2,16),(v2,24),(v2,18),(v2,26),(v2,20),(v2,28)]⟩)],[1,2,10]⟩
abbrev dk(m:Nat):List av:=kl (A7 M w0) (xv M w0 r) [.b 2,dj 31] (cat Tryz.f95 (pn 244)) m::[.b 2,dj 31]
abbrev su(m:Nat):List av:=kl (A7 M w0) (xv M w0 r) [.b 0,dj 15] (cat Tryz.f95 (pn 116)) m::[.b 0,dj 15]
variable{M w0 r v1 v2 v3 v4 v5 v6 v7 v8 v9 v10 v11 v12 v13}{K:Kn}{n:Nat}
theorem Ih(hK:aq K)(h:qe K n v13=some r):gX M w0 r (.b 3::dj 1959::dk M w0 r 29) (N6 v2 v13):=by
 unfold qe at h;refine bB (ks':=dk M w0 r 29) 2 ⟨[(1,.pp 1 v2 0),(2,.ptr 2 0),(24,.ref 10),(25,iI 11),(26,iI 11)],[(1,aE v13),(2,aE ce)],[(10,⟨154,1,lm bt [(v2,6),(v2,10),(v2,12),(v2,14),(v2,22),(v2,16),(v2,24),(v2,18),(v2,26),(v2,20),(v2,28)]⟩)],[1,2,10]⟩ (bu (br (aG 11 ?_)));cases h;exact aU
theorem IG(hK:aq K)(h:oa K n v12=some r):gX M w0 r (.b 3::dj 1959::dk M w0 r 30) (Wy v2 v12):=by
 unfold oa at h;refine bB (ks':=dk M w0 r 30) 2 ⟨[(1,.pp 1 v2 0),(2,.ptr 2 0),(24,.ref 10),(25,iI 11),(26,iI 10)],[(1,aE v12),(2,aE ce)],[(10,⟨154,1,lm bt [(v2,6),(v2,10),(v2,12),(v2,14),(v2,22),(v2,16),(v2,24),(v2,18),(v2,26),(v2,20),(v2,28)]⟩)],[1,2,10]⟩ (bu (br (cZ 56 57 3 15 8 (ak 0 (aA (c9 10 1 bt (L:=([(v2,6),(v2,10),(v2,12),(v2,14),(v2,22),(v2,16),(v2,24),(v2,18),(v2,26),(v2,20),(v2,28)]:List (Nat×Nat))) (i:=(10:Int)) (by kernel_rfl)) (aA (ci 154 0 bt bt (L:=([(v2,6),(v2,10),(v2,12),(v2,14),(v2,22),(v2,16),(v2,24),(v2,18),(v2,26),(v2,20),(v2,28)]:List (Nat×Nat))) (j:=(10:Int).toNat) (of_decide_eq_true (by kernel_rfl)) ((fun _=>rfl))) (ac (aw 2 3 1 (ak 3 (dB 32 1 1 v2 28 0 (ac ?_)))))))))));obtain⟨h11,h⟩|⟨h11,h⟩:=am h
 ·exact ai 34 h11 (bd 2 1 (ak 3 (dB 37 1 1 v2 28 0 (ac (ag 0 (Ih hK (v2:=v2) h))))))
 ·exact ai 34 h11 (ag 2 (Ih hK (v2:=v2) h))
theorem EB(hK:aq K)(h:nk K n v11=some r):gX M w0 r (.b 3::dj 1959::dk M w0 r 31) (VM v2 v11):=by
 unfold nk at h;refine bB (ks':=dk M w0 r 31) 2 ⟨[(1,.pp 1 v2 0),(2,.ptr 2 0),(24,.ref 10),(25,iI 11),(26,iI 9)],[(1,aE v11),(2,aE ce)],[(10,⟨154,1,lm bt [(v2,6),(v2,10),(v2,12),(v2,14),(v2,22),(v2,16),(v2,24),(v2,18),(v2,26),(v2,20),(v2,28)]⟩)],[1,2,10]⟩ (bu (br (cZ 56 57 3 15 8 (ak 0 (aA (c9 10 1 bt (L:=([(v2,6),(v2,10),(v2,12),(v2,14),(v2,22),(v2,16),(v2,24),(v2,18),(v2,26),(v2,20),(v2,28)]:List (Nat×Nat))) (i:=(9:Int)) (by kernel_rfl)) (aA (ci 154 0 bt bt (L:=([(v2,6),(v2,10),(v2,12),(v2,14),(v2,22),(v2,16),(v2,24),(v2,18),(v2,26),(v2,20),(v2,28)]:List (Nat×Nat))) (j:=(9:Int).toNat) (of_decide_eq_true (by kernel_rfl)) ((fun _=>rfl))) (ac (aw 2 3 1 (ak 3 (dB 32 1 1 v2 20 0 (ac ?_)))))))))));obtain⟨h10,h⟩|⟨h10,h⟩:=am h
 ·exact ai 34 h10 (bd 2 1 (ak 3 (dB 37 1 1 v2 20 0 (ac (ag 0 (IG hK (v2:=v2) h))))))
 ·exact ai 34 h10 (ag 2 (IG hK (v2:=v2) h))
theorem IB(hK:aq K)(h:ow K n v10=some r):gX M w0 r (.b 3::dj 1959::dk M w0 r 32) (P9 v2 v10):=by
 unfold ow at h;refine bB (ks':=dk M w0 r 32) 2 ⟨[(1,.pp 1 v2 0),(2,.ptr 2 0),(24,.ref 10),(25,iI 11),(26,iI 8)],[(1,aE v10),(2,aE ce)],[(10,⟨154,1,lm bt [(v2,6),(v2,10),(v2,12),(v2,14),(v2,22),(v2,16),(v2,24),(v2,18),(v2,26),(v2,20),(v2,28)]⟩)],[1,2,10]⟩ (bu (br (cZ 56 57 3 15 8 (ak 0 (aA (c9 10 1 bt (L:=([(v2,6),(v2,10),(v2,12),(v2,14),(v2,22),(v2,16),(v2,24),(v2,18),(v2,26),(v2,20),(v2,28)]:List (Nat×Nat))) (i:=(8:Int)) (by kernel_rfl)) (aA (ci 154 0 bt bt (L:=([(v2,6),(v2,10),(v2,12),(v2,14),(v2,22),(v2,16),(v2,24),(v2,18),(v2,26),(v2,20),(v2,28)]:List (Nat×Nat))) (j:=(8:Int).toNat) (of_decide_eq_true (by kernel_rfl)) ((fun _=>rfl))) (ac (aw 2 3 1 (ak 3 (dB 32 1 1 v2 26 0 (ac ?_)))))))))));obtain⟨h9,h⟩|⟨h9,h⟩:=am h
 ·exact ai 34 h9 (bd 2 1 (ak 3 (dB 37 1 1 v2 26 0 (ac (ag 0 (EB hK (v2:=v2) h))))))
 ·exact ai 34 h9 (ag 2 (EB hK (v2:=v2) h))
theorem Gu(hK:aq K)(h:oF K n v9=some r):gX M w0 r (.b 3::dj 1959::dk M w0 r 33) (Pc v2 v9):=by
 unfold oF at h;refine bB (ks':=dk M w0 r 33) 2 ⟨[(1,.pp 1 v2 0),(2,.ptr 2 0),(24,.ref 10),(25,iI 11),(26,iI 7)],[(1,aE v9),(2,aE ce)],[(10,⟨154,1,lm bt [(v2,6),(v2,10),(v2,12),(v2,14),(v2,22),(v2,16),(v2,24),(v2,18),(v2,26),(v2,20),(v2,28)]⟩)],[1,2,10]⟩ (bu (br (cZ 56 57 3 15 8 (ak 0 (aA (c9 10 1 bt (L:=([(v2,6),(v2,10),(v2,12),(v2,14),(v2,22),(v2,16),(v2,24),(v2,18),(v2,26),(v2,20),(v2,28)]:List (Nat×Nat))) (i:=(7:Int)) (by kernel_rfl)) (aA (ci 154 0 bt bt (L:=([(v2,6),(v2,10),(v2,12),(v2,14),(v2,22),(v2,16),(v2,24),(v2,18),(v2,26),(v2,20),(v2,28)]:List (Nat×Nat))) (j:=(7:Int).toNat) (of_decide_eq_true (by kernel_rfl)) ((fun _=>rfl))) (ac (aw 2 3 1 (ak 3 (dB 32 1 1 v2 18 0 (ac ?_)))))))))));obtain⟨h8,h⟩|⟨h8,h⟩:=am h
 ·exact ai 34 h8 (bd 2 1 (ak 3 (dB 37 1 1 v2 18 0 (ac (ag 0 (IB hK (v2:=v2) h))))))
 ·exact ai 34 h8 (ag 2 (IB hK (v2:=v2) h))
theorem Hq(hK:aq K)(h:oc K n v8=some r):gX M w0 r (.b 3::dj 1959::dk M w0 r 34) (UF v2 v8):=by
 unfold oc at h;refine bB (ks':=dk M w0 r 34) 2 ⟨[(1,.pp 1 v2 0),(2,.ptr 2 0),(24,.ref 10),(25,iI 11),(26,iI 6)],[(1,aE v8),(2,aE ce)],[(10,⟨154,1,lm bt [(v2,6),(v2,10),(v2,12),(v2,14),(v2,22),(v2,16),(v2,24),(v2,18),(v2,26),(v2,20),(v2,28)]⟩)],[1,2,10]⟩ (bu (br (cZ 56 57 3 15 8 (ak 0 (aA (c9 10 1 bt (L:=([(v2,6),(v2,10),(v2,12),(v2,14),(v2,22),(v2,16),(v2,24),(v2,18),(v2,26),(v2,20),(v2,28)]:List (Nat×Nat))) (i:=(6:Int)) (by kernel_rfl)) (aA (ci 154 0 bt bt (L:=([(v2,6),(v2,10),(v2,12),(v2,14),(v2,22),(v2,16),(v2,24),(v2,18),(v2,26),(v2,20),(v2,28)]:List (Nat×Nat))) (j:=(6:Int).toNat) (of_decide_eq_true (by kernel_rfl)) ((fun _=>rfl))) (ac (aw 2 3 1 (ak 3 (dB 32 1 1 v2 24 0 (ac ?_)))))))))));obtain⟨h7,h⟩|⟨h7,h⟩:=am h
 ·exact ai 34 h7 (bd 2 1 (ak 3 (dB 37 1 1 v2 24 0 (ac (ag 0 (Gu hK (v2:=v2) h))))))
 ·exact ai 34 h7 (ag 2 (Gu hK (v2:=v2) h))
theorem DN(hK:aq K)(h:nD K n v7=some r):gX M w0 r (.b 3::dj 1959::dk M w0 r 35) (VB v2 v7):=by
 unfold nD at h;refine bB (ks':=dk M w0 r 35) 2 ⟨[(1,.pp 1 v2 0),(2,.ptr 2 0),(24,.ref 10),(25,iI 11),(26,iI 5)],[(1,aE v7),(2,aE ce)],[(10,⟨154,1,lm bt [(v2,6),(v2,10),(v2,12),(v2,14),(v2,22),(v2,16),(v2,24),(v2,18),(v2,26),(v2,20),(v2,28)]⟩)],[1,2,10]⟩ (bu (br (cZ 56 57 3 15 8 (ak 0 (aA (c9 10 1 bt (L:=([(v2,6),(v2,10),(v2,12),(v2,14),(v2,22),(v2,16),(v2,24),(v2,18),(v2,26),(v2,20),(v2,28)]:List (Nat×Nat))) (i:=(5:Int)) (by kernel_rfl)) (aA (ci 154 0 bt bt (L:=([(v2,6),(v2,10),(v2,12),(v2,14),(v2,22),(v2,16),(v2,24),(v2,18),(v2,26),(v2,20),(v2,28)]:List (Nat×Nat))) (j:=(5:Int).toNat) (of_decide_eq_true (by kernel_rfl)) ((fun _=>rfl))) (ac (aw 2 3 1 (ak 3 (dB 32 1 1 v2 16 0 (ac ?_)))))))))));obtain⟨h6,h⟩|⟨h6,h⟩:=am h
 ·exact ai 34 h6 (bd 2 1 (ak 3 (dB 37 1 1 v2 16 0 (ac (ag 0 (Hq hK (v2:=v2) h))))))
 ·exact ai 34 h6 (ag 2 (Hq hK (v2:=v2) h))
theorem D8(hK:aq K)(h:nl K n v6=some r):gX M w0 r (.b 3::dj 1959::dk M w0 r 36) (R0 v2 v6):=by
 unfold nl at h;refine bB (ks':=dk M w0 r 36) 2 ⟨[(1,.pp 1 v2 0),(2,.ptr 2 0),(24,.ref 10),(25,iI 11),(26,iI 4)],[(1,aE v6),(2,aE ce)],[(10,⟨154,1,lm bt [(v2,6),(v2,10),(v2,12),(v2,14),(v2,22),(v2,16),(v2,24),(v2,18),(v2,26),(v2,20),(v2,28)]⟩)],[1,2,10]⟩ (bu (br (cZ 56 57 3 15 8 (ak 0 (aA (c9 10 1 bt (L:=([(v2,6),(v2,10),(v2,12),(v2,14),(v2,22),(v2,16),(v2,24),(v2,18),(v2,26),(v2,20),(v2,28)]:List (Nat×Nat))) (i:=(4:Int)) (by kernel_rfl)) (aA (ci 154 0 bt bt (L:=([(v2,6),(v2,10),(v2,12),(v2,14),(v2,22),(v2,16),(v2,24),(v2,18),(v2,26),(v2,20),(v2,28)]:List (Nat×Nat))) (j:=(4:Int).toNat) (of_decide_eq_true (by kernel_rfl)) ((fun _=>rfl))) (ac (aw 2 3 1 (ak 3 (dB 32 1 1 v2 22 0 (ac ?_)))))))))));obtain⟨h5,h⟩|⟨h5,h⟩:=am h
 ·exact ai 34 h5 (bd 2 1 (ak 3 (dB 37 1 1 v2 22 0 (ac (ag 0 (DN hK (v2:=v2) h))))))
 ·exact ai 34 h5 (ag 2 (DN hK (v2:=v2) h))
theorem G8(hK:aq K)(h:n8 K n v5=some r):gX M w0 r (.b 3::dj 1959::dk M w0 r 37) (L5 v2 v5):=by
 unfold n8 at h;refine bB (ks':=dk M w0 r 37) 2 ⟨[(1,.pp 1 v2 0),(2,.ptr 2 0),(24,.ref 10),(25,iI 11),(26,iI 3)],[(1,aE v5),(2,aE ce)],[(10,⟨154,1,lm bt [(v2,6),(v2,10),(v2,12),(v2,14),(v2,22),(v2,16),(v2,24),(v2,18),(v2,26),(v2,20),(v2,28)]⟩)],[1,2,10]⟩ (bu (br (cZ 56 57 3 15 8 (ak 0 (aA (c9 10 1 bt (L:=([(v2,6),(v2,10),(v2,12),(v2,14),(v2,22),(v2,16),(v2,24),(v2,18),(v2,26),(v2,20),(v2,28)]:List (Nat×Nat))) (i:=(3:Int)) (by kernel_rfl)) (aA (ci 154 0 bt bt (L:=([(v2,6),(v2,10),(v2,12),(v2,14),(v2,22),(v2,16),(v2,24),(v2,18),(v2,26),(v2,20),(v2,28)]:List (Nat×Nat))) (j:=(3:Int).toNat) (of_decide_eq_true (by kernel_rfl)) ((fun _=>rfl))) (ac (aw 2 3 1 (ak 3 (dB 32 1 1 v2 14 0 (ac ?_)))))))))));obtain⟨h4,h⟩|⟨h4,h⟩:=am h
 ·exact ai 34 h4 (bd 2 1 (ak 3 (dB 37 1 1 v2 14 0 (ac (ag 0 (D8 hK (v2:=v2) h))))))
 ·exact ai 34 h4 (ag 2 (D8 hK (v2:=v2) h))
theorem FT(hK:aq K)(h:ni K n v4=some r):gX M w0 r (.b 3::dj 1959::dk M w0 r 38) (VI v2 v4):=by
 unfold ni at h;refine bB (ks':=dk M w0 r 38) 2 ⟨[(1,.pp 1 v2 0),(2,.ptr 2 0),(24,.ref 10),(25,iI 11),(26,iI 2)],[(1,aE v4),(2,aE ce)],[(10,⟨154,1,lm bt [(v2,6),(v2,10),(v2,12),(v2,14),(v2,22),(v2,16),(v2,24),(v2,18),(v2,26),(v2,20),(v2,28)]⟩)],[1,2,10]⟩ (bu (br (cZ 56 57 3 15 8 (ak 0 (aA (c9 10 1 bt (L:=([(v2,6),(v2,10),(v2,12),(v2,14),(v2,22),(v2,16),(v2,24),(v2,18),(v2,26),(v2,20),(v2,28)]:List (Nat×Nat))) (i:=(2:Int)) (by kernel_rfl)) (aA (ci 154 0 bt bt (L:=([(v2,6),(v2,10),(v2,12),(v2,14),(v2,22),(v2,16),(v2,24),(v2,18),(v2,26),(v2,20),(v2,28)]:List (Nat×Nat))) (j:=(2:Int).toNat) (of_decide_eq_true (by kernel_rfl)) ((fun _=>rfl))) (ac (aw 2 3 1 (ak 3 (dB 32 1 1 v2 12 0 (ac ?_)))))))))));obtain⟨h3,h⟩|⟨h3,h⟩:=am h
 ·exact ai 34 h3 (bd 2 1 (ak 3 (dB 37 1 1 v2 12 0 (ac (ag 0 (G8 hK (v2:=v2) h))))))
 ·exact ai 34 h3 (ag 2 (G8 hK (v2:=v2) h))
theorem HB(hK:aq K)(h:oi K n v3=some r):gX M w0 r (.b 3::dj 1959::dk M w0 r 39) (VT v2 v3):=by
 unfold oi at h;refine bB (ks':=dk M w0 r 39) 2 ⟨[(1,.pp 1 v2 0),(2,.ptr 2 0),(24,.ref 10),(25,iI 11),(26,iI 1)],[(1,aE v3),(2,aE ce)],[(10,⟨154,1,lm bt [(v2,6),(v2,10),(v2,12),(v2,14),(v2,22),(v2,16),(v2,24),(v2,18),(v2,26),(v2,20),(v2,28)]⟩)],[1,2,10]⟩ (bu (br (cZ 56 57 3 15 8 (ak 0 (aA (c9 10 1 bt (L:=([(v2,6),(v2,10),(v2,12),(v2,14),(v2,22),(v2,16),(v2,24),(v2,18),(v2,26),(v2,20),(v2,28)]:List (Nat×Nat))) (i:=(1:Int)) (by kernel_rfl)) (aA (ci 154 0 bt bt (L:=([(v2,6),(v2,10),(v2,12),(v2,14),(v2,22),(v2,16),(v2,24),(v2,18),(v2,26),(v2,20),(v2,28)]:List (Nat×Nat))) (j:=(1:Int).toNat) (of_decide_eq_true (by kernel_rfl)) ((fun _=>rfl))) (ac (aw 2 3 1 (ak 3 (dB 32 1 1 v2 10 0 (ac ?_)))))))))));obtain⟨h2,h⟩|⟨h2,h⟩:=am h
 ·exact ai 34 h2 (bd 2 1 (ak 3 (dB 37 1 1 v2 10 0 (ac (ag 0 (FT hK (v2:=v2) h))))))
 ·exact ai 34 h2 (ag 2 (FT hK (v2:=v2) h))
theorem Cp(hK:aq K)(h:mr K n v1=some r):aN Tryz.prog 95 [.agg (aE v1)] (fun v _=>v=.agg (aE r)):=by
 refine bc (cat Tryz.f95 (pn 1)) Tryz.func95 Tryz.ntmps95 fun M w0=>(aZ ⟨[(0,.agg (aE v1))],[],[],[]⟩ ?_);unfold mr at h;refine aw 6 7 3 (O3 1 1 0 fun v2=>(ak 3 (Q5 155 3 #[(0,(.tmp 7)),(1,(.tmp 8)),(2,(.tmp 9))] 10 (e:=154) (sz:=1) (l:=lm bt [(v2,6),(v2,10),(v2,12)]) (ac (bB (ks':=[dj 58,.b 0,dj 15]) 4 ⟨[(1,.pp 1 v2 0),(2,.ptr 2 0),(3,.ref 10),(11,iI 0)],[(1,aE v1),(2,aE ce)],[(10,⟨154,1,lm bt [(v2,6),(v2,10),(v2,12)]⟩)],[1,2,10]⟩ (nR 40 (c:=cat Tryz.f95 [1,1,0,1,0,0]) (by kernel_rfl) (br (cr (ks':=dj 3737 :: .b 1::dj 935::su M w0 r 39) 9 (bJ [1,2,3,4,11] [1,2] [10] (bD 2 (nu 14 [.ref 10,iI 0,.adr v2 14,.adr v2 14,iI 0,.adr v2 22,.adr v2 22,.sl (lm bt [(v2,14),(v2,22)])]) [] [] [gW 22 10 ⟨154,1,lm bt [(v2,6),(v2,10),(v2,12),(v2,14),(v2,22)]⟩,bT Tryz.prog 40 Tryz.f95 (pn 3737) 9] (ao [.v 0 1,.v 0 2,.v 0 2,.v 0 2,.v 0 2,.v 0 2,.v 0 2,.v 0 1] (aa (gv (m:=0) (cy 22 10 154 1 bt (L:=([(v2,6),(v2,10),(v2,12)]:List (Nat×Nat))) (M:=([(v2,14),(v2,22)]:(List (Nat×Nat)))) (bytes:=8) (rfl) (fun _=>rfl) (by kernel_rfl))) (aa (bU 1) bE))) (bB (ks':=su M w0 r 39) 2 ⟨[(1,.pp 1 v2 0),(2,.ptr 2 0),(3,.ref 10),(11,iI 1)],[(1,aE v1),(2,aE ce)],[(10,⟨154,1,lm bt [(v2,6),(v2,10),(v2,12),(v2,14),(v2,22)]⟩)],[1,2,10]⟩ (bu (br (fp 57 1 15 9 (bJ [1,2,3,4,11] [1,2] [10] (bD 2 (nu 14 [.ref 10,iI 1,.adr v2 14,.adr v2 16,iI 1,.adr v2 22,.adr v2 24,.sl (lm bt [(v2,16),(v2,24)])]) [] [] [gW 22 10 ⟨154,1,lm bt [(v2,6),(v2,10),(v2,12),(v2,14),(v2,22),(v2,16),(v2,24)]⟩,bT Tryz.prog 40 Tryz.f95 (pn 3737) 9] (ao [.v 0 1,.v 0 2,.v 0 2,.v 0 2,.v 0 2,.v 0 2,.v 0 2,.v 0 1] (aa (gv (m:=0) (cy 22 10 154 1 bt (L:=([(v2,6),(v2,10),(v2,12),(v2,14),(v2,22)]:List (Nat×Nat))) (M:=([(v2,16),(v2,24)]:(List (Nat×Nat)))) (bytes:=8) (rfl) (fun _=>rfl) (by kernel_rfl))) (aa (bU 1) bE))) (bB (ks':=su M w0 r 38) 2 ⟨[(1,.pp 1 v2 0),(2,.ptr 2 0),(3,.ref 10),(11,iI 2)],[(1,aE v1),(2,aE ce)],[(10,⟨154,1,lm bt [(v2,6),(v2,10),(v2,12),(v2,14),(v2,22),(v2,16),(v2,24)]⟩)],[1,2,10]⟩ (bu (br (fp 57 1 15 9 (bJ [1,2,3,4,11] [1,2] [10] (bD 2 (nu 14 [.ref 10,iI 2,.adr v2 14,.adr v2 18,iI 2,.adr v2 22,.adr v2 26,.sl (lm bt [(v2,18),(v2,26)])]) [] [] [gW 22 10 ⟨154,1,lm bt [(v2,6),(v2,10),(v2,12),(v2,14),(v2,22),(v2,16),(v2,24),(v2,18),(v2,26)]⟩,bT Tryz.prog 40 Tryz.f95 (pn 3737) 9] (ao [.v 0 1,.v 0 2,.v 0 2,.v 0 2,.v 0 2,.v 0 2,.v 0 2,.v 0 1] (aa (gv (m:=0) (cy 22 10 154 1 bt (L:=([(v2,6),(v2,10),(v2,12),(v2,14),(v2,22),(v2,16),(v2,24)]:List (Nat×Nat))) (M:=([(v2,18),(v2,26)]:(List (Nat×Nat)))) (bytes:=8) (rfl) (fun _=>rfl) (by kernel_rfl))) (aa (bU 1) bE))) (bB (ks':=su M w0 r 37) 2 ⟨[(1,.pp 1 v2 0),(2,.ptr 2 0),(3,.ref 10),(11,iI 3)],[(1,aE v1),(2,aE ce)],[(10,⟨154,1,lm bt [(v2,6),(v2,10),(v2,12),(v2,14),(v2,22),(v2,16),(v2,24),(v2,18),(v2,26)]⟩)],[1,2,10]⟩ ?_)))))))))))))))))))))))
 refine bu (br (fp 57 1 15 9 (bJ [1,2,3,4,11] [1,2] [10] (bD 2 (nu 14 [.ref 10,iI 3,.adr v2 14,.adr v2 20,iI 3,.adr v2 22,.adr v2 28,.sl (lm bt [(v2,20),(v2,28)])]) [] [] [gW 22 10 ⟨154,1,lm bt [(v2,6),(v2,10),(v2,12),(v2,14),(v2,22),(v2,16),(v2,24),(v2,18),(v2,26),(v2,20),(v2,28)]⟩,bT Tryz.prog 40 Tryz.f95 (pn 3737) 9] (ao [.v 0 1,.v 0 2,.v 0 2,.v 0 2,.v 0 2,.v 0 2,.v 0 2,.v 0 1] (aa (gv (m:=0) (cy 22 10 154 1 bt (L:=([(v2,6),(v2,10),(v2,12),(v2,14),(v2,22),(v2,16),(v2,24),(v2,18),(v2,26)]:List (Nat×Nat))) (M:=([(v2,20),(v2,28)]:(List (Nat×Nat)))) (bytes:=8) (rfl) (fun _=>rfl) (by kernel_rfl))) (aa (bU 1) bE))) (bB (ks':=su M w0 r 36) 2 ⟨[(1,.pp 1 v2 0),(2,.ptr 2 0),(3,.ref 10),(11,iI 4)],[(1,aE v1),(2,aE ce)],[(10,⟨154,1,lm bt [(v2,6),(v2,10),(v2,12),(v2,14),(v2,22),(v2,16),(v2,24),(v2,18),(v2,26),(v2,20),(v2,28)]⟩)],[1,2,10]⟩ (bu (br (Tw 4 5 3 10 (ak 1 (aA (bz bt ([(v2,6),(v2,10),(v2,12),(v2,14),(v2,22),(v2,16),(v2,24),(v2,18),(v2,26),(v2,20),(v2,28)]:List (Nat×Nat))) (ac (bB (ks':=[dj 122,.b 2,dj 31]) 1 ⟨[(1,.pp 1 v2 0),(2,.ptr 2 0),(24,.ref 10),(25,iI 11),(26,iI 0)],[(1,aE v1),(2,aE ce)],[(10,⟨154,1,lm bt [(v2,6),(v2,10),(v2,12),(v2,14),(v2,22),(v2,16),(v2,24),(v2,18),(v2,26),(v2,20),(v2,28)]⟩)],[1,2,10]⟩ (nR 40 (c:=cat Tryz.f95 [1,1,1,0,1,0,0]) (by kernel_rfl) (br (cr (ks':=dj 7832::dj 7833 :: .b 3::dj 1959::dk M w0 r 39) 8 (ak 0 (aA (c9 10 1 bt (L:=([(v2,6),(v2,10),(v2,12),(v2,14),(v2,22),(v2,16),(v2,24),(v2,18),(v2,26),(v2,20),(v2,28)]:List (Nat×Nat))) (i:=(0:Int)) (by kernel_rfl)) (aA (ci 154 0 bt bt (L:=([(v2,6),(v2,10),(v2,12),(v2,14),(v2,22),(v2,16),(v2,24),(v2,18),(v2,26),(v2,20),(v2,28)]:List (Nat×Nat))) (j:=(0:Int).toNat) (of_decide_eq_true (by kernel_rfl)) ((fun _=>rfl))) (ac (aw 2 3 1 (ak 3 (dB 32 1 1 v2 6 0 (ac ?_)))))))))))))))))))))))
 obtain⟨h1,h⟩|⟨h1,h⟩:=am h
 ·exact ai 34 h1 (bd 2 1 (ak 3 (dB 37 1 1 v2 6 0 (ac (ag 0 (HB hK (v2:=v2) h))))))
 ·exact ai 34 h1 (ag 2 (HB hK (v2:=v2) h))
end
noncomputable section
variable(M:Nat→Prop)(w0:aH)(r:Int)(v1:List aj)(v2:Fv)(v4:Int)(m1:Nat)(L1:Int→Option Int)
abbrev BO:Cx:=⟨Tryz.prog,19,M,w0⟩
abbrev yO:=bodyPost Tryz.prog Tryz.f129 (bq M w0 (fun v _=>v=iI r))
abbrev N2(ks:List av)(s:AS):=VE (BO M w0) (yO M w0 r) ks .normal s
abbrev IJ(n:Nat):av:=.c (cat Tryz.f129 (pn n))
abbrev BG:List av:=[.b 0,IJ 7]
abbrev Qc:List av:=kl (BO M w0) (yO M w0 r) BG (cat Tryz.f129 (pn 52)) m1::BG
def C2:AS:=⟨[(0,.sl (lm aO v1)),(1,.fn v2.id v2.aX),(7,iI (v1.length:Int)),(8,iI v4)],[],[],[]⟩
abbrev EG:Prop:=∀{v4:Int},L1 v4=some r→LP (BO M w0) (yO M w0 r) BG (cat Tryz.f129 (pn 52)) m1 (C2 v1 v2 v4)
variable{M w0 r v1 v2 v4 m1 L1}{K:Kn}{n:Nat}
theorem OW(hK:aq K)(hL1:EG M w0 r v1 v2 m1 L1)(h:kj K n v1 v2 L1 v4=some r):N2 M w0 r (IJ 52::Qc M w0 r m1) (C2 v1 v2 v4):=by
 unfold kj at h;refine aw 6 7 3 ?_;obtain⟨h5,h⟩|⟨h5,h⟩:=am h
 ·refine ai 9 h5 (cN 18 19 1 3 7 (ak 3 ?_));obtain⟨h6,h⟩:=aS h;refine aA (bM aO aV h6 (eC) (dp)) (aL 5 1 ?_);obtain⟨v5,h7,h⟩:=bind_some h;refine pc (hK.jn h7) (ac ?_);obtain⟨h8,h⟩|⟨h8,h⟩:=am h
  ·refine ai 16 h8 (aG 9 ?_);cases h;exact aU
  ·exact ai 16 h8 (ag 4 (bu (hL1 h)))
 ·refine ai 9 h5 (aG 8 ?_);cases h;exact aU
theorem Nf(hK:aq K)(m:Nat):EG M w0 r v1 v2 m (kE K n v1 v2 m):=by
 induction m with
 | zero=>intro v4 h;cases h
 | succ m ih=>intro v4 h;have h:kj K n v1 v2 (kE K n v1 v2 m) v4=some r:=h;exact br (OW hK ih h)
theorem Ws(hK:aq K)(h:sN K n v1 v2=some r):aN Tryz.prog 129 [.sl (lm aO v1),.fn v2.id v2.aX] (fun v _=>v=iI r):=by
 refine bc (cat Tryz.f129 (pn 1)) Tryz.func129 Tryz.ntmps129 fun M w0=>(aZ ⟨[(0,.sl (lm aO v1)),(1,.fn v2.id v2.aX)],[],[],[]⟩ ?_);unfold sN at h;exact bP 12 13 7 4 (ak 1 (aA (bz aO v1) (ac (ag 1 (cm (p:=pn 26) n (Nf hK n h))))))
end
noncomputable section
variable(M:Nat→Prop)(w0:aH)(r:Bool)(v1:List aj)(v2:Fv)  
variable{M w0 r v1 v2}{K:Kn}{n:Nat}
theorem WK(hK:aq K)(h:lj K n v1 v2=some r):aN Tryz.prog 118 [.sl (lm aO v1),.fn v2.id v2.aX] (fun v _=>v=.bool r):=by
 refine bc (cat Tryz.f118 (pn 1)) Tryz.func118 Tryz.ntmps118 fun M w0=>(aZ ⟨[(0,.sl (lm aO v1)),(1,.fn v2.id v2.aX)],[],[],[]⟩ ?_);unfold lj at h;refine aw 6 7 3 (ak 2 ?_);obtain⟨v3,h1,h⟩:=bind_some h;refine aB (Ws hK h1) (ac (aG 1 ?_));cases h;exact aU
end
noncomputable section
variable(M:Nat→Prop)(w0:aH)(r:(List aj)×Bool)(v1:aj)(v8:Int)(v9 v11:(List aj))(m1:Nat)(L1:Int→(List aj)→Option ((List aj)×Bool))
abbrev Bq:Cx:=⟨Tryz.prog,24,M,w0⟩
abbrev Ak:=bodyPost Tryz.prog Tryz.f96 (bq M w0 (fun v _=>v=.tup [.sl (lm aO r.1),.bool r.2]))
abbrev HO(ks:List av)(s:AS):=VE (Bq M w0) (Ak M w0 r) ks .normal s
abbrev yT(n:Nat):av:=.c (cat Tryz.f96 (pn n))
abbrev xN:List av:=[.b 0,yT 15]
abbrev Fs:List av:=kl (Bq M w0) (Ak M w0 r) xN (cat Tryz.f96 (pn 116)) m1::xN
def KH:AS:=⟨[(4,.ref 19),(8,.sl (lm aO v1.Kids)),(9,iI (v1.Kids.length:Int)),(10,iI v8)],[],[(19,⟨52,59,lm aO v11⟩)],[19]⟩
def Fu:AS:=⟨[(4,.ref 19),(8,.sl (lm aO v1.Kids)),(9,iI (v1.Kids.length:Int)),(10,iI v8)],[],[(19,⟨52,59,lm aO v9⟩)],[19]⟩
abbrev yF:Prop:=∀{v8:Int} {v9:(List aj)},L1 v8 v9=some r→LP (Bq M w0) (Ak M w0 r) xN (cat Tryz.f96 (pn 116)) m1 (Fu v1 v8 v9)
variable{M w0 r v1 v8 v9 v11 m1 L1}{K:Kn}{n:Nat}
theorem Cy(hK:aq K)(hL1:yF M w0 r v1 m1 L1)(h:oP K n v1 v8 L1 v11=some r):HO M w0 r (.b 1::yT 935::Fs M w0 r m1) (KH v1 v8 v11):=by
 unfold oP at h;exact ag 2 (bu (hL1 h))
theorem JP(hK:aq K)(hL1:yF M w0 r v1 m1 L1)(h:ke K n v1 L1 v8 v9=some r):HO M w0 r (yT 116::Fs M w0 r m1) (Fu v1 v8 v9):=by
 unfold ke at h;refine aw 6 7 3 ?_;obtain⟨h13,h⟩|⟨h13,h⟩:=am h
 ·refine ai 11 h13 (cN 8 9 1 3 5 (ak 0 ?_));obtain⟨h14,h⟩:=aS h;refine aA (bM aO aV h14 (eC) (dp)) (ac (aw 2 3 1 (ak 1 ?_)));obtain⟨v10,h15,h⟩:=bind_some h;refine aB (DU hK h15) (ac ?_);obtain⟨h16,h⟩|⟨h16,h⟩:=am h
  ·refine ai 15 h16 (bd 2 1 (ak 2 (aA (eV aO ([(gD v1.Kids v8)]:List aj) (new:=[aV (gD v1.Kids v8)]) (by simp only[List.map_cons,List.map_nil,dp])) ?_)));obtain⟨h17,h⟩:=aS h;exact aA (cy 19 19 52 59 aO (rfl) (eC) h17) (ac (ag 0 (Cy hK hL1 h)))
  ·exact ai 15 h16 (ag 2 (Cy hK hL1 h))
 ·refine ai 11 h13 (mI 2 3 6 (ak 2 (kA 19 ?_)));obtain⟨v12,h18,h⟩:=bind_some h;refine aB (WK hK h18) (ac (aG 1 ?_));cases h;exact dV
theorem QX(hK:aq K)(m:Nat):yF M w0 r v1 m (lw K n v1 m):=by
 induction m with
 | zero=>intro v8 v9 h;cases h
 | succ m ih=>intro v8 v9 h;have h:ke K n v1 (lw K n v1 m) v8 v9=some r:=h;exact br (JP hK ih h)
theorem FZ(hK:aq K)(h:i7 K n v1=some r):aN Tryz.prog 96 [.agg (aV v1)] (fun v _=>v=.tup [.sl (lm aO r.1),.bool r.2]):=by
 refine bc (cat Tryz.f96 (pn 1)) Tryz.func96 Tryz.ntmps96 fun M w0=>(aZ ⟨[(0,.agg (aV v1))],[],[],[]⟩ ?_);unfold i7 at h;exact bP 28 29 15 6 (ak 2 (aA (bz aO v1.Kids) (ac (iD 2 0 1 (bJ [4,8,9,10] [] [] (fk 19 4 52 59 (ag 0 (cm (p:=pn 58) n (QX hK n h)))))))))
end
noncomputable section
variable(M:Nat→Prop)(w0:aH)(r:Int×Int)(v1:aj)(v2:cA)(v6:(List aj)×Bool)(v11 v12 v13:Int)(m1:Nat)(L1:Int→Int→Int→Option (Int×Int))
abbrev xw:Cx:=⟨Tryz.prog,71,M,w0⟩
abbrev zf:=bodyPost Tryz.prog Tryz.f57 (bq M w0 (fun v _=>v=.tup [iI r.1,iI r.2]))
abbrev Oy(ks:List av)(s:AS):=VE (xw M w0) (zf M w0 r) ks .normal s
abbrev Df(n:Nat):av:=.c (cat Tryz.f57 (pn n))
abbrev y3:List av:=[.b 0,Df 63]
abbrev Pp:List av:=kl (xw M w0) (zf M w0 r) y3 (cat Tryz.f57 (pn 500)) m1::y3
def Hl:AS:=⟨[(3,.ptr 3 0),(4,iI v11),(5,iI v12),(47,.sl (lm aO v6.1)),(48,iI (v6.1.length:Int)),(49,iI v13)],[(3,cR v2)],[],[3]⟩
abbrev CQ:Prop:=∀{v11:Int} {v12:Int} {v13:Int},L1 v11 v12 v13=some r→LP (xw M w0) (zf M w0 r) y3 (cat Tryz.f57 (pn 500)) m1 (Hl v2 v6 v11 v12 v13)
variable{M w0 r v1 v2 v6 v11 v12 v13 m1 L1}{K:Kn}{n:Nat}
theorem Kl(hK:aq K)(hL1:CQ M w0 r v2 v6 m1 L1)(h:xj K n v2 v6 L1 v11 v12 v13=some r):Oy M w0 r (Df 500::Pp M w0 r m1) (Hl v2 v6 v11 v12 v13):=by
 unfold xj at h;refine aw 6 7 3 ?_;obtain⟨h13,h⟩|⟨h13,h⟩:=am h
 ·refine ai 50 h13 (cN 8 9 1 3 5 (ak 0 ?_));obtain⟨h14,h⟩:=aS h;refine aA (bM aO aV h14 (eC) (dp)) (ac (aw 2 3 1 (ak 3 ?_)));obtain⟨v14,h15,h⟩:=bind_some h;exact pc (hK.ub h15) (ac (ag 3 (bu (hL1 h))))
 ·refine ai 50 h13 (mI 2 3 6 (ak 1 ?_));obtain⟨v15,h16,h⟩:=bind_some h;refine aB (gF hK h16) (aL 3 1 ?_);obtain⟨v16,h17,h⟩:=bind_some h;refine aB (gF hK h17) (ac (aG 1 ?_));cases h;exact dV
theorem Rq(hK:aq K)(m:Nat):CQ M w0 r v2 v6 m (vx K n v2 v6 m):=by
 induction m with
 | zero=>intro v11 v12 v13 h;cases h
 | succ m ih=>intro v11 v12 v13 h;have h:xj K n v2 v6 (vx K n v2 v6 m) v11 v12 v13=some r:=h;exact br (Kl hK ih h)
theorem FN(hK:aq K)(h:mh K n v1 v2=some r):aN Tryz.prog 57 [.agg (aV v1),.agg (cR v2)] (fun v _=>v=.tup [iI r.1,iI r.2]):=by
 refine bc (cat Tryz.f57 (pn 1)) Tryz.func57 Tryz.ntmps57 fun M w0=>(aZ ⟨[(0,.agg (aV v1)),(1,.agg (cR v2))],[],[],[]⟩ ?_);unfold mh at h;refine bP 12 13 7 4 (ak 2 ?_);obtain⟨v3,h1,h⟩:=bind_some h;refine aB (Cp hK h1) (aL 4 1 ?_);obtain⟨v4,h2,h⟩:=bind_some h;refine aB (ef hK h2) (ac (bd 3 2 ?_));obtain⟨h3,h⟩|⟨h3,h⟩:=am h
 ·refine ai 22 h3 (aw 4 5 2 (ak 1 ?_));obtain⟨v5,h4,h⟩:=bind_some h;refine aB (gF hK h4) (ac (aG 4 ?_));cases h;exact dV
 ·refine ai 22 h3 (dJ 2 3 3 (ak 1 ?_));obtain⟨v6,h5,h⟩:=bind_some h;refine aB (FZ hK h5) (ac (aw 5 3 3 ?_));obtain⟨h6,h⟩|⟨h6,h⟩:=am h
  ·refine ai 33 h6 (aw 4 5 2 (ak 5 ?_));obtain⟨v7,h7,h⟩:=bind_some h;refine pc (hK.tS h7) (ac (aw 2 3 1 (ak 1 ?_)));obtain⟨v8,h8,h⟩:=bind_some h;refine aB (gF hK h8) (aL 3 1 ?_);obtain⟨v9,h9,h⟩:=bind_some h;refine aB (gF hK h9) (ac (aG 2 ?_));cases h;exact dV
  ·exact ai 33 h6 (gp 4 5 3 4 (ak 1 (aA (bz aO v6.1) (ac (ag 1 (cm (p:=pn 250) n (Rq hK n h)))))))
end
noncomputable section
variable(M:Nat→Prop)(w0:aH)(r:Int)(v1:aJ)(v2 v3 v5 v7:Int)  
abbrev IA(n:Nat):av:=.c (cat Tryz.f58 (pn n))
abbrev Tn:Cx:=⟨Tryz.prog,37,M,w0⟩
abbrev Ps:=bodyPost Tryz.prog Tryz.f58 (bq M w0 (fun v _=>v=iI r))
abbrev FQ(ks:List av)(s:AS):=VE (Tn M w0) (Ps M w0 r) ks .normal s
def Qw:AS:=⟨[(2,iI v7)],[],[],[]⟩
def Lz:AS:=⟨[(1,iI v2),(2,iI v5),(3,.ptr 3 0)],[(3,aE v1)],[],[3]⟩
variable{M w0 r v1 v2 v3 v5 v7}{K:Kn}{n:Nat}
theorem H7(hK:aq K)(h:sG K n v7=some r):FQ M w0 r [IA 31] (Qw v7):=by
 unfold sG at h;refine aG 3 ?_;cases h;exact aU
theorem GE(hK:aq K)(h:ri K n v1 v2 v5=some r):FQ M w0 r [IA 15] (Lz v1 v2 v5):=by
 unfold ri at h;refine bP 4 5 3 2 (ak 3 ?_);obtain⟨v6,h3,h⟩:=bind_some h;refine aB (ef hK h3) (ac (bd 3 2 ?_));obtain⟨h4,h⟩|⟨h4,h⟩:=am h
 ·exact ai 32 h4 (ag 2 (H7 hK h))
 ·exact ai 32 h4 (ag 2 (H7 hK h))
theorem wX(hK:aq K)(h:mc K n v1 v2 v3=some r):aN Tryz.prog 58 [.agg (aE v1),iI v2,iI v3] (fun v _=>v=iI r):=by
 refine bc (cat Tryz.f58 (pn 1)) Tryz.func58 Tryz.ntmps58 fun M w0=>(aZ ⟨[(0,.agg (aE v1)),(1,iI v2),(2,iI v3)],[],[],[]⟩ ?_);unfold mc at h;refine bP 28 29 15 6 (ak 3 ?_);obtain⟨v4,h1,h⟩:=bind_some h;refine aB (ef hK h1) (ac (bd 3 2 ?_));obtain⟨h2,h⟩|⟨h2,h⟩:=am h
 ·exact ai 20 h2 (ag 2 (GE hK h))
 ·exact ai 20 h2 (ag 2 (GE hK h))
end
noncomputable section
variable(M:Nat→Prop)(w0:aH)(r:Int)(v1:aj)(v2:Int)(v3:cA)(v9:Int)  
abbrev Lq(n:Nat):av:=.c (cat Tryz.f25 (pn n))
abbrev Kb:Cx:=⟨Tryz.prog,46,M,w0⟩
abbrev P1:=bodyPost Tryz.prog Tryz.f25 (bq M w0 (fun v _=>v=iI r))
abbrev PP(ks:List av)(s:AS):=VE (Kb M w0) (P1 M w0 r) ks .normal s
def VU:AS:=⟨[(1,iI v2),(3,.ptr 3 0),(7,iI v9)],[(3,aV v1)],[],[3]⟩
variable{M w0 r v1 v2 v3 v9}{K:Kn}{n:Nat}
theorem I4(hK:aq K)(h:nC K n v1 v2 v9=some r):PP M w0 r [Lq 15] (VU v1 v2 v9):=by
 unfold nC at h;refine aw 2 3 1 (ak 4 ?_);obtain⟨v10,h7,h⟩:=bind_some h;refine aB (wX hK h7) (ac (aG 1 ?_));cases h;exact aU
theorem Lk(hK:aq K)(h:ms K n v1 v2 v3=some r):aN Tryz.prog 25 [.agg (aV v1),iI v2,.agg (cR v3)] (fun v _=>v=iI r):=by
 refine bc (cat Tryz.f25 (pn 1)) Tryz.func25 Tryz.ntmps25 fun M w0=>(aZ ⟨[(0,.agg (aV v1)),(1,iI v2),(2,.agg (cR v3))],[],[],[]⟩ ?_);unfold ms at h;refine aw 6 7 3 (ak 4 ?_);obtain⟨v4,h1,h⟩:=bind_some h;refine aB (ef hK h1) (ac (aw 5 3 3 ?_));obtain⟨h2,h⟩|⟨h2,h⟩:=am h
 ·refine ai 21 h2 (aw 4 5 2 (ak 2 ?_));obtain⟨v5,h3,h⟩:=bind_some h;refine aB (FN hK h3) (ac (aw 2 3 1 (bJ [1,3,9,10] [3] [] ?_)));obtain⟨v6,h4,h⟩:=bind_some h;obtain⟨v7,h5,h⟩:=bind_some h;obtain⟨v8,h6,h⟩:=bind_some h;exact bD 1 (nu 28 [iI v2,iI v6,.ptr 3 2,.agg (aE v1.Style),iI v2,.agg (bg v7),iI v8,iI (ab (v6-v8))]) [] [] [bT Tryz.prog 46 Tryz.f25 (pn 234) 8] (ao [.v 0 1] (aa (bL 0 1 29 (gF hK h4)) (ao (vz 3) (aa (bL 0 1 33 (sE hK h5)) (aa (bL 0 1 34 (qT hK h6)) (ao [.v 0 1] (aa (bU 0) bE))))))) (ag 1 (I4 hK h))
 ·exact ai 21 h2 (ag 2 (I4 hK h))
end
noncomputable section
variable(M:Nat→Prop)(w0:aH)(r v1:ae)(v2:Int)(v3:Int×Bool)(v5:Int)  
abbrev TK(n:Nat):av:=.c (cat Tryz.f26 (pn n))
abbrev MY:Cx:=⟨Tryz.prog,45,M,w0⟩
abbrev Nl:=bodyPost Tryz.prog Tryz.f26 (bq M w0 (fun v _=>v=.agg (aF r)))
abbrev Rv(ks:List av)(s:AS):=VE (MY M w0) (Nl M w0 r) ks .normal s
def Rh:AS:=⟨[(2,.ptr 2 0),(4,.ptr 4 0)],[(2,aF ({ v1 with X:=(ab (v1.X+v3.1)),Y:=v5 }:ae)),(4,List.set (aF bp) 66 (.nils))],[],[2,4]⟩
variable{M w0 r v1 v2 v3 v5}{K:Kn}{n:Nat}
theorem CV(hK:aq K)(h:pC K n v1 v3 v5=some r):Rv M w0 r [TK 63] (Rh v1 v3 v5):=by
 unfold pC at h;refine aG 3 ?_;cases h;exact aU
theorem Fg(hK:aq K)(h:mC K n v1 v2=some r):aN Tryz.prog 26 [.agg (aF v1),iI v2] (fun v _=>v=.agg (aF r)):=by
 refine bc (cat Tryz.f26 (pn 1)) Tryz.func26 Tryz.ntmps26 fun M w0=>(aZ ⟨[(0,.agg (aF v1)),(1,iI v2)],[],[],[]⟩ ?_);unfold mC at h;refine aw 13 7 5 ?_;obtain⟨h1,h⟩|⟨h1,h⟩:=am h
 ·refine ai 12 h1 (aG 5 ?_);cases h;exact aU
 ·refine ai 12 h1 (dJ 2 3 3 (ak 4 ?_));obtain⟨v3,h2,h⟩:=bind_some h;refine aB (ef hK h2) (ac (aw 13 7 5 ?_));obtain⟨h3,h⟩|⟨h3,h⟩:=am h
  ·refine ai 31 h3 (aw 4 5 2 (ak 3 ?_));obtain⟨v4,h4,h⟩:=bind_some h;exact aB (ef hK h4) (ac (ag 1 (CV hK h)))
  ·exact ai 31 h3 (ag 2 (CV hK h))
end
noncomputable section
variable(M:Nat→Prop)(w0:aH)(r:Int)(v1:au)  
variable{M w0 r v1}{K:Kn}{n:Nat}
theorem pu(hK:aq K)(h:fD K n v1=some r):aN Tryz.prog 29 [.agg (bI v1)] (fun v _=>v=iI r):=by
 refine bc (cat Tryz.f29 (pn 1)) Tryz.func29 Tryz.ntmps29 fun M w0=>(aZ ⟨[(0,.agg (bI v1))],[],[],[]⟩ ?_);unfold fD at h;refine aG 5 ?_;cases h;exact aU
end
noncomputable section
variable(M:Nat→Prop)(w0:aH)(r:au)(v1 v2:au)  
variable{M w0 r v1 v2}{K:Kn}{n:Nat}
theorem tr(hK:aq K)(h:gx K n v1 v2=some r):aN Tryz.prog 100 [.agg (bI v1),.agg (bI v2)] (fun v _=>v=.agg (bI r)):=by
 refine bc (cat Tryz.f100 (pn 1)) Tryz.func100 Tryz.ntmps100 fun M w0=>(aZ ⟨[(0,.agg (bI v1)),(1,.agg (bI v2))],[],[],[]⟩ ?_);unfold gx at h;refine aG 5 ?_;cases h;exact aU
end
noncomputable section
variable(M:Nat→Prop)(w0:aH)(r:(List ae)×Int×au×au×Bool)(v1:List ae)(v16:Int)(v17:Bool)(v18:Int)(v19 v20:au)(v21:List ae)(v22:au)(v24:Int)(v25:au)(v26:Int)(v27:Bool)(v28 v29 v30:au)(m1:Nat)(L1:Int→Bool→Int→au→au→(List ae)→Option ((List ae)×Int×au×au×Bool))
abbrev xE:Cx:=⟨Tryz.prog,52,M,w0⟩
abbrev xB:=bodyPost Tryz.prog Tryz.f97 (bq M w0 (fun v s=>v=.tup [.ref 43,iI r.2.1,.agg (bI r.2.2.1),.agg (bI r.2.2.2.1),.bool r.2.2.2.2]∧look 43 s.r=some ⟨59,67,lm aC r.1⟩))
abbrev tR(ks:List av)(s:AS):=VE (xE M w0) (xB M w0 r) ks .normal s
abbrev jh(n:Nat):av:=.c (cat Tryz.f97 (pn n))
abbrev BQ:List av:=[.b 0,jh 31]
abbrev vn:List av:=kl (xE M w0) (xB M w0 r) BQ (cat Tryz.f97 (pn 244)) m1::BQ
def JU:AS:=⟨[(2,.ref 43),(3,iI v26),(4,.ptr 4 0),(5,.ptr 5 0),(6,.bool v27),(7,.ptr 7 0),(9,.ptr 9 0),(10,.sl (lm aC v1)),(11,iI (v1.length:Int)),(12,iI v18)],[(4,bI v28),(5,bI cp),(7,bI v29),(9,aF ({ (gD v1 v18)with Y:=v24 }:ae))],[(43,⟨59,67,lm aC v21⟩)],[4,5,7,9,43]⟩
def K6:AS:=⟨[(2,.ref 43),(4,.ptr 4 0),(5,.ptr 5 0),(7,.ptr 7 0),(9,.ptr 9 0),(10,.sl (lm aC v1)),(11,iI (v1.length:Int)),(12,iI v18)],[(4,bI v25),(5,bI cp),(7,bI v22),(9,aF ({ (gD v1 v18)with Y:=v24 }:ae))],[(43,⟨59,67,lm aC v21⟩)],[4,5,7,9,43]⟩
def Un:AS:=⟨[(2,.ref 43),(3,iI v16),(4,.ptr 4 0),(5,.ptr 5 0),(6,.bool v17),(7,.ptr 7 0),(9,.ptr 9 0),(10,.sl (lm aC v1)),(11,iI (v1.length:Int)),(12,iI v18)],[(4,bI v19),(5,bI cp),(7,bI v22),(9,aF ({ (gD v1 v18)with Y:=v24 }:ae))],[(43,⟨59,67,lm aC v21⟩)],[4,5,7,9,43]⟩
def RO:AS:=⟨[(2,.ref 43),(3,iI v16),(4,.ptr 4 0),(5,.ptr 5 0),(6,.bool v17),(7,.ptr 7 0)],[(4,bI v30),(5,bI cp),(7,bI v20)],[(43,⟨59,67,lm aC v21⟩)],[4,5,7,43]⟩
def Cn:AS:=⟨[(2,.ref 43),(3,iI v16),(4,.ptr 4 0),(5,.ptr 5 0),(6,.bool v17),(7,.ptr 7 0),(10,.sl (lm aC v1)),(11,iI (v1.length:Int)),(12,iI v18)],[(4,bI v19),(5,bI cp),(7,bI v20)],[(43,⟨59,67,lm aC v21⟩)],[4,5,7,43]⟩
abbrev sH:Prop:=∀{v16:Int} {v17:Bool} {v18:Int} {v19:au} {v20:au} {v21:(List ae)},L1 v16 v17 v18 v19 v20 v21=some r→LP (xE M w0) (xB M w0 r) BQ (cat Tryz.f97 (pn 244)) m1 (Cn v1 v16 v17 v18 v19 v20 v21)
variable{M w0 r v1 v16 v17 v18 v19 v20 v21 v22 v24 v25 v26 v27 v28 v29 v30 m1 L1}{K:Kn}{n:Nat}
theorem CE(hK:aq K)(hL1:sH M w0 r v1 m1 L1)(h:nf K n v1 v18 v21 v24 L1 v26 v27 v28 v29=some r):tR M w0 r (jh 125343 :: .b 1::jh 1959::vn M w0 r m1) (JU v1 v18 v21 v24 v26 v27 v28 v29):=by
 unfold nf at h;refine ak 2 (aA (eV aC ([({ (gD v1 v18)with Y:=v24 }:ae)]:List ae) (new:=[aF ({ (gD v1 v18)with Y:=v24 }:ae)]) (by simp only[List.map_cons,List.map_nil,cQ])) ?_);obtain⟨h22,h⟩:=aS h;exact aA (cy 43 43 59 67 aC (rfl) (dP) h22) (ac (ag 2 (bu (hL1 h))))
theorem CP(hK:aq K)(hL1:sH M w0 r v1 m1 L1)(h:nc K n v1 v18 v21 v22 v24 L1 v25=some r):tR M w0 r (jh 1002741::jh 125343 :: .b 1::jh 1959::vn M w0 r m1) (K6 v1 v18 v21 v22 v24 v25):=by
 unfold nc at h;exact ag 5 (CE hK hL1 h)
theorem Gk(hK:aq K)(hL1:sH M w0 r v1 m1 L1)(h:nO K n v1 v16 v17 v18 v19 v21 v22 L1 v24=some r):tR M w0 r (jh 62671 :: .b 1::jh 1959::vn M w0 r m1) (Un v1 v16 v17 v18 v19 v21 v22 v24):=by
 unfold nO at h;refine aw 5 3 3 ?_;obtain⟨h20,h⟩|⟨h20,h⟩:=am h
 ·refine ai 30 h20 (aw 9 5 4 ?_);obtain⟨h21,h⟩|⟨h21,h⟩:=am h
  ·exact ai 31 h21 (ag 2 (CP hK hL1 h))
  ·exact ai 31 h21 (ag 2 (CP hK hL1 h))
 ·exact ai 30 h20 (ag 2 (CE hK hL1 h))
theorem Dn(hK:aq K)(h:nB K n v16 v17 v20 v21 v30=some r):tR M w0 r [jh 63] (RO v16 v17 v20 v21 v30):=by
 unfold nB at h;refine aw 2 3 1 (bJ [2,3,4,5,6,7] [4,5,7] [43] (bD 5 (nu 47 [.ref 43,iI v16,.agg (bI v30),.agg (bI v20),.bool v17]) [] [] [bT Tryz.prog 52 Tryz.f97 (pn 126) 5,bT Tryz.prog 52 Tryz.f97 (pn 126) 6,bT Tryz.prog 52 Tryz.f97 (pn 126) 7,bT Tryz.prog 52 Tryz.f97 (pn 126) 8,bT Tryz.prog 52 Tryz.f97 (pn 126) 9] (ao [.v 0 1,.v 0 2,.v 0 3,.v 0 4,.v 0 5] (aa (bU 0) (aa (bU 1) (aa (bU 2) (aa (bU 3) (aa (bU 4) bE)))))) (aG 1 ?_)));cases h;exact tm
theorem UM(hK:aq K)(hL1:sH M w0 r v1 m1 L1)(h:mU K n v1 L1 v16 v17 v18 v19 v20 v21=some r):tR M w0 r (jh 244::vn M w0 r m1) (Cn v1 v16 v17 v18 v19 v20 v21):=by
 unfold mU at h;refine aw 6 7 3 ?_;obtain⟨h15,h⟩|⟨h15,h⟩:=am h
 ·refine ai 13 h15 (cN 8 9 1 3 5 (ak 0 ?_));obtain⟨h16,h⟩:=aS h;refine aA (bM aC aF h16 (dP) (cQ)) (ac (aw 2 3 1 (ak 3 ?_)));obtain⟨v22,h17,h⟩:=bind_some h;refine aB (tr hK h17) (ac (aw 13 7 5 ?_));obtain⟨h18,h⟩|⟨h18,h⟩:=am h
  ·refine ai 22 h18 (bd 2 1 (ak 2 ?_));obtain⟨v23,h19,h⟩:=bind_some h;exact aB (pu hK h19) (ac (ag 0 (Gk hK hL1 h)))
  ·exact ai 22 h18 (ag 2 (Gk hK hL1 h))
 ·refine ai 13 h15 (mI 5 3 8 ?_);obtain⟨h23,h⟩|⟨h23,h⟩:=am h
  ·exact ai 45 h23 (ag 2 (Dn hK h))
  ·exact ai 45 h23 (ag 2 (Dn hK h))
theorem Sy(hK:aq K)(m:Nat):sH M w0 r v1 m (ik K n v1 m):=by
 induction m with
 | zero=>intro v16 v17 v18 v19 v20 v21 h;cases h
 | succ m ih=>intro v16 v17 v18 v19 v20 v21 h;have h:mU K n v1 (ik K n v1 m) v16 v17 v18 v19 v20 v21=some r:=h;exact br (UM hK ih h)
theorem KX(hK:aq K)(h:m4 K n v1=some r):aN Tryz.prog 97 [.sl (lm aC v1)] (fun v s=>v=.tup [.ref 43,iI r.2.1,.agg (bI r.2.2.1),.agg (bI r.2.2.2.1),.bool r.2.2.2.2]∧look 43 s.r=some ⟨59,67,lm aC r.1⟩):=by
 refine bc (cat Tryz.f97 (pn 1)) Tryz.func97 Tryz.ntmps97 fun M w0=>(aZ ⟨[(0,.sl (lm aC v1))],[],[],[]⟩ ?_);unfold m4 at h;exact bP 60 61 31 8 (ak 1 (aA (bz aC v1) (ac (iD 2 0 1 (bJ [2,3,4,5,6,7,10,11,12] [4,5,7] [] (fk 43 2 59 67 (ag 0 (cm (p:=pn 122) n (Sy hK n h)))))))))
end
noncomputable section
variable(M:Nat→Prop)(w0:aH)(r v1:List ae)  
variable{M w0 r v1}{K:Kn}{n:Nat}
theorem PT(hK:aq K)(h:ld K n v1=some r):aN Tryz.prog 98 [.sl (lm aC v1)] (fun v s=>v=.ref 5∧look 5 s.r=some ⟨59,67,lm aC r⟩):=by
 refine bc (cat Tryz.f98 (pn 1)) Tryz.func98 Tryz.ntmps98 fun M w0=>(aZ ⟨[(0,.sl (lm aC v1))],[],[],[]⟩ ?_);unfold ld at h;refine bP 12 13 7 4 (ak 1 ?_);refine PJ (bh Tryz.f98 (pn 12) 1) (.eql) 44 44 (.tmp 3) (.const (.slice none 0 0)) 4 (lm aC v1) (r:=aW Tryz.f98 (pn 12) 2) (e:=59) (by kernel_rfl) (by kernel_rfl) (by kernel_rfl) (by kernel_rfl) (by kernel_rfl) (by kernel_rfl) (by kernel_rfl) (by kernel_rfl) (fun hq=>?_) ?_
 ·have h:=KQ (by simpa using hq) h;refine ac (aG 5 (fk 5 2 59 67 ?_));cases h;exact eg
 ·have h:=K7 h;refine ac (dJ 2 3 3 (ak 0 (JC 44 5 (e:=59) (sz:=67) (aL 2 1 ?_))));obtain⟨h2,h⟩:=aS h;refine aA (cy 7 5 59 67 aC (rfl) (dP) h2) (ac (aG 1 ?_));cases h;exact eg
end
noncomputable section
variable(M:Nat→Prop)(w0:aH)(r:au)(v1:Int)  
variable{M w0 r v1}{K:Kn}{n:Nat}
theorem Hs(hK:aq K)(h:qK K n v1=some r):aN Tryz.prog 99 [iI v1] (fun v _=>v=.agg (bI r)):=by
 refine bc (cat Tryz.f99 (pn 1)) Tryz.func99 Tryz.ntmps99 fun M w0=>(aZ ⟨[(0,iI v1)],[],[],[]⟩ ?_);unfold qK at h;refine aG 5 ?_;cases h;exact aU
end
noncomputable section
variable(M:Nat→Prop)(w0:aH)(r:Int)(v1:aP)  
variable{M w0 r v1}{K:Kn}{n:Nat}
theorem SF(hK:aq K)(h:uf K n v1=some r):aN Tryz.prog 101 [.agg (bg v1)] (fun v _=>v=iI r):=by
 refine bc (cat Tryz.f101 (pn 1)) Tryz.func101 Tryz.ntmps101 fun M w0=>(aZ ⟨[(0,.agg (bg v1))],[],[],[]⟩ ?_);unfold uf at h;refine aG 5 ?_;cases h;exact aU
end
noncomputable section
variable(M:Nat→Prop)(w0:aH)(r:Bool)(v1:aj)(v2:Bool)  
abbrev Ug(n:Nat):av:=.c (cat Tryz.f102 (pn n))
abbrev O8:Cx:=⟨Tryz.prog,16,M,w0⟩
abbrev K2:=bodyPost Tryz.prog Tryz.f102 (bq M w0 (fun v _=>v=.bool r))
abbrev SC(ks:List av)(s:AS):=VE (O8 M w0) (K2 M w0 r) ks .normal s
def R8:AS:=⟨[(2,.bool v2)],[],[],[]⟩
variable{M w0 r v1 v2}{K:Kn}{n:Nat}
theorem Ao(hK:aq K)(h:nt K n v2=some r):SC M w0 r [Ug 7] (R8 v2):=by
 unfold nt at h;refine aG 1 ?_;cases h;exact aU
theorem F3(hK:aq K)(h:mB K n v1=some r):aN Tryz.prog 102 [.agg (aV v1)] (fun v _=>v=.bool r):=by
 refine bc (cat Tryz.f102 (pn 1)) Tryz.func102 Tryz.ntmps102 fun M w0=>(aZ ⟨[(0,.agg (aV v1))],[],[],[]⟩ ?_);unfold mB at h;refine aw 6 7 3 (ak 4 ?_);obtain⟨h1,h⟩|⟨h1,h⟩:=am h
 ·exact ay 6 h1 (ac (ag 0 (Ao hK h)))
 ·refine ay 6 h1 (aL 9 5 ?_);obtain⟨h2,h⟩|⟨h2,h⟩:=am h
  ·exact ay 11 h2 (ac (ag 0 (Ao hK h)))
  ·exact ay 11 h2 (ac (ag 0 (Ao hK h)))
end
end Go.Proofs.YtnpmlepplfaijaaGreat

/- The runs of the functions that InlineRuns reaches do what their plain forms say, part 2. Made by a program. -/
import Derived.Test.YtnpmlepplfaijaaGreatIrGk
import Derived.Test.YtnpmlepplfaijaaGreatIrP1
namespace Go.Proofs.YtnpmlepplfaijaaGreat
open Go.RowKit
set_option maxRecDepth 20000
set_option linter.all false
set_option linter.unusedVariables false
set_option linter.unusedSimpArgs false
noncomputable section
variable(M:Nat→Prop)(w0:aH)(r:(List ae)×Int)(v1:List aj)(v2:aJ)(v3 v10 v11:Int)(v12:List ae)(v14:Int)(v15:List ae)(m1:Nat)(L1:Int→Int→(List ae)→Option ((List ae)×Int))
abbrev yu:Cx:=⟨Tryz.prog,42,M,w0⟩
abbrev B5:=bodyPost Tryz.prog Tryz.f33 (bq M w0 (fun v s=>v=.tup [.ref 35,iI r.2]∧look 35 s.r=some ⟨59,67,lm aC r.1⟩))
abbrev C7(ks:List av)(s:AS):=VE (yu M w0) (B5 M w0 r) ks .normal s
abbrev rW(n:Nat):av:=.c (cat Tryz.f33 (pn n))
abbrev AO:List av:=[.b 0,rW 31]
abbrev zR:List av:=kl (yu M w0) (B5 M w0 r) AO (cat Tryz.f33 (pn 244)) m1::AO
def VN:AS:=⟨[(0,.sl (lm aO v1)),(2,iI v3),(4,.ptr 4 0),(8,.ref 35),(9,iI v14),(10,iI v11)],[(4,aE v2)],[(35,⟨59,67,lm aC v15⟩)],[4,35]⟩
def CN:AS:=⟨[(0,.sl (lm aO v1)),(2,iI v3),(4,.ptr 4 0),(8,.ref 35),(9,iI v10),(10,iI v11)],[(4,aE v2)],[(35,⟨59,67,lm aC v12⟩)],[4,35]⟩
abbrev yM:Prop:=∀{v10:Int} {v11:Int} {v12:(List ae)},L1 v10 v11 v12=some r→LP (yu M w0) (B5 M w0 r) AO (cat Tryz.f33 (pn 244)) m1 (CN v1 v2 v3 v10 v11 v12)
variable{M w0 r v1 v2 v3 v10 v11 v12 v14 v15 m1 L1}{K:Kn}{n:Nat}
theorem Dh(hK:aq K)(hL1:yM M w0 r v1 v2 v3 m1 L1)(h:jg K n v1 v2 v3 v11 L1 v14 v15=some r):C7 M w0 r (.b 1::rW 979::zR M w0 r m1) (VN v1 v2 v3 v11 v14 v15):=by
 unfold jg at h;exact ag 2 (bu (hL1 h))
theorem Qb(hK:aq K)(hL1:yM M w0 r v1 v2 v3 m1 L1)(h:gB K n v1 v2 v3 L1 v10 v11 v12=some r):C7 M w0 r (rW 244::zR M w0 r m1) (CN v1 v2 v3 v10 v11 v12):=by
 unfold gB at h;refine bP 4 5 3 2 (ak 2 (aA (bz aO v1) (ac ?_)));obtain⟨h13,h⟩|⟨h13,h⟩:=am h
 ·refine ai 14 h13 (cN 8 9 1 3 5 (ak 2 ?_));obtain⟨h14,h⟩:=aS h;refine aA (bM aO aV h14 (eC) (dp)) (ac ?_);obtain⟨v13,h15,h⟩:=bW h;refine bB (ks':=rW 3913 :: .b 1::rW 979::zR M w0 r m1) 0 ⟨[(0,.sl (lm aO v1)),(2,iI v3),(4,.ptr 4 0),(8,.ref 35),(9,iI v10),(10,iI v11),(22,.bool v13)],[(4,aE v2)],[(35,⟨59,67,lm aC v12⟩)],[4,35]⟩ ?_ (by subst h15;kernel_rfl);obtain⟨h16,h⟩|⟨h16,h⟩:=am h
  ·refine ai 22 h16 (aw 4 5 2 (bJ [0,2,4,8,9,10] [4] [35] ?_));obtain⟨h17,h⟩:=aS h;obtain⟨h18,h⟩:=aS h;exact bD 2 (nu 23 [.ref 35,iI v10,iI v3,.ptr 4 38,iI v2.LineHeight,.sl (lm aO v1),iI v11,.cptr (aV (gD v1 v11)),.cptr (List.drop 55 (aV (gD v1 v11))),.str ((gD v1 v11).Text),.agg (List.set (aF ({ bp with Kind:=2,Y:=v10,W:=v3,H:=v2.LineHeight,Text:=(gD v1 v11).Text }:ae)) 66 (.nils)),.sl (lm aC [({ bp with Kind:=2,Y:=v10,W:=v3,H:=v2.LineHeight,Text:=(gD v1 v11).Text }:ae)])]) [] [] [gW 35 35 ⟨59,67,lm aC (v12++[({ bp with Kind:=2,Y:=v10,W:=v3,H:=v2.LineHeight,Text:=(gD v1 v11).Text }:ae)])⟩,bT Tryz.prog 42 Tryz.f33 (pn 15652) 13] (ao [.v 0 1,.v 0 2,.v 0 2,.v 0 2,.v 0 2,.v 0 2,.v 0 2] (aa (hI (lo:=0) (k:=2) (eo ⟨(by kernel_rfl),(eI (bM aO aV h17 (eC) (dp)) (by kernel_rfl))⟩ (eo ⟨(by kernel_rfl),(eI (bM aO aV h17 (eC) (dp)) (by kernel_rfl))⟩ iQ))) (ao [.v 0 2,.v 0 2,.v 0 2] (bC (eV aC ([({ bp with Kind:=2,Y:=v10,W:=v3,H:=v2.LineHeight,Text:=(gD v1 v11).Text }:ae)]:List ae) (new:=[aF ({ bp with Kind:=2,Y:=v10,W:=v3,H:=v2.LineHeight,Text:=(gD v1 v11).Text }:ae)]) (by simp only[List.map_cons,List.map_nil,cQ])) (aa (gv (m:=0) (cy 35 35 59 67 aC (rfl) (dP) h18)) (aa (bU 1) bE)))))) (ag 1 (Dh hK hL1 h))
  ·exact ai 22 h16 (ag 2 (Dh hK hL1 h))
 ·refine ai 14 h13 (aG 8 ?_);cases h;exact tm
theorem Tp(hK:aq K)(m:Nat):yM M w0 r v1 v2 v3 m (gV K n v1 v2 v3 m):=by
 induction m with
 | zero=>intro v10 v11 v12 h;cases h
 | succ m ih=>intro v10 v11 v12 h;have h:gB K n v1 v2 v3 (gV K n v1 v2 v3 m) v10 v11 v12=some r:=h;exact br (Qb hK ih h)
theorem Em(hK:aq K)(h:ja K n v1 v2 v3=some r):aN Tryz.prog 33 [.sl (lm aO v1),.agg (aE v2),iI v3] (fun v s=>v=.tup [.ref 35,iI r.2]∧look 35 s.r=some ⟨59,67,lm aC r.1⟩):=by
 refine bc (cat Tryz.f33 (pn 1)) Tryz.func33 Tryz.ntmps33 fun M w0=>(aZ ⟨[(0,.sl (lm aO v1)),(1,.agg (aE v2)),(2,iI v3)],[],[],[]⟩ ?_);unfold ja at h;exact fp 122 0 31 10 (bJ [0,2,4,8,9,10] [4] [] (fk 35 8 59 67 (ag 0 (cm (p:=pn 122) n (Tp hK n h)))))
end
noncomputable section
variable(M:Nat→Prop)(w0:aH)(r:Int)(v1:au)  
variable{M w0 r v1}{K:Kn}{n:Nat}
theorem ra(hK:aq K)(h:fR K n v1=some r):aN Tryz.prog 72 [.agg (bI v1)] (fun v _=>v=iI r):=by
 refine bc (cat Tryz.f72 (pn 1)) Tryz.func72 Tryz.ntmps72 fun M w0=>(aZ ⟨[(0,.agg (bI v1))],[],[],[]⟩ ?_);unfold fR at h;refine aG 5 ?_;cases h;exact aU
end
noncomputable section
variable(M:Nat→Prop)(w0:aH)(r v1:ae)(v2:Int)(v3:Int×Bool)(v5:Int)  
abbrev Vn(n:Nat):av:=.c (cat Tryz.f73 (pn n))
abbrev Re:Cx:=⟨Tryz.prog,45,M,w0⟩
abbrev NC:=bodyPost Tryz.prog Tryz.f73 (bq M w0 (fun v _=>v=.agg (aF r)))
abbrev Uu(ks:List av)(s:AS):=VE (Re M w0) (NC M w0 r) ks .normal s
def KI:AS:=⟨[(2,.ptr 2 0),(4,.ptr 4 0)],[(2,aF ({ v1 with X:=(ab (v1.X+v3.1)),Y:=v5 }:ae)),(4,List.set (aF bp) 66 (.nils))],[],[2,4]⟩
variable{M w0 r v1 v2 v3 v5}{K:Kn}{n:Nat}
theorem Gt(hK:aq K)(h:l5 K n v1 v3 v5=some r):Uu M w0 r [Vn 63] (KI v1 v3 v5):=by
 unfold l5 at h;refine aG 3 ?_;cases h;exact aU
theorem E7(hK:aq K)(h:kz K n v1 v2=some r):aN Tryz.prog 73 [.agg (aF v1),iI v2] (fun v _=>v=.agg (aF r)):=by
 refine bc (cat Tryz.f73 (pn 1)) Tryz.func73 Tryz.ntmps73 fun M w0=>(aZ ⟨[(0,.agg (aF v1)),(1,iI v2)],[],[],[]⟩ ?_);unfold kz at h;refine aw 13 7 5 ?_;obtain⟨h1,h⟩|⟨h1,h⟩:=am h
 ·refine ai 12 h1 (aG 5 ?_);cases h;exact aU
 ·refine ai 12 h1 (dJ 2 3 3 (ak 4 ?_));obtain⟨v3,h2,h⟩:=bind_some h;refine aB (eO hK h2) (ac (aw 13 7 5 ?_));obtain⟨h3,h⟩|⟨h3,h⟩:=am h
  ·refine ai 31 h3 (aw 4 5 2 (ak 3 ?_));obtain⟨v4,h4,h⟩:=bind_some h;exact aB (eO hK h4) (ac (ag 1 (Gt hK h)))
  ·exact ai 31 h3 (ag 2 (Gt hK h))
end
noncomputable section
variable(M:Nat→Prop)(w0:aH)(r:aP)(v1:aJ)(v2 v3:Int)(v4:aP)(v7 v8 v9:Int)(v10 v11:(Int×Bool))(v12:Bool)(v13:V4 Int)  
abbrev vJ(n:Nat):av:=.c (cat Tryz.f130 (pn n))
abbrev Ow:Cx:=⟨Tryz.prog,89,M,w0⟩
abbrev Wk:=bodyPost Tryz.prog Tryz.f130 (bq M w0 (fun v _=>v=.agg (bg r)))
abbrev yQ(ks:List av)(s:AS):=VE (Ow M w0) (Wk M w0 r) ks .normal s
def Sv:AS:=⟨[(4,.ptr 4 0),(5,.ptr 5 0)],[(4,bg dr),(5,bg ({ v4 with Margin:=v13,Content:=v8 }:aP))],[],[4,5]⟩
def U4:AS:=⟨[(4,.ptr 4 0),(5,.ptr 5 0),(8,iI (ab (v3-v9))),(10,.bool v10.2),(12,.bool v11.2),(59,.bool v12)],[(4,bg dr),(5,bg ({ v4 with Content:=v8 }:aP))],[],[4,5]⟩
def Lg:AS:=⟨[(1,iI v3),(2,.ptr 2 0),(4,.ptr 4 0),(5,.ptr 5 0),(6,iI v7)],[(2,aE v1),(4,bg dr),(5,bg v4)],[],[2,4,5]⟩
variable{M w0 r v1 v2 v3 v4 v7 v8 v9 v10 v11 v12 v13}{K:Kn}{n:Nat}
theorem w5(hK:aq K)(h:jW K n v4 v8 v13=some r):yQ M w0 r [.b 0,vJ 4095] (Sv v4 v8 v13):=by
 unfold jW at h;refine aG 4 ?_;cases h;exact aU
theorem Ie(hK:aq K)(h:oM K n v3 v4 v8 v9 v10 v11 v12=some r):yQ M w0 r [vJ 16377,.b 0,vJ 4095] (U4 v3 v4 v8 v9 v10 v11 v12):=by
 unfold oM at h;obtain⟨h12,h⟩|⟨h12,h⟩:=am h
 ·exact ai 59 h12 (ag 4 (w5 hK h))
 ·refine ai 59 h12 (bd 7 3 ?_);obtain⟨h13,h⟩|⟨h13,h⟩:=am h
  ·exact ai 76 h13 (ag 2 (w5 hK h))
  ·refine ai 76 h13 (bd 7 3 ?_);obtain⟨h14,h⟩|⟨h14,h⟩:=am h
   ·exact ai 82 h14 (ag 2 (w5 hK h))
   ·exact ai 82 h14 (ag 2 (w5 hK h))
theorem FG(hK:aq K)(h:n3 K n v1 v3 v4 v7=some r):yQ M w0 r [vJ 63] (Lg v1 v3 v4 v7):=by
 unfold n3 at h;refine aw 2 3 1 (ak 3 ?_);obtain⟨v8,h6,h⟩:=bind_some h;refine aB (t6 hK h6) (ac (aw 2 3 1 (ak 2 ?_)));obtain⟨v9,h7,h⟩:=bind_some h;refine aB (sA hK h7) (ac (aw 2 3 1 (ak 4 ?_)));obtain⟨v10,h8,h⟩:=bind_some h;refine aB (eO hK h8) (ac (aw 2 3 1 (ak 4 ?_)));obtain⟨v11,h9,h⟩:=bind_some h;refine aB (eO hK h9) (ac (aw 5 3 3 ?_));obtain⟨h10,h⟩|⟨h10,h⟩:=am h
 ·refine ai 57 h10 (aG 5 ?_);cases h;exact aU
 ·refine ai 57 h10 (cN 8 9 0 3 5 (ak 3 ?_));obtain⟨h11,h⟩|⟨h11,h⟩:=am h
  ·exact ay 62 h11 (ac (ag 0 (Ie hK h)))
  ·exact ay 62 h11 (ac (ag 0 (Ie hK h)))
theorem Wi(hK:aq K)(h:qA K n v1 v2=some r):aN Tryz.prog 130 [.agg (aE v1),iI v2] (fun v _=>v=.agg (bg r)):=by
 refine bc (cat Tryz.f130 (pn 1)) Tryz.func130 Tryz.ntmps130 fun M w0=>(aZ ⟨[(0,.agg (aE v1)),(1,iI v2)],[],[],[]⟩ ?_);unfold qA at h;refine aw 6 7 3 (ak 1 ?_);obtain⟨v3,h1,h⟩:=bind_some h;refine aB (gj hK h1) (ac (aw 2 3 1 (ak 2 ?_)));obtain⟨v4,h2,h⟩:=bind_some h;refine aB (w3 hK h2) (ac (aw 2 3 1 (ak 3 ?_)));obtain⟨v5,h3,h⟩:=bind_some h;refine aB (eO hK h3) (ac (aw 5 3 3 ?_));obtain⟨h4,h⟩|⟨h4,h⟩:=am h
 ·refine ai 26 h4 (bd 2 1 (ak 2 ?_));obtain⟨v6,h5,h⟩:=bind_some h;exact aB (sA hK h5) (ac (ag 0 (FG hK h)))
 ·exact ai 26 h4 (ag 2 (FG hK h))
end
noncomputable section
variable(M:Nat→Prop)(w0:aH)(r:ae)(v1:aj)(v2:Int)  
variable{M w0 r v1 v2}{K:Kn}{n:Nat}
theorem Wz(hK:aq K)(h:eP K n v1 v2=some r):aN Tryz.prog 121 [.agg (aV v1),iI v2] (fun v _=>v=.agg (aF r)):=by
 refine bc (cat Tryz.f121 (pn 1)) Tryz.func121 Tryz.ntmps121 fun M w0=>(aZ ⟨[(0,.agg (aV v1)),(1,iI v2)],[],[],[]⟩ ?_);unfold eP at h;refine aw 6 7 3 (bJ [1,2,4] [2,4] [] ?_);obtain⟨v3,h1,h⟩:=bind_some h;obtain⟨v4,h2,h⟩:=bind_some h;refine bD 1 (nu 5 [.agg (aV v1),.ptr 2 2,.agg (aE v1.Style),iI v2,.agg (bg v3),.agg (aF v4)]) [] [] [bT Tryz.prog 11 Tryz.f121 (pn 6) 6] (ao (vz 4) (aa (bL 0 1 9 (Wi hK h1)) (aa (bL 0 1 10 (hK.lv h2)) (aa (bU 0) bE)))) (aG 1 ?_);cases h;exact aU
end
noncomputable section
variable(M:Nat→Prop)(w0:aH)(r:au)(v1 v2:au)  
variable{M w0 r v1 v2}{K:Kn}{n:Nat}
theorem rR(hK:aq K)(h:gy K n v1 v2=some r):aN Tryz.prog 124 [.agg (bI v1),.agg (bI v2)] (fun v _=>v=.agg (bI r)):=by
 refine bc (cat Tryz.f124 (pn 1)) Tryz.func124 Tryz.ntmps124 fun M w0=>(aZ ⟨[(0,.agg (bI v1)),(1,.agg (bI v2))],[],[],[]⟩ ?_);unfold gy at h;refine aG 5 ?_;cases h;exact aU
end
noncomputable section
variable(M:Nat→Prop)(w0:aH)(r:cg)(v1:List ae)(v16 v17:Int)(v18:au)(v19:Bool)(v20:au)(v21:List ae)(v22:au)(v24:Int)(v25:au)(v26:Int)(v27:au)(v28:Bool)(v29 v30:au)(m1:Nat)(L1:Int→Int→au→Bool→au→(List ae)→Option cg)
abbrev yx:Cx:=⟨Tryz.prog,62,M,w0⟩
abbrev yL:=bodyPost Tryz.prog Tryz.f122 (bq M w0 (fun v s=>v=.agg (List.set (dc ({ r with List:=[] }:cg)) 0 (.ref 53))∧look 53 s.r=some ⟨59,67,lm aC r.List⟩))
abbrev sP(ks:List av)(s:AS):=VE (yx M w0) (yL M w0 r) ks .normal s
abbrev jc(n:Nat):av:=.c (cat Tryz.f122 (pn n))
abbrev xV:List av:=[.b 0,jc 31]
abbrev wg:List av:=kl (yx M w0) (yL M w0 r) xV (cat Tryz.f122 (pn 244)) m1::xV
def Vt:AS:=⟨[(0,.sl (lm aC v1)),(2,.ptr 2 0),(3,.ptr 3 0),(4,.ptr 4 0),(5,iI v16),(6,.ptr 6 0)],[(2,List.set (dc nQ) 0 (.nils)),(3,List.set (dc (⟨[],v26,v27,cp,v28⟩:cg)) 0 (.ref 53)),(4,bI v29),(6,aF ({ (gD v1 v16)with Y:=v24 }:ae))],[(53,⟨59,67,lm aC v21⟩)],[2,3,4,6,53]⟩
def JF:AS:=⟨[(0,.sl (lm aC v1)),(2,.ptr 2 0),(3,.ptr 3 0),(4,.ptr 4 0),(5,iI v16),(6,.ptr 6 0)],[(2,List.set (dc nQ) 0 (.nils)),(3,List.set (dc (⟨[],v17,v25,cp,v19⟩:cg)) 0 (.ref 53)),(4,bI v22),(6,aF ({ (gD v1 v16)with Y:=v24 }:ae))],[(53,⟨59,67,lm aC v21⟩)],[2,3,4,6,53]⟩
def VO:AS:=⟨[(0,.sl (lm aC v1)),(2,.ptr 2 0),(3,.ptr 3 0),(4,.ptr 4 0),(5,iI v16),(6,.ptr 6 0)],[(2,List.set (dc nQ) 0 (.nils)),(3,List.set (dc (⟨[],v17,v18,cp,v19⟩:cg)) 0 (.ref 53)),(4,bI v22),(6,aF ({ (gD v1 v16)with Y:=v24 }:ae))],[(53,⟨59,67,lm aC v21⟩)],[2,3,4,6,53]⟩
def Mu:AS:=⟨[(2,.ptr 2 0),(3,.ptr 3 0),(4,.ptr 4 0)],[(2,List.set (dc nQ) 0 (.nils)),(3,List.set (dc (⟨[],v17,v30,cp,v19⟩:cg)) 0 (.ref 53)),(4,bI v20)],[(53,⟨59,67,lm aC v21⟩)],[2,3,4,53]⟩
def IT:AS:=⟨[(0,.sl (lm aC v1)),(2,.ptr 2 0),(3,.ptr 3 0),(4,.ptr 4 0),(5,iI v16)],[(2,List.set (dc nQ) 0 (.nils)),(3,List.set (dc (⟨[],v17,v18,cp,v19⟩:cg)) 0 (.ref 53)),(4,bI v20)],[(53,⟨59,67,lm aC v21⟩)],[2,3,4,53]⟩
abbrev tn:Prop:=∀{v16:Int} {v17:Int} {v18:au} {v19:Bool} {v20:au} {v21:(List ae)},L1 v16 v17 v18 v19 v20 v21=some r→LP (yx M w0) (yL M w0 r) xV (cat Tryz.f122 (pn 244)) m1 (IT v1 v16 v17 v18 v19 v20 v21)
variable{M w0 r v1 v16 v17 v18 v19 v20 v21 v22 v24 v25 v26 v27 v28 v29 v30 m1 L1}{K:Kn}{n:Nat}
theorem Je(hK:aq K)(hL1:tn M w0 r v1 m1 L1)(h:lN K n v1 v16 v21 v24 L1 v26 v27 v28 v29=some r):sP M w0 r (jc 62623 :: .b 1::jc 979::wg M w0 r m1) (Vt v1 v16 v21 v24 v26 v27 v28 v29):=by
 unfold lN at h;refine ak 3 (aA (eV aC ([({ (gD v1 v16)with Y:=v24 }:ae)]:List ae) (new:=[aF ({ (gD v1 v16)with Y:=v24 }:ae)]) (by simp only[List.map_cons,List.map_nil,cQ])) ?_);obtain⟨h22,h⟩:=aS h;exact aA (cy 53 53 59 67 aC (rfl) (dP) h22) (ac (ag 2 (bu (hL1 h))))
theorem E2(hK:aq K)(hL1:tn M w0 r v1 m1 L1)(h:mg K n v1 v16 v17 v19 v21 v22 v24 L1 v25=some r):sP M w0 r (jc 500981::jc 62623 :: .b 1::jc 979::wg M w0 r m1) (JF v1 v16 v17 v19 v21 v22 v24 v25):=by
 unfold mg at h;exact ag 5 (Je hK hL1 h)
theorem H1(hK:aq K)(hL1:tn M w0 r v1 m1 L1)(h:lx K n v1 v16 v17 v18 v19 v21 v22 L1 v24=some r):sP M w0 r (jc 31311 :: .b 1::jc 979::wg M w0 r m1) (VO v1 v16 v17 v18 v19 v21 v22 v24):=by
 unfold lx at h;refine aw 5 3 3 ?_;obtain⟨h20,h⟩|⟨h20,h⟩:=am h
 ·refine ai 35 h20 (aw 9 5 4 ?_);obtain⟨h21,h⟩|⟨h21,h⟩:=am h
  ·exact ai 37 h21 (ag 2 (E2 hK hL1 h))
  ·exact ai 37 h21 (ag 2 (E2 hK hL1 h))
 ·exact ai 35 h20 (ag 2 (Je hK hL1 h))
theorem Ew(hK:aq K)(h:kV K n v17 v19 v20 v21 v30=some r):sP M w0 r [jc 63] (Mu v17 v19 v20 v21 v30):=by
 unfold kV at h;refine aG 5 ?_;cases h;exact eg
theorem Kx(hK:aq K)(hL1:tn M w0 r v1 m1 L1)(h:mn K n v1 L1 v16 v17 v18 v19 v20 v21=some r):sP M w0 r (jc 244::wg M w0 r m1) (IT v1 v16 v17 v18 v19 v20 v21):=by
 unfold mn at h;refine bP 4 5 3 2 (ak 2 (aA (bz aC v1) (ac ?_)));obtain⟨h15,h⟩|⟨h15,h⟩:=am h
 ·refine ai 12 h15 (cN 8 9 1 3 5 (ak 2 ?_));obtain⟨h16,h⟩:=aS h;refine aA (bM aC aF h16 (dP) (cQ)) (ac (aw 2 3 1 (ak 3 ?_)));obtain⟨v22,h17,h⟩:=bind_some h;refine aB (rR hK h17) (ac (aw 13 7 5 ?_));obtain⟨h18,h⟩|⟨h18,h⟩:=am h
  ·refine ai 26 h18 (bd 2 1 (bJ [0,2,3,4,5,6] [2,3,4,6] [53] ?_));obtain⟨v23,h19,h⟩:=bind_some h;exact bD 1 (nu 27 [.ptr 3 1,iI v17,.agg (bI v22),iI v23,iI (ab (v17+v23)),.ptr 6 3]) [] [] [bT Tryz.prog 62 Tryz.f122 (pn 125242) 6] (ao (vz 3) (aa (bL 0 1 30 (ra hK h19)) (ao (vz 2) (aa (bU 0) bE)))) (ag 0 (H1 hK hL1 h))
  ·exact ai 26 h18 (ag 2 (H1 hK hL1 h))
 ·refine ai 12 h15 (mI 5 3 8 ?_);obtain⟨h23,h⟩|⟨h23,h⟩:=am h
  ·exact ai 56 h23 (ag 2 (Ew hK h))
  ·exact ai 56 h23 (ag 2 (Ew hK h))
theorem Uk(hK:aq K)(m:Nat):tn M w0 r v1 m (lU K n v1 m):=by
 induction m with
 | zero=>intro v16 v17 v18 v19 v20 v21 h;cases h
 | succ m ih=>intro v16 v17 v18 v19 v20 v21 h;have h:mn K n v1 (lU K n v1 m) v16 v17 v18 v19 v20 v21=some r:=h;exact br (Kx hK ih h)
theorem VJ(hK:aq K)(h:kT K n v1=some r):aN Tryz.prog 122 [.sl (lm aC v1)] (fun v s=>v=.agg (List.set (dc ({ r with List:=[] }:cg)) 0 (.ref 53))∧look 53 s.r=some ⟨59,67,lm aC r.List⟩):=by
 refine bc (cat Tryz.f122 (pn 1)) Tryz.func122 Tryz.ntmps122 fun M w0=>(aZ ⟨[(0,.sl (lm aC v1))],[],[],[]⟩ ?_);unfold kT at h;exact fp 122 0 31 10 (bJ [0,2,3,4,5] [2,3,4] [] (wu 53 3 0 59 67 (ag 0 (cm (p:=pn 122) n (Uk hK n h)))))
end
noncomputable section
variable(M:Nat→Prop)(w0:aH)(r:au)(v1:Int)  
variable{M w0 r v1}{K:Kn}{n:Nat}
theorem G4(hK:aq K)(h:me K n v1=some r):aN Tryz.prog 123 [iI v1] (fun v _=>v=.agg (bI r)):=by
 refine bc (cat Tryz.f123 (pn 1)) Tryz.func123 Tryz.ntmps123 fun M w0=>(aZ ⟨[(0,iI v1)],[],[],[]⟩ ?_);unfold me at h;refine aG 5 ?_;cases h;exact aU
end
noncomputable section
variable(M:Nat→Prop)(w0:aH)(r:ae)(v1:aj)(v2:aP)(v3:Bool)(v4:Int)(v5:Bool)(v6:List aj)(v9:Int)(v10:List ae)(v14:Int)(v15 v16:au)(v17:Bool)(v18:List ae)(v19:Int×Bool)(v20 v21 v22:Bool)(v23 v24:au)(v26:Bool)(v28:Int)(v29:au)(v30 v33:Bool)(v36:Int)(v37 v38:au)(v39:Bool)(v40 v59 v60:Int)(v61:List ae)(v65:ae)(m1 m2:Nat)(L1:Int→(List ae)→Option ae)(L2:Int→Int→(List ae)→Option ae)
abbrev tv:Cx:=⟨Tryz.prog,281,M,w0⟩
abbrev sg:=bodyPost Tryz.prog Tryz.f107 (bq M w0 (fun v s=>v=.agg (List.set (aF ({ r with Kids:=[] }:ae)) 66 (.ref 278))∧look 278 s.r=some ⟨59,67,lm aC r.Kids⟩))
abbrev gi(ks:List av)(s:AS):=VE (tv M w0) (sg M w0 r) ks .normal s
abbrev c7(n:Nat):av:=.c (cat Tryz.f107 (pn n))
abbrev Bu:List av:=[.b 3,c7 33554431]
abbrev xZ:List av:=kl (tv M w0) (sg M w0 r) Bu (cat Tryz.f107 (pn 268435444)) m2::Bu
abbrev y0:List av:=[.b 0,c7 8171,c7 511]
abbrev J4:List av:=kl (tv M w0) (sg M w0 r) y0 (cat Tryz.f107 (pn 65364)) m1::y0
def Q2:AS:=⟨[(4,.ptr 4 0),(6,.ptr 6 0),(8,.ptr 8 0),(9,.bool v5),(11,.ptr 11 0),(22,iI v28),(24,iI v59),(25,.ptr 25 0)],[(4,bg v2),(6,List.set (aF bp) 66 (.nils)),(8,List.set (aF (⟨1,v1.Node,v2.Margin.a3,0,v4,v60,0,⟨#[]⟩,v1.Style,v37,v38,v39,[]⟩:ae)) 66 (.ref 278)),(11,List.set (dc (⟨[],v14,v15,v16,v17⟩:cg)) 0 (.ref 1077)),(25,aF v65)],[(278,⟨59,67,lm aC v61⟩),(1077,⟨59,67,lm aC v18⟩)],[4,6,8,11,25,278,1077]⟩
def H9:AS:=⟨[(4,.ptr 4 0),(6,.ptr 6 0),(8,.ptr 8 0),(9,.bool v5),(11,.ptr 11 0),(22,iI v28),(24,iI v59)],[(4,bg v2),(6,List.set (aF bp) 66 (.nils)),(8,List.set (aF (⟨1,v1.Node,v2.Margin.a3,0,v4,v60,0,⟨#[]⟩,v1.Style,v37,v38,v39,[]⟩:ae)) 66 (.ref 278)),(11,List.set (dc (⟨[],v14,v15,v16,v17⟩:cg)) 0 (.ref 1077))],[(278,⟨59,67,lm aC v61⟩),(1077,⟨59,67,lm aC v18⟩)],[4,6,8,11,278,1077]⟩
def NV:AS:=⟨[(4,.ptr 4 0),(6,.ptr 6 0),(8,.ptr 8 0),(9,.bool v5),(11,.ptr 11 0),(22,iI v28),(23,iI v40)],[(4,bg v2),(6,List.set (aF bp) 66 (.nils)),(8,List.set (aF (⟨1,v1.Node,v2.Margin.a3,0,v4,0,0,⟨#[]⟩,v1.Style,v37,v38,v39,[]⟩:ae)) 66 (.nils)),(11,List.set (dc (⟨[],v14,v15,v16,v17⟩:cg)) 0 (.ref 1077))],[(1077,⟨59,67,lm aC v18⟩)],[4,6,8,11,1077]⟩
def Kq:AS:=⟨[(4,.ptr 4 0),(6,.ptr 6 0),(8,.ptr 8 0),(9,.bool v5),(11,.ptr 11 0),(16,iI v19.1),(17,.bool v19.2),(22,iI v28),(23,iI v36)],[(4,bg v2),(6,List.set (aF bp) 66 (.nils)),(8,List.set (aF (⟨1,v1.Node,v2.Margin.a3,0,v4,0,0,⟨#[]⟩,v1.Style,v37,v38,v39,[]⟩:ae)) 66 (.nils)),(11,List.set (dc (⟨[],v14,v15,v16,v17⟩:cg)) 0 (.ref 1077))],[(1077,⟨59,67,lm aC v18⟩)],[4,6,8,11,1077]⟩
def Oi:AS:=⟨[(4,.ptr 4 0),(6,.ptr 6 0),(8,.ptr 8 0),(9,.bool v5),(11,.ptr 11 0),(16,iI v19.1),(17,.bool v19.2),(18,.bool v21),(19,.bool v22),(21,.ptr 21 0),(22,iI v28),(23,iI 0),(186,.bool v33)],[(4,bg v2),(6,List.set (aF bp) 66 (.nils)),(8,List.set (aF (⟨1,v1.Node,v2.Margin.a3,0,v4,0,0,⟨#[]⟩,v1.Style,v29,v24,false,[]⟩:ae)) 66 (.nils)),(11,List.set (dc (⟨[],v14,v15,v16,v17⟩:cg)) 0 (.ref 1077)),(21,bI v24)],[(1077,⟨59,67,lm aC v18⟩)],[4,6,8,11,21,1077]⟩
def Nu:AS:=⟨[(4,.ptr 4 0),(6,.ptr 6 0),(8,.ptr 8 0),(9,.bool v5),(11,.ptr 11 0),(16,iI v19.1),(17,.bool v19.2),(18,.bool v21),(19,.bool v22),(21,.ptr 21 0),(22,iI v28),(23,iI 0),(158,.bool v30)],[(4,bg v2),(6,List.set (aF bp) 66 (.nils)),(8,List.set (aF (⟨1,v1.Node,v2.Margin.a3,0,v4,0,0,⟨#[]⟩,v1.Style,v29,v24,false,[]⟩:ae)) 66 (.nils)),(11,List.set (dc (⟨[],v14,v15,v16,v17⟩:cg)) 0 (.ref 1077)),(21,bI v24)],[(1077,⟨59,67,lm aC v18⟩)],[4,6,8,11,21,1077]⟩
def RQ:AS:=⟨[(4,.ptr 4 0),(6,.ptr 6 0),(8,.ptr 8 0),(9,.bool v5),(11,.ptr 11 0),(16,iI v19.1),(17,.bool v19.2),(18,.bool v21),(19,.bool v22),(21,.ptr 21 0),(22,iI v28),(23,iI 0)],[(4,bg v2),(6,List.set (aF bp) 66 (.nils)),(8,List.set (aF (⟨1,v1.Node,v2.Margin.a3,0,v4,0,0,⟨#[]⟩,v1.Style,v29,v24,false,[]⟩:ae)) 66 (.nils)),(11,List.set (dc (⟨[],v14,v15,v16,v17⟩:cg)) 0 (.ref 1077)),(21,bI v24)],[(1077,⟨59,67,lm aC v18⟩)],[4,6,8,11,21,1077]⟩
def SD:AS:=⟨[(4,.ptr 4 0),(6,.ptr 6 0),(8,.ptr 8 0),(9,.bool v5),(11,.ptr 11 0),(16,iI v19.1),(17,.bool v19.2),(18,.bool v21),(19,.bool v22),(21,.ptr 21 0),(22,iI 0),(23,iI 0),(154,.bool v26)],[(4,bg v2),(6,List.set (aF bp) 66 (.nils)),(8,List.set (aF (⟨1,v1.Node,v2.Margin.a3,0,v4,0,0,⟨#[]⟩,v1.Style,v23,v24,false,[]⟩:ae)) 66 (.nils)),(11,List.set (dc (⟨[],v14,v15,v16,v17⟩:cg)) 0 (.ref 1077)),(21,bI v24)],[(1077,⟨59,67,lm aC v18⟩)],[4,6,8,11,21,1077]⟩
def LY:AS:=⟨[(4,.ptr 4 0),(6,.ptr 6 0),(8,.ptr 8 0),(9,.bool v5),(11,.ptr 11 0),(16,iI v19.1),(17,.bool v19.2),(18,.bool v21),(19,.bool v22)],[(4,bg v2),(6,List.set (aF bp) 66 (.nils)),(8,List.set (aF ({ bp with Kind:=1,Node:=v1.Node,X:=v2.Margin.a3,W:=v4,Style:=v1.Style }:ae)) 66 (.nils)),(11,List.set (dc (⟨[],v14,v15,v16,v17⟩:cg)) 0 (.ref 1077))],[(1077,⟨59,67,lm aC v18⟩)],[4,6,8,11,1077]⟩
def Qx:AS:=⟨[(2,.bool v20),(4,.ptr 4 0),(6,.ptr 6 0),(8,.ptr 8 0),(9,.bool v5),(11,.ptr 11 0),(16,iI v19.1),(17,.bool v19.2),(18,.bool v21)],[(4,bg v2),(6,List.set (aF bp) 66 (.nils)),(8,List.set (aF ({ bp with Kind:=1,Node:=v1.Node,X:=v2.Margin.a3,W:=v4,Style:=v1.Style }:ae)) 66 (.nils)),(11,List.set (dc (⟨[],v14,v15,v16,v17⟩:cg)) 0 (.ref 1077))],[(1077,⟨59,67,lm aC v18⟩)],[4,6,8,11,1077]⟩
def PX:AS:=⟨[(2,.bool v20),(4,.ptr 4 0),(6,.ptr 6 0),(8,.ptr 8 0),(9,.bool v5),(11,.ptr 11 0),(16,iI v19.1),(17,.bool v19.2)],[(4,bg v2),(6,List.set (aF bp) 66 (.nils)),(8,List.set (aF ({ bp with Kind:=1,Node:=v1.Node,X:=v2.Margin.a3,W:=v4,Style:=v1.Style }:ae)) 66 (.nils)),(11,List.set (dc (⟨[],v14,v15,v16,v17⟩:cg)) 0 (.ref 1077))],[(1077,⟨59,67,lm aC v18⟩)],[4,6,8,11,1077]⟩
def KP:AS:=⟨[(2,.bool v3),(4,.ptr 4 0),(6,.ptr 6 0),(7,.ptr 7 0),(8,.ptr 8 0),(9,.bool v5),(11,.ptr 11 0)],[(4,bg v2),(6,List.set (aF bp) 66 (.nils)),(7,aE v1.Style),(8,List.set (aF ({ bp with Kind:=1,Node:=v1.Node,X:=v2.Margin.a3,W:=v4,Style:=v1.Style }:ae)) 66 (.nils)),(11,List.set (dc (⟨[],v14,v15,v16,v17⟩:cg)) 0 (.ref 1077))],[(1077,⟨59,67,lm aC v18⟩)],[4,6,7,8,11,1077]⟩
def HE:AS:=⟨[(2,.bool v3),(4,.ptr 4 0),(6,.ptr 6 0),(7,.ptr 7 0),(8,.ptr 8 0),(9,.bool v5),(10,.ref 1057),(11,.ptr 11 0),(12,.ref 75),(13,iI v9)],[(4,bg v2),(6,List.set (aF bp) 66 (.nils)),(7,aE v1.Style),(8,List.set (aF ({ bp with Kind:=1,Node:=v1.Node,X:=v2.Margin.a3,W:=v4,Style:=v1.Style }:ae)) 66 (.nils)),(11,List.set (dc nQ) 0 (.nils))],[(75,⟨59,67,lm aC v10⟩),(1057,⟨52,59,lm aO v6⟩)],[4,6,7,8,11,75,1057]⟩
abbrev E4:Prop:=∀{v9:Int} {v10:(List ae)},L1 v9 v10=some r→LP (tv M w0) (sg M w0 r) y0 (cat Tryz.f107 (pn 65364)) m1 (HE v1 v2 v3 v4 v5 v6 v9 v10)
abbrev yr:Prop:=∀{v59:Int} {v60:Int} {v61:(List ae)},L2 v59 v60 v61=some r→LP (tv M w0) (sg M w0 r) Bu (cat Tryz.f107 (pn 268435444)) m2 (H9 v1 v2 v4 v5 v14 v15 v16 v17 v18 v28 v37 v38 v39 v59 v60 v61)
variable{M w0 r v1 v2 v3 v4 v5 v6 v9 v10 v14 v15 v16 v17 v18 v19 v20 v21 v22 v23 v24 v26 v28 v29 v30 v33 v36 v37 v38 v39 v40 v59 v60 v61 v65 m1 m2 L1 L2}{K:Kn}{n:Nat}
theorem IU(hK:aq K)(hL2:yr M w0 r v1 v2 v4 v5 v14 v15 v16 v17 v18 v28 v37 v38 v39 m2 L2)(h:lA K n v1 v2 v4 v5 v14 v15 v16 v17 v18 v28 v37 v38 v39 v59 v60 v61 L2 v65=some r):gi M w0 r (c7 34359736911 :: .b 4::c7 1073741779::xZ M w0 r m2) (Q2 v1 v2 v4 v5 v14 v15 v16 v17 v18 v28 v37 v38 v39 v59 v60 v61 v65):=by
 unfold lA at h;refine ak 3 (aA (eV aC ([v65]:List ae) (new:=[aF v65]) (by simp only[List.map_cons,List.map_nil,cQ])) ?_);obtain⟨h73,h⟩:=aS h;exact aA (cy 278 278 59 67 aC (rfl) (dP) h73) (ac (ag 2 (bu (hL2 h))))
theorem My(hK:aq K)(hL2:yr M w0 r v1 v2 v4 v5 v14 v15 v16 v17 v18 v28 v37 v38 v39 m2 L2)(h:mA K n v1 v2 v4 v5 v14 v15 v16 v17 v18 v28 v37 v38 v39 L2 v59 v60 v61=some r):gi M w0 r (c7 268435444::xZ M w0 r m2) (H9 v1 v2 v4 v5 v14 v15 v16 v17 v18 v28 v37 v38 v39 v59 v60 v61):=by
 unfold mA at h;refine bP 4 5 3 2 (ak 3 (aA (bz aC v18) (ac ?_)));obtain⟨h67,h⟩|⟨h67,h⟩:=am h
 ·refine ai 237 h67 (cN 8 9 4 3 5 (ak 3 ?_));obtain⟨h68,h⟩:=aS h;refine aA (c9 1077 67 aC h68) (aA (ci 59 0 aC aF (ca h68).2 (cQ)) (ac ?_));obtain⟨v62,h69,h⟩:=bW h;obtain⟨v63,h70,h⟩:=bW h;refine bB (ks':=c7 68719473821::c7 34359736911 :: .b 4::c7 1073741779::xZ M w0 r m2) 7 ⟨[(4,.ptr 4 0),(6,.ptr 6 0),(8,.ptr 8 0),(9,.bool v5),(11,.ptr 11 0),(22,iI v28),(24,iI v59),(25,.ptr 25 0),(269,.bool v5)],[(4,bg v2),(6,List.set (aF bp) 66 (.nils)),(8,List.set (aF (⟨1,v1.Node,v2.Margin.a3,0,v4,v60,0,⟨#[]⟩,v1.Style,v37,v38,v39,[]⟩:ae)) 66 (.ref 278)),(11,List.set (dc (⟨[],v14,v15,v16,v17⟩:cg)) 0 (.ref 1077)),(25,aF ({ (gD v18 v59)with X:=v62,Y:=v63 }:ae))],[(278,⟨59,67,lm aC v61⟩),(1077,⟨59,67,lm aC v18⟩)],[4,6,8,11,25,278,1077]⟩ ?_ (by subst h70;subst h69;kernel_rfl);obtain⟨h71,h⟩|⟨h71,h⟩:=am h
  ·refine ai 269 h71 (bd 2 1 (ak 3 ?_));obtain⟨v64,h72,h⟩:=bind_some h;exact aB (E7 hK h72) (ac (ag 0 (IU hK hL2 h)))
  ·exact ai 269 h71 (ag 2 (IU hK hL2 h))
 ·refine ai 237 h67 (aG 8 ?_);cases h;exact eg
theorem K3(hK:aq K)(m:Nat):yr M w0 r v1 v2 v4 v5 v14 v15 v16 v17 v18 v28 v37 v38 v39 m (l4 K n v1 v2 v4 v5 v14 v15 v16 v17 v18 v28 v37 v38 v39 m):=by
 induction m with
 | zero=>intro v59 v60 v61 h;cases h
 | succ m ih=>intro v59 v60 v61 h;have h:mA K n v1 v2 v4 v5 v14 v15 v16 v17 v18 v28 v37 v38 v39 (l4 K n v1 v2 v4 v5 v14 v15 v16 v17 v18 v28 v37 v38 v39 m) v59 v60 v61=some r:=h;exact br (My hK ih h)
theorem Fm(hK:aq K)(h:jx K n v1 v2 v4 v5 v14 v15 v16 v17 v18 v28 v37 v38 v39 v40=some r):gi M w0 r [c7 8388607] (NV v1 v2 v4 v5 v14 v15 v16 v17 v18 v28 v37 v38 v39 v40):=by
 unfold jx at h;exact fp 26 3 7 6 (bJ [4,6,8,9,11,22,24] [4,6,8,11] [1077] (wu 278 8 66 59 67 (ag 0 (cm (p:=pn 134217722) n (K3 hK n h)))))
theorem qv(hK:aq K)(h:fV K n v1 v2 v4 v5 v14 v15 v16 v17 v18 v19 v28 v36 v37 v38 v39=some r):gi M w0 r [.b 2,c7 2097151] (Kq v1 v2 v4 v5 v14 v15 v16 v17 v18 v19 v28 v36 v37 v38 v39):=by
 unfold fV at h;refine dJ 13 7 6 ?_;obtain⟨h42,h⟩|⟨h42,h⟩:=am h
 ·exact ai 213 h42 (ag 2 (Fm hK h))
 ·exact ai 213 h42 (ag 2 (Fm hK h))
theorem FS(hK:aq K)(h:mw K n v1 v2 v4 v5 v14 v15 v16 v17 v18 v19 v21 v22 v24 v28 v29 v33=some r):gi M w0 r [c7 134217631,.b 2,c7 2097151] (Oi v1 v2 v4 v5 v14 v15 v16 v17 v18 v19 v21 v22 v24 v28 v29 v33):=by
 unfold mw at h;obtain⟨h37,h⟩|⟨h37,h⟩:=am h
 ·refine ai 186 h37 (aw 4 5 2 (ak 3 ?_));obtain⟨v34,h38,h⟩:=bind_some h;exact aB (rR hK h38) (ac (ag 3 (qv hK h)))
 ·refine ai 186 h37 (bd 7 3 ?_);obtain⟨h39,h⟩|⟨h39,h⟩:=am h
  ·refine ai 200 h39 (bd 2 1 (ak 3 ?_));obtain⟨v35,h40,h⟩:=bind_some h;exact aB (rR hK h40) (ac (ag 0 (qv hK h)))
  ·refine ai 200 h39 (bd 7 3 ?_);obtain⟨h41,h⟩|⟨h41,h⟩:=am h
   ·exact ai 207 h41 (ag 2 (qv hK h))
   ·exact ai 207 h41 (ag 2 (qv hK h))
theorem En(hK:aq K)(h:kL K n v1 v2 v4 v5 v14 v15 v16 v17 v18 v19 v21 v22 v24 v28 v29 v30=some r):gi M w0 r [c7 8388601,.b 2,c7 2097151] (Nu v1 v2 v4 v5 v14 v15 v16 v17 v18 v19 v21 v22 v24 v28 v29 v30):=by
 unfold kL at h;obtain⟨h32,h⟩|⟨h32,h⟩:=am h
 ·refine ai 158 h32 (aw 4 5 2 (ak 3 ?_));obtain⟨v31,h33,h⟩:=bind_some h;exact aB (rR hK h33) (ac (ag 1 (qv hK h)))
 ·refine ai 158 h32 (bd 7 3 ?_);obtain⟨h34,h⟩|⟨h34,h⟩:=am h
  ·refine ai 174 h34 (bd 2 1 (bJ [4,6,8,9,11,16,17,22] [4,6,8,11] [1077] ?_));obtain⟨v32,h35,h⟩:=bind_some h;exact bD 1 (nu 178 [iI v28,.ptr 11 1,iI v14,iI (ab (v28+v14)),.ptr 11 4,.agg (bI v16),iI v32,iI (ab ((ab (v28+v14))+v32))]) [] [] [bT Tryz.prog 281 Tryz.f107 (pn 67108814) 8] (ao (vz 6) (aa (bL 0 1 184 (ra hK h35)) (ao [.v 0 1] (aa (bU 0) bE)))) (ag 0 (qv hK h))
  ·refine ai 174 h34 (aw 6 7 2 (ak 2 ?_));obtain⟨h36,h⟩|⟨h36,h⟩:=am h
   ·exact ay 188 h36 (ac (ag 0 (FS hK h)))
   ·exact ay 188 h36 (ac (ag 0 (FS hK h)))
theorem yH(hK:aq K)(h:jF K n v1 v2 v4 v5 v14 v15 v16 v17 v18 v19 v21 v22 v24 v28 v29=some r):gi M w0 r [c7 1048575] (RQ v1 v2 v4 v5 v14 v15 v16 v17 v18 v19 v21 v22 v24 v28 v29):=by
 unfold jF at h;refine cZ 8 9 2 3 3 (ak 4 ?_);obtain⟨h31,h⟩|⟨h31,h⟩:=am h
 ·exact ay 162 h31 (ac (ag 0 (En hK h)))
 ·exact ay 162 h31 (ac (ag 0 (En hK h)))
theorem ES(hK:aq K)(h:lH K n v1 v2 v4 v5 v14 v15 v16 v17 v18 v19 v21 v22 v23 v24 v26=some r):gi M w0 r [c7 8388599,c7 1048575] (SD v1 v2 v4 v5 v14 v15 v16 v17 v18 v19 v21 v22 v23 v24 v26):=by
 unfold lH at h;obtain⟨h29,h⟩|⟨h29,h⟩:=am h
 ·refine ai 154 h29 (bd 2 1 (ak 2 ?_));obtain⟨v27,h30,h⟩:=bind_some h;exact aB (ra hK h30) (ac (ag 0 (yH hK h)))
 ·exact ai 154 h29 (ag 2 (yH hK h))
theorem Bg(hK:aq K)(h:hJ K n v1 v2 v4 v5 v14 v15 v16 v17 v18 v19 v21 v22=some r):gi M w0 r [c7 8191] (LY v1 v2 v4 v5 v14 v15 v16 v17 v18 v19 v21 v22):=by
 unfold hJ at h;refine aw 2 3 1 (ak 3 ?_);obtain⟨v23,h24,h⟩:=bind_some h;refine aB (G4 hK h24) (ac (aw 2 3 1 (ak 3 ?_)));obtain⟨v24,h25,h⟩:=bind_some h;refine aB (G4 hK h25) (ac (aw 125 63 11 ?_));obtain⟨h26,h⟩|⟨h26,h⟩:=am h
 ·refine ai 142 h26 (bd 2 1 (ak 3 ?_));obtain⟨v25,h27,h⟩:=bind_some h;exact aB (rR hK h27) (ac (ag 0 (yH hK h)))
 ·refine ai 142 h26 (aw 6 7 2 (ak 4 ?_));obtain⟨h28,h⟩|⟨h28,h⟩:=am h
  ·exact ay 151 h28 (ac (ag 0 (ES hK h)))
  ·exact ay 151 h28 (ac (ag 0 (ES hK h)))
theorem CB(hK:aq K)(h:mj K n v1 v2 v4 v5 v14 v15 v16 v17 v18 v19 v20 v21=some r):gi M w0 r [c7 4095] (Qx v1 v2 v4 v5 v14 v15 v16 v17 v18 v19 v20 v21):=by
 unfold mj at h;refine aw 2 3 1 (ak 2 ?_);obtain⟨h22,h⟩|⟨h22,h⟩:=am h
 ·refine ay 116 h22 (aL 12 10 ?_);obtain⟨h23,h⟩|⟨h23,h⟩:=am h
  ·exact ay 126 h23 (ac (ag 0 (Bg hK h)))
  ·exact ay 126 h23 (ac (ag 0 (Bg hK h)))
 ·exact ay 116 h22 (ac (ag 0 (Bg hK h)))
theorem DD(hK:aq K)(h:mz K n v1 v2 v4 v5 v14 v15 v16 v17 v18 v19 v20=some r):gi M w0 r [c7 2047] (PX v1 v2 v4 v5 v14 v15 v16 v17 v18 v19 v20):=by
 unfold mz at h;refine aw 2 3 1 (ak 2 ?_);obtain⟨h21,h⟩|⟨h21,h⟩:=am h
 ·exact ay 105 h21 (ac (ag 0 (CB hK h)))
 ·exact ay 105 h21 (ac (ag 0 (CB hK h)))
theorem C9(hK:aq K)(h:hZ K n v1 v2 v3 v4 v5 v14 v15 v16 v17 v18=some r):gi M w0 r [c7 511] (KP v1 v2 v3 v4 v5 v14 v15 v16 v17 v18):=by
 unfold hZ at h;refine aw 2 3 1 (ak 2 ?_);obtain⟨v19,h19,h⟩:=bind_some h;refine aB (Hy hK h19) (ac (aw 2 3 1 (ak 2 ?_)));obtain⟨h20,h⟩|⟨h20,h⟩:=am h
 ·exact ay 99 h20 (ac (ag 0 (DD hK h)))
 ·exact ay 99 h20 (ac (ag 0 (DD hK h)))
theorem Nn(hK:aq K)(hL1:E4 M w0 r v1 v2 v3 v4 v5 v6 m1 L1)(h:lD K n v1 v2 v3 v4 v5 v6 L1 v9 v10=some r):gi M w0 r (c7 65364::J4 M w0 r m1) (HE v1 v2 v3 v4 v5 v6 v9 v10):=by
 unfold lD at h;refine bP 4 5 3 2 (ak 2 (aA (bz aO v6) (ac ?_)));obtain⟨h13,h⟩|⟨h13,h⟩:=am h
 ·refine ai 63 h13 (uI 4 1 3 4 (bJ [2,4,6,7,8,9,10,11,12,13] [4,6,7,8,11] [75,1057] ?_));obtain⟨h14,h⟩:=aS h;obtain⟨v11,h15,h⟩:=bind_some h;obtain⟨h16,h⟩:=aS h;exact bD 2 (nu 66 [.ref 75,.ref 1057,iI v9,.eptr 1057 59 (v9.toNat) 0,.agg (aV (gD v6 v9)),.ptr 4 12,iI v2.Content,.agg (aF v11),.sl (lm aC [v11])]) [] [] [gW 75 75 ⟨59,67,lm aC (v10++[v11])⟩,bT Tryz.prog 281 Tryz.f107 (pn 522916) 10] (ao [.v 0 1,.v 0 2,.v 0 2] (aa (hI (lo:=0) (k:=2) (eo ⟨(by kernel_rfl),(eI (dx 1057 59 aO (L:=v6) h14) (by kernel_rfl))⟩ (eo ⟨(by kernel_rfl),(eI (dx 1057 59 aO (L:=v6) h14) (by kernel_rfl))⟩ iQ))) (aa (hI (lo:=0) (k:=2) (eo ⟨(by kernel_rfl),(eI (ci 52 0 aO aV (ca h14).2 (dp)) (by kernel_rfl))⟩ (eo ⟨(by kernel_rfl),(eI (ci 52 0 aO aV (ca h14).2 (dp)) (by kernel_rfl))⟩ iQ))) (ao [.v 0 2,.v 0 2] (aa (bL 0 1 73 (Wz hK h15)) (bC (eV aC ([v11]:List ae) (new:=[aF v11]) (by simp only[List.map_cons,List.map_nil,cQ])) (aa (gv (m:=0) (cy 75 75 59 67 aC (rfl) (dP) h16)) (aa (bU 1) bE)))))))) (ag 2 (bu (hL1 h)))
 ·refine ai 63 h13 (cr (ks':=[c7 8171,c7 511]) 5 (ak 1 (kA 75 ?_)));obtain⟨v12,h17,h⟩:=bind_some h;exact dE 1077 (VJ hK h17) (nU (i:=0) (by kernel_rfl)) (ac (ag 0 (C9 hK h)))
theorem NX(hK:aq K)(m:Nat):E4 M w0 r v1 v2 v3 v4 v5 v6 m (jE K n v1 v2 v3 v4 v5 v6 m):=by
 induction m with
 | zero=>intro v9 v10 h;cases h
 | succ m ih=>intro v9 v10 h;have h:lD K n v1 v2 v3 v4 v5 v6 (jE K n v1 v2 v3 v4 v5 v6 m) v9 v10=some r:=h;exact br (Nn hK ih h)
theorem CS(hK:aq K)(h:jO K n v1 v2 v3=some r):aN Tryz.prog 107 [.agg (aV v1),.agg (bg v2),.bool v3] (fun v s=>v=.agg (List.set (aF ({ r with Kids:=[] }:ae)) 66 (.ref 278))∧look 278 s.r=some ⟨59,67,lm aC r.Kids⟩):=by
 refine bc (cat Tryz.f107 (pn 1)) Tryz.func107 Tryz.ntmps107 fun M w0=>(aZ ⟨[(0,.agg (aV v1)),(1,.agg (bg v2)),(2,.bool v3)],[],[],[]⟩ ?_);unfold jO at h;obtain⟨v4,h1,h⟩:=bW h;refine bB (ks':=[c7 62,c7 63]) 9 ⟨[(2,.bool v3),(3,.ptr 3 0),(4,.ptr 4 0),(6,.ptr 6 0),(7,.ptr 7 0),(8,.ptr 8 0)],[(3,aV v1),(4,bg v2),(6,List.set (aF bp) 66 (.nils)),(7,aE v1.Style),(8,List.set (aF ({ bp with Kind:=1,Node:=v1.Node,X:=v2.Margin.a3,W:=v4,Style:=v1.Style }:ae)) 66 (.nils))],[],[3,4,6,7,8]⟩ ?_ (by subst h1;kernel_rfl);refine ak 1 ?_;obtain⟨v5,h2,h⟩:=bind_some h;refine aB (Ff hK h2) (ac (aw 2 3 1 (ak 1 ?_)));obtain⟨v6,h3,h⟩:=bind_some h;refine dE 1057 (B4 hK h3) (fm 25) (ac (aw 13 7 5 ?_));obtain⟨h4,h⟩|⟨h4,h⟩:=am h
 ·exact ai 59 h4 (fp 42 0 11 7 (bJ [2,4,6,7,8,9,10,11,12,13] [4,6,7,8,11] [1057] (fk 75 12 59 67 (ag 0 (cm (p:=pn 32682) n (NX hK n h))))))
 ·refine ai 59 h4 (aw 6 7 2 (ak 4 (kA 1057 ?_)));obtain⟨v13,h18,h⟩:=bind_some h;exact dE 1083 (Em hK h18) (rd (i:=0) rfl) (ac (ak 3 (aA (bz aC v13.1) (ac (bJ [2,4,6,7,8,9,11] [4,6,7,8,11] [1083] (GF 1083 1077 (ag 0 (C9 hK h))))))))
end
noncomputable section
variable(M:Nat→Prop)(w0:aH)(r:ae)(v1:aj)(v2:aP)  
variable{M w0 r v1 v2}{K:Kn}{n:Nat}
theorem P7(hK:aq K)(h:kB K n v1 v2=some r):aN Tryz.prog 70 [.agg (aV v1),.agg (bg v2)] (fun v s=>v=.agg (List.set (aF ({ r with Kids:=[] }:ae)) 66 (.ref 1007))∧look 1007 s.r=some ⟨59,67,lm aC r.Kids⟩):=by
 refine bc (cat Tryz.f70 (pn 1)) Tryz.func70 Tryz.ntmps70 fun M w0=>(aZ ⟨[(0,.agg (aV v1)),(1,.agg (bg v2))],[],[],[]⟩ ?_);unfold kB at h;refine aw 6 7 3 (ak 2 ?_);obtain⟨v3,h1,h⟩:=bind_some h;refine dE 1007 (CS hK h1) (nU (i:=66) (by kernel_rfl)) (ac (aG 1 ?_));cases h;exact eg
end
noncomputable section
variable(M:Nat→Prop)(w0:aH)(r v1:Int)  
variable{M w0 r v1}{K:Kn}{n:Nat}
theorem B3(hK:aq K)(h:mD K n v1=some r):aN Tryz.prog 81 [iI v1] (fun v _=>v=iI r):=by
 refine bc (cat Tryz.f81 (pn 1)) Tryz.func81 Tryz.ntmps81 fun M w0=>(aZ ⟨[(0,iI v1)],[],[],[]⟩ ?_);unfold mD at h;refine aG 5 ?_;cases h;exact aU
end
noncomputable section
variable(M:Nat→Prop)(w0:aH)(r v1:Int)  
variable{M w0 r v1}{K:Kn}{n:Nat}
theorem J1(hK:aq K)(h:vk K n v1=some r):aN Tryz.prog 82 [iI v1] (fun v _=>v=iI r):=by
 refine bc (cat Tryz.f82 (pn 1)) Tryz.func82 Tryz.ntmps82 fun M w0=>(aZ ⟨[(0,iI v1)],[],[],[]⟩ ?_);unfold vk at h;refine aw 6 7 3 (ak 1 ?_);obtain⟨v2,h1,h⟩:=bind_some h;refine aB (B3 hK h1) (ac (aG 3 ?_));cases h;exact aU
end
noncomputable section
variable(M:Nat→Prop)(w0:aH)(r v1:Int)  
variable{M w0 r v1}{K:Kn}{n:Nat}
theorem JH(hK:aq K)(h:tL K n v1=some r):aN Tryz.prog 108 [iI v1] (fun v _=>v=iI r):=by
 refine bc (cat Tryz.f108 (pn 1)) Tryz.func108 Tryz.ntmps108 fun M w0=>(aZ ⟨[(0,iI v1)],[],[],[]⟩ ?_);unfold tL at h;refine aw 13 7 5 ?_;obtain⟨h1,h⟩|⟨h1,h⟩:=am h
 ·refine ai 4 h1 (aG 5 ?_);cases h;exact aU
 ·refine ai 4 h1 (aG 5 ?_);cases h;exact aU
end
noncomputable section
variable(M:Nat→Prop)(w0:aH)(r:Int×Int)(v1:aJ)  
variable{M w0 r v1}{K:Kn}{n:Nat}
theorem TT(hK:aq K)(h:sS K n v1=some r):aN Tryz.prog 74 [.agg (aE v1)] (fun v _=>v=.tup [iI r.1,iI r.2]):=by
 refine bc (cat Tryz.f74 (pn 1)) Tryz.func74 Tryz.ntmps74 fun M w0=>(aZ ⟨[(0,.agg (aE v1))],[],[],[]⟩ ?_);unfold sS at h;refine aw 14 15 5 (bJ [1,4] [1] [] ?_);obtain⟨v2,h1,h⟩:=bind_some h;obtain⟨v3,h2,h⟩:=bind_some h;obtain⟨v4,h3,h⟩:=bind_some h;refine bD 1 (nu 9 [.ptr 1 37,iI v1.FontSize,iI v2,iI (max v1.LineHeight 0),.ptr 1 37,iI v1.FontSize,iI v3,iI (ab ((max v1.LineHeight 0)-v3)),iI v4,iI (ab (v2+v4))]) [] [] [bT Tryz.prog 23 Tryz.f74 (pn 14) 10] (ao (vz 2) (aa (bL 0 1 11 (B3 hK h1)) (ao (vz 3) (aa (bL 0 1 15 (J1 hK h2)) (ao [.v 0 1] (aa (bL 0 1 17 (JH hK h3)) (ao [.v 0 1] (aa (bU 0) bE)))))))) (aG 3 ?_);cases h;exact dV
end
noncomputable section
variable(M:Nat→Prop)(w0:aH)(r:Int)(v1 v2:Int)  
variable{M w0 r v1 v2}{K:Kn}{n:Nat}
theorem Q7(hK:aq K)(h:rh K n v1 v2=some r):aN Tryz.prog 75 [.int .i32 v1,iI v2] (fun v _=>v=iI r):=by
 refine bc (cat Tryz.f75 (pn 1)) Tryz.func75 Tryz.ntmps75 fun M w0=>(aZ ⟨[(0,.int .i32 v1),(1,iI v2)],[],[],[]⟩ ?_);unfold rh at h;refine aw 6 7 3 (ak 1 ?_);obtain⟨v3,h1,h⟩:=bind_some h;refine aB (EF hK h1) (aL 3 1 ?_);obtain⟨v4,h2,h⟩:=bind_some h;refine aB (B3 hK h2) (ac (aG 3 ?_));cases h;exact aU
end
noncomputable section
variable(M:Nat→Prop)(w0:aH)(r v1:ba)(v2:Int)(v4:aJ)(v12:Int×Int)(v19:Int)(v20:ByteArray)(v21 v22 v23:Int)(v24:ByteArray)(v25:Bool)(v26 v27:Int)(m1:Nat)(L1:Int→ByteArray→Int→Int→Option ba)
abbrev Al:Cx:=⟨Tryz.prog,108,M,w0⟩
abbrev zE:=bodyPost Tryz.prog Tryz.f37 (bq M w0 (fun v _=>v=.agg (bN r)))
abbrev xD(ks:List av)(s:AS):=VE (Al M w0) (zE M w0 r) ks .normal s
abbrev i9(n:Nat):av:=.c (cat Tryz.f37 (pn n))
abbrev xt:List av:=[.b 0,i9 255]
abbrev vj:List av:=kl (Al M w0) (zE M w0 r) xt (cat Tryz.f37 (pn 2036)) m1::xt
def PE:AS:=⟨[(2,.ptr 2 0),(4,.ptr 4 0),(6,.ptr 6 0),(9,iI v19)],[(2,List.set (bN (⟨v1.Things,v24,v26,v27,v12.1,v12.2,v1.Glued,v1.Forced,[]⟩:ba)) 8 (.nils)),(4,List.set (List.set (co dC) 0 (.nils)) 8 (.nils)),(6,aE v4)],[],[2,4,6]⟩
def Wq:AS:=⟨[(2,.ptr 2 0),(4,.ptr 4 0),(6,.ptr 6 0),(9,iI v19),(11,iI v23),(99,.bool v25)],[(2,List.set (bN (⟨v1.Things,v24,v21,v22,v12.1,v12.2,v1.Glued,v1.Forced,[]⟩:ba)) 8 (.nils)),(4,List.set (List.set (co dC) 0 (.nils)) 8 (.nils)),(6,aE v4)],[],[2,4,6]⟩
def HI:AS:=⟨[(2,.ptr 2 0),(4,.ptr 4 0),(6,.ptr 6 0),(9,iI v19)],[(2,List.set (bN (⟨v1.Things,v20,v21,v22,v12.1,v12.2,v1.Glued,v1.Forced,[]⟩:ba)) 8 (.nils)),(4,List.set (List.set (co dC) 0 (.nils)) 8 (.nils)),(6,aE v4)],[],[2,4,6]⟩
abbrev wi:Prop:=∀{v19:Int} {v20:ByteArray} {v21:Int} {v22:Int},L1 v19 v20 v21 v22=some r→LP (Al M w0) (zE M w0 r) xt (cat Tryz.f37 (pn 2036)) m1 (HI v1 v4 v12 v19 v20 v21 v22)
variable{M w0 r v1 v2 v4 v12 v19 v20 v21 v22 v23 v24 v25 v26 v27 m1 L1}{K:Kn}{n:Nat}
theorem Jf(hK:aq K)(hL1:wi M w0 r v1 v4 v12 m1 L1)(h:mH K n v1 v4 v12 v19 v24 L1 v26 v27=some r):xD M w0 r (.b 1::i9 8147::vj M w0 r m1) (PE v1 v4 v12 v19 v24 v26 v27):=by
 unfold mH at h;exact ag 2 (bu (hL1 h))
theorem IW(hK:aq K)(hL1:wi M w0 r v1 v4 v12 m1 L1)(h:kJ K n v1 v4 v12 v19 v21 v22 v23 v24 L1 v25=some r):xD M w0 r (i9 260687 :: .b 1::i9 8147::vj M w0 r m1) (Wq v1 v4 v12 v19 v21 v22 v23 v24 v25):=by
 unfold kJ at h;obtain⟨h30,h⟩|⟨h30,h⟩:=am h
 ·exact ai 99 h30 (ag 2 (Jf hK hL1 h))
 ·exact ai 99 h30 (ag 2 (Jf hK hL1 h))
theorem Tm(hK:aq K)(hL1:wi M w0 r v1 v4 v12 m1 L1)(h:kY K n v1 v4 v12 L1 v19 v20 v21 v22=some r):xD M w0 r (i9 2036::vj M w0 r m1) (HI v1 v4 v12 v19 v20 v21 v22):=by
 unfold kY at h;refine bP 4 5 3 2 (ak 3 (aA (bz aD v1.Things) (ac ?_)));obtain⟨h24,h⟩|⟨h24,h⟩:=am h
 ·refine ai 69 h24 (cN 8 9 1 3 5 (ak 3 ?_));obtain⟨h25,h⟩:=aS h;refine aA (bM aD aD h25 (eE) ((fun _=>rfl))) (ac (aw 2 3 1 (ak 4 ?_)));obtain⟨v23,h26,h⟩:=bind_some h;refine aB (Q7 hK h26) (ac (aw 2 3 1 (ak 6 ?_)));obtain⟨h27,h⟩:=aS h;refine aA (Ve h27) (ac ?_);obtain⟨v24,h28,h⟩:=bW h;refine bB (ks':=i9 260686::i9 260687 :: .b 1::i9 8147::vj M w0 r m1) 1 ⟨[(2,.ptr 2 0),(4,.ptr 4 0),(6,.ptr 6 0),(9,iI v19),(10,.ptr 10 0),(11,iI v23)],[(2,List.set (bN (⟨v1.Things,v24,v21,v22,v12.1,v12.2,v1.Glued,v1.Forced,[]⟩:ba)) 8 (.nils)),(4,List.set (List.set (co dC) 0 (.nils)) 8 (.nils)),(6,aE v4),(10,aD (gD v1.Things v19))],[],[2,4,6,10]⟩ ?_ (by subst h28;kernel_rfl);refine ak 3 ?_;obtain⟨h29,h⟩|⟨h29,h⟩:=am h
  ·exact ay 92 h29 (aL 6 3 (aA (bz aD v1.Things) (ac (ag 0 (IW hK hL1 h)))))
  ·exact ay 92 h29 (ac (ag 0 (IW hK hL1 h)))
 ·refine ai 69 h24 (aG 8 ?_);cases h;exact aU
theorem WD(hK:aq K)(m:Nat):wi M w0 r v1 v4 v12 m (kx K n v1 v4 v12 m):=by
 induction m with
 | zero=>intro v19 v20 v21 v22 h;cases h
 | succ m ih=>intro v19 v20 v21 v22 h;have h:kY K n v1 v4 v12 (kx K n v1 v4 v12 m) v19 v20 v21 v22=some r:=h;exact br (Tm hK ih h)
theorem TN(hK:aq K)(h:fi K n v1 v2=some r):aN Tryz.prog 37 [.agg (bN v1),iI v2] (fun v _=>v=.agg (bN r)):=by
 refine bc (cat Tryz.f37 (pn 1)) Tryz.func37 Tryz.ntmps37 fun M w0=>(aZ ⟨[(0,.agg (bN v1)),(1,iI v2)],[],[],[]⟩ ?_);unfold fi at h;obtain⟨h1,h⟩:=aS h;refine EE 0 (v:=.agg (bN v1)) (v':=.agg (List.set (bN v1) 8 .nils)) (by kernel_rfl) (congrArg AV.agg (OD v1 h1)) rfl (aw 6 7 3 (ak 2 ?_));obtain⟨h2,h⟩:=aS h;refine aA (bM aD aD h2 (eE) ((fun _=>rfl))) (ac ?_);obtain⟨v3,h3,h⟩:=bW h;obtain⟨v4,h4,h⟩:=bW h;refine bB (ks':=[i9 61,i9 31]) 5 ⟨[(1,iI v2),(2,.ptr 2 0),(4,.ptr 4 0),(5,.ptr 5 0),(6,.ptr 6 0),(20,.bool v1.Forced)],[(2,List.set (bN ({ v1 with Box:=[] }:ba)) 8 (.nils)),(4,List.set (List.set (co dC) 0 (.nils)) 8 (.nils)),(5,aD v3),(6,aE v4)],[],[2,4,5,6]⟩ ?_ (by subst h4;subst h3;kernel_rfl);obtain⟨h5,h⟩|⟨h5,h⟩:=am h
 ·refine ai 20 h5 (aG 5 ?_);cases h;exact aU
 ·refine ai 20 h5 (dJ 5 3 5 ?_);obtain⟨h6,h⟩|⟨h6,h⟩:=am h
  ·refine ai 23 h6 (aw 4 5 2 (bJ [1,2,4,5,6] [2,4,5,6] [] ?_));obtain⟨v5,h7,h⟩:=bind_some h;obtain⟨v6,h8,h⟩:=bind_some h;refine bD 1 (nu 24 [.agg (aE v4),iI v2,.ptr 5 0,.agg (aV v3.Box),iI v2,iI v5,.agg (bg v6)]++nu 7 [.ptr 7 0]) [(7,bg dr)] [] [bT Tryz.prog 108 Tryz.f37 (pn 500) 8] (ao (vz 5) (aa (bL 0 1 29 (Uh hK h7)) (aa (bL 0 1 30 (w3 hK h8)) (aa (nT 0 1 75 7 (bg dr)) (aa (bU 0) bE))))) (aw 2 3 1 (ak 3 ?_));obtain⟨v7,h9,h⟩:=bind_some h;refine dE 1034 (P7 hK h9) (nU (i:=66) (by kernel_rfl)) (ac (aw 2 3 1 (ak 1 ?_)));obtain⟨v8,h10,h⟩:=bind_some h;refine aB (sA hK h10) (ac (aw 2 3 1 (bJ [1,2,4,8] [2,4,8] [1034] ?_)));obtain⟨v9,h11,h⟩:=bind_some h;obtain⟨v10,h12,h⟩:=bind_some h;refine bD 1 (nu 38 [.ptr 8 5,iI v7.H,.ptr 8 61,.agg (bI v7.Before),iI v9,iI (ab (v7.H+v9)),.ptr 8 63,.agg (bI v7.After),iI v10,iI (ab ((ab (v7.H+v9))+v10)),.ptr 2 4]) [] [] [bT Tryz.prog 108 Tryz.f37 (pn 4014) 11] (ao (vz 4) (aa (bL 0 1 42 (ra hK h11)) (ao (vz 3) (aa (bL 0 1 46 (ra hK h12)) (ao (vz 2) (aa (bU 0) bE)))))) (aw 2 3 1 (bJ [1,2,4,8] [2,4,8] [1034] (sX 1034 ?_)))
   obtain⟨v11,h13,h⟩:=bind_some h;obtain⟨h14,h⟩:=aS h;refine bD 2 (nu 49 [.ptr 2 8,.nils,.agg (aF v7),iI v2,.agg (aF v11),.sl (lm aC [v11])]++nu 56 [.ptr 2 8]) [] [] [CT 55 ⟨59,67,lm aC ([v11]:(List ae))⟩,bT Tryz.prog 108 Tryz.f37 (pn 8030) 8] (ao [.v 0 2,.v 0 1,.v 0 2,.v 0 2] (aa (bL 0 1 53 (E7 hK h13)) (bC (eV aC ([v11]:List ae) (new:=[aF v11]) (by simp only[List.map_cons,List.map_nil,cQ])) (aa (gv (m:=0) (Bc 55 59 67 aC (rfl) (dP) h14)) (ao [.v 1 1] (aa (bU 1) bE)))))) (aG 4 (sX 55 ?_));cases h;exact aU
  ·refine ai 23 h6 (dJ 2 3 3 (ak 1 ?_));obtain⟨v12,h15,h⟩:=bind_some h;exact aB (TT hK h15) (ac (ag 4 (cm (p:=pn 1018) n (WD hK n h))))
end
noncomputable section
variable(M:Nat→Prop)(w0:aH)(r:List ba)(v1:List aj)(v2:Int)(v3:List aI)(v5:Int)(v6:List (ba×Option (List aI)))(v8 v9 v11:Bool)(v12:List (ba×Option (List aI)))(v15:Int)(v16:List ba)(m1 m2:Nat)(L1:Int→(List (ba×Option (List aI)))→Option (List ba))(L2:Int→(List ba)→Option (List ba))
abbrev sy:Cx:=⟨Tryz.prog,140,M,w0⟩
abbrev tz:=bodyPost Tryz.prog Tryz.f11 (bq M w0 (fun v s=>v=.ref 440006∧look 440006 s.r=some ⟨49,9,lm co r⟩))
abbrev qf(ks:List av)(s:AS):=VE (sy M w0) (tz M w0 r) ks .normal s
abbrev fB(n:Nat):av:=.c (cat Tryz.f11 (pn n))
abbrev Bh:List av:=[.b 2,fB 63]
abbrev P8:List av:=kl (sy M w0) (tz M w0 r) Bh (cat Tryz.f11 (pn 500)) m2::Bh
abbrev Bj:List av:=[.b 0,fB 31]
abbrev sn:List av:=kl (sy M w0) (tz M w0 r) Bj (cat Tryz.f11 (pn 244)) m1::Bj
def Mr:AS:=⟨[(1,iI v2),(5,.ref 405013),(6,.ref 500006),(7,iI v5)],[],[(405013,⟨54,64,lm aD v3⟩),(500006,⟨49,9,lm (bS bN 0 54 64 aD) v12⟩)],[405013,500006]⟩
def We:AS:=⟨[(1,iI v2),(5,.ref 405013),(6,.ref 500006),(7,iI v5),(8,.ptr 8 0),(9,.bool v8),(10,.ptr 10 0)],[(8,aD (gD v3 v5)),(10,List.set (List.set (co ({ dC with Glued:=v11,Forced:=(gD v3 v5).Forced }:ba)) 0 (.nils)) 8 (.nils))],[(405013,⟨54,64,lm aD v3⟩),(500006,⟨49,9,lm (bS bN 0 54 64 aD) v6⟩)],[8,10,405013,500006]⟩
def Sf:AS:=⟨[(1,iI v2),(5,.ref 405013),(6,.ref 500006),(7,iI v5),(8,.ptr 8 0),(9,.bool v8),(79,.bool v9)],[(8,aD (gD v3 v5))],[(405013,⟨54,64,lm aD v3⟩),(500006,⟨49,9,lm (bS bN 0 54 64 aD) v6⟩)],[8,405013,500006]⟩
def O5:AS:=⟨[(1,iI v2),(5,.ref 405013),(6,.ref 500006),(7,iI v5),(8,.ptr 8 0),(9,.bool v8)],[(8,aD (gD v3 v5))],[(405013,⟨54,64,lm aD v3⟩),(500006,⟨49,9,lm (bS bN 0 54 64 aD) v6⟩)],[8,405013,500006]⟩
def DI:AS:=⟨[(1,iI v2),(6,.ref 440006),(11,iI v15)],[],[(440006,⟨49,9,lm bN v16⟩)],[440006]⟩
def Ho:AS:=⟨[(1,iI v2),(5,.ref 405013),(6,.ref 500006),(7,iI v5)],[],[(405013,⟨54,64,lm aD v3⟩),(500006,⟨49,9,lm (bS bN 0 54 64 aD) v6⟩)],[405013,500006]⟩
abbrev qG:Prop:=∀{v5:Int} {v6:(List (ba×Option (List aI)))},L1 v5 v6=some r→LP (sy M w0) (tz M w0 r) Bj (cat Tryz.f11 (pn 244)) m1 (Ho v2 v3 v5 v6)
abbrev E1:Prop:=∀{v15:Int} {v16:(List ba)},L2 v15 v16=some r→LP (sy M w0) (tz M w0 r) Bh (cat Tryz.f11 (pn 500)) m2 (DI v2 v15 v16)
variable{M w0 r v1 v2 v3 v5 v6 v8 v9 v11 v12 v15 v16 m1 m2 L1 L2}{K:Kn}{n:Nat}
theorem I2(hK:aq K)(hL1:qG M w0 r v2 v3 m1 L1)(h:pH K n v2 v3 v5 L1 v12=some r):qf M w0 r (fB 979::sn M w0 r m1) (Mr v2 v3 v5 v12):=by
 unfold pH at h;exact ag 1 (bu (hL1 h))
theorem A8(hK:aq K)(hL1:qG M w0 r v2 v3 m1 L1)(h:nG K n v2 v3 v5 v6 v8 L1 v11=some r):qf M w0 r (fB 31311 :: .b 1::fB 979::sn M w0 r m1) (We v2 v3 v5 v6 v8 v11):=by
 unfold nG at h;refine aw 2 3 1 (ak 4 ?_);obtain⟨h30,h⟩:=aS h;refine aA (Bc 118 54 64 aD (rfl) (eE) h30) (ac (Lc (ak 2 ?_)));refine GY 118 9 (c0:=.bool v8) (qZ 121 0 (by kernel_rfl)) (fun x4=>?_);refine CR 121 9 (tid:=118) (x:=x4) (c:=.agg (List.set (List.set (co ({ dC with Glued:=v11,Forced:=(gD v3 v5).Forced }:ba)) 0 (.ref 118)) 8 (.nils))) (aL 3 1 ?_);obtain⟨h31,h⟩:=aS h;exact aA (Pv 123 500006 49 9 0 54 64 bN bN aD ({ dC with Glued:=v11,Forced:=(gD v3 v5).Forced }:ba) (.vv x4) (fun _=>rfl) OK h31) (JX 500006 118 9 123 0 49 9 0 54 64 bN bN aD v6 ({ dC with Glued:=v11,Forced:=(gD v3 v5).Forced }:ba) ([(gD v3 v5)]:List aI) x4 (fun _=>rfl) vZ (ac (ag 1 (I2 hK hL1 h))))
theorem m7(hK:aq K)(hL1:qG M w0 r v2 v3 m1 L1)(h:fZ K n v2 v3 v5 v6 v8 L1 v9=some r):qf M w0 r (fB 31309::fB 15655 :: .b 1::fB 979::sn M w0 r m1) (Sf v2 v3 v5 v6 v8 v9):=by
 unfold fZ at h;obtain⟨h21,h⟩|⟨h21,h⟩:=am h
 ·refine ai 79 h21 ?_;obtain⟨h22,h⟩:=aS h;obtain⟨v10,h23,h⟩:=bind_some h;refine aw 4 5 2 (bJ [1,5,6,7,8,9,79] [8] [405013,500006] ?_);refine TM 500006 430079 79 6 0 49 9 0 54 64 bN aD v6 ((ab ((v6.length:Int)-1))).toNat v10 (.bool true) (ca h22).2 h23 vZ (fun x2=>?_);obtain⟨h24,h⟩:=aS h;obtain⟨h25,h⟩:=aS h;refine I1 14 1 [(80,.ref 500006),(81,.ref 500006),(82,iI (v6.length:Int)),(83,iI (ab ((v6.length:Int)-1))),(84,.ref 500006),(85,.ref 500006),(86,iI (v6.length:Int)),(87,iI (ab ((v6.length:Int)-1))),(88,.eptr 500006 9 (((ab ((v6.length:Int)-1))).toNat) 0),(89,.eptr 500006 9 (((ab ((v6.length:Int)-1))).toNat) 0),(90,.ref 430079),(91,.agg (aD (gD v3 v5))),(92,.sl (lm aD [(gD v3 v5)]))] [] [] [gW 93 430079 ⟨54,64,lm aD (v10++[(gD v3 v5)])⟩] (ao [.v 0 2,.v 0 2] (aa (hI (lo:=0) (k:=2) (eo ⟨(by kernel_rfl),(eI (uN ((ab ((v6.length:Int)-1))).toNat 0 (bS bN 0 54 64 aD) (.vv x2) v6) (by kernel_rfl))⟩ (eo ⟨(by kernel_rfl),(eI (uN ((ab ((v6.length:Int)-1))).toNat 0 (bS bN 0 54 64 aD) (.vv x2) v6) (by kernel_rfl))⟩ iQ))) (ao [.v 0 2,.v 0 2,.v 0 2] (aa (hI (lo:=0) (k:=2) (eo ⟨(by kernel_rfl),(eI (uN ((ab ((v6.length:Int)-1))).toNat 0 (bS bN 0 54 64 aD) (.vv x2) v6) (by kernel_rfl))⟩ (eo ⟨(by kernel_rfl),(eI (uN ((ab ((v6.length:Int)-1))).toNat 0 (bS bN 0 54 64 aD) (.vv x2) v6) (by kernel_rfl))⟩ iQ))) (ao [.v 0 2] (aa (hI (lo:=0) (k:=2) (eo ⟨(by kernel_rfl),(eI (Ba 500006 9 ((ab ((v6.length:Int)-1))).toNat 0 (bS bN 0 54 64 aD) (.vv x2) (L:=v6) (i:=(ab ((v6.length:Int)-1))) (by simpa only[List.length_set]using h24)) (by kernel_rfl))⟩ (eo ⟨(by kernel_rfl),(eI (Ba 500006 9 ((ab ((v6.length:Int)-1))).toNat 0 (bS bN 0 54 64 aD) (.vv x2) (L:=v6) (i:=(ab ((v6.length:Int)-1))) (by simpa only[List.length_set]using h24)) (by kernel_rfl))⟩ iQ))) (ao [.v 0 2] (aa (NQ 0 90 79 430079 (b:=⟨54,64,lm aD v10⟩) (Mz 47 500006 9 0 54 64 bN bN aD x2 (L:=v6) (j:=((ab ((v6.length:Int)-1))).toNat) (ca h24).2 (fun _=>rfl))) (ao [.v 0 2,.v 0 1] (aa (gv (m:=0) (cy 93 430079 54 64 aD (rfl) (eE) h25)) (xL))))))))))) ?_
  obtain⟨h26,h⟩:=aS h;refine aA (Ba 500006 9 ((ab ((v6.length:Int)-1))).toNat 0 (bS bN 0 54 64 aD) (.vv x2) (L:=v6) (i:=(ab ((v6.length:Int)-1))) h26) (aL 16 1 ?_);refine GY 430079 79 (c0:=.any) (qZ 93 0 (by kernel_rfl)) (fun x3=>?_);exact CR 93 79 (tid:=430079) (x:=x3) (c:=.ref 430079) (aA (Wt 500006 49 9 0 54 64 bN aD (.vv x2) x3 (L:=v6) (j:=((ab ((v6.length:Int)-1))).toNat) (ca h26).2 vZ) (Oa 93 79 (tid:=430079) (x:=x3) (b:=⟨54,64,lm aD (v10++[(gD v3 v5)])⟩) (OE 500006 430079 79 6 0 49 9 0 54 64 bN aD v6 ((ab ((v6.length:Int)-1))).toNat (v10++[(gD v3 v5)]) x3 (ca h26).2 vZ (ac (ag 3 (I2 hK hL1 h))))))
 ·refine ai 79 h21 (dJ 2 3 3 (bJ [1,5,6,7,8,9] [8] [405013,500006] ?_));obtain⟨h27,h⟩|⟨h27,h⟩:=am h
  ·obtain⟨h28,h⟩:=aS h;obtain⟨h29,h⟩|⟨h29,h⟩:=am h
   ·exact bD 1 (nu 96 [.ptr 8 62,.bool ((gD v3 v5).Forced),iI v5,.bool (decide (v5>0)),.bool true,.ref 405013,iI v5,iI (ab (v5-1)),.eptr 405013 64 (((ab (v5-1))).toNat) 0,.eptr 405013 64 (((ab (v5-1))).toNat) 62,.bool ((gD v3 ((ab (v5-1)))).Forced),.bool (!(gD v3 ((ab (v5-1)))).Forced),.bool (!(gD v3 ((ab (v5-1)))).Forced),.bool true,.bool v8,.bool (!v8),.bool (!v8),.agg (List.set (List.set (co ({ dC with Glued:=(!v8),Forced:=(gD v3 v5).Forced }:ba)) 0 (.nils)) 8 (.nils))]++nu 10 [.ptr 10 0]) [(10,List.set (List.set (co dC) 0 (.nils)) 8 (.nils))] [] [bT Tryz.prog 140 Tryz.f11 (pn 31310) 19] (ao (vz 4) (aa (bb 0 100 (e:=(decide (v5>0))) (b:=true) h27) (ao (vz 3) (bC (dx 405013 64 aD (L:=v3) h28) (ao [.v 0 1] (bC (ci 4 62 aD aD (ca h28).2 ((fun _=>rfl))) (ao (vz 2) (aa (bb 0 109 (e:=(!(gD v3 ((ab (v5-1)))).Forced)) (b:=true) h29) (ao (vz 4) (aa (nT 0 1 49 10 (List.set (List.set (co dC) 0 (.nils)) 8 (.nils))) (aa (bU 0) bE))))))))))) (ag 0 (A8 hK hL1 h))
   ·exact bD 1 (nu 96 [.ptr 8 62,.bool ((gD v3 v5).Forced),iI v5,.bool (decide (v5>0)),.bool true,.ref 405013,iI v5,iI (ab (v5-1)),.eptr 405013 64 (((ab (v5-1))).toNat) 0,.eptr 405013 64 (((ab (v5-1))).toNat) 62,.bool ((gD v3 ((ab (v5-1)))).Forced),.bool (!(gD v3 ((ab (v5-1)))).Forced),.bool (!(gD v3 ((ab (v5-1)))).Forced),.bool false,.tup [],.tup [],.bool false,.agg (List.set (List.set (co ({ dC with Forced:=(gD v3 v5).Forced }:ba)) 0 (.nils)) 8 (.nils))]++nu 10 [.ptr 10 0]) [(10,List.set (List.set (co dC) 0 (.nils)) 8 (.nils))] [] [bT Tryz.prog 140 Tryz.f11 (pn 31310) 19] (ao (vz 4) (aa (bb 0 100 (e:=(decide (v5>0))) (b:=true) h27) (ao (vz 3) (bC (dx 405013 64 aD (L:=v3) h28) (ao [.v 0 1] (bC (ci 4 62 aD aD (ca h28).2 ((fun _=>rfl))) (ao (vz 2) (aa (bb 0 109 (e:=(!(gD v3 ((ab (v5-1)))).Forced)) (b:=false) h29) (aa (ah 0 1) (aa (ah 0 1) (ao (vz 2) (aa (nT 0 1 49 10 (List.set (List.set (co dC) 0 (.nils)) 8 (.nils))) (aa (bU 0) bE))))))))))))) (ag 0 (A8 hK hL1 h))
  ·exact bD 1 (nu 96 [.ptr 8 62,.bool ((gD v3 v5).Forced),iI v5,.bool (decide (v5>0)),.bool false,.tup [],.tup [],.tup [],.tup [],.tup [],.tup [],.tup [],.bool false,.bool false,.tup [],.tup [],.bool false,.agg (List.set (List.set (co ({ dC with Forced:=(gD v3 v5).Forced }:ba)) 0 (.nils)) 8 (.nils))]++nu 10 [.ptr 10 0]) [(10,List.set (List.set (co dC) 0 (.nils)) 8 (.nils))] [] [bT Tryz.prog 140 Tryz.f11 (pn 31310) 19] (ao (vz 4) (aa (bb 0 100 (e:=(decide (v5>0))) (b:=false) h27) (aa (ah 0 1) (aa (ah 0 1) (aa (ah 0 1) (aa (ah 0 1) (aa (ah 0 1) (aa (ah 0 1) (aa (ah 0 1) (ao (vz 2) (aa (ah 0 1) (aa (ah 0 1) (ao (vz 2) (aa (nT 0 1 49 10 (List.set (List.set (co dC) 0 (.nils)) 8 (.nils))) (aa (bU 0) bE))))))))))))))) (ag 0 (A8 hK hL1 h))
theorem FD(hK:aq K)(hL1:qG M w0 r v2 v3 m1 L1)(h:qd K n v2 v3 v5 v6 L1 v8=some r):qf M w0 r (fB 7827 :: .b 1::fB 979::sn M w0 r m1) (O5 v2 v3 v5 v6 v8):=by
 unfold qd at h;refine bP 4 5 3 2 (bJ [1,5,6,7,8,9] [8] [405013,500006] ?_);obtain⟨h12,h⟩|⟨h12,h⟩:=am h
 ·obtain⟨h13,h⟩|⟨h13,h⟩:=am h
  ·obtain⟨h14,h⟩|⟨h14,h⟩:=am h
   ·obtain⟨h15,h⟩|⟨h15,h⟩:=am h
    ·obtain⟨h16,h⟩:=aS h;obtain⟨h17,h⟩|⟨h17,h⟩:=am h
     ·obtain⟨h18,h⟩:=aS h;obtain⟨h19,h⟩|⟨h19,h⟩:=am h
      ·obtain⟨h20,h⟩:=aS h;exact bD 0 (nu 35 [iI v5,.bool (decide (v5>0)),.bool true,.bool v8,.bool (!v8),.bool (!v8),.bool true,.ptr 8 63,.bool ((gD v3 v5).Block),.bool (!(gD v3 v5).Block),.bool (!(gD v3 v5).Block),.bool true,.ptr 8 62,.bool ((gD v3 v5).Forced),.bool (!(gD v3 v5).Forced),.bool (!(gD v3 v5).Forced),.bool true,.ref 405013,iI v5,iI (ab (v5-1)),.eptr 405013 64 (((ab (v5-1))).toNat) 0,.eptr 405013 64 (((ab (v5-1))).toNat) 63,.bool ((gD v3 ((ab (v5-1)))).Block),.bool (!(gD v3 ((ab (v5-1)))).Block),.bool (!(gD v3 ((ab (v5-1)))).Block),.bool true,.ref 405013,iI v5,iI (ab (v5-1)),.eptr 405013 64 (((ab (v5-1))).toNat) 0,.eptr 405013 64 (((ab (v5-1))).toNat) 62,.bool ((gD v3 ((ab (v5-1)))).Forced),.bool (!(gD v3 ((ab (v5-1)))).Forced),.bool (!(gD v3 ((ab (v5-1)))).Forced),.bool true,.ref 405013,iI v5,iI (ab (v5-1)),.eptr 405013 64 (((ab (v5-1))).toNat) 0,.eptr 405013 64 (((ab (v5-1))).toNat) 59,iI ((gD v3 ((ab (v5-1)))).Number),.ptr 8 59,iI ((gD v3 v5).Number),.bool (((gD v3 ((ab (v5-1)))).Number) == ((gD v3 v5).Number)),.bool (((gD v3 ((ab (v5-1)))).Number) == ((gD v3 v5).Number))]) [] [] [] (ao (vz 2) (aa (bb 0 37 (e:=(decide (v5>0))) (b:=true) h12) (ao (vz 3) (aa (bb 0 41 (e:=(!v8)) (b:=true) h13) (ao (vz 4) (aa (bb 0 46 (e:=(!(gD v3 v5).Block)) (b:=true) h14) (ao (vz 4) (aa (bb 0 51 (e:=(!(gD v3 v5).Forced)) (b:=true) h15) (ao (vz 3) (bC (dx 405013 64 aD (L:=v3) h16) (ao [.v 0 1] (bC (ci 4 63 aD aD (ca h20).2 ((fun _=>rfl))) (ao (vz 2) (aa (bb 0 60 (e:=(!(gD v3 ((ab (v5-1)))).Block)) (b:=true) h17) (ao (vz 3) (bC (dx 405013 64 aD (L:=v3) h18) (ao [.v 0 1] (bC (ci 4 62 aD aD (ca h20).2 ((fun _=>rfl))) (ao (vz 2) (aa (bb 0 69 (e:=(!(gD v3 ((ab (v5-1)))).Forced)) (b:=true) h19) (ao (vz 3) (bC (dx 405013 64 aD (L:=v3) h20) (ao [.v 0 1] (bC (ci 3 59 aD aD (ca h20).2 ((fun _=>rfl))) (ao (vz 4) bE))))))))))))))))))))))))) (ag 0 (m7 hK hL1 h))
      ·exact bD 0 (nu 35 [iI v5,.bool (decide (v5>0)),.bool true,.bool v8,.bool (!v8),.bool (!v8),.bool true,.ptr 8 63,.bool ((gD v3 v5).Block),.bool (!(gD v3 v5).Block),.bool (!(gD v3 v5).Block),.bool true,.ptr 8 62,.bool ((gD v3 v5).Forced),.bool (!(gD v3 v5).Forced),.bool (!(gD v3 v5).Forced),.bool true,.ref 405013,iI v5,iI (ab (v5-1)),.eptr 405013 64 (((ab (v5-1))).toNat) 0,.eptr 405013 64 (((ab (v5-1))).toNat) 63,.bool ((gD v3 ((ab (v5-1)))).Block),.bool (!(gD v3 ((ab (v5-1)))).Block),.bool (!(gD v3 ((ab (v5-1)))).Block),.bool true,.ref 405013,iI v5,iI (ab (v5-1)),.eptr 405013 64 (((ab (v5-1))).toNat) 0,.eptr 405013 64 (((ab (v5-1))).toNat) 62,.bool ((gD v3 ((ab (v5-1)))).Forced),.bool (!(gD v3 ((ab (v5-1)))).Forced),.bool (!(gD v3 ((ab (v5-1)))).Forced),.bool false,.tup [],.tup [],.tup [],.tup [],.tup [],.tup [],.tup [],.tup [],.tup [],.bool false]) [] [] [] (ao (vz 2) (aa (bb 0 37 (e:=(decide (v5>0))) (b:=true) h12) (ao (vz 3) (aa (bb 0 41 (e:=(!v8)) (b:=true) h13) (ao (vz 4) (aa (bb 0 46 (e:=(!(gD v3 v5).Block)) (b:=true) h14) (ao (vz 4) (aa (bb 0 51 (e:=(!(gD v3 v5).Forced)) (b:=true) h15) (ao (vz 3) (bC (dx 405013 64 aD (L:=v3) h16) (ao [.v 0 1] (bC (ci 4 63 aD aD (ca h18).2 ((fun _=>rfl))) (ao (vz 2) (aa (bb 0 60 (e:=(!(gD v3 ((ab (v5-1)))).Block)) (b:=true) h17) (ao (vz 3) (bC (dx 405013 64 aD (L:=v3) h18) (ao [.v 0 1] (bC (ci 4 62 aD aD (ca h18).2 ((fun _=>rfl))) (ao (vz 2) (aa (bb 0 69 (e:=(!(gD v3 ((ab (v5-1)))).Forced)) (b:=false) h19) (aa (ah 0 1) (aa (ah 0 1) (aa (ah 0 1) (aa (ah 0 1) (aa (ah 0 1) (aa (ah 0 1) (aa (ah 0 1) (aa (ah 0 1) (aa (ah 0 1) (ao [.v 0 1] bE)))))))))))))))))))))))))))))) (ag 0 (m7 hK hL1 h))
     ·exact bD 0 (nu 35 [iI v5,.bool (decide (v5>0)),.bool true,.bool v8,.bool (!v8),.bool (!v8),.bool true,.ptr 8 63,.bool ((gD v3 v5).Block),.bool (!(gD v3 v5).Block),.bool (!(gD v3 v5).Block),.bool true,.ptr 8 62,.bool ((gD v3 v5).Forced),.bool (!(gD v3 v5).Forced),.bool (!(gD v3 v5).Forced),.bool true,.ref 405013,iI v5,iI (ab (v5-1)),.eptr 405013 64 (((ab (v5-1))).toNat) 0,.eptr 405013 64 (((ab (v5-1))).toNat) 63,.bool ((gD v3 ((ab (v5-1)))).Block),.bool (!(gD v3 ((ab (v5-1)))).Block),.bool (!(gD v3 ((ab (v5-1)))).Block),.bool false,.tup [],.tup [],.tup [],.tup [],.tup [],.tup [],.tup [],.bool false,.bool false,.tup [],.tup [],.tup [],.tup [],.tup [],.tup [],.tup [],.tup [],.tup [],.bool false]) [] [] [] (ao (vz 2) (aa (bb 0 37 (e:=(decide (v5>0))) (b:=true) h12) (ao (vz 3) (aa (bb 0 41 (e:=(!v8)) (b:=true) h13) (ao (vz 4) (aa (bb 0 46 (e:=(!(gD v3 v5).Block)) (b:=true) h14) (ao (vz 4) (aa (bb 0 51 (e:=(!(gD v3 v5).Forced)) (b:=true) h15) (ao (vz 3) (bC (dx 405013 64 aD (L:=v3) h16) (ao [.v 0 1] (bC (ci 4 63 aD aD (ca h16).2 ((fun _=>rfl))) (ao (vz 2) (aa (bb 0 60 (e:=(!(gD v3 ((ab (v5-1)))).Block)) (b:=false) h17) (aa (ah 0 1) (aa (ah 0 1) (aa (ah 0 1) (aa (ah 0 1) (aa (ah 0 1) (aa (ah 0 1) (aa (ah 0 1) (ao (vz 2) (aa (ah 0 1) (aa (ah 0 1) (aa (ah 0 1) (aa (ah 0 1) (aa (ah 0 1) (aa (ah 0 1) (aa (ah 0 1) (aa (ah 0 1) (aa (ah 0 1) (ao [.v 0 1] bE)))))))))))))))))))))))))))))))) (ag 0 (m7 hK hL1 h))
    ·exact bD 0 (nu 35 [iI v5,.bool (decide (v5>0)),.bool true,.bool v8,.bool (!v8),.bool (!v8),.bool true,.ptr 8 63,.bool ((gD v3 v5).Block),.bool (!(gD v3 v5).Block),.bool (!(gD v3 v5).Block),.bool true,.ptr 8 62,.bool ((gD v3 v5).Forced),.bool (!(gD v3 v5).Forced),.bool (!(gD v3 v5).Forced),.bool false,.tup [],.tup [],.tup [],.tup [],.tup [],.tup [],.tup [],.bool false,.bool false,.tup [],.tup [],.tup [],.tup [],.tup [],.tup [],.tup [],.bool false,.bool false,.tup [],.tup [],.tup [],.tup [],.tup [],.tup [],.tup [],.tup [],.tup [],.bool false]) [] [] [] (ao (vz 2) (aa (bb 0 37 (e:=(decide (v5>0))) (b:=true) h12) (ao (vz 3) (aa (bb 0 41 (e:=(!v8)) (b:=true) h13) (ao (vz 4) (aa (bb 0 46 (e:=(!(gD v3 v5).Block)) (b:=true) h14) (ao (vz 4) (aa (bb 0 51 (e:=(!(gD v3 v5).Forced)) (b:=false) h15) (aa (ah 0 1) (aa (ah 0 1) (aa (ah 0 1) (aa (ah 0 1) (aa (ah 0 1) (aa (ah 0 1) (aa (ah 0 1) (ao (vz 2) (aa (ah 0 1) (aa (ah 0 1) (aa (ah 0 1) (aa (ah 0 1) (aa (ah 0 1) (aa (ah 0 1) (aa (ah 0 1) (ao (vz 2) (aa (ah 0 1) (aa (ah 0 1) (aa (ah 0 1) (aa (ah 0 1) (aa (ah 0 1) (aa (ah 0 1) (aa (ah 0 1) (aa (ah 0 1) (aa (ah 0 1) (ao [.v 0 1] bE)))))))))))))))))))))))))))))))))) (ag 0 (m7 hK hL1 h))
   ·exact bD 0 (nu 35 [iI v5,.bool (decide (v5>0)),.bool true,.bool v8,.bool (!v8),.bool (!v8),.bool true,.ptr 8 63,.bool ((gD v3 v5).Block),.bool (!(gD v3 v5).Block),.bool (!(gD v3 v5).Block),.bool false,.tup [],.tup [],.tup [],.bool false,.bool false,.tup [],.tup [],.tup [],.tup [],.tup [],.tup [],.tup [],.bool false,.bool false,.tup [],.tup [],.tup [],.tup [],.tup [],.tup [],.tup [],.bool false,.bool false,.tup [],.tup [],.tup [],.tup [],.tup [],.tup [],.tup [],.tup [],.tup [],.bool false]) [] [] [] (ao (vz 2) (aa (bb 0 37 (e:=(decide (v5>0))) (b:=true) h12) (ao (vz 3) (aa (bb 0 41 (e:=(!v8)) (b:=true) h13) (ao (vz 4) (aa (bb 0 46 (e:=(!(gD v3 v5).Block)) (b:=false) h14) (aa (ah 0 1) (aa (ah 0 1) (aa (ah 0 1) (ao (vz 2) (aa (ah 0 1) (aa (ah 0 1) (aa (ah 0 1) (aa (ah 0 1) (aa (ah 0 1) (aa (ah 0 1) (aa (ah 0 1) (ao (vz 2) (aa (ah 0 1) (aa (ah 0 1) (aa (ah 0 1) (aa (ah 0 1) (aa (ah 0 1) (aa (ah 0 1) (aa (ah 0 1) (ao (vz 2) (aa (ah 0 1) (aa (ah 0 1) (aa (ah 0 1) (aa (ah 0 1) (aa (ah 0 1) (aa (ah 0 1) (aa (ah 0 1) (aa (ah 0 1) (aa (ah 0 1) (ao [.v 0 1] bE)))))))))))))))))))))))))))))))))))) (ag 0 (m7 hK hL1 h))
  ·exact bD 0 (nu 35 [iI v5,.bool (decide (v5>0)),.bool true,.bool v8,.bool (!v8),.bool (!v8),.bool false,.tup [],.tup [],.tup [],.bool false,.bool false,.tup [],.tup [],.tup [],.bool false,.bool false,.tup [],.tup [],.tup [],.tup [],.tup [],.tup [],.tup [],.bool false,.bool false,.tup [],.tup [],.tup [],.tup [],.tup [],.tup [],.tup [],.bool false,.bool false,.tup [],.tup [],.tup [],.tup [],.tup [],.tup [],.tup [],.tup [],.tup [],.bool false]) [] [] [] (ao (vz 2) (aa (bb 0 37 (e:=(decide (v5>0))) (b:=true) h12) (ao (vz 3) (aa (bb 0 41 (e:=(!v8)) (b:=false) h13) (aa (ah 0 1) (aa (ah 0 1) (aa (ah 0 1) (ao (vz 2) (aa (ah 0 1) (aa (ah 0 1) (aa (ah 0 1) (ao (vz 2) (aa (ah 0 1) (aa (ah 0 1) (aa (ah 0 1) (aa (ah 0 1) (aa (ah 0 1) (aa (ah 0 1) (aa (ah 0 1) (ao (vz 2) (aa (ah 0 1) (aa (ah 0 1) (aa (ah 0 1) (aa (ah 0 1) (aa (ah 0 1) (aa (ah 0 1) (aa (ah 0 1) (ao (vz 2) (aa (ah 0 1) (aa (ah 0 1) (aa (ah 0 1) (aa (ah 0 1) (aa (ah 0 1) (aa (ah 0 1) (aa (ah 0 1) (aa (ah 0 1) (aa (ah 0 1) (ao [.v 0 1] bE)))))))))))))))))))))))))))))))))))))) (ag 0 (m7 hK hL1 h))
 ·exact bD 0 (nu 35 [iI v5,.bool (decide (v5>0)),.bool false,.tup [],.tup [],.bool false,.bool false,.tup [],.tup [],.tup [],.bool false,.bool false,.tup [],.tup [],.tup [],.bool false,.bool false,.tup [],.tup [],.tup [],.tup [],.tup [],.tup [],.tup [],.bool false,.bool false,.tup [],.tup [],.tup [],.tup [],.tup [],.tup [],.tup [],.bool false,.bool false,.tup [],.tup [],.tup [],.tup [],.tup [],.tup [],.tup [],.tup [],.tup [],.bool false]) [] [] [] (ao (vz 2) (aa (bb 0 37 (e:=(decide (v5>0))) (b:=false) h12) (aa (ah 0 1) (aa (ah 0 1) (ao (vz 2) (aa (ah 0 1) (aa (ah 0 1) (aa (ah 0 1) (ao (vz 2) (aa (ah 0 1) (aa (ah 0 1) (aa (ah 0 1) (ao (vz 2) (aa (ah 0 1) (aa (ah 0 1) (aa (ah 0 1) (aa (ah 0 1) (aa (ah 0 1) (aa (ah 0 1) (aa (ah 0 1) (ao (vz 2) (aa (ah 0 1) (aa (ah 0 1) (aa (ah 0 1) (aa (ah 0 1) (aa (ah 0 1) (aa (ah 0 1) (aa (ah 0 1) (ao (vz 2) (aa (ah 0 1) (aa (ah 0 1) (aa (ah 0 1) (aa (ah 0 1) (aa (ah 0 1) (aa (ah 0 1) (aa (ah 0 1) (aa (ah 0 1) (aa (ah 0 1) (ao [.v 0 1] bE))))))))))))))))))))))))))))))))))))))) (ag 0 (m7 hK hL1 h))
theorem K5(hK:aq K)(hL2:E1 M w0 r v2 m2 L2)(h:qz K n v2 L2 v15 v16=some r):qf M w0 r (fB 500::P8 M w0 r m2) (DI v2 v15 v16):=by
 unfold qz at h;refine bP 4 5 3 2 (ak 2 (aA (bz bN v16) (ac ?_)));obtain⟨h38,h⟩|⟨h38,h⟩:=am h
 ·refine ai 127 h38 (uI 4 3 3 4 (ak 4 ?_));obtain⟨h39,h⟩:=aS h;refine aA (c9 440006 9 bN h39) (aA (ci 49 0 bN bN (ca h39).2 ((fun _=>rfl))) (aL 7 1 ?_));obtain⟨v17,h40,h⟩:=bind_some h;refine JM (TN hK h40) ?_ (Bool.and_eq_true_iff.2 ⟨DR _,(Bool.and_eq_true_iff.2 ⟨rfl,rfl⟩)⟩) (hv:=DR _);obtain⟨h41,h⟩:=aS h;exact aA (c9 440006 9 bN h41) (aA (Nk 440006 49 9 0 bN bN v17 (ca h41).2 ((fun _=>rfl)) (bN v17) (QR _)) (ac (ag 2 (bu (hL2 h)))))
 ·refine ai 127 h38 (aG 8 (Uy 440006 49 9 bN co v16 K0 ?_));cases h;exact eg
theorem Q4(hK:aq K)(m:Nat):E1 M w0 r v2 m (jU K n v2 m):=by
 induction m with
 | zero=>intro v15 v16 h;cases h
 | succ m ih=>intro v15 v16 h;have h:qz K n v2 (jU K n v2 m) v15 v16=some r:=h;exact br (K5 hK ih h)
theorem Ql(hK:aq K)(hL1:qG M w0 r v2 v3 m1 L1)(h:qu K n v2 v3 L1 v5 v6=some r):qf M w0 r (fB 244::sn M w0 r m1) (Ho v2 v3 v5 v6):=by
 unfold qu at h;refine bP 4 5 3 2 (ak 2 (aA (bz aD v3) (ac ?_)));obtain⟨h7,h⟩|⟨h7,h⟩:=am h
 ·refine ai 17 h7 (cN 8 9 1 3 5 (ak 2 ?_));obtain⟨h8,h⟩:=aS h;refine aA (c9 405013 64 aD h8) (aA (ci 54 0 aD aD (ca h8).2 ((fun _=>rfl))) (ac (aw 2 3 1 (bJ [1,5,6,7,8] [8] [405013,500006] ?_))));obtain⟨h9,h⟩|⟨h9,h⟩:=am h
  ·obtain⟨h10,h⟩:=aS h;obtain⟨v7,h11,h⟩:=bind_some h;exact bD 1 (nu 24 [iI v5,.bool (decide (v5>0)),.bool true,.ref 405013,iI v5,iI (ab (v5-1)),.eptr 405013 64 (((ab (v5-1))).toNat) 0,.agg (aD (gD v3 ((ab (v5-1))))),.agg (aD (gD v3 v5)),.bool v7,.bool v7]) [] [] [bT Tryz.prog 140 Tryz.f11 (pn 7826) 11] (ao (vz 2) (aa (bb 0 26 (e:=(decide (v5>0))) (b:=true) h9) (ao (vz 3) (bC (dx 405013 64 aD (L:=v3) h10) (bC (ci 54 0 aD aD (ca h10).2 ((fun _=>rfl))) (ao [.v 0 1] (aa (bL 0 1 33 (L8 hK h11)) (ao [.v 0 1] (aa (bU 0) bE))))))))) (ag 0 (FD hK hL1 h))
  ·exact bD 1 (nu 24 [iI v5,.bool (decide (v5>0)),.bool false,.tup [],.tup [],.tup [],.tup [],.tup [],.tup [],.tup [],.bool false]) [] [] [bT Tryz.prog 140 Tryz.f11 (pn 7826) 11] (ao (vz 2) (aa (bb 0 26 (e:=(decide (v5>0))) (b:=false) h9) (aa (ah 0 1) (aa (ah 0 1) (aa (ah 0 1) (aa (ah 0 1) (aa (ah 0 1) (aa (ah 0 1) (aa (ah 0 1) (ao [.v 0 1] (aa (bU 0) bE))))))))))) (ag 0 (FD hK hL1 h))
 ·refine ai 17 h7 ?_;obtain⟨h32,h⟩:=aS h;exact cr (ks':=[fB 250,.b 2,fB 63]) 9 (UJ 500006 440006 49 9 0 54 64 bN aD v6 PH Ju Ki TH h32 (ag 0 (cm (p:=pn 250) n (Q4 hK n h))))
theorem LS(hK:aq K)(m:Nat):qG M w0 r v2 v3 m (j7 K n v2 v3 m):=by
 induction m with
 | zero=>intro v5 v6 h;cases h
 | succ m ih=>intro v5 v6 h;have h:qu K n v2 v3 (j7 K n v2 v3 m) v5 v6=some r:=h;exact br (Ql hK ih h)
theorem OP(hK:aq K)(h:rB K n v1 v2=some r):aN Tryz.prog 11 [.sl (lm aO v1),iI v2] (fun v s=>v=.ref 440006∧look 440006 s.r=some ⟨49,9,lm co r⟩):=by
 refine bc (cat Tryz.f11 (pn 1)) Tryz.func11 Tryz.ntmps11 fun M w0=>(aZ ⟨[(0,.sl (lm aO v1)),(1,iI v2)],[],[],[]⟩ ?_);unfold rB at h;refine aw 6 7 3 (ak 1 ?_);obtain⟨v3,h1,h⟩:=bind_some h;exact Oc 405013 9 54 64 [] (D3 hK h1) (ac (fp 26 0 7 6 (bJ [1,5,6,7] [] [405013] (fk 500006 6 49 9 (ag 0 (cm (p:=pn 122) n (LS hK n h)))))))
end
noncomputable section
variable(M:Nat→Prop)(w0:aH)(r:Int)(v1:ba)  
variable{M w0 r v1}{K:Kn}{n:Nat}
theorem iY(hK:aq K)(h:sd K n v1=some r):aN Tryz.prog 12 [.agg (co v1)] (fun v _=>v=iI r):=by
 refine bc (cat Tryz.f12 (pn 1)) Tryz.func12 Tryz.ntmps12 fun M w0=>(aZ ⟨[(0,.agg (co v1))],[],[],[]⟩ ?_);unfold sd at h;refine aw 6 7 3 (ak 2 ?_);obtain⟨h1,h⟩:=aS h;refine aA (bM aD aD h1 (eE) ((fun _=>rfl))) (ac (aG 1 ?_));cases h;exact aU
end
noncomputable section
variable(M:Nat→Prop)(w0:aH)(r:Bool)(v1 v2:ae)(v3:Bool)(v6:Int)(m1:Nat)(L1:Int→Option Bool)
abbrev Aq:Cx:=⟨Tryz.prog,116,M,w0⟩
abbrev zd:=bodyPost Tryz.prog Tryz.f13 (bq M w0 (fun v _=>v=.bool r))
abbrev CO(ks:List av)(s:AS):=VE (Aq M w0) (zd M w0 r) ks .normal s
abbrev xk(n:Nat):av:=.c (cat Tryz.f13 (pn n))
abbrev xR:List av:=[.b 0,xk 15]
abbrev Nx:List av:=kl (Aq M w0) (zd M w0 r) xR (cat Tryz.f13 (pn 116)) m1::xR
def Fa:AS:=⟨[(2,.ptr 2 0),(3,.ptr 3 0),(5,iI v6)],[(2,aF v1),(3,aF v2)],[],[2,3]⟩
def R6:AS:=⟨[(2,.ptr 2 0),(3,.ptr 3 0),(96,.bool v3)],[(2,aF v1),(3,aF v2)],[],[2,3]⟩
abbrev Jq:Prop:=∀{v6:Int},L1 v6=some r→LP (Aq M w0) (zd M w0 r) xR (cat Tryz.f13 (pn 116)) m1 (Fa v1 v2 v6)
variable{M w0 r v1 v2 v3 v6 m1 L1}{K:Kn}{n:Nat}
theorem QP(hK:aq K)(hL1:Jq M w0 r v1 v2 m1 L1)(h:sx K n v1 v2 L1 v6=some r):CO M w0 r (xk 116::Nx M w0 r m1) (Fa v1 v2 v6):=by
 unfold sx at h;refine bP 4 5 3 2 (ak 3 (aA (bz aC v1.Kids) (ac ?_)));obtain⟨h20,h⟩|⟨h20,h⟩:=am h
 ·refine ai 101 h20 (cN 8 9 1 3 5 (bJ [2,3,5] [2,3] [] ?_));obtain⟨h21,h⟩:=aS h;obtain⟨h22,h⟩:=aS h;obtain⟨v7,h23,h⟩:=bind_some h;refine bD 0 (nu 104 [.ptr 2 66,.sl (lm aC v1.Kids),iI v6,.cptr (aF (gD v1.Kids v6)),.agg (aF (gD v1.Kids v6)),.ptr 3 66,.sl (lm aC v2.Kids),iI v6,.cptr (aF (gD v2.Kids v6)),.agg (aF (gD v2.Kids v6)),.bool v7,.bool (!v7)]) [] [] [] (ao (vz 3) (bC (bM aC aF h21 (dP) (cQ)) (ao (vz 4) (bC (bM aC aF h22 (dP) (cQ)) (ao [.v 0 1] (aa (bL 0 1 114 (hK.re h23)) (ao [.v 0 1] bE))))))) ?_;obtain⟨h24,h⟩|⟨h24,h⟩:=am h
  ·refine ai 115 h24 (aG 9 ?_);cases h;exact aU
  ·exact ai 115 h24 (ag 4 (bu (hL1 h)))
 ·refine ai 101 h20 (aG 8 ?_);cases h;exact aU
theorem N3(hK:aq K)(m:Nat):Jq M w0 r v1 v2 m (qi K n v1 v2 m):=by
 induction m with
 | zero=>intro v6 h;cases h
 | succ m ih=>intro v6 h;have h:sx K n v1 v2 (qi K n v1 v2 m) v6=some r:=h;exact br (QP hK ih h)
theorem gk(hK:aq K)(h:eK K n v1 v2 v3=some r):CO M w0 r [xk 13,xk 7] (R6 v1 v2 v3):=by
 unfold eK at h;obtain⟨h13,h⟩|⟨h13,h⟩:=am h
 ·refine ai 96 h13 (aG 5 ?_);cases h;exact aU
 ·exact ai 96 h13 (ag 6 (cm (p:=pn 58) n (N3 hK n h)))
theorem Ia(hK:aq K)(h:jJ K n v1 v2=some r):aN Tryz.prog 13 [.agg (aF v1),.agg (aF v2)] (fun v _=>v=.bool r):=by
 refine bc (cat Tryz.f13 (pn 1)) Tryz.func13 Tryz.ntmps13 fun M w0=>(aZ ⟨[(0,.agg (aF v1)),(1,.agg (aF v2))],[],[],[]⟩ ?_);unfold jJ at h;refine bP 12 13 7 4 (ak 6 ?_);obtain⟨h1,h⟩|⟨h1,h⟩:=am h
 ·exact ay 11 h1 (ac (ag 0 (gk hK h)))
 ·refine ay 11 h1 (aL 13 7 ?_);obtain⟨h2,h⟩|⟨h2,h⟩:=am h
  ·exact ay 18 h2 (ac (ag 0 (gk hK h)))
  ·refine ay 18 h2 (aL 20 7 ?_);obtain⟨h3,h⟩|⟨h3,h⟩:=am h
   ·exact ay 25 h3 (ac (ag 0 (gk hK h)))
   ·refine ay 25 h3 (aL 27 7 ?_);obtain⟨h4,h⟩|⟨h4,h⟩:=am h
    ·exact ay 32 h4 (ac (ag 0 (gk hK h)))
    ·refine ay 32 h4 (aL 34 7 ?_);obtain⟨h5,h⟩|⟨h5,h⟩:=am h
     ·exact ay 39 h5 (ac (ag 0 (gk hK h)))
     ·refine ay 39 h5 (aL 41 7 ?_);obtain⟨h6,h⟩|⟨h6,h⟩:=am h
      ·exact ay 46 h6 (ac (ag 0 (gk hK h)))
      ·refine ay 46 h6 (aL 48 7 ?_);obtain⟨h7,h⟩|⟨h7,h⟩:=am h
       ·exact ay 53 h7 (ac (ag 0 (gk hK h)))
       ·refine ay 53 h7 (aL 55 7 ?_);obtain⟨h8,h⟩|⟨h8,h⟩:=am h
        ·exact ay 60 h8 (ac (ag 0 (gk hK h)))
        ·refine ay 60 h8 (aL 62 7 ?_);obtain⟨h9,h⟩|⟨h9,h⟩:=am h
         ·exact ay 67 h9 (ac (ag 0 (gk hK h)))
         ·refine ay 67 h9 (aL 69 7 ?_);obtain⟨h10,h⟩|⟨h10,h⟩:=am h
          ·exact ay 74 h10 (ac (ag 0 (gk hK h)))
          ·refine ay 74 h10 (aL 76 7 ?_);obtain⟨h11,h⟩|⟨h11,h⟩:=am h
           ·exact ay 81 h11 (ac (ag 0 (gk hK h)))
           ·refine ay 81 h11 (aL 83 7 ?_);obtain⟨h12,h⟩|⟨h12,h⟩:=am h
            ·exact ay 88 h12 (ac (ag 0 (gk hK h)))
            ·exact ay 88 h12 (aL 85 2 (aA (bz aC v1.Kids) (aL 88 2 (aA (bz aC v2.Kids) (ac (ag 0 (gk hK h)))))))
end
end Go.Proofs.YtnpmlepplfaijaaGreat

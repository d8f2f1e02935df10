/- The runs of the functions that InlineLines reaches do what their plain forms say, part 2. Made by a program. -/
import Derived.Test.YtnpmlepplfaijaaGreatIlGk
import Derived.Test.YtnpmlepplfaijaaGreatIlP1
namespace Go.Proofs.YtnpmlepplfaijaaGreat
open Go.RowKit
set_option maxRecDepth 20000
set_option linter.all false
set_option linter.unusedVariables false
set_option linter.unusedSimpArgs false
noncomputable section
variable(M:Nat→Prop)(w0:aE)(r:(List ab)×Int)(v1:List ah)(v2:aF)(v3 v10 v11:Int)(v12:List ab)(v14:Int)(v15:List ab)(m1:Nat)(L1:Int→Int→(List ab)→Option ((List ab)×Int))
abbrev Cp:Cx:=⟨Tryz.prog,42,M,w0⟩
abbrev Cy:=bodyPost Tryz.prog Tryz.f33 (bq M w0 (fun v s=>v=.tup [.ref 35,iI r.2]∧look 35 s.r=some ⟨59,67,lm aB r.1⟩))
abbrev GQ(ks:List ao)(s:AS):=VE (Cp M w0) (Cy M w0 r) ks .normal s
abbrev tq(n:Nat):ao:=.c (cat Tryz.f33 (pn n))
abbrev zB:List ao:=[.b 0,tq 31]
abbrev zi:List ao:=kl (Cp M w0) (Cy M w0 r) zB (cat Tryz.f33 (pn 244)) m1::zB
def Vs:AS:=⟨[(0,.sl (lm aP v1)),(2,iI v3),(4,.ptr 4 0),(8,.ref 35),(9,iI v14),(10,iI v11)],[(4,aI v2)],[(35,⟨59,67,lm aB v15⟩)],[4,35]⟩
def GC:AS:=⟨[(0,.sl (lm aP v1)),(2,iI v3),(4,.ptr 4 0),(8,.ref 35),(9,iI v10),(10,iI v11)],[(4,aI v2)],[(35,⟨59,67,lm aB v12⟩)],[4,35]⟩
abbrev AG:Prop:=∀{v10:Int} {v11:Int} {v12:(List ab)},L1 v10 v11 v12=some r→LP (Cp M w0) (Cy M w0 r) zB (cat Tryz.f33 (pn 244)) m1 (GC v1 v2 v3 v10 v11 v12)
variable{M w0 r v1 v2 v3 v10 v11 v12 v14 v15 m1 L1}{K:Kn}{n:Nat}
theorem JH(hK:am K)(hL1:AG M w0 r v1 v2 v3 m1 L1)(h:jO K n v1 v2 v3 v11 L1 v14 v15=some r):GQ M w0 r (.b 1::tq 979::zi M w0 r m1) (Vs v1 v2 v3 v11 v14 v15):=by
 unfold jO at h;exact ae 2 (bt (hL1 h))
theorem Vb(hK:am K)(hL1:AG M w0 r v1 v2 v3 m1 L1)(h:gN K n v1 v2 v3 L1 v10 v11 v12=some r):GQ M w0 r (tq 244::zi M w0 r m1) (GC v1 v2 v3 v10 v11 v12):=by
 unfold gN at h;refine bK 4 5 3 2 (aj 2 (az (bv aP v1) (ac ?_)));obtain⟨h13,h⟩|⟨h13,h⟩:=ak h
 ·refine ag 14 h13 (cE 8 9 1 3 5 (aj 2 ?_));obtain⟨h14,h⟩:=aL h;refine az (bN aP aX h14 (eW) (dC)) (ac ?_);obtain⟨v13,h15,h⟩:=bL h;refine bw (ks':=tq 3913 :: .b 1::tq 979::zi M w0 r m1) 0 ⟨[(0,.sl (lm aP v1)),(2,iI v3),(4,.ptr 4 0),(8,.ref 35),(9,iI v10),(10,iI v11),(22,.bool v13)],[(4,aI v2)],[(35,⟨59,67,lm aB v12⟩)],[4,35]⟩ ?_ (by subst h15;kernel_rfl);obtain⟨h16,h⟩|⟨h16,h⟩:=ak h
  ·refine ag 22 h16 (aw 4 5 2 (bF [0,2,4,8,9,10] [4] [35] ?_));obtain⟨h17,h⟩:=aL h;obtain⟨h18,h⟩:=aL h;exact bP 2 (nu 23 [.ref 35,iI v10,iI v3,.ptr 4 38,iI v2.LineHeight,.sl (lm aP v1),iI v11,.cptr (aX (gD v1 v11)),.cptr (List.drop 55 (aX (gD v1 v11))),.str ((gD v1 v11).Text),.agg (List.set (aC ({ bb with Kind:=2,Y:=v10,W:=v3,H:=v2.LineHeight,Text:=(gD v1 v11).Text }:ab)) 66 (.nils)),.sl (lm aB [({ bb with Kind:=2,Y:=v10,W:=v3,H:=v2.LineHeight,Text:=(gD v1 v11).Text }:ab)])]) [] [] [ii 35 35 ⟨59,67,lm aB (v12++[({ bb with Kind:=2,Y:=v10,W:=v3,H:=v2.LineHeight,Text:=(gD v1 v11).Text }:ab)])⟩,bR Tryz.prog 42 Tryz.f33 (pn 15652) 13] (ay [.v 0 1,.v 0 2,.v 0 2,.v 0 2,.v 0 2,.v 0 2,.v 0 2] (ai (iE (lo:=0) (k:=2) (eH ⟨(by kernel_rfl),(eT (bN aP aX h17 (eW) (dC)) (by kernel_rfl))⟩ (eH ⟨(by kernel_rfl),(eT (bN aP aX h17 (eW) (dC)) (by kernel_rfl))⟩ jN))) (ay [.v 0 2,.v 0 2,.v 0 2] (bI (er aB ([({ bb with Kind:=2,Y:=v10,W:=v3,H:=v2.LineHeight,Text:=(gD v1 v11).Text }:ab)]:List ab) (new:=[aC ({ bb with Kind:=2,Y:=v10,W:=v3,H:=v2.LineHeight,Text:=(gD v1 v11).Text }:ab)]) (by simp only[List.map_cons,List.map_nil,cH])) (ai (gF (m:=0) (cp 35 35 59 67 aB (rfl) (dF) h18)) (ai (bS 1) bO)))))) (ae 1 (JH hK hL1 h))
  ·exact ag 22 h16 (ae 2 (JH hK hL1 h))
 ·refine ag 14 h13 (aG 8 ?_);cases h;exact sN
theorem QW(hK:am K)(m:Nat):AG M w0 r v1 v2 v3 m (il K n v1 v2 v3 m):=by
 induction m with
 | zero=>intro v10 v11 v12 h;cases h
 | succ m ih=>intro v10 v11 v12 h;have h:gN K n v1 v2 v3 (il K n v1 v2 v3 m) v10 v11 v12=some r:=h;exact bp (Vb hK ih h)
theorem K4(hK:am K)(h:jy K n v1 v2 v3=some r):aN Tryz.prog 33 [.sl (lm aP v1),.agg (aI v2),iI v3] (fun v s=>v=.tup [.ref 35,iI r.2]∧look 35 s.r=some ⟨59,67,lm aB r.1⟩):=by
 refine bc (cat Tryz.f33 (pn 1)) Tryz.func33 Tryz.ntmps33 fun M w0=>(aZ ⟨[(0,.sl (lm aP v1)),(1,.agg (aI v2)),(2,iI v3)],[],[],[]⟩ ?_);unfold jy at h;exact eO 122 0 31 10 (bF [0,2,4,8,9,10] [4] [] (eX 35 8 59 67 (ae 0 (cd (p:=pn 122) n (QW hK n h)))))
end
noncomputable section
variable(M:Nat→Prop)(w0:aE)(r:Int)(v1:aq)  
variable{M w0 r v1}{K:Kn}{n:Nat}
theorem pV(hK:am K)(h:fJ K n v1=some r):aN Tryz.prog 72 [.agg (bJ v1)] (fun v _=>v=iI r):=by
 refine bc (cat Tryz.f72 (pn 1)) Tryz.func72 Tryz.ntmps72 fun M w0=>(aZ ⟨[(0,.agg (bJ v1))],[],[],[]⟩ ?_);unfold fJ at h;refine aG 5 ?_;cases h;exact aV
end
noncomputable section
variable(M:Nat→Prop)(w0:aE)(r v1:ab)(v2:Int)(v3:Int×Bool)(v5:Int)  
abbrev OG(n:Nat):ao:=.c (cat Tryz.f73 (pn n))
abbrev Om:Cx:=⟨Tryz.prog,45,M,w0⟩
abbrev OL:=bodyPost Tryz.prog Tryz.f73 (bq M w0 (fun v _=>v=.agg (aC r)))
abbrev N7(ks:List ao)(s:AS):=VE (Om M w0) (OL M w0 r) ks .normal s
def OP:AS:=⟨[(2,.ptr 2 0),(4,.ptr 4 0)],[(2,aC ({ v1 with X:=(aa (v1.X+v3.1)),Y:=v5 }:ab)),(4,List.set (aC bb) 66 (.nils))],[],[2,4]⟩
variable{M w0 r v1 v2 v3 v5}{K:Kn}{n:Nat}
theorem EI(hK:am K)(h:ly K n v1 v3 v5=some r):N7 M w0 r [OG 63] (OP v1 v3 v5):=by
 unfold ly at h;refine aG 3 ?_;cases h;exact aV
theorem Iz(hK:am K)(h:k8 K n v1 v2=some r):aN Tryz.prog 73 [.agg (aC v1),iI v2] (fun v _=>v=.agg (aC r)):=by
 refine bc (cat Tryz.f73 (pn 1)) Tryz.func73 Tryz.ntmps73 fun M w0=>(aZ ⟨[(0,.agg (aC v1)),(1,iI v2)],[],[],[]⟩ ?_);unfold k8 at h;refine aw 13 7 5 ?_;obtain⟨h1,h⟩|⟨h1,h⟩:=ak h
 ·refine ag 12 h1 (aG 5 ?_);cases h;exact aV
 ·refine ag 12 h1 (dU 2 3 3 (aj 4 ?_));obtain⟨v3,h2,h⟩:=bind_some h;refine aD (fl hK h2) (ac (aw 13 7 5 ?_));obtain⟨h3,h⟩|⟨h3,h⟩:=ak h
  ·refine ag 31 h3 (aw 4 5 2 (aj 3 ?_));obtain⟨v4,h4,h⟩:=bind_some h;exact aD (fl hK h4) (ac (ae 1 (EI hK h)))
  ·exact ag 31 h3 (ae 2 (EI hK h))
end
noncomputable section
variable(M:Nat→Prop)(w0:aE)(r:aR)(v1:aF)(v2 v3:Int)(v4:aR)(v7 v8 v9:Int)(v10 v11:(Int×Bool))(v12:Bool)(v13:V4 Int)  
abbrev yn(n:Nat):ao:=.c (cat Tryz.f130 (pn n))
abbrev T5:Cx:=⟨Tryz.prog,89,M,w0⟩
abbrev Nt:=bodyPost Tryz.prog Tryz.f130 (bq M w0 (fun v _=>v=.agg (bi r)))
abbrev Ds(ks:List ao)(s:AS):=VE (T5 M w0) (Nt M w0 r) ks .normal s
def Zu:AS:=⟨[(4,.ptr 4 0),(5,.ptr 5 0)],[(4,bi dv),(5,bi ({ v4 with Margin:=v13,Content:=v8 }:aR))],[],[4,5]⟩
def Zr:AS:=⟨[(4,.ptr 4 0),(5,.ptr 5 0),(8,iI (aa (v3-v9))),(10,.bool v10.2),(12,.bool v11.2),(59,.bool v12)],[(4,bi dv),(5,bi ({ v4 with Content:=v8 }:aR))],[],[4,5]⟩
def Py:AS:=⟨[(1,iI v3),(2,.ptr 2 0),(4,.ptr 4 0),(5,.ptr 5 0),(6,iI v7)],[(2,aI v1),(4,bi dv),(5,bi v4)],[],[2,4,5]⟩
variable{M w0 r v1 v2 v3 v4 v7 v8 v9 v10 v11 v12 v13}{K:Kn}{n:Nat}
theorem yb(hK:am K)(h:lf K n v4 v8 v13=some r):Ds M w0 r [.b 0,yn 4095] (Zu v4 v8 v13):=by
 unfold lf at h;refine aG 4 ?_;cases h;exact aV
theorem ET(hK:am K)(h:nC K n v3 v4 v8 v9 v10 v11 v12=some r):Ds M w0 r [yn 16377,.b 0,yn 4095] (Zr v3 v4 v8 v9 v10 v11 v12):=by
 unfold nC at h;obtain⟨h12,h⟩|⟨h12,h⟩:=ak h
 ·exact ag 59 h12 (ae 4 (yb hK h))
 ·refine ag 59 h12 (bh 7 3 ?_);obtain⟨h13,h⟩|⟨h13,h⟩:=ak h
  ·exact ag 76 h13 (ae 2 (yb hK h))
  ·refine ag 76 h13 (bh 7 3 ?_);obtain⟨h14,h⟩|⟨h14,h⟩:=ak h
   ·exact ag 82 h14 (ae 2 (yb hK h))
   ·exact ag 82 h14 (ae 2 (yb hK h))
theorem H5(hK:am K)(h:nL K n v1 v3 v4 v7=some r):Ds M w0 r [yn 63] (Py v1 v3 v4 v7):=by
 unfold nL at h;refine aw 2 3 1 (aj 3 ?_);obtain⟨v8,h6,h⟩:=bind_some h;refine aD (yj hK h6) (ac (aw 2 3 1 (aj 2 ?_)));obtain⟨v9,h7,h⟩:=bind_some h;refine aD (vS hK h7) (ac (aw 2 3 1 (aj 4 ?_)));obtain⟨v10,h8,h⟩:=bind_some h;refine aD (fl hK h8) (ac (aw 2 3 1 (aj 4 ?_)));obtain⟨v11,h9,h⟩:=bind_some h;refine aD (fl hK h9) (ac (aw 5 3 3 ?_));obtain⟨h10,h⟩|⟨h10,h⟩:=ak h
 ·refine ag 57 h10 (aG 5 ?_);cases h;exact aV
 ·refine ag 57 h10 (cE 8 9 0 3 5 (aj 3 ?_));obtain⟨h11,h⟩|⟨h11,h⟩:=ak h
  ·exact av 62 h11 (ac (ae 0 (ET hK h)))
  ·exact av 62 h11 (ac (ae 0 (ET hK h)))
theorem S7(hK:am K)(h:su K n v1 v2=some r):aN Tryz.prog 130 [.agg (aI v1),iI v2] (fun v _=>v=.agg (bi r)):=by
 refine bc (cat Tryz.f130 (pn 1)) Tryz.func130 Tryz.ntmps130 fun M w0=>(aZ ⟨[(0,.agg (aI v1)),(1,iI v2)],[],[],[]⟩ ?_);unfold su at h;refine aw 6 7 3 (aj 1 ?_);obtain⟨v3,h1,h⟩:=bind_some h;refine aD (fY hK h1) (ac (aw 2 3 1 (aj 2 ?_)));obtain⟨v4,h2,h⟩:=bind_some h;refine aD (xl hK h2) (ac (aw 2 3 1 (aj 3 ?_)));obtain⟨v5,h3,h⟩:=bind_some h;refine aD (fl hK h3) (ac (aw 5 3 3 ?_));obtain⟨h4,h⟩|⟨h4,h⟩:=ak h
 ·refine ag 26 h4 (bh 2 1 (aj 2 ?_));obtain⟨v6,h5,h⟩:=bind_some h;exact aD (vS hK h5) (ac (ae 0 (H5 hK h)))
 ·exact ag 26 h4 (ae 2 (H5 hK h))
end
noncomputable section
variable(M:Nat→Prop)(w0:aE)(r:ab)(v1:ah)(v2:Int)  
variable{M w0 r v1 v2}{K:Kn}{n:Nat}
theorem X6(hK:am K)(h:fv K n v1 v2=some r):aN Tryz.prog 121 [.agg (aX v1),iI v2] (fun v _=>v=.agg (aC r)):=by
 refine bc (cat Tryz.f121 (pn 1)) Tryz.func121 Tryz.ntmps121 fun M w0=>(aZ ⟨[(0,.agg (aX v1)),(1,iI v2)],[],[],[]⟩ ?_);unfold fv at h;refine aw 6 7 3 (bF [1,2,4] [2,4] [] ?_);obtain⟨v3,h1,h⟩:=bind_some h;obtain⟨v4,h2,h⟩:=bind_some h;refine bP 1 (nu 5 [.agg (aX v1),.ptr 2 2,.agg (aI v1.Style),iI v2,.agg (bi v3),.agg (aC v4)]) [] [] [bR Tryz.prog 11 Tryz.f121 (pn 6) 6] (ay (vz 4) (ai (bU 0 1 9 (S7 hK h1)) (ai (bU 0 1 10 (hK.lN h2)) (ai (bS 0) bO)))) (aG 1 ?_);cases h;exact aV
end
noncomputable section
variable(M:Nat→Prop)(w0:aE)(r:aq)(v1 v2:aq)  
variable{M w0 r v1 v2}{K:Kn}{n:Nat}
theorem u9(hK:am K)(h:hH K n v1 v2=some r):aN Tryz.prog 124 [.agg (bJ v1),.agg (bJ v2)] (fun v _=>v=.agg (bJ r)):=by
 refine bc (cat Tryz.f124 (pn 1)) Tryz.func124 Tryz.ntmps124 fun M w0=>(aZ ⟨[(0,.agg (bJ v1)),(1,.agg (bJ v2))],[],[],[]⟩ ?_);unfold hH at h;refine aG 5 ?_;cases h;exact aV
end
noncomputable section
variable(M:Nat→Prop)(w0:aE)(r:ct)(v1:List ab)(v16 v17:Int)(v18:aq)(v19:Bool)(v20:aq)(v21:List ab)(v22:aq)(v24:Int)(v25:aq)(v26:Int)(v27:aq)(v28:Bool)(v29 v30:aq)(m1:Nat)(L1:Int→Int→aq→Bool→aq→(List ab)→Option ct)
abbrev BQ:Cx:=⟨Tryz.prog,62,M,w0⟩
abbrev CT:=bodyPost Tryz.prog Tryz.f122 (bq M w0 (fun v s=>v=.agg (List.set (df ({ r with List:=[] }:ct)) 0 (.ref 53))∧look 53 s.r=some ⟨59,67,lm aB r.List⟩))
abbrev uy(ks:List ao)(s:AS):=VE (BQ M w0) (CT M w0 r) ks .normal s
abbrev i8(n:Nat):ao:=.c (cat Tryz.f122 (pn n))
abbrev zZ:List ao:=[.b 0,i8 31]
abbrev xi:List ao:=kl (BQ M w0) (CT M w0 r) zZ (cat Tryz.f122 (pn 244)) m1::zZ
def aaa:AS:=⟨[(0,.sl (lm aB v1)),(2,.ptr 2 0),(3,.ptr 3 0),(4,.ptr 4 0),(5,iI v16),(6,.ptr 6 0)],[(2,List.set (df nK) 0 (.nils)),(3,List.set (df (⟨[],v26,v27,bX,v28⟩:ct)) 0 (.ref 53)),(4,bJ v29),(6,aC ({ (gD v1 v16)with Y:=v24 }:ab))],[(53,⟨59,67,lm aB v21⟩)],[2,3,4,6,53]⟩
def Ss:AS:=⟨[(0,.sl (lm aB v1)),(2,.ptr 2 0),(3,.ptr 3 0),(4,.ptr 4 0),(5,iI v16),(6,.ptr 6 0)],[(2,List.set (df nK) 0 (.nils)),(3,List.set (df (⟨[],v17,v25,bX,v19⟩:ct)) 0 (.ref 53)),(4,bJ v22),(6,aC ({ (gD v1 v16)with Y:=v24 }:ab))],[(53,⟨59,67,lm aB v21⟩)],[2,3,4,6,53]⟩
def OM:AS:=⟨[(0,.sl (lm aB v1)),(2,.ptr 2 0),(3,.ptr 3 0),(4,.ptr 4 0),(5,iI v16),(6,.ptr 6 0)],[(2,List.set (df nK) 0 (.nils)),(3,List.set (df (⟨[],v17,v18,bX,v19⟩:ct)) 0 (.ref 53)),(4,bJ v22),(6,aC ({ (gD v1 v16)with Y:=v24 }:ab))],[(53,⟨59,67,lm aB v21⟩)],[2,3,4,6,53]⟩
def Z2:AS:=⟨[(2,.ptr 2 0),(3,.ptr 3 0),(4,.ptr 4 0)],[(2,List.set (df nK) 0 (.nils)),(3,List.set (df (⟨[],v17,v30,bX,v19⟩:ct)) 0 (.ref 53)),(4,bJ v20)],[(53,⟨59,67,lm aB v21⟩)],[2,3,4,53]⟩
def Fu:AS:=⟨[(0,.sl (lm aB v1)),(2,.ptr 2 0),(3,.ptr 3 0),(4,.ptr 4 0),(5,iI v16)],[(2,List.set (df nK) 0 (.nils)),(3,List.set (df (⟨[],v17,v18,bX,v19⟩:ct)) 0 (.ref 53)),(4,bJ v20)],[(53,⟨59,67,lm aB v21⟩)],[2,3,4,53]⟩
abbrev vF:Prop:=∀{v16:Int} {v17:Int} {v18:aq} {v19:Bool} {v20:aq} {v21:(List ab)},L1 v16 v17 v18 v19 v20 v21=some r→LP (BQ M w0) (CT M w0 r) zZ (cat Tryz.f122 (pn 244)) m1 (Fu v1 v16 v17 v18 v19 v20 v21)
variable{M w0 r v1 v16 v17 v18 v19 v20 v21 v22 v24 v25 v26 v27 v28 v29 v30 m1 L1}{K:Kn}{n:Nat}
theorem K7(hK:am K)(hL1:vF M w0 r v1 m1 L1)(h:mu K n v1 v16 v21 v24 L1 v26 v27 v28 v29=some r):uy M w0 r (i8 62623 :: .b 1::i8 979::xi M w0 r m1) (aaa v1 v16 v21 v24 v26 v27 v28 v29):=by
 unfold mu at h;refine aj 3 (az (er aB ([({ (gD v1 v16)with Y:=v24 }:ab)]:List ab) (new:=[aC ({ (gD v1 v16)with Y:=v24 }:ab)]) (by simp only[List.map_cons,List.map_nil,cH])) ?_);obtain⟨h22,h⟩:=aL h;exact az (cp 53 53 59 67 aB (rfl) (dF) h22) (ac (ae 2 (bt (hL1 h))))
theorem JG(hK:am K)(hL1:vF M w0 r v1 m1 L1)(h:mY K n v1 v16 v17 v19 v21 v22 v24 L1 v25=some r):uy M w0 r (i8 500981::i8 62623 :: .b 1::i8 979::xi M w0 r m1) (Ss v1 v16 v17 v19 v21 v22 v24 v25):=by
 unfold mY at h;exact ae 5 (K7 hK hL1 h)
theorem Hy(hK:am K)(hL1:vF M w0 r v1 m1 L1)(h:nc K n v1 v16 v17 v18 v19 v21 v22 L1 v24=some r):uy M w0 r (i8 31311 :: .b 1::i8 979::xi M w0 r m1) (OM v1 v16 v17 v18 v19 v21 v22 v24):=by
 unfold nc at h;refine aw 5 3 3 ?_;obtain⟨h20,h⟩|⟨h20,h⟩:=ak h
 ·refine ag 35 h20 (aw 9 5 4 ?_);obtain⟨h21,h⟩|⟨h21,h⟩:=ak h
  ·exact ag 37 h21 (ae 2 (JG hK hL1 h))
  ·exact ag 37 h21 (ae 2 (JG hK hL1 h))
 ·exact ag 35 h20 (ae 2 (K7 hK hL1 h))
theorem Kq(hK:am K)(h:lP K n v17 v19 v20 v21 v30=some r):uy M w0 r [i8 63] (Z2 v17 v19 v20 v21 v30):=by
 unfold lP at h;refine aG 5 ?_;cases h;exact d9
theorem To(hK:am K)(hL1:vF M w0 r v1 m1 L1)(h:lK K n v1 L1 v16 v17 v18 v19 v20 v21=some r):uy M w0 r (i8 244::xi M w0 r m1) (Fu v1 v16 v17 v18 v19 v20 v21):=by
 unfold lK at h;refine bK 4 5 3 2 (aj 2 (az (bv aB v1) (ac ?_)));obtain⟨h15,h⟩|⟨h15,h⟩:=ak h
 ·refine ag 12 h15 (cE 8 9 1 3 5 (aj 2 ?_));obtain⟨h16,h⟩:=aL h;refine az (bN aB aC h16 (dF) (cH)) (ac (aw 2 3 1 (aj 3 ?_)));obtain⟨v22,h17,h⟩:=bind_some h;refine aD (u9 hK h17) (ac (aw 13 7 5 ?_));obtain⟨h18,h⟩|⟨h18,h⟩:=ak h
  ·refine ag 26 h18 (bh 2 1 (bF [0,2,3,4,5,6] [2,3,4,6] [53] ?_));obtain⟨v23,h19,h⟩:=bind_some h;exact bP 1 (nu 27 [.ptr 3 1,iI v17,.agg (bJ v22),iI v23,iI (aa (v17+v23)),.ptr 6 3]) [] [] [bR Tryz.prog 62 Tryz.f122 (pn 125242) 6] (ay (vz 3) (ai (bU 0 1 30 (pV hK h19)) (ay (vz 2) (ai (bS 0) bO)))) (ae 0 (Hy hK hL1 h))
  ·exact ag 26 h18 (ae 2 (Hy hK hL1 h))
 ·refine ag 12 h15 (lH 5 3 8 ?_);obtain⟨h23,h⟩|⟨h23,h⟩:=ak h
  ·exact ag 56 h23 (ae 2 (Kq hK h))
  ·exact ag 56 h23 (ae 2 (Kq hK h))
theorem Wj(hK:am K)(m:Nat):vF M w0 r v1 m (lA K n v1 m):=by
 induction m with
 | zero=>intro v16 v17 v18 v19 v20 v21 h;cases h
 | succ m ih=>intro v16 v17 v18 v19 v20 v21 h;have h:lK K n v1 (lA K n v1 m) v16 v17 v18 v19 v20 v21=some r:=h;exact bp (To hK ih h)
theorem P9(hK:am K)(h:l3 K n v1=some r):aN Tryz.prog 122 [.sl (lm aB v1)] (fun v s=>v=.agg (List.set (df ({ r with List:=[] }:ct)) 0 (.ref 53))∧look 53 s.r=some ⟨59,67,lm aB r.List⟩):=by
 refine bc (cat Tryz.f122 (pn 1)) Tryz.func122 Tryz.ntmps122 fun M w0=>(aZ ⟨[(0,.sl (lm aB v1))],[],[],[]⟩ ?_);unfold l3 at h;exact eO 122 0 31 10 (bF [0,2,3,4,5] [2,3,4] [] (vo 53 3 0 59 67 (ae 0 (cd (p:=pn 122) n (Wj hK n h)))))
end
noncomputable section
variable(M:Nat→Prop)(w0:aE)(r:aq)(v1:Int)  
variable{M w0 r v1}{K:Kn}{n:Nat}
theorem EJ(hK:am K)(h:nf K n v1=some r):aN Tryz.prog 123 [iI v1] (fun v _=>v=.agg (bJ r)):=by
 refine bc (cat Tryz.f123 (pn 1)) Tryz.func123 Tryz.ntmps123 fun M w0=>(aZ ⟨[(0,iI v1)],[],[],[]⟩ ?_);unfold nf at h;refine aG 5 ?_;cases h;exact aV
end
noncomputable section
variable(M:Nat→Prop)(w0:aE)(r:ab)(v1:ah)(v2:aR)(v3:Bool)(v4:Int)(v5:Bool)(v6:List ah)(v9:Int)(v10:List ab)(v14:Int)(v15 v16:aq)(v17:Bool)(v18:List ab)(v19:Int×Bool)(v20 v21 v22:Bool)(v23 v24:aq)(v26:Bool)(v28:Int)(v29:aq)(v30 v33:Bool)(v36:Int)(v37 v38:aq)(v39:Bool)(v40 v59 v60:Int)(v61:List ab)(v65:ab)(m1 m2:Nat)(L1:Int→(List ab)→Option ab)(L2:Int→Int→(List ab)→Option ab)
abbrev ua:Cx:=⟨Tryz.prog,281,M,w0⟩
abbrev wh:=bodyPost Tryz.prog Tryz.f107 (bq M w0 (fun v s=>v=.agg (List.set (aC ({ r with Kids:=[] }:ab)) 66 (.ref 278))∧look 278 s.r=some ⟨59,67,lm aB r.Kids⟩))
abbrev gH(ks:List ao)(s:AS):=VE (ua M w0) (wh M w0 r) ks .normal s
abbrev da(n:Nat):ao:=.c (cat Tryz.f107 (pn n))
abbrev Ca:List ao:=[.b 3,da 33554431]
abbrev AO:List ao:=kl (ua M w0) (wh M w0 r) Ca (cat Tryz.f107 (pn 268435444)) m2::Ca
abbrev Ai:List ao:=[.b 0,da 8171,da 511]
abbrev MT:List ao:=kl (ua M w0) (wh M w0 r) Ai (cat Tryz.f107 (pn 65364)) m1::Ai
def MW:AS:=⟨[(4,.ptr 4 0),(6,.ptr 6 0),(8,.ptr 8 0),(9,.bool v5),(11,.ptr 11 0),(22,iI v28),(24,iI v59),(25,.ptr 25 0)],[(4,bi v2),(6,List.set (aC bb) 66 (.nils)),(8,List.set (aC (⟨1,v1.Node,v2.Margin.a3,0,v4,v60,0,⟨#[]⟩,v1.Style,v37,v38,v39,[]⟩:ab)) 66 (.ref 278)),(11,List.set (df (⟨[],v14,v15,v16,v17⟩:ct)) 0 (.ref 1077)),(25,aC v65)],[(278,⟨59,67,lm aB v61⟩),(1077,⟨59,67,lm aB v18⟩)],[4,6,8,11,25,278,1077]⟩
def Ku:AS:=⟨[(4,.ptr 4 0),(6,.ptr 6 0),(8,.ptr 8 0),(9,.bool v5),(11,.ptr 11 0),(22,iI v28),(24,iI v59)],[(4,bi v2),(6,List.set (aC bb) 66 (.nils)),(8,List.set (aC (⟨1,v1.Node,v2.Margin.a3,0,v4,v60,0,⟨#[]⟩,v1.Style,v37,v38,v39,[]⟩:ab)) 66 (.ref 278)),(11,List.set (df (⟨[],v14,v15,v16,v17⟩:ct)) 0 (.ref 1077))],[(278,⟨59,67,lm aB v61⟩),(1077,⟨59,67,lm aB v18⟩)],[4,6,8,11,278,1077]⟩
def Qe:AS:=⟨[(4,.ptr 4 0),(6,.ptr 6 0),(8,.ptr 8 0),(9,.bool v5),(11,.ptr 11 0),(22,iI v28),(23,iI v40)],[(4,bi v2),(6,List.set (aC bb) 66 (.nils)),(8,List.set (aC (⟨1,v1.Node,v2.Margin.a3,0,v4,0,0,⟨#[]⟩,v1.Style,v37,v38,v39,[]⟩:ab)) 66 (.nils)),(11,List.set (df (⟨[],v14,v15,v16,v17⟩:ct)) 0 (.ref 1077))],[(1077,⟨59,67,lm aB v18⟩)],[4,6,8,11,1077]⟩
def aat:AS:=⟨[(4,.ptr 4 0),(6,.ptr 6 0),(8,.ptr 8 0),(9,.bool v5),(11,.ptr 11 0),(16,iI v19.1),(17,.bool v19.2),(22,iI v28),(23,iI v36)],[(4,bi v2),(6,List.set (aC bb) 66 (.nils)),(8,List.set (aC (⟨1,v1.Node,v2.Margin.a3,0,v4,0,0,⟨#[]⟩,v1.Style,v37,v38,v39,[]⟩:ab)) 66 (.nils)),(11,List.set (df (⟨[],v14,v15,v16,v17⟩:ct)) 0 (.ref 1077))],[(1077,⟨59,67,lm aB v18⟩)],[4,6,8,11,1077]⟩
def U3:AS:=⟨[(4,.ptr 4 0),(6,.ptr 6 0),(8,.ptr 8 0),(9,.bool v5),(11,.ptr 11 0),(16,iI v19.1),(17,.bool v19.2),(18,.bool v21),(19,.bool v22),(21,.ptr 21 0),(22,iI v28),(23,iI 0),(186,.bool v33)],[(4,bi v2),(6,List.set (aC bb) 66 (.nils)),(8,List.set (aC (⟨1,v1.Node,v2.Margin.a3,0,v4,0,0,⟨#[]⟩,v1.Style,v29,v24,false,[]⟩:ab)) 66 (.nils)),(11,List.set (df (⟨[],v14,v15,v16,v17⟩:ct)) 0 (.ref 1077)),(21,bJ v24)],[(1077,⟨59,67,lm aB v18⟩)],[4,6,8,11,21,1077]⟩
def Vc:AS:=⟨[(4,.ptr 4 0),(6,.ptr 6 0),(8,.ptr 8 0),(9,.bool v5),(11,.ptr 11 0),(16,iI v19.1),(17,.bool v19.2),(18,.bool v21),(19,.bool v22),(21,.ptr 21 0),(22,iI v28),(23,iI 0),(158,.bool v30)],[(4,bi v2),(6,List.set (aC bb) 66 (.nils)),(8,List.set (aC (⟨1,v1.Node,v2.Margin.a3,0,v4,0,0,⟨#[]⟩,v1.Style,v29,v24,false,[]⟩:ab)) 66 (.nils)),(11,List.set (df (⟨[],v14,v15,v16,v17⟩:ct)) 0 (.ref 1077)),(21,bJ v24)],[(1077,⟨59,67,lm aB v18⟩)],[4,6,8,11,21,1077]⟩
def Mu:AS:=⟨[(4,.ptr 4 0),(6,.ptr 6 0),(8,.ptr 8 0),(9,.bool v5),(11,.ptr 11 0),(16,iI v19.1),(17,.bool v19.2),(18,.bool v21),(19,.bool v22),(21,.ptr 21 0),(22,iI v28),(23,iI 0)],[(4,bi v2),(6,List.set (aC bb) 66 (.nils)),(8,List.set (aC (⟨1,v1.Node,v2.Margin.a3,0,v4,0,0,⟨#[]⟩,v1.Style,v29,v24,false,[]⟩:ab)) 66 (.nils)),(11,List.set (df (⟨[],v14,v15,v16,v17⟩:ct)) 0 (.ref 1077)),(21,bJ v24)],[(1077,⟨59,67,lm aB v18⟩)],[4,6,8,11,21,1077]⟩
def Ny:AS:=⟨[(4,.ptr 4 0),(6,.ptr 6 0),(8,.ptr 8 0),(9,.bool v5),(11,.ptr 11 0),(16,iI v19.1),(17,.bool v19.2),(18,.bool v21),(19,.bool v22),(21,.ptr 21 0),(22,iI 0),(23,iI 0),(154,.bool v26)],[(4,bi v2),(6,List.set (aC bb) 66 (.nils)),(8,List.set (aC (⟨1,v1.Node,v2.Margin.a3,0,v4,0,0,⟨#[]⟩,v1.Style,v23,v24,false,[]⟩:ab)) 66 (.nils)),(11,List.set (df (⟨[],v14,v15,v16,v17⟩:ct)) 0 (.ref 1077)),(21,bJ v24)],[(1077,⟨59,67,lm aB v18⟩)],[4,6,8,11,21,1077]⟩
def PF:AS:=⟨[(4,.ptr 4 0),(6,.ptr 6 0),(8,.ptr 8 0),(9,.bool v5),(11,.ptr 11 0),(16,iI v19.1),(17,.bool v19.2),(18,.bool v21),(19,.bool v22)],[(4,bi v2),(6,List.set (aC bb) 66 (.nils)),(8,List.set (aC ({ bb with Kind:=1,Node:=v1.Node,X:=v2.Margin.a3,W:=v4,Style:=v1.Style }:ab)) 66 (.nils)),(11,List.set (df (⟨[],v14,v15,v16,v17⟩:ct)) 0 (.ref 1077))],[(1077,⟨59,67,lm aB v18⟩)],[4,6,8,11,1077]⟩
def Xf:AS:=⟨[(2,.bool v20),(4,.ptr 4 0),(6,.ptr 6 0),(8,.ptr 8 0),(9,.bool v5),(11,.ptr 11 0),(16,iI v19.1),(17,.bool v19.2),(18,.bool v21)],[(4,bi v2),(6,List.set (aC bb) 66 (.nils)),(8,List.set (aC ({ bb with Kind:=1,Node:=v1.Node,X:=v2.Margin.a3,W:=v4,Style:=v1.Style }:ab)) 66 (.nils)),(11,List.set (df (⟨[],v14,v15,v16,v17⟩:ct)) 0 (.ref 1077))],[(1077,⟨59,67,lm aB v18⟩)],[4,6,8,11,1077]⟩
def TI:AS:=⟨[(2,.bool v20),(4,.ptr 4 0),(6,.ptr 6 0),(8,.ptr 8 0),(9,.bool v5),(11,.ptr 11 0),(16,iI v19.1),(17,.bool v19.2)],[(4,bi v2),(6,List.set (aC bb) 66 (.nils)),(8,List.set (aC ({ bb with Kind:=1,Node:=v1.Node,X:=v2.Margin.a3,W:=v4,Style:=v1.Style }:ab)) 66 (.nils)),(11,List.set (df (⟨[],v14,v15,v16,v17⟩:ct)) 0 (.ref 1077))],[(1077,⟨59,67,lm aB v18⟩)],[4,6,8,11,1077]⟩
def Z9:AS:=⟨[(2,.bool v3),(4,.ptr 4 0),(6,.ptr 6 0),(7,.ptr 7 0),(8,.ptr 8 0),(9,.bool v5),(11,.ptr 11 0)],[(4,bi v2),(6,List.set (aC bb) 66 (.nils)),(7,aI v1.Style),(8,List.set (aC ({ bb with Kind:=1,Node:=v1.Node,X:=v2.Margin.a3,W:=v4,Style:=v1.Style }:ab)) 66 (.nils)),(11,List.set (df (⟨[],v14,v15,v16,v17⟩:ct)) 0 (.ref 1077))],[(1077,⟨59,67,lm aB v18⟩)],[4,6,7,8,11,1077]⟩
def IQ:AS:=⟨[(2,.bool v3),(4,.ptr 4 0),(6,.ptr 6 0),(7,.ptr 7 0),(8,.ptr 8 0),(9,.bool v5),(10,.ref 1057),(11,.ptr 11 0),(12,.ref 75),(13,iI v9)],[(4,bi v2),(6,List.set (aC bb) 66 (.nils)),(7,aI v1.Style),(8,List.set (aC ({ bb with Kind:=1,Node:=v1.Node,X:=v2.Margin.a3,W:=v4,Style:=v1.Style }:ab)) 66 (.nils)),(11,List.set (df nK) 0 (.nils))],[(75,⟨59,67,lm aB v10⟩),(1057,⟨52,59,lm aP v6⟩)],[4,6,7,8,11,75,1057]⟩
abbrev E9:Prop:=∀{v9:Int} {v10:(List ab)},L1 v9 v10=some r→LP (ua M w0) (wh M w0 r) Ai (cat Tryz.f107 (pn 65364)) m1 (IQ v1 v2 v3 v4 v5 v6 v9 v10)
abbrev zj:Prop:=∀{v59:Int} {v60:Int} {v61:(List ab)},L2 v59 v60 v61=some r→LP (ua M w0) (wh M w0 r) Ca (cat Tryz.f107 (pn 268435444)) m2 (Ku v1 v2 v4 v5 v14 v15 v16 v17 v18 v28 v37 v38 v39 v59 v60 v61)
variable{M w0 r v1 v2 v3 v4 v5 v6 v9 v10 v14 v15 v16 v17 v18 v19 v20 v21 v22 v23 v24 v26 v28 v29 v30 v33 v36 v37 v38 v39 v40 v59 v60 v61 v65 m1 m2 L1 L2}{K:Kn}{n:Nat}
theorem Gi(hK:am K)(hL2:zj M w0 r v1 v2 v4 v5 v14 v15 v16 v17 v18 v28 v37 v38 v39 m2 L2)(h:lW K n v1 v2 v4 v5 v14 v15 v16 v17 v18 v28 v37 v38 v39 v59 v60 v61 L2 v65=some r):gH M w0 r (da 34359736911 :: .b 4::da 1073741779::AO M w0 r m2) (MW v1 v2 v4 v5 v14 v15 v16 v17 v18 v28 v37 v38 v39 v59 v60 v61 v65):=by
 unfold lW at h;refine aj 3 (az (er aB ([v65]:List ab) (new:=[aC v65]) (by simp only[List.map_cons,List.map_nil,cH])) ?_);obtain⟨h73,h⟩:=aL h;exact az (cp 278 278 59 67 aB (rfl) (dF) h73) (ac (ae 2 (bt (hL2 h))))
theorem U7(hK:am K)(hL2:zj M w0 r v1 v2 v4 v5 v14 v15 v16 v17 v18 v28 v37 v38 v39 m2 L2)(h:lx K n v1 v2 v4 v5 v14 v15 v16 v17 v18 v28 v37 v38 v39 L2 v59 v60 v61=some r):gH M w0 r (da 268435444::AO M w0 r m2) (Ku v1 v2 v4 v5 v14 v15 v16 v17 v18 v28 v37 v38 v39 v59 v60 v61):=by
 unfold lx at h;refine bK 4 5 3 2 (aj 3 (az (bv aB v18) (ac ?_)));obtain⟨h67,h⟩|⟨h67,h⟩:=ak h
 ·refine ag 237 h67 (cE 8 9 4 3 5 (aj 3 ?_));obtain⟨h68,h⟩:=aL h;refine az (dh 1077 67 aB h68) (az (co 59 0 aB aC (ci h68).2 (cH)) (ac ?_));obtain⟨v62,h69,h⟩:=bL h;obtain⟨v63,h70,h⟩:=bL h;refine bw (ks':=da 68719473821::da 34359736911 :: .b 4::da 1073741779::AO M w0 r m2) 7 ⟨[(4,.ptr 4 0),(6,.ptr 6 0),(8,.ptr 8 0),(9,.bool v5),(11,.ptr 11 0),(22,iI v28),(24,iI v59),(25,.ptr 25 0),(269,.bool v5)],[(4,bi v2),(6,List.set (aC bb) 66 (.nils)),(8,List.set (aC (⟨1,v1.Node,v2.Margin.a3,0,v4,v60,0,⟨#[]⟩,v1.Style,v37,v38,v39,[]⟩:ab)) 66 (.ref 278)),(11,List.set (df (⟨[],v14,v15,v16,v17⟩:ct)) 0 (.ref 1077)),(25,aC ({ (gD v18 v59)with X:=v62,Y:=v63 }:ab))],[(278,⟨59,67,lm aB v61⟩),(1077,⟨59,67,lm aB v18⟩)],[4,6,8,11,25,278,1077]⟩ ?_ (by subst h70;subst h69;kernel_rfl);obtain⟨h71,h⟩|⟨h71,h⟩:=ak h
  ·refine ag 269 h71 (bh 2 1 (aj 3 ?_));obtain⟨v64,h72,h⟩:=bind_some h;exact aD (Iz hK h72) (ac (ae 0 (Gi hK hL2 h)))
  ·exact ag 269 h71 (ae 2 (Gi hK hL2 h))
 ·refine ag 237 h67 (aG 8 ?_);cases h;exact d9
theorem ZU(hK:am K)(m:Nat):zj M w0 r v1 v2 v4 v5 v14 v15 v16 v17 v18 v28 v37 v38 v39 m (lq K n v1 v2 v4 v5 v14 v15 v16 v17 v18 v28 v37 v38 v39 m):=by
 induction m with
 | zero=>intro v59 v60 v61 h;cases h
 | succ m ih=>intro v59 v60 v61 h;have h:lx K n v1 v2 v4 v5 v14 v15 v16 v17 v18 v28 v37 v38 v39 (lq K n v1 v2 v4 v5 v14 v15 v16 v17 v18 v28 v37 v38 v39 m) v59 v60 v61=some r:=h;exact bp (U7 hK ih h)
theorem Fc(hK:am K)(h:k9 K n v1 v2 v4 v5 v14 v15 v16 v17 v18 v28 v37 v38 v39 v40=some r):gH M w0 r [da 8388607] (Qe v1 v2 v4 v5 v14 v15 v16 v17 v18 v28 v37 v38 v39 v40):=by
 unfold k9 at h;exact eO 26 3 7 6 (bF [4,6,8,9,11,22,24] [4,6,8,11] [1077] (vo 278 8 66 59 67 (ae 0 (cd (p:=pn 134217722) n (ZU hK n h)))))
theorem qu(hK:am K)(h:gu K n v1 v2 v4 v5 v14 v15 v16 v17 v18 v19 v28 v36 v37 v38 v39=some r):gH M w0 r [.b 2,da 2097151] (aat v1 v2 v4 v5 v14 v15 v16 v17 v18 v19 v28 v36 v37 v38 v39):=by
 unfold gu at h;refine dU 13 7 6 ?_;obtain⟨h42,h⟩|⟨h42,h⟩:=ak h
 ·exact ag 213 h42 (ae 2 (Fc hK h))
 ·exact ag 213 h42 (ae 2 (Fc hK h))
theorem J7(hK:am K)(h:mB K n v1 v2 v4 v5 v14 v15 v16 v17 v18 v19 v21 v22 v24 v28 v29 v33=some r):gH M w0 r [da 134217631,.b 2,da 2097151] (U3 v1 v2 v4 v5 v14 v15 v16 v17 v18 v19 v21 v22 v24 v28 v29 v33):=by
 unfold mB at h;obtain⟨h37,h⟩|⟨h37,h⟩:=ak h
 ·refine ag 186 h37 (aw 4 5 2 (aj 3 ?_));obtain⟨v34,h38,h⟩:=bind_some h;exact aD (u9 hK h38) (ac (ae 3 (qu hK h)))
 ·refine ag 186 h37 (bh 7 3 ?_);obtain⟨h39,h⟩|⟨h39,h⟩:=ak h
  ·refine ag 200 h39 (bh 2 1 (aj 3 ?_));obtain⟨v35,h40,h⟩:=bind_some h;exact aD (u9 hK h40) (ac (ae 0 (qu hK h)))
  ·refine ag 200 h39 (bh 7 3 ?_);obtain⟨h41,h⟩|⟨h41,h⟩:=ak h
   ·exact ag 207 h41 (ae 2 (qu hK h))
   ·exact ag 207 h41 (ae 2 (qu hK h))
theorem KM(hK:am K)(h:lp K n v1 v2 v4 v5 v14 v15 v16 v17 v18 v19 v21 v22 v24 v28 v29 v30=some r):gH M w0 r [da 8388601,.b 2,da 2097151] (Vc v1 v2 v4 v5 v14 v15 v16 v17 v18 v19 v21 v22 v24 v28 v29 v30):=by
 unfold lp at h;obtain⟨h32,h⟩|⟨h32,h⟩:=ak h
 ·refine ag 158 h32 (aw 4 5 2 (aj 3 ?_));obtain⟨v31,h33,h⟩:=bind_some h;exact aD (u9 hK h33) (ac (ae 1 (qu hK h)))
 ·refine ag 158 h32 (bh 7 3 ?_);obtain⟨h34,h⟩|⟨h34,h⟩:=ak h
  ·refine ag 174 h34 (bh 2 1 (bF [4,6,8,9,11,16,17,22] [4,6,8,11] [1077] ?_));obtain⟨v32,h35,h⟩:=bind_some h;exact bP 1 (nu 178 [iI v28,.ptr 11 1,iI v14,iI (aa (v28+v14)),.ptr 11 4,.agg (bJ v16),iI v32,iI (aa ((aa (v28+v14))+v32))]) [] [] [bR Tryz.prog 281 Tryz.f107 (pn 67108814) 8] (ay (vz 6) (ai (bU 0 1 184 (pV hK h35)) (ay [.v 0 1] (ai (bS 0) bO)))) (ae 0 (qu hK h))
  ·refine ag 174 h34 (aw 6 7 2 (aj 2 ?_));obtain⟨h36,h⟩|⟨h36,h⟩:=ak h
   ·exact av 188 h36 (ac (ae 0 (J7 hK h)))
   ·exact av 188 h36 (ac (ae 0 (J7 hK h)))
theorem Bj(hK:am K)(h:kZ K n v1 v2 v4 v5 v14 v15 v16 v17 v18 v19 v21 v22 v24 v28 v29=some r):gH M w0 r [da 1048575] (Mu v1 v2 v4 v5 v14 v15 v16 v17 v18 v19 v21 v22 v24 v28 v29):=by
 unfold kZ at h;refine c9 8 9 2 3 3 (aj 4 ?_);obtain⟨h31,h⟩|⟨h31,h⟩:=ak h
 ·exact av 162 h31 (ac (ae 0 (KM hK h)))
 ·exact av 162 h31 (ac (ae 0 (KM hK h)))
theorem Ia(hK:am K)(h:m9 K n v1 v2 v4 v5 v14 v15 v16 v17 v18 v19 v21 v22 v23 v24 v26=some r):gH M w0 r [da 8388599,da 1048575] (Ny v1 v2 v4 v5 v14 v15 v16 v17 v18 v19 v21 v22 v23 v24 v26):=by
 unfold m9 at h;obtain⟨h29,h⟩|⟨h29,h⟩:=ak h
 ·refine ag 154 h29 (bh 2 1 (aj 2 ?_));obtain⟨v27,h30,h⟩:=bind_some h;exact aD (pV hK h30) (ac (ae 0 (Bj hK h)))
 ·exact ag 154 h29 (ae 2 (Bj hK h))
theorem CH(hK:am K)(h:iz K n v1 v2 v4 v5 v14 v15 v16 v17 v18 v19 v21 v22=some r):gH M w0 r [da 8191] (PF v1 v2 v4 v5 v14 v15 v16 v17 v18 v19 v21 v22):=by
 unfold iz at h;refine aw 2 3 1 (aj 3 ?_);obtain⟨v23,h24,h⟩:=bind_some h;refine aD (EJ hK h24) (ac (aw 2 3 1 (aj 3 ?_)));obtain⟨v24,h25,h⟩:=bind_some h;refine aD (EJ hK h25) (ac (aw 125 63 11 ?_));obtain⟨h26,h⟩|⟨h26,h⟩:=ak h
 ·refine ag 142 h26 (bh 2 1 (aj 3 ?_));obtain⟨v25,h27,h⟩:=bind_some h;exact aD (u9 hK h27) (ac (ae 0 (Bj hK h)))
 ·refine ag 142 h26 (aw 6 7 2 (aj 4 ?_));obtain⟨h28,h⟩|⟨h28,h⟩:=ak h
  ·exact av 151 h28 (ac (ae 0 (Ia hK h)))
  ·exact av 151 h28 (ac (ae 0 (Ia hK h)))
theorem Gx(hK:am K)(h:lU K n v1 v2 v4 v5 v14 v15 v16 v17 v18 v19 v20 v21=some r):gH M w0 r [da 4095] (Xf v1 v2 v4 v5 v14 v15 v16 v17 v18 v19 v20 v21):=by
 unfold lU at h;refine aw 2 3 1 (aj 2 ?_);obtain⟨h22,h⟩|⟨h22,h⟩:=ak h
 ·refine av 116 h22 (aJ 12 10 ?_);obtain⟨h23,h⟩|⟨h23,h⟩:=ak h
  ·exact av 126 h23 (ac (ae 0 (CH hK h)))
  ·exact av 126 h23 (ac (ae 0 (CH hK h)))
 ·exact av 116 h22 (ac (ae 0 (CH hK h)))
theorem Mj(hK:am K)(h:ng K n v1 v2 v4 v5 v14 v15 v16 v17 v18 v19 v20=some r):gH M w0 r [da 2047] (TI v1 v2 v4 v5 v14 v15 v16 v17 v18 v19 v20):=by
 unfold ng at h;refine aw 2 3 1 (aj 2 ?_);obtain⟨h21,h⟩|⟨h21,h⟩:=ak h
 ·exact av 105 h21 (ac (ae 0 (Gx hK h)))
 ·exact av 105 h21 (ac (ae 0 (Gx hK h)))
theorem IC(hK:am K)(h:iA K n v1 v2 v3 v4 v5 v14 v15 v16 v17 v18=some r):gH M w0 r [da 511] (Z9 v1 v2 v3 v4 v5 v14 v15 v16 v17 v18):=by
 unfold iA at h;refine aw 2 3 1 (aj 2 ?_);obtain⟨v19,h19,h⟩:=bind_some h;refine aD (L0 hK h19) (ac (aw 2 3 1 (aj 2 ?_)));obtain⟨h20,h⟩|⟨h20,h⟩:=ak h
 ·exact av 99 h20 (ac (ae 0 (Mj hK h)))
 ·exact av 99 h20 (ac (ae 0 (Mj hK h)))
theorem Yq(hK:am K)(hL1:E9 M w0 r v1 v2 v3 v4 v5 v6 m1 L1)(h:mE K n v1 v2 v3 v4 v5 v6 L1 v9 v10=some r):gH M w0 r (da 65364::MT M w0 r m1) (IQ v1 v2 v3 v4 v5 v6 v9 v10):=by
 unfold mE at h;refine bK 4 5 3 2 (aj 2 (az (bv aP v6) (ac ?_)));obtain⟨h13,h⟩|⟨h13,h⟩:=ak h
 ·refine ag 63 h13 (vL 4 1 3 4 (bF [2,4,6,7,8,9,10,11,12,13] [4,6,7,8,11] [75,1057] ?_));obtain⟨h14,h⟩:=aL h;obtain⟨v11,h15,h⟩:=bind_some h;obtain⟨h16,h⟩:=aL h;exact bP 2 (nu 66 [.ref 75,.ref 1057,iI v9,.eptr 1057 59 (v9.toNat) 0,.agg (aX (gD v6 v9)),.ptr 4 12,iI v2.Content,.agg (aC v11),.sl (lm aB [v11])]) [] [] [ii 75 75 ⟨59,67,lm aB (v10++[v11])⟩,bR Tryz.prog 281 Tryz.f107 (pn 522916) 10] (ay [.v 0 1,.v 0 2,.v 0 2] (ai (iE (lo:=0) (k:=2) (eH ⟨(by kernel_rfl),(eT (dg 1057 59 aP (L:=v6) h14) (by kernel_rfl))⟩ (eH ⟨(by kernel_rfl),(eT (dg 1057 59 aP (L:=v6) h14) (by kernel_rfl))⟩ jN))) (ai (iE (lo:=0) (k:=2) (eH ⟨(by kernel_rfl),(eT (co 52 0 aP aX (ci h14).2 (dC)) (by kernel_rfl))⟩ (eH ⟨(by kernel_rfl),(eT (co 52 0 aP aX (ci h14).2 (dC)) (by kernel_rfl))⟩ jN))) (ay [.v 0 2,.v 0 2] (ai (bU 0 1 73 (X6 hK h15)) (bI (er aB ([v11]:List ab) (new:=[aC v11]) (by simp only[List.map_cons,List.map_nil,cH])) (ai (gF (m:=0) (cp 75 75 59 67 aB (rfl) (dF) h16)) (ai (bS 1) bO)))))))) (ae 2 (bt (hL1 h)))
 ·refine ag 63 h13 (cz (ks':=[da 8171,da 511]) 5 (aj 1 (iP 75 ?_)));obtain⟨v12,h17,h⟩:=bind_some h;exact dm 1077 (P9 hK h17) (mT (i:=0) (by kernel_rfl)) (ac (ae 0 (IC hK h)))
theorem SV(hK:am K)(m:Nat):E9 M w0 r v1 v2 v3 v4 v5 v6 m (kg K n v1 v2 v3 v4 v5 v6 m):=by
 induction m with
 | zero=>intro v9 v10 h;cases h
 | succ m ih=>intro v9 v10 h;have h:mE K n v1 v2 v3 v4 v5 v6 (kg K n v1 v2 v3 v4 v5 v6 m) v9 v10=some r:=h;exact bp (Yq hK ih h)
theorem GG(hK:am K)(h:kI K n v1 v2 v3=some r):aN Tryz.prog 107 [.agg (aX v1),.agg (bi v2),.bool v3] (fun v s=>v=.agg (List.set (aC ({ r with Kids:=[] }:ab)) 66 (.ref 278))∧look 278 s.r=some ⟨59,67,lm aB r.Kids⟩):=by
 refine bc (cat Tryz.f107 (pn 1)) Tryz.func107 Tryz.ntmps107 fun M w0=>(aZ ⟨[(0,.agg (aX v1)),(1,.agg (bi v2)),(2,.bool v3)],[],[],[]⟩ ?_);unfold kI at h;obtain⟨v4,h1,h⟩:=bL h;refine bw (ks':=[da 62,da 63]) 9 ⟨[(2,.bool v3),(3,.ptr 3 0),(4,.ptr 4 0),(6,.ptr 6 0),(7,.ptr 7 0),(8,.ptr 8 0)],[(3,aX v1),(4,bi v2),(6,List.set (aC bb) 66 (.nils)),(7,aI v1.Style),(8,List.set (aC ({ bb with Kind:=1,Node:=v1.Node,X:=v2.Margin.a3,W:=v4,Style:=v1.Style }:ab)) 66 (.nils))],[],[3,4,6,7,8]⟩ ?_ (by subst h1;kernel_rfl);refine aj 1 ?_;obtain⟨v5,h2,h⟩:=bind_some h;refine aD (Ft hK h2) (ac (aw 2 3 1 (aj 1 ?_)));obtain⟨v6,h3,h⟩:=bind_some h;refine dm 1057 (AB hK h3) (fH 25) (ac (aw 13 7 5 ?_));obtain⟨h4,h⟩|⟨h4,h⟩:=ak h
 ·exact ag 59 h4 (eO 42 0 11 7 (bF [2,4,6,7,8,9,10,11,12,13] [4,6,7,8,11] [1057] (eX 75 12 59 67 (ae 0 (cd (p:=pn 32682) n (SV hK n h))))))
 ·refine ag 59 h4 (aw 6 7 2 (aj 4 (iP 1057 ?_)));obtain⟨v13,h18,h⟩:=bind_some h;exact dm 1083 (K4 hK h18) (nZ (i:=0) rfl) (ac (aj 3 (az (bv aB v13.1) (ac (bF [2,4,6,7,8,9,11] [4,6,7,8,11] [1083] (EX 1083 1077 (ae 0 (IC hK h))))))))
end
noncomputable section
variable(M:Nat→Prop)(w0:aE)(r:ab)(v1:ah)(v2:aR)  
variable{M w0 r v1 v2}{K:Kn}{n:Nat}
theorem OX(hK:am K)(h:jT K n v1 v2=some r):aN Tryz.prog 70 [.agg (aX v1),.agg (bi v2)] (fun v s=>v=.agg (List.set (aC ({ r with Kids:=[] }:ab)) 66 (.ref 1007))∧look 1007 s.r=some ⟨59,67,lm aB r.Kids⟩):=by
 refine bc (cat Tryz.f70 (pn 1)) Tryz.func70 Tryz.ntmps70 fun M w0=>(aZ ⟨[(0,.agg (aX v1)),(1,.agg (bi v2))],[],[],[]⟩ ?_);unfold jT at h;refine aw 6 7 3 (aj 2 ?_);obtain⟨v3,h1,h⟩:=bind_some h;refine dm 1007 (GG hK h1) (mT (i:=66) (by kernel_rfl)) (ac (aG 1 ?_));cases h;exact d9
end
noncomputable section
variable(M:Nat→Prop)(w0:aE)(r v1:Int)  
variable{M w0 r v1}{K:Kn}{n:Nat}
theorem w9(hK:am K)(h:jq K n v1=some r):aN Tryz.prog 81 [iI v1] (fun v _=>v=iI r):=by
 refine bc (cat Tryz.f81 (pn 1)) Tryz.func81 Tryz.ntmps81 fun M w0=>(aZ ⟨[(0,iI v1)],[],[],[]⟩ ?_);unfold jq at h;refine aG 5 ?_;cases h;exact aV
end
noncomputable section
variable(M:Nat→Prop)(w0:aE)(r v1:Int)  
variable{M w0 r v1}{K:Kn}{n:Nat}
theorem I0(hK:am K)(h:pL K n v1=some r):aN Tryz.prog 82 [iI v1] (fun v _=>v=iI r):=by
 refine bc (cat Tryz.f82 (pn 1)) Tryz.func82 Tryz.ntmps82 fun M w0=>(aZ ⟨[(0,iI v1)],[],[],[]⟩ ?_);unfold pL at h;refine aw 6 7 3 (aj 1 ?_);obtain⟨v2,h1,h⟩:=bind_some h;refine aD (w9 hK h1) (ac (aG 3 ?_));cases h;exact aV
end
noncomputable section
variable(M:Nat→Prop)(w0:aE)(r v1:Int)  
variable{M w0 r v1}{K:Kn}{n:Nat}
theorem RG(hK:am K)(h:ur K n v1=some r):aN Tryz.prog 108 [iI v1] (fun v _=>v=iI r):=by
 refine bc (cat Tryz.f108 (pn 1)) Tryz.func108 Tryz.ntmps108 fun M w0=>(aZ ⟨[(0,iI v1)],[],[],[]⟩ ?_);unfold ur at h;refine aw 13 7 5 ?_;obtain⟨h1,h⟩|⟨h1,h⟩:=ak h
 ·refine ag 4 h1 (aG 5 ?_);cases h;exact aV
 ·refine ag 4 h1 (aG 5 ?_);cases h;exact aV
end
noncomputable section
variable(M:Nat→Prop)(w0:aE)(r:Int×Int)(v1:aF)  
variable{M w0 r v1}{K:Kn}{n:Nat}
theorem ER(hK:am K)(h:pR K n v1=some r):aN Tryz.prog 74 [.agg (aI v1)] (fun v _=>v=.tup [iI r.1,iI r.2]):=by
 refine bc (cat Tryz.f74 (pn 1)) Tryz.func74 Tryz.ntmps74 fun M w0=>(aZ ⟨[(0,.agg (aI v1))],[],[],[]⟩ ?_);unfold pR at h;refine aw 14 15 5 (bF [1,4] [1] [] ?_);obtain⟨v2,h1,h⟩:=bind_some h;obtain⟨v3,h2,h⟩:=bind_some h;obtain⟨v4,h3,h⟩:=bind_some h;refine bP 1 (nu 9 [.ptr 1 37,iI v1.FontSize,iI v2,iI (max v1.LineHeight 0),.ptr 1 37,iI v1.FontSize,iI v3,iI (aa ((max v1.LineHeight 0)-v3)),iI v4,iI (aa (v2+v4))]) [] [] [bR Tryz.prog 23 Tryz.f74 (pn 14) 10] (ay (vz 2) (ai (bU 0 1 11 (w9 hK h1)) (ay (vz 3) (ai (bU 0 1 15 (I0 hK h2)) (ay [.v 0 1] (ai (bU 0 1 17 (RG hK h3)) (ay [.v 0 1] (ai (bS 0) bO)))))))) (aG 3 ?_);cases h;exact d8
end
noncomputable section
variable(M:Nat→Prop)(w0:aE)(r:Int)(v1 v2:Int)  
variable{M w0 r v1 v2}{K:Kn}{n:Nat}
theorem TF(hK:am K)(h:vr K n v1 v2=some r):aN Tryz.prog 75 [.int .i32 v1,iI v2] (fun v _=>v=iI r):=by
 refine bc (cat Tryz.f75 (pn 1)) Tryz.func75 Tryz.ntmps75 fun M w0=>(aZ ⟨[(0,.int .i32 v1),(1,iI v2)],[],[],[]⟩ ?_);unfold vr at h;refine aw 6 7 3 (aj 1 ?_);obtain⟨v3,h1,h⟩:=bind_some h;refine aD (Jw hK h1) (aJ 3 1 ?_);obtain⟨v4,h2,h⟩:=bind_some h;refine aD (w9 hK h2) (ac (aG 3 ?_));cases h;exact aV
end
noncomputable section
variable(M:Nat→Prop)(w0:aE)(r v1:aO)(v2:Int)(v4:aF)(v12:Int×Int)(v19:Int)(v20:ByteArray)(v21 v22 v23:Int)(v24:ByteArray)(v25:Bool)(v26 v27:Int)(m1:Nat)(L1:Int→ByteArray→Int→Int→Option aO)
abbrev CZ:Cx:=⟨Tryz.prog,108,M,w0⟩
abbrev Av:=bodyPost Tryz.prog Tryz.f37 (bq M w0 (fun v _=>v=.agg (bQ r)))
abbrev Au(ks:List ao)(s:AS):=VE (CZ M w0) (Av M w0 r) ks .normal s
abbrev jD(n:Nat):ao:=.c (cat Tryz.f37 (pn n))
abbrev Dd:List ao:=[.b 0,jD 255]
abbrev wY:List ao:=kl (CZ M w0) (Av M w0 r) Dd (cat Tryz.f37 (pn 2036)) m1::Dd
def aai:AS:=⟨[(2,.ptr 2 0),(4,.ptr 4 0),(6,.ptr 6 0),(9,iI v19)],[(2,List.set (bQ (⟨v1.Things,v24,v26,v27,v12.1,v12.2,v1.Glued,v1.Forced,[]⟩:aO)) 8 (.nils)),(4,List.set (List.set (bj dE) 0 (.nils)) 8 (.nils)),(6,aI v4)],[],[2,4,6]⟩
def ZX:AS:=⟨[(2,.ptr 2 0),(4,.ptr 4 0),(6,.ptr 6 0),(9,iI v19),(11,iI v23),(99,.bool v25)],[(2,List.set (bQ (⟨v1.Things,v24,v21,v22,v12.1,v12.2,v1.Glued,v1.Forced,[]⟩:aO)) 8 (.nils)),(4,List.set (List.set (bj dE) 0 (.nils)) 8 (.nils)),(6,aI v4)],[],[2,4,6]⟩
def I2:AS:=⟨[(2,.ptr 2 0),(4,.ptr 4 0),(6,.ptr 6 0),(9,iI v19)],[(2,List.set (bQ (⟨v1.Things,v20,v21,v22,v12.1,v12.2,v1.Glued,v1.Forced,[]⟩:aO)) 8 (.nils)),(4,List.set (List.set (bj dE) 0 (.nils)) 8 (.nils)),(6,aI v4)],[],[2,4,6]⟩
abbrev zf:Prop:=∀{v19:Int} {v20:ByteArray} {v21:Int} {v22:Int},L1 v19 v20 v21 v22=some r→LP (CZ M w0) (Av M w0 r) Dd (cat Tryz.f37 (pn 2036)) m1 (I2 v1 v4 v12 v19 v20 v21 v22)
variable{M w0 r v1 v2 v4 v12 v19 v20 v21 v22 v23 v24 v25 v26 v27 m1 L1}{K:Kn}{n:Nat}
theorem Is(hK:am K)(hL1:zf M w0 r v1 v4 v12 m1 L1)(h:nU K n v1 v4 v12 v19 v24 L1 v26 v27=some r):Au M w0 r (.b 1::jD 8147::wY M w0 r m1) (aai v1 v4 v12 v19 v24 v26 v27):=by
 unfold nU at h;exact ae 2 (bt (hL1 h))
theorem Gj(hK:am K)(hL1:zf M w0 r v1 v4 v12 m1 L1)(h:l8 K n v1 v4 v12 v19 v21 v22 v23 v24 L1 v25=some r):Au M w0 r (jD 260687 :: .b 1::jD 8147::wY M w0 r m1) (ZX v1 v4 v12 v19 v21 v22 v23 v24 v25):=by
 unfold l8 at h;obtain⟨h30,h⟩|⟨h30,h⟩:=ak h
 ·exact ag 99 h30 (ae 2 (Is hK hL1 h))
 ·exact ag 99 h30 (ae 2 (Is hK hL1 h))
theorem YM(hK:am K)(hL1:zf M w0 r v1 v4 v12 m1 L1)(h:lD K n v1 v4 v12 L1 v19 v20 v21 v22=some r):Au M w0 r (jD 2036::wY M w0 r m1) (I2 v1 v4 v12 v19 v20 v21 v22):=by
 unfold lD at h;refine bK 4 5 3 2 (aj 3 (az (bv aQ v1.Things) (ac ?_)));obtain⟨h24,h⟩|⟨h24,h⟩:=ak h
 ·refine ag 69 h24 (cE 8 9 1 3 5 (aj 3 ?_));obtain⟨h25,h⟩:=aL h;refine az (bN aQ aQ h25 (jn) ((fun _=>rfl))) (ac (aw 2 3 1 (aj 4 ?_)));obtain⟨v23,h26,h⟩:=bind_some h;refine aD (TF hK h26) (ac (aw 2 3 1 (aj 6 ?_)));obtain⟨h27,h⟩:=aL h;refine az (Un h27) (ac ?_);obtain⟨v24,h28,h⟩:=bL h;refine bw (ks':=jD 260686::jD 260687 :: .b 1::jD 8147::wY M w0 r m1) 1 ⟨[(2,.ptr 2 0),(4,.ptr 4 0),(6,.ptr 6 0),(9,iI v19),(10,.ptr 10 0),(11,iI v23)],[(2,List.set (bQ (⟨v1.Things,v24,v21,v22,v12.1,v12.2,v1.Glued,v1.Forced,[]⟩:aO)) 8 (.nils)),(4,List.set (List.set (bj dE) 0 (.nils)) 8 (.nils)),(6,aI v4),(10,aQ (gD v1.Things v19))],[],[2,4,6,10]⟩ ?_ (by subst h28;kernel_rfl);refine aj 3 ?_;obtain⟨h29,h⟩|⟨h29,h⟩:=ak h
  ·exact av 92 h29 (aJ 6 3 (az (bv aQ v1.Things) (ac (ae 0 (Gj hK hL1 h)))))
  ·exact av 92 h29 (ac (ae 0 (Gj hK hL1 h)))
 ·refine ag 69 h24 (aG 8 ?_);cases h;exact aV
theorem Vq(hK:am K)(m:Nat):zf M w0 r v1 v4 v12 m (kW K n v1 v4 v12 m):=by
 induction m with
 | zero=>intro v19 v20 v21 v22 h;cases h
 | succ m ih=>intro v19 v20 v21 v22 h;have h:lD K n v1 v4 v12 (kW K n v1 v4 v12 m) v19 v20 v21 v22=some r:=h;exact bp (YM hK ih h)
theorem aap(hK:am K)(h:fF K n v1 v2=some r):aN Tryz.prog 37 [.agg (bQ v1),iI v2] (fun v _=>v=.agg (bQ r)):=by
 refine bc (cat Tryz.f37 (pn 1)) Tryz.func37 Tryz.ntmps37 fun M w0=>(aZ ⟨[(0,.agg (bQ v1)),(1,iI v2)],[],[],[]⟩ ?_);unfold fF at h;obtain⟨h1,h⟩:=aL h;refine HZ 0 (v:=.agg (bQ v1)) (v':=.agg (List.set (bQ v1) 8 .nils)) (by kernel_rfl) (congrArg AV.agg (Q8 v1 h1)) rfl (aw 6 7 3 (aj 2 ?_));obtain⟨h2,h⟩:=aL h;refine az (bN aQ aQ h2 (jn) ((fun _=>rfl))) (ac ?_);obtain⟨v3,h3,h⟩:=bL h;obtain⟨v4,h4,h⟩:=bL h;refine bw (ks':=[jD 61,jD 31]) 5 ⟨[(1,iI v2),(2,.ptr 2 0),(4,.ptr 4 0),(5,.ptr 5 0),(6,.ptr 6 0),(20,.bool v1.Forced)],[(2,List.set (bQ ({ v1 with Box:=[] }:aO)) 8 (.nils)),(4,List.set (List.set (bj dE) 0 (.nils)) 8 (.nils)),(5,aQ v3),(6,aI v4)],[],[2,4,5,6]⟩ ?_ (by subst h4;subst h3;kernel_rfl);obtain⟨h5,h⟩|⟨h5,h⟩:=ak h
 ·refine ag 20 h5 (aG 5 ?_);cases h;exact aV
 ·refine ag 20 h5 (dU 5 3 5 ?_);obtain⟨h6,h⟩|⟨h6,h⟩:=ak h
  ·refine ag 23 h6 (aw 4 5 2 (bF [1,2,4,5,6] [2,4,5,6] [] ?_));obtain⟨v5,h7,h⟩:=bind_some h;obtain⟨v6,h8,h⟩:=bind_some h;refine bP 1 (nu 24 [.agg (aI v4),iI v2,.ptr 5 0,.agg (aX v3.Box),iI v2,iI v5,.agg (bi v6)]++nu 7 [.ptr 7 0]) [(7,bi dv)] [] [bR Tryz.prog 108 Tryz.f37 (pn 500) 8] (ay (vz 5) (ai (bU 0 1 29 (XD hK h7)) (ai (bU 0 1 30 (xl hK h8)) (ai (m5 0 1 75 7 (bi dv)) (ai (bS 0) bO))))) (aw 2 3 1 (aj 3 ?_));obtain⟨v7,h9,h⟩:=bind_some h;refine dm 1034 (OX hK h9) (mT (i:=66) (by kernel_rfl)) (ac (aw 2 3 1 (aj 1 ?_)));obtain⟨v8,h10,h⟩:=bind_some h;refine aD (vS hK h10) (ac (aw 2 3 1 (bF [1,2,4,8] [2,4,8] [1034] ?_)));obtain⟨v9,h11,h⟩:=bind_some h;obtain⟨v10,h12,h⟩:=bind_some h;refine bP 1 (nu 38 [.ptr 8 5,iI v7.H,.ptr 8 61,.agg (bJ v7.Before),iI v9,iI (aa (v7.H+v9)),.ptr 8 63,.agg (bJ v7.After),iI v10,iI (aa ((aa (v7.H+v9))+v10)),.ptr 2 4]) [] [] [bR Tryz.prog 108 Tryz.f37 (pn 4014) 11] (ay (vz 4) (ai (bU 0 1 42 (pV hK h11)) (ay (vz 3) (ai (bU 0 1 46 (pV hK h12)) (ay (vz 2) (ai (bS 0) bO)))))) (aw 2 3 1 (bF [1,2,4,8] [2,4,8] [1034] (vx 1034 ?_)))
   obtain⟨v11,h13,h⟩:=bind_some h;obtain⟨h14,h⟩:=aL h;refine bP 2 (nu 49 [.ptr 2 8,.nils,.agg (aC v7),iI v2,.agg (aC v11),.sl (lm aB [v11])]++nu 56 [.ptr 2 8]) [] [] [Ik 55 ⟨59,67,lm aB ([v11]:(List ab))⟩,bR Tryz.prog 108 Tryz.f37 (pn 8030) 8] (ay [.v 0 2,.v 0 1,.v 0 2,.v 0 2] (ai (bU 0 1 53 (Iz hK h13)) (bI (er aB ([v11]:List ab) (new:=[aC v11]) (by simp only[List.map_cons,List.map_nil,cH])) (ai (gF (m:=0) (CN 55 59 67 aB (rfl) (dF) h14)) (ay [.v 1 1] (ai (bS 1) bO)))))) (aG 4 (vx 55 ?_));cases h;exact aV
  ·refine ag 23 h6 (dU 2 3 3 (aj 1 ?_));obtain⟨v12,h15,h⟩:=bind_some h;exact aD (ER hK h15) (ac (ae 4 (cd (p:=pn 1018) n (Vq hK n h))))
end
noncomputable section
variable(M:Nat→Prop)(w0:aE)(r:List aO)(v1:List ah)(v2:Int)(v3:List aK)(v5:Int)(v6:List (aO×Option (List aK)))(v8 v9 v11:Bool)(v12:List (aO×Option (List aK)))(v15:Int)(v16:List aO)(m1 m2:Nat)(L1:Int→(List (aO×Option (List aK)))→Option (List aO))(L2:Int→(List aO)→Option (List aO))
abbrev we:Cx:=⟨Tryz.prog,140,M,w0⟩
abbrev tY:=bodyPost Tryz.prog Tryz.f11 (bq M w0 (fun v s=>v=.ref 440006∧look 440006 s.r=some ⟨49,9,lm bj r⟩))
abbrev qt(ks:List ao)(s:AS):=VE (we M w0) (tY M w0 r) ks .normal s
abbrev ge(n:Nat):ao:=.c (cat Tryz.f11 (pn n))
abbrev BP:List ao:=[.b 2,ge 63]
abbrev R8:List ao:=kl (we M w0) (tY M w0 r) BP (cat Tryz.f11 (pn 500)) m2::BP
abbrev z7:List ao:=[.b 0,ge 31]
abbrev vb:List ao:=kl (we M w0) (tY M w0 r) z7 (cat Tryz.f11 (pn 244)) m1::z7
def Xb:AS:=⟨[(1,iI v2),(5,.ref 405013),(6,.ref 500006),(7,iI v5)],[],[(405013,⟨54,64,lm aQ v3⟩),(500006,⟨49,9,lm (bZ bQ 0 54 64 aQ) v12⟩)],[405013,500006]⟩
def VW:AS:=⟨[(1,iI v2),(5,.ref 405013),(6,.ref 500006),(7,iI v5),(8,.ptr 8 0),(9,.bool v8),(10,.ptr 10 0)],[(8,aQ (gD v3 v5)),(10,List.set (List.set (bj ({ dE with Glued:=v11,Forced:=(gD v3 v5).Forced }:aO)) 0 (.nils)) 8 (.nils))],[(405013,⟨54,64,lm aQ v3⟩),(500006,⟨49,9,lm (bZ bQ 0 54 64 aQ) v6⟩)],[8,10,405013,500006]⟩
def TH:AS:=⟨[(1,iI v2),(5,.ref 405013),(6,.ref 500006),(7,iI v5),(8,.ptr 8 0),(9,.bool v8),(79,.bool v9)],[(8,aQ (gD v3 v5))],[(405013,⟨54,64,lm aQ v3⟩),(500006,⟨49,9,lm (bZ bQ 0 54 64 aQ) v6⟩)],[8,405013,500006]⟩
def Ym:AS:=⟨[(1,iI v2),(5,.ref 405013),(6,.ref 500006),(7,iI v5),(8,.ptr 8 0),(9,.bool v8)],[(8,aQ (gD v3 v5))],[(405013,⟨54,64,lm aQ v3⟩),(500006,⟨49,9,lm (bZ bQ 0 54 64 aQ) v6⟩)],[8,405013,500006]⟩
def Kz:AS:=⟨[(1,iI v2),(6,.ref 440006),(11,iI v15)],[],[(440006,⟨49,9,lm bQ v16⟩)],[440006]⟩
def Eh:AS:=⟨[(1,iI v2),(5,.ref 405013),(6,.ref 500006),(7,iI v5)],[],[(405013,⟨54,64,lm aQ v3⟩),(500006,⟨49,9,lm (bZ bQ 0 54 64 aQ) v6⟩)],[405013,500006]⟩
abbrev sC:Prop:=∀{v5:Int} {v6:(List (aO×Option (List aK)))},L1 v5 v6=some r→LP (we M w0) (tY M w0 r) z7 (cat Tryz.f11 (pn 244)) m1 (Eh v2 v3 v5 v6)
abbrev JE:Prop:=∀{v15:Int} {v16:(List aO)},L2 v15 v16=some r→LP (we M w0) (tY M w0 r) BP (cat Tryz.f11 (pn 500)) m2 (Kz v2 v15 v16)
variable{M w0 r v1 v2 v3 v5 v6 v8 v9 v11 v12 v15 v16 m1 m2 L1 L2}{K:Kn}{n:Nat}
theorem JF(hK:am K)(hL1:sC M w0 r v2 v3 m1 L1)(h:rC K n v2 v3 v5 L1 v12=some r):qt M w0 r (ge 979::vb M w0 r m1) (Xb v2 v3 v5 v12):=by
 unfold rC at h;exact ae 1 (bt (hL1 h))
theorem Ak(hK:am K)(hL1:sC M w0 r v2 v3 m1 L1)(h:n7 K n v2 v3 v5 v6 v8 L1 v11=some r):qt M w0 r (ge 31311 :: .b 1::ge 979::vb M w0 r m1) (VW v2 v3 v5 v6 v8 v11):=by
 unfold n7 at h;refine aw 2 3 1 (aj 4 ?_);obtain⟨h30,h⟩:=aL h;refine az (CN 118 54 64 aQ (rfl) (jn) h30) (ac (X3 (aj 2 ?_)));refine I8 118 9 (c0:=.bool v8) (wg 121 0 (by kernel_rfl)) (fun x4=>?_);refine Ht 121 9 (tid:=118) (x:=x4) (c:=.agg (List.set (List.set (bj ({ dE with Glued:=v11,Forced:=(gD v3 v5).Forced }:aO)) 0 (.ref 118)) 8 (.nils))) (aJ 3 1 ?_);obtain⟨h31,h⟩:=aL h;exact az (W7 123 500006 49 9 0 54 64 bQ bQ aQ ({ dE with Glued:=v11,Forced:=(gD v3 v5).Forced }:aO) (.vv x4) (fun _=>rfl) gj h31) (MM 500006 118 9 123 0 49 9 0 54 64 bQ bQ aQ v6 ({ dE with Glued:=v11,Forced:=(gD v3 v5).Forced }:aO) ([(gD v3 v5)]:List aK) x4 (fun _=>rfl) wy (ac (ae 1 (JF hK hL1 h))))
theorem oY(hK:am K)(hL1:sC M w0 r v2 v3 m1 L1)(h:gv K n v2 v3 v5 v6 v8 L1 v9=some r):qt M w0 r (ge 31309::ge 15655 :: .b 1::ge 979::vb M w0 r m1) (TH v2 v3 v5 v6 v8 v9):=by
 unfold gv at h;obtain⟨h21,h⟩|⟨h21,h⟩:=ak h
 ·refine ag 79 h21 ?_;obtain⟨h22,h⟩:=aL h;obtain⟨v10,h23,h⟩:=bind_some h;refine aw 4 5 2 (bF [1,5,6,7,8,9,79] [8] [405013,500006] ?_);refine YB 500006 430079 79 6 0 49 9 0 54 64 bQ aQ v6 ((aa ((v6.length:Int)-1))).toNat v10 (.bool true) (ci h22).2 h23 wy (fun x2=>?_);obtain⟨h24,h⟩:=aL h;obtain⟨h25,h⟩:=aL h;refine Ld 14 1 [(80,.ref 500006),(81,.ref 500006),(82,iI (v6.length:Int)),(83,iI (aa ((v6.length:Int)-1))),(84,.ref 500006),(85,.ref 500006),(86,iI (v6.length:Int)),(87,iI (aa ((v6.length:Int)-1))),(88,.eptr 500006 9 (((aa ((v6.length:Int)-1))).toNat) 0),(89,.eptr 500006 9 (((aa ((v6.length:Int)-1))).toNat) 0),(90,.ref 430079),(91,.agg (aQ (gD v3 v5))),(92,.sl (lm aQ [(gD v3 v5)]))] [] [] [ii 93 430079 ⟨54,64,lm aQ (v10++[(gD v3 v5)])⟩] (ay [.v 0 2,.v 0 2] (ai (iE (lo:=0) (k:=2) (eH ⟨(by kernel_rfl),(eT (yh ((aa ((v6.length:Int)-1))).toNat 0 (bZ bQ 0 54 64 aQ) (.vv x2) v6) (by kernel_rfl))⟩ (eH ⟨(by kernel_rfl),(eT (yh ((aa ((v6.length:Int)-1))).toNat 0 (bZ bQ 0 54 64 aQ) (.vv x2) v6) (by kernel_rfl))⟩ jN))) (ay [.v 0 2,.v 0 2,.v 0 2] (ai (iE (lo:=0) (k:=2) (eH ⟨(by kernel_rfl),(eT (yh ((aa ((v6.length:Int)-1))).toNat 0 (bZ bQ 0 54 64 aQ) (.vv x2) v6) (by kernel_rfl))⟩ (eH ⟨(by kernel_rfl),(eT (yh ((aa ((v6.length:Int)-1))).toNat 0 (bZ bQ 0 54 64 aQ) (.vv x2) v6) (by kernel_rfl))⟩ jN))) (ay [.v 0 2] (ai (iE (lo:=0) (k:=2) (eH ⟨(by kernel_rfl),(eT (Al 500006 9 ((aa ((v6.length:Int)-1))).toNat 0 (bZ bQ 0 54 64 aQ) (.vv x2) (L:=v6) (i:=(aa ((v6.length:Int)-1))) (by simpa only[List.length_set]using h24)) (by kernel_rfl))⟩ (eH ⟨(by kernel_rfl),(eT (Al 500006 9 ((aa ((v6.length:Int)-1))).toNat 0 (bZ bQ 0 54 64 aQ) (.vv x2) (L:=v6) (i:=(aa ((v6.length:Int)-1))) (by simpa only[List.length_set]using h24)) (by kernel_rfl))⟩ jN))) (ay [.v 0 2] (ai (Nx 0 90 79 430079 (b:=⟨54,64,lm aQ v10⟩) (Zq 47 500006 9 0 54 64 bQ bQ aQ x2 (L:=v6) (j:=((aa ((v6.length:Int)-1))).toNat) (ci h24).2 (fun _=>rfl))) (ay [.v 0 2,.v 0 1] (ai (gF (m:=0) (cp 93 430079 54 64 aQ (rfl) (jn) h25)) (Db))))))))))) ?_
  obtain⟨h26,h⟩:=aL h;refine az (Al 500006 9 ((aa ((v6.length:Int)-1))).toNat 0 (bZ bQ 0 54 64 aQ) (.vv x2) (L:=v6) (i:=(aa ((v6.length:Int)-1))) h26) (aJ 16 1 ?_);refine I8 430079 79 (c0:=.any) (wg 93 0 (by kernel_rfl)) (fun x3=>?_);exact Ht 93 79 (tid:=430079) (x:=x3) (c:=.ref 430079) (az (Qj 500006 49 9 0 54 64 bQ aQ (.vv x2) x3 (L:=v6) (j:=((aa ((v6.length:Int)-1))).toNat) (ci h26).2 wy) (aad 93 79 (tid:=430079) (x:=x3) (b:=⟨54,64,lm aQ (v10++[(gD v3 v5)])⟩) (Mv 500006 430079 79 6 0 49 9 0 54 64 bQ aQ v6 ((aa ((v6.length:Int)-1))).toNat (v10++[(gD v3 v5)]) x3 (ci h26).2 wy (ac (ae 3 (JF hK hL1 h))))))
 ·refine ag 79 h21 (dU 2 3 3 (bF [1,5,6,7,8,9] [8] [405013,500006] ?_));obtain⟨h27,h⟩|⟨h27,h⟩:=ak h
  ·obtain⟨h28,h⟩:=aL h;obtain⟨h29,h⟩|⟨h29,h⟩:=ak h
   ·exact bP 1 (nu 96 [.ptr 8 62,.bool ((gD v3 v5).Forced),iI v5,.bool (decide (v5>0)),.bool true,.ref 405013,iI v5,iI (aa (v5-1)),.eptr 405013 64 (((aa (v5-1))).toNat) 0,.eptr 405013 64 (((aa (v5-1))).toNat) 62,.bool ((gD v3 ((aa (v5-1)))).Forced),.bool (!(gD v3 ((aa (v5-1)))).Forced),.bool (!(gD v3 ((aa (v5-1)))).Forced),.bool true,.bool v8,.bool (!v8),.bool (!v8),.agg (List.set (List.set (bj ({ dE with Glued:=(!v8),Forced:=(gD v3 v5).Forced }:aO)) 0 (.nils)) 8 (.nils))]++nu 10 [.ptr 10 0]) [(10,List.set (List.set (bj dE) 0 (.nils)) 8 (.nils))] [] [bR Tryz.prog 140 Tryz.f11 (pn 31310) 19] (ay (vz 4) (ai (cf 0 100 (e:=(decide (v5>0))) (b:=true) h27) (ay (vz 3) (bI (dg 405013 64 aQ (L:=v3) h28) (ay [.v 0 1] (bI (co 4 62 aQ aQ (ci h28).2 ((fun _=>rfl))) (ay (vz 2) (ai (cf 0 109 (e:=(!(gD v3 ((aa (v5-1)))).Forced)) (b:=true) h29) (ay (vz 4) (ai (m5 0 1 49 10 (List.set (List.set (bj dE) 0 (.nils)) 8 (.nils))) (ai (bS 0) bO))))))))))) (ae 0 (Ak hK hL1 h))
   ·exact bP 1 (nu 96 [.ptr 8 62,.bool ((gD v3 v5).Forced),iI v5,.bool (decide (v5>0)),.bool true,.ref 405013,iI v5,iI (aa (v5-1)),.eptr 405013 64 (((aa (v5-1))).toNat) 0,.eptr 405013 64 (((aa (v5-1))).toNat) 62,.bool ((gD v3 ((aa (v5-1)))).Forced),.bool (!(gD v3 ((aa (v5-1)))).Forced),.bool (!(gD v3 ((aa (v5-1)))).Forced),.bool false,.tup [],.tup [],.bool false,.agg (List.set (List.set (bj ({ dE with Forced:=(gD v3 v5).Forced }:aO)) 0 (.nils)) 8 (.nils))]++nu 10 [.ptr 10 0]) [(10,List.set (List.set (bj dE) 0 (.nils)) 8 (.nils))] [] [bR Tryz.prog 140 Tryz.f11 (pn 31310) 19] (ay (vz 4) (ai (cf 0 100 (e:=(decide (v5>0))) (b:=true) h27) (ay (vz 3) (bI (dg 405013 64 aQ (L:=v3) h28) (ay [.v 0 1] (bI (co 4 62 aQ aQ (ci h28).2 ((fun _=>rfl))) (ay (vz 2) (ai (cf 0 109 (e:=(!(gD v3 ((aa (v5-1)))).Forced)) (b:=false) h29) (ai (ax 0 1) (ai (ax 0 1) (ay (vz 2) (ai (m5 0 1 49 10 (List.set (List.set (bj dE) 0 (.nils)) 8 (.nils))) (ai (bS 0) bO))))))))))))) (ae 0 (Ak hK hL1 h))
  ·exact bP 1 (nu 96 [.ptr 8 62,.bool ((gD v3 v5).Forced),iI v5,.bool (decide (v5>0)),.bool false,.tup [],.tup [],.tup [],.tup [],.tup [],.tup [],.tup [],.bool false,.bool false,.tup [],.tup [],.bool false,.agg (List.set (List.set (bj ({ dE with Forced:=(gD v3 v5).Forced }:aO)) 0 (.nils)) 8 (.nils))]++nu 10 [.ptr 10 0]) [(10,List.set (List.set (bj dE) 0 (.nils)) 8 (.nils))] [] [bR Tryz.prog 140 Tryz.f11 (pn 31310) 19] (ay (vz 4) (ai (cf 0 100 (e:=(decide (v5>0))) (b:=false) h27) (ai (ax 0 1) (ai (ax 0 1) (ai (ax 0 1) (ai (ax 0 1) (ai (ax 0 1) (ai (ax 0 1) (ai (ax 0 1) (ay (vz 2) (ai (ax 0 1) (ai (ax 0 1) (ay (vz 2) (ai (m5 0 1 49 10 (List.set (List.set (bj dE) 0 (.nils)) 8 (.nils))) (ai (bS 0) bO))))))))))))))) (ae 0 (Ak hK hL1 h))
theorem Mg(hK:am K)(hL1:sC M w0 r v2 v3 m1 L1)(h:qO K n v2 v3 v5 v6 L1 v8=some r):qt M w0 r (ge 7827 :: .b 1::ge 979::vb M w0 r m1) (Ym v2 v3 v5 v6 v8):=by
 unfold qO at h;refine bK 4 5 3 2 (bF [1,5,6,7,8,9] [8] [405013,500006] ?_);obtain⟨h12,h⟩|⟨h12,h⟩:=ak h
 ·obtain⟨h13,h⟩|⟨h13,h⟩:=ak h
  ·obtain⟨h14,h⟩|⟨h14,h⟩:=ak h
   ·obtain⟨h15,h⟩|⟨h15,h⟩:=ak h
    ·obtain⟨h16,h⟩:=aL h;obtain⟨h17,h⟩|⟨h17,h⟩:=ak h
     ·obtain⟨h18,h⟩:=aL h;obtain⟨h19,h⟩|⟨h19,h⟩:=ak h
      ·obtain⟨h20,h⟩:=aL h;exact bP 0 (nu 35 [iI v5,.bool (decide (v5>0)),.bool true,.bool v8,.bool (!v8),.bool (!v8),.bool true,.ptr 8 63,.bool ((gD v3 v5).Block),.bool (!(gD v3 v5).Block),.bool (!(gD v3 v5).Block),.bool true,.ptr 8 62,.bool ((gD v3 v5).Forced),.bool (!(gD v3 v5).Forced),.bool (!(gD v3 v5).Forced),.bool true,.ref 405013,iI v5,iI (aa (v5-1)),.eptr 405013 64 (((aa (v5-1))).toNat) 0,.eptr 405013 64 (((aa (v5-1))).toNat) 63,.bool ((gD v3 ((aa (v5-1)))).Block),.bool (!(gD v3 ((aa (v5-1)))).Block),.bool (!(gD v3 ((aa (v5-1)))).Block),.bool true,.ref 405013,iI v5,iI (aa (v5-1)),.eptr 405013 64 (((aa (v5-1))).toNat) 0,.eptr 405013 64 (((aa (v5-1))).toNat) 62,.bool ((gD v3 ((aa (v5-1)))).Forced),.bool (!(gD v3 ((aa (v5-1)))).Forced),.bool (!(gD v3 ((aa (v5-1)))).Forced),.bool true,.ref 405013,iI v5,iI (aa (v5-1)),.eptr 405013 64 (((aa (v5-1))).toNat) 0,.eptr 405013 64 (((aa (v5-1))).toNat) 59,iI ((gD v3 ((aa (v5-1)))).Number),.ptr 8 59,iI ((gD v3 v5).Number),.bool (((gD v3 ((aa (v5-1)))).Number) == ((gD v3 v5).Number)),.bool (((gD v3 ((aa (v5-1)))).Number) == ((gD v3 v5).Number))]) [] [] [] (ay (vz 2) (ai (cf 0 37 (e:=(decide (v5>0))) (b:=true) h12) (ay (vz 3) (ai (cf 0 41 (e:=(!v8)) (b:=true) h13) (ay (vz 4) (ai (cf 0 46 (e:=(!(gD v3 v5).Block)) (b:=true) h14) (ay (vz 4) (ai (cf 0 51 (e:=(!(gD v3 v5).Forced)) (b:=true) h15) (ay (vz 3) (bI (dg 405013 64 aQ (L:=v3) h16) (ay [.v 0 1] (bI (co 4 63 aQ aQ (ci h20).2 ((fun _=>rfl))) (ay (vz 2) (ai (cf 0 60 (e:=(!(gD v3 ((aa (v5-1)))).Block)) (b:=true) h17) (ay (vz 3) (bI (dg 405013 64 aQ (L:=v3) h18) (ay [.v 0 1] (bI (co 4 62 aQ aQ (ci h20).2 ((fun _=>rfl))) (ay (vz 2) (ai (cf 0 69 (e:=(!(gD v3 ((aa (v5-1)))).Forced)) (b:=true) h19) (ay (vz 3) (bI (dg 405013 64 aQ (L:=v3) h20) (ay [.v 0 1] (bI (co 3 59 aQ aQ (ci h20).2 ((fun _=>rfl))) (ay (vz 4) bO))))))))))))))))))))))))) (ae 0 (oY hK hL1 h))
      ·exact bP 0 (nu 35 [iI v5,.bool (decide (v5>0)),.bool true,.bool v8,.bool (!v8),.bool (!v8),.bool true,.ptr 8 63,.bool ((gD v3 v5).Block),.bool (!(gD v3 v5).Block),.bool (!(gD v3 v5).Block),.bool true,.ptr 8 62,.bool ((gD v3 v5).Forced),.bool (!(gD v3 v5).Forced),.bool (!(gD v3 v5).Forced),.bool true,.ref 405013,iI v5,iI (aa (v5-1)),.eptr 405013 64 (((aa (v5-1))).toNat) 0,.eptr 405013 64 (((aa (v5-1))).toNat) 63,.bool ((gD v3 ((aa (v5-1)))).Block),.bool (!(gD v3 ((aa (v5-1)))).Block),.bool (!(gD v3 ((aa (v5-1)))).Block),.bool true,.ref 405013,iI v5,iI (aa (v5-1)),.eptr 405013 64 (((aa (v5-1))).toNat) 0,.eptr 405013 64 (((aa (v5-1))).toNat) 62,.bool ((gD v3 ((aa (v5-1)))).Forced),.bool (!(gD v3 ((aa (v5-1)))).Forced),.bool (!(gD v3 ((aa (v5-1)))).Forced),.bool false,.tup [],.tup [],.tup [],.tup [],.tup [],.tup [],.tup [],.tup [],.tup [],.bool false]) [] [] [] (ay (vz 2) (ai (cf 0 37 (e:=(decide (v5>0))) (b:=true) h12) (ay (vz 3) (ai (cf 0 41 (e:=(!v8)) (b:=true) h13) (ay (vz 4) (ai (cf 0 46 (e:=(!(gD v3 v5).Block)) (b:=true) h14) (ay (vz 4) (ai (cf 0 51 (e:=(!(gD v3 v5).Forced)) (b:=true) h15) (ay (vz 3) (bI (dg 405013 64 aQ (L:=v3) h16) (ay [.v 0 1] (bI (co 4 63 aQ aQ (ci h18).2 ((fun _=>rfl))) (ay (vz 2) (ai (cf 0 60 (e:=(!(gD v3 ((aa (v5-1)))).Block)) (b:=true) h17) (ay (vz 3) (bI (dg 405013 64 aQ (L:=v3) h18) (ay [.v 0 1] (bI (co 4 62 aQ aQ (ci h18).2 ((fun _=>rfl))) (ay (vz 2) (ai (cf 0 69 (e:=(!(gD v3 ((aa (v5-1)))).Forced)) (b:=false) h19) (ai (ax 0 1) (ai (ax 0 1) (ai (ax 0 1) (ai (ax 0 1) (ai (ax 0 1) (ai (ax 0 1) (ai (ax 0 1) (ai (ax 0 1) (ai (ax 0 1) (ay [.v 0 1] bO)))))))))))))))))))))))))))))) (ae 0 (oY hK hL1 h))
     ·exact bP 0 (nu 35 [iI v5,.bool (decide (v5>0)),.bool true,.bool v8,.bool (!v8),.bool (!v8),.bool true,.ptr 8 63,.bool ((gD v3 v5).Block),.bool (!(gD v3 v5).Block),.bool (!(gD v3 v5).Block),.bool true,.ptr 8 62,.bool ((gD v3 v5).Forced),.bool (!(gD v3 v5).Forced),.bool (!(gD v3 v5).Forced),.bool true,.ref 405013,iI v5,iI (aa (v5-1)),.eptr 405013 64 (((aa (v5-1))).toNat) 0,.eptr 405013 64 (((aa (v5-1))).toNat) 63,.bool ((gD v3 ((aa (v5-1)))).Block),.bool (!(gD v3 ((aa (v5-1)))).Block),.bool (!(gD v3 ((aa (v5-1)))).Block),.bool false,.tup [],.tup [],.tup [],.tup [],.tup [],.tup [],.tup [],.bool false,.bool false,.tup [],.tup [],.tup [],.tup [],.tup [],.tup [],.tup [],.tup [],.tup [],.bool false]) [] [] [] (ay (vz 2) (ai (cf 0 37 (e:=(decide (v5>0))) (b:=true) h12) (ay (vz 3) (ai (cf 0 41 (e:=(!v8)) (b:=true) h13) (ay (vz 4) (ai (cf 0 46 (e:=(!(gD v3 v5).Block)) (b:=true) h14) (ay (vz 4) (ai (cf 0 51 (e:=(!(gD v3 v5).Forced)) (b:=true) h15) (ay (vz 3) (bI (dg 405013 64 aQ (L:=v3) h16) (ay [.v 0 1] (bI (co 4 63 aQ aQ (ci h16).2 ((fun _=>rfl))) (ay (vz 2) (ai (cf 0 60 (e:=(!(gD v3 ((aa (v5-1)))).Block)) (b:=false) h17) (ai (ax 0 1) (ai (ax 0 1) (ai (ax 0 1) (ai (ax 0 1) (ai (ax 0 1) (ai (ax 0 1) (ai (ax 0 1) (ay (vz 2) (ai (ax 0 1) (ai (ax 0 1) (ai (ax 0 1) (ai (ax 0 1) (ai (ax 0 1) (ai (ax 0 1) (ai (ax 0 1) (ai (ax 0 1) (ai (ax 0 1) (ay [.v 0 1] bO)))))))))))))))))))))))))))))))) (ae 0 (oY hK hL1 h))
    ·exact bP 0 (nu 35 [iI v5,.bool (decide (v5>0)),.bool true,.bool v8,.bool (!v8),.bool (!v8),.bool true,.ptr 8 63,.bool ((gD v3 v5).Block),.bool (!(gD v3 v5).Block),.bool (!(gD v3 v5).Block),.bool true,.ptr 8 62,.bool ((gD v3 v5).Forced),.bool (!(gD v3 v5).Forced),.bool (!(gD v3 v5).Forced),.bool false,.tup [],.tup [],.tup [],.tup [],.tup [],.tup [],.tup [],.bool false,.bool false,.tup [],.tup [],.tup [],.tup [],.tup [],.tup [],.tup [],.bool false,.bool false,.tup [],.tup [],.tup [],.tup [],.tup [],.tup [],.tup [],.tup [],.tup [],.bool false]) [] [] [] (ay (vz 2) (ai (cf 0 37 (e:=(decide (v5>0))) (b:=true) h12) (ay (vz 3) (ai (cf 0 41 (e:=(!v8)) (b:=true) h13) (ay (vz 4) (ai (cf 0 46 (e:=(!(gD v3 v5).Block)) (b:=true) h14) (ay (vz 4) (ai (cf 0 51 (e:=(!(gD v3 v5).Forced)) (b:=false) h15) (ai (ax 0 1) (ai (ax 0 1) (ai (ax 0 1) (ai (ax 0 1) (ai (ax 0 1) (ai (ax 0 1) (ai (ax 0 1) (ay (vz 2) (ai (ax 0 1) (ai (ax 0 1) (ai (ax 0 1) (ai (ax 0 1) (ai (ax 0 1) (ai (ax 0 1) (ai (ax 0 1) (ay (vz 2) (ai (ax 0 1) (ai (ax 0 1) (ai (ax 0 1) (ai (ax 0 1) (ai (ax 0 1) (ai (ax 0 1) (ai (ax 0 1) (ai (ax 0 1) (ai (ax 0 1) (ay [.v 0 1] bO)))))))))))))))))))))))))))))))))) (ae 0 (oY hK hL1 h))
   ·exact bP 0 (nu 35 [iI v5,.bool (decide (v5>0)),.bool true,.bool v8,.bool (!v8),.bool (!v8),.bool true,.ptr 8 63,.bool ((gD v3 v5).Block),.bool (!(gD v3 v5).Block),.bool (!(gD v3 v5).Block),.bool false,.tup [],.tup [],.tup [],.bool false,.bool false,.tup [],.tup [],.tup [],.tup [],.tup [],.tup [],.tup [],.bool false,.bool false,.tup [],.tup [],.tup [],.tup [],.tup [],.tup [],.tup [],.bool false,.bool false,.tup [],.tup [],.tup [],.tup [],.tup [],.tup [],.tup [],.tup [],.tup [],.bool false]) [] [] [] (ay (vz 2) (ai (cf 0 37 (e:=(decide (v5>0))) (b:=true) h12) (ay (vz 3) (ai (cf 0 41 (e:=(!v8)) (b:=true) h13) (ay (vz 4) (ai (cf 0 46 (e:=(!(gD v3 v5).Block)) (b:=false) h14) (ai (ax 0 1) (ai (ax 0 1) (ai (ax 0 1) (ay (vz 2) (ai (ax 0 1) (ai (ax 0 1) (ai (ax 0 1) (ai (ax 0 1) (ai (ax 0 1) (ai (ax 0 1) (ai (ax 0 1) (ay (vz 2) (ai (ax 0 1) (ai (ax 0 1) (ai (ax 0 1) (ai (ax 0 1) (ai (ax 0 1) (ai (ax 0 1) (ai (ax 0 1) (ay (vz 2) (ai (ax 0 1) (ai (ax 0 1) (ai (ax 0 1) (ai (ax 0 1) (ai (ax 0 1) (ai (ax 0 1) (ai (ax 0 1) (ai (ax 0 1) (ai (ax 0 1) (ay [.v 0 1] bO)))))))))))))))))))))))))))))))))))) (ae 0 (oY hK hL1 h))
  ·exact bP 0 (nu 35 [iI v5,.bool (decide (v5>0)),.bool true,.bool v8,.bool (!v8),.bool (!v8),.bool false,.tup [],.tup [],.tup [],.bool false,.bool false,.tup [],.tup [],.tup [],.bool false,.bool false,.tup [],.tup [],.tup [],.tup [],.tup [],.tup [],.tup [],.bool false,.bool false,.tup [],.tup [],.tup [],.tup [],.tup [],.tup [],.tup [],.bool false,.bool false,.tup [],.tup [],.tup [],.tup [],.tup [],.tup [],.tup [],.tup [],.tup [],.bool false]) [] [] [] (ay (vz 2) (ai (cf 0 37 (e:=(decide (v5>0))) (b:=true) h12) (ay (vz 3) (ai (cf 0 41 (e:=(!v8)) (b:=false) h13) (ai (ax 0 1) (ai (ax 0 1) (ai (ax 0 1) (ay (vz 2) (ai (ax 0 1) (ai (ax 0 1) (ai (ax 0 1) (ay (vz 2) (ai (ax 0 1) (ai (ax 0 1) (ai (ax 0 1) (ai (ax 0 1) (ai (ax 0 1) (ai (ax 0 1) (ai (ax 0 1) (ay (vz 2) (ai (ax 0 1) (ai (ax 0 1) (ai (ax 0 1) (ai (ax 0 1) (ai (ax 0 1) (ai (ax 0 1) (ai (ax 0 1) (ay (vz 2) (ai (ax 0 1) (ai (ax 0 1) (ai (ax 0 1) (ai (ax 0 1) (ai (ax 0 1) (ai (ax 0 1) (ai (ax 0 1) (ai (ax 0 1) (ai (ax 0 1) (ay [.v 0 1] bO)))))))))))))))))))))))))))))))))))))) (ae 0 (oY hK hL1 h))
 ·exact bP 0 (nu 35 [iI v5,.bool (decide (v5>0)),.bool false,.tup [],.tup [],.bool false,.bool false,.tup [],.tup [],.tup [],.bool false,.bool false,.tup [],.tup [],.tup [],.bool false,.bool false,.tup [],.tup [],.tup [],.tup [],.tup [],.tup [],.tup [],.bool false,.bool false,.tup [],.tup [],.tup [],.tup [],.tup [],.tup [],.tup [],.bool false,.bool false,.tup [],.tup [],.tup [],.tup [],.tup [],.tup [],.tup [],.tup [],.tup [],.bool false]) [] [] [] (ay (vz 2) (ai (cf 0 37 (e:=(decide (v5>0))) (b:=false) h12) (ai (ax 0 1) (ai (ax 0 1) (ay (vz 2) (ai (ax 0 1) (ai (ax 0 1) (ai (ax 0 1) (ay (vz 2) (ai (ax 0 1) (ai (ax 0 1) (ai (ax 0 1) (ay (vz 2) (ai (ax 0 1) (ai (ax 0 1) (ai (ax 0 1) (ai (ax 0 1) (ai (ax 0 1) (ai (ax 0 1) (ai (ax 0 1) (ay (vz 2) (ai (ax 0 1) (ai (ax 0 1) (ai (ax 0 1) (ai (ax 0 1) (ai (ax 0 1) (ai (ax 0 1) (ai (ax 0 1) (ay (vz 2) (ai (ax 0 1) (ai (ax 0 1) (ai (ax 0 1) (ai (ax 0 1) (ai (ax 0 1) (ai (ax 0 1) (ai (ax 0 1) (ai (ax 0 1) (ai (ax 0 1) (ay [.v 0 1] bO))))))))))))))))))))))))))))))))))))))) (ae 0 (oY hK hL1 h))
theorem Wq(hK:am K)(hL2:JE M w0 r v2 m2 L2)(h:ru K n v2 L2 v15 v16=some r):qt M w0 r (ge 500::R8 M w0 r m2) (Kz v2 v15 v16):=by
 unfold ru at h;refine bK 4 5 3 2 (aj 2 (az (bv bQ v16) (ac ?_)));obtain⟨h38,h⟩|⟨h38,h⟩:=ak h
 ·refine ag 127 h38 (vL 4 3 3 4 (aj 4 ?_));obtain⟨h39,h⟩:=aL h;refine az (dh 440006 9 bQ h39) (az (co 49 0 bQ bQ (ci h39).2 ((fun _=>rfl))) (aJ 7 1 ?_));obtain⟨v17,h40,h⟩:=bind_some h;refine UV (aap hK h40) ?_ (Bool.and_eq_true_iff.2 ⟨I7 _,(Bool.and_eq_true_iff.2 ⟨rfl,rfl⟩)⟩) (hv:=I7 _);obtain⟨h41,h⟩:=aL h;exact az (dh 440006 9 bQ h41) (az (Nv 440006 49 9 0 bQ bQ v17 (ci h41).2 ((fun _=>rfl)) (bQ v17) (W1 _)) (ac (ae 2 (bt (hL2 h)))))
 ·refine ag 127 h38 (aG 8 (NO 440006 49 9 bQ bj v16 Q7 ?_));cases h;exact d9
theorem TL(hK:am K)(m:Nat):JE M w0 r v2 m (kG K n v2 m):=by
 induction m with
 | zero=>intro v15 v16 h;cases h
 | succ m ih=>intro v15 v16 h;have h:ru K n v2 (kG K n v2 m) v15 v16=some r:=h;exact bp (Wq hK ih h)
theorem NU(hK:am K)(hL1:sC M w0 r v2 v3 m1 L1)(h:rt K n v2 v3 L1 v5 v6=some r):qt M w0 r (ge 244::vb M w0 r m1) (Eh v2 v3 v5 v6):=by
 unfold rt at h;refine bK 4 5 3 2 (aj 2 (az (bv aQ v3) (ac ?_)));obtain⟨h7,h⟩|⟨h7,h⟩:=ak h
 ·refine ag 17 h7 (cE 8 9 1 3 5 (aj 2 ?_));obtain⟨h8,h⟩:=aL h;refine az (dh 405013 64 aQ h8) (az (co 54 0 aQ aQ (ci h8).2 ((fun _=>rfl))) (ac (aw 2 3 1 (bF [1,5,6,7,8] [8] [405013,500006] ?_))));obtain⟨h9,h⟩|⟨h9,h⟩:=ak h
  ·obtain⟨h10,h⟩:=aL h;obtain⟨v7,h11,h⟩:=bind_some h;exact bP 1 (nu 24 [iI v5,.bool (decide (v5>0)),.bool true,.ref 405013,iI v5,iI (aa (v5-1)),.eptr 405013 64 (((aa (v5-1))).toNat) 0,.agg (aQ (gD v3 ((aa (v5-1))))),.agg (aQ (gD v3 v5)),.bool v7,.bool v7]) [] [] [bR Tryz.prog 140 Tryz.f11 (pn 7826) 11] (ay (vz 2) (ai (cf 0 26 (e:=(decide (v5>0))) (b:=true) h9) (ay (vz 3) (bI (dg 405013 64 aQ (L:=v3) h10) (bI (co 54 0 aQ aQ (ci h10).2 ((fun _=>rfl))) (ay [.v 0 1] (ai (bU 0 1 33 (WU hK h11)) (ay [.v 0 1] (ai (bS 0) bO))))))))) (ae 0 (Mg hK hL1 h))
  ·exact bP 1 (nu 24 [iI v5,.bool (decide (v5>0)),.bool false,.tup [],.tup [],.tup [],.tup [],.tup [],.tup [],.tup [],.bool false]) [] [] [bR Tryz.prog 140 Tryz.f11 (pn 7826) 11] (ay (vz 2) (ai (cf 0 26 (e:=(decide (v5>0))) (b:=false) h9) (ai (ax 0 1) (ai (ax 0 1) (ai (ax 0 1) (ai (ax 0 1) (ai (ax 0 1) (ai (ax 0 1) (ai (ax 0 1) (ay [.v 0 1] (ai (bS 0) bO))))))))))) (ae 0 (Mg hK hL1 h))
 ·refine ag 17 h7 ?_;obtain⟨h32,h⟩:=aL h;exact cz (ks':=[ge 250,.b 2,ge 63]) 9 (Qk 500006 440006 49 9 0 54 64 bQ aQ v6 WP RW aay RD h32 (ae 0 (cd (p:=pn 250) n (TL hK n h))))
theorem Ve(hK:am K)(m:Nat):sC M w0 r v2 v3 m (kJ K n v2 v3 m):=by
 induction m with
 | zero=>intro v5 v6 h;cases h
 | succ m ih=>intro v5 v6 h;have h:rt K n v2 v3 (kJ K n v2 v3 m) v5 v6=some r:=h;exact bp (NU hK ih h)
theorem QK(hK:am K)(h:tQ K n v1 v2=some r):aN Tryz.prog 11 [.sl (lm aP v1),iI v2] (fun v s=>v=.ref 440006∧look 440006 s.r=some ⟨49,9,lm bj r⟩):=by
 refine bc (cat Tryz.f11 (pn 1)) Tryz.func11 Tryz.ntmps11 fun M w0=>(aZ ⟨[(0,.sl (lm aP v1)),(1,iI v2)],[],[],[]⟩ ?_);unfold tQ at h;refine aw 6 7 3 (aj 1 ?_);obtain⟨v3,h1,h⟩:=bind_some h;exact XW 405013 9 54 64 [] (Ga hK h1) (ac (eO 26 0 7 6 (bF [1,5,6,7] [] [405013] (eX 500006 6 49 9 (ae 0 (cd (p:=pn 122) n (Ve hK n h)))))))
end
noncomputable section
variable(M:Nat→Prop)(w0:aE)(r:Bool)(v1 v2:ab)(v3:Bool)(v6:Int)(m1:Nat)(L1:Int→Option Bool)
abbrev zH:Cx:=⟨Tryz.prog,116,M,w0⟩
abbrev Bs:=bodyPost Tryz.prog Tryz.f13 (bq M w0 (fun v _=>v=.bool r))
abbrev FV(ks:List ao)(s:AS):=VE (zH M w0) (Bs M w0 r) ks .normal s
abbrev xc(n:Nat):ao:=.c (cat Tryz.f13 (pn n))
abbrev Ck:List ao:=[.b 0,xc 15]
abbrev Ps:List ao:=kl (zH M w0) (Bs M w0 r) Ck (cat Tryz.f13 (pn 116)) m1::Ck
def Hf:AS:=⟨[(2,.ptr 2 0),(3,.ptr 3 0),(5,iI v6)],[(2,aC v1),(3,aC v2)],[],[2,3]⟩
def OH:AS:=⟨[(2,.ptr 2 0),(3,.ptr 3 0),(96,.bool v3)],[(2,aC v1),(3,aC v2)],[],[2,3]⟩
abbrev LW:Prop:=∀{v6:Int},L1 v6=some r→LP (zH M w0) (Bs M w0 r) Ck (cat Tryz.f13 (pn 116)) m1 (Hf v1 v2 v6)
variable{M w0 r v1 v2 v3 v6 m1 L1}{K:Kn}{n:Nat}
theorem Oc(hK:am K)(hL1:LW M w0 r v1 v2 m1 L1)(h:pJ K n v1 v2 L1 v6=some r):FV M w0 r (xc 116::Ps M w0 r m1) (Hf v1 v2 v6):=by
 unfold pJ at h;refine bK 4 5 3 2 (aj 3 (az (bv aB v1.Kids) (ac ?_)));obtain⟨h20,h⟩|⟨h20,h⟩:=ak h
 ·refine ag 101 h20 (cE 8 9 1 3 5 (bF [2,3,5] [2,3] [] ?_));obtain⟨h21,h⟩:=aL h;obtain⟨h22,h⟩:=aL h;obtain⟨v7,h23,h⟩:=bind_some h;refine bP 0 (nu 104 [.ptr 2 66,.sl (lm aB v1.Kids),iI v6,.cptr (aC (gD v1.Kids v6)),.agg (aC (gD v1.Kids v6)),.ptr 3 66,.sl (lm aB v2.Kids),iI v6,.cptr (aC (gD v2.Kids v6)),.agg (aC (gD v2.Kids v6)),.bool v7,.bool (!v7)]) [] [] [] (ay (vz 3) (bI (bN aB aC h21 (dF) (cH)) (ay (vz 4) (bI (bN aB aC h22 (dF) (cH)) (ay [.v 0 1] (ai (bU 0 1 114 (hK.qJ h23)) (ay [.v 0 1] bO))))))) ?_;obtain⟨h24,h⟩|⟨h24,h⟩:=ak h
  ·refine ag 115 h24 (aG 9 ?_);cases h;exact aV
  ·exact ag 115 h24 (ae 4 (bt (hL1 h)))
 ·refine ag 101 h20 (aG 8 ?_);cases h;exact aV
theorem SQ(hK:am K)(m:Nat):LW M w0 r v1 v2 m (lT K n v1 v2 m):=by
 induction m with
 | zero=>intro v6 h;cases h
 | succ m ih=>intro v6 h;have h:pJ K n v1 v2 (lT K n v1 v2 m) v6=some r:=h;exact bp (Oc hK ih h)
theorem gq(hK:am K)(h:eV K n v1 v2 v3=some r):FV M w0 r [xc 13,xc 7] (OH v1 v2 v3):=by
 unfold eV at h;obtain⟨h13,h⟩|⟨h13,h⟩:=ak h
 ·refine ag 96 h13 (aG 5 ?_);cases h;exact aV
 ·exact ag 96 h13 (ae 6 (cd (p:=pn 58) n (SQ hK n h)))
theorem I9(hK:am K)(h:ja K n v1 v2=some r):aN Tryz.prog 13 [.agg (aC v1),.agg (aC v2)] (fun v _=>v=.bool r):=by
 refine bc (cat Tryz.f13 (pn 1)) Tryz.func13 Tryz.ntmps13 fun M w0=>(aZ ⟨[(0,.agg (aC v1)),(1,.agg (aC v2))],[],[],[]⟩ ?_);unfold ja at h;refine bK 12 13 7 4 (aj 6 ?_);obtain⟨h1,h⟩|⟨h1,h⟩:=ak h
 ·exact av 11 h1 (ac (ae 0 (gq hK h)))
 ·refine av 11 h1 (aJ 13 7 ?_);obtain⟨h2,h⟩|⟨h2,h⟩:=ak h
  ·exact av 18 h2 (ac (ae 0 (gq hK h)))
  ·refine av 18 h2 (aJ 20 7 ?_);obtain⟨h3,h⟩|⟨h3,h⟩:=ak h
   ·exact av 25 h3 (ac (ae 0 (gq hK h)))
   ·refine av 25 h3 (aJ 27 7 ?_);obtain⟨h4,h⟩|⟨h4,h⟩:=ak h
    ·exact av 32 h4 (ac (ae 0 (gq hK h)))
    ·refine av 32 h4 (aJ 34 7 ?_);obtain⟨h5,h⟩|⟨h5,h⟩:=ak h
     ·exact av 39 h5 (ac (ae 0 (gq hK h)))
     ·refine av 39 h5 (aJ 41 7 ?_);obtain⟨h6,h⟩|⟨h6,h⟩:=ak h
      ·exact av 46 h6 (ac (ae 0 (gq hK h)))
      ·refine av 46 h6 (aJ 48 7 ?_);obtain⟨h7,h⟩|⟨h7,h⟩:=ak h
       ·exact av 53 h7 (ac (ae 0 (gq hK h)))
       ·refine av 53 h7 (aJ 55 7 ?_);obtain⟨h8,h⟩|⟨h8,h⟩:=ak h
        ·exact av 60 h8 (ac (ae 0 (gq hK h)))
        ·refine av 60 h8 (aJ 62 7 ?_);obtain⟨h9,h⟩|⟨h9,h⟩:=ak h
         ·exact av 67 h9 (ac (ae 0 (gq hK h)))
         ·refine av 67 h9 (aJ 69 7 ?_);obtain⟨h10,h⟩|⟨h10,h⟩:=ak h
          ·exact av 74 h10 (ac (ae 0 (gq hK h)))
          ·refine av 74 h10 (aJ 76 7 ?_);obtain⟨h11,h⟩|⟨h11,h⟩:=ak h
           ·exact av 81 h11 (ac (ae 0 (gq hK h)))
           ·refine av 81 h11 (aJ 83 7 ?_);obtain⟨h12,h⟩|⟨h12,h⟩:=ak h
            ·exact av 88 h12 (ac (ae 0 (gq hK h)))
            ·exact av 88 h12 (aJ 85 2 (az (bv aB v1.Kids) (aJ 88 2 (az (bv aB v2.Kids) (ac (ae 0 (gq hK h)))))))
end
end Go.Proofs.YtnpmlepplfaijaaGreat

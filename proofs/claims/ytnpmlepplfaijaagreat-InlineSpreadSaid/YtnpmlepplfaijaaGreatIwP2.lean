/- The runs of the functions that InlineSpread reaches do what their plain forms say, part 2. Made by a program. -/
import Derived.Test.YtnpmlepplfaijaaGreatIwGk
import Derived.Test.YtnpmlepplfaijaaGreatIwP1
namespace Go.Proofs.YtnpmlepplfaijaaGreat
open Go.RowKit
set_option maxRecDepth 20000
set_option linter.all false
set_option linter.unusedVariables false
set_option linter.unusedSimpArgs false
noncomputable section
variable(M:Nat→Prop)(w0:aF)(r:(List ah)×Int)(v1:List ai)(v2:aI)(v3 v10 v11:Int)(v12:List ah)(v14:Int)(v15:List ah)(m1:Nat)(L1:Int→Int→(List ah)→Option ((List ah)×Int))
abbrev Dz:Cx:=⟨Tryz.prog,42,M,w0⟩
abbrev FE:=bodyPost Tryz.prog Tryz.f33 (bu M w0 (fun v s=>v=.tup [.ref 35,iI r.2]∧look 35 s.r=some ⟨59,67,lm aG r.1⟩))
abbrev NE(ks:List aq)(s:AS):=VE (Dz M w0) (FE M w0 r) ks .normal s
abbrev wO(n:Nat):aq:=.c (cat Tryz.f33 (pn n))
abbrev Bt:List aq:=[.b 0,wO 31]
abbrev Bo:List aq:=kl (Dz M w0) (FE M w0 r) Bt (cat Tryz.f33 (pn 244)) m1::Bt
def Zu:AS:=⟨[(0,.sl (lm aQ v1)),(2,iI v3),(4,.ptr 4 0),(8,.ref 35),(9,iI v14),(10,iI v11)],[(4,aJ v2)],[(35,⟨59,67,lm aG v15⟩)],[4,35]⟩
def M3:AS:=⟨[(0,.sl (lm aQ v1)),(2,iI v3),(4,.ptr 4 0),(8,.ref 35),(9,iI v10),(10,iI v11)],[(4,aJ v2)],[(35,⟨59,67,lm aG v12⟩)],[4,35]⟩
abbrev AY:Prop:=∀{v10:Int} {v11:Int} {v12:(List ah)},L1 v10 v11 v12=some r→LP (Dz M w0) (FE M w0 r) Bt (cat Tryz.f33 (pn 244)) m1 (M3 v1 v2 v3 v10 v11 v12)
variable{M w0 r v1 v2 v3 v10 v11 v12 v14 v15 m1 L1}{K:Kn}{n:Nat}
theorem HV(hK:am K)(hL1:AY M w0 r v1 v2 v3 m1 L1)(h:jv K n v1 v2 v3 v11 L1 v14 v15=some r):NE M w0 r (.b 1::wO 979::Bo M w0 r m1) (Zu v1 v2 v3 v11 v14 v15):=by
 unfold jv at h;exact ae 2 (bt (hL1 h))
theorem acR(hK:am K)(hL1:AY M w0 r v1 v2 v3 m1 L1)(h:iw K n v1 v2 v3 L1 v10 v11 v12=some r):NE M w0 r (wO 244::Bo M w0 r m1) (M3 v1 v2 v3 v10 v11 v12):=by
 unfold iw at h;refine bH 4 5 3 2 (aj 2 (aB (bq aQ v1) (ac ?_)));obtain⟨h13,h⟩|⟨h13,h⟩:=ak h
 ·refine ag 14 h13 (cQ 8 9 1 3 5 (aj 2 ?_));obtain⟨h14,h⟩:=aK h;refine aB (bw aQ aW h14 (fi) (dK)) (ac ?_);obtain⟨v13,h15,h⟩:=bW h;refine bB (ks':=wO 3913 :: .b 1::wO 979::Bo M w0 r m1) 0 ⟨[(0,.sl (lm aQ v1)),(2,iI v3),(4,.ptr 4 0),(8,.ref 35),(9,iI v10),(10,iI v11),(22,.bool v13)],[(4,aJ v2)],[(35,⟨59,67,lm aG v12⟩)],[4,35]⟩ ?_ (by subst h15;kernel_rfl);obtain⟨h16,h⟩|⟨h16,h⟩:=ak h
  ·refine ag 22 h16 (az 4 5 2 (bI [0,2,4,8,9,10] [4] [35] ?_));obtain⟨h17,h⟩:=aK h;obtain⟨h18,h⟩:=aK h;exact bF 2 (nu 23 [.ref 35,iI v10,iI v3,.ptr 4 38,iI v2.LineHeight,.sl (lm aQ v1),iI v11,.cptr (aW (gD v1 v11)),.cptr (List.drop 55 (aW (gD v1 v11))),.str ((gD v1 v11).Text),.agg (List.set (aH ({ bA with Kind:=2,Y:=v10,W:=v3,H:=v2.LineHeight,Text:=(gD v1 v11).Text }:ah)) 66 (.nils)),.sl (lm aG [({ bA with Kind:=2,Y:=v10,W:=v3,H:=v2.LineHeight,Text:=(gD v1 v11).Text }:ah)])]) [] [] [iJ 35 35 ⟨59,67,lm aG (v12++[({ bA with Kind:=2,Y:=v10,W:=v3,H:=v2.LineHeight,Text:=(gD v1 v11).Text }:ah)])⟩,bR Tryz.prog 42 Tryz.f33 (pn 15652) 13] (av [.v 0 1,.v 0 2,.v 0 2,.v 0 2,.v 0 2,.v 0 2,.v 0 2] (ab (jd (lo:=0) (k:=2) (eT ⟨(by kernel_rfl),(ft (bw aQ aW h17 (fi) (dK)) (by kernel_rfl))⟩ (eT ⟨(by kernel_rfl),(ft (bw aQ aW h17 (fi) (dK)) (by kernel_rfl))⟩ jV))) (av [.v 0 2,.v 0 2,.v 0 2] (bv (fB aG ([({ bA with Kind:=2,Y:=v10,W:=v3,H:=v2.LineHeight,Text:=(gD v1 v11).Text }:ah)]:List ah) (new:=[aH ({ bA with Kind:=2,Y:=v10,W:=v3,H:=v2.LineHeight,Text:=(gD v1 v11).Text }:ah)]) (by simp only[List.map_cons,List.map_nil,dc])) (ab (g9 (m:=0) (cD 35 35 59 67 aG (rfl) (fc) h18)) (ab (bQ 1) bG)))))) (ae 1 (HV hK hL1 h))
  ·exact ag 22 h16 (ae 2 (HV hK hL1 h))
 ·refine ag 14 h13 (aE 8 ?_);cases h;exact vp
theorem RR(hK:am K)(m:Nat):AY M w0 r v1 v2 v3 m (i8 K n v1 v2 v3 m):=by
 induction m with
 | zero=>intro v10 v11 v12 h;cases h
 | succ m ih=>intro v10 v11 v12 h;have h:iw K n v1 v2 v3 (i8 K n v1 v2 v3 m) v10 v11 v12=some r:=h;exact bp (acR hK ih h)
theorem GY(hK:am K)(h:jr K n v1 v2 v3=some r):aO Tryz.prog 33 [.sl (lm aQ v1),.agg (aJ v2),iI v3] (fun v s=>v=.tup [.ref 35,iI r.2]∧look 35 s.r=some ⟨59,67,lm aG r.1⟩):=by
 refine bg (cat Tryz.f33 (pn 1)) Tryz.func33 Tryz.ntmps33 fun M w0=>(bc ⟨[(0,.sl (lm aQ v1)),(1,.agg (aJ v2)),(2,iI v3)],[],[],[]⟩ ?_);unfold jr at h;exact fr 122 0 31 10 (bI [0,2,4,8,9,10] [4] [] (fh 35 8 59 67 (ae 0 (cf (p:=pn 122) n (RR hK n h)))))
end
noncomputable section
variable(M:Nat→Prop)(w0:aF)(r:Int)(v1:ax)  
variable{M w0 r v1}{K:Kn}{n:Nat}
theorem uP(hK:am K)(h:gA K n v1=some r):aO Tryz.prog 72 [.agg (bS v1)] (fun v _=>v=iI r):=by
 refine bg (cat Tryz.f72 (pn 1)) Tryz.func72 Tryz.ntmps72 fun M w0=>(bc ⟨[(0,.agg (bS v1))],[],[],[]⟩ ?_);unfold gA at h;refine aE 5 ?_;cases h;exact ba
end
noncomputable section
variable(M:Nat→Prop)(w0:aF)(r v1:ah)(v2:Int)(v3:Int×Bool)(v5:Int)  
abbrev OE(n:Nat):aq:=.c (cat Tryz.f73 (pn n))
abbrev OG:Cx:=⟨Tryz.prog,45,M,w0⟩
abbrev Ur:=bodyPost Tryz.prog Tryz.f73 (bu M w0 (fun v _=>v=.agg (aH r)))
abbrev WQ(ks:List aq)(s:AS):=VE (OG M w0) (Ur M w0 r) ks .normal s
def abA:AS:=⟨[(2,.ptr 2 0),(4,.ptr 4 0)],[(2,aH ({ v1 with X:=(aa (v1.X+v3.1)),Y:=v5 }:ah)),(4,List.set (aH bA) 66 (.nils))],[],[2,4]⟩
variable{M w0 r v1 v2 v3 v5}{K:Kn}{n:Nat}
theorem HB(hK:am K)(h:mU K n v1 v3 v5=some r):WQ M w0 r [OE 63] (abA v1 v3 v5):=by
 unfold mU at h;refine aE 3 ?_;cases h;exact ba
theorem IB(hK:am K)(h:lP K n v1 v2=some r):aO Tryz.prog 73 [.agg (aH v1),iI v2] (fun v _=>v=.agg (aH r)):=by
 refine bg (cat Tryz.f73 (pn 1)) Tryz.func73 Tryz.ntmps73 fun M w0=>(bc ⟨[(0,.agg (aH v1)),(1,iI v2)],[],[],[]⟩ ?_);unfold lP at h;refine az 13 7 5 ?_;obtain⟨h1,h⟩|⟨h1,h⟩:=ak h
 ·refine ag 12 h1 (aE 5 ?_);cases h;exact ba
 ·refine ag 12 h1 (dB 2 3 3 (aj 4 ?_));obtain⟨v3,h2,h⟩:=bind_some h;refine aD (fG hK h2) (ac (az 13 7 5 ?_));obtain⟨h3,h⟩|⟨h3,h⟩:=ak h
  ·refine ag 31 h3 (az 4 5 2 (aj 3 ?_));obtain⟨v4,h4,h⟩:=bind_some h;exact aD (fG hK h4) (ac (ae 1 (HB hK h)))
  ·exact ag 31 h3 (ae 2 (HB hK h))
end
noncomputable section
variable(M:Nat→Prop)(w0:aF)(r:aV)(v1:aI)(v2 v3:Int)(v4:aV)(v7 v8 v9:Int)(v10 v11:(Int×Bool))(v12:Bool)(v13:V4 Int)  
abbrev yJ(n:Nat):aq:=.c (cat Tryz.f130 (pn n))
abbrev QT:Cx:=⟨Tryz.prog,89,M,w0⟩
abbrev PL:=bodyPost Tryz.prog Tryz.f130 (bu M w0 (fun v _=>v=.agg (bm r)))
abbrev EC(ks:List aq)(s:AS):=VE (QT M w0) (PL M w0 r) ks .normal s
def Za:AS:=⟨[(4,.ptr 4 0),(5,.ptr 5 0)],[(4,bm dM),(5,bm ({ v4 with Margin:=v13,Content:=v8 }:aV))],[],[4,5]⟩
def Vm:AS:=⟨[(4,.ptr 4 0),(5,.ptr 5 0),(8,iI (aa (v3-v9))),(10,.bool v10.2),(12,.bool v11.2),(59,.bool v12)],[(4,bm dM),(5,bm ({ v4 with Content:=v8 }:aV))],[],[4,5]⟩
def abz:AS:=⟨[(1,iI v3),(2,.ptr 2 0),(4,.ptr 4 0),(5,.ptr 5 0),(6,iI v7)],[(2,aJ v1),(4,bm dM),(5,bm v4)],[],[2,4,5]⟩
variable{M w0 r v1 v2 v3 v4 v7 v8 v9 v10 v11 v12 v13}{K:Kn}{n:Nat}
theorem Aw(hK:am K)(h:lq K n v4 v8 v13=some r):EC M w0 r [.b 0,yJ 4095] (Za v4 v8 v13):=by
 unfold lq at h;refine aE 4 ?_;cases h;exact ba
theorem Ma(hK:am K)(h:pY K n v3 v4 v8 v9 v10 v11 v12=some r):EC M w0 r [yJ 16377,.b 0,yJ 4095] (Vm v3 v4 v8 v9 v10 v11 v12):=by
 unfold pY at h;obtain⟨h12,h⟩|⟨h12,h⟩:=ak h
 ·exact ag 59 h12 (ae 4 (Aw hK h))
 ·refine ag 59 h12 (bh 7 3 ?_);obtain⟨h13,h⟩|⟨h13,h⟩:=ak h
  ·exact ag 76 h13 (ae 2 (Aw hK h))
  ·refine ag 76 h13 (bh 7 3 ?_);obtain⟨h14,h⟩|⟨h14,h⟩:=ak h
   ·exact ag 82 h14 (ae 2 (Aw hK h))
   ·exact ag 82 h14 (ae 2 (Aw hK h))
theorem M0(hK:am K)(h:pC K n v1 v3 v4 v7=some r):EC M w0 r [yJ 63] (abz v1 v3 v4 v7):=by
 unfold pC at h;refine az 2 3 1 (aj 3 ?_);obtain⟨v8,h6,h⟩:=bind_some h;refine aD (zI hK h6) (ac (az 2 3 1 (aj 2 ?_)));obtain⟨v9,h7,h⟩:=bind_some h;refine aD (wR hK h7) (ac (az 2 3 1 (aj 4 ?_)));obtain⟨v10,h8,h⟩:=bind_some h;refine aD (fG hK h8) (ac (az 2 3 1 (aj 4 ?_)));obtain⟨v11,h9,h⟩:=bind_some h;refine aD (fG hK h9) (ac (az 5 3 3 ?_));obtain⟨h10,h⟩|⟨h10,h⟩:=ak h
 ·refine ag 57 h10 (aE 5 ?_);cases h;exact ba
 ·refine ag 57 h10 (cQ 8 9 0 3 5 (aj 3 ?_));obtain⟨h11,h⟩|⟨h11,h⟩:=ak h
  ·exact aA 62 h11 (ac (ae 0 (Ma hK h)))
  ·exact aA 62 h11 (ac (ae 0 (Ma hK h)))
theorem Vu(hK:am K)(h:tT K n v1 v2=some r):aO Tryz.prog 130 [.agg (aJ v1),iI v2] (fun v _=>v=.agg (bm r)):=by
 refine bg (cat Tryz.f130 (pn 1)) Tryz.func130 Tryz.ntmps130 fun M w0=>(bc ⟨[(0,.agg (aJ v1)),(1,iI v2)],[],[],[]⟩ ?_);unfold tT at h;refine az 6 7 3 (aj 1 ?_);obtain⟨v3,h1,h⟩:=bind_some h;refine aD (gN hK h1) (ac (az 2 3 1 (aj 2 ?_)));obtain⟨v4,h2,h⟩:=bind_some h;refine aD (Ai hK h2) (ac (az 2 3 1 (aj 3 ?_)));obtain⟨v5,h3,h⟩:=bind_some h;refine aD (fG hK h3) (ac (az 5 3 3 ?_));obtain⟨h4,h⟩|⟨h4,h⟩:=ak h
 ·refine ag 26 h4 (bh 2 1 (aj 2 ?_));obtain⟨v6,h5,h⟩:=bind_some h;exact aD (wR hK h5) (ac (ae 0 (M0 hK h)))
 ·exact ag 26 h4 (ae 2 (M0 hK h))
end
noncomputable section
variable(M:Nat→Prop)(w0:aF)(r:ah)(v1:ai)(v2:Int)  
variable{M w0 r v1 v2}{K:Kn}{n:Nat}
theorem Vf(hK:am K)(h:fM K n v1 v2=some r):aO Tryz.prog 121 [.agg (aW v1),iI v2] (fun v _=>v=.agg (aH r)):=by
 refine bg (cat Tryz.f121 (pn 1)) Tryz.func121 Tryz.ntmps121 fun M w0=>(bc ⟨[(0,.agg (aW v1)),(1,iI v2)],[],[],[]⟩ ?_);unfold fM at h;refine az 6 7 3 (bI [1,2,4] [2,4] [] ?_);obtain⟨v3,h1,h⟩:=bind_some h;obtain⟨v4,h2,h⟩:=bind_some h;refine bF 1 (nu 5 [.agg (aW v1),.ptr 2 2,.agg (aJ v1.Style),iI v2,.agg (bm v3),.agg (aH v4)]) [] [] [bR Tryz.prog 11 Tryz.f121 (pn 6) 6] (av (vz 4) (ab (cb 0 1 9 (Vu hK h1)) (ab (cb 0 1 10 (hK.mw h2)) (ab (bQ 0) bG)))) (aE 1 ?_);cases h;exact ba
end
noncomputable section
variable(M:Nat→Prop)(w0:aF)(r:ax)(v1 v2:ax)  
variable{M w0 r v1 v2}{K:Kn}{n:Nat}
theorem vy(hK:am K)(h:ip K n v1 v2=some r):aO Tryz.prog 124 [.agg (bS v1),.agg (bS v2)] (fun v _=>v=.agg (bS r)):=by
 refine bg (cat Tryz.f124 (pn 1)) Tryz.func124 Tryz.ntmps124 fun M w0=>(bc ⟨[(0,.agg (bS v1)),(1,.agg (bS v2))],[],[],[]⟩ ?_);unfold ip at h;refine aE 5 ?_;cases h;exact ba
end
noncomputable section
variable(M:Nat→Prop)(w0:aF)(r:cC)(v1:List ah)(v16 v17:Int)(v18:ax)(v19:Bool)(v20:ax)(v21:List ah)(v22:ax)(v24:Int)(v25:ax)(v26:Int)(v27:ax)(v28:Bool)(v29 v30:ax)(m1:Nat)(L1:Int→Int→ax→Bool→ax→(List ah)→Option cC)
abbrev AC:Cx:=⟨Tryz.prog,62,M,w0⟩
abbrev FR:=bodyPost Tryz.prog Tryz.f122 (bu M w0 (fun v s=>v=.agg (List.set (dt ({ r with List:=[] }:cC)) 0 (.ref 53))∧look 53 s.r=some ⟨59,67,lm aG r.List⟩))
abbrev ul(ks:List aq)(s:AS):=VE (AC M w0) (FR M w0 r) ks .normal s
abbrev ju(n:Nat):aq:=.c (cat Tryz.f122 (pn n))
abbrev Bk:List aq:=[.b 0,ju 31]
abbrev yS:List aq:=kl (AC M w0) (FR M w0 r) Bk (cat Tryz.f122 (pn 244)) m1::Bk
def Uj:AS:=⟨[(0,.sl (lm aG v1)),(2,.ptr 2 0),(3,.ptr 3 0),(4,.ptr 4 0),(5,iI v16),(6,.ptr 6 0)],[(2,List.set (dt pq) 0 (.nils)),(3,List.set (dt (⟨[],v26,v27,cI,v28⟩:cC)) 0 (.ref 53)),(4,bS v29),(6,aH ({ (gD v1 v16)with Y:=v24 }:ah))],[(53,⟨59,67,lm aG v21⟩)],[2,3,4,6,53]⟩
def acU:AS:=⟨[(0,.sl (lm aG v1)),(2,.ptr 2 0),(3,.ptr 3 0),(4,.ptr 4 0),(5,iI v16),(6,.ptr 6 0)],[(2,List.set (dt pq) 0 (.nils)),(3,List.set (dt (⟨[],v17,v25,cI,v19⟩:cC)) 0 (.ref 53)),(4,bS v22),(6,aH ({ (gD v1 v16)with Y:=v24 }:ah))],[(53,⟨59,67,lm aG v21⟩)],[2,3,4,6,53]⟩
def UK:AS:=⟨[(0,.sl (lm aG v1)),(2,.ptr 2 0),(3,.ptr 3 0),(4,.ptr 4 0),(5,iI v16),(6,.ptr 6 0)],[(2,List.set (dt pq) 0 (.nils)),(3,List.set (dt (⟨[],v17,v18,cI,v19⟩:cC)) 0 (.ref 53)),(4,bS v22),(6,aH ({ (gD v1 v16)with Y:=v24 }:ah))],[(53,⟨59,67,lm aG v21⟩)],[2,3,4,6,53]⟩
def YW:AS:=⟨[(2,.ptr 2 0),(3,.ptr 3 0),(4,.ptr 4 0)],[(2,List.set (dt pq) 0 (.nils)),(3,List.set (dt (⟨[],v17,v30,cI,v19⟩:cC)) 0 (.ref 53)),(4,bS v20)],[(53,⟨59,67,lm aG v21⟩)],[2,3,4,53]⟩
def K7:AS:=⟨[(0,.sl (lm aG v1)),(2,.ptr 2 0),(3,.ptr 3 0),(4,.ptr 4 0),(5,iI v16)],[(2,List.set (dt pq) 0 (.nils)),(3,List.set (dt (⟨[],v17,v18,cI,v19⟩:cC)) 0 (.ref 53)),(4,bS v20)],[(53,⟨59,67,lm aG v21⟩)],[2,3,4,53]⟩
abbrev wm:Prop:=∀{v16:Int} {v17:Int} {v18:ax} {v19:Bool} {v20:ax} {v21:(List ah)},L1 v16 v17 v18 v19 v20 v21=some r→LP (AC M w0) (FR M w0 r) Bk (cat Tryz.f122 (pn 244)) m1 (K7 v1 v16 v17 v18 v19 v20 v21)
variable{M w0 r v1 v16 v17 v18 v19 v20 v21 v22 v24 v25 v26 v27 v28 v29 v30 m1 L1}{K:Kn}{n:Nat}
theorem Od(hK:am K)(hL1:wm M w0 r v1 m1 L1)(h:nn K n v1 v16 v21 v24 L1 v26 v27 v28 v29=some r):ul M w0 r (ju 62623 :: .b 1::ju 979::yS M w0 r m1) (Uj v1 v16 v21 v24 v26 v27 v28 v29):=by
 unfold nn at h;refine aj 3 (aB (fB aG ([({ (gD v1 v16)with Y:=v24 }:ah)]:List ah) (new:=[aH ({ (gD v1 v16)with Y:=v24 }:ah)]) (by simp only[List.map_cons,List.map_nil,dc])) ?_);obtain⟨h22,h⟩:=aK h;exact aB (cD 53 53 59 67 aG (rfl) (fc) h22) (ac (ae 2 (bt (hL1 h))))
theorem Ok(hK:am K)(hL1:wm M w0 r v1 m1 L1)(h:l4 K n v1 v16 v17 v19 v21 v22 v24 L1 v25=some r):ul M w0 r (ju 500981::ju 62623 :: .b 1::ju 979::yS M w0 r m1) (acU v1 v16 v17 v19 v21 v22 v24 v25):=by
 unfold l4 at h;exact ae 5 (Od hK hL1 h)
theorem HC(hK:am K)(hL1:wm M w0 r v1 m1 L1)(h:lU K n v1 v16 v17 v18 v19 v21 v22 L1 v24=some r):ul M w0 r (ju 31311 :: .b 1::ju 979::yS M w0 r m1) (UK v1 v16 v17 v18 v19 v21 v22 v24):=by
 unfold lU at h;refine az 5 3 3 ?_;obtain⟨h20,h⟩|⟨h20,h⟩:=ak h
 ·refine ag 35 h20 (az 9 5 4 ?_);obtain⟨h21,h⟩|⟨h21,h⟩:=ak h
  ·exact ag 37 h21 (ae 2 (Ok hK hL1 h))
  ·exact ag 37 h21 (ae 2 (Ok hK hL1 h))
 ·exact ag 35 h20 (ae 2 (Od hK hL1 h))
theorem JN(hK:am K)(h:l6 K n v17 v19 v20 v21 v30=some r):ul M w0 r [ju 63] (YW v17 v19 v20 v21 v30):=by
 unfold l6 at h;refine aE 5 ?_;cases h;exact fa
theorem Tr(hK:am K)(hL1:wm M w0 r v1 m1 L1)(h:mX K n v1 L1 v16 v17 v18 v19 v20 v21=some r):ul M w0 r (ju 244::yS M w0 r m1) (K7 v1 v16 v17 v18 v19 v20 v21):=by
 unfold mX at h;refine bH 4 5 3 2 (aj 2 (aB (bq aG v1) (ac ?_)));obtain⟨h15,h⟩|⟨h15,h⟩:=ak h
 ·refine ag 12 h15 (cQ 8 9 1 3 5 (aj 2 ?_));obtain⟨h16,h⟩:=aK h;refine aB (bw aG aH h16 (fc) (dc)) (ac (az 2 3 1 (aj 3 ?_)));obtain⟨v22,h17,h⟩:=bind_some h;refine aD (vy hK h17) (ac (az 13 7 5 ?_));obtain⟨h18,h⟩|⟨h18,h⟩:=ak h
  ·refine ag 26 h18 (bh 2 1 (bI [0,2,3,4,5,6] [2,3,4,6] [53] ?_));obtain⟨v23,h19,h⟩:=bind_some h;exact bF 1 (nu 27 [.ptr 3 1,iI v17,.agg (bS v22),iI v23,iI (aa (v17+v23)),.ptr 6 3]) [] [] [bR Tryz.prog 62 Tryz.f122 (pn 125242) 6] (av (vz 3) (ab (cb 0 1 30 (uP hK h19)) (av (vz 2) (ab (bQ 0) bG)))) (ae 0 (HC hK hL1 h))
  ·exact ag 26 h18 (ae 2 (HC hK hL1 h))
 ·refine ag 12 h15 (kx 5 3 8 ?_);obtain⟨h23,h⟩|⟨h23,h⟩:=ak h
  ·exact ag 56 h23 (ae 2 (JN hK h))
  ·exact ag 56 h23 (ae 2 (JN hK h))
theorem TD(hK:am K)(m:Nat):wm M w0 r v1 m (mA K n v1 m):=by
 induction m with
 | zero=>intro v16 v17 v18 v19 v20 v21 h;cases h
 | succ m ih=>intro v16 v17 v18 v19 v20 v21 h;have h:mX K n v1 (mA K n v1 m) v16 v17 v18 v19 v20 v21=some r:=h;exact bp (Tr hK ih h)
theorem Y1(hK:am K)(h:mR K n v1=some r):aO Tryz.prog 122 [.sl (lm aG v1)] (fun v s=>v=.agg (List.set (dt ({ r with List:=[] }:cC)) 0 (.ref 53))∧look 53 s.r=some ⟨59,67,lm aG r.List⟩):=by
 refine bg (cat Tryz.f122 (pn 1)) Tryz.func122 Tryz.ntmps122 fun M w0=>(bc ⟨[(0,.sl (lm aG v1))],[],[],[]⟩ ?_);unfold mR at h;exact fr 122 0 31 10 (bI [0,2,3,4,5] [2,3,4] [] (xZ 53 3 0 59 67 (ae 0 (cf (p:=pn 122) n (TD hK n h)))))
end
noncomputable section
variable(M:Nat→Prop)(w0:aF)(r:ax)(v1:Int)  
variable{M w0 r v1}{K:Kn}{n:Nat}
theorem Ix(hK:am K)(h:nQ K n v1=some r):aO Tryz.prog 123 [iI v1] (fun v _=>v=.agg (bS r)):=by
 refine bg (cat Tryz.f123 (pn 1)) Tryz.func123 Tryz.ntmps123 fun M w0=>(bc ⟨[(0,iI v1)],[],[],[]⟩ ?_);unfold nQ at h;refine aE 5 ?_;cases h;exact ba
end
noncomputable section
variable(M:Nat→Prop)(w0:aF)(r:ah)(v1:ai)(v2:aV)(v3:Bool)(v4:Int)(v5:Bool)(v6:List ai)(v9:Int)(v10:List ah)(v14:Int)(v15 v16:ax)(v17:Bool)(v18:List ah)(v19:Int×Bool)(v20 v21 v22:Bool)(v23 v24:ax)(v26:Bool)(v28:Int)(v29:ax)(v30 v33:Bool)(v36:Int)(v37 v38:ax)(v39:Bool)(v40 v59 v60:Int)(v61:List ah)(v65:ah)(m1 m2:Nat)(L1:Int→(List ah)→Option ah)(L2:Int→Int→(List ah)→Option ah)
abbrev wN:Cx:=⟨Tryz.prog,281,M,w0⟩
abbrev uz:=bodyPost Tryz.prog Tryz.f107 (bu M w0 (fun v s=>v=.agg (List.set (aH ({ r with Kids:=[] }:ah)) 66 (.ref 278))∧look 278 s.r=some ⟨59,67,lm aG r.Kids⟩))
abbrev gO(ks:List aq)(s:AS):=VE (wN M w0) (uz M w0 r) ks .normal s
abbrev dp(n:Nat):aq:=.c (cat Tryz.f107 (pn n))
abbrev Ev:List aq:=[.b 3,dp 33554431]
abbrev DW:List aq:=kl (wN M w0) (uz M w0 r) Ev (cat Tryz.f107 (pn 268435444)) m2::Ev
abbrev Ch:List aq:=[.b 0,dp 8171,dp 511]
abbrev Sc:List aq:=kl (wN M w0) (uz M w0 r) Ch (cat Tryz.f107 (pn 65364)) m1::Ch
def OK:AS:=⟨[(4,.ptr 4 0),(6,.ptr 6 0),(8,.ptr 8 0),(9,.bool v5),(11,.ptr 11 0),(22,iI v28),(24,iI v59),(25,.ptr 25 0)],[(4,bm v2),(6,List.set (aH bA) 66 (.nils)),(8,List.set (aH (⟨1,v1.Node,v2.Margin.a3,0,v4,v60,0,⟨#[]⟩,v1.Style,v37,v38,v39,[]⟩:ah)) 66 (.ref 278)),(11,List.set (dt (⟨[],v14,v15,v16,v17⟩:cC)) 0 (.ref 1077)),(25,aH v65)],[(278,⟨59,67,lm aG v61⟩),(1077,⟨59,67,lm aG v18⟩)],[4,6,8,11,25,278,1077]⟩
def Nb:AS:=⟨[(4,.ptr 4 0),(6,.ptr 6 0),(8,.ptr 8 0),(9,.bool v5),(11,.ptr 11 0),(22,iI v28),(24,iI v59)],[(4,bm v2),(6,List.set (aH bA) 66 (.nils)),(8,List.set (aH (⟨1,v1.Node,v2.Margin.a3,0,v4,v60,0,⟨#[]⟩,v1.Style,v37,v38,v39,[]⟩:ah)) 66 (.ref 278)),(11,List.set (dt (⟨[],v14,v15,v16,v17⟩:cC)) 0 (.ref 1077))],[(278,⟨59,67,lm aG v61⟩),(1077,⟨59,67,lm aG v18⟩)],[4,6,8,11,278,1077]⟩
def XT:AS:=⟨[(4,.ptr 4 0),(6,.ptr 6 0),(8,.ptr 8 0),(9,.bool v5),(11,.ptr 11 0),(22,iI v28),(23,iI v40)],[(4,bm v2),(6,List.set (aH bA) 66 (.nils)),(8,List.set (aH (⟨1,v1.Node,v2.Margin.a3,0,v4,0,0,⟨#[]⟩,v1.Style,v37,v38,v39,[]⟩:ah)) 66 (.nils)),(11,List.set (dt (⟨[],v14,v15,v16,v17⟩:cC)) 0 (.ref 1077))],[(1077,⟨59,67,lm aG v18⟩)],[4,6,8,11,1077]⟩
def Pv:AS:=⟨[(4,.ptr 4 0),(6,.ptr 6 0),(8,.ptr 8 0),(9,.bool v5),(11,.ptr 11 0),(16,iI v19.1),(17,.bool v19.2),(22,iI v28),(23,iI v36)],[(4,bm v2),(6,List.set (aH bA) 66 (.nils)),(8,List.set (aH (⟨1,v1.Node,v2.Margin.a3,0,v4,0,0,⟨#[]⟩,v1.Style,v37,v38,v39,[]⟩:ah)) 66 (.nils)),(11,List.set (dt (⟨[],v14,v15,v16,v17⟩:cC)) 0 (.ref 1077))],[(1077,⟨59,67,lm aG v18⟩)],[4,6,8,11,1077]⟩
def SP:AS:=⟨[(4,.ptr 4 0),(6,.ptr 6 0),(8,.ptr 8 0),(9,.bool v5),(11,.ptr 11 0),(16,iI v19.1),(17,.bool v19.2),(18,.bool v21),(19,.bool v22),(21,.ptr 21 0),(22,iI v28),(23,iI 0),(186,.bool v33)],[(4,bm v2),(6,List.set (aH bA) 66 (.nils)),(8,List.set (aH (⟨1,v1.Node,v2.Margin.a3,0,v4,0,0,⟨#[]⟩,v1.Style,v29,v24,false,[]⟩:ah)) 66 (.nils)),(11,List.set (dt (⟨[],v14,v15,v16,v17⟩:cC)) 0 (.ref 1077)),(21,bS v24)],[(1077,⟨59,67,lm aG v18⟩)],[4,6,8,11,21,1077]⟩
def Sb:AS:=⟨[(4,.ptr 4 0),(6,.ptr 6 0),(8,.ptr 8 0),(9,.bool v5),(11,.ptr 11 0),(16,iI v19.1),(17,.bool v19.2),(18,.bool v21),(19,.bool v22),(21,.ptr 21 0),(22,iI v28),(23,iI 0),(158,.bool v30)],[(4,bm v2),(6,List.set (aH bA) 66 (.nils)),(8,List.set (aH (⟨1,v1.Node,v2.Margin.a3,0,v4,0,0,⟨#[]⟩,v1.Style,v29,v24,false,[]⟩:ah)) 66 (.nils)),(11,List.set (dt (⟨[],v14,v15,v16,v17⟩:cC)) 0 (.ref 1077)),(21,bS v24)],[(1077,⟨59,67,lm aG v18⟩)],[4,6,8,11,21,1077]⟩
def Zk:AS:=⟨[(4,.ptr 4 0),(6,.ptr 6 0),(8,.ptr 8 0),(9,.bool v5),(11,.ptr 11 0),(16,iI v19.1),(17,.bool v19.2),(18,.bool v21),(19,.bool v22),(21,.ptr 21 0),(22,iI v28),(23,iI 0)],[(4,bm v2),(6,List.set (aH bA) 66 (.nils)),(8,List.set (aH (⟨1,v1.Node,v2.Margin.a3,0,v4,0,0,⟨#[]⟩,v1.Style,v29,v24,false,[]⟩:ah)) 66 (.nils)),(11,List.set (dt (⟨[],v14,v15,v16,v17⟩:cC)) 0 (.ref 1077)),(21,bS v24)],[(1077,⟨59,67,lm aG v18⟩)],[4,6,8,11,21,1077]⟩
def Yh:AS:=⟨[(4,.ptr 4 0),(6,.ptr 6 0),(8,.ptr 8 0),(9,.bool v5),(11,.ptr 11 0),(16,iI v19.1),(17,.bool v19.2),(18,.bool v21),(19,.bool v22),(21,.ptr 21 0),(22,iI 0),(23,iI 0),(154,.bool v26)],[(4,bm v2),(6,List.set (aH bA) 66 (.nils)),(8,List.set (aH (⟨1,v1.Node,v2.Margin.a3,0,v4,0,0,⟨#[]⟩,v1.Style,v23,v24,false,[]⟩:ah)) 66 (.nils)),(11,List.set (dt (⟨[],v14,v15,v16,v17⟩:cC)) 0 (.ref 1077)),(21,bS v24)],[(1077,⟨59,67,lm aG v18⟩)],[4,6,8,11,21,1077]⟩
def O7:AS:=⟨[(4,.ptr 4 0),(6,.ptr 6 0),(8,.ptr 8 0),(9,.bool v5),(11,.ptr 11 0),(16,iI v19.1),(17,.bool v19.2),(18,.bool v21),(19,.bool v22)],[(4,bm v2),(6,List.set (aH bA) 66 (.nils)),(8,List.set (aH ({ bA with Kind:=1,Node:=v1.Node,X:=v2.Margin.a3,W:=v4,Style:=v1.Style }:ah)) 66 (.nils)),(11,List.set (dt (⟨[],v14,v15,v16,v17⟩:cC)) 0 (.ref 1077))],[(1077,⟨59,67,lm aG v18⟩)],[4,6,8,11,1077]⟩
def ac6:AS:=⟨[(2,.bool v20),(4,.ptr 4 0),(6,.ptr 6 0),(8,.ptr 8 0),(9,.bool v5),(11,.ptr 11 0),(16,iI v19.1),(17,.bool v19.2),(18,.bool v21)],[(4,bm v2),(6,List.set (aH bA) 66 (.nils)),(8,List.set (aH ({ bA with Kind:=1,Node:=v1.Node,X:=v2.Margin.a3,W:=v4,Style:=v1.Style }:ah)) 66 (.nils)),(11,List.set (dt (⟨[],v14,v15,v16,v17⟩:cC)) 0 (.ref 1077))],[(1077,⟨59,67,lm aG v18⟩)],[4,6,8,11,1077]⟩
def P2:AS:=⟨[(2,.bool v20),(4,.ptr 4 0),(6,.ptr 6 0),(8,.ptr 8 0),(9,.bool v5),(11,.ptr 11 0),(16,iI v19.1),(17,.bool v19.2)],[(4,bm v2),(6,List.set (aH bA) 66 (.nils)),(8,List.set (aH ({ bA with Kind:=1,Node:=v1.Node,X:=v2.Margin.a3,W:=v4,Style:=v1.Style }:ah)) 66 (.nils)),(11,List.set (dt (⟨[],v14,v15,v16,v17⟩:cC)) 0 (.ref 1077))],[(1077,⟨59,67,lm aG v18⟩)],[4,6,8,11,1077]⟩
def UT:AS:=⟨[(2,.bool v3),(4,.ptr 4 0),(6,.ptr 6 0),(7,.ptr 7 0),(8,.ptr 8 0),(9,.bool v5),(11,.ptr 11 0)],[(4,bm v2),(6,List.set (aH bA) 66 (.nils)),(7,aJ v1.Style),(8,List.set (aH ({ bA with Kind:=1,Node:=v1.Node,X:=v2.Margin.a3,W:=v4,Style:=v1.Style }:ah)) 66 (.nils)),(11,List.set (dt (⟨[],v14,v15,v16,v17⟩:cC)) 0 (.ref 1077))],[(1077,⟨59,67,lm aG v18⟩)],[4,6,7,8,11,1077]⟩
def N9:AS:=⟨[(2,.bool v3),(4,.ptr 4 0),(6,.ptr 6 0),(7,.ptr 7 0),(8,.ptr 8 0),(9,.bool v5),(10,.ref 1057),(11,.ptr 11 0),(12,.ref 75),(13,iI v9)],[(4,bm v2),(6,List.set (aH bA) 66 (.nils)),(7,aJ v1.Style),(8,List.set (aH ({ bA with Kind:=1,Node:=v1.Node,X:=v2.Margin.a3,W:=v4,Style:=v1.Style }:ah)) 66 (.nils)),(11,List.set (dt pq) 0 (.nils))],[(75,⟨59,67,lm aG v10⟩),(1057,⟨52,59,lm aQ v6⟩)],[4,6,7,8,11,75,1057]⟩
abbrev Oh:Prop:=∀{v9:Int} {v10:(List ah)},L1 v9 v10=some r→LP (wN M w0) (uz M w0 r) Ch (cat Tryz.f107 (pn 65364)) m1 (N9 v1 v2 v3 v4 v5 v6 v9 v10)
abbrev EH:Prop:=∀{v59:Int} {v60:Int} {v61:(List ah)},L2 v59 v60 v61=some r→LP (wN M w0) (uz M w0 r) Ev (cat Tryz.f107 (pn 268435444)) m2 (Nb v1 v2 v4 v5 v14 v15 v16 v17 v18 v28 v37 v38 v39 v59 v60 v61)
variable{M w0 r v1 v2 v3 v4 v5 v6 v9 v10 v14 v15 v16 v17 v18 v19 v20 v21 v22 v23 v24 v26 v28 v29 v30 v33 v36 v37 v38 v39 v40 v59 v60 v61 v65 m1 m2 L1 L2}{K:Kn}{n:Nat}
theorem MW(hK:am K)(hL2:EH M w0 r v1 v2 v4 v5 v14 v15 v16 v17 v18 v28 v37 v38 v39 m2 L2)(h:nN K n v1 v2 v4 v5 v14 v15 v16 v17 v18 v28 v37 v38 v39 v59 v60 v61 L2 v65=some r):gO M w0 r (dp 34359736911 :: .b 4::dp 1073741779::DW M w0 r m2) (OK v1 v2 v4 v5 v14 v15 v16 v17 v18 v28 v37 v38 v39 v59 v60 v61 v65):=by
 unfold nN at h;refine aj 3 (aB (fB aG ([v65]:List ah) (new:=[aH v65]) (by simp only[List.map_cons,List.map_nil,dc])) ?_);obtain⟨h73,h⟩:=aK h;exact aB (cD 278 278 59 67 aG (rfl) (fc) h73) (ac (ae 2 (bt (hL2 h))))
theorem U8(hK:am K)(hL2:EH M w0 r v1 v2 v4 v5 v14 v15 v16 v17 v18 v28 v37 v38 v39 m2 L2)(h:nB K n v1 v2 v4 v5 v14 v15 v16 v17 v18 v28 v37 v38 v39 L2 v59 v60 v61=some r):gO M w0 r (dp 268435444::DW M w0 r m2) (Nb v1 v2 v4 v5 v14 v15 v16 v17 v18 v28 v37 v38 v39 v59 v60 v61):=by
 unfold nB at h;refine bH 4 5 3 2 (aj 3 (aB (bq aG v18) (ac ?_)));obtain⟨h67,h⟩|⟨h67,h⟩:=ak h
 ·refine ag 237 h67 (cQ 8 9 4 3 5 (aj 3 ?_));obtain⟨h68,h⟩:=aK h;refine aB (cS 1077 67 aG h68) (aB (cp 59 0 aG aH (cj h68).2 (dc)) (ac ?_));obtain⟨v62,h69,h⟩:=bW h;obtain⟨v63,h70,h⟩:=bW h;refine bB (ks':=dp 68719473821::dp 34359736911 :: .b 4::dp 1073741779::DW M w0 r m2) 7 ⟨[(4,.ptr 4 0),(6,.ptr 6 0),(8,.ptr 8 0),(9,.bool v5),(11,.ptr 11 0),(22,iI v28),(24,iI v59),(25,.ptr 25 0),(269,.bool v5)],[(4,bm v2),(6,List.set (aH bA) 66 (.nils)),(8,List.set (aH (⟨1,v1.Node,v2.Margin.a3,0,v4,v60,0,⟨#[]⟩,v1.Style,v37,v38,v39,[]⟩:ah)) 66 (.ref 278)),(11,List.set (dt (⟨[],v14,v15,v16,v17⟩:cC)) 0 (.ref 1077)),(25,aH ({ (gD v18 v59)with X:=v62,Y:=v63 }:ah))],[(278,⟨59,67,lm aG v61⟩),(1077,⟨59,67,lm aG v18⟩)],[4,6,8,11,25,278,1077]⟩ ?_ (by subst h70;subst h69;kernel_rfl);obtain⟨h71,h⟩|⟨h71,h⟩:=ak h
  ·refine ag 269 h71 (bh 2 1 (aj 3 ?_));obtain⟨v64,h72,h⟩:=bind_some h;exact aD (IB hK h72) (ac (ae 0 (MW hK hL2 h)))
  ·exact ag 269 h71 (ae 2 (MW hK hL2 h))
 ·refine ag 237 h67 (aE 8 ?_);cases h;exact fa
theorem Rl(hK:am K)(m:Nat):EH M w0 r v1 v2 v4 v5 v14 v15 v16 v17 v18 v28 v37 v38 v39 m (nh K n v1 v2 v4 v5 v14 v15 v16 v17 v18 v28 v37 v38 v39 m):=by
 induction m with
 | zero=>intro v59 v60 v61 h;cases h
 | succ m ih=>intro v59 v60 v61 h;have h:nB K n v1 v2 v4 v5 v14 v15 v16 v17 v18 v28 v37 v38 v39 (nh K n v1 v2 v4 v5 v14 v15 v16 v17 v18 v28 v37 v38 v39 m) v59 v60 v61=some r:=h;exact bp (U8 hK ih h)
theorem GI(hK:am K)(h:kA K n v1 v2 v4 v5 v14 v15 v16 v17 v18 v28 v37 v38 v39 v40=some r):gO M w0 r [dp 8388607] (XT v1 v2 v4 v5 v14 v15 v16 v17 v18 v28 v37 v38 v39 v40):=by
 unfold kA at h;exact fr 26 3 7 6 (bI [4,6,8,9,11,22,24] [4,6,8,11] [1077] (xZ 278 8 66 59 67 (ae 0 (cf (p:=pn 134217722) n (Rl hK n h)))))
theorem tO(hK:am K)(h:gY K n v1 v2 v4 v5 v14 v15 v16 v17 v18 v19 v28 v36 v37 v38 v39=some r):gO M w0 r [.b 2,dp 2097151] (Pv v1 v2 v4 v5 v14 v15 v16 v17 v18 v19 v28 v36 v37 v38 v39):=by
 unfold gY at h;refine dB 13 7 6 ?_;obtain⟨h42,h⟩|⟨h42,h⟩:=ak h
 ·exact ag 213 h42 (ae 2 (GI hK h))
 ·exact ag 213 h42 (ae 2 (GI hK h))
theorem Kz(hK:am K)(h:nM K n v1 v2 v4 v5 v14 v15 v16 v17 v18 v19 v21 v22 v24 v28 v29 v33=some r):gO M w0 r [dp 134217631,.b 2,dp 2097151] (SP v1 v2 v4 v5 v14 v15 v16 v17 v18 v19 v21 v22 v24 v28 v29 v33):=by
 unfold nM at h;obtain⟨h37,h⟩|⟨h37,h⟩:=ak h
 ·refine ag 186 h37 (az 4 5 2 (aj 3 ?_));obtain⟨v34,h38,h⟩:=bind_some h;exact aD (vy hK h38) (ac (ae 3 (tO hK h)))
 ·refine ag 186 h37 (bh 7 3 ?_);obtain⟨h39,h⟩|⟨h39,h⟩:=ak h
  ·refine ag 200 h39 (bh 2 1 (aj 3 ?_));obtain⟨v35,h40,h⟩:=bind_some h;exact aD (vy hK h40) (ac (ae 0 (tO hK h)))
  ·refine ag 200 h39 (bh 7 3 ?_);obtain⟨h41,h⟩|⟨h41,h⟩:=ak h
   ·exact ag 207 h41 (ae 2 (tO hK h))
   ·exact ag 207 h41 (ae 2 (tO hK h))
theorem Jj(hK:am K)(h:lW K n v1 v2 v4 v5 v14 v15 v16 v17 v18 v19 v21 v22 v24 v28 v29 v30=some r):gO M w0 r [dp 8388601,.b 2,dp 2097151] (Sb v1 v2 v4 v5 v14 v15 v16 v17 v18 v19 v21 v22 v24 v28 v29 v30):=by
 unfold lW at h;obtain⟨h32,h⟩|⟨h32,h⟩:=ak h
 ·refine ag 158 h32 (az 4 5 2 (aj 3 ?_));obtain⟨v31,h33,h⟩:=bind_some h;exact aD (vy hK h33) (ac (ae 1 (tO hK h)))
 ·refine ag 158 h32 (bh 7 3 ?_);obtain⟨h34,h⟩|⟨h34,h⟩:=ak h
  ·refine ag 174 h34 (bh 2 1 (bI [4,6,8,9,11,16,17,22] [4,6,8,11] [1077] ?_));obtain⟨v32,h35,h⟩:=bind_some h;exact bF 1 (nu 178 [iI v28,.ptr 11 1,iI v14,iI (aa (v28+v14)),.ptr 11 4,.agg (bS v16),iI v32,iI (aa ((aa (v28+v14))+v32))]) [] [] [bR Tryz.prog 281 Tryz.f107 (pn 67108814) 8] (av (vz 6) (ab (cb 0 1 184 (uP hK h35)) (av [.v 0 1] (ab (bQ 0) bG)))) (ae 0 (tO hK h))
  ·refine ag 174 h34 (az 6 7 2 (aj 2 ?_));obtain⟨h36,h⟩|⟨h36,h⟩:=ak h
   ·exact aA 188 h36 (ac (ae 0 (Kz hK h)))
   ·exact aA 188 h36 (ac (ae 0 (Kz hK h)))
theorem A2(hK:am K)(h:kT K n v1 v2 v4 v5 v14 v15 v16 v17 v18 v19 v21 v22 v24 v28 v29=some r):gO M w0 r [dp 1048575] (Zk v1 v2 v4 v5 v14 v15 v16 v17 v18 v19 v21 v22 v24 v28 v29):=by
 unfold kT at h;refine dk 8 9 2 3 3 (aj 4 ?_);obtain⟨h31,h⟩|⟨h31,h⟩:=ak h
 ·exact aA 162 h31 (ac (ae 0 (Jj hK h)))
 ·exact aA 162 h31 (ac (ae 0 (Jj hK h)))
theorem KO(hK:am K)(h:nd K n v1 v2 v4 v5 v14 v15 v16 v17 v18 v19 v21 v22 v23 v24 v26=some r):gO M w0 r [dp 8388599,dp 1048575] (Yh v1 v2 v4 v5 v14 v15 v16 v17 v18 v19 v21 v22 v23 v24 v26):=by
 unfold nd at h;obtain⟨h29,h⟩|⟨h29,h⟩:=ak h
 ·refine ag 154 h29 (bh 2 1 (aj 2 ?_));obtain⟨v27,h30,h⟩:=bind_some h;exact aD (uP hK h30) (ac (ae 0 (A2 hK h)))
 ·exact ag 154 h29 (ae 2 (A2 hK h))
theorem EF(hK:am K)(h:jp K n v1 v2 v4 v5 v14 v15 v16 v17 v18 v19 v21 v22=some r):gO M w0 r [dp 8191] (O7 v1 v2 v4 v5 v14 v15 v16 v17 v18 v19 v21 v22):=by
 unfold jp at h;refine az 2 3 1 (aj 3 ?_);obtain⟨v23,h24,h⟩:=bind_some h;refine aD (Ix hK h24) (ac (az 2 3 1 (aj 3 ?_)));obtain⟨v24,h25,h⟩:=bind_some h;refine aD (Ix hK h25) (ac (az 125 63 11 ?_));obtain⟨h26,h⟩|⟨h26,h⟩:=ak h
 ·refine ag 142 h26 (bh 2 1 (aj 3 ?_));obtain⟨v25,h27,h⟩:=bind_some h;exact aD (vy hK h27) (ac (ae 0 (A2 hK h)))
 ·refine ag 142 h26 (az 6 7 2 (aj 4 ?_));obtain⟨h28,h⟩|⟨h28,h⟩:=ak h
  ·exact aA 151 h28 (ac (ae 0 (KO hK h)))
  ·exact aA 151 h28 (ac (ae 0 (KO hK h)))
theorem Jm(hK:am K)(h:nr K n v1 v2 v4 v5 v14 v15 v16 v17 v18 v19 v20 v21=some r):gO M w0 r [dp 4095] (ac6 v1 v2 v4 v5 v14 v15 v16 v17 v18 v19 v20 v21):=by
 unfold nr at h;refine az 2 3 1 (aj 2 ?_);obtain⟨h22,h⟩|⟨h22,h⟩:=ak h
 ·refine aA 116 h22 (aL 12 10 ?_);obtain⟨h23,h⟩|⟨h23,h⟩:=ak h
  ·exact aA 126 h23 (ac (ae 0 (EF hK h)))
  ·exact aA 126 h23 (ac (ae 0 (EF hK h)))
 ·exact aA 116 h22 (ac (ae 0 (EF hK h)))
theorem Jt(hK:am K)(h:nF K n v1 v2 v4 v5 v14 v15 v16 v17 v18 v19 v20=some r):gO M w0 r [dp 2047] (P2 v1 v2 v4 v5 v14 v15 v16 v17 v18 v19 v20):=by
 unfold nF at h;refine az 2 3 1 (aj 2 ?_);obtain⟨h21,h⟩|⟨h21,h⟩:=ak h
 ·exact aA 105 h21 (ac (ae 0 (Jm hK h)))
 ·exact aA 105 h21 (ac (ae 0 (Jm hK h)))
theorem JF(hK:am K)(h:jc K n v1 v2 v3 v4 v5 v14 v15 v16 v17 v18=some r):gO M w0 r [dp 511] (UT v1 v2 v3 v4 v5 v14 v15 v16 v17 v18):=by
 unfold jc at h;refine az 2 3 1 (aj 2 ?_);obtain⟨v19,h19,h⟩:=bind_some h;refine aD (IP hK h19) (ac (az 2 3 1 (aj 2 ?_)));obtain⟨h20,h⟩|⟨h20,h⟩:=ak h
 ·exact aA 99 h20 (ac (ae 0 (Jt hK h)))
 ·exact aA 99 h20 (ac (ae 0 (Jt hK h)))
theorem RA(hK:am K)(hL1:Oh M w0 r v1 v2 v3 v4 v5 v6 m1 L1)(h:me K n v1 v2 v3 v4 v5 v6 L1 v9 v10=some r):gO M w0 r (dp 65364::Sc M w0 r m1) (N9 v1 v2 v3 v4 v5 v6 v9 v10):=by
 unfold me at h;refine bH 4 5 3 2 (aj 2 (aB (bq aQ v6) (ac ?_)));obtain⟨h13,h⟩|⟨h13,h⟩:=ak h
 ·refine ag 63 h13 (zU 4 1 3 4 (bI [2,4,6,7,8,9,10,11,12,13] [4,6,7,8,11] [75,1057] ?_));obtain⟨h14,h⟩:=aK h;obtain⟨v11,h15,h⟩:=bind_some h;obtain⟨h16,h⟩:=aK h;exact bF 2 (nu 66 [.ref 75,.ref 1057,iI v9,.eptr 1057 59 (v9.toNat) 0,.agg (aW (gD v6 v9)),.ptr 4 12,iI v2.Content,.agg (aH v11),.sl (lm aG [v11])]) [] [] [iJ 75 75 ⟨59,67,lm aG (v10++[v11])⟩,bR Tryz.prog 281 Tryz.f107 (pn 522916) 10] (av [.v 0 1,.v 0 2,.v 0 2] (ab (jd (lo:=0) (k:=2) (eT ⟨(by kernel_rfl),(ft (dU 1057 59 aQ (L:=v6) h14) (by kernel_rfl))⟩ (eT ⟨(by kernel_rfl),(ft (dU 1057 59 aQ (L:=v6) h14) (by kernel_rfl))⟩ jV))) (ab (jd (lo:=0) (k:=2) (eT ⟨(by kernel_rfl),(ft (cp 52 0 aQ aW (cj h14).2 (dK)) (by kernel_rfl))⟩ (eT ⟨(by kernel_rfl),(ft (cp 52 0 aQ aW (cj h14).2 (dK)) (by kernel_rfl))⟩ jV))) (av [.v 0 2,.v 0 2] (ab (cb 0 1 73 (Vf hK h15)) (bv (fB aG ([v11]:List ah) (new:=[aH v11]) (by simp only[List.map_cons,List.map_nil,dc])) (ab (g9 (m:=0) (cD 75 75 59 67 aG (rfl) (fc) h16)) (ab (bQ 1) bG)))))))) (ae 2 (bt (hL1 h)))
 ·refine ag 63 h13 (co (ks':=[dp 8171,dp 511]) 5 (aj 1 (lT 75 ?_)));obtain⟨v12,h17,h⟩:=bind_some h;exact dx 1077 (Y1 hK h17) (pQ (i:=0) (by kernel_rfl)) (ac (ae 0 (JF hK h)))
theorem UF(hK:am K)(m:Nat):Oh M w0 r v1 v2 v3 v4 v5 v6 m (kp K n v1 v2 v3 v4 v5 v6 m):=by
 induction m with
 | zero=>intro v9 v10 h;cases h
 | succ m ih=>intro v9 v10 h;have h:me K n v1 v2 v3 v4 v5 v6 (kp K n v1 v2 v3 v4 v5 v6 m) v9 v10=some r:=h;exact bp (RA hK ih h)
theorem J2(hK:am K)(h:li K n v1 v2 v3=some r):aO Tryz.prog 107 [.agg (aW v1),.agg (bm v2),.bool v3] (fun v s=>v=.agg (List.set (aH ({ r with Kids:=[] }:ah)) 66 (.ref 278))∧look 278 s.r=some ⟨59,67,lm aG r.Kids⟩):=by
 refine bg (cat Tryz.f107 (pn 1)) Tryz.func107 Tryz.ntmps107 fun M w0=>(bc ⟨[(0,.agg (aW v1)),(1,.agg (bm v2)),(2,.bool v3)],[],[],[]⟩ ?_);unfold li at h;obtain⟨v4,h1,h⟩:=bW h;refine bB (ks':=[dp 62,dp 63]) 9 ⟨[(2,.bool v3),(3,.ptr 3 0),(4,.ptr 4 0),(6,.ptr 6 0),(7,.ptr 7 0),(8,.ptr 8 0)],[(3,aW v1),(4,bm v2),(6,List.set (aH bA) 66 (.nils)),(7,aJ v1.Style),(8,List.set (aH ({ bA with Kind:=1,Node:=v1.Node,X:=v2.Margin.a3,W:=v4,Style:=v1.Style }:ah)) 66 (.nils))],[],[3,4,6,7,8]⟩ ?_ (by subst h1;kernel_rfl);refine aj 1 ?_;obtain⟨v5,h2,h⟩:=bind_some h;refine aD (JI hK h2) (ac (az 2 3 1 (aj 1 ?_)));obtain⟨v6,h3,h⟩:=bind_some h;refine dx 1057 (Db hK h3) (fx 25) (ac (az 13 7 5 ?_));obtain⟨h4,h⟩|⟨h4,h⟩:=ak h
 ·exact ag 59 h4 (fr 42 0 11 7 (bI [2,4,6,7,8,9,10,11,12,13] [4,6,7,8,11] [1057] (fh 75 12 59 67 (ae 0 (cf (p:=pn 32682) n (UF hK n h))))))
 ·refine ag 59 h4 (az 6 7 2 (aj 4 (lT 1057 ?_)));obtain⟨v13,h18,h⟩:=bind_some h;exact dx 1083 (GY hK h18) (wg (i:=0) rfl) (ac (aj 3 (aB (bq aG v13.1) (ac (bI [2,4,6,7,8,9,11] [4,6,7,8,11] [1083] (HD 1083 1077 (ae 0 (JF hK h))))))))
end
noncomputable section
variable(M:Nat→Prop)(w0:aF)(r:ah)(v1:ai)(v2:aV)  
variable{M w0 r v1 v2}{K:Kn}{n:Nat}
theorem Qk(hK:am K)(h:ky K n v1 v2=some r):aO Tryz.prog 70 [.agg (aW v1),.agg (bm v2)] (fun v s=>v=.agg (List.set (aH ({ r with Kids:=[] }:ah)) 66 (.ref 1007))∧look 1007 s.r=some ⟨59,67,lm aG r.Kids⟩):=by
 refine bg (cat Tryz.f70 (pn 1)) Tryz.func70 Tryz.ntmps70 fun M w0=>(bc ⟨[(0,.agg (aW v1)),(1,.agg (bm v2))],[],[],[]⟩ ?_);unfold ky at h;refine az 6 7 3 (aj 2 ?_);obtain⟨v3,h1,h⟩:=bind_some h;refine dx 1007 (J2 hK h1) (pQ (i:=66) (by kernel_rfl)) (ac (aE 1 ?_));cases h;exact fa
end
noncomputable section
variable(M:Nat→Prop)(w0:aF)(r v1:Int)  
variable{M w0 r v1}{K:Kn}{n:Nat}
theorem DD(hK:am K)(h:lX K n v1=some r):aO Tryz.prog 81 [iI v1] (fun v _=>v=iI r):=by
 refine bg (cat Tryz.f81 (pn 1)) Tryz.func81 Tryz.ntmps81 fun M w0=>(bc ⟨[(0,iI v1)],[],[],[]⟩ ?_);unfold lX at h;refine aE 5 ?_;cases h;exact ba
end
noncomputable section
variable(M:Nat→Prop)(w0:aF)(r v1:Int)  
variable{M w0 r v1}{K:Kn}{n:Nat}
theorem PF(hK:am K)(h:xC K n v1=some r):aO Tryz.prog 82 [iI v1] (fun v _=>v=iI r):=by
 refine bg (cat Tryz.f82 (pn 1)) Tryz.func82 Tryz.ntmps82 fun M w0=>(bc ⟨[(0,iI v1)],[],[],[]⟩ ?_);unfold xC at h;refine az 6 7 3 (aj 1 ?_);obtain⟨v2,h1,h⟩:=bind_some h;refine aD (DD hK h1) (ac (aE 3 ?_));cases h;exact ba
end
noncomputable section
variable(M:Nat→Prop)(w0:aF)(r v1:Int)  
variable{M w0 r v1}{K:Kn}{n:Nat}
theorem RY(hK:am K)(h:uh K n v1=some r):aO Tryz.prog 108 [iI v1] (fun v _=>v=iI r):=by
 refine bg (cat Tryz.f108 (pn 1)) Tryz.func108 Tryz.ntmps108 fun M w0=>(bc ⟨[(0,iI v1)],[],[],[]⟩ ?_);unfold uh at h;refine az 13 7 5 ?_;obtain⟨h1,h⟩|⟨h1,h⟩:=ak h
 ·refine ag 4 h1 (aE 5 ?_);cases h;exact ba
 ·refine ag 4 h1 (aE 5 ?_);cases h;exact ba
end
noncomputable section
variable(M:Nat→Prop)(w0:aF)(r:Int×Int)(v1:aI)  
variable{M w0 r v1}{K:Kn}{n:Nat}
theorem Qq(hK:am K)(h:wV K n v1=some r):aO Tryz.prog 74 [.agg (aJ v1)] (fun v _=>v=.tup [iI r.1,iI r.2]):=by
 refine bg (cat Tryz.f74 (pn 1)) Tryz.func74 Tryz.ntmps74 fun M w0=>(bc ⟨[(0,.agg (aJ v1))],[],[],[]⟩ ?_);unfold wV at h;refine az 14 15 5 (bI [1,4] [1] [] ?_);obtain⟨v2,h1,h⟩:=bind_some h;obtain⟨v3,h2,h⟩:=bind_some h;obtain⟨v4,h3,h⟩:=bind_some h;refine bF 1 (nu 9 [.ptr 1 37,iI v1.FontSize,iI v2,iI (max v1.LineHeight 0),.ptr 1 37,iI v1.FontSize,iI v3,iI (aa ((max v1.LineHeight 0)-v3)),iI v4,iI (aa (v2+v4))]) [] [] [bR Tryz.prog 23 Tryz.f74 (pn 14) 10] (av (vz 2) (ab (cb 0 1 11 (DD hK h1)) (av (vz 3) (ab (cb 0 1 15 (PF hK h2)) (av [.v 0 1] (ab (cb 0 1 17 (RY hK h3)) (av [.v 0 1] (ab (bQ 0) bG)))))))) (aE 3 ?_);cases h;exact dS
end
noncomputable section
variable(M:Nat→Prop)(w0:aF)(r:Int)(v1 v2:Int)  
variable{M w0 r v1 v2}{K:Kn}{n:Nat}
theorem abJ(hK:am K)(h:uY K n v1 v2=some r):aO Tryz.prog 75 [.int .i32 v1,iI v2] (fun v _=>v=iI r):=by
 refine bg (cat Tryz.f75 (pn 1)) Tryz.func75 Tryz.ntmps75 fun M w0=>(bc ⟨[(0,.int .i32 v1),(1,iI v2)],[],[],[]⟩ ?_);unfold uY at h;refine az 6 7 3 (aj 1 ?_);obtain⟨v3,h1,h⟩:=bind_some h;refine aD (Ir hK h1) (aL 3 1 ?_);obtain⟨v4,h2,h⟩:=bind_some h;refine aD (DD hK h2) (ac (aE 3 ?_));cases h;exact ba
end
noncomputable section
variable(M:Nat→Prop)(w0:aF)(r v1:aP)(v2:Int)(v4:aI)(v12:Int×Int)(v19:Int)(v20:ByteArray)(v21 v22 v23:Int)(v24:ByteArray)(v25:Bool)(v26 v27:Int)(m1:Nat)(L1:Int→ByteArray→Int→Int→Option aP)
abbrev EG:Cx:=⟨Tryz.prog,108,M,w0⟩
abbrev BB:=bodyPost Tryz.prog Tryz.f37 (bu M w0 (fun v _=>v=.agg (bU r)))
abbrev CV(ks:List aq)(s:AS):=VE (EG M w0) (BB M w0 r) ks .normal s
abbrev jA(n:Nat):aq:=.c (cat Tryz.f37 (pn n))
abbrev Eh:List aq:=[.b 0,jA 255]
abbrev xV:List aq:=kl (EG M w0) (BB M w0 r) Eh (cat Tryz.f37 (pn 2036)) m1::Eh
def OU:AS:=⟨[(2,.ptr 2 0),(4,.ptr 4 0),(6,.ptr 6 0),(9,iI v19)],[(2,List.set (bU (⟨v1.Things,v24,v26,v27,v12.1,v12.2,v1.Glued,v1.Forced,[]⟩:aP)) 8 (.nils)),(4,List.set (List.set (bn dW) 0 (.nils)) 8 (.nils)),(6,aJ v4)],[],[2,4,6]⟩
def P7:AS:=⟨[(2,.ptr 2 0),(4,.ptr 4 0),(6,.ptr 6 0),(9,iI v19),(11,iI v23),(99,.bool v25)],[(2,List.set (bU (⟨v1.Things,v24,v21,v22,v12.1,v12.2,v1.Glued,v1.Forced,[]⟩:aP)) 8 (.nils)),(4,List.set (List.set (bn dW) 0 (.nils)) 8 (.nils)),(6,aJ v4)],[],[2,4,6]⟩
def HR:AS:=⟨[(2,.ptr 2 0),(4,.ptr 4 0),(6,.ptr 6 0),(9,iI v19)],[(2,List.set (bU (⟨v1.Things,v20,v21,v22,v12.1,v12.2,v1.Glued,v1.Forced,[]⟩:aP)) 8 (.nils)),(4,List.set (List.set (bn dW) 0 (.nils)) 8 (.nils)),(6,aJ v4)],[],[2,4,6]⟩
abbrev z2:Prop:=∀{v19:Int} {v20:ByteArray} {v21:Int} {v22:Int},L1 v19 v20 v21 v22=some r→LP (EG M w0) (BB M w0 r) Eh (cat Tryz.f37 (pn 2036)) m1 (HR v1 v4 v12 v19 v20 v21 v22)
variable{M w0 r v1 v2 v4 v12 v19 v20 v21 v22 v23 v24 v25 v26 v27 m1 L1}{K:Kn}{n:Nat}
theorem JW(hK:am K)(hL1:z2 M w0 r v1 v4 v12 m1 L1)(h:qn K n v1 v4 v12 v19 v24 L1 v26 v27=some r):CV M w0 r (.b 1::jA 8147::xV M w0 r m1) (OU v1 v4 v12 v19 v24 v26 v27):=by
 unfold qn at h;exact ae 2 (bt (hL1 h))
theorem GJ(hK:am K)(hL1:z2 M w0 r v1 v4 v12 m1 L1)(h:mi K n v1 v4 v12 v19 v21 v22 v23 v24 L1 v25=some r):CV M w0 r (jA 260687 :: .b 1::jA 8147::xV M w0 r m1) (P7 v1 v4 v12 v19 v21 v22 v23 v24 v25):=by
 unfold mi at h;obtain⟨h30,h⟩|⟨h30,h⟩:=ak h
 ·exact ag 99 h30 (ae 2 (JW hK hL1 h))
 ·exact ag 99 h30 (ae 2 (JW hK hL1 h))
theorem ab4(hK:am K)(hL1:z2 M w0 r v1 v4 v12 m1 L1)(h:ms K n v1 v4 v12 L1 v19 v20 v21 v22=some r):CV M w0 r (jA 2036::xV M w0 r m1) (HR v1 v4 v12 v19 v20 v21 v22):=by
 unfold ms at h;refine bH 4 5 3 2 (aj 3 (aB (bq aS v1.Things) (ac ?_)));obtain⟨h24,h⟩|⟨h24,h⟩:=ak h
 ·refine ag 69 h24 (cQ 8 9 1 3 5 (aj 3 ?_));obtain⟨h25,h⟩:=aK h;refine aB (bw aS aS h25 (jy) ((fun _=>rfl))) (ac (az 2 3 1 (aj 4 ?_)));obtain⟨v23,h26,h⟩:=bind_some h;refine aD (abJ hK h26) (ac (az 2 3 1 (aj 6 ?_)));obtain⟨h27,h⟩:=aK h;refine aB (YD h27) (ac ?_);obtain⟨v24,h28,h⟩:=bW h;refine bB (ks':=jA 260686::jA 260687 :: .b 1::jA 8147::xV M w0 r m1) 1 ⟨[(2,.ptr 2 0),(4,.ptr 4 0),(6,.ptr 6 0),(9,iI v19),(10,.ptr 10 0),(11,iI v23)],[(2,List.set (bU (⟨v1.Things,v24,v21,v22,v12.1,v12.2,v1.Glued,v1.Forced,[]⟩:aP)) 8 (.nils)),(4,List.set (List.set (bn dW) 0 (.nils)) 8 (.nils)),(6,aJ v4),(10,aS (gD v1.Things v19))],[],[2,4,6,10]⟩ ?_ (by subst h28;kernel_rfl);refine aj 3 ?_;obtain⟨h29,h⟩|⟨h29,h⟩:=ak h
  ·exact aA 92 h29 (aL 6 3 (aB (bq aS v1.Things) (ac (ae 0 (GJ hK hL1 h)))))
  ·exact aA 92 h29 (ac (ae 0 (GJ hK hL1 h)))
 ·refine ag 69 h24 (aE 8 ?_);cases h;exact ba
theorem aaN(hK:am K)(m:Nat):z2 M w0 r v1 v4 v12 m (kH K n v1 v4 v12 m):=by
 induction m with
 | zero=>intro v19 v20 v21 v22 h;cases h
 | succ m ih=>intro v19 v20 v21 v22 h;have h:ms K n v1 v4 v12 (kH K n v1 v4 v12 m) v19 v20 v21 v22=some r:=h;exact bp (ab4 hK ih h)
theorem ab5(hK:am K)(h:eR K n v1 v2=some r):aO Tryz.prog 37 [.agg (bU v1),iI v2] (fun v _=>v=.agg (bU r)):=by
 refine bg (cat Tryz.f37 (pn 1)) Tryz.func37 Tryz.ntmps37 fun M w0=>(bc ⟨[(0,.agg (bU v1)),(1,iI v2)],[],[],[]⟩ ?_);unfold eR at h;obtain⟨h1,h⟩:=aK h;refine JE 0 (v:=.agg (bU v1)) (v':=.agg (List.set (bU v1) 8 .nils)) (by kernel_rfl) (congrArg AV.agg (Vv v1 h1)) rfl (az 6 7 3 (aj 2 ?_));obtain⟨h2,h⟩:=aK h;refine aB (bw aS aS h2 (jy) ((fun _=>rfl))) (ac ?_);obtain⟨v3,h3,h⟩:=bW h;obtain⟨v4,h4,h⟩:=bW h;refine bB (ks':=[jA 61,jA 31]) 5 ⟨[(1,iI v2),(2,.ptr 2 0),(4,.ptr 4 0),(5,.ptr 5 0),(6,.ptr 6 0),(20,.bool v1.Forced)],[(2,List.set (bU ({ v1 with Box:=[] }:aP)) 8 (.nils)),(4,List.set (List.set (bn dW) 0 (.nils)) 8 (.nils)),(5,aS v3),(6,aJ v4)],[],[2,4,5,6]⟩ ?_ (by subst h4;subst h3;kernel_rfl);obtain⟨h5,h⟩|⟨h5,h⟩:=ak h
 ·refine ag 20 h5 (aE 5 ?_);cases h;exact ba
 ·refine ag 20 h5 (dB 5 3 5 ?_);obtain⟨h6,h⟩|⟨h6,h⟩:=ak h
  ·refine ag 23 h6 (az 4 5 2 (bI [1,2,4,5,6] [2,4,5,6] [] ?_));obtain⟨v5,h7,h⟩:=bind_some h;obtain⟨v6,h8,h⟩:=bind_some h;refine bF 1 (nu 24 [.agg (aJ v4),iI v2,.ptr 5 0,.agg (aW v3.Box),iI v2,iI v5,.agg (bm v6)]++nu 7 [.ptr 7 0]) [(7,bm dM)] [] [bR Tryz.prog 108 Tryz.f37 (pn 500) 8] (av (vz 5) (ab (cb 0 1 29 (ach hK h7)) (ab (cb 0 1 30 (Ai hK h8)) (ab (qh 0 1 75 7 (bm dM)) (ab (bQ 0) bG))))) (az 2 3 1 (aj 3 ?_));obtain⟨v7,h9,h⟩:=bind_some h;refine dx 1034 (Qk hK h9) (pQ (i:=66) (by kernel_rfl)) (ac (az 2 3 1 (aj 1 ?_)));obtain⟨v8,h10,h⟩:=bind_some h;refine aD (wR hK h10) (ac (az 2 3 1 (bI [1,2,4,8] [2,4,8] [1034] ?_)));obtain⟨v9,h11,h⟩:=bind_some h;obtain⟨v10,h12,h⟩:=bind_some h;refine bF 1 (nu 38 [.ptr 8 5,iI v7.H,.ptr 8 61,.agg (bS v7.Before),iI v9,iI (aa (v7.H+v9)),.ptr 8 63,.agg (bS v7.After),iI v10,iI (aa ((aa (v7.H+v9))+v10)),.ptr 2 4]) [] [] [bR Tryz.prog 108 Tryz.f37 (pn 4014) 11] (av (vz 4) (ab (cb 0 1 42 (uP hK h11)) (av (vz 3) (ab (cb 0 1 46 (uP hK h12)) (av (vz 2) (ab (bQ 0) bG)))))) (az 2 3 1 (bI [1,2,4,8] [2,4,8] [1034] (kB 1034 ?_)))
   obtain⟨v11,h13,h⟩:=bind_some h;obtain⟨h14,h⟩:=aK h;refine bF 2 (nu 49 [.ptr 2 8,.nils,.agg (aH v7),iI v2,.agg (aH v11),.sl (lm aG [v11])]++nu 56 [.ptr 2 8]) [] [] [NL 55 ⟨59,67,lm aG ([v11]:(List ah))⟩,bR Tryz.prog 108 Tryz.f37 (pn 8030) 8] (av [.v 0 2,.v 0 1,.v 0 2,.v 0 2] (ab (cb 0 1 53 (IB hK h13)) (bv (fB aG ([v11]:List ah) (new:=[aH v11]) (by simp only[List.map_cons,List.map_nil,dc])) (ab (g9 (m:=0) (CD 55 59 67 aG (rfl) (fc) h14)) (av [.v 1 1] (ab (bQ 1) bG)))))) (aE 4 (kB 55 ?_));cases h;exact ba
  ·refine ag 23 h6 (dB 2 3 3 (aj 1 ?_));obtain⟨v12,h15,h⟩:=bind_some h;exact aD (Qq hK h15) (ac (ae 4 (cf (p:=pn 1018) n (aaN hK n h))))
end
noncomputable section
variable(M:Nat→Prop)(w0:aF)(r:List aP)(v1:List ai)(v2:Int)(v3:List aM)(v5:Int)(v6:List (aP×Option (List aM)))(v8 v9 v11:Bool)(v12:List (aP×Option (List aM)))(v15:Int)(v16:List aP)(m1 m2:Nat)(L1:Int→(List (aP×Option (List aM)))→Option (List aP))(L2:Int→(List aP)→Option (List aP))
abbrev uH:Cx:=⟨Tryz.prog,140,M,w0⟩
abbrev ud:=bodyPost Tryz.prog Tryz.f11 (bu M w0 (fun v s=>v=.ref 440006∧look 440006 s.r=some ⟨49,9,lm bn r⟩))
abbrev sy(ks:List aq)(s:AS):=VE (uH M w0) (ud M w0 r) ks .normal s
abbrev gG(n:Nat):aq:=.c (cat Tryz.f11 (pn n))
abbrev Be:List aq:=[.b 2,gG 63]
abbrev aca:List aq:=kl (uH M w0) (ud M w0 r) Be (cat Tryz.f11 (pn 500)) m2::Be
abbrev Bg:List aq:=[.b 0,gG 31]
abbrev vE:List aq:=kl (uH M w0) (ud M w0 r) Bg (cat Tryz.f11 (pn 244)) m1::Bg
def TA:AS:=⟨[(1,iI v2),(5,.ref 405013),(6,.ref 500006),(7,iI v5)],[],[(405013,⟨54,64,lm aS v3⟩),(500006,⟨49,9,lm (cc bU 0 54 64 aS) v12⟩)],[405013,500006]⟩
def Tl:AS:=⟨[(1,iI v2),(5,.ref 405013),(6,.ref 500006),(7,iI v5),(8,.ptr 8 0),(9,.bool v8),(10,.ptr 10 0)],[(8,aS (gD v3 v5)),(10,List.set (List.set (bn ({ dW with Glued:=v11,Forced:=(gD v3 v5).Forced }:aP)) 0 (.nils)) 8 (.nils))],[(405013,⟨54,64,lm aS v3⟩),(500006,⟨49,9,lm (cc bU 0 54 64 aS) v6⟩)],[8,10,405013,500006]⟩
def Um:AS:=⟨[(1,iI v2),(5,.ref 405013),(6,.ref 500006),(7,iI v5),(8,.ptr 8 0),(9,.bool v8),(79,.bool v9)],[(8,aS (gD v3 v5))],[(405013,⟨54,64,lm aS v3⟩),(500006,⟨49,9,lm (cc bU 0 54 64 aS) v6⟩)],[8,405013,500006]⟩
def YL:AS:=⟨[(1,iI v2),(5,.ref 405013),(6,.ref 500006),(7,iI v5),(8,.ptr 8 0),(9,.bool v8)],[(8,aS (gD v3 v5))],[(405013,⟨54,64,lm aS v3⟩),(500006,⟨49,9,lm (cc bU 0 54 64 aS) v6⟩)],[8,405013,500006]⟩
def Je:AS:=⟨[(1,iI v2),(6,.ref 440006),(11,iI v15)],[],[(440006,⟨49,9,lm bU v16⟩)],[440006]⟩
def GS:AS:=⟨[(1,iI v2),(5,.ref 405013),(6,.ref 500006),(7,iI v5)],[],[(405013,⟨54,64,lm aS v3⟩),(500006,⟨49,9,lm (cc bU 0 54 64 aS) v6⟩)],[405013,500006]⟩
abbrev sC:Prop:=∀{v5:Int} {v6:(List (aP×Option (List aM)))},L1 v5 v6=some r→LP (uH M w0) (ud M w0 r) Bg (cat Tryz.f11 (pn 244)) m1 (GS v2 v3 v5 v6)
abbrev LZ:Prop:=∀{v15:Int} {v16:(List aP)},L2 v15 v16=some r→LP (uH M w0) (ud M w0 r) Be (cat Tryz.f11 (pn 500)) m2 (Je v2 v15 v16)
variable{M w0 r v1 v2 v3 v5 v6 v8 v9 v11 v12 v15 v16 m1 m2 L1 L2}{K:Kn}{n:Nat}
theorem Lg(hK:am K)(hL1:sC M w0 r v2 v3 m1 L1)(h:qB K n v2 v3 v5 L1 v12=some r):sy M w0 r (gG 979::vE M w0 r m1) (TA v2 v3 v5 v12):=by
 unfold qB at h;exact ae 1 (bt (hL1 h))
theorem AG(hK:am K)(hL1:sC M w0 r v2 v3 m1 L1)(h:nV K n v2 v3 v5 v6 v8 L1 v11=some r):sy M w0 r (gG 31311 :: .b 1::gG 979::vE M w0 r m1) (Tl v2 v3 v5 v6 v8 v11):=by
 unfold nV at h;refine az 2 3 1 (aj 4 ?_);obtain⟨h30,h⟩:=aK h;refine aB (CD 118 54 64 aS (rfl) (jy) h30) (ac (ZW (aj 2 ?_)));refine Me 118 9 (c0:=.bool v8) (uQ 121 0 (by kernel_rfl)) (fun x4=>?_);refine LG 121 9 (tid:=118) (x:=x4) (c:=.agg (List.set (List.set (bn ({ dW with Glued:=v11,Forced:=(gD v3 v5).Forced }:aP)) 0 (.ref 118)) 8 (.nils))) (aL 3 1 ?_);obtain⟨h31,h⟩:=aK h;exact aB (Tp 123 500006 49 9 0 54 64 bU bU aS ({ dW with Glued:=v11,Forced:=(gD v3 v5).Forced }:aP) (.vv x4) (fun _=>rfl) td h31) (Ox 500006 118 9 123 0 49 9 0 54 64 bU bU aS v6 ({ dW with Glued:=v11,Forced:=(gD v3 v5).Forced }:aP) ([(gD v3 v5)]:List aM) x4 (fun _=>rfl) xX (ac (ae 1 (Lg hK hL1 h))))
theorem pJ(hK:am K)(hL1:sC M w0 r v2 v3 m1 L1)(h:g7 K n v2 v3 v5 v6 v8 L1 v9=some r):sy M w0 r (gG 31309::gG 15655 :: .b 1::gG 979::vE M w0 r m1) (Um v2 v3 v5 v6 v8 v9):=by
 unfold g7 at h;obtain⟨h21,h⟩|⟨h21,h⟩:=ak h
 ·refine ag 79 h21 ?_;obtain⟨h22,h⟩:=aK h;obtain⟨v10,h23,h⟩:=bind_some h;refine az 4 5 2 (bI [1,5,6,7,8,9,79] [8] [405013,500006] ?_);refine P5 500006 430079 79 6 0 49 9 0 54 64 bU aS v6 ((aa ((v6.length:Int)-1))).toNat v10 (.bool true) (cj h22).2 h23 xX (fun x2=>?_);obtain⟨h24,h⟩:=aK h;obtain⟨h25,h⟩:=aK h;refine Hx 14 1 [(80,.ref 500006),(81,.ref 500006),(82,iI (v6.length:Int)),(83,iI (aa ((v6.length:Int)-1))),(84,.ref 500006),(85,.ref 500006),(86,iI (v6.length:Int)),(87,iI (aa ((v6.length:Int)-1))),(88,.eptr 500006 9 (((aa ((v6.length:Int)-1))).toNat) 0),(89,.eptr 500006 9 (((aa ((v6.length:Int)-1))).toNat) 0),(90,.ref 430079),(91,.agg (aS (gD v3 v5))),(92,.sl (lm aS [(gD v3 v5)]))] [] [] [iJ 93 430079 ⟨54,64,lm aS (v10++[(gD v3 v5)])⟩] (av [.v 0 2,.v 0 2] (ab (jd (lo:=0) (k:=2) (eT ⟨(by kernel_rfl),(ft (zr ((aa ((v6.length:Int)-1))).toNat 0 (cc bU 0 54 64 aS) (.vv x2) v6) (by kernel_rfl))⟩ (eT ⟨(by kernel_rfl),(ft (zr ((aa ((v6.length:Int)-1))).toNat 0 (cc bU 0 54 64 aS) (.vv x2) v6) (by kernel_rfl))⟩ jV))) (av [.v 0 2,.v 0 2,.v 0 2] (ab (jd (lo:=0) (k:=2) (eT ⟨(by kernel_rfl),(ft (zr ((aa ((v6.length:Int)-1))).toNat 0 (cc bU 0 54 64 aS) (.vv x2) v6) (by kernel_rfl))⟩ (eT ⟨(by kernel_rfl),(ft (zr ((aa ((v6.length:Int)-1))).toNat 0 (cc bU 0 54 64 aS) (.vv x2) v6) (by kernel_rfl))⟩ jV))) (av [.v 0 2] (ab (jd (lo:=0) (k:=2) (eT ⟨(by kernel_rfl),(ft (EB 500006 9 ((aa ((v6.length:Int)-1))).toNat 0 (cc bU 0 54 64 aS) (.vv x2) (L:=v6) (i:=(aa ((v6.length:Int)-1))) (by simpa only[List.length_set]using h24)) (by kernel_rfl))⟩ (eT ⟨(by kernel_rfl),(ft (EB 500006 9 ((aa ((v6.length:Int)-1))).toNat 0 (cc bU 0 54 64 aS) (.vv x2) (L:=v6) (i:=(aa ((v6.length:Int)-1))) (by simpa only[List.length_set]using h24)) (by kernel_rfl))⟩ jV))) (av [.v 0 2] (ab (Zm 0 90 79 430079 (b:=⟨54,64,lm aS v10⟩) (YX 47 500006 9 0 54 64 bU bU aS x2 (L:=v6) (j:=((aa ((v6.length:Int)-1))).toNat) (cj h24).2 (fun _=>rfl))) (av [.v 0 2,.v 0 1] (ab (g9 (m:=0) (cD 93 430079 54 64 aS (rfl) (jy) h25)) (C9))))))))))) ?_
  obtain⟨h26,h⟩:=aK h;refine aB (EB 500006 9 ((aa ((v6.length:Int)-1))).toNat 0 (cc bU 0 54 64 aS) (.vv x2) (L:=v6) (i:=(aa ((v6.length:Int)-1))) h26) (aL 16 1 ?_);refine Me 430079 79 (c0:=.any) (uQ 93 0 (by kernel_rfl)) (fun x3=>?_);exact LG 93 79 (tid:=430079) (x:=x3) (c:=.ref 430079) (aB (PN 500006 49 9 0 54 64 bU aS (.vv x2) x3 (L:=v6) (j:=((aa ((v6.length:Int)-1))).toNat) (cj h26).2 xX) (W1 93 79 (tid:=430079) (x:=x3) (b:=⟨54,64,lm aS (v10++[(gD v3 v5)])⟩) (ZA 500006 430079 79 6 0 49 9 0 54 64 bU aS v6 ((aa ((v6.length:Int)-1))).toNat (v10++[(gD v3 v5)]) x3 (cj h26).2 xX (ac (ae 3 (Lg hK hL1 h))))))
 ·refine ag 79 h21 (dB 2 3 3 (bI [1,5,6,7,8,9] [8] [405013,500006] ?_));obtain⟨h27,h⟩|⟨h27,h⟩:=ak h
  ·obtain⟨h28,h⟩:=aK h;obtain⟨h29,h⟩|⟨h29,h⟩:=ak h
   ·exact bF 1 (nu 96 [.ptr 8 62,.bool ((gD v3 v5).Forced),iI v5,.bool (decide (v5>0)),.bool true,.ref 405013,iI v5,iI (aa (v5-1)),.eptr 405013 64 (((aa (v5-1))).toNat) 0,.eptr 405013 64 (((aa (v5-1))).toNat) 62,.bool ((gD v3 ((aa (v5-1)))).Forced),.bool (!(gD v3 ((aa (v5-1)))).Forced),.bool (!(gD v3 ((aa (v5-1)))).Forced),.bool true,.bool v8,.bool (!v8),.bool (!v8),.agg (List.set (List.set (bn ({ dW with Glued:=(!v8),Forced:=(gD v3 v5).Forced }:aP)) 0 (.nils)) 8 (.nils))]++nu 10 [.ptr 10 0]) [(10,List.set (List.set (bn dW) 0 (.nils)) 8 (.nils))] [] [bR Tryz.prog 140 Tryz.f11 (pn 31310) 19] (av (vz 4) (ab (bC 0 100 (e:=(decide (v5>0))) (b:=true) h27) (av (vz 3) (bv (dU 405013 64 aS (L:=v3) h28) (av [.v 0 1] (bv (cp 4 62 aS aS (cj h28).2 ((fun _=>rfl))) (av (vz 2) (ab (bC 0 109 (e:=(!(gD v3 ((aa (v5-1)))).Forced)) (b:=true) h29) (av (vz 4) (ab (qh 0 1 49 10 (List.set (List.set (bn dW) 0 (.nils)) 8 (.nils))) (ab (bQ 0) bG))))))))))) (ae 0 (AG hK hL1 h))
   ·exact bF 1 (nu 96 [.ptr 8 62,.bool ((gD v3 v5).Forced),iI v5,.bool (decide (v5>0)),.bool true,.ref 405013,iI v5,iI (aa (v5-1)),.eptr 405013 64 (((aa (v5-1))).toNat) 0,.eptr 405013 64 (((aa (v5-1))).toNat) 62,.bool ((gD v3 ((aa (v5-1)))).Forced),.bool (!(gD v3 ((aa (v5-1)))).Forced),.bool (!(gD v3 ((aa (v5-1)))).Forced),.bool false,.tup [],.tup [],.bool false,.agg (List.set (List.set (bn ({ dW with Forced:=(gD v3 v5).Forced }:aP)) 0 (.nils)) 8 (.nils))]++nu 10 [.ptr 10 0]) [(10,List.set (List.set (bn dW) 0 (.nils)) 8 (.nils))] [] [bR Tryz.prog 140 Tryz.f11 (pn 31310) 19] (av (vz 4) (ab (bC 0 100 (e:=(decide (v5>0))) (b:=true) h27) (av (vz 3) (bv (dU 405013 64 aS (L:=v3) h28) (av [.v 0 1] (bv (cp 4 62 aS aS (cj h28).2 ((fun _=>rfl))) (av (vz 2) (ab (bC 0 109 (e:=(!(gD v3 ((aa (v5-1)))).Forced)) (b:=false) h29) (ab (ao 0 1) (ab (ao 0 1) (av (vz 2) (ab (qh 0 1 49 10 (List.set (List.set (bn dW) 0 (.nils)) 8 (.nils))) (ab (bQ 0) bG))))))))))))) (ae 0 (AG hK hL1 h))
  ·exact bF 1 (nu 96 [.ptr 8 62,.bool ((gD v3 v5).Forced),iI v5,.bool (decide (v5>0)),.bool false,.tup [],.tup [],.tup [],.tup [],.tup [],.tup [],.tup [],.bool false,.bool false,.tup [],.tup [],.bool false,.agg (List.set (List.set (bn ({ dW with Forced:=(gD v3 v5).Forced }:aP)) 0 (.nils)) 8 (.nils))]++nu 10 [.ptr 10 0]) [(10,List.set (List.set (bn dW) 0 (.nils)) 8 (.nils))] [] [bR Tryz.prog 140 Tryz.f11 (pn 31310) 19] (av (vz 4) (ab (bC 0 100 (e:=(decide (v5>0))) (b:=false) h27) (ab (ao 0 1) (ab (ao 0 1) (ab (ao 0 1) (ab (ao 0 1) (ab (ao 0 1) (ab (ao 0 1) (ab (ao 0 1) (av (vz 2) (ab (ao 0 1) (ab (ao 0 1) (av (vz 2) (ab (qh 0 1 49 10 (List.set (List.set (bn dW) 0 (.nils)) 8 (.nils))) (ab (bQ 0) bG))))))))))))))) (ae 0 (AG hK hL1 h))
theorem L0(hK:am K)(hL1:sC M w0 r v2 v3 m1 L1)(h:rd K n v2 v3 v5 v6 L1 v8=some r):sy M w0 r (gG 7827 :: .b 1::gG 979::vE M w0 r m1) (YL v2 v3 v5 v6 v8):=by
 unfold rd at h;refine bH 4 5 3 2 (bI [1,5,6,7,8,9] [8] [405013,500006] ?_);obtain⟨h12,h⟩|⟨h12,h⟩:=ak h
 ·obtain⟨h13,h⟩|⟨h13,h⟩:=ak h
  ·obtain⟨h14,h⟩|⟨h14,h⟩:=ak h
   ·obtain⟨h15,h⟩|⟨h15,h⟩:=ak h
    ·obtain⟨h16,h⟩:=aK h;obtain⟨h17,h⟩|⟨h17,h⟩:=ak h
     ·obtain⟨h18,h⟩:=aK h;obtain⟨h19,h⟩|⟨h19,h⟩:=ak h
      ·obtain⟨h20,h⟩:=aK h;exact bF 0 (nu 35 [iI v5,.bool (decide (v5>0)),.bool true,.bool v8,.bool (!v8),.bool (!v8),.bool true,.ptr 8 63,.bool ((gD v3 v5).Block),.bool (!(gD v3 v5).Block),.bool (!(gD v3 v5).Block),.bool true,.ptr 8 62,.bool ((gD v3 v5).Forced),.bool (!(gD v3 v5).Forced),.bool (!(gD v3 v5).Forced),.bool true,.ref 405013,iI v5,iI (aa (v5-1)),.eptr 405013 64 (((aa (v5-1))).toNat) 0,.eptr 405013 64 (((aa (v5-1))).toNat) 63,.bool ((gD v3 ((aa (v5-1)))).Block),.bool (!(gD v3 ((aa (v5-1)))).Block),.bool (!(gD v3 ((aa (v5-1)))).Block),.bool true,.ref 405013,iI v5,iI (aa (v5-1)),.eptr 405013 64 (((aa (v5-1))).toNat) 0,.eptr 405013 64 (((aa (v5-1))).toNat) 62,.bool ((gD v3 ((aa (v5-1)))).Forced),.bool (!(gD v3 ((aa (v5-1)))).Forced),.bool (!(gD v3 ((aa (v5-1)))).Forced),.bool true,.ref 405013,iI v5,iI (aa (v5-1)),.eptr 405013 64 (((aa (v5-1))).toNat) 0,.eptr 405013 64 (((aa (v5-1))).toNat) 59,iI ((gD v3 ((aa (v5-1)))).Number),.ptr 8 59,iI ((gD v3 v5).Number),.bool (((gD v3 ((aa (v5-1)))).Number) == ((gD v3 v5).Number)),.bool (((gD v3 ((aa (v5-1)))).Number) == ((gD v3 v5).Number))]) [] [] [] (av (vz 2) (ab (bC 0 37 (e:=(decide (v5>0))) (b:=true) h12) (av (vz 3) (ab (bC 0 41 (e:=(!v8)) (b:=true) h13) (av (vz 4) (ab (bC 0 46 (e:=(!(gD v3 v5).Block)) (b:=true) h14) (av (vz 4) (ab (bC 0 51 (e:=(!(gD v3 v5).Forced)) (b:=true) h15) (av (vz 3) (bv (dU 405013 64 aS (L:=v3) h16) (av [.v 0 1] (bv (cp 4 63 aS aS (cj h20).2 ((fun _=>rfl))) (av (vz 2) (ab (bC 0 60 (e:=(!(gD v3 ((aa (v5-1)))).Block)) (b:=true) h17) (av (vz 3) (bv (dU 405013 64 aS (L:=v3) h18) (av [.v 0 1] (bv (cp 4 62 aS aS (cj h20).2 ((fun _=>rfl))) (av (vz 2) (ab (bC 0 69 (e:=(!(gD v3 ((aa (v5-1)))).Forced)) (b:=true) h19) (av (vz 3) (bv (dU 405013 64 aS (L:=v3) h20) (av [.v 0 1] (bv (cp 3 59 aS aS (cj h20).2 ((fun _=>rfl))) (av (vz 4) bG))))))))))))))))))))))))) (ae 0 (pJ hK hL1 h))
      ·exact bF 0 (nu 35 [iI v5,.bool (decide (v5>0)),.bool true,.bool v8,.bool (!v8),.bool (!v8),.bool true,.ptr 8 63,.bool ((gD v3 v5).Block),.bool (!(gD v3 v5).Block),.bool (!(gD v3 v5).Block),.bool true,.ptr 8 62,.bool ((gD v3 v5).Forced),.bool (!(gD v3 v5).Forced),.bool (!(gD v3 v5).Forced),.bool true,.ref 405013,iI v5,iI (aa (v5-1)),.eptr 405013 64 (((aa (v5-1))).toNat) 0,.eptr 405013 64 (((aa (v5-1))).toNat) 63,.bool ((gD v3 ((aa (v5-1)))).Block),.bool (!(gD v3 ((aa (v5-1)))).Block),.bool (!(gD v3 ((aa (v5-1)))).Block),.bool true,.ref 405013,iI v5,iI (aa (v5-1)),.eptr 405013 64 (((aa (v5-1))).toNat) 0,.eptr 405013 64 (((aa (v5-1))).toNat) 62,.bool ((gD v3 ((aa (v5-1)))).Forced),.bool (!(gD v3 ((aa (v5-1)))).Forced),.bool (!(gD v3 ((aa (v5-1)))).Forced),.bool false,.tup [],.tup [],.tup [],.tup [],.tup [],.tup [],.tup [],.tup [],.tup [],.bool false]) [] [] [] (av (vz 2) (ab (bC 0 37 (e:=(decide (v5>0))) (b:=true) h12) (av (vz 3) (ab (bC 0 41 (e:=(!v8)) (b:=true) h13) (av (vz 4) (ab (bC 0 46 (e:=(!(gD v3 v5).Block)) (b:=true) h14) (av (vz 4) (ab (bC 0 51 (e:=(!(gD v3 v5).Forced)) (b:=true) h15) (av (vz 3) (bv (dU 405013 64 aS (L:=v3) h16) (av [.v 0 1] (bv (cp 4 63 aS aS (cj h18).2 ((fun _=>rfl))) (av (vz 2) (ab (bC 0 60 (e:=(!(gD v3 ((aa (v5-1)))).Block)) (b:=true) h17) (av (vz 3) (bv (dU 405013 64 aS (L:=v3) h18) (av [.v 0 1] (bv (cp 4 62 aS aS (cj h18).2 ((fun _=>rfl))) (av (vz 2) (ab (bC 0 69 (e:=(!(gD v3 ((aa (v5-1)))).Forced)) (b:=false) h19) (ab (ao 0 1) (ab (ao 0 1) (ab (ao 0 1) (ab (ao 0 1) (ab (ao 0 1) (ab (ao 0 1) (ab (ao 0 1) (ab (ao 0 1) (ab (ao 0 1) (av [.v 0 1] bG)))))))))))))))))))))))))))))) (ae 0 (pJ hK hL1 h))
     ·exact bF 0 (nu 35 [iI v5,.bool (decide (v5>0)),.bool true,.bool v8,.bool (!v8),.bool (!v8),.bool true,.ptr 8 63,.bool ((gD v3 v5).Block),.bool (!(gD v3 v5).Block),.bool (!(gD v3 v5).Block),.bool true,.ptr 8 62,.bool ((gD v3 v5).Forced),.bool (!(gD v3 v5).Forced),.bool (!(gD v3 v5).Forced),.bool true,.ref 405013,iI v5,iI (aa (v5-1)),.eptr 405013 64 (((aa (v5-1))).toNat) 0,.eptr 405013 64 (((aa (v5-1))).toNat) 63,.bool ((gD v3 ((aa (v5-1)))).Block),.bool (!(gD v3 ((aa (v5-1)))).Block),.bool (!(gD v3 ((aa (v5-1)))).Block),.bool false,.tup [],.tup [],.tup [],.tup [],.tup [],.tup [],.tup [],.bool false,.bool false,.tup [],.tup [],.tup [],.tup [],.tup [],.tup [],.tup [],.tup [],.tup [],.bool false]) [] [] [] (av (vz 2) (ab (bC 0 37 (e:=(decide (v5>0))) (b:=true) h12) (av (vz 3) (ab (bC 0 41 (e:=(!v8)) (b:=true) h13) (av (vz 4) (ab (bC 0 46 (e:=(!(gD v3 v5).Block)) (b:=true) h14) (av (vz 4) (ab (bC 0 51 (e:=(!(gD v3 v5).Forced)) (b:=true) h15) (av (vz 3) (bv (dU 405013 64 aS (L:=v3) h16) (av [.v 0 1] (bv (cp 4 63 aS aS (cj h16).2 ((fun _=>rfl))) (av (vz 2) (ab (bC 0 60 (e:=(!(gD v3 ((aa (v5-1)))).Block)) (b:=false) h17) (ab (ao 0 1) (ab (ao 0 1) (ab (ao 0 1) (ab (ao 0 1) (ab (ao 0 1) (ab (ao 0 1) (ab (ao 0 1) (av (vz 2) (ab (ao 0 1) (ab (ao 0 1) (ab (ao 0 1) (ab (ao 0 1) (ab (ao 0 1) (ab (ao 0 1) (ab (ao 0 1) (ab (ao 0 1) (ab (ao 0 1) (av [.v 0 1] bG)))))))))))))))))))))))))))))))) (ae 0 (pJ hK hL1 h))
    ·exact bF 0 (nu 35 [iI v5,.bool (decide (v5>0)),.bool true,.bool v8,.bool (!v8),.bool (!v8),.bool true,.ptr 8 63,.bool ((gD v3 v5).Block),.bool (!(gD v3 v5).Block),.bool (!(gD v3 v5).Block),.bool true,.ptr 8 62,.bool ((gD v3 v5).Forced),.bool (!(gD v3 v5).Forced),.bool (!(gD v3 v5).Forced),.bool false,.tup [],.tup [],.tup [],.tup [],.tup [],.tup [],.tup [],.bool false,.bool false,.tup [],.tup [],.tup [],.tup [],.tup [],.tup [],.tup [],.bool false,.bool false,.tup [],.tup [],.tup [],.tup [],.tup [],.tup [],.tup [],.tup [],.tup [],.bool false]) [] [] [] (av (vz 2) (ab (bC 0 37 (e:=(decide (v5>0))) (b:=true) h12) (av (vz 3) (ab (bC 0 41 (e:=(!v8)) (b:=true) h13) (av (vz 4) (ab (bC 0 46 (e:=(!(gD v3 v5).Block)) (b:=true) h14) (av (vz 4) (ab (bC 0 51 (e:=(!(gD v3 v5).Forced)) (b:=false) h15) (ab (ao 0 1) (ab (ao 0 1) (ab (ao 0 1) (ab (ao 0 1) (ab (ao 0 1) (ab (ao 0 1) (ab (ao 0 1) (av (vz 2) (ab (ao 0 1) (ab (ao 0 1) (ab (ao 0 1) (ab (ao 0 1) (ab (ao 0 1) (ab (ao 0 1) (ab (ao 0 1) (av (vz 2) (ab (ao 0 1) (ab (ao 0 1) (ab (ao 0 1) (ab (ao 0 1) (ab (ao 0 1) (ab (ao 0 1) (ab (ao 0 1) (ab (ao 0 1) (ab (ao 0 1) (av [.v 0 1] bG)))))))))))))))))))))))))))))))))) (ae 0 (pJ hK hL1 h))
   ·exact bF 0 (nu 35 [iI v5,.bool (decide (v5>0)),.bool true,.bool v8,.bool (!v8),.bool (!v8),.bool true,.ptr 8 63,.bool ((gD v3 v5).Block),.bool (!(gD v3 v5).Block),.bool (!(gD v3 v5).Block),.bool false,.tup [],.tup [],.tup [],.bool false,.bool false,.tup [],.tup [],.tup [],.tup [],.tup [],.tup [],.tup [],.bool false,.bool false,.tup [],.tup [],.tup [],.tup [],.tup [],.tup [],.tup [],.bool false,.bool false,.tup [],.tup [],.tup [],.tup [],.tup [],.tup [],.tup [],.tup [],.tup [],.bool false]) [] [] [] (av (vz 2) (ab (bC 0 37 (e:=(decide (v5>0))) (b:=true) h12) (av (vz 3) (ab (bC 0 41 (e:=(!v8)) (b:=true) h13) (av (vz 4) (ab (bC 0 46 (e:=(!(gD v3 v5).Block)) (b:=false) h14) (ab (ao 0 1) (ab (ao 0 1) (ab (ao 0 1) (av (vz 2) (ab (ao 0 1) (ab (ao 0 1) (ab (ao 0 1) (ab (ao 0 1) (ab (ao 0 1) (ab (ao 0 1) (ab (ao 0 1) (av (vz 2) (ab (ao 0 1) (ab (ao 0 1) (ab (ao 0 1) (ab (ao 0 1) (ab (ao 0 1) (ab (ao 0 1) (ab (ao 0 1) (av (vz 2) (ab (ao 0 1) (ab (ao 0 1) (ab (ao 0 1) (ab (ao 0 1) (ab (ao 0 1) (ab (ao 0 1) (ab (ao 0 1) (ab (ao 0 1) (ab (ao 0 1) (av [.v 0 1] bG)))))))))))))))))))))))))))))))))))) (ae 0 (pJ hK hL1 h))
  ·exact bF 0 (nu 35 [iI v5,.bool (decide (v5>0)),.bool true,.bool v8,.bool (!v8),.bool (!v8),.bool false,.tup [],.tup [],.tup [],.bool false,.bool false,.tup [],.tup [],.tup [],.bool false,.bool false,.tup [],.tup [],.tup [],.tup [],.tup [],.tup [],.tup [],.bool false,.bool false,.tup [],.tup [],.tup [],.tup [],.tup [],.tup [],.tup [],.bool false,.bool false,.tup [],.tup [],.tup [],.tup [],.tup [],.tup [],.tup [],.tup [],.tup [],.bool false]) [] [] [] (av (vz 2) (ab (bC 0 37 (e:=(decide (v5>0))) (b:=true) h12) (av (vz 3) (ab (bC 0 41 (e:=(!v8)) (b:=false) h13) (ab (ao 0 1) (ab (ao 0 1) (ab (ao 0 1) (av (vz 2) (ab (ao 0 1) (ab (ao 0 1) (ab (ao 0 1) (av (vz 2) (ab (ao 0 1) (ab (ao 0 1) (ab (ao 0 1) (ab (ao 0 1) (ab (ao 0 1) (ab (ao 0 1) (ab (ao 0 1) (av (vz 2) (ab (ao 0 1) (ab (ao 0 1) (ab (ao 0 1) (ab (ao 0 1) (ab (ao 0 1) (ab (ao 0 1) (ab (ao 0 1) (av (vz 2) (ab (ao 0 1) (ab (ao 0 1) (ab (ao 0 1) (ab (ao 0 1) (ab (ao 0 1) (ab (ao 0 1) (ab (ao 0 1) (ab (ao 0 1) (ab (ao 0 1) (av [.v 0 1] bG)))))))))))))))))))))))))))))))))))))) (ae 0 (pJ hK hL1 h))
 ·exact bF 0 (nu 35 [iI v5,.bool (decide (v5>0)),.bool false,.tup [],.tup [],.bool false,.bool false,.tup [],.tup [],.tup [],.bool false,.bool false,.tup [],.tup [],.tup [],.bool false,.bool false,.tup [],.tup [],.tup [],.tup [],.tup [],.tup [],.tup [],.bool false,.bool false,.tup [],.tup [],.tup [],.tup [],.tup [],.tup [],.tup [],.bool false,.bool false,.tup [],.tup [],.tup [],.tup [],.tup [],.tup [],.tup [],.tup [],.tup [],.bool false]) [] [] [] (av (vz 2) (ab (bC 0 37 (e:=(decide (v5>0))) (b:=false) h12) (ab (ao 0 1) (ab (ao 0 1) (av (vz 2) (ab (ao 0 1) (ab (ao 0 1) (ab (ao 0 1) (av (vz 2) (ab (ao 0 1) (ab (ao 0 1) (ab (ao 0 1) (av (vz 2) (ab (ao 0 1) (ab (ao 0 1) (ab (ao 0 1) (ab (ao 0 1) (ab (ao 0 1) (ab (ao 0 1) (ab (ao 0 1) (av (vz 2) (ab (ao 0 1) (ab (ao 0 1) (ab (ao 0 1) (ab (ao 0 1) (ab (ao 0 1) (ab (ao 0 1) (ab (ao 0 1) (av (vz 2) (ab (ao 0 1) (ab (ao 0 1) (ab (ao 0 1) (ab (ao 0 1) (ab (ao 0 1) (ab (ao 0 1) (ab (ao 0 1) (ab (ao 0 1) (ab (ao 0 1) (av [.v 0 1] bG))))))))))))))))))))))))))))))))))))))) (ae 0 (pJ hK hL1 h))
theorem aay(hK:am K)(hL2:LZ M w0 r v2 m2 L2)(h:qY K n v2 L2 v15 v16=some r):sy M w0 r (gG 500::aca M w0 r m2) (Je v2 v15 v16):=by
 unfold qY at h;refine bH 4 5 3 2 (aj 2 (aB (bq bU v16) (ac ?_)));obtain⟨h38,h⟩|⟨h38,h⟩:=ak h
 ·refine ag 127 h38 (zU 4 3 3 4 (aj 4 ?_));obtain⟨h39,h⟩:=aK h;refine aB (cS 440006 9 bU h39) (aB (cp 49 0 bU bU (cj h39).2 ((fun _=>rfl))) (aL 7 1 ?_));obtain⟨v17,h40,h⟩:=bind_some h;refine W4 (ab5 hK h40) ?_ (Bool.and_eq_true_iff.2 ⟨Lu _,(Bool.and_eq_true_iff.2 ⟨rfl,rfl⟩)⟩) (hv:=Lu _);obtain⟨h41,h⟩:=aK h;exact aB (cS 440006 9 bU h41) (aB (Ze 440006 49 9 0 bU bU v17 (cj h41).2 ((fun _=>rfl)) (bU v17) (Yg _)) (ac (ae 2 (bt (hL2 h)))))
 ·refine ag 127 h38 (aE 8 (Xh 440006 49 9 bU bn v16 Vi ?_));cases h;exact fa
theorem RN(hK:am K)(m:Nat):LZ M w0 r v2 m (kF K n v2 m):=by
 induction m with
 | zero=>intro v15 v16 h;cases h
 | succ m ih=>intro v15 v16 h;have h:qY K n v2 (kF K n v2 m) v15 v16=some r:=h;exact bp (aay hK ih h)
theorem Wm(hK:am K)(hL1:sC M w0 r v2 v3 m1 L1)(h:tv K n v2 v3 L1 v5 v6=some r):sy M w0 r (gG 244::vE M w0 r m1) (GS v2 v3 v5 v6):=by
 unfold tv at h;refine bH 4 5 3 2 (aj 2 (aB (bq aS v3) (ac ?_)));obtain⟨h7,h⟩|⟨h7,h⟩:=ak h
 ·refine ag 17 h7 (cQ 8 9 1 3 5 (aj 2 ?_));obtain⟨h8,h⟩:=aK h;refine aB (cS 405013 64 aS h8) (aB (cp 54 0 aS aS (cj h8).2 ((fun _=>rfl))) (ac (az 2 3 1 (bI [1,5,6,7,8] [8] [405013,500006] ?_))));obtain⟨h9,h⟩|⟨h9,h⟩:=ak h
  ·obtain⟨h10,h⟩:=aK h;obtain⟨v7,h11,h⟩:=bind_some h;exact bF 1 (nu 24 [iI v5,.bool (decide (v5>0)),.bool true,.ref 405013,iI v5,iI (aa (v5-1)),.eptr 405013 64 (((aa (v5-1))).toNat) 0,.agg (aS (gD v3 ((aa (v5-1))))),.agg (aS (gD v3 v5)),.bool v7,.bool v7]) [] [] [bR Tryz.prog 140 Tryz.f11 (pn 7826) 11] (av (vz 2) (ab (bC 0 26 (e:=(decide (v5>0))) (b:=true) h9) (av (vz 3) (bv (dU 405013 64 aS (L:=v3) h10) (bv (cp 54 0 aS aS (cj h10).2 ((fun _=>rfl))) (av [.v 0 1] (ab (cb 0 1 33 (Wu hK h11)) (av [.v 0 1] (ab (bQ 0) bG))))))))) (ae 0 (L0 hK hL1 h))
  ·exact bF 1 (nu 24 [iI v5,.bool (decide (v5>0)),.bool false,.tup [],.tup [],.tup [],.tup [],.tup [],.tup [],.tup [],.bool false]) [] [] [bR Tryz.prog 140 Tryz.f11 (pn 7826) 11] (av (vz 2) (ab (bC 0 26 (e:=(decide (v5>0))) (b:=false) h9) (ab (ao 0 1) (ab (ao 0 1) (ab (ao 0 1) (ab (ao 0 1) (ab (ao 0 1) (ab (ao 0 1) (ab (ao 0 1) (av [.v 0 1] (ab (bQ 0) bG))))))))))) (ae 0 (L0 hK hL1 h))
 ·refine ag 17 h7 ?_;obtain⟨h32,h⟩:=aK h;exact co (ks':=[gG 250,.b 2,gG 63]) 9 (S4 500006 440006 49 9 0 54 64 bU aS v6 Zg Ru SM Zl h32 (ae 0 (cf (p:=pn 250) n (RN hK n h))))
theorem Pe(hK:am K)(m:Nat):sC M w0 r v2 v3 m (kz K n v2 v3 m):=by
 induction m with
 | zero=>intro v5 v6 h;cases h
 | succ m ih=>intro v5 v6 h;have h:tv K n v2 v3 (kz K n v2 v3 m) v5 v6=some r:=h;exact bp (Wm hK ih h)
theorem ZN(hK:am K)(h:tK K n v1 v2=some r):aO Tryz.prog 11 [.sl (lm aQ v1),iI v2] (fun v s=>v=.ref 440006∧look 440006 s.r=some ⟨49,9,lm bn r⟩):=by
 refine bg (cat Tryz.f11 (pn 1)) Tryz.func11 Tryz.ntmps11 fun M w0=>(bc ⟨[(0,.sl (lm aQ v1)),(1,iI v2)],[],[],[]⟩ ?_);unfold tK at h;refine az 6 7 3 (aj 1 ?_);obtain⟨v3,h1,h⟩:=bind_some h;exact VA 405013 9 54 64 [] (Ko hK h1) (ac (fr 26 0 7 6 (bI [1,5,6,7] [] [405013] (fh 500006 6 49 9 (ae 0 (cf (p:=pn 122) n (Pe hK n h)))))))
end
noncomputable section
variable(M:Nat→Prop)(w0:aF)(r:Bool)(v1 v2:ah)(v3:Bool)(v6:Int)(m1:Nat)(L1:Int→Option Bool)
abbrev DF:Cx:=⟨Tryz.prog,116,M,w0⟩
abbrev CP:=bodyPost Tryz.prog Tryz.f13 (bu M w0 (fun v _=>v=.bool r))
abbrev LR(ks:List aq)(s:AS):=VE (DF M w0) (CP M w0 r) ks .normal s
abbrev zd(n:Nat):aq:=.c (cat Tryz.f13 (pn n))
abbrev A5:List aq:=[.b 0,zd 15]
abbrev Zf:List aq:=kl (DF M w0) (CP M w0 r) A5 (cat Tryz.f13 (pn 116)) m1::A5
def Kd:AS:=⟨[(2,.ptr 2 0),(3,.ptr 3 0),(5,iI v6)],[(2,aH v1),(3,aH v2)],[],[2,3]⟩
def Td:AS:=⟨[(2,.ptr 2 0),(3,.ptr 3 0),(96,.bool v3)],[(2,aH v1),(3,aH v2)],[],[2,3]⟩
abbrev JQ:Prop:=∀{v6:Int},L1 v6=some r→LP (DF M w0) (CP M w0 r) A5 (cat Tryz.f13 (pn 116)) m1 (Kd v1 v2 v6)
variable{M w0 r v1 v2 v3 v6 m1 L1}{K:Kn}{n:Nat}
theorem WY(hK:am K)(hL1:JQ M w0 r v1 v2 m1 L1)(h:Av K n v1 v2 L1 v6=some r):LR M w0 r (zd 116::Zf M w0 r m1) (Kd v1 v2 v6):=by
 unfold Av at h;refine bH 4 5 3 2 (aj 3 (aB (bq aG v1.Kids) (ac ?_)));obtain⟨h20,h⟩|⟨h20,h⟩:=ak h
 ·refine ag 101 h20 (cQ 8 9 1 3 5 (bI [2,3,5] [2,3] [] ?_));obtain⟨h21,h⟩:=aK h;obtain⟨h22,h⟩:=aK h;obtain⟨v7,h23,h⟩:=bind_some h;refine bF 0 (nu 104 [.ptr 2 66,.sl (lm aG v1.Kids),iI v6,.cptr (aH (gD v1.Kids v6)),.agg (aH (gD v1.Kids v6)),.ptr 3 66,.sl (lm aG v2.Kids),iI v6,.cptr (aH (gD v2.Kids v6)),.agg (aH (gD v2.Kids v6)),.bool v7,.bool (!v7)]) [] [] [] (av (vz 3) (bv (bw aG aH h21 (fc) (dc)) (av (vz 4) (bv (bw aG aH h22 (fc) (dc)) (av [.v 0 1] (ab (cb 0 1 114 (hK.z3 h23)) (av [.v 0 1] bG))))))) ?_;obtain⟨h24,h⟩|⟨h24,h⟩:=ak h
  ·refine ag 115 h24 (aE 9 ?_);cases h;exact ba
  ·exact ag 115 h24 (ae 4 (bt (hL1 h)))
 ·refine ag 101 h20 (aE 8 ?_);cases h;exact ba
theorem ZF(hK:am K)(m:Nat):JQ M w0 r v1 v2 m (yI K n v1 v2 m):=by
 induction m with
 | zero=>intro v6 h;cases h
 | succ m ih=>intro v6 h;have h:Av K n v1 v2 (yI K n v1 v2 m) v6=some r:=h;exact bp (WY hK ih h)
theorem gT(hK:am K)(h:fX K n v1 v2 v3=some r):LR M w0 r [zd 13,zd 7] (Td v1 v2 v3):=by
 unfold fX at h;obtain⟨h13,h⟩|⟨h13,h⟩:=ak h
 ·refine ag 96 h13 (aE 5 ?_);cases h;exact ba
 ·exact ag 96 h13 (ae 6 (cf (p:=pn 58) n (ZF hK n h)))
theorem aaR(hK:am K)(h:FB K n v1 v2=some r):aO Tryz.prog 13 [.agg (aH v1),.agg (aH v2)] (fun v _=>v=.bool r):=by
 refine bg (cat Tryz.f13 (pn 1)) Tryz.func13 Tryz.ntmps13 fun M w0=>(bc ⟨[(0,.agg (aH v1)),(1,.agg (aH v2))],[],[],[]⟩ ?_);unfold FB at h;refine bH 12 13 7 4 (aj 6 ?_);obtain⟨h1,h⟩|⟨h1,h⟩:=ak h
 ·exact aA 11 h1 (ac (ae 0 (gT hK h)))
 ·refine aA 11 h1 (aL 13 7 ?_);obtain⟨h2,h⟩|⟨h2,h⟩:=ak h
  ·exact aA 18 h2 (ac (ae 0 (gT hK h)))
  ·refine aA 18 h2 (aL 20 7 ?_);obtain⟨h3,h⟩|⟨h3,h⟩:=ak h
   ·exact aA 25 h3 (ac (ae 0 (gT hK h)))
   ·refine aA 25 h3 (aL 27 7 ?_);obtain⟨h4,h⟩|⟨h4,h⟩:=ak h
    ·exact aA 32 h4 (ac (ae 0 (gT hK h)))
    ·refine aA 32 h4 (aL 34 7 ?_);obtain⟨h5,h⟩|⟨h5,h⟩:=ak h
     ·exact aA 39 h5 (ac (ae 0 (gT hK h)))
     ·refine aA 39 h5 (aL 41 7 ?_);obtain⟨h6,h⟩|⟨h6,h⟩:=ak h
      ·exact aA 46 h6 (ac (ae 0 (gT hK h)))
      ·refine aA 46 h6 (aL 48 7 ?_);obtain⟨h7,h⟩|⟨h7,h⟩:=ak h
       ·exact aA 53 h7 (ac (ae 0 (gT hK h)))
       ·refine aA 53 h7 (aL 55 7 ?_);obtain⟨h8,h⟩|⟨h8,h⟩:=ak h
        ·exact aA 60 h8 (ac (ae 0 (gT hK h)))
        ·refine aA 60 h8 (aL 62 7 ?_);obtain⟨h9,h⟩|⟨h9,h⟩:=ak h
         ·exact aA 67 h9 (ac (ae 0 (gT hK h)))
         ·refine aA 67 h9 (aL 69 7 ?_);obtain⟨h10,h⟩|⟨h10,h⟩:=ak h
          ·exact aA 74 h10 (ac (ae 0 (gT hK h)))
          ·refine aA 74 h10 (aL 76 7 ?_);obtain⟨h11,h⟩|⟨h11,h⟩:=ak h
           ·exact aA 81 h11 (ac (ae 0 (gT hK h)))
           ·refine aA 81 h11 (aL 83 7 ?_);obtain⟨h12,h⟩|⟨h12,h⟩:=ak h
            ·exact aA 88 h12 (ac (ae 0 (gT hK h)))
            ·exact aA 88 h12 (aL 85 2 (aB (bq aG v1.Kids) (aL 88 2 (aB (bq aG v2.Kids) (ac (ae 0 (gT hK h)))))))
end
end Go.Proofs.YtnpmlepplfaijaaGreat

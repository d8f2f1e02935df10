/- The runs of the functions that InlineLines reaches do what their plain forms say, part 3. Made by a program. -/
import Derived.Test.YtnpmlepplfaijaaGreatIlGk
import Derived.Test.YtnpmlepplfaijaaGreatIlP2
namespace Go.Proofs.YtnpmlepplfaijaaGreat
open Go.RowKit
set_option maxRecDepth 20000
set_option linter.all false
set_option linter.unusedVariables false
set_option linter.unusedSimpArgs false
noncomputable section
variable(M:Nat→Prop)(w0:aE)(r:Bool)(v1:List cc)(v2:Int)(v7:List aH)(v9:List aO)(v14:Int)(v16 v18:Bool)(m1:Nat)(L1:Int→Option Bool)
abbrev q3:=bodyPost Tryz.prog Tryz.f3 (bq M w0 (fun v _=>v=.bool r))
variable{M w0 r v1 v2 v7 v9 v14 v16 v18 m1 L1}{K:Kn}{n:Nat}
end
noncomputable section
variable(M:Nat→Prop)(w0:aE)(r:aF)(v1:List cc)  
variable{M w0 r v1}{K:Kn}{n:Nat}
theorem Ju(hK:am K)(h:qj K n v1=some r):aN Tryz.prog 15 [.sl (lm ce v1)] (fun v _=>v=.agg (aI r)):=by
 refine bc (cat Tryz.f15 (pn 1)) Tryz.func15 Tryz.ntmps15 fun M w0=>(aZ ⟨[(0,.sl (lm ce v1))],[],[],[]⟩ ?_);unfold qj at h;refine bK 12 13 7 4 (aj 1 (az (bv ce v1) (ac ?_)));obtain⟨h1,h⟩|⟨h1,h⟩:=ak h
 ·refine ag 5 h1 (aG 5 ?_);cases h;exact aV
 ·refine ag 5 h1 (dU 2 3 3 (aj 1 ?_));obtain⟨h2,h⟩:=aL h;refine az (bN ce ce h2 (uN) ((fun _=>rfl))) (ac (aG 1 ?_));cases h;exact aV
end
noncomputable section
variable(M:Nat→Prop)(w0:aE)(r:Int)(v1:List aO)(v2 v4:Int)(v5:Bool)(m1:Nat)(L1:Int→Option Int)
abbrev A3:Cx:=⟨Tryz.prog,21,M,w0⟩
abbrev B2:=bodyPost Tryz.prog Tryz.f47 (bq M w0 (fun v _=>v=iI r))
abbrev EA(ks:List ao)(s:AS):=VE (A3 M w0) (B2 M w0 r) ks .normal s
abbrev xA(n:Nat):ao:=.c (cat Tryz.f47 (pn n))
abbrev DU:List ao:=[.b 0,xA 15]
abbrev IB:List ao:=kl (A3 M w0) (B2 M w0 r) DU (cat Tryz.f47 (pn 56)) m1::DU
def YL:AS:=⟨[(0,.sl (lm bj v1)),(1,iI v4),(17,.bool v5)],[],[],[]⟩
def GR:AS:=⟨[(0,.sl (lm bj v1)),(1,iI v4)],[],[],[]⟩
abbrev D4:Prop:=∀{v4:Int},L1 v4=some r→LP (A3 M w0) (B2 M w0 r) DU (cat Tryz.f47 (pn 56)) m1 (GR v1 v4)
variable{M w0 r v1 v2 v4 v5 m1 L1}{K:Kn}{n:Nat}
theorem LI(hK:am K)(hL1:D4 M w0 r v1 m1 L1)(h:qd K n v1 v4 L1 v5=some r):EA M w0 r (xA 225::xA 113::IB M w0 r m1) (YL v1 v4 v5):=by
 unfold qd at h;obtain⟨h6,h⟩|⟨h6,h⟩:=ak h
 ·exact ag 17 h6 (ae 5 (bt (hL1 h)))
 ·refine ag 17 h6 (aG 8 ?_);cases h;exact aV
theorem O2(hK:am K)(hL1:D4 M w0 r v1 m1 L1)(h:rf K n v1 L1 v4=some r):EA M w0 r (xA 56::IB M w0 r m1) (GR v1 v4):=by
 unfold rf at h;refine bK 4 5 3 2 (aj 2 (az (bv bj v1) (aJ 5 2 ?_)));obtain⟨h4,h⟩|⟨h4,h⟩:=ak h
 ·refine av 11 h4 (aJ 7 2 ?_);obtain⟨h5,h⟩:=aL h;exact az (bN bj bj h5 (gj) ((fun _=>rfl))) (ac (ae 0 (LI hK hL1 h)))
 ·exact av 11 h4 (ac (ae 0 (LI hK hL1 h)))
theorem NA(hK:am K)(m:Nat):D4 M w0 r v1 m (pO K n v1 m):=by
 induction m with
 | zero=>intro v4 h;cases h
 | succ m ih=>intro v4 h;have h:rf K n v1 (pO K n v1 m) v4=some r:=h;exact bp (O2 hK ih h)
theorem BJ(hK:am K)(h:nG K n v1 v2=some r):aN Tryz.prog 47 [.sl (lm bj v1),iI v2] (fun v _=>v=iI r):=by
 refine bc (cat Tryz.f47 (pn 1)) Tryz.func47 Tryz.ntmps47 fun M w0=>(aZ ⟨[(0,.sl (lm bj v1)),(1,iI v2)],[],[],[]⟩ ?_);unfold nG at h;exact ae 6 (cd (p:=pn 28) n (NA hK n h))
end
noncomputable section
variable(M:Nat→Prop)(w0:aE)(r:Int)(v1:List aO)(v5 v6 v7 v8 v9:Int)(m1:Nat)(L1:Int→Int→Int→Option Int)
abbrev AX:Cx:=⟨Tryz.prog,39,M,w0⟩
abbrev Aa:=bodyPost Tryz.prog Tryz.f48 (bq M w0 (fun v _=>v=iI r))
abbrev E8(ks:List ao)(s:AS):=VE (AX M w0) (Aa M w0 r) ks .normal s
abbrev qU(n:Nat):ao:=.c (cat Tryz.f48 (pn n))
abbrev DQ:List ao:=[.b 0,qU 31]
abbrev zI:List ao:=kl (AX M w0) (Aa M w0 r) DQ (cat Tryz.f48 (pn 244)) m1::DQ
def S8:AS:=⟨[(0,.sl (lm bj v1)),(3,iI v8),(4,iI v9),(5,iI v7)],[],[],[]⟩
def IM:AS:=⟨[(0,.sl (lm bj v1)),(3,iI v5),(4,iI v6),(5,iI v7)],[],[],[]⟩
abbrev DW:Prop:=∀{v5:Int} {v6:Int} {v7:Int},L1 v5 v6 v7=some r→LP (AX M w0) (Aa M w0 r) DQ (cat Tryz.f48 (pn 244)) m1 (IM v1 v5 v6 v7)
variable{M w0 r v1 v5 v6 v7 v8 v9 m1 L1}{K:Kn}{n:Nat}
theorem FD(hK:am K)(hL1:DW M w0 r v1 m1 L1)(h:vi K n v1 v7 v8 L1 v9=some r):E8 M w0 r (.b 1::qU 979::zI M w0 r m1) (S8 v1 v7 v8 v9):=by
 unfold vi at h;exact ae 2 (bt (hL1 h))
theorem M8(hK:am K)(hL1:DW M w0 r v1 m1 L1)(h:qF K n v1 L1 v5 v6 v7=some r):E8 M w0 r (qU 244::zI M w0 r m1) (IM v1 v5 v6 v7):=by
 unfold qF at h;refine bK 4 5 3 2 (aj 2 (az (bv bj v1) (ac ?_)));obtain⟨h9,h⟩|⟨h9,h⟩:=ak h
 ·refine ag 9 h9 (cE 8 9 1 3 5 (bF [0,3,4,5] [] [] ?_));obtain⟨h10,h⟩:=aL h;obtain⟨h11,h⟩:=aL h;refine bP 1 (nu 12 [iI v5,.sl (lm bj v1),iI v7,.cptr (bj (gD v1 v7)),.cptr (List.drop 2 (bj (gD v1 v7))),iI ((gD v1 v7).Width),.sl (lm bj v1),iI v7,.cptr (bj (gD v1 v7)),.cptr (List.drop 3 (bj (gD v1 v7))),iI ((gD v1 v7).Space),iI (aa (((gD v1 v7).Width)+((gD v1 v7).Space))),iI (aa (v5+(aa (((gD v1 v7).Width)+((gD v1 v7).Space)))))]) [] [] [bR Tryz.prog 39 Tryz.f48 (pn 3912) 13] (ay (vz 3) (bI (bN bj bj h10 (gj) ((fun _=>rfl))) (ay (vz 4) (bI (bN bj bj h11 (gj) ((fun _=>rfl))) (ay (vz 4) (ai (bS 0) bO)))))) ?_;obtain⟨v8,h12,h⟩:=bL h;refine bw (ks':=qU 7826::qU 7827 :: .b 1::qU 979::zI M w0 r m1) 1 ⟨[(0,.sl (lm bj v1)),(3,iI v8),(4,iI v6),(5,iI v7)],[],[],[]⟩ ?_ (by subst h12;kernel_rfl);refine aj 2 ?_;obtain⟨h13,h⟩:=aL h;refine az (bN bj bj h13 (gj) ((fun _=>rfl))) (ac ?_);obtain⟨h14,h⟩|⟨h14,h⟩:=ak h
  ·refine ag 30 h14 (bh 2 1 (aj 2 ?_));obtain⟨h15,h⟩:=aL h;exact az (bN bj bj h15 (gj) ((fun _=>rfl))) (ac (ae 0 (FD hK hL1 h)))
  ·exact ag 30 h14 (ae 2 (FD hK hL1 h))
 ·refine ag 9 h9 (aG 8 ?_);cases h;exact aV
theorem Y3(hK:am K)(m:Nat):DW M w0 r v1 m (qv K n v1 m):=by
 induction m with
 | zero=>intro v5 v6 v7 h;cases h
 | succ m ih=>intro v5 v6 v7 h;have h:qF K n v1 (qv K n v1 m) v5 v6 v7=some r:=h;exact bp (M8 hK ih h)
theorem Kt(hK:am K)(h:rO K n v1=some r):aN Tryz.prog 48 [.sl (lm bj v1)] (fun v _=>v=iI r):=by
 refine bc (cat Tryz.f48 (pn 1)) Tryz.func48 Tryz.ntmps48 fun M w0=>(aZ ⟨[(0,.sl (lm bj v1))],[],[],[]⟩ ?_);unfold rO at h;exact ae 10 (cd (p:=pn 122) n (Y3 hK n h))
end
noncomputable section
variable(M:Nat→Prop)(w0:aE)(r:List Int)(v1:List aO)(v2 v23:Int)(v24:List Int)(v30:Int)(v33:Bool)(m1 m2:Nat)(L1:Int→(List Int)→Option (List Int))(L2:Int→Option (List Int))
abbrev tT:Cx:=⟨Tryz.prog,48,M,w0⟩
abbrev uZ:=bodyPost Tryz.prog Tryz.f40 (bq M w0 (fun v s=>v=.ref 15∧look 15 s.r=some ⟨3,1,lm (br .i64) r⟩))
abbrev BI(ks:List ao)(s:AS):=VE (tT M w0) (uZ M w0 r) ks .normal s
abbrev jR(n:Nat):ao:=.c (cat Tryz.f40 (pn n))
abbrev z8:List ao:=[.b 0,jR 31]
abbrev zk:List ao:=kl (tT M w0) (uZ M w0 r) z8 (cat Tryz.f40 (pn 120)) m1::z8
abbrev A8:List ao:=.b 2::jR 3863 :: .b 1::zk M w0 r m1
abbrev z0:List ao:=kl (tT M w0) (uZ M w0 r) (A8 M w0 r m1) (cat Tryz.f40 (pn 15448)) m2::(A8 M w0 r m1)
def Nc:AS:=⟨[(0,.sl (lm bj v1)),(1,iI v2),(5,.ref 15),(6,iI v23),(7,iI v30),(42,.bool v33)],[],[(15,⟨3,1,lm (br .i64) (v24++[v23])⟩)],[15]⟩
def IU:AS:=⟨[(0,.sl (lm bj v1)),(1,iI v2),(5,.ref 15),(6,iI v23),(7,iI v30)],[],[(15,⟨3,1,lm (br .i64) (v24++[v23])⟩)],[15]⟩
def HH:AS:=⟨[(0,.sl (lm bj v1)),(1,iI v2),(5,.ref 15),(6,iI v23)],[],[(15,⟨3,1,lm (br .i64) v24⟩)],[15]⟩
abbrev tJ:Prop:=∀{v23:Int} {v24:(List Int)},L1 v23 v24=some r→LP (tT M w0) (uZ M w0 r) z8 (cat Tryz.f40 (pn 120)) m1 (HH v1 v2 v23 v24)
abbrev Bc:Prop:=∀{v30:Int},L2 v30=some r→LP (tT M w0) (uZ M w0 r) (A8 M w0 r m1) (cat Tryz.f40 (pn 15448)) m2 (IU v1 v2 v23 v24 v30)
variable{M w0 r v1 v2 v23 v24 v30 v33 m1 m2 L1 L2}{K:Kn}{n:Nat}
theorem Cz(hK:am K)(hL1:tJ M w0 r v1 v2 m1 L1)(hL2:Bc M w0 r v1 v2 v23 v24 m1 m2 L2)(h:lv K n v1 v2 v23 v24 v30 L1 L2 v33=some r):BI M w0 r (jR 61793::jR 30897::z0 M w0 r m1 m2) (Nc v1 v2 v23 v24 v30 v33):=by
 unfold lv at h;obtain⟨h56,h⟩|⟨h56,h⟩:=ak h
 ·refine ag 42 h56 (cz (ks':=jR 61794 :: .b 3::z0 M w0 r m1 m2) 3 (aj 2 ?_));obtain⟨v34,h57,h⟩:=bind_some h;exact aD (BJ hK h57) (ac (ae 1 (bt (hL2 h))))
 ·exact ag 42 h56 (ae 7 (bt (hL1 h)))
theorem Xx(hK:am K)(hL1:tJ M w0 r v1 v2 m1 L1)(hL2:Bc M w0 r v1 v2 v23 v24 m1 m2 L2)(h:pM K n v1 v2 v23 v24 L1 L2 v30=some r):BI M w0 r (jR 15448::z0 M w0 r m1 m2) (IU v1 v2 v23 v24 v30):=by
 unfold pM at h;refine bK 4 5 3 2 (aj 2 (az (bv bj v1) (aJ 5 2 ?_)));obtain⟨h50,h⟩|⟨h50,h⟩:=ak h
 ·refine av 23 h50 (aJ 8 3 ?_);obtain⟨h51,h⟩:=aL h;refine az (bN bj bj h51 (gj) ((fun _=>rfl))) (aJ 14 5 ?_);obtain⟨h52,h⟩|⟨h52,h⟩:=ak h
  ·refine av 32 h52 (aJ 18 4 ?_);obtain⟨v31,h53,h⟩:=bind_some h;refine aD (BJ hK h53) ?_;obtain⟨h54,h⟩:=aL h;refine az (uL bj v1 v23 v31 36 (.tmp 33) (some (.tmp 34)) (some (.tmp 37)) 38 (e:=49) (sz:=9) (by kernel_rfl) (by kernel_rfl) (by kernel_rfl) (by kernel_rfl) (by kernel_rfl) (by kernel_rfl) (gj) (fun k hk=>by subst hk;kernel_rfl) h54) ?_;obtain⟨v32,h55,h⟩:=bind_some h;exact aD (Kt hK h55) (ac (ae 0 (Cz hK hL1 hL2 h)))
  ·exact av 32 h52 (ac (ae 0 (Cz hK hL1 hL2 h)))
 ·exact av 23 h50 (ac (ae 0 (Cz hK hL1 hL2 h)))
theorem Td(hK:am K)(hL1:tJ M w0 r v1 v2 m1 L1)(m:Nat):Bc M w0 r v1 v2 v23 v24 m1 m (qo K n v1 v2 v23 v24 L1 m):=by
 induction m with
 | zero=>intro v30 h;cases h
 | succ m ih=>intro v30 h;have h:pM K n v1 v2 v23 v24 L1 (qo K n v1 v2 v23 v24 L1 m) v30=some r:=h;exact bp (Xx hK hL1 ih h)
theorem MK(hK:am K)(hL1:tJ M w0 r v1 v2 m1 L1)(h:pF K n v1 v2 L1 v23 v24=some r):BI M w0 r (jR 120::zk M w0 r m1) (HH v1 v2 v23 v24):=by
 unfold pF at h;refine bK 4 5 3 2 (aj 2 (az (bv bj v1) (ac ?_)));obtain⟨h39,h⟩|⟨h39,h⟩:=ak h
 ·refine ag 11 h39 (cz (ks':=jR 964::jR 965 :: .b 1::zk M w0 r m1) 4 (aj 3 ?_));obtain⟨h40,h⟩:=aL h;refine az (cp 15 15 3 1 (br .i64) (rfl) ((fun _=>rfl)) h40) (ac (aw 2 3 1 (aj 2 ?_)));obtain⟨v25,h41,h⟩:=bind_some h;exact aD (BJ hK h41) (ac (ae 2 (cd (p:=pn 7724) n (Td hK hL1 n h))))
 ·refine ag 11 h39 (aG 8 ?_);cases h;exact d9
theorem XA(hK:am K)(m:Nat):tJ M w0 r v1 v2 m (sF K n v1 v2 m):=by
 induction m with
 | zero=>intro v23 v24 h;cases h
 | succ m ih=>intro v23 v24 h;have h:pF K n v1 v2 (sF K n v1 v2 m) v23 v24=some r:=h;exact bp (MK hK ih h)
theorem WB(hK:am K)(h:tm K n v1 v2=some r):aN Tryz.prog 40 [.sl (lm bj v1),iI v2] (fun v s=>v=.ref 15∧look 15 s.r=some ⟨3,1,lm (br .i64) r⟩):=by
 refine bc (cat Tryz.f40 (pn 1)) Tryz.func40 Tryz.ntmps40 fun M w0=>(aZ ⟨[(0,.sl (lm bj v1)),(1,iI v2)],[],[],[]⟩ ?_);unfold tm at h;exact eO 60 0 31 8 (bF [0,1,5,6] [] [] (eX 15 5 3 1 (ae 0 (cd (p:=pn 60) n (XA hK n h)))))
end
noncomputable section
variable(M:Nat→Prop)(w0:aE)(r:Int)(v1:aF)(v2 v3:Int)  
variable{M w0 r v1 v2 v3}{K:Kn}{n:Nat}
theorem Zw(hK:am K)(h:tG K n v1 v2 v3=some r):aN Tryz.prog 79 [.agg (aI v1),iI v2,iI v3] (fun v _=>v=iI r):=by
 refine bc (cat Tryz.f79 (pn 1)) Tryz.func79 Tryz.ntmps79 fun M w0=>(aZ ⟨[(0,.agg (aI v1)),(1,iI v2),(2,iI v3)],[],[],[]⟩ ?_);unfold tG at h;refine aw 13 7 5 ?_;obtain⟨h1,h⟩|⟨h1,h⟩:=ak h
 ·refine ag 9 h1 (aG 5 ?_);cases h;exact aV
 ·refine ag 9 h1 (vL 21 0 3 8 ?_);obtain⟨h2,h⟩|⟨h2,h⟩:=ak h
  ·refine ag 12 h2 (aG 6 ?_);cases h;exact aV
  ·refine ag 12 h2 (bh 7 3 ?_);obtain⟨h3,h⟩|⟨h3,h⟩:=ak h
   ·refine ag 18 h3 (aG 6 ?_);cases h;exact aV
   ·refine ag 18 h3 (aG 6 ?_);cases h;exact aV
end
noncomputable section
variable(M:Nat→Prop)(w0:aE)(r:Bool)(v1:aO)  
variable{M w0 r v1}{K:Kn}{n:Nat}
theorem Ej(hK:am K)(h:qP K n v1=some r):aN Tryz.prog 80 [.agg (bj v1)] (fun v _=>v=.bool r):=by
 refine bc (cat Tryz.f80 (pn 1)) Tryz.func80 Tryz.ntmps80 fun M w0=>(aZ ⟨[(0,.agg (bj v1))],[],[],[]⟩ ?_);unfold qP at h;refine aw 6 7 3 (aj 4 (az (bv aQ v1.Things) (aJ 6 1 ?_)));obtain⟨h1,h⟩:=aL h;refine az (bN aQ aQ h1 (jn) ((fun _=>rfl))) (ac (aG 1 ?_));cases h;exact aV
end
noncomputable section
variable(M:Nat→Prop)(w0:aE)(r:ab)(v1:List aO)(v2:aF)(v3 v10 v11 v12 v13 v15 v16 v17 v74 v75:Int)(v76:List ab)(v79:Bool)(v80:aO)(v100:List ab)(v101:Int)(v102:List ab)(m1 m2:Nat)(L1:Int→Int→Int→Int→Option ab)(L2:Int→Int→(List ab)→Option ab)
abbrev vy:Cx:=⟨Tryz.prog,174,M,w0⟩
abbrev uC:=bodyPost Tryz.prog Tryz.f41 (bq M w0 (fun v s=>v=.agg (List.set (aC ({ r with Kids:=[] }:ab)) 66 (.ref 134))∧look 134 s.r=some ⟨59,67,lm aB r.Kids⟩))
abbrev n6(ks:List ao)(s:AS):=VE (vy M w0) (uC M w0 r) ks .normal s
abbrev cZ(n:Nat):ao:=.c (cat Tryz.f41 (pn n))
abbrev Dt:List ao:=[.b 2,cZ 255]
abbrev ki:List ao:=kl (vy M w0) (uC M w0 r) Dt (cat Tryz.f41 (pn 2036)) m2::Dt
abbrev AJ:List ao:=[.b 0,cZ 31]
abbrev B7:List ao:=kl (vy M w0) (uC M w0 r) AJ (cat Tryz.f41 (pn 244)) m1::AJ
def Um:AS:=⟨[(0,.sl (lm bj v1)),(2,iI v3),(4,.ptr 4 0),(6,.ptr 6 0),(7,iI v15),(8,iI v16),(9,iI v17),(10,iI v13)],[(4,aI v2),(6,List.set (aC bb) 66 (.nils))],[],[4,6]⟩
def PZ:AS:=⟨[(0,.sl (lm bj v1)),(6,.ptr 6 0),(7,iI v10),(9,iI v12),(11,.ptr 11 0),(12,iI v101),(13,iI v75)],[(6,List.set (aC bb) 66 (.nils)),(11,List.set (aC ({ bb with Kind:=2,W:=v3,H:=(aa (v10+v11)),aE:=v10,Style:=v2 }:ab)) 66 (.ref 134))],[(134,⟨59,67,lm aB v102⟩)],[6,11,134]⟩
def Xa:AS:=⟨[(0,.sl (lm bj v1)),(6,.ptr 6 0),(7,iI v10),(9,iI v12),(11,.ptr 11 0),(12,iI v74),(13,iI v75),(14,.ptr 14 0)],[(6,List.set (aC bb) 66 (.nils)),(11,List.set (aC ({ bb with Kind:=2,W:=v3,H:=(aa (v10+v11)),aE:=v10,Style:=v2 }:ab)) 66 (.ref 134)),(14,bj v80)],[(134,⟨59,67,lm aB v100⟩)],[6,11,14,134]⟩
def MG:AS:=⟨[(0,.sl (lm bj v1)),(6,.ptr 6 0),(7,iI v10),(9,iI v12),(11,.ptr 11 0),(12,iI v74),(13,iI v75),(14,.ptr 14 0)],[(6,List.set (aC bb) 66 (.nils)),(11,List.set (aC ({ bb with Kind:=2,W:=v3,H:=(aa (v10+v11)),aE:=v10,Style:=v2 }:ab)) 66 (.ref 134)),(14,bj v80)],[(134,⟨59,67,lm aB v76⟩)],[6,11,14,134]⟩
def UN:AS:=⟨[(0,.sl (lm bj v1)),(6,.ptr 6 0),(7,iI v10),(9,iI v12),(11,.ptr 11 0),(12,iI v74),(13,iI v75),(14,.ptr 14 0),(90,.bool v79)],[(6,List.set (aC bb) 66 (.nils)),(11,List.set (aC ({ bb with Kind:=2,W:=v3,H:=(aa (v10+v11)),aE:=v10,Style:=v2 }:ab)) 66 (.ref 134)),(14,bj (gD v1 v75))],[(134,⟨59,67,lm aB v76⟩)],[6,11,14,134]⟩
def Kj:AS:=⟨[(0,.sl (lm bj v1)),(6,.ptr 6 0),(7,iI v10),(9,iI v12),(11,.ptr 11 0),(12,iI v74),(13,iI v75)],[(6,List.set (aC bb) 66 (.nils)),(11,List.set (aC ({ bb with Kind:=2,W:=v3,H:=(aa (v10+v11)),aE:=v10,Style:=v2 }:ab)) 66 (.ref 134))],[(134,⟨59,67,lm aB v76⟩)],[6,11,134]⟩
def F1:AS:=⟨[(0,.sl (lm bj v1)),(2,iI v3),(4,.ptr 4 0),(6,.ptr 6 0),(7,iI v10),(8,iI v11),(9,iI v12),(10,iI v13)],[(4,aI v2),(6,List.set (aC bb) 66 (.nils))],[],[4,6]⟩
abbrev zR:Prop:=∀{v10:Int} {v11:Int} {v12:Int} {v13:Int},L1 v10 v11 v12 v13=some r→LP (vy M w0) (uC M w0 r) AJ (cat Tryz.f41 (pn 244)) m1 (F1 v1 v2 v3 v10 v11 v12 v13)
abbrev qw:Prop:=∀{v74:Int} {v75:Int} {v76:(List ab)},L2 v74 v75 v76=some r→LP (vy M w0) (uC M w0 r) Dt (cat Tryz.f41 (pn 2036)) m2 (Kj v1 v2 v3 v10 v11 v12 v74 v75 v76)
variable{M w0 r v1 v2 v3 v10 v11 v12 v13 v15 v16 v17 v74 v75 v76 v79 v80 v100 v101 v102 m1 m2 L1 L2}{K:Kn}{n:Nat}
theorem Kk(hK:am K)(hL1:zR M w0 r v1 v2 v3 m1 L1)(h:ux K n v1 v2 v3 v13 L1 v15 v16 v17=some r):n6 M w0 r (.b 1::cZ 979::B7 M w0 r m1) (Um v1 v2 v3 v13 v15 v16 v17):=by
 unfold ux at h;exact ae 2 (bt (hL1 h))
theorem J3(hK:am K)(hL2:qw M w0 r v1 v2 v3 v10 v11 v12 m2 L2)(h:qb K n v1 v2 v3 v10 v11 v12 v75 L2 v101 v102=some r):n6 M w0 r (cZ 8147::ki M w0 r m2) (PZ v1 v2 v3 v10 v11 v12 v75 v101 v102):=by
 unfold qb at h;exact ae 1 (bt (hL2 h))
theorem BM(hK:am K)(hL2:qw M w0 r v1 v2 v3 v10 v11 v12 m2 L2)(h:qX K n v1 v2 v3 v10 v11 v12 v74 v75 v80 L2 v100=some r):n6 M w0 r (cZ 521375 :: .b 3::cZ 8147::ki M w0 r m2) (Xa v1 v2 v3 v10 v11 v12 v74 v75 v80 v100):=by
 unfold qX at h;exact ae 2 (J3 hK hL2 h)
theorem LO(hK:am K)(hL2:qw M w0 r v1 v2 v3 v10 v11 v12 m2 L2)(h:nr K n v1 v2 v3 v10 v11 v12 v74 v75 v76 L2 v80=some r):n6 M w0 r (cZ 130343 :: .b 3::cZ 8147::ki M w0 r m2) (MG v1 v2 v3 v10 v11 v12 v74 v75 v76 v80):=by
 unfold nr at h;refine aw 2 3 1 (aj 2 ?_);obtain⟨h102,h⟩:=aL h;refine az (bN aQ aQ h102 (jn) ((fun _=>rfl))) (ac ?_);obtain⟨v81,h103,h⟩:=bL h;refine bw (ks':=cZ 1042748::cZ 1042749::cZ 521375 :: .b 3::cZ 8147::ki M w0 r m2) 2 ⟨[(0,.sl (lm bj v1)),(6,.ptr 6 0),(7,iI v10),(9,iI v12),(11,.ptr 11 0),(12,iI v74),(13,iI v75),(14,.ptr 14 0),(15,.ptr 15 0)],[(6,List.set (aC bb) 66 (.nils)),(11,List.set (aC ({ bb with Kind:=2,W:=v3,H:=(aa (v10+v11)),aE:=v10,Style:=v2 }:ab)) 66 (.ref 134)),(14,bj v80),(15,aX v81)],[(134,⟨59,67,lm aB v76⟩)],[6,11,14,15,134]⟩ ?_ (by subst h103;kernel_rfl);refine aj 2 (az (bv aB v80.Box) (ac ?_));obtain⟨h104,h⟩|⟨h104,h⟩:=ak h
 ·refine ag 108 h104 (aw 4 5 2 (aj 2 ?_));obtain⟨h105,h⟩:=aL h;refine az (bN aB aC h105 (dF) (cH)) (ac ?_);obtain⟨v82,h106,h⟩:=bL h;obtain⟨v83,h107,h⟩:=bL h;obtain⟨v84,h108,h⟩:=bL h;obtain⟨v85,h109,h⟩:=bL h;obtain⟨v86,h110,h⟩:=bL h;obtain⟨v87,h111,h⟩:=bL h;obtain⟨v88,h112,h⟩:=bL h;obtain⟨v89,h113,h⟩:=bL h;obtain⟨v90,h114,h⟩:=bL h;obtain⟨v91,h115,h⟩:=bL h;obtain⟨v92,h116,h⟩:=bL h;obtain⟨v93,h117,h⟩:=bL h;obtain⟨v94,h118,h⟩:=bL h;refine bw (ks':=cZ 16683990::cZ 16683991::cZ 521375 :: .b 3::cZ 8147::ki M w0 r m2) 3 ⟨[(0,.sl (lm bj v1)),(6,.ptr 6 0),(7,iI v10),(9,iI v12),(11,.ptr 11 0),(12,iI v74),(13,iI v75),(14,.ptr 14 0),(16,.ptr 16 0)],[(6,List.set (aC bb) 66 (.nils)),(11,List.set (aC ({ bb with Kind:=2,W:=v3,H:=(aa (v10+v11)),aE:=v10,Style:=v2 }:ab)) 66 (.ref 134)),(14,bj v80),(16,aC (⟨v82,v83,v84,v85,v86,v87,v88,v89,v90,v91,v92,v93,v94⟩:ab))],[(134,⟨59,67,lm aB v76⟩)],[6,11,14,16,134]⟩ ?_ (by subst h118;subst h117;subst h116;subst h115;subst h114;subst h113;subst h112;subst h111;subst h110;subst h109;subst h108;subst h107;subst h106;kernel_rfl)
  obtain⟨v95,h119,h⟩:=bind_some h;refine bP 1 (nu 118 [.ptr 16 3,iI v85,iI v10,.ptr 16 5,iI v87,iI (aa (v10-v87)),.ptr 16 63,.agg (bJ v92),iI v95,iI (aa ((aa (v10-v87))-v95)),iI (aa (v85+(aa ((aa (v10-v87))-v95)))),.ptr 16 3]) [] [] [bR Tryz.prog 174 Tryz.f41 (pn 16683990) 12] (ay (vz 8) (ai (bU 0 1 126 (pV hK h119)) (ay (vz 3) (ai (bS 0) bO)))) ?_;obtain⟨v96,h120,h⟩:=bL h;refine bw (ks':=cZ 16683991::cZ 521375 :: .b 3::cZ 8147::ki M w0 r m2) 0 ⟨[(0,.sl (lm bj v1)),(6,.ptr 6 0),(7,iI v10),(9,iI v12),(11,.ptr 11 0),(12,iI v74),(13,iI v75),(14,.ptr 14 0),(16,.ptr 16 0)],[(6,List.set (aC bb) 66 (.nils)),(11,List.set (aC ({ bb with Kind:=2,W:=v3,H:=(aa (v10+v11)),aE:=v10,Style:=v2 }:ab)) 66 (.ref 134)),(14,bj v80),(16,aC (⟨v82,v83,v84,v96,v86,v87,v88,v89,v90,v91,v92,v93,v94⟩:ab))],[(134,⟨59,67,lm aB v76⟩)],[6,11,14,16,134]⟩ ?_ (by subst h120;kernel_rfl);refine aj 3 (az (er aB ([(⟨v82,v83,v84,v96,v86,v87,v88,v89,v90,v91,v92,v93,v94⟩:ab)]:List ab) (new:=[aC (⟨v82,v83,v84,v96,v86,v87,v88,v89,v90,v91,v92,v93,v94⟩:ab)]) (by simp only[List.map_cons,List.map_nil,cH])) ?_)
  obtain⟨h121,h⟩:=aL h;exact az (cp 134 134 59 67 aB (rfl) (dF) h121) (ac (ae 0 (BM hK hL2 h)))
 ·refine ag 108 h104 ?_;obtain⟨v97,h122,h⟩:=bL h;refine bw (ks':=cZ 4170999::cZ 521375 :: .b 3::cZ 8147::ki M w0 r m2) 3 ⟨[(0,.sl (lm bj v1)),(6,.ptr 6 0),(7,iI v10),(9,iI v12),(11,.ptr 11 0),(12,iI v74),(13,iI v75),(14,.ptr 14 0),(15,.ptr 15 0),(138,.bool v97)],[(6,List.set (aC bb) 66 (.nils)),(11,List.set (aC ({ bb with Kind:=2,W:=v3,H:=(aa (v10+v11)),aE:=v10,Style:=v2 }:ab)) 66 (.ref 134)),(14,bj v80),(15,aX v81)],[(134,⟨59,67,lm aB v76⟩)],[6,11,14,15,134]⟩ ?_ (by subst h122;kernel_rfl);obtain⟨h123,h⟩|⟨h123,h⟩:=ak h
  ·refine ag 138 h123 (bh 5 3 (bF [0,6,7,9,11,12,13,14,15,17] [6,11,14,15] [134] ?_));obtain⟨v98,h124,h⟩:=bind_some h;obtain⟨v99,h125,h⟩:=bind_some h;obtain⟨h126,h⟩:=aL h;exact bP 2 (nu 142 [.ptr 11 66,.ref 134,.ptr 15 1,iI v81.Node,.ptr 15 2,.agg (aI v81.Style),.ptr 14 1,.str v80.Text,iI v74,iI v10,iI v81.Style.FontSize,iI v98,iI (aa (v10-v98)),.ptr 14 2,iI v80.Width,.ptr 14 3,iI v80.Space,iI (aa (v80.Width+v80.Space)),iI v81.Style.FontSize,iI v99,.agg (List.set (aC (⟨3,v81.Node,v74,(aa (v10-v98)),(aa (v80.Width+v80.Space)),v99,0,v80.Text,v81.Style,bX,bX,false,[]⟩:ab)) 66 (.nils)),.sl (lm aB [(⟨3,v81.Node,v74,(aa (v10-v98)),(aa (v80.Width+v80.Space)),v99,0,v80.Text,v81.Style,bX,bX,false,[]⟩:ab)])]++nu 165 [.ptr 11 66]) [] [] [ii 164 134 ⟨59,67,lm aB (v76++[(⟨3,v81.Node,v74,(aa (v10-v98)),(aa (v80.Width+v80.Space)),v99,0,v80.Text,v81.Style,bX,bX,false,[]⟩:ab)])⟩,bR Tryz.prog 174 Tryz.f41 (pn 16683997) 24] (ay [.v 0 2,.v 0 1,.v 0 2,.v 0 2,.v 0 2,.v 0 2,.v 0 2,.v 0 2,.v 0 2,.v 0 2,.v 0 2] (ai (bU 0 2 153 (w9 hK h124)) (ay [.v 0 2,.v 0 2,.v 0 2,.v 0 2,.v 0 2,.v 0 2,.v 0 2] (ai (bU 0 1 161 (I0 hK h125)) (ay [.v 0 2] (bI (er aB ([(⟨3,v81.Node,v74,(aa (v10-v98)),(aa (v80.Width+v80.Space)),v99,0,v80.Text,v81.Style,bX,bX,false,[]⟩:ab)]:List ab) (new:=[aC (⟨3,v81.Node,v74,(aa (v10-v98)),(aa (v80.Width+v80.Space)),v99,0,v80.Text,v81.Style,bX,bX,false,[]⟩:ab)]) (by simp only[List.map_cons,List.map_nil,cH])) (ai (gF (m:=0) (cp 164 134 59 67 aB (rfl) (dF) h126)) (ay [.v 1 1] (ai (bS 1) bO))))))))) (ae 0 (BM hK hL2 h))
  ·exact ag 138 h123 (ae 2 (BM hK hL2 h))
theorem uO(hK:am K)(hL2:qw M w0 r v1 v2 v3 v10 v11 v12 m2 L2)(h:iw K n v1 v2 v3 v10 v11 v12 v74 v75 v76 L2 v79=some r):n6 M w0 r (cZ 260685::cZ 130343 :: .b 3::cZ 8147::ki M w0 r m2) (UN v1 v2 v3 v10 v11 v12 v74 v75 v76 v79):=by
 unfold iw at h;obtain⟨h100,h⟩|⟨h100,h⟩:=ak h
 ·refine ag 90 h100 (aw 4 5 2 (aj 6 ?_));obtain⟨h101,h⟩:=aL h;exact az (uQ h101) (ac (ae 1 (LO hK hL2 h)))
 ·exact ag 90 h100 (ae 2 (LO hK hL2 h))
theorem M5(hK:am K)(hL2:qw M w0 r v1 v2 v3 v10 v11 v12 m2 L2)(h:qn K n v1 v2 v3 v10 v11 v12 L2 v74 v75 v76=some r):n6 M w0 r (cZ 2036::ki M w0 r m2) (Kj v1 v2 v3 v10 v11 v12 v74 v75 v76):=by
 unfold qn at h;refine bK 4 5 3 2 (aj 2 (az (bv bj v1) (ac ?_)));obtain⟨h91,h⟩|⟨h91,h⟩:=ak h
 ·refine ag 65 h91 (cE 8 9 3 3 5 (aj 2 ?_));obtain⟨h92,h⟩:=aL h;refine az (bN bj bj h92 (gj) ((fun _=>rfl))) (ac (aw 5 3 3 ?_));obtain⟨h93,h⟩|⟨h93,h⟩:=ak h
  ·exact ag 73 h93 (ae 4 (J3 hK hL2 h))
  ·refine ag 73 h93 (gE 4 5 3 4 (aj 4 ?_));obtain⟨h94,h⟩|⟨h94,h⟩:=ak h
   ·refine av 77 h94 (aJ 9 5 ?_);obtain⟨h95,h⟩|⟨h95,h⟩:=ak h
    ·exact av 82 h95 (ac (ae 0 (uO hK hL2 h)))
    ·refine av 82 h95 (aJ 13 4 ?_);obtain⟨h96,h⟩|⟨h96,h⟩:=ak h
     ·refine av 86 h96 (aJ 14 1 ?_);obtain⟨v77,h97,h⟩:=bind_some h;exact aD (Ej hK h97) (ac (ae 0 (uO hK hL2 h)))
     ·exact av 86 h96 (ac (ae 0 (uO hK hL2 h)))
   ·refine av 77 h94 (aJ 13 9 ?_);obtain⟨h98,h⟩|⟨h98,h⟩:=ak h
    ·refine av 86 h98 (aJ 14 1 ?_);obtain⟨v78,h99,h⟩:=bind_some h;exact aD (Ej hK h99) (ac (ae 0 (uO hK hL2 h)))
    ·exact av 86 h98 (ac (ae 0 (uO hK hL2 h)))
 ·refine ag 65 h91 (aG 8 ?_);cases h;exact d9
theorem Xz(hK:am K)(m:Nat):qw M w0 r v1 v2 v3 v10 v11 v12 m (km K n v1 v2 v3 v10 v11 v12 m):=by
 induction m with
 | zero=>intro v74 v75 v76 h;cases h
 | succ m ih=>intro v74 v75 v76 h;have h:qn K n v1 v2 v3 v10 v11 v12 (km K n v1 v2 v3 v10 v11 v12 m) v74 v75 v76=some r:=h;exact bp (M5 hK ih h)
theorem WS(hK:am K)(hL1:zR M w0 r v1 v2 v3 m1 L1)(h:sr K n v1 v2 v3 L1 v10 v11 v12 v13=some r):n6 M w0 r (cZ 244::B7 M w0 r m1) (F1 v1 v2 v3 v10 v11 v12 v13):=by
 unfold sr at h;refine bK 4 5 3 2 (aj 2 (az (bv bj v1) (ac ?_)));obtain⟨h9,h⟩|⟨h9,h⟩:=ak h
 ·refine ag 26 h9 (cE 8 9 1 3 5 (aj 2 ?_));obtain⟨h10,h⟩:=aL h;refine az (bN bj bj h10 (gj) ((fun _=>rfl))) (ac ?_);obtain⟨h11,h⟩|⟨h11,h⟩:=ak h
  ·refine ag 34 h11 (aw 10 11 4 (aj 3 ?_));obtain⟨h12,h⟩:=aL h;refine az (bN bj bj h12 (gj) ((fun _=>rfl))) (ac ?_);obtain⟨v14,h13,h⟩:=bL h;refine bw (ks':=cZ 31307 :: .b 1::cZ 979::B7 M w0 r m1) 0 ⟨[(0,.sl (lm bj v1)),(2,iI v3),(4,.ptr 4 0),(6,.ptr 6 0),(7,iI v14),(8,iI v11),(9,iI v13),(10,iI v13)],[(4,aI v2),(6,List.set (aC bb) 66 (.nils))],[],[4,6]⟩ ?_ (by subst h13;kernel_rfl);refine aj 3 ?_;obtain⟨h14,h⟩:=aL h;exact az (bN bj bj h14 (gj) ((fun _=>rfl))) (ac (ae 0 (Kk hK hL1 h)))
  ·exact ag 34 h11 (ae 2 (Kk hK hL1 h))
 ·refine ag 26 h9 (lH 6 7 8 (bF [0,2,4,6,7,9,11] [4,6,11] [] ?_));obtain⟨v18,h15,h⟩:=bind_some h;obtain⟨v19,h16,h⟩:=bind_some h;exact bP 1 (nu 57 [.agg (aI v2),iI v3,.sl (lm bj v1),iI v18,iI v19]) [] [] [bR Tryz.prog 174 Tryz.f41 (pn 126) 5] (ay (vz 3) (ai (bU 0 1 60 (Kt hK h15)) (ai (bU 0 1 61 (Zw hK h16)) (ai (bS 0) bO)))) (eO 10 2 3 4 (bF [0,6,7,9,11,12,13] [6,11] [] (vo 134 11 66 59 67 (ae 0 (cd (p:=pn 1018) n (Xz hK n h))))))
theorem VN(hK:am K)(m:Nat):zR M w0 r v1 v2 v3 m (rY K n v1 v2 v3 m):=by
 induction m with
 | zero=>intro v10 v11 v12 v13 h;cases h
 | succ m ih=>intro v10 v11 v12 v13 h;have h:sr K n v1 v2 v3 (rY K n v1 v2 v3 m) v10 v11 v12 v13=some r:=h;exact bp (WS hK ih h)
theorem Wy(hK:am K)(h:uD K n v1 v2 v3=some r):aN Tryz.prog 41 [.sl (lm bj v1),.agg (aI v2),iI v3] (fun v s=>v=.agg (List.set (aC ({ r with Kids:=[] }:ab)) 66 (.ref 134))∧look 134 s.r=some ⟨59,67,lm aB r.Kids⟩):=by
 refine bc (cat Tryz.f41 (pn 1)) Tryz.func41 Tryz.ntmps41 fun M w0=>(aZ ⟨[(0,.sl (lm bj v1)),(1,.agg (aI v2)),(2,iI v3)],[],[],[]⟩ ?_);unfold uD at h;refine aw 6 7 3 (aj 1 ?_);obtain⟨v4,h1,h⟩:=bind_some h;exact aD (ER hK h1) (ac (ae 6 (cd (p:=pn 122) n (VN hK n h))))
end
noncomputable section
variable(M:Nat→Prop)(w0:aE)(r:(List ab)×Int)(v1:List ah)(v2:aF)(v3 v4:Int)(v5:List aO)(v6:List Int)(v11 v12:Int)(v13:List ab)(m1:Nat)(L1:Int→Int→(List ab)→Option ((List ab)×Int))
abbrev DS:Cx:=⟨Tryz.prog,59,M,w0⟩
abbrev BA:=bodyPost Tryz.prog Tryz.f16 (bq M w0 (fun v s=>v=.tup [.ref 56,iI r.2]∧look 56 s.r=some ⟨59,67,lm aB r.1⟩))
abbrev ZY(ks:List ao)(s:AS):=VE (DS M w0) (BA M w0 r) ks .normal s
abbrev w7(n:Nat):ao:=.c (cat Tryz.f16 (pn n))
abbrev Cv:List ao:=[.b 0,w7 255]
abbrev Lx:List ao:=kl (DS M w0) (BA M w0 r) Cv (cat Tryz.f16 (pn 2036)) m1::Cv
def H9:AS:=⟨[(2,iI v4),(4,.ptr 4 0),(8,.sl (lm bj v5)),(9,.ref 1021),(10,.ref 56),(11,iI v11),(12,iI v12)],[(4,aI v2)],[(56,⟨59,67,lm aB v13⟩),(1021,⟨3,1,lm (br .i64) (v6++[(v5.length:Int)])⟩)],[4,56,1021]⟩
abbrev F5:Prop:=∀{v11:Int} {v12:Int} {v13:(List ab)},L1 v11 v12 v13=some r→LP (DS M w0) (BA M w0 r) Cv (cat Tryz.f16 (pn 2036)) m1 (H9 v2 v4 v5 v6 v11 v12 v13)
variable{M w0 r v1 v2 v3 v4 v5 v6 v11 v12 v13 m1 L1}{K:Kn}{n:Nat}
theorem RB(hK:am K)(hL1:F5 M w0 r v2 v4 v5 v6 m1 L1)(h:pP K n v2 v4 v5 v6 L1 v11 v12 v13=some r):ZY M w0 r (w7 2036::Lx M w0 r m1) (H9 v2 v4 v5 v6 v11 v12 v13):=by
 unfold pP at h;refine bK 4 5 3 2 (aj 3 (az (bv (br .i64) (v6++[(v5.length:Int)])) (ac ?_)));obtain⟨v14,h19,h⟩:=bL h;refine bw (ks':=w7 8145::w7 4073::Lx M w0 r m1) 0 ⟨[(2,iI v4),(4,.ptr 4 0),(8,.sl (lm bj v5)),(9,.ref 1021),(10,.ref 56),(11,iI v11),(12,iI v12),(30,.bool v14)],[(4,aI v2)],[(56,⟨59,67,lm aB v13⟩),(1021,⟨3,1,lm (br .i64) (v6++[(v5.length:Int)])⟩)],[4,56,1021]⟩ ?_ (by subst h19;kernel_rfl);obtain⟨h20,h⟩|⟨h20,h⟩:=ak h
 ·refine ag 30 h20 (cE 8 9 1 3 5 (bF [2,4,8,9,10,11,12] [4] [56,1021] ?_));obtain⟨h21,h⟩:=aL h;obtain⟨h22,h⟩:=aL h;obtain⟨h23,h⟩:=aL h;obtain⟨v15,h24,h⟩:=bind_some h;refine bP 1 (nu 33 [.sl (lm bj v5),.ref 1021,iI v12,.eptr 1021 1 (v12.toNat) 0,iI (gD (v6++[(v5.length:Int)]) v12),.ref 1021,iI v12,iI (aa (v12+1)),.eptr 1021 1 (((aa (v12+1))).toNat) 0,iI (gD (v6++[(v5.length:Int)]) ((aa (v12+1)))),.sl (lm bj (List.drop ((gD (v6++[(v5.length:Int)]) v12)).toNat (List.take ((gD (v6++[(v5.length:Int)]) ((aa (v12+1))))).toNat v5))),.agg (aI v2),iI v4,.agg (List.set (aC ({ v15 with Kids:=[] }:ab)) 66 (.ref 46))]++nu 13 [.ptr 13 0]) [(13,List.set (aC bb) 66 (.nils))] [(46,⟨59,67,lm aB v15.Kids⟩)] [bR Tryz.prog 59 Tryz.f16 (pn 32584) 15] (ay (vz 3) (bI (dg 1021 1 (br .i64) (L:=(v6++[(v5.length:Int)])) h21) (bI (co 3 0 (br .i64) (br .i64) (ci h21).2 ((fun _=>rfl))) (ay (vz 3) (bI (dg 1021 1 (br .i64) (L:=(v6++[(v5.length:Int)])) h22) (bI (co 3 0 (br .i64) (br .i64) (ci h22).2 ((fun _=>rfl))) (bI (uL bj v5 (gD (v6++[(v5.length:Int)]) v12) (gD (v6++[(v5.length:Int)]) ((aa (v12+1)))) 36 (.tmp 33) (some (.tmp 37)) (some (.tmp 42)) 43 (e:=49) (sz:=9) (by kernel_rfl) (by kernel_rfl) (by kernel_rfl) (by kernel_rfl) (by kernel_rfl) (by kernel_rfl) (gj) (fun k hk=>by subst hk;kernel_rfl) h23) (ay (vz 2) (ai (yJ 0 1 46 (Wy hK h24) (mT (i:=66) (by kernel_rfl))) (ai (m5 0 1 59 13 (List.set (aC bb) 66 (.nils))) (ai (bS 0) bO))))))))))) (bh 7 4 (aj 2 (iP 46 (az (er aB ([({ v15 with Y:=v11 }:ab)]:List ab) (new:=[aC ({ v15 with Y:=v11 }:ab)]) (by simp only[List.map_cons,List.map_nil,cH])) ?_))))
  obtain⟨h25,h⟩:=aL h;exact az (cp 56 56 59 67 aB (rfl) (dF) h25) (ac (ae 2 (bt (hL1 h))))
 ·refine ag 30 h20 (aG 8 ?_);cases h;exact sN
theorem Ph(hK:am K)(m:Nat):F5 M w0 r v2 v4 v5 v6 m (pD K n v2 v4 v5 v6 m):=by
 induction m with
 | zero=>intro v11 v12 v13 h;cases h
 | succ m ih=>intro v11 v12 v13 h;have h:pP K n v2 v4 v5 v6 (pD K n v2 v4 v5 v6 m) v11 v12 v13=some r:=h;exact bp (RB hK ih h)
theorem XX(hK:am K)(h:vu K n v1 v2 v3=some r):aN Tryz.prog 16 [.sl (lm aP v1),.agg (aI v2),iI v3] (fun v s=>v=.tup [.ref 56,iI r.2]∧look 56 s.r=some ⟨59,67,lm aB r.1⟩):=by
 refine bc (cat Tryz.f16 (pn 1)) Tryz.func16 Tryz.ntmps16 fun M w0=>(aZ ⟨[(0,.sl (lm aP v1)),(1,.agg (aI v2)),(2,iI v3)],[],[],[]⟩ ?_);unfold vu at h;refine aw 6 7 3 (aj 1 ?_);obtain⟨v4,h1,h⟩:=bind_some h;refine aD (fY hK h1) (ac (aw 2 3 1 (aj 2 ?_)));obtain⟨v5,h2,h⟩:=bind_some h;refine dm 1018 (QK hK h2) (fH 440006) (ac (aw 2 3 1 (aj 2 (iP 1018 ?_))));obtain⟨v6,h3,h⟩:=bind_some h;refine dm 1021 (WB hK h3) (fH 15) (aJ 4 1 (az (bv bj v5) (aJ 6 1 ?_)));obtain⟨h4,h⟩:=aL h;exact az (cp 25 1021 3 1 (br .i64) (rfl) ((fun _=>rfl)) h4) (ac (eO 58 0 15 8 (bF [2,4,8,9,10,11,12] [4] [1021] (eX 56 10 59 67 (ae 0 (cd (p:=pn 1018) n (Ph hK n h)))))))
end
noncomputable section
variable(M:Nat→Prop)(w0:aE)(r:Bool)(v1:List cc)(v2:Int)(v8 v11:((List ab)×Int))(v12:Bool)(v14:Int)(m1:Nat)(L1:Int→Option Bool)
abbrev Ce:Cx:=⟨Tryz.prog,60,M,w0⟩
abbrev q4:=bodyPost Tryz.prog Tryz.f4 (bq M w0 (fun v _=>v=.bool r))
abbrev Fr(ks:List ao)(s:AS):=VE (Ce M w0) (q4 M w0 r) ks .normal s
abbrev xj(n:Nat):ao:=.c (cat Tryz.f4 (pn n))
abbrev Cu:List ao:=[.b 0,xj 255]
abbrev PH:List ao:=kl (Ce M w0) (q4 M w0 r) Cu (cat Tryz.f4 (pn 2036)) m1::Cu
def Gv:AS:=⟨[(5,.ref 1022),(7,.ref 1031),(45,iI (v8.1.length:Int)),(46,iI v14)],[],[(1022,⟨59,67,lm aB v8.1⟩),(1031,⟨59,67,lm aB v11.1⟩)],[1022,1031]⟩
def UD:AS:=⟨[(5,.ref 1022),(7,.ref 1031),(43,.bool v12)],[],[(1022,⟨59,67,lm aB v8.1⟩),(1031,⟨59,67,lm aB v11.1⟩)],[1022,1031]⟩
abbrev F4:Prop:=∀{v14:Int},L1 v14=some r→LP (Ce M w0) (q4 M w0 r) Cu (cat Tryz.f4 (pn 2036)) m1 (Gv v8 v11 v14)
variable{M w0 r v1 v2 v8 v11 v12 v14 m1 L1}{K:Kn}{n:Nat}
theorem TY(hK:am K)(hL1:F4 M w0 r v8 v11 m1 L1)(h:qp K n v8 v11 L1 v14=some r):Fr M w0 r (xj 2036::PH M w0 r m1) (Gv v8 v11 v14):=by
 unfold qp at h;refine aw 6 7 3 ?_;obtain⟨h19,h⟩|⟨h19,h⟩:=ak h
 ·refine ag 47 h19 (cE 18 19 1 3 7 (bF [5,7,9,45,46] [] [1022,1031] ?_));obtain⟨h20,h⟩:=aL h;obtain⟨h21,h⟩:=aL h;obtain⟨v15,h22,h⟩:=bind_some h;refine bP 0 (nu 49 [.ref 1022,iI v14,.eptr 1022 67 (v14.toNat) 0,.agg (aC (gD v8.1 v14)),.ref 1031,iI v14,.eptr 1031 67 (v14.toNat) 0,.agg (aC (gD v11.1 v14)),.bool v15,.bool (!v15)]) [] [] [] (ay (vz 2) (bI (dg 1022 67 aB (L:=v8.1) h20) (bI (co 59 0 aB aC (ci h20).2 (cH)) (ay (vz 2) (bI (dg 1031 67 aB (L:=v11.1) h21) (bI (co 59 0 aB aC (ci h21).2 (cH)) (ai (bU 0 1 57 (I9 hK h22)) (ay [.v 0 1] bO)))))))) ?_;obtain⟨h23,h⟩|⟨h23,h⟩:=ak h
  ·refine ag 58 h23 (aG 9 ?_);cases h;exact aV
  ·exact ag 58 h23 (ae 4 (bt (hL1 h)))
 ·refine ag 47 h19 (aG 8 ?_);cases h;exact aV
theorem Yx(hK:am K)(m:Nat):F4 M w0 r v8 v11 m (rQ K n v8 v11 m):=by
 induction m with
 | zero=>intro v14 h;cases h
 | succ m ih=>intro v14 h;have h:qp K n v8 v11 (rQ K n v8 v11 m) v14=some r:=h;exact bp (TY hK ih h)
theorem Jm(hK:am K)(h:vV K n v8 v11 v12=some r):Fr M w0 r [xj 253,xj 127] (UD v8 v11 v12):=by
 unfold vV at h;obtain⟨h13,h⟩|⟨h13,h⟩:=ak h
 ·refine ag 43 h13 (aG 5 ?_);cases h;exact aV
 ·exact ag 43 h13 (gE 4 5 3 4 (aj 1 (az (bv aB v8.1) (ac (ae 1 (cd (p:=pn 1018) n (Yx hK n h)))))))
theorem Yj(hK:am K)(h:wF K n v1 v2=some r):aN Tryz.prog 4 [.sl (lm ce v1),iI v2] (fun v _=>v=.bool r):=by
 refine bc (cat Tryz.f4 (pn 1)) Tryz.func4 Tryz.ntmps4 fun M w0=>(aZ ⟨[(0,.sl (lm ce v1)),(1,iI v2)],[],[],[]⟩ ?_);unfold wF at h;refine bK 12 13 7 4 (aj 0 ?_);obtain⟨v3,h1,h⟩:=bind_some h;refine aD (U6 hK h1) (ac ?_);obtain⟨h2,h⟩|⟨h2,h⟩:=ak h
 ·refine ag 11 h2 (aG 5 ?_);cases h;exact aV
 ·refine ag 11 h2 (gE 4 5 3 4 (aj 1 ?_));obtain⟨v4,h3,h⟩:=bind_some h;refine aD (aab hK h3) (ac ?_);obtain⟨h4,h⟩|⟨h4,h⟩:=ak h
  ·refine ag 14 h4 (aG 5 ?_);cases h;exact aV
  ·refine ag 14 h4 (dU 2 3 3 (aj 1 ?_));obtain⟨v5,h5,h⟩:=bind_some h;refine dm 1017 (Gf hK h5) (fH 1007) (aJ 3 1 ?_);obtain⟨v6,h6,h⟩:=bind_some h;refine aD (Ju hK h6) (aJ 5 1 ?_);obtain⟨v7,h7,h⟩:=bind_some h;refine aD (yN hK h7) (iP 1017 ?_);obtain⟨v8,h8,h⟩:=bind_some h;refine dm 1022 (F8 hK h8) (nZ (i:=0) rfl) (ac (aw 2 3 1 (aj 1 ?_)));obtain⟨v9,h9,h⟩:=bind_some h;refine dm 1027 (Gf hK h9) (fH 1007) (aJ 3 1 ?_);obtain⟨v10,h10,h⟩:=bind_some h;refine aD (Ju hK h10) (aJ 5 1 (iP 1027 ?_));obtain⟨v11,h11,h⟩:=bind_some h;refine dm 1031 (XX hK h11) (nZ (i:=0) rfl) (ac (bK 4 5 3 2 (aj 4 ?_)));obtain⟨h12,h⟩|⟨h12,h⟩:=ak h
   ·exact av 37 h12 (ac (ae 0 (Jm hK h)))
   ·exact av 37 h12 (aJ 5 1 (az (bv aB v8.1) (aJ 7 1 (az (bv aB v11.1) (ac (ae 0 (Jm hK h)))))))
end
noncomputable section
variable(M:Nat→Prop)(w0:aE)(r:aR)(v1:aF)(v2 v3:Int)(v4:aR)(v7 v8 v9:Int)(v10 v11:(Int×Bool))(v12:Bool)(v13:V4 Int)  
abbrev xD(n:Nat):ao:=.c (cat Tryz.f103 (pn n))
abbrev S6:Cx:=⟨Tryz.prog,89,M,w0⟩
abbrev Ws:=bodyPost Tryz.prog Tryz.f103 (bq M w0 (fun v _=>v=.agg (bi r)))
abbrev Dz(ks:List ao)(s:AS):=VE (S6 M w0) (Ws M w0 r) ks .normal s
def Xe:AS:=⟨[(4,.ptr 4 0),(5,.ptr 5 0)],[(4,bi dv),(5,bi ({ v4 with Margin:=v13,Content:=v8 }:aR))],[],[4,5]⟩
def YU:AS:=⟨[(4,.ptr 4 0),(5,.ptr 5 0),(8,iI (aa (v3-v9))),(10,.bool v10.2),(12,.bool v11.2),(59,.bool v12)],[(4,bi dv),(5,bi ({ v4 with Content:=v8 }:aR))],[],[4,5]⟩
def Tv:AS:=⟨[(1,iI v3),(2,.ptr 2 0),(4,.ptr 4 0),(5,.ptr 5 0),(6,iI v7)],[(2,aI v1),(4,bi dv),(5,bi v4)],[],[2,4,5]⟩
variable{M w0 r v1 v2 v3 v4 v7 v8 v9 v10 v11 v12 v13}{K:Kn}{n:Nat}
theorem yU(hK:am K)(h:pS K n v4 v8 v13=some r):Dz M w0 r [.b 0,xD 4095] (Xe v4 v8 v13):=by
 unfold pS at h;refine aG 4 ?_;cases h;exact aV
theorem FT(hK:am K)(h:wv K n v3 v4 v8 v9 v10 v11 v12=some r):Dz M w0 r [xD 16377,.b 0,xD 4095] (YU v3 v4 v8 v9 v10 v11 v12):=by
 unfold wv at h;obtain⟨h12,h⟩|⟨h12,h⟩:=ak h
 ·exact ag 59 h12 (ae 4 (yU hK h))
 ·refine ag 59 h12 (bh 7 3 ?_);obtain⟨h13,h⟩|⟨h13,h⟩:=ak h
  ·exact ag 76 h13 (ae 2 (yU hK h))
  ·refine ag 76 h13 (bh 7 3 ?_);obtain⟨h14,h⟩|⟨h14,h⟩:=ak h
   ·exact ag 82 h14 (ae 2 (yU hK h))
   ·exact ag 82 h14 (ae 2 (yU hK h))
theorem Ky(hK:am K)(h:y3 K n v1 v3 v4 v7=some r):Dz M w0 r [xD 63] (Tv v1 v3 v4 v7):=by
 unfold y3 at h;refine aw 2 3 1 (aj 3 ?_);obtain⟨v8,h6,h⟩:=bind_some h;refine aD (yR hK h6) (ac (aw 2 3 1 (aj 2 ?_)));obtain⟨v9,h7,h⟩:=bind_some h;refine aD (qe hK h7) (ac (aw 5 3 3 ?_));obtain⟨h8,h⟩|⟨h8,h⟩:=ak h
 ·refine ag 41 h8 (aG 5 ?_);cases h;exact aV
 ·refine ag 41 h8 (dU 2 3 3 (aj 4 ?_));obtain⟨v10,h9,h⟩:=bind_some h;refine aD (eM hK h9) (ac (aw 2 3 1 (aj 4 ?_)));obtain⟨v11,h10,h⟩:=bind_some h;refine aD (eM hK h10) (ac (c9 8 9 0 3 3 (aj 3 ?_)));obtain⟨h11,h⟩|⟨h11,h⟩:=ak h
  ·exact av 62 h11 (ac (ae 0 (FT hK h)))
  ·exact av 62 h11 (ac (ae 0 (FT hK h)))
theorem ND(hK:am K)(h:BO K n v1 v2=some r):aN Tryz.prog 103 [.agg (aI v1),iI v2] (fun v _=>v=.agg (bi r)):=by
 refine bc (cat Tryz.f103 (pn 1)) Tryz.func103 Tryz.ntmps103 fun M w0=>(aZ ⟨[(0,.agg (aI v1)),(1,iI v2)],[],[],[]⟩ ?_);unfold BO at h;refine aw 6 7 3 (aj 1 ?_);obtain⟨v3,h1,h⟩:=bind_some h;refine aD (g7 hK h1) (ac (aw 2 3 1 (aj 2 ?_)));obtain⟨v4,h2,h⟩:=bind_some h;refine aD (vY hK h2) (ac (aw 2 3 1 (aj 3 ?_)));obtain⟨v5,h3,h⟩:=bind_some h;refine aD (eM hK h3) (ac (aw 5 3 3 ?_));obtain⟨h4,h⟩|⟨h4,h⟩:=ak h
 ·refine ag 26 h4 (bh 2 1 (aj 2 ?_));obtain⟨v6,h5,h⟩:=bind_some h;exact aD (qe hK h5) (ac (ae 0 (Ky hK h)))
 ·exact ag 26 h4 (ae 2 (Ky hK h))
end
noncomputable section
variable(M:Nat→Prop)(w0:aE)(r:ab)(v1:ah)(v2:Int)(v3:cD)(v4:aR)(v5 v6:Bool)  
abbrev IE(n:Nat):ao:=.c (cat Tryz.f60 (pn n))
abbrev QH:Cx:=⟨Tryz.prog,58,M,w0⟩
abbrev Ri:=bodyPost Tryz.prog Tryz.f60 (bq M w0 (fun v s=>v=.agg (List.set (aC ({ r with Kids:=[] }:ab)) 66 (.ref 1057))∧look 1057 s.r=some ⟨59,67,lm aB r.Kids⟩))
abbrev JB(ks:List ao)(s:AS):=VE (QH M w0) (Ri M w0 r) ks .normal s
def TW:AS:=⟨[(3,.ptr 3 0),(5,.ptr 5 0),(6,.ptr 6 0),(7,.ptr 7 0),(9,.bool v5),(10,.bool v6)],[(3,aX v1),(5,cW v3),(6,List.set (aC bb) 66 (.nils)),(7,bi v4)],[],[3,5,6,7]⟩
def Nj:AS:=⟨[(3,.ptr 3 0),(5,.ptr 5 0),(6,.ptr 6 0),(7,.ptr 7 0),(8,.bool (v1.Style.Overflow == 0)),(9,.bool v5)],[(3,aX v1),(5,cW v3),(6,List.set (aC bb) 66 (.nils)),(7,bi v4)],[],[3,5,6,7]⟩
variable{M w0 r v1 v2 v3 v4 v5 v6}{K:Kn}{n:Nat}
theorem xN(hK:am K)(h:rT K n v1 v3 v4 v5 v6=some r):JB M w0 r [IE 63] (TW v1 v3 v4 v5 v6):=by
 unfold rT at h;refine aw 2 3 1 (aj 5 ?_);obtain⟨v7,h7,h⟩:=bind_some h;refine dm 1057 (Hk hK h7) (mT (i:=66) (by kernel_rfl)) (ac (aG 1 ?_));cases h;exact d9
theorem CK(hK:am K)(h:vn K n v1 v3 v4 v5=some r):JB M w0 r [IE 31] (Nj v1 v3 v4 v5):=by
 unfold vn at h;refine aw 2 3 1 (aj 2 ?_);obtain⟨h4,h⟩|⟨h4,h⟩:=ak h
 ·refine av 33 h4 (aJ 8 6 ?_);obtain⟨h5,h⟩|⟨h5,h⟩:=ak h
  ·refine av 39 h5 (aJ 14 6 ?_);obtain⟨h6,h⟩|⟨h6,h⟩:=ak h
   ·exact av 45 h6 (ac (ae 0 (xN hK h)))
   ·exact av 45 h6 (ac (ae 0 (xN hK h)))
  ·exact av 39 h5 (ac (ae 0 (xN hK h)))
 ·exact av 33 h4 (ac (ae 0 (xN hK h)))
theorem VF(hK:am K)(h:Bd K n v1 v2 v3=some r):aN Tryz.prog 60 [.agg (aX v1),iI v2,.agg (cW v3)] (fun v s=>v=.agg (List.set (aC ({ r with Kids:=[] }:ab)) 66 (.ref 1057))∧look 1057 s.r=some ⟨59,67,lm aB r.Kids⟩):=by
 refine bc (cat Tryz.f60 (pn 1)) Tryz.func60 Tryz.ntmps60 fun M w0=>(aZ ⟨[(0,.agg (aX v1)),(1,iI v2),(2,.agg (cW v3))],[],[],[]⟩ ?_);unfold Bd at h;refine aw 6 7 3 (aj 3 ?_);obtain⟨v4,h1,h⟩:=bind_some h;refine aD (ND hK h1) (ac (aw 6 7 3 (aj 2 ?_)));obtain⟨h2,h⟩|⟨h2,h⟩:=ak h
 ·refine av 20 h2 (aJ 8 6 ?_);obtain⟨h3,h⟩|⟨h3,h⟩:=ak h
  ·exact av 26 h3 (ac (ae 0 (CK hK h)))
  ·exact av 26 h3 (ac (ae 0 (CK hK h)))
 ·exact av 20 h2 (ac (ae 0 (CK hK h)))
end
noncomputable section
variable(M:Nat→Prop)(w0:aE)(r:ab)(v1:ah)(v2:Int)  
variable{M w0 r v1 v2}{K:Kn}{n:Nat}
theorem Oa(hK:am K)(h:zz K n v1 v2=some r):aN Tryz.prog 31 [.agg (aX v1),iI v2] (fun v s=>v=.agg (List.set (aC ({ r with Kids:=[] }:ab)) 66 (.ref 8))∧look 8 s.r=some ⟨59,67,lm aB r.Kids⟩):=by
 refine bc (cat Tryz.f31 (pn 1)) Tryz.func31 Tryz.ntmps31 fun M w0=>(aZ ⟨[(0,.agg (aX v1)),(1,iI v2)],[],[],[]⟩ ?_);unfold zz at h;refine aw 6 7 3 (bF [1,2,4] [2,4] [] ?_);obtain⟨v3,h1,h⟩:=bind_some h;obtain⟨v4,h2,h⟩:=bind_some h;refine bP 1 (nu 5 [.agg (aX v1),iI v2,.agg (cW v3),.agg (List.set (aC ({ v4 with Kids:=[] }:ab)) 66 (.ref 8))]) [] [(8,⟨59,67,lm aB v4.Kids⟩)] [bR Tryz.prog 9 Tryz.f31 (pn 6) 4] (ay (vz 2) (ai (bU 0 1 7 (yN hK h1)) (ai (yJ 0 1 8 (VF hK h2) (mT (i:=66) (by kernel_rfl))) (ai (bS 0) bO)))) (aG 1 ?_);cases h;exact d9
end
noncomputable section
variable(M:Nat→Prop)(w0:aE)(r:Int×Int)(v1:ah)(v2:cD)  
variable{M w0 r v1 v2}{K:Kn}{n:Nat}
theorem N0(hK:am K)(h:CU K n v1 v2=some r):aN Tryz.prog 61 [.agg (aX v1),.agg (cW v2)] (fun v _=>v=.tup [iI r.1,iI r.2]):=by
 refine bc (cat Tryz.f61 (pn 1)) Tryz.func61 Tryz.ntmps61 fun M w0=>(aZ ⟨[(0,.agg (aX v1)),(1,.agg (cW v2))],[],[],[]⟩ ?_);unfold CU at h;refine aw 6 7 3 (aj 2 ?_);obtain⟨v3,h1,h⟩:=bind_some h;refine aD (Ek hK h1) (ac (aw 2 3 1 (aj 2 ?_)));obtain⟨v4,h2,h⟩:=bind_some h;refine aD (KW hK h2) (ac (aw 2 3 1 (bF [4,5,6] [6] [] ?_)));obtain⟨v5,h3,h⟩:=bind_some h;obtain⟨v6,h4,h⟩:=bind_some h;obtain⟨v7,h5,h⟩:=bind_some h;obtain⟨v8,h6,h⟩:=bind_some h;obtain⟨v9,h7,h⟩:=bind_some h;obtain⟨v10,h8,h⟩:=bind_some h;refine bP 2 (nu 16 [.agg (aI v4),.agg (aI v4),iI v3.1,iI v5,.agg (bi v6),iI v7,.agg (aI v4),.agg (aI v4),iI v3.2,iI v8,.agg (bi v9),iI v10]) [] [] [bR Tryz.prog 28 Tryz.f61 (pn 30) 12,bR Tryz.prog 28 Tryz.f61 (pn 30) 13] (ay (vz 3) (ai (bU 0 1 19 (yR hK h3)) (ai (bU 0 1 20 (vY hK h4)) (ai (bU 0 1 21 (qe hK h5)) (ay [.v 0 2,.v 0 2,.v 0 2] (ai (bU 0 2 25 (yR hK h6)) (ai (bU 0 2 26 (vY hK h7)) (ai (bU 0 1 27 (qe hK h8)) (ai (bS 0) (ai (bS 1) bO)))))))))) (aG 1 ?_)
 cases h;exact d8
end
noncomputable section
variable(M:Nat→Prop)(w0:aE)(r:Int×Int)(v1:ah)  
variable{M w0 r v1}{K:Kn}{n:Nat}
theorem XM(hK:am K)(h:DB K n v1=some r):aN Tryz.prog 32 [.agg (aX v1)] (fun v _=>v=.tup [iI r.1,iI r.2]):=by
 refine bc (cat Tryz.f32 (pn 1)) Tryz.func32 Tryz.ntmps32 fun M w0=>(aZ ⟨[(0,.agg (aX v1))],[],[],[]⟩ ?_);unfold DB at h;refine aw 6 7 3 (bF [1] [1] [] ?_);obtain⟨v2,h1,h⟩:=bind_some h;obtain⟨v3,h2,h⟩:=bind_some h;refine bP 2 (nu 4 [.agg (aX v1),.agg (cW v2),.tup [iI v3.1,iI v3.2],iI v3.1,iI v3.2]) [] [] [bR Tryz.prog 9 Tryz.f32 (pn 6) 5,bR Tryz.prog 9 Tryz.f32 (pn 6) 6] (ay [.v 0 1] (ai (bU 0 1 5 (yN hK h1)) (ai (bU 0 1 6 (N0 hK h2)) (ay (vz 2) (ai (bS 0) (ai (bS 1) bO)))))) (aG 1 ?_);cases h;exact d8
end
end Go.Proofs.YtnpmlepplfaijaaGreat

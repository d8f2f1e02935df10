/- The runs of the functions that RelayoutFresh reaches do what their plain forms say, part 0. Made by a program. -/
import Derived.Test.YtocgkfoifehcbaaGreatRfGk
namespace Go.Proofs.YtocgkfoifehcbaaGreat
open Go.RowKit
set_option maxRecDepth 20000
set_option linter.all false
set_option linter.unusedVariables false
set_option linter.unusedSimpArgs false
noncomputable section
variable[GS](M:Nat→Prop)(w0:aE)(r:Bool)(v1 v2:(List aa))(v3:Fv)(v5:Int)(m1:Nat)(L1:Int→Option Bool)
abbrev xW:Cx:=⟨Tryz.prog,32,M,w0⟩
abbrev zP:=bodyPost Tryz.prog Tryz.f63 (bA M w0 (fun v _=>v=.bool r))
abbrev Qc(ks:List aq)(s:AS):=VE (xW M w0) (zP M w0 r) ks .normal s
abbrev Hw(n:Nat):aq:=.c (cat Tryz.f63 (pn n))
abbrev zM:List aq:=[.b 0,Hw 15]
abbrev SJ:List aq:=kl (xW M w0) (zP M w0 r) zM (cat Tryz.f63 (pn 116)) m1::zM
def DZ:AS:=⟨[(1,.sl (lm aR v2)),(2,.fn v3.id v3.aP),(15,.sl (lm aR v1)),(16,iI (v1.length:Int)),(17,iI v5)],[],[],[]⟩
abbrev Jr:Prop:=∀{v5:Int},L1 v5=some r→LP (xW M w0) (zP M w0 r) zM (cat Tryz.f63 (pn 116)) m1 (DZ v1 v2 v3 v5)
variable{M w0 r v1 v2 v3 v5 m1 L1}{K:Kn}{n:Nat}
theorem L5(hK:ao K)(hL1:Jr M w0 r v1 v2 v3 m1 L1)(h:rc K n v1 v2 v3 L1 v5=some r):Qc M w0 r (Hw 116::SJ M w0 r m1) (DZ v1 v2 v3 v5):=by
 unfold rc at h;refine aC 6 7 3 ?_;obtain⟨h7,h⟩|⟨h7,h⟩:=ak h
 ·refine ah 18 h7 (c8 8 9 1 3 5 (aj 1 ?_));obtain⟨h8,h⟩:=aF h;refine az (bi aR aw h8 (d4) (dq)) (ac (aC 2 3 1 (aj 2 ?_)));obtain⟨h9,h⟩:=aF h;refine az (bi aR aw h9 (d4) (dq)) (ac (aC 2 3 1 (aj 3 ?_)));obtain⟨v6,h10,h⟩:=bind_some h;refine lf (hK.ly h10) (ac ?_);obtain⟨h11,h⟩|⟨h11,h⟩:=ak h
  ·refine ah 30 h11 (aL 9 ?_);cases h;exact bj
  ·exact ah 30 h11 (ae 4 (bw (hL1 h)))
 ·refine ah 18 h7 (aL 8 ?_);cases h;exact bj
theorem LS(hK:ao K)(m:Nat):Jr M w0 r v1 v2 v3 m (o5 K n v1 v2 v3 m):=by
 induction m with
 | zero=>intro v5 h;cases h
 | succ m ih=>intro v5 h;have h:rc K n v1 v2 v3 (o5 K n v1 v2 v3 m) v5=some r:=h;exact bB (L5 hK ih h)
theorem U4(hK:ao K)(h:qH K n v1 v2 v3=some r):aS Tryz.prog 63 [.sl (lm aR v1),.sl (lm aR v2),.fn v3.id v3.aP] (fun v _=>v=.bool r):=by
 refine bu (cat Tryz.f63 (pn 1)) Tryz.func63 Tryz.ntmps63 fun M w0=>(bc ⟨[(0,.sl (lm aR v1)),(1,.sl (lm aR v2)),(2,.fn v3.id v3.aP)],[],[],[]⟩ ?_);unfold qH at h;refine bO 12 13 7 4 (aj 1 (az (bv aR v1) (aM 3 1 (az (bv aR v2) (ac ?_)))));obtain⟨h1,h⟩|⟨h1,h⟩:=ak h
 ·refine ah 14 h1 (aL 5 ?_);cases h;exact bj
 ·exact ah 14 h1 (pr 4 5 3 4 (aj 1 (az (bv aR v1) (ac (ae 1 (ci (p:=pn 58) n (LS hK n h)))))))
end
noncomputable section
variable[GS](M:Nat→Prop)(w0:aE)(r:Bool)(v1 v2:aa)(v4:Bool)  
abbrev Sd(n:Nat):aq:=.c (cat Tryz.f27 (pn n))
abbrev Me:Cx:=⟨Tryz.prog,52,M,w0⟩
abbrev Ny:=bodyPost Tryz.prog Tryz.f27 (bA M w0 (fun v _=>v=.bool r))
abbrev LV(ks:List aq)(s:AS):=VE (Me M w0) (Ny M w0 r) ks .normal s
def NH:AS:=⟨[(4,.bool v4)],[],[],[]⟩
variable{M w0 r v1 v2 v4}{K:Kn}{n:Nat}
theorem l8(hK:ao K)(h:ij K n v4=some r):LV M w0 r [Sd 7] (NH v4):=by
 unfold ij at h;refine aL 1 ?_;cases h;exact bj
theorem um(hK:ao K)(h:j4 K n v1 v2=some r):aS Tryz.prog 27 [.agg (aw v1),.agg (aw v2)] (fun v _=>v=.bool r):=by
 refine bu (cat Tryz.f27 (pn 1)) Tryz.func27 Tryz.ntmps27 fun M w0=>(bc ⟨[(0,.agg (aw v1)),(1,.agg (aw v2))],[],[],[]⟩ ?_);unfold j4 at h;refine aC 6 7 3 (aj 6 ?_);obtain⟨h1,h⟩|⟨h1,h⟩:=ak h
 ·refine aB 10 h1 (aM 13 7 ?_);obtain⟨h2,h⟩|⟨h2,h⟩:=ak h
  ·refine aB 17 h2 (aM 20 7 ?_);obtain⟨h3,h⟩|⟨h3,h⟩:=ak h
   ·refine aB 24 h3 (aM 27 7 ?_);obtain⟨h4,h⟩|⟨h4,h⟩:=ak h
    ·refine aB 31 h4 (aM 34 7 ?_);obtain⟨h5,h⟩|⟨h5,h⟩:=ak h
     ·refine aB 38 h5 (aM 41 7 ?_);obtain⟨h6,h⟩|⟨h6,h⟩:=ak h
      ·refine aB 45 h6 (aM 45 4 ?_);obtain⟨v3,h7,h⟩:=bind_some h;exact aU (U4 hK h7) (ac (ae 0 (l8 hK h)))
      ·exact aB 45 h6 (ac (ae 0 (l8 hK h)))
     ·exact aB 38 h5 (ac (ae 0 (l8 hK h)))
    ·exact aB 31 h4 (ac (ae 0 (l8 hK h)))
   ·exact aB 24 h3 (ac (ae 0 (l8 hK h)))
  ·exact aB 17 h2 (ac (ae 0 (l8 hK h)))
 ·exact aB 10 h1 (ac (ae 0 (l8 hK h)))
end
noncomputable section
variable[GS](M:Nat→Prop)(w0:aE)(r v1:List ai)  
variable{M w0 r v1}{K:Kn}{n:Nat}
theorem Ae(hK:ao K)(h:lK K n v1=some r):aS Tryz.prog 78 [.sl (lm aY v1)] (fun v s=>v=.ref 5∧look 5 s.r=some ⟨44,67,lm aY r⟩):=by
 refine bu (cat Tryz.f78 (pn 1)) Tryz.func78 Tryz.ntmps78 fun M w0=>(bc ⟨[(0,.sl (lm aY v1))],[],[],[]⟩ ?_);unfold lK at h;refine bO 12 13 7 4 (aj 1 ?_);refine GW (aQ Tryz.f78 (pn 12) 1) (.eql) 42 42 (.tmp 3) (.const (.slice none 0 0)) 4 (lm aY v1) (r:=aK Tryz.f78 (pn 12) 2) (e:=44) (by kernel_rfl) (by kernel_rfl) (by kernel_rfl) (by kernel_rfl) (by kernel_rfl) (by kernel_rfl) (by kernel_rfl) (by kernel_rfl) (fun hq=>?_) ?_
 ·have h:=EJ (by simpa using hq) h;refine ac (aL 5 (fZ 5 2 44 67 ?_));cases h;exact eV
 ·have h:=HN h;refine ac (fb 2 3 3 (aj 0 (wI 42 5 (e:=44) (sz:=67) (aM 2 1 ?_))));obtain⟨h2,h⟩:=aF h;refine az (cv 7 5 44 67 aY (rfl) (lg) h2) (ac (aL 1 ?_));cases h;exact eV
end
noncomputable section
variable[GS](M:Nat→Prop)(w0:aE)(r v1:ai)(v2:List ai)(v4:Int)(v5:List ai)(m1:Nat)(L1:Int→(List ai)→Option ai)
abbrev Cp:Cx:=⟨Tryz.prog,25,M,w0⟩
abbrev yn:=bodyPost Tryz.prog Tryz.f40 (bA M w0 (fun v s=>v=.agg (List.set (aO ({ r with Kids:=[] }:ai)) 66 (.ref 1007))∧look 1007 s.r=some ⟨44,67,lm aY r.Kids⟩))
abbrev UH(ks:List aq)(s:AS):=VE (Cp M w0) (yn M w0 r) ks .normal s
abbrev Fd(n:Nat):aq:=.c (cat Tryz.f40 (pn n))
abbrev Cs:List aq:=[.b 0,Fd 15]
abbrev MH:List aq:=kl (Cp M w0) (yn M w0 r) Cs (cat Tryz.f40 (pn 116)) m1::Cs
def Dn:AS:=⟨[(1,.ptr 1 0),(2,.ptr 2 0),(10,.ref 1007),(11,iI (v2.length:Int)),(12,iI v4)],[(1,List.set (aO ({ v1 with Kids:=[] }:ai)) 66 (.ref 1007)),(2,List.set (aO bG) 66 (.nils))],[(1007,⟨44,67,lm aY v5⟩)],[1,2,1007]⟩
abbrev DG:Prop:=∀{v4:Int} {v5:(List ai)},L1 v4 v5=some r→LP (Cp M w0) (yn M w0 r) Cs (cat Tryz.f40 (pn 116)) m1 (Dn v1 v2 v4 v5)
variable{M w0 r v1 v2 v4 v5 m1 L1}{K:Kn}{n:Nat}
theorem Sn(hK:ao K)(hL1:DG M w0 r v1 v2 m1 L1)(h:rd K n v1 v2 L1 v4 v5=some r):UH M w0 r (Fd 116::MH M w0 r m1) (Dn v1 v2 v4 v5):=by
 unfold rd at h;refine aC 6 7 3 ?_;obtain⟨h6,h⟩|⟨h6,h⟩:=ak h
 ·refine ah 13 h6 (c8 8 9 1 3 5 (aj 1 ?_));obtain⟨h7,h⟩:=aF h;refine az (cT 1007 67 aY h7) (az (cO 44 0 aY aO (cE h7).2 (er)) (ac (bI [1,2,3,4,10,11,12] [1,2,4] [1007] ?_)));obtain⟨v6,h8,h⟩:=bind_some h;obtain⟨h9,h⟩:=aF h;exact bP 1 (nu 17 [.ptr 1 66,.ref 1007,iI v4,.agg (aO (gD v5 v4)),.agg (aO v6),.eptr 1007 67 (v4.toNat) 0]) [] [] [pO 1007 ⟨44,67,lm aY (List.set v5 v4.toNat v6)⟩] (ay (vz 4) (ag (cD 0 1 21 (hK.rO h8)) (bC (ef 1007 67 aY (L:=v5) h9) (ag (eu (m:=0) (fz 1007 44 67 0 aY aO v6 (cE h9).2 (er))) bQ)))) (ae 2 (bw (hL1 h)))
 ·refine ah 13 h6 (aL 8 ?_);cases h;exact eV
theorem TO(hK:ao K)(m:Nat):DG M w0 r v1 v2 m (oy K n v1 v2 m):=by
 induction m with
 | zero=>intro v4 v5 h;cases h
 | succ m ih=>intro v4 v5 h;have h:rd K n v1 v2 (oy K n v1 v2 m) v4 v5=some r:=h;exact bB (Sn hK ih h)
theorem vO(hK:ao K)(h:kD K n v1=some r):aS Tryz.prog 40 [.agg (aO v1)] (fun v s=>v=.agg (List.set (aO ({ r with Kids:=[] }:ai)) 66 (.ref 1007))∧look 1007 s.r=some ⟨44,67,lm aY r.Kids⟩):=by
 refine bu (cat Tryz.f40 (pn 1)) Tryz.func40 Tryz.ntmps40 fun M w0=>(bc ⟨[(0,.agg (aO v1))],[],[],[]⟩ ?_);unfold kD at h;refine aC 6 7 3 (aj 2 ?_);obtain⟨v2,h1,h⟩:=bind_some h;exact fJ 1007 (Ae hK h1) (fL 5) (ac (bO 4 5 3 2 (aj 2 (az (bv aY v2) (ac (ae 1 (ci (p:=pn 58) n (TO hK n h))))))))
end
noncomputable section
variable[GS](M:Nat→Prop)(w0:aE)(r:ai×Bool×Int×Int×(List aG))(v1:aa)(v2 v3 v4:Int)(v5:List aG)(v9:Int)(v11:Bool)(m1:Nat)(L1:Int→Option (ai×Bool×Int×Int×(List aG)))
abbrev AG:Cx:=⟨Tryz.prog,34,M,w0⟩
abbrev BU:=bodyPost Tryz.prog Tryz.f19 (bA M w0 (fun v s=>v=.tup [.agg (aO r.1),.bool r.2.1]∧cn s.o [(440001,List.set (bL (⟨[],r.2.2.1,r.2.2.2.1⟩:bH)) 0 (.ref 440009))]∧look 440009 s.r=some ⟨64,127,lm bd r.2.2.2.2⟩))
abbrev D3(ks:List aq)(s:AS):=VE (AG M w0) (BU M w0 r) ks .normal s
abbrev lW(n:Nat):aq:=.c (cat Tryz.f19 (pn n))
abbrev B3:List aq:=[.b 0,lW 7]
abbrev JA:List aq:=kl (AG M w0) (BU M w0 r) B3 (cat Tryz.f19 (pn 52)) m1::B3
def U3:AS:=⟨[(2,iI v2),(4,.ptr 4 0),(6,.ptr 6 0),(9,.ptr 9 0),(13,.ref 440009),(14,iI (v5.length:Int)),(15,iI v9),(28,.bool v11)],[(4,aw v1),(6,List.set (aO bG) 66 (.nils)),(9,bd (gD v5 v9)),(440001,List.set (bL (⟨[],v3,v4⟩:bH)) 0 (.ref 440009))],[(440009,⟨64,127,lm bd v5⟩)],[4,6,9,440001,440009,1440001,440001]⟩
def FR:AS:=⟨[(2,iI v2),(4,.ptr 4 0),(6,.ptr 6 0),(13,.ref 440009),(14,iI (v5.length:Int)),(15,iI v9)],[(4,aw v1),(6,List.set (aO bG) 66 (.nils)),(440001,List.set (bL (⟨[],v3,v4⟩:bH)) 0 (.ref 440009))],[(440009,⟨64,127,lm bd v5⟩)],[4,6,440001,440009,1440001,440001]⟩
abbrev BO:Prop:=∀{v9:Int},L1 v9=some r→LP (AG M w0) (BU M w0 r) B3 (cat Tryz.f19 (pn 52)) m1 (FR v1 v2 v3 v4 v5 v9)
variable{M w0 r v1 v2 v3 v4 v5 v9 v11 m1 L1}{K:Kn}{n:Nat}[SG w0]
theorem GR(hK:ao K)(hL1:BO M w0 r v1 v2 v3 v4 v5 m1 L1)(h:qw K n v1 v2 v3 v4 v5 v9 L1 v11=some r):D3 M w0 r (lW 3379 :: .b 1::lW 423::JA M w0 r m1) (U3 v1 v2 v3 v4 v5 v9 v11):=by
 unfold qw at h;obtain⟨h11,h⟩|⟨h11,h⟩:=ak h
 ·refine ah 28 h11 (aC 4 5 2 (aj 2 ?_));obtain⟨v12,h12,h⟩:=bind_some h;refine fJ 1031 (vO hK h12) (uF (i:=66) (by kernel_rfl)) (ac (aL 6 (gf 1031 ?_)));cases h;exact mG
 ·exact ah 28 h11 (ae 4 (bw (hL1 h)))
theorem PA(hK:ao K)(hL1:BO M w0 r v1 v2 v3 v4 v5 m1 L1)(h:qb K n v1 v2 v3 v4 v5 L1 v9=some r):D3 M w0 r (lW 52::JA M w0 r m1) (FR v1 v2 v3 v4 v5 v9):=by
 unfold qb at h;refine aC 6 7 3 ?_;obtain⟨h7,h⟩|⟨h7,h⟩:=ak h
 ·refine ah 16 h7 (c8 8 9 1 3 5 (aj 0 ?_));obtain⟨h8,h⟩:=aF h;refine az (cT 440009 127 bd h8) (az (cO 64 0 bd bd (cE h8).2 ((fun _=>rfl))) (ac (aC 2 3 1 (aj 5 ?_))));obtain⟨h9,h⟩|⟨h9,h⟩:=ak h
  ·refine aB 23 h9 (aM 8 3 ?_);obtain⟨v10,h10,h⟩:=bind_some h;exact aU (um hK h10) (ac (ae 0 (GR hK hL1 h)))
  ·exact aB 23 h9 (ac (ae 0 (GR hK hL1 h)))
 ·refine ah 16 h7 (aL 8 (jc 6 ?_));cases h;exact mG
theorem Kt(hK:ao K)(m:Nat):BO M w0 r v1 v2 v3 v4 v5 m (pC K n v1 v2 v3 v4 v5 m):=by
 induction m with
 | zero=>intro v9 h;cases h
 | succ m ih=>intro v9 h;have h:qb K n v1 v2 v3 v4 v5 (pC K n v1 v2 v3 v4 v5 m) v9=some r:=h;exact bB (PA hK ih h)
theorem QU(hK:ao K)(h:su K n v1 v2 v3 v4 v5=some r):eG Tryz.prog 19 [.ptr 440001 0,.agg (aw v1),iI v2] [(440001,List.set (bL (⟨[],v3,v4⟩:bH)) 0 (.ref 440009))] ⟨64,127,lm bd v5⟩ (fun v s=>v=.tup [.agg (aO r.1),.bool r.2.1]∧cn s.o [(440001,List.set (bL (⟨[],r.2.2.1,r.2.2.2.1⟩:bH)) 0 (.ref 440009))]∧look 440009 s.r=some ⟨64,127,lm bd r.2.2.2.2⟩):=by
 refine jC (c:=cat Tryz.f19 []) Tryz.func19 (by kernel_rfl) _ Tryz.ntmps19 (of_decide_eq_true (by kernel_rfl)) fun M w0=>(bc ⟨[(0,.ptr 440001 0),(1,.agg (aw v1)),(2,iI v2)],[(440001,List.set (bL (⟨[],v3,v4⟩:bH)) 0 (.ref 440009))],[(440009,⟨64,127,lm bd v5⟩)],[440009,440001,1440001]⟩ ?_);unfold su at h;exact bK (ks':=[lW 12,lW 13,lW 7]) 4 (aj 4 (az (bv bd v5) (ac (ae 1 (ci (p:=pn 26) n (Kt hK n h))))))
end
noncomputable section
variable[GS](M:Nat→Prop)(w0:aE)(r:ai×Bool×Int×Int×(List aG))(v1:aa)(v2 v3 v4:Int)(v5:List aG)(v6:ai×Bool×Int×Int×(List aG))(v7:Int)  
abbrev xK(n:Nat):aq:=.c (cat Tryz.f36 (pn n))
abbrev S8:Cx:=⟨Tryz.prog,27,M,w0⟩
abbrev QQ:=bodyPost Tryz.prog Tryz.f36 (bA M w0 (fun v s=>v=.tup [.agg (aO r.1),.bool r.2.1]∧cn s.o [(440001,List.set (bL (⟨[],r.2.2.1,r.2.2.2.1⟩:bH)) 0 (.ref 440009))]∧look 440009 s.r=some ⟨64,127,lm bd r.2.2.2.2⟩))
abbrev Uo(ks:List aq)(s:AS):=VE (S8 M w0) (QQ M w0 r) ks .normal s
def SQ:AS:=⟨[(6,.ptr 6 0),(8,.ptr 8 0),(9,.bool v6.2.1)],[(6,List.set (aO bG) 66 (.nils)),(8,aO v6.1),(440001,List.set (bL (⟨[],v6.2.2.1,v7⟩:bH)) 0 (.ref 440009))],[(440009,⟨64,127,lm bd v6.2.2.2.2⟩)],[6,8,440001,440009,1440001,440001]⟩
variable{M w0 r v1 v2 v3 v4 v5 v6 v7}{K:Kn}{n:Nat}[SG w0]
theorem C4(hK:ao K)(h:vj K n v6 v7=some r):Uo M w0 r [xK 15] (SQ v6 v7):=by
 unfold vj at h;refine aL 3 ?_;cases h;exact mG
theorem Sa(hK:ao K)(h:rC K n v1 v2 v3 v4 v5=some r):eG Tryz.prog 36 [.ptr 440001 0,.agg (aw v1),iI v2] [(440001,List.set (bL (⟨[],v3,v4⟩:bH)) 0 (.ref 440009))] ⟨64,127,lm bd v5⟩ (fun v s=>v=.tup [.agg (aO r.1),.bool r.2.1]∧cn s.o [(440001,List.set (bL (⟨[],r.2.2.1,r.2.2.2.1⟩:bH)) 0 (.ref 440009))]∧look 440009 s.r=some ⟨64,127,lm bd r.2.2.2.2⟩):=by
 refine jC (c:=cat Tryz.f36 []) Tryz.func36 (by kernel_rfl) _ Tryz.ntmps36 (of_decide_eq_true (by kernel_rfl)) fun M w0=>(bc ⟨[(0,.ptr 440001 0),(1,.agg (aw v1)),(2,iI v2)],[(440001,List.set (bL (⟨[],v3,v4⟩:bH)) 0 (.ref 440009))],[(440009,⟨64,127,lm bd v5⟩)],[440009,440001,1440001]⟩ ?_);unfold rC at h;refine bK (ks':=[xK 6,xK 7]) 3 (aj 3 ?_);obtain⟨v6,h1,h⟩:=bind_some h;refine sI (QU hK h1) (ac (aC 5 3 3 ?_));obtain⟨h2,h⟩|⟨h2,h⟩:=ak h
 ·exact ah 17 h2 (ae 2 (C4 hK h))
 ·exact ah 17 h2 (ae 2 (C4 hK h))
end
noncomputable section
variable[GS](M:Nat→Prop)(w0:aE)(r:Int×Int×(List aG))(v1:aa)(v2:Int)(v3:ai)(v4 v5:Int)(v6:List aG)  
abbrev UD(n:Nat):aq:=.c (cat Tryz.f37 (pn n))
variable{M w0 r v1 v2 v3 v4 v5 v6}{K:Kn}{n:Nat}[SG w0]
theorem PL(hK:ao K)(h:qP K n v1 v2 v3 v4 v5 v6=some r):eG Tryz.prog 37 [.ptr 440001 0,.agg (aw v1),iI v2,.agg (aO v3)] [(440001,List.set (bL (⟨[],v4,v5⟩:bH)) 0 (.ref 440009))] ⟨64,127,lm bd v6⟩ (fun v s=>v=.tup []∧cn s.o [(440001,List.set (bL (⟨[],r.1,r.2.1⟩:bH)) 0 (.ref 440009))]∧look 440009 s.r=some ⟨64,127,lm bd r.2.2⟩):=by
 refine jC (c:=cat Tryz.f37 []) Tryz.func37 (by kernel_rfl) _ Tryz.ntmps37 (of_decide_eq_true (by kernel_rfl)) fun M w0=>(bc ⟨[(0,.ptr 440001 0),(1,.agg (aw v1)),(2,iI v2),(3,.agg (aO v3))],[(440001,List.set (bL (⟨[],v4,v5⟩:bH)) 0 (.ref 440009))],[(440009,⟨64,127,lm bd v6⟩)],[440009,440001,1440001]⟩ ?_);unfold qP at h;refine bK (ks':=[UD 7]) 4 (bI [0,2,5,7] [5,7,440001] [440009] ?_);obtain⟨v8,h2,h⟩:=bind_some h;obtain⟨h3,h⟩:=aF h;refine bP 2 (nu 15 [.ptr 440001 0,.ptr 440001 0,.ptr 440001 0,.ptr 440001 0,.ref 440009,.agg (aw v1),iI v2,.agg (aO v3),.agg (aO v8),.agg (bd (⟨v1,v2,v8⟩:aG)),.sl (lm bd [(⟨v1,v2,v8⟩:aG)])]++nu 27 [.ptr 440001 0,.ptr 440001 0]) [] [] [fi 26 440009 ⟨64,127,lm bd (v6++[(⟨v1,v2,v8⟩:aG)])⟩,bZ Tryz.prog 29 Tryz.f37 (pn 7) 14] (ay [.v 0 2,.v 0 2,.v 0 2,.v 0 2,.v 0 1,.v 0 2,.v 0 2,.v 0 2] (ag (cD 0 1 23 (aS.bT (vO hK h2) (V':=.agg (aO v8)) (by kernel_rfl))) (ay [.v 0 2,.v 0 1] (ag (eu (m:=0) (cv 26 440009 64 127 bd (rfl) (Bc) h3)) (ay [.v 1 2,.v 1 1] (ag (bX 1) bQ)))))) (B5 ?_)
 cases h;exact mG
end
noncomputable section
variable[GS](M:Nat→Prop)(w0:aE)(r v1:Int)  
variable{M w0 r v1}{K:Kn}{n:Nat}
theorem gx(hK:ao K)(h:eM K n v1=some r):aS Tryz.prog 124 [iI v1] (fun v _=>v=iI r):=by
 refine bu (cat Tryz.f124 (pn 1)) Tryz.func124 Tryz.ntmps124 fun M w0=>(bc ⟨[(0,iI v1)],[],[],[]⟩ ?_);unfold eM at h;refine aL 5 ?_;cases h;exact bj
end
noncomputable section
variable[GS](M:Nat→Prop)(w0:aE)(r:Int×Bool)(v1:dg)(v2 v4:Int)  
abbrev U6(n:Nat):aq:=.c (cat Tryz.f86 (pn n))
abbrev Vj:Cx:=⟨Tryz.prog,25,M,w0⟩
abbrev PB:=bodyPost Tryz.prog Tryz.f86 (bA M w0 (fun v _=>v=.tup [iI r.1,.bool r.2]))
abbrev RY(ks:List aq)(s:AS):=VE (Vj M w0) (PB M w0 r) ks .normal s
def Un:AS:=⟨[(6,iI v4)],[],[],[]⟩
variable{M w0 r v1 v2 v4}{K:Kn}{n:Nat}
theorem EH(hK:ao K)(h:pf K n v4=some r):RY M w0 r [.b 0,U6 15] (Un v4):=by
 unfold pf at h;refine aL 4 ?_;cases h;exact gF
theorem eF(hK:ao K)(h:dz K n v1 v2=some r):aS Tryz.prog 86 [.agg (nZ v1),iI v2] (fun v _=>v=.tup [iI r.1,.bool r.2]):=by
 refine bu (cat Tryz.f86 (pn 1)) Tryz.func86 Tryz.ntmps86 fun M w0=>(bc ⟨[(0,.agg (nZ v1)),(1,iI v2)],[],[],[]⟩ ?_);unfold dz at h;refine gc 117 0 15 10 ?_;obtain⟨h1,h⟩|⟨h1,h⟩:=ak h
 ·exact ah 11 h1 (ae 2 (EH hK h))
 ·refine ah 11 h1 (bh 7 3 ?_);obtain⟨h2,h⟩|⟨h2,h⟩:=ak h
  ·refine ah 13 h2 (bh 2 1 (aj 1 ?_));obtain⟨v3,h3,h⟩:=bind_some h;exact aU (gx hK h3) (ac (ae 0 (EH hK h)))
  ·refine ah 13 h2 (aL 6 ?_);cases h;exact gF
end
noncomputable section
variable[GS](M:Nat→Prop)(w0:aE)(r:bN)(v1:aJ)(v2 v3:Int)  
abbrev lL(n:Nat):aq:=.c (cat Tryz.f88 (pn n))
abbrev Sg:Cx:=⟨Tryz.prog,52,M,w0⟩
abbrev QF:=bodyPost Tryz.prog Tryz.f88 (bA M w0 (fun v _=>v=.agg (cb r)))
abbrev rG(m:Nat):List aq:=kl (Sg M w0) (QF M w0 r) [.b 0,lL 15] (cat Tryz.f88 (pn 116)) m::[.b 0,lL 15]
variable{M w0 r v1 v2 v3}{K:Kn}{n:Nat}
theorem tx(hK:ao K)(h:kh K n v1 v2 v3=some r):aS Tryz.prog 88 [.agg (aV v1),iI v2,iI v3] (fun v _=>v=.agg (cb r)):=by
 refine bu (cat Tryz.f88 (pn 1)) Tryz.func88 Tryz.ntmps88 fun M w0=>(bc ⟨[(0,.agg (aV v1)),(1,iI v2),(2,iI v3)],[],[],[]⟩ ?_);unfold kh at h;refine bR (ks':=[lL 58,.b 0,lL 15]) 8 ⟨[(1,iI v2),(3,.ptr 3 0),(6,.ptr 6 0),(7,.ptr 7 0),(13,iI 0)],[(3,aV v1),(6,cb gi),(7,cb ({ gi with Content:=v3 }:bN))],[],[3,6,7]⟩ (rt 40 (c:=cat Tryz.f88 [1,1,0,1,0,0]) (by kernel_rfl) (bB (bK (ks':=lL 7474::lL 7475 :: .b 1::lL 935::rG M w0 r 39) 10 (aj 6 ?_))));obtain⟨v4,h1,h⟩:=bind_some h;refine aU (eF hK h1) (ac (aC 2 3 1 (aj 5 ?_)));obtain⟨v5,h2,h⟩:=bind_some h;refine aU (gx hK h2) (ac (aC 2 3 1 (aj 5 ?_)));obtain⟨v6,h3,h⟩:=bind_some h;refine aU (eF hK h3) (ac (bR (ks':=rG M w0 r 39) 3 ⟨[(1,iI v2),(3,.ptr 3 0),(6,.ptr 6 0),(7,.ptr 7 0),(13,iI 1)],[(3,aV v1),(6,cb gi),(7,cb (⟨⟨v4.1,0,0,0⟩,⟨v5,0,0,0⟩,⟨(max v6.1 0),0,0,0⟩,v3⟩:bN))],[],[3,6,7]⟩ (bw (bB (dM 114 115 1 15 10 (aj 6 ?_))))));obtain⟨v7,h4,h⟩:=bind_some h
 refine aU (eF hK h4) (ac (aC 2 3 1 (aj 5 ?_)));obtain⟨v8,h5,h⟩:=bind_some h;refine aU (gx hK h5) (ac (aC 2 3 1 (aj 5 ?_)));obtain⟨v9,h6,h⟩:=bind_some h;refine aU (eF hK h6) (ac (bR (ks':=rG M w0 r 38) 3 ⟨[(1,iI v2),(3,.ptr 3 0),(6,.ptr 6 0),(7,.ptr 7 0),(13,iI 2)],[(3,aV v1),(6,cb gi),(7,cb (⟨⟨v4.1,v7.1,0,0⟩,⟨v5,v8,0,0⟩,⟨(max v6.1 0),(max v9.1 0),0,0⟩,v3⟩:bN))],[],[3,6,7]⟩ (bw (bB (dM 114 115 1 15 10 (aj 6 ?_))))));obtain⟨v10,h7,h⟩:=bind_some h;refine aU (eF hK h7) (ac (aC 2 3 1 (aj 5 ?_)));obtain⟨v11,h8,h⟩:=bind_some h;refine aU (gx hK h8) (ac (aC 2 3 1 (aj 5 ?_)));obtain⟨v12,h9,h⟩:=bind_some h;refine aU (eF hK h9) (ac (bR (ks':=rG M w0 r 37) 3 ⟨[(1,iI v2),(3,.ptr 3 0),(6,.ptr 6 0),(7,.ptr 7 0),(13,iI 3)],[(3,aV v1),(6,cb gi),(7,cb (⟨⟨v4.1,v7.1,v10.1,0⟩,⟨v5,v8,v11,0⟩,⟨(max v6.1 0),(max v9.1 0),(max v12.1 0),0⟩,v3⟩:bN))],[],[3,6,7]⟩ (bw (bB (dM 114 115 1 15 10 (aj 6 ?_))))));obtain⟨v13,h10,h⟩:=bind_some h
 refine aU (eF hK h10) (ac (aC 2 3 1 (aj 5 ?_)));obtain⟨v14,h11,h⟩:=bind_some h;refine aU (gx hK h11) (ac (aC 2 3 1 (aj 5 ?_)));obtain⟨v15,h12,h⟩:=bind_some h;refine aU (eF hK h12) (ac (bR (ks':=rG M w0 r 36) 3 ⟨[(1,iI v2),(3,.ptr 3 0),(6,.ptr 6 0),(7,.ptr 7 0),(13,iI 4)],[(3,aV v1),(6,cb gi),(7,cb (⟨⟨v4.1,v7.1,v10.1,v13.1⟩,⟨v5,v8,v11,v14⟩,⟨(max v6.1 0),(max v9.1 0),(max v12.1 0),(max v15.1 0)⟩,v3⟩:bN))],[],[3,6,7]⟩ (bw (bB (aL 11 ?_)))));cases h;exact bj
end
noncomputable section
variable[GS](M:Nat→Prop)(w0:aE)(r:Int)(v1:bN)  
variable{M w0 r v1}{K:Kn}{n:Nat}
theorem tA(hK:ao K)(h:kn K n v1=some r):aS Tryz.prog 89 [.agg (cb v1)] (fun v _=>v=iI r):=by
 refine bu (cat Tryz.f89 (pn 1)) Tryz.func89 Tryz.ntmps89 fun M w0=>(bc ⟨[(0,.agg (cb v1))],[],[],[]⟩ ?_);unfold kn at h;refine aL 5 ?_;cases h;exact bj
end
noncomputable section
variable[GS](M:Nat→Prop)(w0:aE)(r:Int)(v1:aJ)(v2 v3 v5 v7:Int)  
abbrev Dg(n:Nat):aq:=.c (cat Tryz.f90 (pn n))
abbrev Up:Cx:=⟨Tryz.prog,37,M,w0⟩
abbrev Uc:=bodyPost Tryz.prog Tryz.f90 (bA M w0 (fun v _=>v=iI r))
abbrev JF(ks:List aq)(s:AS):=VE (Up M w0) (Uc M w0 r) ks .normal s
def Vf:AS:=⟨[(2,iI v7)],[],[],[]⟩
def Rc:AS:=⟨[(1,iI v2),(2,iI v5),(3,.ptr 3 0)],[(3,aV v1)],[],[3]⟩
variable{M w0 r v1 v2 v3 v5 v7}{K:Kn}{n:Nat}
theorem Fo(hK:ao K)(h:se K n v7=some r):JF M w0 r [Dg 31] (Vf v7):=by
 unfold se at h;refine aL 3 ?_;cases h;exact bj
theorem GD(hK:ao K)(h:ta K n v1 v2 v5=some r):JF M w0 r [Dg 15] (Rc v1 v2 v5):=by
 unfold ta at h;refine bO 4 5 3 2 (aj 3 ?_);obtain⟨v6,h3,h⟩:=bind_some h;refine aU (eF hK h3) (ac (bh 3 2 ?_));obtain⟨h4,h⟩|⟨h4,h⟩:=ak h
 ·exact ah 32 h4 (ae 2 (Fo hK h))
 ·exact ah 32 h4 (ae 2 (Fo hK h))
theorem wy(hK:ao K)(h:mP K n v1 v2 v3=some r):aS Tryz.prog 90 [.agg (aV v1),iI v2,iI v3] (fun v _=>v=iI r):=by
 refine bu (cat Tryz.f90 (pn 1)) Tryz.func90 Tryz.ntmps90 fun M w0=>(bc ⟨[(0,.agg (aV v1)),(1,iI v2),(2,iI v3)],[],[],[]⟩ ?_);unfold mP at h;refine bO 28 29 15 6 (aj 3 ?_);obtain⟨v4,h1,h⟩:=bind_some h;refine aU (eF hK h1) (ac (bh 3 2 ?_));obtain⟨h2,h⟩|⟨h2,h⟩:=ak h
 ·exact ah 20 h2 (ae 2 (GD hK h))
 ·exact ah 20 h2 (ae 2 (GD hK h))
end
noncomputable section
variable[GS](M:Nat→Prop)(w0:aE)(r:bN)(v1:aJ)(v2 v3:Int)(v4:bN)(v7 v8 v9:Int)(v10 v11:(Int×Bool))(v12:Bool)(v13:V4 Int)  
abbrev vN(n:Nat):aq:=.c (cat Tryz.f75 (pn n))
abbrev Lx:Cx:=⟨Tryz.prog,89,M,w0⟩
abbrev TW:=bodyPost Tryz.prog Tryz.f75 (bA M w0 (fun v _=>v=.agg (cb r)))
abbrev xZ(ks:List aq)(s:AS):=VE (Lx M w0) (TW M w0 r) ks .normal s
def R5:AS:=⟨[(4,.ptr 4 0),(5,.ptr 5 0)],[(4,cb gi),(5,cb ({ v4 with Margin:=v13,Content:=v8 }:bN))],[],[4,5]⟩
def R9:AS:=⟨[(4,.ptr 4 0),(5,.ptr 5 0),(8,iI (ab (v3-v9))),(10,.bool v10.2),(12,.bool v11.2),(59,.bool v12)],[(4,cb gi),(5,cb ({ v4 with Content:=v8 }:bN))],[],[4,5]⟩
def Tg:AS:=⟨[(1,iI v3),(2,.ptr 2 0),(4,.ptr 4 0),(5,.ptr 5 0),(6,iI v7)],[(2,aV v1),(4,cb gi),(5,cb v4)],[],[2,4,5]⟩
variable{M w0 r v1 v2 v3 v4 v7 v8 v9 v10 v11 v12 v13}{K:Kn}{n:Nat}
theorem wX(hK:ao K)(h:px K n v4 v8 v13=some r):xZ M w0 r [.b 0,vN 4095] (R5 v4 v8 v13):=by
 unfold px at h;refine aL 4 ?_;cases h;exact bj
theorem Jh(hK:ao K)(h:vJ K n v3 v4 v8 v9 v10 v11 v12=some r):xZ M w0 r [vN 16377,.b 0,vN 4095] (R9 v3 v4 v8 v9 v10 v11 v12):=by
 unfold vJ at h;obtain⟨h12,h⟩|⟨h12,h⟩:=ak h
 ·exact ah 59 h12 (ae 4 (wX hK h))
 ·refine ah 59 h12 (bh 7 3 ?_);obtain⟨h13,h⟩|⟨h13,h⟩:=ak h
  ·exact ah 76 h13 (ae 2 (wX hK h))
  ·refine ah 76 h13 (bh 7 3 ?_);obtain⟨h14,h⟩|⟨h14,h⟩:=ak h
   ·exact ah 82 h14 (ae 2 (wX hK h))
   ·exact ah 82 h14 (ae 2 (wX hK h))
theorem HD(hK:ao K)(h:rq K n v1 v3 v4 v7=some r):xZ M w0 r [vN 63] (Tg v1 v3 v4 v7):=by
 unfold rq at h;refine aC 2 3 1 (aj 3 ?_);obtain⟨v8,h6,h⟩:=bind_some h;refine aU (wy hK h6) (ac (aC 2 3 1 (aj 2 ?_)));obtain⟨v9,h7,h⟩:=bind_some h;refine aU (tA hK h7) (ac (aC 5 3 3 ?_));obtain⟨h8,h⟩|⟨h8,h⟩:=ak h
 ·refine ah 41 h8 (aL 5 ?_);cases h;exact bj
 ·refine ah 41 h8 (fb 2 3 3 (aj 4 ?_));obtain⟨v10,h9,h⟩:=bind_some h;refine aU (eF hK h9) (ac (aC 2 3 1 (aj 4 ?_)));obtain⟨v11,h10,h⟩:=bind_some h;refine aU (eF hK h10) (ac (dM 8 9 0 3 3 (aj 3 ?_)));obtain⟨h11,h⟩|⟨h11,h⟩:=ak h
  ·exact aB 62 h11 (ac (ae 0 (Jh hK h)))
  ·exact aB 62 h11 (ac (ae 0 (Jh hK h)))
theorem Jd(hK:ao K)(h:pe K n v1 v2=some r):aS Tryz.prog 75 [.agg (aV v1),iI v2] (fun v _=>v=.agg (cb r)):=by
 refine bu (cat Tryz.f75 (pn 1)) Tryz.func75 Tryz.ntmps75 fun M w0=>(bc ⟨[(0,.agg (aV v1)),(1,iI v2)],[],[],[]⟩ ?_);unfold pe at h;refine aC 6 7 3 (aj 1 ?_);obtain⟨v3,h1,h⟩:=bind_some h;refine aU (gx hK h1) (ac (aC 2 3 1 (aj 2 ?_)));obtain⟨v4,h2,h⟩:=bind_some h;refine aU (tx hK h2) (ac (aC 2 3 1 (aj 3 ?_)));obtain⟨v5,h3,h⟩:=bind_some h;refine aU (eF hK h3) (ac (aC 5 3 3 ?_));obtain⟨h4,h⟩|⟨h4,h⟩:=ak h
 ·refine ah 26 h4 (bh 2 1 (aj 2 ?_));obtain⟨v6,h5,h⟩:=bind_some h;exact aU (tA hK h5) (ac (ae 0 (HD hK h)))
 ·exact ah 26 h4 (ae 2 (HD hK h))
end
noncomputable section
variable[GS](M:Nat→Prop)(w0:aE)(r:aW)(v1:Int)  
variable{M w0 r v1}{K:Kn}{n:Nat}
theorem JR(hK:ao K)(h:sF K n v1=some r):aS Tryz.prog 79 [iI v1] (fun v _=>v=.agg (cz r)):=by
 refine bu (cat Tryz.f79 (pn 1)) Tryz.func79 Tryz.ntmps79 fun M w0=>(bc ⟨[(0,iI v1)],[],[],[]⟩ ?_);unfold sF at h;refine aL 5 ?_;cases h;exact bj
end
noncomputable section
variable[GS](M:Nat→Prop)(w0:aE)(r v1:ai)(v2:Int)(v3:Int×Bool)(v5:Int)  
abbrev MS(n:Nat):aq:=.c (cat Tryz.f83 (pn n))
abbrev M7:Cx:=⟨Tryz.prog,45,M,w0⟩
abbrev Pp:=bodyPost Tryz.prog Tryz.f83 (bA M w0 (fun v _=>v=.agg (aO r)))
abbrev Uy(ks:List aq)(s:AS):=VE (M7 M w0) (Pp M w0 r) ks .normal s
def La:AS:=⟨[(2,.ptr 2 0),(4,.ptr 4 0)],[(2,aO ({ v1 with X:=(ab (v1.X+v3.1)),Y:=v5 }:ai)),(4,List.set (aO bG) 66 (.nils))],[],[2,4]⟩
variable{M w0 r v1 v2 v3 v5}{K:Kn}{n:Nat}
theorem Gu(hK:ao K)(h:sw K n v1 v3 v5=some r):Uy M w0 r [MS 63] (La v1 v3 v5):=by
 unfold sw at h;refine aL 3 ?_;cases h;exact bj
theorem Ua(hK:ao K)(h:qK K n v1 v2=some r):aS Tryz.prog 83 [.agg (aO v1),iI v2] (fun v _=>v=.agg (aO r)):=by
 refine bu (cat Tryz.f83 (pn 1)) Tryz.func83 Tryz.ntmps83 fun M w0=>(bc ⟨[(0,.agg (aO v1)),(1,iI v2)],[],[],[]⟩ ?_);unfold qK at h;refine aC 13 7 5 ?_;obtain⟨h1,h⟩|⟨h1,h⟩:=ak h
 ·refine ah 12 h1 (aL 5 ?_);cases h;exact bj
 ·refine ah 12 h1 (fb 2 3 3 (aj 4 ?_));obtain⟨v3,h2,h⟩:=bind_some h;refine aU (eF hK h2) (ac (aC 13 7 5 ?_));obtain⟨h3,h⟩|⟨h3,h⟩:=ak h
  ·refine ah 31 h3 (aC 4 5 2 (aj 3 ?_));obtain⟨v4,h4,h⟩:=bind_some h;exact aU (eF hK h4) (ac (ae 1 (Gu hK h)))
  ·exact ah 31 h3 (ae 2 (Gu hK h))
end
noncomputable section
variable[GS](M:Nat→Prop)(w0:aE)(r:Int)(v1:aW)  
variable{M w0 r v1}{K:Kn}{n:Nat}
theorem uS(hK:ao K)(h:js K n v1=some r):aS Tryz.prog 126 [.agg (cz v1)] (fun v _=>v=iI r):=by
 refine bu (cat Tryz.f126 (pn 1)) Tryz.func126 Tryz.ntmps126 fun M w0=>(bc ⟨[(0,.agg (cz v1))],[],[],[]⟩ ?_);unfold js at h;refine aL 5 ?_;cases h;exact bj
end
noncomputable section
variable[GS](M:Nat→Prop)(w0:aE)(r:Int)(v1:List aa)(v2:Fv)(v4:Int)(m1:Nat)(L1:Int→Option Int)
abbrev yS:Cx:=⟨Tryz.prog,19,M,w0⟩
abbrev BX:=bodyPost Tryz.prog Tryz.f119 (bA M w0 (fun v _=>v=iI r))
abbrev Ru(ks:List aq)(s:AS):=VE (yS M w0) (BX M w0 r) ks .normal s
abbrev DR(n:Nat):aq:=.c (cat Tryz.f119 (pn n))
abbrev xN:List aq:=[.b 0,DR 7]
abbrev NV:List aq:=kl (yS M w0) (BX M w0 r) xN (cat Tryz.f119 (pn 52)) m1::xN
def HQ:AS:=⟨[(0,.sl (lm aR v1)),(1,.fn v2.id v2.aP),(7,iI (v1.length:Int)),(8,iI v4)],[],[],[]⟩
abbrev Jz:Prop:=∀{v4:Int},L1 v4=some r→LP (yS M w0) (BX M w0 r) xN (cat Tryz.f119 (pn 52)) m1 (HQ v1 v2 v4)
variable{M w0 r v1 v2 v4 m1 L1}{K:Kn}{n:Nat}
theorem Rl(hK:ao K)(hL1:Jz M w0 r v1 v2 m1 L1)(h:oG K n v1 v2 L1 v4=some r):Ru M w0 r (DR 52::NV M w0 r m1) (HQ v1 v2 v4):=by
 unfold oG at h;refine aC 6 7 3 ?_;obtain⟨h5,h⟩|⟨h5,h⟩:=ak h
 ·refine ah 9 h5 (c8 18 19 1 3 7 (aj 3 ?_));obtain⟨h6,h⟩:=aF h;refine az (bi aR aw h6 (d4) (dq)) (aM 5 1 ?_);obtain⟨v5,h7,h⟩:=bind_some h;refine lf (hK.iQ h7) (ac ?_);obtain⟨h8,h⟩|⟨h8,h⟩:=ak h
  ·refine ah 16 h8 (aL 9 ?_);cases h;exact bj
  ·exact ah 16 h8 (ae 4 (bw (hL1 h)))
 ·refine ah 9 h5 (aL 8 ?_);cases h;exact bj
theorem Tz(hK:ao K)(m:Nat):Jz M w0 r v1 v2 m (iB K n v1 v2 m):=by
 induction m with
 | zero=>intro v4 h;cases h
 | succ m ih=>intro v4 h;have h:oG K n v1 v2 (iB K n v1 v2 m) v4=some r:=h;exact bB (Rl hK ih h)
theorem OQ(hK:ao K)(h:qr K n v1 v2=some r):aS Tryz.prog 119 [.sl (lm aR v1),.fn v2.id v2.aP] (fun v _=>v=iI r):=by
 refine bu (cat Tryz.f119 (pn 1)) Tryz.func119 Tryz.ntmps119 fun M w0=>(bc ⟨[(0,.sl (lm aR v1)),(1,.fn v2.id v2.aP)],[],[],[]⟩ ?_);unfold qr at h;exact bO 12 13 7 4 (aj 1 (az (bv aR v1) (ac (ae 1 (ci (p:=pn 26) n (Tz hK n h))))))
end
noncomputable section
variable[GS](M:Nat→Prop)(w0:aE)(r:Bool)(v1:List aa)(v2:Fv)  
variable{M w0 r v1 v2}{K:Kn}{n:Nat}
theorem CJ(hK:ao K)(h:ku K n v1 v2=some r):aS Tryz.prog 64 [.sl (lm aR v1),.fn v2.id v2.aP] (fun v _=>v=.bool r):=by
 refine bu (cat Tryz.f64 (pn 1)) Tryz.func64 Tryz.ntmps64 fun M w0=>(bc ⟨[(0,.sl (lm aR v1)),(1,.fn v2.id v2.aP)],[],[],[]⟩ ?_);unfold ku at h;refine aC 6 7 3 (aj 2 ?_);obtain⟨v3,h1,h⟩:=bind_some h;refine aU (OQ hK h1) (ac (aL 1 ?_));cases h;exact bj
end
noncomputable section
variable[GS](M:Nat→Prop)(w0:aE)(r:Bool)(v1:aa)(v2:Bool)  
abbrev P7(n:Nat):aq:=.c (cat Tryz.f171 (pn n))
abbrev Vs:Cx:=⟨Tryz.prog,12,M,w0⟩
abbrev O3:=bodyPost Tryz.prog Tryz.f171 (bA M w0 (fun v _=>v=.bool r))
abbrev P9(ks:List aq)(s:AS):=VE (Vs M w0) (O3 M w0 r) ks .normal s
def MJ:AS:=⟨[(2,.bool v2)],[],[],[]⟩
variable{M w0 r v1 v2}{K:Kn}{n:Nat}
theorem Fl(hK:ao K)(h:qO K n v2=some r):P9 M w0 r [P7 7] (MJ v2):=by
 unfold qO at h;refine aL 1 ?_;cases h;exact bj
theorem DN(hK:ao K)(h:gz K n v1=some r):aS Tryz.prog 171 [.agg (aw v1)] (fun v _=>v=.bool r):=by
 refine bu (cat Tryz.f171 (pn 1)) Tryz.func171 Tryz.ntmps171 fun M w0=>(bc ⟨[(0,.agg (aw v1))],[],[],[]⟩ ?_);unfold gz at h;refine aC 6 7 3 (aj 4 ?_);obtain⟨h1,h⟩|⟨h1,h⟩:=ak h
 ·exact aB 6 h1 (ac (ae 0 (Fl hK h)))
 ·exact aB 6 h1 (ac (ae 0 (Fl hK h)))
end
noncomputable section
variable[GS](M:Nat→Prop)(w0:aE)(r:(List aa)×Bool)(v1:aa)(v8:Int)(v9 v11:(List aa))(m1:Nat)(L1:Int→(List aa)→Option ((List aa)×Bool))
abbrev zi:Cx:=⟨Tryz.prog,24,M,w0⟩
abbrev xt:=bodyPost Tryz.prog Tryz.f141 (bA M w0 (fun v _=>v=.tup [.sl (lm aR r.1),.bool r.2]))
abbrev Fz(ks:List aq)(s:AS):=VE (zi M w0) (xt M w0 r) ks .normal s
abbrev yp(n:Nat):aq:=.c (cat Tryz.f141 (pn n))
abbrev yT:List aq:=[.b 0,yp 15]
abbrev FH:List aq:=kl (zi M w0) (xt M w0 r) yT (cat Tryz.f141 (pn 116)) m1::yT
def U7:AS:=⟨[(4,.ref 19),(8,.sl (lm aR v1.Kids)),(9,iI (v1.Kids.length:Int)),(10,iI v8)],[],[(19,⟨48,59,lm aR v11⟩)],[19]⟩
def D8:AS:=⟨[(4,.ref 19),(8,.sl (lm aR v1.Kids)),(9,iI (v1.Kids.length:Int)),(10,iI v8)],[],[(19,⟨48,59,lm aR v9⟩)],[19]⟩
abbrev yi:Prop:=∀{v8:Int} {v9:(List aa)},L1 v8 v9=some r→LP (zi M w0) (xt M w0 r) yT (cat Tryz.f141 (pn 116)) m1 (D8 v1 v8 v9)
variable{M w0 r v1 v8 v9 v11 m1 L1}{K:Kn}{n:Nat}
theorem DA(hK:ao K)(hL1:yi M w0 r v1 m1 L1)(h:sE K n v1 v8 L1 v11=some r):Fz M w0 r (.b 1::yp 935::FH M w0 r m1) (U7 v1 v8 v11):=by
 unfold sE at h;exact ae 2 (bw (hL1 h))
theorem KL(hK:ao K)(hL1:yi M w0 r v1 m1 L1)(h:rA K n v1 L1 v8 v9=some r):Fz M w0 r (yp 116::FH M w0 r m1) (D8 v1 v8 v9):=by
 unfold rA at h;refine aC 6 7 3 ?_;obtain⟨h13,h⟩|⟨h13,h⟩:=ak h
 ·refine ah 11 h13 (c8 8 9 1 3 5 (aj 0 ?_));obtain⟨h14,h⟩:=aF h;refine az (bi aR aw h14 (d4) (dq)) (ac (aC 2 3 1 (aj 1 ?_)));obtain⟨v10,h15,h⟩:=bind_some h;refine aU (DN hK h15) (ac ?_);obtain⟨h16,h⟩|⟨h16,h⟩:=ak h
  ·refine ah 15 h16 (bh 2 1 (aj 2 (az (fO aR ([(gD v1.Kids v8)]:List aa) (new:=[aw (gD v1.Kids v8)]) (by simp only[List.map_cons,List.map_nil,dq])) ?_)));obtain⟨h17,h⟩:=aF h;exact az (cv 19 19 48 59 aR (rfl) (d4) h17) (ac (ae 0 (DA hK hL1 h)))
  ·exact ah 15 h16 (ae 2 (DA hK hL1 h))
 ·refine ah 11 h13 (kJ 2 3 6 (aj 2 (vb 19 ?_)));obtain⟨v12,h18,h⟩:=bind_some h;refine aU (CJ hK h18) (ac (aL 1 ?_));cases h;exact gF
theorem US(hK:ao K)(m:Nat):yi M w0 r v1 m (oD K n v1 m):=by
 induction m with
 | zero=>intro v8 v9 h;cases h
 | succ m ih=>intro v8 v9 h;have h:rA K n v1 (oD K n v1 m) v8 v9=some r:=h;exact bB (KL hK ih h)
theorem C8(hK:ao K)(h:n7 K n v1=some r):aS Tryz.prog 141 [.agg (aw v1)] (fun v _=>v=.tup [.sl (lm aR r.1),.bool r.2]):=by
 refine bu (cat Tryz.f141 (pn 1)) Tryz.func141 Tryz.ntmps141 fun M w0=>(bc ⟨[(0,.agg (aw v1))],[],[],[]⟩ ?_);unfold n7 at h;exact bO 28 29 15 6 (aj 2 (az (bv aR v1.Kids) (ac (il 2 0 1 (bI [4,8,9,10] [] [] (fZ 19 4 48 59 (ae 0 (ci (p:=pn 58) n (US hK n h)))))))))
end
noncomputable section
variable[GS](M:Nat→Prop)(w0:aE)(r:aW)(v1 v2:aW)  
variable{M w0 r v1 v2}{K:Kn}{n:Nat}
theorem sJ(hK:ao K)(h:i0 K n v1 v2=some r):aS Tryz.prog 143 [.agg (cz v1),.agg (cz v2)] (fun v _=>v=.agg (cz r)):=by
 refine bu (cat Tryz.f143 (pn 1)) Tryz.func143 Tryz.ntmps143 fun M w0=>(bc ⟨[(0,.agg (cz v1)),(1,.agg (cz v2))],[],[],[]⟩ ?_);unfold i0 at h;refine aL 5 ?_;cases h;exact bj
end
noncomputable section
variable[GS](M:Nat→Prop)(w0:aE)(r:(List ai)×Int×aW×aW×Bool)(v1:List ai)(v16:Int)(v17:Bool)(v18:Int)(v19 v20:aW)(v21:List ai)(v22:aW)(v24:Int)(v25:aW)(v26:Int)(v27:Bool)(v28 v29 v30:aW)(m1:Nat)(L1:Int→Bool→Int→aW→aW→(List ai)→Option ((List ai)×Int×aW×aW×Bool))
abbrev zo:Cx:=⟨Tryz.prog,52,M,w0⟩
abbrev ya:=bodyPost Tryz.prog Tryz.f142 (bA M w0 (fun v s=>v=.tup [.ref 43,iI r.2.1,.agg (cz r.2.2.1),.agg (cz r.2.2.2.1),.bool r.2.2.2.2]∧look 43 s.r=some ⟨44,67,lm aY r.1⟩))
abbrev sX(ks:List aq)(s:AS):=VE (zo M w0) (ya M w0 r) ks .normal s
abbrev iC(n:Nat):aq:=.c (cat Tryz.f142 (pn n))
abbrev zZ:List aq:=[.b 0,iC 31]
abbrev t8:List aq:=kl (zo M w0) (ya M w0 r) zZ (cat Tryz.f142 (pn 244)) m1::zZ
def LH:AS:=⟨[(2,.ref 43),(3,iI v26),(4,.ptr 4 0),(5,.ptr 5 0),(6,.bool v27),(7,.ptr 7 0),(9,.ptr 9 0),(10,.sl (lm aY v1)),(11,iI (v1.length:Int)),(12,iI v18)],[(4,cz v28),(5,cz cR),(7,cz v29),(9,aO ({ (gD v1 v18)with Y:=v24 }:ai))],[(43,⟨44,67,lm aY v21⟩)],[4,5,7,9,43]⟩
def N8:AS:=⟨[(2,.ref 43),(4,.ptr 4 0),(5,.ptr 5 0),(7,.ptr 7 0),(9,.ptr 9 0),(10,.sl (lm aY v1)),(11,iI (v1.length:Int)),(12,iI v18)],[(4,cz v25),(5,cz cR),(7,cz v22),(9,aO ({ (gD v1 v18)with Y:=v24 }:ai))],[(43,⟨44,67,lm aY v21⟩)],[4,5,7,9,43]⟩
def Pm:AS:=⟨[(2,.ref 43),(3,iI v16),(4,.ptr 4 0),(5,.ptr 5 0),(6,.bool v17),(7,.ptr 7 0),(9,.ptr 9 0),(10,.sl (lm aY v1)),(11,iI (v1.length:Int)),(12,iI v18)],[(4,cz v19),(5,cz cR),(7,cz v22),(9,aO ({ (gD v1 v18)with Y:=v24 }:ai))],[(43,⟨44,67,lm aY v21⟩)],[4,5,7,9,43]⟩
def Uq:AS:=⟨[(2,.ref 43),(3,iI v16),(4,.ptr 4 0),(5,.ptr 5 0),(6,.bool v17),(7,.ptr 7 0)],[(4,cz v30),(5,cz cR),(7,cz v20)],[(43,⟨44,67,lm aY v21⟩)],[4,5,7,43]⟩
def G8:AS:=⟨[(2,.ref 43),(3,iI v16),(4,.ptr 4 0),(5,.ptr 5 0),(6,.bool v17),(7,.ptr 7 0),(10,.sl (lm aY v1)),(11,iI (v1.length:Int)),(12,iI v18)],[(4,cz v19),(5,cz cR),(7,cz v20)],[(43,⟨44,67,lm aY v21⟩)],[4,5,7,43]⟩
abbrev sx:Prop:=∀{v16:Int} {v17:Bool} {v18:Int} {v19:aW} {v20:aW} {v21:(List ai)},L1 v16 v17 v18 v19 v20 v21=some r→LP (zo M w0) (ya M w0 r) zZ (cat Tryz.f142 (pn 244)) m1 (G8 v1 v16 v17 v18 v19 v20 v21)
variable{M w0 r v1 v16 v17 v18 v19 v20 v21 v22 v24 v25 v26 v27 v28 v29 v30 m1 L1}{K:Kn}{n:Nat}
theorem Dl(hK:ao K)(hL1:sx M w0 r v1 m1 L1)(h:qe K n v1 v18 v21 v24 L1 v26 v27 v28 v29=some r):sX M w0 r (iC 125343 :: .b 1::iC 1959::t8 M w0 r m1) (LH v1 v18 v21 v24 v26 v27 v28 v29):=by
 unfold qe at h;refine aj 2 (az (fO aY ([({ (gD v1 v18)with Y:=v24 }:ai)]:List ai) (new:=[aO ({ (gD v1 v18)with Y:=v24 }:ai)]) (by simp only[List.map_cons,List.map_nil,er])) ?_);obtain⟨h22,h⟩:=aF h;exact az (cv 43 43 44 67 aY (rfl) (lg) h22) (ac (ae 2 (bw (hL1 h))))
theorem HA(hK:ao K)(hL1:sx M w0 r v1 m1 L1)(h:tD K n v1 v18 v21 v22 v24 L1 v25=some r):sX M w0 r (iC 1002741::iC 125343 :: .b 1::iC 1959::t8 M w0 r m1) (N8 v1 v18 v21 v22 v24 v25):=by
 unfold tD at h;exact ae 5 (Dl hK hL1 h)
theorem GO(hK:ao K)(hL1:sx M w0 r v1 m1 L1)(h:rm K n v1 v16 v17 v18 v19 v21 v22 L1 v24=some r):sX M w0 r (iC 62671 :: .b 1::iC 1959::t8 M w0 r m1) (Pm v1 v16 v17 v18 v19 v21 v22 v24):=by
 unfold rm at h;refine aC 5 3 3 ?_;obtain⟨h20,h⟩|⟨h20,h⟩:=ak h
 ·refine ah 30 h20 (aC 9 5 4 ?_);obtain⟨h21,h⟩|⟨h21,h⟩:=ak h
  ·exact ah 31 h21 (ae 2 (HA hK hL1 h))
  ·exact ah 31 h21 (ae 2 (HA hK hL1 h))
 ·exact ah 30 h20 (ae 2 (Dl hK hL1 h))
theorem CB(hK:ao K)(h:tn K n v16 v17 v20 v21 v30=some r):sX M w0 r [iC 63] (Uq v16 v17 v20 v21 v30):=by
 unfold tn at h;refine aC 2 3 1 (bI [2,3,4,5,6,7] [4,5,7] [43] (bP 5 (nu 47 [.ref 43,iI v16,.agg (cz v30),.agg (cz v20),.bool v17]) [] [] [bZ Tryz.prog 52 Tryz.f142 (pn 126) 5,bZ Tryz.prog 52 Tryz.f142 (pn 126) 6,bZ Tryz.prog 52 Tryz.f142 (pn 126) 7,bZ Tryz.prog 52 Tryz.f142 (pn 126) 8,bZ Tryz.prog 52 Tryz.f142 (pn 126) 9] (ay [.v 0 1,.v 0 2,.v 0 3,.v 0 4,.v 0 5] (ag (bX 0) (ag (bX 1) (ag (bX 2) (ag (bX 3) (ag (bX 4) bQ)))))) (aL 1 ?_)));cases h;exact t6
theorem Qs(hK:ao K)(hL1:sx M w0 r v1 m1 L1)(h:qo K n v1 L1 v16 v17 v18 v19 v20 v21=some r):sX M w0 r (iC 244::t8 M w0 r m1) (G8 v1 v16 v17 v18 v19 v20 v21):=by
 unfold qo at h;refine aC 6 7 3 ?_;obtain⟨h15,h⟩|⟨h15,h⟩:=ak h
 ·refine ah 13 h15 (c8 8 9 1 3 5 (aj 0 ?_));obtain⟨h16,h⟩:=aF h;refine az (bi aY aO h16 (lg) (er)) (ac (aC 2 3 1 (aj 3 ?_)));obtain⟨v22,h17,h⟩:=bind_some h;refine aU (sJ hK h17) (ac (aC 13 7 5 ?_));obtain⟨h18,h⟩|⟨h18,h⟩:=ak h
  ·refine ah 22 h18 (bh 2 1 (aj 2 ?_));obtain⟨v23,h19,h⟩:=bind_some h;exact aU (uS hK h19) (ac (ae 0 (GO hK hL1 h)))
  ·exact ah 22 h18 (ae 2 (GO hK hL1 h))
 ·refine ah 13 h15 (kJ 5 3 8 ?_);obtain⟨h23,h⟩|⟨h23,h⟩:=ak h
  ·exact ah 45 h23 (ae 2 (CB hK h))
  ·exact ah 45 h23 (ae 2 (CB hK h))
theorem QK(hK:ao K)(m:Nat):sx M w0 r v1 m (mi K n v1 m):=by
 induction m with
 | zero=>intro v16 v17 v18 v19 v20 v21 h;cases h
 | succ m ih=>intro v16 v17 v18 v19 v20 v21 h;have h:qo K n v1 (mi K n v1 m) v16 v17 v18 v19 v20 v21=some r:=h;exact bB (Qs hK ih h)
theorem Ml(hK:ao K)(h:j7 K n v1=some r):aS Tryz.prog 142 [.sl (lm aY v1)] (fun v s=>v=.tup [.ref 43,iI r.2.1,.agg (cz r.2.2.1),.agg (cz r.2.2.2.1),.bool r.2.2.2.2]∧look 43 s.r=some ⟨44,67,lm aY r.1⟩):=by
 refine bu (cat Tryz.f142 (pn 1)) Tryz.func142 Tryz.ntmps142 fun M w0=>(bc ⟨[(0,.sl (lm aY v1))],[],[],[]⟩ ?_);unfold j7 at h;exact bO 60 61 31 8 (aj 1 (az (bv aY v1) (ac (il 2 0 1 (bI [2,3,4,5,6,7,10,11,12] [4,5,7] [] (fZ 43 2 44 67 (ae 0 (ci (p:=pn 122) n (QK hK n h)))))))))
end
noncomputable section
variable[GS](M:Nat→Prop)(w0:aE)(r:Int)(v1:bN)  
variable{M w0 r v1}{K:Kn}{n:Nat}
theorem Mt(hK:ao K)(h:vP K n v1=some r):aS Tryz.prog 144 [.agg (cb v1)] (fun v _=>v=iI r):=by
 refine bu (cat Tryz.f144 (pn 1)) Tryz.func144 Tryz.ntmps144 fun M w0=>(bc ⟨[(0,.agg (cb v1))],[],[],[]⟩ ?_);unfold vP at h;refine aL 5 ?_;cases h;exact bj
end
noncomputable section
variable[GS](M:Nat→Prop)(w0:aE)(r:Bool)(v1:aa)(v2:Bool)  
abbrev Pb(n:Nat):aq:=.c (cat Tryz.f145 (pn n))
abbrev Mc:Cx:=⟨Tryz.prog,16,M,w0⟩
abbrev Nq:=bodyPost Tryz.prog Tryz.f145 (bA M w0 (fun v _=>v=.bool r))
abbrev MA(ks:List aq)(s:AS):=VE (Mc M w0) (Nq M w0 r) ks .normal s
def NZ:AS:=⟨[(2,.bool v2)],[],[],[]⟩
variable{M w0 r v1 v2}{K:Kn}{n:Nat}
theorem BC(hK:ao K)(h:oI K n v2=some r):MA M w0 r [Pb 7] (NZ v2):=by
 unfold oI at h;refine aL 1 ?_;cases h;exact bj
theorem De(hK:ao K)(h:oJ K n v1=some r):aS Tryz.prog 145 [.agg (aw v1)] (fun v _=>v=.bool r):=by
 refine bu (cat Tryz.f145 (pn 1)) Tryz.func145 Tryz.ntmps145 fun M w0=>(bc ⟨[(0,.agg (aw v1))],[],[],[]⟩ ?_);unfold oJ at h;refine aC 6 7 3 (aj 4 ?_);obtain⟨h1,h⟩|⟨h1,h⟩:=ak h
 ·exact aB 6 h1 (ac (ae 0 (BC hK h)))
 ·refine aB 6 h1 (aM 9 5 ?_);obtain⟨h2,h⟩|⟨h2,h⟩:=ak h
  ·exact aB 11 h2 (ac (ae 0 (BC hK h)))
  ·exact aB 11 h2 (ac (ae 0 (BC hK h)))
end
noncomputable section
variable[GS](M:Nat→Prop)(w0:aE)(r:ai×Int×Int×(List aG))(v1:aa)(v2:bN)(v3 v4:Bool)(v5:bF)(v6 v7:Int)(v8:List aG)(v9:(List aa)×Bool)(v12:Int)(v13:List ai)(v14 v15:Int)(v16:List aG)(v21:Int)(v22:Bool)(v23 v24:aW)(v25:List ai)(v26 v27:Int)(v28:List aG)(v29 v30:aW)(v32:Bool)(v34:Int)(v35:aW)(v36:Bool)(v41:Int)(v42 v43:aW)(v44:Bool)(v45:Int×Bool)(v46:Bool)(v47 v48 v49 v56:Int)(v57 v59:(List ai))(v61:Bool)(v63:List ai)(m1 m2:Nat)(L1:Int→(List ai)→Int→Int→(List aG)→Option (ai×Int×Int×(List aG)))(L2:Int→(List ai)→Option (ai×Int×Int×(List aG)))
abbrev sZ:Cx:=⟨Tryz.prog,259,M,w0⟩
abbrev qx:=bodyPost Tryz.prog Tryz.f100 (bA M w0 (fun v s=>v=.agg (aO r.1)∧cn s.o [(440001,List.set (bL (⟨[],r.2.1,r.2.2.1⟩:bH)) 0 (.ref 440009))]∧look 440009 s.r=some ⟨64,127,lm bd r.2.2.2⟩))
abbrev g9(ks:List aq)(s:AS):=VE (sZ M w0) (qx M w0 r) ks .normal s
abbrev cY(n:Nat):aq:=.c (cat Tryz.f100 (pn n))
abbrev zH:List aq:=[.b 4,cY 131071]
abbrev tH:List aq:=kl (sZ M w0) (qx M w0 r) zH (cat Tryz.f100 (pn 1048564)) m2::zH
abbrev zU:List aq:=[.b 0,cY 4075,cY 255]
abbrev LW:List aq:=kl (sZ M w0) (qx M w0 r) zU (cat Tryz.f100 (pn 32596)) m1::zU
def TZ:AS:=⟨[(6,.ptr 6 0),(10,.ptr 10 0),(11,.ptr 11 0),(12,.sl (lm aR v9.1)),(13,.bool v9.2),(15,iI v34),(199,iI (v25.length:Int)),(200,iI v56)],[(6,cb v2),(10,List.set (aO bG) 66 (.nils)),(11,List.set (aO (⟨1,v1.Node,v2.Margin.a3,0,(ab (v2.Content+v48)),v49,0,⟨#[]⟩,v1.Style,v42,v43,v44,[]⟩:ai)) 66 (.ref 1054)),(440001,List.set (bL (⟨[],v26,v27⟩:bH)) 0 (.ref 440009))],[(1054,⟨44,67,lm aY v63⟩),(440009,⟨64,127,lm bd v28⟩)],[6,10,11,440001,1054,440009,1440001,440001]⟩
def VW:AS:=⟨[(6,.ptr 6 0),(10,.ptr 10 0),(11,.ptr 11 0),(12,.sl (lm aR v9.1)),(13,.bool v9.2),(15,iI v34),(24,iI v56),(199,iI (v25.length:Int)),(200,iI v56),(244,.bool v61)],[(6,cb v2),(10,List.set (aO bG) 66 (.nils)),(11,List.set (aO (⟨1,v1.Node,v2.Margin.a3,0,(ab (v2.Content+v48)),v49,0,⟨#[]⟩,v1.Style,v42,v43,v44,[]⟩:ai)) 66 (.ref 1054)),(440001,List.set (bL (⟨[],v26,v27⟩:bH)) 0 (.ref 440009))],[(1054,⟨44,67,lm aY v59⟩),(440009,⟨64,127,lm bd v28⟩)],[6,10,11,440001,1054,440009,1440001,440001]⟩
def Ic:AS:=⟨[(6,.ptr 6 0),(10,.ptr 10 0),(11,.ptr 11 0),(12,.sl (lm aR v9.1)),(13,.bool v9.2),(15,iI v34),(199,iI (v25.length:Int)),(200,iI v56)],[(6,cb v2),(10,List.set (aO bG) 66 (.nils)),(11,List.set (aO (⟨1,v1.Node,v2.Margin.a3,0,(ab (v2.Content+v48)),v49,0,⟨#[]⟩,v1.Style,v42,v43,v44,[]⟩:ai)) 66 (.ref 1054)),(440001,List.set (bL (⟨[],v26,v27⟩:bH)) 0 (.ref 440009))],[(1054,⟨44,67,lm aY v57⟩),(440009,⟨64,127,lm bd v28⟩)],[6,10,11,440001,1054,440009,1440001,440001]⟩
def S6:AS:=⟨[(6,.ptr 6 0),(10,.ptr 10 0),(11,.ptr 11 0),(12,.sl (lm aR v9.1)),(13,.bool v9.2),(14,iI v47),(15,iI v34)],[(6,cb v2),(10,List.set (aO bG) 66 (.nils)),(11,List.set (aO ({ bG with Kind:=1,Node:=v1.Node,Style:=v1.Style,Before:=v42,After:=v43,Empty:=v44 }:ai)) 66 (.ref 1054)),(440001,List.set (bL (⟨[],v26,v27⟩:bH)) 0 (.ref 440009))],[(1054,⟨44,67,lm aY v25⟩),(440009,⟨64,127,lm bd v28⟩)],[6,10,11,440001,1054,440009,1440001,440001]⟩
def RM:AS:=⟨[(6,.ptr 6 0),(10,.ptr 10 0),(11,.ptr 11 0),(12,.sl (lm aR v9.1)),(13,.bool v9.2),(14,iI (max v41 0)),(15,iI v34),(22,iI v45.1),(166,.bool v46)],[(6,cb v2),(10,List.set (aO bG) 66 (.nils)),(11,List.set (aO ({ bG with Kind:=1,Node:=v1.Node,Style:=v1.Style,Before:=v42,After:=v43,Empty:=v44 }:ai)) 66 (.ref 1054)),(440001,List.set (bL (⟨[],v26,v27⟩:bH)) 0 (.ref 440009))],[(1054,⟨44,67,lm aY v25⟩),(440009,⟨64,127,lm bd v28⟩)],[6,10,11,440001,1054,440009,1440001,440001]⟩
def KG:AS:=⟨[(5,.ptr 5 0),(6,.ptr 6 0),(10,.ptr 10 0),(11,.ptr 11 0),(12,.sl (lm aR v9.1)),(13,.bool v9.2),(14,iI v41),(15,iI v34)],[(5,aw v1),(6,cb v2),(10,List.set (aO bG) 66 (.nils)),(11,List.set (aO ({ bG with Kind:=1,Node:=v1.Node,Style:=v1.Style,Before:=v42,After:=v43,Empty:=v44 }:ai)) 66 (.ref 1054)),(440001,List.set (bL (⟨[],v26,v27⟩:bH)) 0 (.ref 440009))],[(1054,⟨44,67,lm aY v25⟩),(440009,⟨64,127,lm bd v28⟩)],[5,6,10,11,440001,1054,440009,1440001,440001]⟩
def QG:AS:=⟨[(3,.bool v4),(5,.ptr 5 0),(6,.ptr 6 0),(10,.ptr 10 0),(11,.ptr 11 0),(12,.sl (lm aR v9.1)),(13,.bool v9.2),(14,iI v21),(15,iI v34),(16,.ptr 16 0),(17,.ptr 17 0),(18,.bool v22),(113,.bool v36)],[(5,aw v1),(6,cb v2),(10,List.set (aO bG) 66 (.nils)),(11,List.set (aO ({ bG with Kind:=1,Node:=v1.Node,Style:=v1.Style,Before:=v35,After:=v30 }:ai)) 66 (.ref 1054)),(16,cz v23),(17,cz v24),(440001,List.set (bL (⟨[],v26,v27⟩:bH)) 0 (.ref 440009))],[(1054,⟨44,67,lm aY v25⟩),(440009,⟨64,127,lm bd v28⟩)],[5,6,10,11,16,17,440001,1054,440009,1440001,440001]⟩
def PP:AS:=⟨[(2,.bool v3),(3,.bool v4),(5,.ptr 5 0),(6,.ptr 6 0),(10,.ptr 10 0),(11,.ptr 11 0),(12,.sl (lm aR v9.1)),(13,.bool v9.2),(14,iI v21),(15,iI v34),(16,.ptr 16 0),(17,.ptr 17 0),(18,.bool v22)],[(5,aw v1),(6,cb v2),(10,List.set (aO bG) 66 (.nils)),(11,List.set (aO ({ bG with Kind:=1,Node:=v1.Node,Style:=v1.Style,Before:=v35,After:=v30 }:ai)) 66 (.ref 1054)),(16,cz v23),(17,cz v24),(440001,List.set (bL (⟨[],v26,v27⟩:bH)) 0 (.ref 440009))],[(1054,⟨44,67,lm aY v25⟩),(440009,⟨64,127,lm bd v28⟩)],[5,6,10,11,16,17,440001,1054,440009,1440001,440001]⟩
def KP:AS:=⟨[(2,.bool v3),(3,.bool v4),(5,.ptr 5 0),(6,.ptr 6 0),(10,.ptr 10 0),(11,.ptr 11 0),(12,.sl (lm aR v9.1)),(13,.bool v9.2),(14,iI v21),(15,iI 0),(16,.ptr 16 0),(17,.ptr 17 0),(18,.bool v22),(98,.bool v32)],[(5,aw v1),(6,cb v2),(10,List.set (aO bG) 66 (.nils)),(11,List.set (aO ({ bG with Kind:=1,Node:=v1.Node,Style:=v1.Style,Before:=v29,After:=v30 }:ai)) 66 (.ref 1054)),(16,cz v23),(17,cz v24),(440001,List.set (bL (⟨[],v26,v27⟩:bH)) 0 (.ref 440009))],[(1054,⟨44,67,lm aY v25⟩),(440009,⟨64,127,lm bd v28⟩)],[5,6,10,11,16,17,440001,1054,440009,1440001,440001]⟩
def MF:AS:=⟨[(2,.bool v3),(3,.bool v4),(5,.ptr 5 0),(6,.ptr 6 0),(10,.ptr 10 0),(11,.ptr 11 0),(12,.sl (lm aR v9.1)),(13,.bool v9.2),(14,iI v21),(15,iI 0),(16,.ptr 16 0),(17,.ptr 17 0),(18,.bool v22)],[(5,aw v1),(6,cb v2),(10,List.set (aO bG) 66 (.nils)),(11,List.set (aO ({ bG with Kind:=1,Node:=v1.Node,Style:=v1.Style }:ai)) 66 (.ref 1054)),(16,cz v23),(17,cz v24),(440001,List.set (bL (⟨[],v26,v27⟩:bH)) 0 (.ref 440009))],[(1054,⟨44,67,lm aY v25⟩),(440009,⟨64,127,lm bd v28⟩)],[5,6,10,11,16,17,440001,1054,440009,1440001,440001]⟩
def Eg:AS:=⟨[(2,.bool v3),(3,.bool v4),(5,.ptr 5 0),(6,.ptr 6 0),(9,.ptr 9 0),(10,.ptr 10 0),(11,.ptr 11 0),(12,.sl (lm aR v9.1)),(13,.bool v9.2),(15,iI 0),(16,.ptr 16 0),(17,.ptr 17 0),(19,.ref 50),(36,.sl (lm aR v9.1)),(37,iI (v9.1.length:Int)),(38,iI v12)],[(5,aw v1),(6,cb v2),(9,bW v5),(10,List.set (aO bG) 66 (.nils)),(11,List.set (aO ({ bG with Kind:=1,Node:=v1.Node,Style:=v1.Style }:ai)) 66 (.nils)),(16,cz cR),(17,cz cR),(440001,List.set (bL (⟨[],v14,v15⟩:bH)) 0 (.ref 440009))],[(50,⟨44,67,lm aY v13⟩),(440009,⟨64,127,lm bd v16⟩)],[5,6,9,10,11,16,17,440001,50,440009,1440001,440001]⟩
abbrev JS:Prop:=∀{v12:Int} {v13:(List ai)} {v14:Int} {v15:Int} {v16:(List aG)},L1 v12 v13 v14 v15 v16=some r→LP (sZ M w0) (qx M w0 r) zU (cat Tryz.f100 (pn 32596)) m1 (Eg v1 v2 v3 v4 v5 v9 v12 v13 v14 v15 v16)
abbrev uI:Prop:=∀{v56:Int} {v57:(List ai)},L2 v56 v57=some r→LP (sZ M w0) (qx M w0 r) zH (cat Tryz.f100 (pn 1048564)) m2 (Ic v1 v2 v9 v25 v26 v27 v28 v34 v42 v43 v44 v48 v49 v56 v57)
variable{M w0 r v1 v2 v3 v4 v5 v6 v7 v8 v9 v12 v13 v14 v15 v16 v21 v22 v23 v24 v25 v26 v27 v28 v29 v30 v32 v34 v35 v36 v41 v42 v43 v44 v45 v46 v47 v48 v49 v56 v57 v59 v61 v63 m1 m2 L1 L2}{K:Kn}{n:Nat}[SG w0]
theorem E9(hK:ao K)(hL2:uI M w0 r v1 v2 v9 v25 v26 v27 v28 v34 v42 v43 v44 v48 v49 m2 L2)(h:qy K n v1 v2 v9 v25 v26 v27 v28 v34 v42 v43 v44 v48 v49 v56 L2 v63=some r):g9 M w0 r (.b 5::cY 8388519::tH M w0 r m2) (TZ v1 v2 v9 v25 v26 v27 v28 v34 v42 v43 v44 v48 v49 v56 v63):=by
 unfold qy at h;exact ae 2 (bw (hL2 h))
theorem CL(hK:ao K)(hL2:uI M w0 r v1 v2 v9 v25 v26 v27 v28 v34 v42 v43 v44 v48 v49 m2 L2)(h:qI K n v1 v2 v9 v25 v26 v27 v28 v34 v42 v43 v44 v48 v49 v56 v59 L2 v61=some r):g9 M w0 r (cY 268432591 :: .b 5::cY 8388519::tH M w0 r m2) (VW v1 v2 v9 v25 v26 v27 v28 v34 v42 v43 v44 v48 v49 v56 v59 v61):=by
 unfold qI at h;obtain⟨h64,h⟩|⟨h64,h⟩:=ak h
 ·refine ah 244 h64 (bh 2 1 (bI [6,10,11,12,13,15,24,199,200] [6,10,11,440001] [1054,440009] ?_));obtain⟨h65,h⟩:=aF h;obtain⟨v62,h66,h⟩:=bind_some h;obtain⟨h67,h⟩:=aF h;exact bP 1 (nu 245 [.ptr 11 66,.ref 1054,iI v56,.ptr 11 66,.ref 1054,iI v56,.eptr 1054 67 (v56.toNat) 0,.agg (aO (gD v59 v56)),.ptr 6 12,iI v2.Content,.agg (aO v62),.eptr 1054 67 (v56.toNat) 0]) [] [] [pO 1054 ⟨44,67,lm aY (List.set v59 v56.toNat v62)⟩] (ay (vz 6) (bC (ef 1054 67 aY (L:=v59) h65) (bC (cO 44 0 aY aO (cE h67).2 (er)) (ay (vz 2) (ag (cD 0 1 255 (Ua hK h66)) (bC (ef 1054 67 aY (L:=v59) h67) (ag (eu (m:=0) (fz 1054 44 67 0 aY aO v62 (cE h67).2 (er))) bQ))))))) (ae 0 (E9 hK hL2 h))
 ·exact ah 244 h64 (ae 2 (E9 hK hL2 h))
theorem NC(hK:ao K)(hL2:uI M w0 r v1 v2 v9 v25 v26 v27 v28 v34 v42 v43 v44 v48 v49 m2 L2)(h:tu K n v1 v2 v9 v25 v26 v27 v28 v34 v42 v43 v44 v48 v49 L2 v56 v57=some r):g9 M w0 r (cY 1048564::tH M w0 r m2) (Ic v1 v2 v9 v25 v26 v27 v28 v34 v42 v43 v44 v48 v49 v56 v57):=by
 unfold tu at h;refine aC 6 7 3 ?_;obtain⟨h54,h⟩|⟨h54,h⟩:=ak h
 ·refine ah 201 h54 (c8 18 19 5 3 7 (bI [6,10,11,12,13,15,24,199,200] [6,10,11,440001] [1054,440009] ?_));obtain⟨h55,h⟩:=aF h;obtain⟨h56,h⟩:=aF h;refine bP 1 (nu 203 [.ptr 11 66,.ref 1054,iI v56,.eptr 1054 67 (v56.toNat) 0,.eptr 1054 67 (v56.toNat) 2,iI ((gD v57 v56).X),.ptr 6 4,.ptr 6 7,iI v2.Border.a3,.ptr 6 8,.ptr 6 11,iI v2.Padding.a3,iI (ab (v2.Border.a3+v2.Padding.a3)),iI (ab (((gD v57 v56).X)+(ab (v2.Border.a3+v2.Padding.a3)))),.eptr 1054 67 (v56.toNat) 0,.eptr 1054 67 (v56.toNat) 2]) [] [] [pO 1054 ⟨44,67,lm aY (List.set v57 v56.toNat ({ (gD v57 v56)with X:=(ab (((gD v57 v56).X)+(ab (v2.Border.a3+v2.Padding.a3)))) }:ai))⟩] (ay (vz 3) (bC (ef 1054 67 aY (L:=v57) h55) (ay [.v 0 1] (bC (cO 3 2 aY aO (cE h56).2 (er)) (ay (vz 8) (ag (fv (lo:=0) (k:=2) (c9 ⟨(by kernel_rfl),(dd (ef 1054 67 aY (L:=v57) h56) (by kernel_rfl))⟩ (c9 ⟨(by kernel_rfl),(dd (ef 1054 67 aY (L:=(List.set v57 v56.toNat ({ (gD v57 v56)with X:=(ab (((gD v57 v56).X)+(ab (v2.Border.a3+v2.Padding.a3)))) }:ai))) h56) (by kernel_rfl))⟩ fR))) (ay [.v 0 1] (ag (eu (m:=0) (fz 1054 44 67 2 aY aO ({ (gD v57 v56)with X:=(ab (((gD v57 v56).X)+(ab (v2.Border.a3+v2.Padding.a3)))) }:ai) (cE h56).2 (er))) bQ)))))))) ?_
  obtain⟨v58,h57,h⟩:=cg h;refine bR (ks':=cY 134216294::cY 134216295 :: .b 5::cY 8388519::tH M w0 r m2) 1 ⟨[(6,.ptr 6 0),(10,.ptr 10 0),(11,.ptr 11 0),(12,.sl (lm aR v9.1)),(13,.bool v9.2),(15,iI v34),(24,iI v56),(199,iI (v25.length:Int)),(200,iI v56)],[(6,cb v2),(10,List.set (aO bG) 66 (.nils)),(11,List.set (aO (⟨1,v1.Node,v2.Margin.a3,0,(ab (v2.Content+v48)),v49,0,⟨#[]⟩,v1.Style,v42,v43,v44,[]⟩:ai)) 66 (.ref 1054)),(440001,List.set (bL (⟨[],v26,v27⟩:bH)) 0 (.ref 440009))],[(1054,⟨44,67,lm aY v58⟩),(440009,⟨64,127,lm bd v28⟩)],[6,10,11,440001,1054,440009,1440001,440001]⟩ ?_ (by subst h57;kernel_rfl);obtain⟨h58,h⟩:=aF h;obtain⟨h59,h⟩:=aF h;refine bP 1 (nu 219 [.ptr 11 66,.ref 1054,iI v56,.eptr 1054 67 (v56.toNat) 0,.eptr 1054 67 (v56.toNat) 3,iI ((gD v58 v56).Y),.ptr 6 4,.ptr 6 4,iI v2.Border.a0,.ptr 6 8,.ptr 6 8,iI v2.Padding.a0,iI (ab (v2.Border.a0+v2.Padding.a0)),iI v34,iI (ab ((ab (v2.Border.a0+v2.Padding.a0))+v34)),iI (ab (((gD v58 v56).Y)+(ab ((ab (v2.Border.a0+v2.Padding.a0))+v34)))),.eptr 1054 67 (v56.toNat) 0,.eptr 1054 67 (v56.toNat) 3]) [] [] [pO 1054 ⟨44,67,lm aY (List.set v58 v56.toNat ({ (gD v58 v56)with Y:=(ab (((gD v58 v56).Y)+(ab ((ab (v2.Border.a0+v2.Padding.a0))+v34)))) }:ai))⟩] (ay (vz 3) (bC (ef 1054 67 aY (L:=v58) h58) (ay [.v 0 1] (bC (cO 3 3 aY aO (cE h59).2 (er)) (ay (vz 10) (ag (fv (lo:=0) (k:=2) (c9 ⟨(by kernel_rfl),(dd (ef 1054 67 aY (L:=v58) h59) (by kernel_rfl))⟩ (c9 ⟨(by kernel_rfl),(dd (ef 1054 67 aY (L:=(List.set v58 v56.toNat ({ (gD v58 v56)with Y:=(ab (((gD v58 v56).Y)+(ab ((ab (v2.Border.a0+v2.Padding.a0))+v34)))) }:ai))) h59) (by kernel_rfl))⟩ fR))) (ay [.v 0 1] (ag (eu (m:=0) (fz 1054 44 67 3 aY aO ({ (gD v58 v56)with Y:=(ab (((gD v58 v56).Y)+(ab ((ab (v2.Border.a0+v2.Padding.a0))+v34)))) }:ai) (cE h59).2 (er))) bQ)))))))) ?_
  obtain⟨v59,h60,h⟩:=cg h;refine bR (ks':=cY 268432590::cY 268432591 :: .b 5::cY 8388519::tH M w0 r m2) 1 ⟨[(6,.ptr 6 0),(10,.ptr 10 0),(11,.ptr 11 0),(12,.sl (lm aR v9.1)),(13,.bool v9.2),(15,iI v34),(24,iI v56),(199,iI (v25.length:Int)),(200,iI v56)],[(6,cb v2),(10,List.set (aO bG) 66 (.nils)),(11,List.set (aO (⟨1,v1.Node,v2.Margin.a3,0,(ab (v2.Content+v48)),v49,0,⟨#[]⟩,v1.Style,v42,v43,v44,[]⟩:ai)) 66 (.ref 1054)),(440001,List.set (bL (⟨[],v26,v27⟩:bH)) 0 (.ref 440009))],[(1054,⟨44,67,lm aY v59⟩),(440009,⟨64,127,lm bd v28⟩)],[6,10,11,440001,1054,440009,1440001,440001]⟩ ?_ (by subst h60;kernel_rfl);refine aj 2 ?_;obtain⟨h61,h⟩|⟨h61,h⟩:=ak h
  ·refine aB 238 h61 (aM 4 2 ?_);obtain⟨h62,h⟩:=aF h;refine az (bi aR aw h62 (d4) (dq)) (aM 6 1 ?_);obtain⟨v60,h63,h⟩:=bind_some h;exact aU (De hK h63) (ac (ae 0 (CL hK hL2 h)))
  ·exact aB 238 h61 (ac (ae 0 (CL hK hL2 h)))
 ·refine ah 201 h54 (aL 8 (gf 1054 ?_));cases h;exact dT
theorem Og(hK:ao K)(m:Nat):uI M w0 r v1 v2 v9 v25 v26 v27 v28 v34 v42 v43 v44 v48 v49 m (nC K n v1 v2 v9 v25 v26 v27 v28 v34 v42 v43 v44 v48 v49 m):=by
 induction m with
 | zero=>intro v56 v57 h;cases h
 | succ m ih=>intro v56 v57 h;have h:tu K n v1 v2 v9 v25 v26 v27 v28 v34 v42 v43 v44 v48 v49 (nC K n v1 v2 v9 v25 v26 v27 v28 v34 v42 v43 v44 v48 v49 m) v56 v57=some r:=h;exact bB (NC hK ih h)
theorem E5(hK:ao K)(h:ne K n v1 v2 v9 v25 v26 v27 v28 v34 v42 v43 v44 v47=some r):g9 M w0 r [cY 8191] (S6 v1 v2 v9 v25 v26 v27 v28 v34 v42 v43 v44 v47):=by
 unfold ne at h;refine aC 6 7 3 (bI [6,10,11,12,13,14,15] [6,10,11,440001] [1054,440009] ?_);obtain⟨v48,h38,h⟩:=bind_some h;refine bP 1 (nu 173 [.ptr 6 12,iI v2.Content,.agg (cb v2),iI v48,iI (ab (v2.Content+v48)),.ptr 11 4]) [] [] [bZ Tryz.prog 259 Tryz.f100 (pn 32766) 6] (ay (vz 3) (ag (cD 0 1 176 (Mt hK h38)) (ay (vz 2) (ag (bX 0) bQ)))) ?_;obtain⟨v49,h39,h⟩:=cg h;refine bR (ks':=[cY 262140,cY 262141,cY 131071]) 4 ⟨[(6,.ptr 6 0),(10,.ptr 10 0),(11,.ptr 11 0),(12,.sl (lm aR v9.1)),(13,.bool v9.2),(15,iI v34)],[(6,cb v2),(10,List.set (aO bG) 66 (.nils)),(11,List.set (aO (⟨1,v1.Node,v2.Margin.a3,0,(ab (v2.Content+v48)),v49,0,⟨#[]⟩,v1.Style,v42,v43,v44,[]⟩:ai)) 66 (.ref 1054)),(440001,List.set (bL (⟨[],v26,v27⟩:bH)) 0 (.ref 440009))],[(1054,⟨44,67,lm aY v25⟩),(440009,⟨64,127,lm bd v28⟩)],[6,10,11,440001,1054,440009,1440001,440001]⟩ ?_ (by subst h39;kernel_rfl);exact aj 2 (az (bv aY v25) (ac (ae 1 (ci (p:=pn 524282) n (Og hK n h)))))
theorem ET(hK:ao K)(h:qz K n v1 v2 v9 v25 v26 v27 v28 v34 v41 v42 v43 v44 v45 v46=some r):g9 M w0 r [cY 32763,cY 8191] (RM v1 v2 v9 v25 v26 v27 v28 v34 v41 v42 v43 v44 v45 v46):=by
 unfold qz at h;obtain⟨h37,h⟩|⟨h37,h⟩:=ak h
 ·exact ah 166 h37 (ae 2 (E5 hK h))
 ·exact ah 166 h37 (ae 2 (E5 hK h))
theorem qc(hK:ao K)(h:i8 K n v1 v2 v9 v25 v26 v27 v28 v34 v41 v42 v43 v44=some r):g9 M w0 r [.b 3,cY 2047] (KG v1 v2 v9 v25 v26 v27 v28 v34 v41 v42 v43 v44):=by
 unfold i8 at h;refine pr 12 13 7 5 (aj 3 ?_);obtain⟨v45,h35,h⟩:=bind_some h;refine aU (eF hK h35) (ac (aC 2 3 1 (aj 2 ?_)));obtain⟨h36,h⟩|⟨h36,h⟩:=ak h
 ·exact aB 160 h36 (ac (ae 0 (ET hK h)))
 ·exact aB 160 h36 (ac (ae 0 (ET hK h)))
theorem yU(hK:ao K)(h:nn K n v1 v2 v4 v9 v21 v22 v23 v24 v25 v26 v27 v28 v30 v34 v35 v36=some r):g9 M w0 r [cY 8185,.b 3,cY 2047] (QG v1 v2 v4 v9 v21 v22 v23 v24 v25 v26 v27 v28 v30 v34 v35 v36):=by
 unfold nn at h;obtain⟨h27,h⟩|⟨h27,h⟩:=ak h
 ·refine ah 113 h27 (aC 4 5 2 (aj 4 ?_));obtain⟨v37,h28,h⟩:=bind_some h;exact aU (sJ hK h28) (ac (ae 5 (qc hK h)))
 ·refine ah 113 h27 (bh 7 3 ?_);obtain⟨h29,h⟩|⟨h29,h⟩:=ak h
  ·refine ah 131 h29 (bh 11 5 ?_);obtain⟨h30,h⟩|⟨h30,h⟩:=ak h
   ·refine ah 134 h30 (bh 2 1 (aj 3 ?_));obtain⟨v38,h31,h⟩:=bind_some h;exact aU (sJ hK h31) (ac (ae 0 (qc hK h)))
   ·exact ah 134 h30 (ae 2 (qc hK h))
  ·refine ah 131 h29 (bh 7 3 ?_);obtain⟨h32,h⟩|⟨h32,h⟩:=ak h
   ·refine ah 140 h32 (aC 4 5 2 (aj 3 ?_));obtain⟨v39,h33,h⟩:=bind_some h;exact aU (sJ hK h33) (ac (ae 1 (qc hK h)))
   ·refine ah 140 h32 (bh 3 1 (aj 3 ?_));obtain⟨v40,h34,h⟩:=bind_some h;exact aU (uS hK h34) (ac (ae 0 (qc hK h)))
theorem Av(hK:ao K)(h:pN K n v1 v2 v3 v4 v9 v21 v22 v23 v24 v25 v26 v27 v28 v30 v34 v35=some r):g9 M w0 r [.b 2,cY 1023] (PP v1 v2 v3 v4 v9 v21 v22 v23 v24 v25 v26 v27 v28 v30 v34 v35):=by
 unfold pN at h;refine c8 8 9 3 3 4 (aj 2 ?_);obtain⟨h25,h⟩|⟨h25,h⟩:=ak h
 ·refine aB 115 h25 (aM 5 3 ?_);obtain⟨h26,h⟩|⟨h26,h⟩:=ak h
  ·exact aB 118 h26 (ac (ae 0 (yU hK h)))
  ·exact aB 118 h26 (ac (ae 0 (yU hK h)))
 ·exact aB 115 h25 (ac (ae 0 (yU hK h)))
theorem II(hK:ao K)(h:qC K n v1 v2 v3 v4 v9 v21 v22 v23 v24 v25 v26 v27 v28 v29 v30 v32=some r):g9 M w0 r [cY 16359,.b 2,cY 1023] (KP v1 v2 v3 v4 v9 v21 v22 v23 v24 v25 v26 v27 v28 v29 v30 v32):=by
 unfold qC at h;obtain⟨h23,h⟩|⟨h23,h⟩:=ak h
 ·refine ah 98 h23 (bh 2 1 (aj 1 ?_));obtain⟨v33,h24,h⟩:=bind_some h;exact aU (uS hK h24) (ac (ae 0 (Av hK h)))
 ·exact ah 98 h23 (ae 2 (Av hK h))
theorem El(hK:ao K)(h:lJ K n v1 v2 v3 v4 v9 v21 v22 v23 v24 v25 v26 v27 v28=some r):g9 M w0 r [cY 255] (MF v1 v2 v3 v4 v9 v21 v22 v23 v24 v25 v26 v27 v28):=by
 unfold lJ at h;refine aC 2 3 1 (bI [2,3,5,6,10,11,12,13,14,15,16,17,18] [5,6,10,11,16,17,440001] [1054,440009] ?_);obtain⟨v29,h18,h⟩:=bind_some h;obtain⟨v30,h19,h⟩:=bind_some h;refine bP 2 (nu 81 [.ptr 6 0,.ptr 6 0,iI v2.Margin.a0,.agg (cz v29),.ptr 6 0,.ptr 6 2,iI v2.Margin.a2,.agg (cz v30),.ptr 11 61,.ptr 11 63]) [] [] [bZ Tryz.prog 259 Tryz.f100 (pn 510) 9,bZ Tryz.prog 259 Tryz.f100 (pn 510) 11] (ay (vz 3) (ag (cD 0 1 84 (JR hK h18)) (ay [.v 0 2,.v 0 2,.v 0 2] (ag (cD 0 1 88 (JR hK h19)) (ay [.v 0 1] (ag (bX 0) (ay [.v 1 1] (ag (bX 1) bQ)))))))) (gc 9 2 3 4 ?_);obtain⟨h20,h⟩|⟨h20,h⟩:=ak h
 ·refine ah 91 h20 (bh 2 1 (aj 3 ?_));obtain⟨v31,h21,h⟩:=bind_some h;exact aU (sJ hK h21) (ac (ae 0 (Av hK h)))
 ·refine ah 91 h20 (aC 6 7 2 (aj 3 ?_));obtain⟨h22,h⟩|⟨h22,h⟩:=ak h
  ·exact aB 101 h22 (ac (ae 0 (II hK h)))
  ·exact aB 101 h22 (ac (ae 0 (II hK h)))
theorem PI(hK:ao K)(hL1:JS M w0 r v1 v2 v3 v4 v5 v9 m1 L1)(h:sQ K n v1 v2 v3 v4 v5 v9 L1 v12 v13 v14 v15 v16=some r):g9 M w0 r (cY 32596::LW M w0 r m1) (Eg v1 v2 v3 v4 v5 v9 v12 v13 v14 v15 v16):=by
 unfold sQ at h;refine aC 6 7 3 ?_;obtain⟨h11,h⟩|⟨h11,h⟩:=ak h
 ·refine ah 39 h11 (c8 8 9 1 3 5 (aj 0 ?_));obtain⟨h12,h⟩:=aF h;refine az (bi aR aw h12 (d4) (dq)) (ac (aj 6 ?_));obtain⟨v17,h13,h⟩:=bind_some h;refine sI (hK.gm h13).2 ?_ (hK.gm h13).1;refine az (fO aY ([v17.1]:List ai) (new:=[aO v17.1]) (by simp only[List.map_cons,List.map_nil,er])) ?_;obtain⟨h14,h⟩:=aF h;exact az (cv 50 50 44 67 aY (rfl) (lg) h14) (ac (ae 2 (bw (hL1 h))))
 ·refine ah 39 h11 (bK (ks':=[cY 4075,cY 255]) 5 (aj 1 (vb 50 ?_)));obtain⟨v18,h15,h⟩:=bind_some h;exact fJ 1054 (Ml hK h15) (DP (i:=0) rfl) (ac (ae 0 (El hK h)))
theorem V8(hK:ao K)(m:Nat):JS M w0 r v1 v2 v3 v4 v5 v9 m (mF K n v1 v2 v3 v4 v5 v9 m):=by
 induction m with
 | zero=>intro v12 v13 v14 v15 v16 h;cases h
 | succ m ih=>intro v12 v13 v14 v15 v16 h;have h:sQ K n v1 v2 v3 v4 v5 v9 (mF K n v1 v2 v3 v4 v5 v9 m) v12 v13 v14 v15 v16=some r:=h;exact bB (PI hK ih h)
theorem C7(hK:ao K)(h:gK K n v1 v2 v3 v4 v5 v6 v7 v8=some r):eG Tryz.prog 100 [.agg (aw v1),.agg (cb v2),.bool v3,.bool v4,.agg (bW v5)] [(440001,List.set (bL (⟨[],v6,v7⟩:bH)) 0 (.ref 440009))] ⟨64,127,lm bd v8⟩ (fun v s=>v=.agg (aO r.1)∧cn s.o [(440001,List.set (bL (⟨[],r.2.1,r.2.2.1⟩:bH)) 0 (.ref 440009))]∧look 440009 s.r=some ⟨64,127,lm bd r.2.2.2⟩):=by
 refine jC (c:=cat Tryz.f100 []) Tryz.func100 (by kernel_rfl) _ Tryz.ntmps100 (of_decide_eq_true (by kernel_rfl)) fun M w0=>(bc ⟨[(0,.agg (aw v1)),(1,.agg (cb v2)),(2,.bool v3),(3,.bool v4),(4,.agg (bW v5))],[(440001,List.set (bL (⟨[],v6,v7⟩:bH)) 0 (.ref 440009))],[(440009,⟨64,127,lm bd v8⟩)],[440009,440001,1440001]⟩ ?_);unfold gK at h;refine bK (ks':=[cY 14,cY 15]) 5 (aj 1 ?_);obtain⟨v9,h1,h⟩:=bind_some h;refine aU (C8 hK h1) (ac (aC 61 31 9 ?_));obtain⟨h2,h⟩|⟨h2,h⟩:=ak h
 ·exact ah 35 h2 (bO 20 21 11 5 (aj 1 (az (bv aR v9.1) (ac (il 2 0 1 (bI [2,3,5,6,9,10,11,12,13,15,16,17,19,36,37,38] [5,6,9,10,11,16,17,440001] [440009] (fZ 50 19 44 67 (ae 0 (ci (p:=pn 16298) n (V8 hK n h))))))))))
 ·refine ah 35 h2 (aC 6 7 2 (aj 7 ?_));obtain⟨v19,h16,h⟩:=bind_some h;refine lf (hK.rB h16) (ac (aC 2 3 1 (aj 2 ?_)));obtain⟨v20,h17,h⟩:=bind_some h;exact fJ 1075 (Ae hK h17) (fL 5) (ac (aj 2 (az (bv aY v20) (ac (bI [2,3,5,6,10,11,12,13,14,15,16,17,18] [5,6,10,11,16,17,440001] [1075,440009] (Ch 1075 1054 (ae 0 (El hK h))))))))
end
noncomputable section
variable[GS](M:Nat→Prop)(w0:aE)(r:ai×Int×Int×(List aG))(v1:aa)(v2:Int)(v3:bF)(v4 v5:Int)(v6:List aG)(v7:bN)(v8 v9:Bool)  
abbrev uQ(n:Nat):aq:=.c (cat Tryz.f47 (pn n))
abbrev Oi:Cx:=⟨Tryz.prog,58,M,w0⟩
abbrev KZ:=bodyPost Tryz.prog Tryz.f47 (bA M w0 (fun v s=>v=.agg (aO r.1)∧cn s.o [(440001,List.set (bL (⟨[],r.2.1,r.2.2.1⟩:bH)) 0 (.ref 440009))]∧look 440009 s.r=some ⟨64,127,lm bd r.2.2.2⟩))
abbrev Hh(ks:List aq)(s:AS):=VE (Oi M w0) (KZ M w0 r) ks .normal s
def SA:AS:=⟨[(3,.ptr 3 0),(5,.ptr 5 0),(6,.ptr 6 0),(7,.ptr 7 0),(9,.bool v8),(10,.bool v9)],[(3,aw v1),(5,bW v3),(6,List.set (aO bG) 66 (.nils)),(7,cb v7),(440001,List.set (bL (⟨[],v4,v5⟩:bH)) 0 (.ref 440009))],[(440009,⟨64,127,lm bd v6⟩)],[3,5,6,7,440001,440009,1440001,440001]⟩
def N7:AS:=⟨[(3,.ptr 3 0),(5,.ptr 5 0),(6,.ptr 6 0),(7,.ptr 7 0),(8,.bool (v1.Style.Overflow == 0)),(9,.bool v8)],[(3,aw v1),(5,bW v3),(6,List.set (aO bG) 66 (.nils)),(7,cb v7),(440001,List.set (bL (⟨[],v4,v5⟩:bH)) 0 (.ref 440009))],[(440009,⟨64,127,lm bd v6⟩)],[3,5,6,7,440001,440009,1440001,440001]⟩
variable{M w0 r v1 v2 v3 v4 v5 v6 v7 v8 v9}{K:Kn}{n:Nat}[SG w0]
theorem vd(hK:ao K)(h:ow K n v1 v3 v4 v5 v6 v7 v8 v9=some r):Hh M w0 r [uQ 63] (SA v1 v3 v4 v5 v6 v7 v8 v9):=by
 unfold ow at h;refine aC 2 3 1 (aj 5 ?_);obtain⟨v10,h7,h⟩:=bind_some h;refine sI (C7 hK h7) (ac (aL 1 ?_));cases h;exact dT
theorem BR(hK:ao K)(h:kZ K n v1 v3 v4 v5 v6 v7 v8=some r):Hh M w0 r [uQ 31] (N7 v1 v3 v4 v5 v6 v7 v8):=by
 unfold kZ at h;refine aC 2 3 1 (aj 2 ?_);obtain⟨h4,h⟩|⟨h4,h⟩:=ak h
 ·refine aB 33 h4 (aM 8 6 ?_);obtain⟨h5,h⟩|⟨h5,h⟩:=ak h
  ·refine aB 39 h5 (aM 14 6 ?_);obtain⟨h6,h⟩|⟨h6,h⟩:=ak h
   ·exact aB 45 h6 (ac (ae 0 (vd hK h)))
   ·exact aB 45 h6 (ac (ae 0 (vd hK h)))
  ·exact aB 39 h5 (ac (ae 0 (vd hK h)))
 ·exact aB 33 h4 (ac (ae 0 (vd hK h)))
theorem Tk(hK:ao K)(h:nl K n v1 v2 v3 v4 v5 v6=some r):eG Tryz.prog 47 [.agg (aw v1),iI v2,.agg (bW v3)] [(440001,List.set (bL (⟨[],v4,v5⟩:bH)) 0 (.ref 440009))] ⟨64,127,lm bd v6⟩ (fun v s=>v=.agg (aO r.1)∧cn s.o [(440001,List.set (bL (⟨[],r.2.1,r.2.2.1⟩:bH)) 0 (.ref 440009))]∧look 440009 s.r=some ⟨64,127,lm bd r.2.2.2⟩):=by
 refine jC (c:=cat Tryz.f47 []) Tryz.func47 (by kernel_rfl) _ Tryz.ntmps47 (of_decide_eq_true (by kernel_rfl)) fun M w0=>(bc ⟨[(0,.agg (aw v1)),(1,iI v2),(2,.agg (bW v3))],[(440001,List.set (bL (⟨[],v4,v5⟩:bH)) 0 (.ref 440009))],[(440009,⟨64,127,lm bd v6⟩)],[440009,440001,1440001]⟩ ?_);unfold nl at h;refine bK (ks':=[uQ 6,uQ 7]) 3 (aj 3 ?_);obtain⟨v7,h1,h⟩:=bind_some h;refine aU (Jd hK h1) (ac (aC 6 7 3 (aj 2 ?_)));obtain⟨h2,h⟩|⟨h2,h⟩:=ak h
 ·refine aB 20 h2 (aM 8 6 ?_);obtain⟨h3,h⟩|⟨h3,h⟩:=ak h
  ·exact aB 26 h3 (ac (ae 0 (BR hK h)))
  ·exact aB 26 h3 (ac (ae 0 (BR hK h)))
 ·exact aB 20 h2 (ac (ae 0 (BR hK h)))
end
noncomputable section
variable[GS](M:Nat→Prop)(w0:aE)(r:ai×Int×Int×(List aG))(v1:aa)(v2:Int)(v3:Bool)(v4:bF)(v5:Bool)(v6 v7:Int)(v8:List aG)(v10 v11:Int)(v12:List aG)(v13:ai×Int×Int×(List aG))(v15 v16:Int)(v17:List aG)  
abbrev qh(n:Nat):aq:=.c (cat Tryz.f43 (pn n))
abbrev KI:Cx:=⟨Tryz.prog,54,M,w0⟩
abbrev PT:=bodyPost Tryz.prog Tryz.f43 (bA M w0 (fun v s=>v=.agg (aO r.1)∧cn s.o [(440001,List.set (bL (⟨[],r.2.1,r.2.2.1⟩:bH)) 0 (.ref 440009))]∧look 440009 s.r=some ⟨64,127,lm bd r.2.2.2⟩))
abbrev J9(ks:List aq)(s:AS):=VE (KI M w0) (PT M w0 r) ks .normal s
def M1:AS:=⟨[(7,.ptr 7 0),(10,.ptr 10 0)],[(7,List.set (aO bG) 66 (.nils)),(10,aO v13.1),(440001,List.set (bL (⟨[],v15,v16⟩:bH)) 0 (.ref 440009))],[(440009,⟨64,127,lm bd v17⟩)],[7,10,440001,440009,1440001,440001]⟩
def S2:AS:=⟨[(1,iI v2),(3,.cptr (bW v4)),(4,.cptr ([dw 37 v5])),(5,.ptr 5 0),(7,.ptr 7 0)],[(5,aw v1),(7,List.set (aO bG) 66 (.nils)),(440001,List.set (bL (⟨[],v10,v11⟩:bH)) 0 (.ref 440009))],[(440009,⟨64,127,lm bd v12⟩)],[5,7,440001,440009,1440001,440001]⟩
variable{M w0 r v1 v2 v3 v4 v5 v6 v7 v8 v10 v11 v12 v13 v15 v16 v17}{K:Kn}{n:Nat}[SG w0]
theorem EE(hK:ao K)(h:q7 K n v13 v15 v16 v17=some r):J9 M w0 r [qh 63] (M1 v13 v15 v16 v17):=by
 unfold q7 at h;refine aL 3 ?_;cases h;exact dT
theorem IH(hK:ao K)(h:qf K n v1 v2 v4 v5 v10 v11 v12=some r):J9 M w0 r [qh 7] (S2 v1 v2 v4 v5 v10 v11 v12):=by
 unfold qf at h;refine gc 53 0 7 8 ?_;obtain⟨h5,h⟩|⟨h5,h⟩:=ak h
 ·refine ah 28 h5 ?_;cases h
 ·refine ah 28 h5 (bh 7 3 ?_);obtain⟨h6,h⟩|⟨h6,h⟩:=ak h
  ·refine ah 34 h6 ?_;cases h
  ·refine ah 34 h6 (bh 7 3 ?_);obtain⟨h7,h⟩|⟨h7,h⟩:=ak h
   ·refine ah 40 h7 ?_;cases h
   ·refine ah 40 h7 (bh 3 1 (aj 3 ?_));obtain⟨v13,h8,h⟩:=bind_some h;refine sI (Tk hK h8) (ac (pr 4 5 3 3 (aj 1 (EF 37 v5 .neq 89 89 (.tmp 46) (.const .nilFunc) 47 (ac ?_)))));obtain⟨h9,h⟩|⟨h9,h⟩:=ak h
    ·refine ah 47 h9 (bh 2 1 (aj 4 ?_));obtain⟨h11,h⟩:=aF h;obtain⟨v14,h10,h⟩:=bind_some h;exact zf 48 (v:=dw 37 v5) (v':=.vv (fF 37 GS.g)) (by kernel_rfl) (by rw[h11];rfl) rfl (DJ (PL hK h10) (ac (ae 0 (EE hK h))))
    ·exact ah 47 h9 (ae 2 (EE hK h))
theorem RA(hK:ao K)(h:rU K n v1 v2 v3 v4 v5 v6 v7 v8=some r):eG Tryz.prog 43 [.agg (aw v1),iI v2,.cptr ([dw 36 v3]),.cptr (bW v4),.cptr ([dw 37 v5])] [(440001,List.set (bL (⟨[],v6,v7⟩:bH)) 0 (.ref 440009))] ⟨64,127,lm bd v8⟩ (fun v s=>v=.agg (aO r.1)∧cn s.o [(440001,List.set (bL (⟨[],r.2.1,r.2.2.1⟩:bH)) 0 (.ref 440009))]∧look 440009 s.r=some ⟨64,127,lm bd r.2.2.2⟩):=by
 refine jC (c:=cat Tryz.f43 []) Tryz.func43 (by kernel_rfl) _ Tryz.ntmps43 (of_decide_eq_true (by kernel_rfl)) fun M w0=>(bc ⟨[(0,.agg (aw v1)),(1,iI v2),(2,.cptr ([dw 36 v3])),(3,.cptr (bW v4)),(4,.cptr ([dw 37 v5]))],[(440001,List.set (bL (⟨[],v6,v7⟩:bH)) 0 (.ref 440009))],[(440009,⟨64,127,lm bd v8⟩)],[440009,440001,1440001]⟩ ?_);unfold rU at h;refine bK (ks':=[qh 12,qh 13,qh 7]) 4 (aj 1 (EF 36 v3 .neq 66 66 (.tmp 11) (.const .nilFunc) 12 (ac ?_)));obtain⟨h1,h⟩|⟨h1,h⟩:=ak h
 ·refine ah 12 h1 (aC 4 5 2 (aj 3 ?_));obtain⟨h3,h⟩:=aF h;obtain⟨v9,h2,h⟩:=bind_some h;refine zf 14 (v:=dw 36 v3) (v':=.vv (fF 36 GS.g)) (by kernel_rfl) (by rw[h3];rfl) rfl (DJ (Sa hK h2) (ac (bh 3 2 ?_)));obtain⟨h4,h⟩|⟨h4,h⟩:=ak h
  ·refine ah 20 h4 (aL 5 ?_);cases h;exact dT
  ·exact ah 20 h4 (ae 2 (IH hK h))
 ·exact ah 12 h1 (ae 2 (IH hK h))
end
noncomputable section
variable[GS](M:Nat→Prop)(w0:aE)(r v1:aJ)(v2:Nat)(v3 v4 v5 v6 v7 v8 v9 v10 v11 v12 v13:aJ)  
abbrev du(n:Nat):aq:=.c (cat Tryz.f108 (pn n))
abbrev xU:Cx:=⟨Tryz.prog,40,M,w0⟩
abbrev Aw:=bodyPost Tryz.prog Tryz.f108 (bA M w0 (fun v _=>v=.agg (aV r)))
abbrev ia(ks:List aq)(s:AS):=VE (xU M w0) (Aw M w0 r) ks .normal s
def QI:AS:=⟨[(1,.pp 1 v2 0),(2,.ptr 2 0),(24,.ref 10),(25,iI 11),(26,iI 10)],[(1,aV v13),(2,aV cS)],[(10,⟨201,1,lm bz [(v2,6),(v2,10),(v2,12),(v2,14),(v2,22),(v2,16),(v2,24),(v2,18),(v2,26),(v2,20),(v2,28)]⟩)],[1,2,10]⟩
def PN:AS:=⟨[(1,.pp 1 v2 0),(2,.ptr 2 0),(24,.ref 10),(25,iI 11),(26,iI 9)],[(1,aV v12),(2,aV cS)],[(10,⟨201,1,lm bz [(v2,6),(v2,10),(v2,12),(v2,14),(v2,22),(v2,16),(v2,24),(v2,18),(v2,26),(v2,20),(v2,28)]⟩)],[1,2,10]⟩
def Py:AS:=⟨[(1,.pp 1 v2 0),(2,.ptr 2 0),(24,.ref 10),(25,iI 11),(26,iI 8)],[(1,aV v11),(2,aV cS)],[(10,⟨201,1,lm bz [(v2,6),(v2,10),(v2,12),(v2,14),(v2,22),(v2,16),(v2,24),(v2,18),(v2,26),(v2,20),(v2,28)]⟩)],[1,2,10]⟩
def Nc:AS:=⟨[(1,.pp 1 v2 0),(2,.ptr 2 0),(24,.ref 10),(25,iI 11),(26,iI 7)],[(1,aV v10),(2,aV cS)],[(10,⟨201,1,lm bz [(v2,6),(v2,10),(v2,12),(v2,14),(v2,22),(v2,16),(v2,24),(v2,18),(v2,26),(v2,20),(v2,28)]⟩)],[1,2,10]⟩
def VV:AS:=⟨[(1,.pp 1 v2 0),(2,.ptr 2 0),(24,.ref 10),(25,iI 11),(26,iI 6)],[(1,aV v9),(2,aV cS)],[(10,⟨201,1,lm bz [(v2,6),(v2,10),(v2,12),(v2,14),(v2,22),(v2,16),(v2,24),(v2,18),(v2,26),(v2,20),(v2,28)]⟩)],[1,2,10]⟩
def VN:AS:=⟨[(1,.pp 1 v2 0),(2,.ptr 2 0),(24,.ref 10),(25,iI 11),(26,iI 5)],[(1,aV v8),(2,aV cS)],[(10,⟨201,1,lm bz [(v2,6),(v2,10),(v2,12),(v2,14),(v2,22),(v2,16),(v2,24),(v2,18),(v2,26),(v2,20),(v2,28)]⟩)],[1,2,10]⟩
def LY:AS:=⟨[(1,.pp 1 v2 0),(2,.ptr 2 0),(24,.ref 10),(25,iI 11),(26,iI 4)],[(1,aV v7),(2,aV cS)],[(10,⟨201,1,lm bz [(v2,6),(v2,10),(v2,12),(v2,14),(v2,22),(v2,16),(v2,24),(v2,18),(v2,26),(v2,20),(v2,28)]⟩)],[1,2,10]⟩
def PS:AS:=⟨[(1,.pp 1 v2 0),(2,.ptr 2 0),(24,.ref 10),(25,iI 11),(26,iI 3)],[(1,aV v6),(2,aV cS)],[(10,⟨201,1,lm bz [(v2,6),(v2,10),(v2,12),(v2,14),(v2,22),(v2,16),(v2,24),(v2,18),(v2,26),(v2,20),(v2,28)]⟩)],[1,2,10]⟩
def TI:AS:=⟨[(1,.pp 1 v2 0),(2,.ptr 2 0),(24,.ref 10),(25,iI 11),(26,iI 2)],[(1,aV v5),(2,aV cS)],[(10,⟨201,1,lm bz [(v2,6),(v2,10),(v2,12),(v2,14),(v2,22),(v2,16),(v2,24),(v2,18),(v2,26),(v2,20),(v2,28)]⟩)],[1,2,10]⟩
def NO:AS:=⟨[(1,.pp 1 v2 0),(2,.ptr 2 0),(24,.ref 10),(25,iI 11),(26,iI 1)],[(1,aV v4),(2,aV cS)],[(10,⟨201,1,lm bz [(v2,6),(v2,10),(v2,12),(v2,14),(v2,22),(v2,16),(v2,24),(v2,18),(v2,26),(v2,20),(v2,28)]⟩)],[1,2,10]⟩
def TJ:AS:=⟨[(1,.pp 1 v2 0),(2,.ptr 2 0),(24,.ref 10),(25,iI 11),(26,iI 0)],[(1,aV v3),(2,aV cS)],[(10,⟨201,1,lm bz [(v2,6),(v2,10),(v2,12),(v2,14),(v2,22),(v2,16),(v2,24),(v2,18),(v2,26),(v2,20),(v2,28)]⟩)],[1,2,10]⟩
abbrev dA(m:Nat):List aq:=kl (xU M w0) (Aw M w0 r) [.b 2,du 31] (cat Tryz.f108 (pn 244)) m::[.b 2,du 31]
abbrev qB(m:Nat):List aq:=kl (xU M w0) (Aw M w0 r) [.b 0,du 15] (cat Tryz.f108 (pn 116)) m::[.b 0,du 15]
variable{M w0 r v1 v2 v3 v4 v5 v6 v7 v8 v9 v10 v11 v12 v13}{K:Kn}{n:Nat}
theorem Ei(hK:ao K)(h:uU K n v13=some r):ia M w0 r (.b 3::du 1959::dA M w0 r 29) (QI v2 v13):=by
 unfold uU at h;refine bR (ks':=dA M w0 r 29) 2 ⟨[(1,.pp 1 v2 0),(2,.ptr 2 0),(24,.ref 10),(25,iI 11),(26,iI 11)],[(1,aV v13),(2,aV cS)],[(10,⟨201,1,lm bz [(v2,6),(v2,10),(v2,12),(v2,14),(v2,22),(v2,16),(v2,24),(v2,18),(v2,26),(v2,20),(v2,28)]⟩)],[1,2,10]⟩ (bw (bB (aL 11 ?_)));cases h;exact bj
theorem DV(hK:ao K)(h:tV K n v12=some r):ia M w0 r (.b 3::du 1959::dA M w0 r 30) (PN v2 v12):=by
 unfold tV at h;refine bR (ks':=dA M w0 r 30) 2 ⟨[(1,.pp 1 v2 0),(2,.ptr 2 0),(24,.ref 10),(25,iI 11),(26,iI 10)],[(1,aV v12),(2,aV cS)],[(10,⟨201,1,lm bz [(v2,6),(v2,10),(v2,12),(v2,14),(v2,22),(v2,16),(v2,24),(v2,18),(v2,26),(v2,20),(v2,28)]⟩)],[1,2,10]⟩ (bw (bB (dM 56 57 3 15 8 (aj 0 (az (cT 10 1 bz (L:=([(v2,6),(v2,10),(v2,12),(v2,14),(v2,22),(v2,16),(v2,24),(v2,18),(v2,26),(v2,20),(v2,28)]:List (Nat×Nat))) (i:=(10:Int)) (by kernel_rfl)) (az (cO 201 0 bz bz (L:=([(v2,6),(v2,10),(v2,12),(v2,14),(v2,22),(v2,16),(v2,24),(v2,18),(v2,26),(v2,20),(v2,28)]:List (Nat×Nat))) (j:=(10:Int).toNat) (of_decide_eq_true (by kernel_rfl)) ((fun _=>rfl))) (ac (aC 2 3 1 (aj 3 (dI 32 1 1 v2 28 0 (ac ?_)))))))))));obtain⟨h11,h⟩|⟨h11,h⟩:=ak h
 ·exact ah 34 h11 (bh 2 1 (aj 3 (dI 37 1 1 v2 28 0 (ac (ae 0 (Ei hK (v2:=v2) h))))))
 ·exact ah 34 h11 (ae 2 (Ei hK (v2:=v2) h))
theorem G9(hK:ao K)(h:vH K n v11=some r):ia M w0 r (.b 3::du 1959::dA M w0 r 31) (Py v2 v11):=by
 unfold vH at h;refine bR (ks':=dA M w0 r 31) 2 ⟨[(1,.pp 1 v2 0),(2,.ptr 2 0),(24,.ref 10),(25,iI 11),(26,iI 9)],[(1,aV v11),(2,aV cS)],[(10,⟨201,1,lm bz [(v2,6),(v2,10),(v2,12),(v2,14),(v2,22),(v2,16),(v2,24),(v2,18),(v2,26),(v2,20),(v2,28)]⟩)],[1,2,10]⟩ (bw (bB (dM 56 57 3 15 8 (aj 0 (az (cT 10 1 bz (L:=([(v2,6),(v2,10),(v2,12),(v2,14),(v2,22),(v2,16),(v2,24),(v2,18),(v2,26),(v2,20),(v2,28)]:List (Nat×Nat))) (i:=(9:Int)) (by kernel_rfl)) (az (cO 201 0 bz bz (L:=([(v2,6),(v2,10),(v2,12),(v2,14),(v2,22),(v2,16),(v2,24),(v2,18),(v2,26),(v2,20),(v2,28)]:List (Nat×Nat))) (j:=(9:Int).toNat) (of_decide_eq_true (by kernel_rfl)) ((fun _=>rfl))) (ac (aC 2 3 1 (aj 3 (dI 32 1 1 v2 20 0 (ac ?_)))))))))));obtain⟨h10,h⟩|⟨h10,h⟩:=ak h
 ·exact ah 34 h10 (bh 2 1 (aj 3 (dI 37 1 1 v2 20 0 (ac (ae 0 (DV hK (v2:=v2) h))))))
 ·exact ah 34 h10 (ae 2 (DV hK (v2:=v2) h))
theorem EN(hK:ao K)(h:vG K n v10=some r):ia M w0 r (.b 3::du 1959::dA M w0 r 32) (Nc v2 v10):=by
 unfold vG at h;refine bR (ks':=dA M w0 r 32) 2 ⟨[(1,.pp 1 v2 0),(2,.ptr 2 0),(24,.ref 10),(25,iI 11),(26,iI 8)],[(1,aV v10),(2,aV cS)],[(10,⟨201,1,lm bz [(v2,6),(v2,10),(v2,12),(v2,14),(v2,22),(v2,16),(v2,24),(v2,18),(v2,26),(v2,20),(v2,28)]⟩)],[1,2,10]⟩ (bw (bB (dM 56 57 3 15 8 (aj 0 (az (cT 10 1 bz (L:=([(v2,6),(v2,10),(v2,12),(v2,14),(v2,22),(v2,16),(v2,24),(v2,18),(v2,26),(v2,20),(v2,28)]:List (Nat×Nat))) (i:=(8:Int)) (by kernel_rfl)) (az (cO 201 0 bz bz (L:=([(v2,6),(v2,10),(v2,12),(v2,14),(v2,22),(v2,16),(v2,24),(v2,18),(v2,26),(v2,20),(v2,28)]:List (Nat×Nat))) (j:=(8:Int).toNat) (of_decide_eq_true (by kernel_rfl)) ((fun _=>rfl))) (ac (aC 2 3 1 (aj 3 (dI 32 1 1 v2 26 0 (ac ?_)))))))))));obtain⟨h9,h⟩|⟨h9,h⟩:=ak h
 ·exact ah 34 h9 (bh 2 1 (aj 3 (dI 37 1 1 v2 26 0 (ac (ae 0 (G9 hK (v2:=v2) h))))))
 ·exact ah 34 h9 (ae 2 (G9 hK (v2:=v2) h))
theorem CC(hK:ao K)(h:vU K n v9=some r):ia M w0 r (.b 3::du 1959::dA M w0 r 33) (VV v2 v9):=by
 unfold vU at h;refine bR (ks':=dA M w0 r 33) 2 ⟨[(1,.pp 1 v2 0),(2,.ptr 2 0),(24,.ref 10),(25,iI 11),(26,iI 7)],[(1,aV v9),(2,aV cS)],[(10,⟨201,1,lm bz [(v2,6),(v2,10),(v2,12),(v2,14),(v2,22),(v2,16),(v2,24),(v2,18),(v2,26),(v2,20),(v2,28)]⟩)],[1,2,10]⟩ (bw (bB (dM 56 57 3 15 8 (aj 0 (az (cT 10 1 bz (L:=([(v2,6),(v2,10),(v2,12),(v2,14),(v2,22),(v2,16),(v2,24),(v2,18),(v2,26),(v2,20),(v2,28)]:List (Nat×Nat))) (i:=(7:Int)) (by kernel_rfl)) (az (cO 201 0 bz bz (L:=([(v2,6),(v2,10),(v2,12),(v2,14),(v2,22),(v2,16),(v2,24),(v2,18),(v2,26),(v2,20),(v2,28)]:List (Nat×Nat))) (j:=(7:Int).toNat) (of_decide_eq_true (by kernel_rfl)) ((fun _=>rfl))) (ac (aC 2 3 1 (aj 3 (dI 32 1 1 v2 18 0 (ac ?_)))))))))));obtain⟨h8,h⟩|⟨h8,h⟩:=ak h
 ·exact ah 34 h8 (bh 2 1 (aj 3 (dI 37 1 1 v2 18 0 (ac (ae 0 (EN hK (v2:=v2) h))))))
 ·exact ah 34 h8 (ae 2 (EN hK (v2:=v2) h))
theorem I5(hK:ao K)(h:vo K n v8=some r):ia M w0 r (.b 3::du 1959::dA M w0 r 34) (VN v2 v8):=by
 unfold vo at h;refine bR (ks':=dA M w0 r 34) 2 ⟨[(1,.pp 1 v2 0),(2,.ptr 2 0),(24,.ref 10),(25,iI 11),(26,iI 6)],[(1,aV v8),(2,aV cS)],[(10,⟨201,1,lm bz [(v2,6),(v2,10),(v2,12),(v2,14),(v2,22),(v2,16),(v2,24),(v2,18),(v2,26),(v2,20),(v2,28)]⟩)],[1,2,10]⟩ (bw (bB (dM 56 57 3 15 8 (aj 0 (az (cT 10 1 bz (L:=([(v2,6),(v2,10),(v2,12),(v2,14),(v2,22),(v2,16),(v2,24),(v2,18),(v2,26),(v2,20),(v2,28)]:List (Nat×Nat))) (i:=(6:Int)) (by kernel_rfl)) (az (cO 201 0 bz bz (L:=([(v2,6),(v2,10),(v2,12),(v2,14),(v2,22),(v2,16),(v2,24),(v2,18),(v2,26),(v2,20),(v2,28)]:List (Nat×Nat))) (j:=(6:Int).toNat) (of_decide_eq_true (by kernel_rfl)) ((fun _=>rfl))) (ac (aC 2 3 1 (aj 3 (dI 32 1 1 v2 24 0 (ac ?_)))))))))));obtain⟨h7,h⟩|⟨h7,h⟩:=ak h
 ·exact ah 34 h7 (bh 2 1 (aj 3 (dI 37 1 1 v2 24 0 (ac (ae 0 (CC hK (v2:=v2) h))))))
 ·exact ah 34 h7 (ae 2 (CC hK (v2:=v2) h))
theorem DX(hK:ao K)(h:vL K n v7=some r):ia M w0 r (.b 3::du 1959::dA M w0 r 35) (LY v2 v7):=by
 unfold vL at h;refine bR (ks':=dA M w0 r 35) 2 ⟨[(1,.pp 1 v2 0),(2,.ptr 2 0),(24,.ref 10),(25,iI 11),(26,iI 5)],[(1,aV v7),(2,aV cS)],[(10,⟨201,1,lm bz [(v2,6),(v2,10),(v2,12),(v2,14),(v2,22),(v2,16),(v2,24),(v2,18),(v2,26),(v2,20),(v2,28)]⟩)],[1,2,10]⟩ (bw (bB (dM 56 57 3 15 8 (aj 0 (az (cT 10 1 bz (L:=([(v2,6),(v2,10),(v2,12),(v2,14),(v2,22),(v2,16),(v2,24),(v2,18),(v2,26),(v2,20),(v2,28)]:List (Nat×Nat))) (i:=(5:Int)) (by kernel_rfl)) (az (cO 201 0 bz bz (L:=([(v2,6),(v2,10),(v2,12),(v2,14),(v2,22),(v2,16),(v2,24),(v2,18),(v2,26),(v2,20),(v2,28)]:List (Nat×Nat))) (j:=(5:Int).toNat) (of_decide_eq_true (by kernel_rfl)) ((fun _=>rfl))) (ac (aC 2 3 1 (aj 3 (dI 32 1 1 v2 16 0 (ac ?_)))))))))));obtain⟨h6,h⟩|⟨h6,h⟩:=ak h
 ·exact ah 34 h6 (bh 2 1 (aj 3 (dI 37 1 1 v2 16 0 (ac (ae 0 (I5 hK (v2:=v2) h))))))
 ·exact ah 34 h6 (ae 2 (I5 hK (v2:=v2) h))
theorem Gb(hK:ao K)(h:uN K n v6=some r):ia M w0 r (.b 3::du 1959::dA M w0 r 36) (PS v2 v6):=by
 unfold uN at h;refine bR (ks':=dA M w0 r 36) 2 ⟨[(1,.pp 1 v2 0),(2,.ptr 2 0),(24,.ref 10),(25,iI 11),(26,iI 4)],[(1,aV v6),(2,aV cS)],[(10,⟨201,1,lm bz [(v2,6),(v2,10),(v2,12),(v2,14),(v2,22),(v2,16),(v2,24),(v2,18),(v2,26),(v2,20),(v2,28)]⟩)],[1,2,10]⟩ (bw (bB (dM 56 57 3 15 8 (aj 0 (az (cT 10 1 bz (L:=([(v2,6),(v2,10),(v2,12),(v2,14),(v2,22),(v2,16),(v2,24),(v2,18),(v2,26),(v2,20),(v2,28)]:List (Nat×Nat))) (i:=(4:Int)) (by kernel_rfl)) (az (cO 201 0 bz bz (L:=([(v2,6),(v2,10),(v2,12),(v2,14),(v2,22),(v2,16),(v2,24),(v2,18),(v2,26),(v2,20),(v2,28)]:List (Nat×Nat))) (j:=(4:Int).toNat) (of_decide_eq_true (by kernel_rfl)) ((fun _=>rfl))) (ac (aC 2 3 1 (aj 3 (dI 32 1 1 v2 22 0 (ac ?_)))))))))));obtain⟨h5,h⟩|⟨h5,h⟩:=ak h
 ·exact ah 34 h5 (bh 2 1 (aj 3 (dI 37 1 1 v2 22 0 (ac (ae 0 (DX hK (v2:=v2) h))))))
 ·exact ah 34 h5 (ae 2 (DX hK (v2:=v2) h))
theorem H8(hK:ao K)(h:w4 K n v5=some r):ia M w0 r (.b 3::du 1959::dA M w0 r 37) (TI v2 v5):=by
 unfold w4 at h;refine bR (ks':=dA M w0 r 37) 2 ⟨[(1,.pp 1 v2 0),(2,.ptr 2 0),(24,.ref 10),(25,iI 11),(26,iI 3)],[(1,aV v5),(2,aV cS)],[(10,⟨201,1,lm bz [(v2,6),(v2,10),(v2,12),(v2,14),(v2,22),(v2,16),(v2,24),(v2,18),(v2,26),(v2,20),(v2,28)]⟩)],[1,2,10]⟩ (bw (bB (dM 56 57 3 15 8 (aj 0 (az (cT 10 1 bz (L:=([(v2,6),(v2,10),(v2,12),(v2,14),(v2,22),(v2,16),(v2,24),(v2,18),(v2,26),(v2,20),(v2,28)]:List (Nat×Nat))) (i:=(3:Int)) (by kernel_rfl)) (az (cO 201 0 bz bz (L:=([(v2,6),(v2,10),(v2,12),(v2,14),(v2,22),(v2,16),(v2,24),(v2,18),(v2,26),(v2,20),(v2,28)]:List (Nat×Nat))) (j:=(3:Int).toNat) (of_decide_eq_true (by kernel_rfl)) ((fun _=>rfl))) (ac (aC 2 3 1 (aj 3 (dI 32 1 1 v2 14 0 (ac ?_)))))))))));obtain⟨h4,h⟩|⟨h4,h⟩:=ak h
 ·exact ah 34 h4 (bh 2 1 (aj 3 (dI 37 1 1 v2 14 0 (ac (ae 0 (Gb hK (v2:=v2) h))))))
 ·exact ah 34 h4 (ae 2 (Gb hK (v2:=v2) h))
theorem H2(hK:ao K)(h:wE K n v4=some r):ia M w0 r (.b 3::du 1959::dA M w0 r 38) (NO v2 v4):=by
 unfold wE at h;refine bR (ks':=dA M w0 r 38) 2 ⟨[(1,.pp 1 v2 0),(2,.ptr 2 0),(24,.ref 10),(25,iI 11),(26,iI 2)],[(1,aV v4),(2,aV cS)],[(10,⟨201,1,lm bz [(v2,6),(v2,10),(v2,12),(v2,14),(v2,22),(v2,16),(v2,24),(v2,18),(v2,26),(v2,20),(v2,28)]⟩)],[1,2,10]⟩ (bw (bB (dM 56 57 3 15 8 (aj 0 (az (cT 10 1 bz (L:=([(v2,6),(v2,10),(v2,12),(v2,14),(v2,22),(v2,16),(v2,24),(v2,18),(v2,26),(v2,20),(v2,28)]:List (Nat×Nat))) (i:=(2:Int)) (by kernel_rfl)) (az (cO 201 0 bz bz (L:=([(v2,6),(v2,10),(v2,12),(v2,14),(v2,22),(v2,16),(v2,24),(v2,18),(v2,26),(v2,20),(v2,28)]:List (Nat×Nat))) (j:=(2:Int).toNat) (of_decide_eq_true (by kernel_rfl)) ((fun _=>rfl))) (ac (aC 2 3 1 (aj 3 (dI 32 1 1 v2 12 0 (ac ?_)))))))))));obtain⟨h3,h⟩|⟨h3,h⟩:=ak h
 ·exact ah 34 h3 (bh 2 1 (aj 3 (dI 37 1 1 v2 12 0 (ac (ae 0 (H8 hK (v2:=v2) h))))))
 ·exact ah 34 h3 (ae 2 (H8 hK (v2:=v2) h))
theorem IZ(hK:ao K)(h:wz K n v3=some r):ia M w0 r (.b 3::du 1959::dA M w0 r 39) (TJ v2 v3):=by
 unfold wz at h;refine bR (ks':=dA M w0 r 39) 2 ⟨[(1,.pp 1 v2 0),(2,.ptr 2 0),(24,.ref 10),(25,iI 11),(26,iI 1)],[(1,aV v3),(2,aV cS)],[(10,⟨201,1,lm bz [(v2,6),(v2,10),(v2,12),(v2,14),(v2,22),(v2,16),(v2,24),(v2,18),(v2,26),(v2,20),(v2,28)]⟩)],[1,2,10]⟩ (bw (bB (dM 56 57 3 15 8 (aj 0 (az (cT 10 1 bz (L:=([(v2,6),(v2,10),(v2,12),(v2,14),(v2,22),(v2,16),(v2,24),(v2,18),(v2,26),(v2,20),(v2,28)]:List (Nat×Nat))) (i:=(1:Int)) (by kernel_rfl)) (az (cO 201 0 bz bz (L:=([(v2,6),(v2,10),(v2,12),(v2,14),(v2,22),(v2,16),(v2,24),(v2,18),(v2,26),(v2,20),(v2,28)]:List (Nat×Nat))) (j:=(1:Int).toNat) (of_decide_eq_true (by kernel_rfl)) ((fun _=>rfl))) (ac (aC 2 3 1 (aj 3 (dI 32 1 1 v2 10 0 (ac ?_)))))))))));obtain⟨h2,h⟩|⟨h2,h⟩:=ak h
 ·exact ah 34 h2 (bh 2 1 (aj 3 (dI 37 1 1 v2 10 0 (ac (ae 0 (H2 hK (v2:=v2) h))))))
 ·exact ah 34 h2 (ae 2 (H2 hK (v2:=v2) h))
theorem Ja(hK:ao K)(h:wu K n v1=some r):aS Tryz.prog 108 [.agg (aV v1)] (fun v _=>v=.agg (aV r)):=by
 refine bu (cat Tryz.f108 (pn 1)) Tryz.func108 Tryz.ntmps108 fun M w0=>(bc ⟨[(0,.agg (aV v1))],[],[],[]⟩ ?_);unfold wu at h;refine aC 6 7 3 (Rn 1 1 0 fun v2=>(aj 3 (UB 202 3 #[(0,(.tmp 7)),(1,(.tmp 8)),(2,(.tmp 9))] 10 (e:=201) (sz:=1) (l:=lm bz [(v2,6),(v2,10),(v2,12)]) (ac (bR (ks':=[du 58,.b 0,du 15]) 4 ⟨[(1,.pp 1 v2 0),(2,.ptr 2 0),(3,.ref 10),(11,iI 0)],[(1,aV v1),(2,aV cS)],[(10,⟨201,1,lm bz [(v2,6),(v2,10),(v2,12)]⟩)],[1,2,10]⟩ (rt 40 (c:=cat Tryz.f108 [1,1,0,1,0,0]) (by kernel_rfl) (bB (bK (ks':=du 3737 :: .b 1::du 935::qB M w0 r 39) 9 (bI [1,2,3,4,11] [1,2] [10] (bP 2 (nu 14 [.ref 10,iI 0,.adr v2 14,.adr v2 14,iI 0,.adr v2 22,.adr v2 22,.sl (lm bz [(v2,14),(v2,22)])]) [] [] [fi 22 10 ⟨201,1,lm bz [(v2,6),(v2,10),(v2,12),(v2,14),(v2,22)]⟩,bZ Tryz.prog 40 Tryz.f108 (pn 3737) 9] (ay [.v 0 1,.v 0 2,.v 0 2,.v 0 2,.v 0 2,.v 0 2,.v 0 2,.v 0 1] (ag (eu (m:=0) (cv 22 10 201 1 bz (L:=([(v2,6),(v2,10),(v2,12)]:List (Nat×Nat))) (M:=([(v2,14),(v2,22)]:(List (Nat×Nat)))) (bytes:=8) (rfl) (fun _=>rfl) (by kernel_rfl))) (ag (bX 1) bQ))) (bR (ks':=qB M w0 r 39) 2 ⟨[(1,.pp 1 v2 0),(2,.ptr 2 0),(3,.ref 10),(11,iI 1)],[(1,aV v1),(2,aV cS)],[(10,⟨201,1,lm bz [(v2,6),(v2,10),(v2,12),(v2,14),(v2,22)]⟩)],[1,2,10]⟩ (bw (bB (gc 57 1 15 9 (bI [1,2,3,4,11] [1,2] [10] (bP 2 (nu 14 [.ref 10,iI 1,.adr v2 14,.adr v2 16,iI 1,.adr v2 22,.adr v2 24,.sl (lm bz [(v2,16),(v2,24)])]) [] [] [fi 22 10 ⟨201,1,lm bz [(v2,6),(v2,10),(v2,12),(v2,14),(v2,22),(v2,16),(v2,24)]⟩,bZ Tryz.prog 40 Tryz.f108 (pn 3737) 9] (ay [.v 0 1,.v 0 2,.v 0 2,.v 0 2,.v 0 2,.v 0 2,.v 0 2,.v 0 1] (ag (eu (m:=0) (cv 22 10 201 1 bz (L:=([(v2,6),(v2,10),(v2,12),(v2,14),(v2,22)]:List (Nat×Nat))) (M:=([(v2,16),(v2,24)]:(List (Nat×Nat)))) (bytes:=8) (rfl) (fun _=>rfl) (by kernel_rfl))) (ag (bX 1) bQ))) (bR (ks':=qB M w0 r 38) 2 ⟨[(1,.pp 1 v2 0),(2,.ptr 2 0),(3,.ref 10),(11,iI 2)],[(1,aV v1),(2,aV cS)],[(10,⟨201,1,lm bz [(v2,6),(v2,10),(v2,12),(v2,14),(v2,22),(v2,16),(v2,24)]⟩)],[1,2,10]⟩ (bw (bB (gc 57 1 15 9 (bI [1,2,3,4,11] [1,2] [10] (bP 2 (nu 14 [.ref 10,iI 2,.adr v2 14,.adr v2 18,iI 2,.adr v2 22,.adr v2 26,.sl (lm bz [(v2,18),(v2,26)])]) [] [] [fi 22 10 ⟨201,1,lm bz [(v2,6),(v2,10),(v2,12),(v2,14),(v2,22),(v2,16),(v2,24),(v2,18),(v2,26)]⟩,bZ Tryz.prog 40 Tryz.f108 (pn 3737) 9] (ay [.v 0 1,.v 0 2,.v 0 2,.v 0 2,.v 0 2,.v 0 2,.v 0 2,.v 0 1] (ag (eu (m:=0) (cv 22 10 201 1 bz (L:=([(v2,6),(v2,10),(v2,12),(v2,14),(v2,22),(v2,16),(v2,24)]:List (Nat×Nat))) (M:=([(v2,18),(v2,26)]:(List (Nat×Nat)))) (bytes:=8) (rfl) (fun _=>rfl) (by kernel_rfl))) (ag (bX 1) bQ))) (bR (ks':=qB M w0 r 37) 2 ⟨[(1,.pp 1 v2 0),(2,.ptr 2 0),(3,.ref 10),(11,iI 3)],[(1,aV v1),(2,aV cS)],[(10,⟨201,1,lm bz [(v2,6),(v2,10),(v2,12),(v2,14),(v2,22),(v2,16),(v2,24),(v2,18),(v2,26)]⟩)],[1,2,10]⟩ ?_)))))))))))))))))))))))
 refine bw (bB (gc 57 1 15 9 (bI [1,2,3,4,11] [1,2] [10] (bP 2 (nu 14 [.ref 10,iI 3,.adr v2 14,.adr v2 20,iI 3,.adr v2 22,.adr v2 28,.sl (lm bz [(v2,20),(v2,28)])]) [] [] [fi 22 10 ⟨201,1,lm bz [(v2,6),(v2,10),(v2,12),(v2,14),(v2,22),(v2,16),(v2,24),(v2,18),(v2,26),(v2,20),(v2,28)]⟩,bZ Tryz.prog 40 Tryz.f108 (pn 3737) 9] (ay [.v 0 1,.v 0 2,.v 0 2,.v 0 2,.v 0 2,.v 0 2,.v 0 2,.v 0 1] (ag (eu (m:=0) (cv 22 10 201 1 bz (L:=([(v2,6),(v2,10),(v2,12),(v2,14),(v2,22),(v2,16),(v2,24),(v2,18),(v2,26)]:List (Nat×Nat))) (M:=([(v2,20),(v2,28)]:(List (Nat×Nat)))) (bytes:=8) (rfl) (fun _=>rfl) (by kernel_rfl))) (ag (bX 1) bQ))) (bR (ks':=qB M w0 r 36) 2 ⟨[(1,.pp 1 v2 0),(2,.ptr 2 0),(3,.ref 10),(11,iI 4)],[(1,aV v1),(2,aV cS)],[(10,⟨201,1,lm bz [(v2,6),(v2,10),(v2,12),(v2,14),(v2,22),(v2,16),(v2,24),(v2,18),(v2,26),(v2,20),(v2,28)]⟩)],[1,2,10]⟩ (bw (bB (Sy 4 5 3 10 (aj 1 (az (bv bz ([(v2,6),(v2,10),(v2,12),(v2,14),(v2,22),(v2,16),(v2,24),(v2,18),(v2,26),(v2,20),(v2,28)]:List (Nat×Nat))) (ac (bR (ks':=[du 122,.b 2,du 31]) 1 ⟨[(1,.pp 1 v2 0),(2,.ptr 2 0),(24,.ref 10),(25,iI 11),(26,iI 0)],[(1,aV v1),(2,aV cS)],[(10,⟨201,1,lm bz [(v2,6),(v2,10),(v2,12),(v2,14),(v2,22),(v2,16),(v2,24),(v2,18),(v2,26),(v2,20),(v2,28)]⟩)],[1,2,10]⟩ (rt 40 (c:=cat Tryz.f108 [1,1,1,0,1,0,0]) (by kernel_rfl) (bB (bK (ks':=du 7832::du 7833 :: .b 3::du 1959::dA M w0 r 39) 8 (aj 0 (az (cT 10 1 bz (L:=([(v2,6),(v2,10),(v2,12),(v2,14),(v2,22),(v2,16),(v2,24),(v2,18),(v2,26),(v2,20),(v2,28)]:List (Nat×Nat))) (i:=(0:Int)) (by kernel_rfl)) (az (cO 201 0 bz bz (L:=([(v2,6),(v2,10),(v2,12),(v2,14),(v2,22),(v2,16),(v2,24),(v2,18),(v2,26),(v2,20),(v2,28)]:List (Nat×Nat))) (j:=(0:Int).toNat) (of_decide_eq_true (by kernel_rfl)) ((fun _=>rfl))) (ac (aC 2 3 1 (aj 3 (dI 32 1 1 v2 6 0 (ac ?_)))))))))))))))))))))))
 obtain⟨h1,h⟩|⟨h1,h⟩:=ak h
 ·exact ah 34 h1 (bh 2 1 (aj 3 (dI 37 1 1 v2 6 0 (ac (ae 0 (IZ hK (v2:=v2) h))))))
 ·exact ah 34 h1 (ae 2 (IZ hK (v2:=v2) h))
end
noncomputable section
variable[GS](M:Nat→Prop)(w0:aE)(r:Int×Int)(v1:aa)(v2:bF)(v6:(List aa)×Bool)(v11 v12 v13:Int)(m1:Nat)(L1:Int→Int→Int→Option (Int×Int))
abbrev xF:Cx:=⟨Tryz.prog,71,M,w0⟩
abbrev B0:=bodyPost Tryz.prog Tryz.f107 (bA M w0 (fun v _=>v=.tup [iI r.1,iI r.2]))
abbrev QA(ks:List aq)(s:AS):=VE (xF M w0) (B0 M w0 r) ks .normal s
abbrev Gz(n:Nat):aq:=.c (cat Tryz.f107 (pn n))
abbrev zE:List aq:=[.b 0,Gz 63]
abbrev K2:List aq:=kl (xF M w0) (B0 M w0 r) zE (cat Tryz.f107 (pn 500)) m1::zE
def HB:AS:=⟨[(3,.ptr 3 0),(4,iI v11),(5,iI v12),(47,.sl (lm aR v6.1)),(48,iI (v6.1.length:Int)),(49,iI v13)],[(3,bW v2)],[],[3]⟩
abbrev Cw:Prop:=∀{v11:Int} {v12:Int} {v13:Int},L1 v11 v12 v13=some r→LP (xF M w0) (B0 M w0 r) zE (cat Tryz.f107 (pn 500)) m1 (HB v2 v6 v11 v12 v13)
variable{M w0 r v1 v2 v6 v11 v12 v13 m1 L1}{K:Kn}{n:Nat}
theorem QC(hK:ao K)(hL1:Cw M w0 r v2 v6 m1 L1)(h:ul K n v2 v6 L1 v11 v12 v13=some r):QA M w0 r (Gz 500::K2 M w0 r m1) (HB v2 v6 v11 v12 v13):=by
 unfold ul at h;refine aC 6 7 3 ?_;obtain⟨h13,h⟩|⟨h13,h⟩:=ak h
 ·refine ah 50 h13 (c8 8 9 1 3 5 (aj 0 ?_));obtain⟨h14,h⟩:=aF h;refine az (bi aR aw h14 (d4) (dq)) (ac (aC 2 3 1 (aj 3 ?_)));obtain⟨v14,h15,h⟩:=bind_some h;exact lf (hK.nP h15) (ac (ae 3 (bw (hL1 h))))
 ·refine ah 50 h13 (kJ 2 3 6 (aj 1 ?_));obtain⟨v15,h16,h⟩:=bind_some h;refine aU (gx hK h16) (aM 3 1 ?_);obtain⟨v16,h17,h⟩:=bind_some h;refine aU (gx hK h17) (ac (aL 1 ?_));cases h;exact gF
theorem Nh(hK:ao K)(m:Nat):Cw M w0 r v2 v6 m (uR K n v2 v6 m):=by
 induction m with
 | zero=>intro v11 v12 v13 h;cases h
 | succ m ih=>intro v11 v12 v13 h;have h:ul K n v2 v6 (uR K n v2 v6 m) v11 v12 v13=some r:=h;exact bB (QC hK ih h)
theorem Ev(hK:ao K)(h:wU K n v1 v2=some r):aS Tryz.prog 107 [.agg (aw v1),.agg (bW v2)] (fun v _=>v=.tup [iI r.1,iI r.2]):=by
 refine bu (cat Tryz.f107 (pn 1)) Tryz.func107 Tryz.ntmps107 fun M w0=>(bc ⟨[(0,.agg (aw v1)),(1,.agg (bW v2))],[],[],[]⟩ ?_);unfold wU at h;refine bO 12 13 7 4 (aj 2 ?_);obtain⟨v3,h1,h⟩:=bind_some h;refine aU (Ja hK h1) (aM 4 1 ?_);obtain⟨v4,h2,h⟩:=bind_some h;refine aU (eF hK h2) (ac (bh 3 2 ?_));obtain⟨h3,h⟩|⟨h3,h⟩:=ak h
 ·refine ah 22 h3 (aC 4 5 2 (aj 1 ?_));obtain⟨v5,h4,h⟩:=bind_some h;refine aU (gx hK h4) (ac (aL 4 ?_));cases h;exact gF
 ·refine ah 22 h3 (fb 2 3 3 (aj 1 ?_));obtain⟨v6,h5,h⟩:=bind_some h;refine aU (C8 hK h5) (ac (aC 5 3 3 ?_));obtain⟨h6,h⟩|⟨h6,h⟩:=ak h
  ·refine ah 33 h6 (aC 4 5 2 (aj 5 ?_));obtain⟨v7,h7,h⟩:=bind_some h;refine lf (hK.uE h7) (ac (aC 2 3 1 (aj 1 ?_)));obtain⟨v8,h8,h⟩:=bind_some h;refine aU (gx hK h8) (aM 3 1 ?_);obtain⟨v9,h9,h⟩:=bind_some h;refine aU (gx hK h9) (ac (aL 2 ?_));cases h;exact gF
  ·exact ah 33 h6 (pr 4 5 3 4 (aj 1 (az (bv aR v6.1) (ac (ae 1 (ci (p:=pn 250) n (Nh hK n h)))))))
end
noncomputable section
variable[GS](M:Nat→Prop)(w0:aE)(r:Int×Int)(v1:aa)(v2:bF)  
variable{M w0 r v1 v2}{K:Kn}{n:Nat}
theorem SL(hK:ao K)(h:A3 K n v1 v2=some r):aS Tryz.prog 51 [.agg (aw v1),.agg (bW v2)] (fun v _=>v=.tup [iI r.1,iI r.2]):=by
 refine bu (cat Tryz.f51 (pn 1)) Tryz.func51 Tryz.ntmps51 fun M w0=>(bc ⟨[(0,.agg (aw v1)),(1,.agg (bW v2))],[],[],[]⟩ ?_);unfold A3 at h;refine aC 6 7 3 (aj 2 ?_);obtain⟨v3,h1,h⟩:=bind_some h;refine aU (Ev hK h1) (ac (aC 2 3 1 (aj 2 ?_)));obtain⟨v4,h2,h⟩:=bind_some h;refine aU (Ja hK h2) (ac (aC 2 3 1 (bI [4,5,6] [6] [] ?_)));obtain⟨v5,h3,h⟩:=bind_some h;obtain⟨v6,h4,h⟩:=bind_some h;obtain⟨v7,h5,h⟩:=bind_some h;obtain⟨v8,h6,h⟩:=bind_some h;obtain⟨v9,h7,h⟩:=bind_some h;obtain⟨v10,h8,h⟩:=bind_some h;refine bP 2 (nu 16 [.agg (aV v4),.agg (aV v4),iI v3.1,iI v5,.agg (cb v6),iI v7,.agg (aV v4),.agg (aV v4),iI v3.2,iI v8,.agg (cb v9),iI v10]) [] [] [bZ Tryz.prog 28 Tryz.f51 (pn 30) 12,bZ Tryz.prog 28 Tryz.f51 (pn 30) 13] (ay (vz 3) (ag (cD 0 1 19 (wy hK h3)) (ag (cD 0 1 20 (tx hK h4)) (ag (cD 0 1 21 (tA hK h5)) (ay [.v 0 2,.v 0 2,.v 0 2] (ag (cD 0 2 25 (wy hK h6)) (ag (cD 0 2 26 (tx hK h7)) (ag (cD 0 1 27 (tA hK h8)) (ag (bX 0) (ag (bX 1) bQ)))))))))) (aL 1 ?_)
 cases h;exact gF
end
noncomputable section
variable[GS](M:Nat→Prop)(w0:aE)(r:Int×Int)(v1:aa)(v2:bF)  
abbrev Gl(n:Nat):aq:=.c (cat Tryz.f48 (pn n))
variable{M w0 r v1 v2}{K:Kn}{n:Nat}
theorem OX(hK:ao K)(h:Ca K n v1 v2=some r):aS Tryz.prog 48 [.agg (aw v1),.cptr (bW v2)] (fun v _=>v=.tup [iI r.1,iI r.2]):=by
 refine bu (cat Tryz.f48 (pn 1)) Tryz.func48 Tryz.ntmps48 fun M w0=>(bc ⟨[(0,.agg (aw v1)),(1,.cptr (bW v2))],[],[],[]⟩ ?_);unfold Ca at h;refine gc 53 0 7 8 ?_;obtain⟨h1,h⟩|⟨h1,h⟩:=ak h
 ·refine ah 7 h1 ?_;cases h
 ·refine ah 7 h1 (bh 7 3 ?_);obtain⟨h2,h⟩|⟨h2,h⟩:=ak h
  ·refine ah 14 h2 ?_;cases h
  ·refine ah 14 h2 (bK (ks':=[Gl 14,Gl 15]) 4 (aj 2 ?_));obtain⟨v3,h3,h⟩:=bind_some h;refine aU (SL hK h3) (ac (aL 1 ?_));cases h;exact gF
end
noncomputable section
variable[GS](M:Nat→Prop)(w0:aE)(r:List aD)(v1:aD)(v2:List aD)(v3 v4 v5 v6:Bool)(v7:aD)  
abbrev gd(n:Nat):aq:=.c (cat Tryz.f176 (pn n))
abbrev Ub:Cx:=⟨Tryz.prog,72,M,w0⟩
abbrev Nw:=bodyPost Tryz.prog Tryz.f176 (bA M w0 (fun v s=>v=.ref 9∧cn s.o []∧look 9 s.r=some ⟨210,5,lm am r⟩))
abbrev qn(ks:List aq)(s:AS):=VE (Ub M w0) (Nw M w0 r) ks .normal s
def Lw:AS:=⟨[(0,.ref 9),(3,.ptr 3 0)],[(3,am v7)],[(9,⟨210,5,lm am v2⟩)],[3,9]⟩
def Tj:AS:=⟨[(0,.ref 9),(3,.ptr 3 0),(64,.bool v6)],[(3,am v1)],[(9,⟨210,5,lm am v2⟩)],[3,9]⟩
def Lk:AS:=⟨[(0,.ref 9),(3,.ptr 3 0),(5,.bool (v1.Box.Style.WhiteSpace == 2)),(32,.bool v5)],[(3,am v1)],[(9,⟨210,5,lm am v2⟩)],[3,9]⟩
def MZ:AS:=⟨[(0,.ref 9),(3,.ptr 3 0),(5,.bool (v1.Box.Style.WhiteSpace == 2)),(24,.bool v4)],[(3,am v1)],[(9,⟨210,5,lm am v2⟩)],[3,9]⟩
def Ps:AS:=⟨[(0,.ref 9),(3,.ptr 3 0),(5,.bool (v1.Box.Style.WhiteSpace == 2)),(19,.bool v3)],[(3,am v1)],[(9,⟨210,5,lm am v2⟩)],[3,9]⟩
variable{M w0 r v1 v2 v3 v4 v5 v6 v7}{K:Kn}{n:Nat}
theorem yZ(hK:ao K)(h:ls K n v2 v7=some r):qn M w0 r [.b 1,gd 31] (Lw v2 v7):=by
 unfold ls at h;refine fb 6 7 4 (aj 3 ?_);obtain⟨h16,h⟩:=aF h;refine az (cv 71 9 210 5 am (rfl) (co) h16) (ac (aL 1 ?_));cases h;exact dT
theorem BZ(hK:ao K)(h:jP K n v1 v2 v6=some r):qn M w0 r [gd 15609,gd 7805,.b 1,gd 31] (Tj v1 v2 v6):=by
 unfold jP at h;obtain⟨h15,h⟩|⟨h15,h⟩:=ak h
 ·refine ah 64 h15 (aL 7 ?_);cases h;exact dT
 ·exact ah 64 h15 (ae 3 (yZ hK h))
theorem EA(hK:ao K)(h:oc K n v1 v2 v5=some r):qn M w0 r [gd 487,.b 1,gd 31] (Lk v1 v2 v5):=by
 unfold oc at h;obtain⟨h9,h⟩|⟨h9,h⟩:=ak h
 ·refine ah 32 h9 (aL 6 ?_);cases h;exact dT
 ·refine ah 32 h9 (bh 7 3 ?_);obtain⟨h10,h⟩|⟨h10,h⟩:=ak h
  ·refine ah 40 h10 (bO 8 9 5 3 (aj 1 (az (bv am v2) (aM 4 2 ?_))));obtain⟨h11,h⟩|⟨h11,h⟩:=ak h
   ·exact aB 46 h11 (ac (ae 0 (BZ hK h)))
   ·refine aB 46 h11 (aM 6 2 (az (bv am v2) (aM 8 1 ?_)));obtain⟨h12,h⟩:=aF h;refine az (cT 9 5 am h12) (aM 10 1 (az (cO 4 3 am am (cE h12).2 ((fun _=>rfl))) (aM 13 2 ?_)));obtain⟨h13,h⟩|⟨h13,h⟩:=ak h
    ·exact aB 55 h13 (ac (ae 0 (BZ hK h)))
    ·refine aB 55 h13 (aM 15 2 (az (bv am v2) (aM 17 1 ?_)));obtain⟨h14,h⟩:=aF h;exact az (cT 9 5 am h14) (aM 19 1 (az (cO 3 0 am am (cE h14).2 ((fun _=>rfl))) (ac (ae 0 (BZ hK h)))))
  ·exact ah 40 h10 (ae 2 (yZ hK h))
theorem CU(hK:ao K)(h:pM K n v1 v2 v4=some r):qn M w0 r [gd 121,.b 1,gd 31] (MZ v1 v2 v4):=by
 unfold pM at h;obtain⟨h7,h⟩|⟨h7,h⟩:=ak h
 ·exact ah 24 h7 (ae 2 (yZ hK h))
 ·refine ah 24 h7 (aC 6 7 2 (aj 2 ?_));obtain⟨h8,h⟩|⟨h8,h⟩:=ak h
  ·exact aB 34 h8 (ac (ae 0 (EA hK h)))
  ·exact aB 34 h8 (ac (ae 0 (EA hK h)))
theorem xe(hK:ao K)(h:iM K n v1 v2 v3=some r):qn M w0 r [gd 117,.b 0,gd 15] (Ps v1 v2 v3):=by
 unfold iM at h;obtain⟨h4,h⟩|⟨h4,h⟩:=ak h
 ·refine ah 19 h4 (bK (ks':=[gd 120,gd 121,.b 1,gd 31]) 6 (aj 2 ?_));obtain⟨h6,h⟩|⟨h6,h⟩:=ak h
  ·exact aB 26 h6 (ac (ae 0 (CU hK h)))
  ·exact aB 26 h6 (ac (ae 0 (CU hK h)))
 ·refine ah 19 h4 (aC 6 7 2 (aj 3 ?_));obtain⟨h5,h⟩:=aF h;refine az (cv 18 9 210 5 am (rfl) (co) h5) (ac (aL 3 ?_));cases h;exact dT
theorem NI(hK:ao K)(h:pW K n v1 v2=some r):gg Tryz.prog 176 [.ref 9,.agg (am v1)] [] 9 ⟨210,5,lm am v2⟩ [9] (fun v s=>v=.ref 9∧cn s.o []∧look 9 s.r=some ⟨210,5,lm am r⟩):=by
 refine jr (c:=cat Tryz.f176 (pn 1)) Tryz.func176 (by kernel_rfl) _ Tryz.ntmps176 (of_decide_eq_true (by kernel_rfl)) fun M w0=>(bc ⟨[(0,.ref 9),(1,.agg (am v1))],[],[(9,⟨210,5,lm am v2⟩)],[9]⟩ ?_);unfold pW at h;refine dM 233 117 0 15 11 ?_;obtain⟨h1,h⟩|⟨h1,h⟩:=ak h
 ·exact ah 19 h1 (ae 2 (xe hK h))
 ·refine ah 19 h1 (bh 7 3 ?_);obtain⟨h2,h⟩|⟨h2,h⟩:=ak h
  ·exact ah 19 h2 (ae 2 (xe hK h))
  ·refine ah 19 h2 (bh 7 3 ?_);obtain⟨h3,h⟩|⟨h3,h⟩:=ak h
   ·exact ah 19 h3 (ae 2 (xe hK h))
   ·exact ah 19 h3 (ae 2 (xe hK h))
end
noncomputable section
variable[GS](M:Nat→Prop)(w0:aE)(r:Int×(List aD))(v1:List aa)(v2:Int)(v3:List aD)(v10:Nat)(v23 v24:Int)(v25:List aD)(v32 v36:Nat)(v37:List aD)(v41:Int)(v42:List aD)(v43:Int)(v44:List aD)(m1 m2:Nat)(L1:Int→Int→(List aD)→Option (Int×(List aD)))(L2:Nat→(List aD)→Option (Int×(List aD)))
abbrev qE:Cx:=⟨Tryz.prog,69,M,w0⟩
abbrev q9:=bodyPost Tryz.prog Tryz.f175 (bA M w0 (fun v s=>v=.tup []∧cn s.o [(1,[iI r.1]),(2,[.fno 175 [.ptr 1 0,.ptr 2 0,.ptr 3 0]]),(3,[.ref 9])]∧look 9 s.r=some ⟨210,5,lm am r.2⟩))
abbrev wD(ks:List aq)(s:AS):=VE (qE M w0) (q9 M w0 r) ks .normal s
abbrev fH(n:Nat):aq:=.c (cat Tryz.f175 (pn n))
abbrev Bf:List aq:=[.b 0]
abbrev kf:List aq:=kl (qE M w0) (q9 M w0 r) Bf (cat Tryz.f175 (pn 12)) m1::Bf
abbrev zw:List aq:=.b 3 :: .b 2 :: .b 1::fH 103::kf M w0 r m1
abbrev EZ:List aq:=kl (qE M w0) (q9 M w0 r) (zw M w0 r m1) (cat Tryz.f175 (pn 26867700)) m2::(zw M w0 r m1)
def OY:AS:=⟨[(0,.sl (lm aR v1)),(1,.ptr 1 0),(2,.ptr 2 0),(3,.ptr 3 0),(10,iI (v1.length:Int)),(11,iI v23)],[(1,[iI v43]),(2,[.fno 175 [.ptr 1 0,.ptr 2 0,.ptr 3 0]]),(3,[.ref 9])],[(9,⟨210,5,lm am v44⟩)],[1,2,3,9,1000001,1,1000002,2,1000003,3]⟩
def Mu:AS:=⟨[(0,.sl (lm aR v1)),(1,.ptr 1 0),(2,.ptr 2 0),(3,.ptr 3 0),(10,iI (v1.length:Int)),(11,iI v23)],[(1,[iI v41]),(2,[.fno 175 [.ptr 1 0,.ptr 2 0,.ptr 3 0]]),(3,[.ref 9])],[(9,⟨210,5,lm am v42⟩)],[1,2,3,9,1000001,1,1000002,2,1000003,3]⟩
def Cz:AS:=⟨[(0,.sl (lm aR v1)),(1,.ptr 1 0),(2,.ptr 2 0),(3,.ptr 3 0),(6,.cptr (aw (gD v1 v23))),(10,iI (v1.length:Int)),(11,iI v23),(58,.sit 320058 v32 ((gD v1 v23).Text) v36)],[(1,[iI (ab (v24+1))]),(2,[.fno 175 [.ptr 1 0,.ptr 2 0,.ptr 3 0]]),(3,[.ref 9])],[(9,⟨210,5,lm am v37⟩)],[1,2,3,9,320058,1000001,1,1000002,2,1000003,3]⟩
def G3:AS:=⟨[(0,.sl (lm aR v1)),(1,.ptr 1 0),(2,.ptr 2 0),(3,.ptr 3 0),(10,iI (v1.length:Int)),(11,iI v23)],[(1,[iI v24]),(2,[.fno 175 [.ptr 1 0,.ptr 2 0,.ptr 3 0]]),(3,[.ref 9])],[(9,⟨210,5,lm am v25⟩)],[1,2,3,9,1000001,1,1000002,2,1000003,3]⟩
abbrev nz:Prop:=∀{v23:Int} {v24:Int} {v25:(List aD)},L1 v23 v24 v25=some r→LP (qE M w0) (q9 M w0 r) Bf (cat Tryz.f175 (pn 12)) m1 (G3 v1 v23 v24 v25)
abbrev Dc:Prop:=∀{v36:Nat} {v37:(List aD)},L2 v36 v37=some r→LP (qE M w0) (q9 M w0 r) (zw M w0 r m1) (cat Tryz.f175 (pn 26867700)) m2 (Cz v1 v23 v24 v32 v36 v37)
variable{M w0 r v1 v2 v3 v10 v23 v24 v25 v32 v36 v37 v41 v42 v43 v44 m1 m2 L1 L2}{K:Kn}{n:Nat}
theorem CK(hK:ao K)(hL1:nz M w0 r v1 m1 L1)(h:jh K n v1 v23 L1 v43 v44=some r):wD M w0 r (fH 103::kf M w0 r m1) (OY v1 v23 v43 v44):=by
 unfold jh at h;exact ae 1 (bw (hL1 h))
theorem rR(hK:ao K)(hL1:nz M w0 r v1 m1 L1)(h:gR K n v1 v23 L1 v41 v42=some r):wD M w0 r (.b 2 :: .b 1::fH 103::kf M w0 r m1) (Mu v1 v23 v41 v42):=by
 unfold gR at h;exact ae 2 (CK hK hL1 h)
theorem VQ(hK:ao K)(hv32:w0.w.heap.size≤v32)(hL1:nz M w0 r v1 m1 L1)(hL2:Dc M w0 r v1 v23 v24 v32 m1 m2 L2)(h:ng K n v1 v23 v24 L1 L2 v36 v37=some r):wD M w0 r (fH 26867700::EZ M w0 r m1 m2) (Cz v1 v23 v24 v32 v36 v37):=by
 unfold ng at h;refine aC 2 3 1 (aj 0 ?_);obtain⟨h43,h⟩|⟨h43,h⟩:=ak h
 ·refine y6 58 (id:=320058) (g:=v32) h43 hv32 (ac ?_);obtain⟨v38,h44,h⟩:=cg h;obtain⟨v39,h45,h⟩:=cg h;refine bR (ks':=fH 429883213 :: .b 4::EZ M w0 r m1 m2) 6 ⟨[(0,.sl (lm aR v1)),(1,.ptr 1 0),(2,.ptr 2 0),(3,.ptr 3 0),(6,.cptr (aw (gD v1 v23))),(8,.int .i32 v38),(10,iI (v1.length:Int)),(11,iI v23),(58,.sit 320058 v32 ((gD v1 v23).Text) v39)],[(1,[iI (ab (v24+1))]),(2,[.fno 175 [.ptr 1 0,.ptr 2 0,.ptr 3 0]]),(3,[.ref 9])],[(9,⟨210,5,lm am v37⟩)],[1,2,3,9,320058,1000001,1,1000002,2,1000003,3]⟩ ?_ (by subst h45;subst h44;kernel_rfl);refine aj 5 ?_;obtain⟨v40,h46,h⟩:=bind_some h;exact gu 9 9 [] (NI hK h46) (ac (ae 1 (bw (hL2 h))))
 ·exact BT 58 (id:=320058) (g:=v32) h43 (ac (ae 6 (rR hK hL1 h)))
theorem Kv(hK:ao K)(hv32:w0.w.heap.size≤v32)(hL1:nz M w0 r v1 m1 L1)(m:Nat):Dc M w0 r v1 v23 v24 v32 m1 m (oL K n v1 v23 v24 L1 m):=by
 induction m with
 | zero=>intro v36 v37 h;cases h
 | succ m ih=>intro v36 v37 h;have h:ng K n v1 v23 v24 L1 (oL K n v1 v23 v24 L1 m) v36 v37=some r:=h;exact bB (VQ hK hv32 hL1 ih h)
theorem N9(hK:ao K)(hL1:nz M w0 r v1 m1 L1)(h:nF K n v1 L1 v23 v24 v25=some r):wD M w0 r (fH 12::kf M w0 r m1) (G3 v1 v23 v24 v25):=by
 unfold nF at h;refine aC 6 7 3 ?_;obtain⟨h24,h⟩|⟨h24,h⟩:=ak h
 ·refine ah 12 h24 (c8 18 19 1 3 7 (aj 2 ?_));obtain⟨h25,h⟩:=aF h;refine az (bi aR aw h25 (d4) (dq)) (ac (bO 4 5 3 2 (aj 3 ?_)));obtain⟨v26,h26,h⟩:=bind_some h;refine aU (DN hK h26) (ac ?_);obtain⟨h27,h⟩|⟨h27,h⟩:=ak h
  ·exact ah 21 h27 (ae 4 (CK hK hL1 h))
  ·refine ah 21 h27 ?_;obtain⟨v27,h28,h⟩:=cg h;refine bR (ks':=fH 26237 :: .b 2 :: .b 1::fH 103::kf M w0 r m1) 9 ⟨[(0,.sl (lm aR v1)),(1,.ptr 1 0),(2,.ptr 2 0),(3,.ptr 3 0),(6,.cptr (aw (gD v1 v23))),(10,iI (v1.length:Int)),(11,iI v23),(27,iI ((gD v1 v23).Kind)),(28,.bool v27)],[(1,[iI (ab (v24+1))]),(2,[.fno 175 [.ptr 1 0,.ptr 2 0,.ptr 3 0]]),(3,[.ref 9])],[(9,⟨210,5,lm am v25⟩)],[1,2,3,9,1000001,1,1000002,2,1000003,3]⟩ ?_ (by subst h28;kernel_rfl);obtain⟨h29,h⟩|⟨h29,h⟩:=ak h
   ·refine ah 28 h29 (bh 2 1 (bI [0,1,2,3,6,10,11] [1,2,3] [9] (Wc 5 0 [(30,.fno 175 [.ptr 1 0,.ptr 2 0,.ptr 3 0]),(31,.cptr (aw (gD v1 v23))),(32,.cptr (aw (gD v1 v23))),(33,.cptr (List.drop 58 (aw (gD v1 v23)))),(34,.sl (lm aR ((gD v1 v23).Kids)))] [] [] [] (ay (vz 5) (uJ)) ?_)));obtain⟨v28,h30,h⟩:=bind_some h;exact gu 9 9 [(1,1),(2,2),(3,3)] (hK.uW h30) (ac (ae 0 (rR hK hL1 h)))
   ·refine ah 28 h29 ?_;obtain⟨v29,h31,h⟩:=cg h;refine bR (ks':=fH 104951 :: .b 2 :: .b 1::fH 103::kf M w0 r m1) 3 ⟨[(0,.sl (lm aR v1)),(1,.ptr 1 0),(2,.ptr 2 0),(3,.ptr 3 0),(6,.cptr (aw (gD v1 v23))),(10,iI (v1.length:Int)),(11,iI v23),(27,iI ((gD v1 v23).Kind)),(36,.bool v29)],[(1,[iI (ab (v24+1))]),(2,[.fno 175 [.ptr 1 0,.ptr 2 0,.ptr 3 0]]),(3,[.ref 9])],[(9,⟨210,5,lm am v25⟩)],[1,2,3,9,1000001,1,1000002,2,1000003,3]⟩ ?_ (by subst h31;kernel_rfl);obtain⟨h32,h⟩|⟨h32,h⟩:=ak h
    ·refine ah 36 h32 (bh 2 1 (aj 5 ?_));obtain⟨h33,h⟩:=aF h;exact az (cv 43 9 210 5 am (rfl) (co) h33) (ac (ae 0 (rR hK hL1 h)))
    ·refine ah 36 h32 ?_;obtain⟨v30,h34,h⟩:=cg h;refine bR (ks':=fH 419807 :: .b 2 :: .b 1::fH 103::kf M w0 r m1) 3 ⟨[(0,.sl (lm aR v1)),(1,.ptr 1 0),(2,.ptr 2 0),(3,.ptr 3 0),(6,.cptr (aw (gD v1 v23))),(10,iI (v1.length:Int)),(11,iI v23),(27,iI ((gD v1 v23).Kind)),(44,.bool v30)],[(1,[iI (ab (v24+1))]),(2,[.fno 175 [.ptr 1 0,.ptr 2 0,.ptr 3 0]]),(3,[.ref 9])],[(9,⟨210,5,lm am v25⟩)],[1,2,3,9,1000001,1,1000002,2,1000003,3]⟩ ?_ (by subst h34;kernel_rfl);obtain⟨h35,h⟩|⟨h35,h⟩:=ak h
     ·refine ah 44 h35 (bh 2 1 (aj 5 ?_));obtain⟨h36,h⟩:=aF h;exact az (cv 51 9 210 5 am (rfl) (co) h36) (ac (ae 0 (rR hK hL1 h)))
     ·refine ah 44 h35 ?_;obtain⟨v31,h37,h⟩:=cg h;refine bR (ks':=fH 1679231 :: .b 2 :: .b 1::fH 103::kf M w0 r m1) 3 ⟨[(0,.sl (lm aR v1)),(1,.ptr 1 0),(2,.ptr 2 0),(3,.ptr 3 0),(6,.cptr (aw (gD v1 v23))),(10,iI (v1.length:Int)),(11,iI v23),(52,.bool v31)],[(1,[iI (ab (v24+1))]),(2,[.fno 175 [.ptr 1 0,.ptr 2 0,.ptr 3 0]]),(3,[.ref 9])],[(9,⟨210,5,lm am v25⟩)],[1,2,3,9,1000001,1,1000002,2,1000003,3]⟩ ?_ (by subst h37;kernel_rfl);obtain⟨h38,h⟩|⟨h38,h⟩:=ak h
      ·exact ah 52 h38 (aC 4 5 2 (aj 4 (Bt 320058 (b:=((gD v1 v23).Text)) fun v32 hv32=>(ac (ae 1 (ci (p:=pn 13433850) n (Kv hK (v32:=v32) hv32 hL1 n h)))))))
      ·exact ah 52 h38 (ae 2 (rR hK hL1 h))
 ·refine ah 12 h24 (bK (ks':=[]) 5 (B5 ?_));cases h;exact mG
theorem SN(hK:ao K)(m:Nat):nz M w0 r v1 m (lY K n v1 m):=by
 induction m with
 | zero=>intro v23 v24 v25 h;cases h
 | succ m ih=>intro v23 v24 v25 h;have h:nF K n v1 (lY K n v1 m) v23 v24 v25=some r:=h;exact bB (N9 hK ih h)
theorem HL(hK:ao K)(h:ji K n v1 v2 v3=some r):gg Tryz.prog 175 [.sl (lm aR v1),.ptr 1 0,.ptr 2 0,.ptr 3 0] [(1,[iI v2]),(2,[.fno 175 [.ptr 1 0,.ptr 2 0,.ptr 3 0]]),(3,[.ref 9])] 9 ⟨210,5,lm am v3⟩ [9,1,2,3,1000001,1000002,1000003] (fun v s=>v=.tup []∧cn s.o [(1,[iI r.1]),(2,[.fno 175 [.ptr 1 0,.ptr 2 0,.ptr 3 0]]),(3,[.ref 9])]∧look 9 s.r=some ⟨210,5,lm am r.2⟩):=by
 refine jr (c:=cat Tryz.f175 (pn 1)) Tryz.func175 (by kernel_rfl) _ Tryz.ntmps175 (of_decide_eq_true (by kernel_rfl)) fun M w0=>(bc ⟨[(0,.sl (lm aR v1)),(1,.ptr 1 0),(2,.ptr 2 0),(3,.ptr 3 0)],[(1,[iI v2]),(2,[.fno 175 [.ptr 1 0,.ptr 2 0,.ptr 3 0]]),(3,[.ref 9])],[(9,⟨210,5,lm am v3⟩)],[9,1,2,3,1000001,1000002,1000003]⟩ ?_);unfold ji at h;exact aC 2 3 1 (aj 1 (az (bv aR v1) (ac (ae 1 (ci (p:=pn 6) n (SN hK n h))))))
end
noncomputable section
variable[GS](M:Nat→Prop)(w0:aE)(r:List aD)(v1:List aa)  
variable{M w0 r v1}{K:Kn}{n:Nat}
theorem Cj(hK:ao K)(h:lQ K n v1=some r):aS Tryz.prog 154 [.sl (lm aR v1)] (fun v s=>v=.ref 400003∧look 400003 s.r=some ⟨210,5,lm am r⟩):=by
 refine bu (cat Tryz.f154 (pn 1)) Tryz.func154 Tryz.ntmps154 fun M w0=>(bc ⟨[(0,.sl (lm aR v1))],[],[],[]⟩ ?_);unfold lQ at h;refine aC 62 63 9 (aj 0 (lC 175 #[(.tmp 4),(.tmp 5),(.tmp 3)] [.ptr 4 0,.ptr 5 0,.ptr 3 0] (ac (aC 2 3 1 (aj 2 (wT 400003 3 0 210 5 ?_))))));obtain⟨v2,h1,h⟩:=bind_some h;refine gu 400003 9 [(4,1),(5,2),(3,3)] (HL hK h1) (ac (aL 3 ?_));cases h;exact eV
end
noncomputable section
variable[GS](M:Nat→Prop)(w0:aE)(r:Bool)(v1:aD)(v2:Bool)  
abbrev Ux(n:Nat):aq:=.c (cat Tryz.f177 (pn n))
abbrev Pe:Cx:=⟨Tryz.prog,24,M,w0⟩
abbrev O7:=bodyPost Tryz.prog Tryz.f177 (bA M w0 (fun v _=>v=.bool r))
abbrev Sm(ks:List aq)(s:AS):=VE (Pe M w0) (O7 M w0 r) ks .normal s
def Lh:AS:=⟨[(2,.bool v2)],[],[],[]⟩
variable{M w0 r v1 v2}{K:Kn}{n:Nat}
theorem BS(hK:ao K)(h:py K n v2=some r):Sm M w0 r [Ux 7] (Lh v2):=by
 unfold py at h;refine aL 1 ?_;cases h;exact bj
theorem qN(hK:ao K)(h:jz K n v1=some r):aS Tryz.prog 177 [.agg (am v1)] (fun v _=>v=.bool r):=by
 refine bu (cat Tryz.f177 (pn 1)) Tryz.func177 Tryz.ntmps177 fun M w0=>(bc ⟨[(0,.agg (am v1))],[],[],[]⟩ ?_);unfold jz at h;refine aC 6 7 3 (aj 4 ?_);obtain⟨h1,h⟩|⟨h1,h⟩:=ak h
 ·refine aB 6 h1 (aM 13 9 ?_);obtain⟨h2,h⟩|⟨h2,h⟩:=ak h
  ·exact aB 15 h2 (ac (ae 0 (BS hK h)))
  ·exact aB 15 h2 (ac (ae 0 (BS hK h)))
 ·exact aB 6 h1 (ac (ae 0 (BS hK h)))
end
noncomputable section
variable[GS](M:Nat→Prop)(w0:aE)(r v1:Int)(v2 v3 v4 v5 v6:Bool)  
abbrev eZ(n:Nat):aq:=.c (cat Tryz.f188 (pn n))
abbrev Qn:Cx:=⟨Tryz.prog,73,M,w0⟩
abbrev OG:=bodyPost Tryz.prog Tryz.f188 (bA M w0 (fun v _=>v=iI r))
abbrev rZ(ks:List aq)(s:AS):=VE (Qn M w0) (OG M w0 r) ks .normal s
def LZ:AS:=⟨[(72,.bool v6)],[],[],[]⟩
def MN:AS:=⟨[(0,.int .i32 v1),(60,.bool v5)],[],[],[]⟩
def VI:AS:=⟨[(0,.int .i32 v1),(29,.int .i32 v1),(44,.bool v4)],[],[],[]⟩
def Pi:AS:=⟨[(0,.int .i32 v1),(29,.int .i32 v1),(30,.bool v3)],[],[],[]⟩
def NY:AS:=⟨[(0,.int .i32 v1),(3,.bool v2)],[],[],[]⟩
variable{M w0 r v1 v2 v3 v4 v5 v6}{K:Kn}{n:Nat}
theorem J4(hK:ao K)(h:ry K n v6=some r):rZ M w0 r [eZ 61,eZ 31] (LZ v6):=by
 unfold ry at h;obtain⟨h44,h⟩|⟨h44,h⟩:=ak h
 ·refine ah 72 h44 (aL 5 ?_);cases h;exact bj
 ·refine ah 72 h44 (aL 5 ?_);cases h;exact bj
theorem n0(hK:ao K)(h:jH K n v1 v5=some r):rZ M w0 r [eZ 1887,.b 1,eZ 15] (MN v1 v5):=by
 unfold jH at h;obtain⟨h42,h⟩|⟨h42,h⟩:=ak h
 ·refine ah 60 h42 (aL 6 ?_);cases h;exact bj
 ·refine ah 60 h42 (bK (ks':=[eZ 60,eZ 61,eZ 31]) 5 (aj 3 ?_));obtain⟨h43,h⟩|⟨h43,h⟩:=ak h
  ·exact aB 69 h43 (ac (ae 0 (J4 hK h)))
  ·exact aB 69 h43 (ac (ae 0 (J4 hK h)))
theorem fu(hK:ao K)(h:ey K n v1 v4=some r):rZ M w0 r [eZ 471,.b 1,eZ 15] (VI v1 v4):=by
 unfold ey at h;obtain⟨h36,h⟩|⟨h36,h⟩:=ak h
 ·refine ah 44 h36 (aL 6 ?_);cases h;exact bj
 ·refine ah 44 h36 (aC 13 7 4 ?_);obtain⟨h37,h⟩|⟨h37,h⟩:=ak h
  ·exact ah 60 h37 (ae 2 (n0 hK h))
  ·refine ah 60 h37 (bh 7 3 ?_);obtain⟨h38,h⟩|⟨h38,h⟩:=ak h
   ·exact ah 60 h38 (ae 2 (n0 hK h))
   ·refine ah 60 h38 (bh 7 3 ?_);obtain⟨h39,h⟩|⟨h39,h⟩:=ak h
    ·exact ah 60 h39 (ae 2 (n0 hK h))
    ·refine ah 60 h39 (bh 7 3 ?_);obtain⟨h40,h⟩|⟨h40,h⟩:=ak h
     ·exact ah 60 h40 (ae 2 (n0 hK h))
     ·refine ah 60 h40 (bh 7 3 ?_);obtain⟨h41,h⟩|⟨h41,h⟩:=ak h
      ·exact ah 60 h41 (ae 2 (n0 hK h))
      ·exact ah 60 h41 (ae 2 (n0 hK h))
theorem gb(hK:ao K)(h:eX K n v1 v3=some r):rZ M w0 r [eZ 117,.b 1,eZ 15] (Pi v1 v3):=by
 unfold eX at h;obtain⟨h21,h⟩|⟨h21,h⟩:=ak h
 ·refine ah 30 h21 (aL 6 ?_);cases h;exact bj
 ·refine ah 30 h21 (aC 13 7 4 ?_);obtain⟨h22,h⟩|⟨h22,h⟩:=ak h
  ·exact ah 44 h22 (ae 2 (fu hK h))
  ·refine ah 44 h22 (bh 7 3 ?_);obtain⟨h23,h⟩|⟨h23,h⟩:=ak h
   ·exact ah 44 h23 (ae 2 (fu hK h))
   ·refine ah 44 h23 (bh 7 3 ?_);obtain⟨h24,h⟩|⟨h24,h⟩:=ak h
    ·exact ah 44 h24 (ae 2 (fu hK h))
    ·refine ah 44 h24 (bh 7 3 ?_);obtain⟨h25,h⟩|⟨h25,h⟩:=ak h
     ·exact ah 44 h25 (ae 2 (fu hK h))
     ·refine ah 44 h25 (bh 7 3 ?_);obtain⟨h26,h⟩|⟨h26,h⟩:=ak h
      ·exact ah 44 h26 (ae 2 (fu hK h))
      ·refine ah 44 h26 (bh 7 3 ?_);obtain⟨h27,h⟩|⟨h27,h⟩:=ak h
       ·exact ah 44 h27 (ae 2 (fu hK h))
       ·refine ah 44 h27 (bh 7 3 ?_);obtain⟨h28,h⟩|⟨h28,h⟩:=ak h
        ·exact ah 44 h28 (ae 2 (fu hK h))
        ·refine ah 44 h28 (bh 7 3 ?_);obtain⟨h29,h⟩|⟨h29,h⟩:=ak h
         ·exact ah 44 h29 (ae 2 (fu hK h))
         ·refine ah 44 h29 (bh 7 3 ?_);obtain⟨h30,h⟩|⟨h30,h⟩:=ak h
          ·exact ah 44 h30 (ae 2 (fu hK h))
          ·refine ah 44 h30 (bh 7 3 ?_);obtain⟨h31,h⟩|⟨h31,h⟩:=ak h
           ·exact ah 44 h31 (ae 2 (fu hK h))
           ·refine ah 44 h31 (bh 7 3 ?_);obtain⟨h32,h⟩|⟨h32,h⟩:=ak h
            ·exact ah 44 h32 (ae 2 (fu hK h))
            ·refine ah 44 h32 (bh 7 3 ?_);obtain⟨h33,h⟩|⟨h33,h⟩:=ak h
             ·exact ah 44 h33 (ae 2 (fu hK h))
             ·refine ah 44 h33 (bh 7 3 ?_);obtain⟨h34,h⟩|⟨h34,h⟩:=ak h
              ·exact ah 44 h34 (ae 2 (fu hK h))
              ·refine ah 44 h34 (bh 7 3 ?_);obtain⟨h35,h⟩|⟨h35,h⟩:=ak h
               ·exact ah 44 h35 (ae 2 (fu hK h))
               ·exact ah 44 h35 (ae 2 (fu hK h))
theorem mh(hK:ao K)(h:iJ K n v1 v2=some r):rZ M w0 r [eZ 25,.b 0,eZ 7] (NY v1 v2):=by
 unfold iJ at h;obtain⟨h7,h⟩|⟨h7,h⟩:=ak h
 ·refine ah 3 h7 (aL 6 ?_);cases h;exact bj
 ·refine ah 3 h7 (bh 7 3 ?_);obtain⟨h8,h⟩|⟨h8,h⟩:=ak h
  ·refine ah 26 h8 (aL 6 ?_);cases h;exact bj
  ·refine ah 26 h8 (bK (ks':=[eZ 233,eZ 117,.b 1,eZ 15]) 10 ?_);obtain⟨h9,h⟩|⟨h9,h⟩:=ak h
   ·exact ah 30 h9 (ae 2 (gb hK h))
   ·refine ah 30 h9 (bh 7 3 ?_);obtain⟨h10,h⟩|⟨h10,h⟩:=ak h
    ·exact ah 30 h10 (ae 2 (gb hK h))
    ·refine ah 30 h10 (bh 7 3 ?_);obtain⟨h11,h⟩|⟨h11,h⟩:=ak h
     ·exact ah 30 h11 (ae 2 (gb hK h))
     ·refine ah 30 h11 (bh 7 3 ?_);obtain⟨h12,h⟩|⟨h12,h⟩:=ak h
      ·exact ah 30 h12 (ae 2 (gb hK h))
      ·refine ah 30 h12 (bh 7 3 ?_);obtain⟨h13,h⟩|⟨h13,h⟩:=ak h
       ·exact ah 30 h13 (ae 2 (gb hK h))
       ·refine ah 30 h13 (bh 7 3 ?_);obtain⟨h14,h⟩|⟨h14,h⟩:=ak h
        ·exact ah 30 h14 (ae 2 (gb hK h))
        ·refine ah 30 h14 (bh 7 3 ?_);obtain⟨h15,h⟩|⟨h15,h⟩:=ak h
         ·exact ah 30 h15 (ae 2 (gb hK h))
         ·refine ah 30 h15 (bh 7 3 ?_);obtain⟨h16,h⟩|⟨h16,h⟩:=ak h
          ·exact ah 30 h16 (ae 2 (gb hK h))
          ·refine ah 30 h16 (bh 7 3 ?_);obtain⟨h17,h⟩|⟨h17,h⟩:=ak h
           ·exact ah 30 h17 (ae 2 (gb hK h))
           ·refine ah 30 h17 (bh 7 3 ?_);obtain⟨h18,h⟩|⟨h18,h⟩:=ak h
            ·exact ah 30 h18 (ae 2 (gb hK h))
            ·refine ah 30 h18 (bh 7 3 ?_);obtain⟨h19,h⟩|⟨h19,h⟩:=ak h
             ·exact ah 30 h19 (ae 2 (gb hK h))
             ·refine ah 30 h19 (bh 7 3 ?_);obtain⟨h20,h⟩|⟨h20,h⟩:=ak h
              ·exact ah 30 h20 (ae 2 (gb hK h))
              ·exact ah 30 h20 (ae 2 (gb hK h))
theorem Fh(hK:ao K)(h:im K n v1=some r):aS Tryz.prog 188 [.int .i32 v1] (fun v _=>v=iI r):=by
 refine bu (cat Tryz.f188 (pn 1)) Tryz.func188 Tryz.ntmps188 fun M w0=>(bc ⟨[(0,.int .i32 v1)],[],[],[]⟩ ?_);unfold im at h;refine dM 24 25 0 7 5 (aj 3 ?_);obtain⟨h1,h⟩|⟨h1,h⟩:=ak h
 ·exact aB 6 h1 (ac (ae 0 (mh hK h)))
 ·refine aB 6 h1 (aM 7 4 ?_);obtain⟨h2,h⟩|⟨h2,h⟩:=ak h
  ·exact aB 10 h2 (ac (ae 0 (mh hK h)))
  ·refine aB 10 h2 (aM 10 3 ?_);obtain⟨h3,h⟩|⟨h3,h⟩:=ak h
   ·refine aB 13 h3 (aM 15 5 ?_);obtain⟨h4,h⟩|⟨h4,h⟩:=ak h
    ·exact aB 18 h4 (ac (ae 0 (mh hK h)))
    ·refine aB 18 h4 (aM 18 3 ?_);obtain⟨h5,h⟩|⟨h5,h⟩:=ak h
     ·exact aB 21 h5 (ac (ae 0 (mh hK h)))
     ·exact aB 21 h5 (ac (ae 0 (mh hK h)))
   ·refine aB 13 h3 (aM 18 8 ?_);obtain⟨h6,h⟩|⟨h6,h⟩:=ak h
    ·exact aB 21 h6 (ac (ae 0 (mh hK h)))
    ·exact aB 21 h6 (ac (ae 0 (mh hK h)))
end
noncomputable section
variable[GS](M:Nat→Prop)(w0:aE)(r:Bool)(v1:Int)(v2:Bool)  
abbrev He(n:Nat):aq:=.c (cat Tryz.f193 (pn n))
abbrev Qm:Cx:=⟨Tryz.prog,9,M,w0⟩
abbrev Nz:=bodyPost Tryz.prog Tryz.f193 (bA M w0 (fun v _=>v=.bool r))
abbrev Wb(ks:List aq)(s:AS):=VE (Qm M w0) (Nz M w0 r) ks .normal s
def K5:AS:=⟨[(4,.bool v2)],[],[],[]⟩
variable{M w0 r v1 v2}{K:Kn}{n:Nat}
theorem vh(hK:ao K)(h:ml K n v2=some r):Wb M w0 r [He 53,.b 0,He 7] (K5 v2):=by
 unfold ml at h;obtain⟨h4,h⟩|⟨h4,h⟩:=ak h
 ·refine ah 4 h4 (aL 6 ?_);cases h;exact bj
 ·refine ah 4 h4 (aL 6 ?_);cases h;exact bj
theorem IY(hK:ao K)(h:pj K n v1=some r):aS Tryz.prog 193 [.int .i32 v1] (fun v _=>v=.bool r):=by
 refine bu (cat Tryz.f193 (pn 1)) Tryz.func193 Tryz.ntmps193 fun M w0=>(bc ⟨[(0,.int .i32 v1)],[],[],[]⟩ ?_);unfold pj at h;refine dM 105 53 0 7 9 ?_;obtain⟨h1,h⟩|⟨h1,h⟩:=ak h
 ·exact ah 4 h1 (ae 2 (vh hK h))
 ·refine ah 4 h1 (bh 7 3 ?_);obtain⟨h2,h⟩|⟨h2,h⟩:=ak h
  ·exact ah 4 h2 (ae 2 (vh hK h))
  ·refine ah 4 h2 (bh 7 3 ?_);obtain⟨h3,h⟩|⟨h3,h⟩:=ak h
   ·exact ah 4 h3 (ae 2 (vh hK h))
   ·exact ah 4 h3 (ae 2 (vh hK h))
end
noncomputable section
variable[GS](M:Nat→Prop)(w0:aE)(r:Bool)(v1 v2:Int)(v5 v7 v8:Bool)  
abbrev lB(n:Nat):aq:=.c (cat Tryz.f186 (pn n))
abbrev Re:Cx:=⟨Tryz.prog,29,M,w0⟩
abbrev Rv:=bodyPost Tryz.prog Tryz.f186 (bA M w0 (fun v _=>v=.bool r))
abbrev zA(ks:List aq)(s:AS):=VE (Re M w0) (Rv M w0 r) ks .normal s
def Ld:AS:=⟨[(4,.bool v8)],[],[],[]⟩
def M2:AS:=⟨[(0,.int .i32 v1),(1,.int .i32 v2),(16,.bool v7)],[],[],[]⟩
def TV:AS:=⟨[(0,.int .i32 v1),(1,.int .i32 v2),(5,.bool v5)],[],[],[]⟩
variable{M w0 r v1 v2 v5 v7 v8}{K:Kn}{n:Nat}
theorem EK(hK:ao K)(h:tw K n v8=some r):zA M w0 r [lB 15] (Ld v8):=by
 unfold tw at h;refine aL 1 ?_;cases h;exact bj
theorem EY(hK:ao K)(h:q6 K n v1 v2 v7=some r):zA M w0 r [lB 415,.b 0,lB 7] (M2 v1 v2 v7):=by
 unfold q6 at h;obtain⟨h8,h⟩|⟨h8,h⟩:=ak h
 ·refine ah 16 h8 (aL 6 ?_);cases h;exact bj
 ·refine ah 16 h8 (bK (ks':=[lB 14,lB 15]) 4 (aj 3 ?_));obtain⟨h9,h⟩|⟨h9,h⟩:=ak h
  ·exact aB 25 h9 (ac (ae 0 (EK hK h)))
  ·exact aB 25 h9 (ac (ae 0 (EK hK h)))
theorem HE(hK:ao K)(h:lP K n v1 v2 v5=some r):zA M w0 r [lB 25,.b 0,lB 7] (TV v1 v2 v5):=by
 unfold lP at h;obtain⟨h4,h⟩|⟨h4,h⟩:=ak h
 ·refine ah 5 h4 (aL 6 ?_);cases h;exact bj
 ·refine ah 5 h4 (aC 6 7 2 (aj 1 ?_));obtain⟨v6,h5,h⟩:=bind_some h;refine aU (IY hK h5) (ac ?_);obtain⟨h6,h⟩|⟨h6,h⟩:=ak h
  ·refine ah 13 h6 (aL 6 ?_);cases h;exact bj
  ·refine ah 13 h6 (aC 6 7 2 (aj 3 ?_));obtain⟨h7,h⟩|⟨h7,h⟩:=ak h
   ·exact aB 19 h7 (ac (ae 0 (EY hK h)))
   ·exact aB 19 h7 (ac (ae 0 (EY hK h)))
theorem N0(hK:ao K)(h:rW K n v1 v2=some r):aS Tryz.prog 186 [.int .i32 v1,.int .i32 v2] (fun v _=>v=.bool r):=by
 refine bu (cat Tryz.f186 (pn 1)) Tryz.func186 Tryz.ntmps186 fun M w0=>(bc ⟨[(0,.int .i32 v1),(1,.int .i32 v2)],[],[],[]⟩ ?_);unfold rW at h;refine dM 24 25 0 7 5 (aj 1 ?_);obtain⟨v3,h1,h⟩:=bind_some h;refine aU (IY hK h1) (aM 3 1 ?_);obtain⟨h2,h⟩|⟨h2,h⟩:=ak h
 ·exact aB 8 h2 (ac (ae 0 (HE hK h)))
 ·refine aB 8 h2 (aM 4 1 ?_);obtain⟨v4,h3,h⟩:=bind_some h;exact aU (Fh hK h3) (ac (ae 0 (HE hK h)))
end
noncomputable section
variable[GS](M:Nat→Prop)(w0:aE)(r:List Int)(v1:ByteArray)(v2:Nat)(v9:Int)(v10:Nat)(v11:List Int)(v13:Bool)(v14:List Int)(m1:Nat)(L1:Int→Nat→(List Int)→Option (List Int))
abbrev Cl:Cx:=⟨Tryz.prog,26,M,w0⟩
abbrev zp:=bodyPost Tryz.prog Tryz.f178 (bA M w0 (fun v s=>v=.ref 23∧look 23 s.r=some ⟨3,1,lm (ba .i64) r⟩))
abbrev Bd(ks:List aq)(s:AS):=VE (Cl M w0) (zp M w0 r) ks .normal s
abbrev kA(n:Nat):aq:=.c (cat Tryz.f178 (pn n))
abbrev yL:List aq:=[.b 0,kA 31]
abbrev wn:List aq:=kl (Cl M w0) (zp M w0 r) yL (cat Tryz.f178 (pn 244)) m1::yL
def VG:AS:=⟨[(3,.ref 23),(6,.int .i32 ((Utf8.decode v1 v10).1:Int)),(8,.sit 320008 v2 v1 (v10+(Utf8.decode v1 v10).2))],[],[(23,⟨3,1,lm (ba .i64) v14⟩)],[23,320008]⟩
def Tv:AS:=⟨[(3,.ref 23),(5,iI ((v10:Nat):Int)),(6,.int .i32 ((Utf8.decode v1 v10).1:Int)),(8,.sit 320008 v2 v1 (v10+(Utf8.decode v1 v10).2)),(19,.bool v13)],[],[(23,⟨3,1,lm (ba .i64) v11⟩)],[23,320008]⟩
def CE:AS:=⟨[(3,.ref 23),(4,.int .i32 v9),(8,.sit 320008 v2 v1 v10)],[],[(23,⟨3,1,lm (ba .i64) v11⟩)],[23,320008]⟩
abbrev uv:Prop:=∀{v9:Int} {v10:Nat} {v11:(List Int)},L1 v9 v10 v11=some r→LP (Cl M w0) (zp M w0 r) yL (cat Tryz.f178 (pn 244)) m1 (CE v1 v2 v9 v10 v11)
variable{M w0 r v1 v2 v9 v10 v11 v13 v14 m1 L1}{K:Kn}{n:Nat}
theorem Jt(hK:ao K)(hv2:w0.w.heap.size≤v2)(hL1:uv M w0 r v1 v2 m1 L1)(h:mI K n v1 v10 L1 v14=some r):Bd M w0 r (kA 7835 :: .b 1::wn M w0 r m1) (VG v1 v2 v10 v14):=by
 unfold mI at h;exact ae 2 (bw (hL1 h))
theorem HP(hK:ao K)(hv2:w0.w.heap.size≤v2)(hL1:uv M w0 r v1 v2 m1 L1)(h:lI K n v1 v10 v11 L1 v13=some r):Bd M w0 r (kA 15669::kA 7835 :: .b 1::wn M w0 r m1) (Tv v1 v2 v10 v11 v13):=by
 unfold lI at h;obtain⟨h14,h⟩|⟨h14,h⟩:=ak h
 ·refine ah 19 h14 (bh 2 1 (aj 3 ?_));obtain⟨h15,h⟩:=aF h;exact az (cv 23 23 3 1 (ba .i64) (rfl) ((fun _=>rfl)) h15) (ac (ae 0 (Jt hK (v2:=v2) hv2 hL1 h)))
 ·exact ah 19 h14 (ae 2 (Jt hK (v2:=v2) hv2 hL1 h))
theorem RF(hK:ao K)(hv2:w0.w.heap.size≤v2)(hL1:uv M w0 r v1 v2 m1 L1)(h:ig K n v1 L1 v9 v10 v11=some r):Bd M w0 r (kA 244::wn M w0 r m1) (CE v1 v2 v9 v10 v11):=by
 unfold ig at h;refine aC 2 3 1 (aj 0 ?_);obtain⟨h11,h⟩|⟨h11,h⟩:=ak h
 ·refine y6 8 (id:=320008) (g:=v2) h11 hv2 (ac (bK (ks':=kA 15668::kA 15669::kA 7835 :: .b 1::wn M w0 r m1) 8 (aj 3 ?_)));obtain⟨h12,h⟩|⟨h12,h⟩:=ak h
  ·refine aB 15 h12 (aM 5 2 ?_);obtain⟨v12,h13,h⟩:=bind_some h;exact aU (N0 hK h13) (ac (ae 0 (HP hK (v2:=v2) hv2 hL1 h)))
  ·exact aB 15 h12 (ac (ae 0 (HP hK (v2:=v2) hv2 hL1 h)))
 ·refine BT 8 (id:=320008) (g:=v2) h11 (ac (aL 9 ?_));cases h;exact eV
theorem NA(hK:ao K)(hv2:w0.w.heap.size≤v2)(m:Nat):uv M w0 r v1 v2 m (kp K n v1 m):=by
 induction m with
 | zero=>intro v9 v10 v11 h;cases h
 | succ m ih=>intro v9 v10 v11 h;have h:ig K n v1 (kp K n v1 m) v9 v10 v11=some r:=h;exact bB (RF hK hv2 ih h)
theorem UA(hK:ao K)(h:rp K n v1=some r):aS Tryz.prog 178 [.str v1] (fun v s=>v=.ref 23∧look 23 s.r=some ⟨3,1,lm (ba .i64) r⟩):=by
 refine bu (cat Tryz.f178 (pn 1)) Tryz.func178 Tryz.ntmps178 fun M w0=>(bc ⟨[(0,.str v1)],[],[],[]⟩ ?_);unfold rp at h;exact bO 60 61 31 8 (aj 1 (Bt 320008 (b:=v1) fun v2 hv2=>(ac (il 2 0 1 (bI [3,4,8] [] [] (fZ 23 3 3 1 (ae 0 (ci (p:=pn 122) n (NA hK (v2:=v2) hv2 n h)))))))))
end
noncomputable section
variable[GS](M:Nat→Prop)(w0:aE)(r:Bool)(v1 v2:aD)(v3 v7 v10:Bool)  
abbrev nL(n:Nat):aq:=.c (cat Tryz.f155 (pn n))
abbrev Vn:Cx:=⟨Tryz.prog,61,M,w0⟩
abbrev Vd:=bodyPost Tryz.prog Tryz.f155 (bA M w0 (fun v _=>v=.bool r))
abbrev yK(ks:List aq)(s:AS):=VE (Vn M w0) (Vd M w0 r) ks .normal s
def Ue:AS:=⟨[(4,.bool v7)],[],[],[]⟩
def Tq:AS:=⟨[(2,.ptr 2 0),(3,.ptr 3 0),(51,.bool v10)],[(2,am v1),(3,am v2)],[],[2,3]⟩
def TA:AS:=⟨[(2,.ptr 2 0),(3,.ptr 3 0),(12,.bool v3)],[(2,am v1),(3,am v2)],[],[2,3]⟩
variable{M w0 r v1 v2 v3 v7 v10}{K:Kn}{n:Nat}
theorem tf(hK:ao K)(h:kg K n v7=some r):yK M w0 r [nL 53,nL 7] (Ue v7):=by
 unfold kg at h;refine aL 2 ?_;cases h;exact bj
theorem ra(hK:ao K)(h:ii K n v1 v2 v10=some r):yK M w0 r [nL 29,nL 15] (Tq v1 v2 v10):=by
 unfold ii at h;obtain⟨h16,h⟩|⟨h16,h⟩:=ak h
 ·refine ah 51 h16 (aL 5 ?_);cases h;exact bj
 ·refine ah 51 h16 (fb 2 3 3 (aj 6 ?_));obtain⟨v11,h17,h⟩:=bind_some h;refine fJ 1058 (UA hK h17) (fL 23) (az (bv (ba .i64) v11) (ac (aL 1 ?_)));cases h;exact bj
theorem GH(hK:ao K)(h:jS K n v1 v2 v3=some r):yK M w0 r [nL 13,nL 7] (TA v1 v2 v3):=by
 unfold jS at h;obtain⟨h2,h⟩|⟨h2,h⟩:=ak h
 ·refine ah 12 h2 (aC 4 5 2 (aj 4 ?_));obtain⟨h3,h⟩|⟨h3,h⟩:=ak h
  ·refine aB 16 h3 (aM 12 8 ?_);obtain⟨h4,h⟩|⟨h4,h⟩:=ak h
   ·exact aB 24 h4 (ac (ae 0 (tf hK h)))
   ·refine aB 24 h4 (aM 13 1 ?_);obtain⟨v4,h5,h⟩:=bind_some h;exact aU (qN hK h5) (ac (ae 0 (tf hK h)))
  ·refine aB 16 h3 (aM 5 1 ?_);obtain⟨v5,h6,h⟩:=bind_some h;refine aU (qN hK h6) (aM 8 2 ?_);obtain⟨h7,h⟩|⟨h7,h⟩:=ak h
   ·refine aB 20 h7 (aM 12 4 ?_);obtain⟨h8,h⟩|⟨h8,h⟩:=ak h
    ·exact aB 24 h8 (ac (ae 0 (tf hK h)))
    ·refine aB 24 h8 (aM 13 1 ?_);obtain⟨v6,h9,h⟩:=bind_some h;exact aU (qN hK h9) (ac (ae 0 (tf hK h)))
   ·exact aB 20 h7 (ac (ae 0 (tf hK h)))
 ·refine ah 12 h2 (pr 4 5 3 4 (aj 4 ?_));obtain⟨h10,h⟩|⟨h10,h⟩:=ak h
  ·exact aB 32 h10 (ac (ae 0 (ra hK h)))
  ·refine aB 32 h10 (aM 9 5 ?_);obtain⟨h11,h⟩|⟨h11,h⟩:=ak h
   ·exact aB 37 h11 (ac (ae 0 (ra hK h)))
   ·refine aB 37 h11 (aM 10 1 ?_);obtain⟨v8,h12,h⟩:=bind_some h;refine aU (qN hK h12) (aM 14 3 ?_);obtain⟨h13,h⟩|⟨h13,h⟩:=ak h
    ·exact aB 42 h13 (ac (ae 0 (ra hK h)))
    ·refine aB 42 h13 (aM 18 4 ?_);obtain⟨h14,h⟩|⟨h14,h⟩:=ak h
     ·refine aB 46 h14 (aM 19 1 ?_);obtain⟨v9,h15,h⟩:=bind_some h;exact aU (qN hK h15) (ac (ae 0 (ra hK h)))
     ·exact aB 46 h14 (ac (ae 0 (ra hK h)))
theorem po(hK:ao K)(h:ik K n v1 v2=some r):aS Tryz.prog 155 [.agg (am v1),.agg (am v2)] (fun v _=>v=.bool r):=by
 refine bu (cat Tryz.f155 (pn 1)) Tryz.func155 Tryz.ntmps155 fun M w0=>(bc ⟨[(0,.agg (am v1)),(1,.agg (am v2))],[],[],[]⟩ ?_);unfold ik at h;refine bO 12 13 7 4 (aj 4 ?_);obtain⟨h1,h⟩|⟨h1,h⟩:=ak h
 ·exact aB 8 h1 (ac (ae 0 (GH hK h)))
 ·exact aB 8 h1 (ac (ae 0 (GH hK h)))
end
noncomputable section
variable[GS](M:Nat→Prop)(w0:aE)(r v1:Int)  
variable{M w0 r v1}{K:Kn}{n:Nat}
theorem uh(hK:ao K)(h:mM K n v1=some r):aS Tryz.prog 174 [iI v1] (fun v _=>v=iI r):=by
 refine bu (cat Tryz.f174 (pn 1)) Tryz.func174 Tryz.ntmps174 fun M w0=>(bc ⟨[(0,iI v1)],[],[],[]⟩ ?_);unfold mM at h;refine aL 5 ?_;cases h;exact bj
end
noncomputable section
variable[GS](M:Nat→Prop)(w0:aE)(r v1:Int)  
variable{M w0 r v1}{K:Kn}{n:Nat}
theorem EL(hK:ao K)(h:pU K n v1=some r):aS Tryz.prog 152 [iI v1] (fun v _=>v=iI r):=by
 refine bu (cat Tryz.f152 (pn 1)) Tryz.func152 Tryz.ntmps152 fun M w0=>(bc ⟨[(0,iI v1)],[],[],[]⟩ ?_);unfold pU at h;refine aC 6 7 3 (aj 1 ?_);obtain⟨v2,h1,h⟩:=bind_some h;refine aU (uh hK h1) (ac (aL 1 ?_));cases h;exact bj
end
end Go.Proofs.YtocgkfoifehcbaaGreat

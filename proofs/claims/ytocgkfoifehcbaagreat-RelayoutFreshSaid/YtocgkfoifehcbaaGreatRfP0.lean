/- The runs of the functions that RelayoutFresh reaches do what their plain forms say, part 0. Made by a program. -/
import Derived.Test.YtocgkfoifehcbaaGreatRfGk
namespace Go.Proofs.YtocgkfoifehcbaaGreat
open Go.RowKit
set_option maxRecDepth 20000
set_option linter.all false
set_option linter.unusedVariables false
set_option linter.unusedSimpArgs false
noncomputable section
variable[GS](M:Nat→Prop)(w0:aE)(r:Bool)(v1 v2:(List aa))(v3:Fv)(v5:Int)(m1:Nat)(L1:Int→Option Bool)
abbrev zz:Cx:=⟨Tryz.prog,32,M,w0⟩
abbrev AQ:=bodyPost Tryz.prog Tryz.f63 (bA M w0 (fun v _=>v=.bool r))
abbrev N7(ks:List aq)(s:AS):=VE (zz M w0) (AQ M w0 r) ks .normal s
abbrev E9(n:Nat):aq:=.c (cat Tryz.f63 (pn n))
abbrev AX:List aq:=[.b 0,E9 15]
abbrev LD:List aq:=kl (zz M w0) (AQ M w0 r) AX (cat Tryz.f63 (pn 116)) m1::AX
def Eh:AS:=⟨[(1,.sl (lm aR v2)),(2,.fn v3.id v3.aP),(15,.sl (lm aR v1)),(16,iI (v1.length:Int)),(17,iI v5)],[],[],[]⟩
abbrev Dm:Prop:=∀{v5:Int},L1 v5=some r→LP (zz M w0) (AQ M w0 r) AX (cat Tryz.f63 (pn 116)) m1 (Eh v1 v2 v3 v5)
variable{M w0 r v1 v2 v3 v5 m1 L1}{K:Kn}{n:Nat}
theorem Mp(hK:ao K)(hL1:Dm M w0 r v1 v2 v3 m1 L1)(h:sc K n v1 v2 v3 L1 v5=some r):N7 M w0 r (E9 116::LD M w0 r m1) (Eh v1 v2 v3 v5):=by
 unfold sc at h;refine aC 6 7 3 ?_;obtain⟨h7,h⟩|⟨h7,h⟩:=ak h
 ·refine ah 18 h7 (c8 8 9 1 3 5 (aj 1 ?_));obtain⟨h8,h⟩:=aF h;refine az (bi aR av h8 (dY) (dp)) (ac (aC 2 3 1 (aj 2 ?_)));obtain⟨h9,h⟩:=aF h;refine az (bi aR av h9 (dY) (dp)) (ac (aC 2 3 1 (aj 3 ?_)));obtain⟨v6,h10,h⟩:=bind_some h;refine k9 (hK.l3 h10) (ac ?_);obtain⟨h11,h⟩|⟨h11,h⟩:=ak h
  ·refine ah 30 h11 (aL 9 ?_);cases h;exact bj
  ·exact ah 30 h11 (ae 4 (bz (hL1 h)))
 ·refine ah 18 h7 (aL 8 ?_);cases h;exact bj
theorem Si(hK:ao K)(m:Nat):Dm M w0 r v1 v2 v3 m (o7 K n v1 v2 v3 m):=by
 induction m with
 | zero=>intro v5 h;cases h
 | succ m ih=>intro v5 h;have h:sc K n v1 v2 v3 (o7 K n v1 v2 v3 m) v5=some r:=h;exact bB (Mp hK ih h)
theorem P2(hK:ao K)(h:qO K n v1 v2 v3=some r):aU Tryz.prog 63 [.sl (lm aR v1),.sl (lm aR v2),.fn v3.id v3.aP] (fun v _=>v=.bool r):=by
 refine bv (cat Tryz.f63 (pn 1)) Tryz.func63 Tryz.ntmps63 fun M w0=>(bd ⟨[(0,.sl (lm aR v1)),(1,.sl (lm aR v2)),(2,.fn v3.id v3.aP)],[],[],[]⟩ ?_);unfold qO at h;refine bN 12 13 7 4 (aj 1 (az (bu aR v1) (aM 3 1 (az (bu aR v2) (ac ?_)))));obtain⟨h1,h⟩|⟨h1,h⟩:=ak h
 ·refine ah 14 h1 (aL 5 ?_);cases h;exact bj
 ·exact ah 14 h1 (oB 4 5 3 4 (aj 1 (az (bu aR v1) (ac (ae 1 (cg (p:=pn 58) n (Si hK n h)))))))
end
noncomputable section
variable[GS](M:Nat→Prop)(w0:aE)(r:Bool)(v1 v2:aa)(v4:Bool)  
abbrev VT(n:Nat):aq:=.c (cat Tryz.f27 (pn n))
abbrev Su:Cx:=⟨Tryz.prog,52,M,w0⟩
abbrev Tf:=bodyPost Tryz.prog Tryz.f27 (bA M w0 (fun v _=>v=.bool r))
abbrev M0(ks:List aq)(s:AS):=VE (Su M w0) (Tf M w0 r) ks .normal s
def MA:AS:=⟨[(4,.bool v4)],[],[],[]⟩
variable{M w0 r v1 v2 v4}{K:Kn}{n:Nat}
theorem mr(hK:ao K)(h:iw K n v4=some r):M0 M w0 r [VT 7] (MA v4):=by
 unfold iw at h;refine aL 1 ?_;cases h;exact bj
theorem ve(hK:ao K)(h:kw K n v1 v2=some r):aU Tryz.prog 27 [.agg (av v1),.agg (av v2)] (fun v _=>v=.bool r):=by
 refine bv (cat Tryz.f27 (pn 1)) Tryz.func27 Tryz.ntmps27 fun M w0=>(bd ⟨[(0,.agg (av v1)),(1,.agg (av v2))],[],[],[]⟩ ?_);unfold kw at h;refine aC 6 7 3 (aj 6 ?_);obtain⟨h1,h⟩|⟨h1,h⟩:=ak h
 ·refine aB 10 h1 (aM 13 7 ?_);obtain⟨h2,h⟩|⟨h2,h⟩:=ak h
  ·refine aB 17 h2 (aM 20 7 ?_);obtain⟨h3,h⟩|⟨h3,h⟩:=ak h
   ·refine aB 24 h3 (aM 27 7 ?_);obtain⟨h4,h⟩|⟨h4,h⟩:=ak h
    ·refine aB 31 h4 (aM 34 7 ?_);obtain⟨h5,h⟩|⟨h5,h⟩:=ak h
     ·refine aB 38 h5 (aM 41 7 ?_);obtain⟨h6,h⟩|⟨h6,h⟩:=ak h
      ·refine aB 45 h6 (aM 45 4 ?_);obtain⟨v3,h7,h⟩:=bind_some h;exact aS (P2 hK h7) (ac (ae 0 (mr hK h)))
      ·exact aB 45 h6 (ac (ae 0 (mr hK h)))
     ·exact aB 38 h5 (ac (ae 0 (mr hK h)))
    ·exact aB 31 h4 (ac (ae 0 (mr hK h)))
   ·exact aB 24 h3 (ac (ae 0 (mr hK h)))
  ·exact aB 17 h2 (ac (ae 0 (mr hK h)))
 ·exact aB 10 h1 (ac (ae 0 (mr hK h)))
end
noncomputable section
variable[GS](M:Nat→Prop)(w0:aE)(r v1:List ai)  
variable{M w0 r v1}{K:Kn}{n:Nat}
theorem xp(hK:ao K)(h:mG K n v1=some r):aU Tryz.prog 78 [.sl (lm aY v1)] (fun v s=>v=.ref 5∧look 5 s.r=some ⟨44,67,lm aY r⟩):=by
 refine bv (cat Tryz.f78 (pn 1)) Tryz.func78 Tryz.ntmps78 fun M w0=>(bd ⟨[(0,.sl (lm aY v1))],[],[],[]⟩ ?_);unfold mG at h;refine bN 12 13 7 4 (aj 1 ?_);refine Ew (aQ Tryz.f78 (pn 12) 1) (.eql) 42 42 (.tmp 3) (.const (.slice none 0 0)) 4 (lm aY v1) (r:=aK Tryz.f78 (pn 12) 2) (e:=44) (by kernel_rfl) (by kernel_rfl) (by kernel_rfl) (by kernel_rfl) (by kernel_rfl) (by kernel_rfl) (by kernel_rfl) (by kernel_rfl) (fun hq=>?_) ?_
 ·have h:=Eb (by simpa using hq) h;refine ac (aL 5 (gh 5 2 44 67 ?_));cases h;exact fd
 ·have h:=DD h;refine ac (eV 2 3 3 (aj 0 (t9 42 5 (e:=44) (sz:=67) (aM 2 1 ?_))));obtain⟨h2,h⟩:=aF h;refine az (cy 7 5 44 67 aY (rfl) (ky) h2) (ac (aL 1 ?_));cases h;exact fd
end
noncomputable section
variable[GS](M:Nat→Prop)(w0:aE)(r v1:ai)(v2:List ai)(v4:Int)(v5:List ai)(m1:Nat)(L1:Int→(List ai)→Option ai)
abbrev AC:Cx:=⟨Tryz.prog,25,M,w0⟩
abbrev Co:=bodyPost Tryz.prog Tryz.f40 (bA M w0 (fun v s=>v=.agg (List.set (aO ({ r with Kids:=[] }:ai)) 66 (.ref 1007))∧look 1007 s.r=some ⟨44,67,lm aY r.Kids⟩))
abbrev Nm(ks:List aq)(s:AS):=VE (AC M w0) (Co M w0 r) ks .normal s
abbrev Gg(n:Nat):aq:=.c (cat Tryz.f40 (pn n))
abbrev z4:List aq:=[.b 0,Gg 15]
abbrev R1:List aq:=kl (AC M w0) (Co M w0 r) z4 (cat Tryz.f40 (pn 116)) m1::z4
def Hi:AS:=⟨[(1,.ptr 1 0),(2,.ptr 2 0),(10,.ref 1007),(11,iI (v2.length:Int)),(12,iI v4)],[(1,List.set (aO ({ v1 with Kids:=[] }:ai)) 66 (.ref 1007)),(2,List.set (aO bG) 66 (.nils))],[(1007,⟨44,67,lm aY v5⟩)],[1,2,1007]⟩
abbrev Dn:Prop:=∀{v4:Int} {v5:(List ai)},L1 v4 v5=some r→LP (AC M w0) (Co M w0 r) z4 (cat Tryz.f40 (pn 116)) m1 (Hi v1 v2 v4 v5)
variable{M w0 r v1 v2 v4 v5 m1 L1}{K:Kn}{n:Nat}
theorem Lv(hK:ao K)(hL1:Dn M w0 r v1 v2 m1 L1)(h:sW K n v1 v2 L1 v4 v5=some r):Nm M w0 r (Gg 116::R1 M w0 r m1) (Hi v1 v2 v4 v5):=by
 unfold sW at h;refine aC 6 7 3 ?_;obtain⟨h6,h⟩|⟨h6,h⟩:=ak h
 ·refine ah 13 h6 (c8 8 9 1 3 5 (aj 1 ?_));obtain⟨h7,h⟩:=aF h;refine az (cS 1007 67 aY h7) (az (cR 44 0 aY aO (cE h7).2 (ey)) (ac (bJ [1,2,3,4,10,11,12] [1,2,4] [1007] ?_)));obtain⟨v6,h8,h⟩:=bind_some h;obtain⟨h9,h⟩:=aF h;exact bQ 1 (nu 17 [.ptr 1 66,.ref 1007,iI v4,.agg (aO (gD v5 v4)),.agg (aO v6),.eptr 1007 67 (v4.toNat) 0]) [] [] [oS 1007 ⟨44,67,lm aY (List.set v5 v4.toNat v6)⟩] (ay (vz 4) (ag (cD 0 1 21 (hK.td h8)) (bC (d8 1007 67 aY (L:=v5) h9) (ag (ex (m:=0) (fw 1007 44 67 0 aY aO v6 (cE h9).2 (ey))) bP)))) (ae 2 (bz (hL1 h)))
 ·refine ah 13 h6 (aL 8 ?_);cases h;exact fd
theorem Qy(hK:ao K)(m:Nat):Dn M w0 r v1 v2 m (nU K n v1 v2 m):=by
 induction m with
 | zero=>intro v4 v5 h;cases h
 | succ m ih=>intro v4 v5 h;have h:sW K n v1 v2 (nU K n v1 v2 m) v4 v5=some r:=h;exact bB (Lv hK ih h)
theorem uF(hK:ao K)(h:kL K n v1=some r):aU Tryz.prog 40 [.agg (aO v1)] (fun v s=>v=.agg (List.set (aO ({ r with Kids:=[] }:ai)) 66 (.ref 1007))∧look 1007 s.r=some ⟨44,67,lm aY r.Kids⟩):=by
 refine bv (cat Tryz.f40 (pn 1)) Tryz.func40 Tryz.ntmps40 fun M w0=>(bd ⟨[(0,.agg (aO v1))],[],[],[]⟩ ?_);unfold kL at h;refine aC 6 7 3 (aj 2 ?_);obtain⟨v2,h1,h⟩:=bind_some h;exact fU 1007 (xp hK h1) (fS 5) (ac (bN 4 5 3 2 (aj 2 (az (bu aY v2) (ac (ae 1 (cg (p:=pn 58) n (Qy hK n h))))))))
end
noncomputable section
variable[GS](M:Nat→Prop)(w0:aE)(r:ai×Bool×Int×Int×(List aG))(v1:aa)(v2 v3 v4:Int)(v5:List aG)(v9:Int)(v11:Bool)(m1:Nat)(L1:Int→Option (ai×Bool×Int×Int×(List aG)))
abbrev BC:Cx:=⟨Tryz.prog,34,M,w0⟩
abbrev Bp:=bodyPost Tryz.prog Tryz.f19 (bA M w0 (fun v s=>v=.tup [.agg (aO r.1),.bool r.2.1]∧cj s.o [(440001,List.set (bL (⟨[],r.2.2.1,r.2.2.2.1⟩:bH)) 0 (.ref 440009))]∧look 440009 s.r=some ⟨64,127,lm bc r.2.2.2.2⟩))
abbrev G6(ks:List aq)(s:AS):=VE (BC M w0) (Bp M w0 r) ks .normal s
abbrev lR(n:Nat):aq:=.c (cat Tryz.f19 (pn n))
abbrev Aq:List aq:=[.b 0,lR 7]
abbrev HJ:List aq:=kl (BC M w0) (Bp M w0 r) Aq (cat Tryz.f19 (pn 52)) m1::Aq
def Ub:AS:=⟨[(2,iI v2),(4,.ptr 4 0),(6,.ptr 6 0),(9,.ptr 9 0),(13,.ref 440009),(14,iI (v5.length:Int)),(15,iI v9),(28,.bool v11)],[(4,av v1),(6,List.set (aO bG) 66 (.nils)),(9,bc (gD v5 v9)),(440001,List.set (bL (⟨[],v3,v4⟩:bH)) 0 (.ref 440009))],[(440009,⟨64,127,lm bc v5⟩)],[4,6,9,440001,440009,1440001,440001]⟩
def DC:AS:=⟨[(2,iI v2),(4,.ptr 4 0),(6,.ptr 6 0),(13,.ref 440009),(14,iI (v5.length:Int)),(15,iI v9)],[(4,av v1),(6,List.set (aO bG) 66 (.nils)),(440001,List.set (bL (⟨[],v3,v4⟩:bH)) 0 (.ref 440009))],[(440009,⟨64,127,lm bc v5⟩)],[4,6,440001,440009,1440001,440001]⟩
abbrev B5:Prop:=∀{v9:Int},L1 v9=some r→LP (BC M w0) (Bp M w0 r) Aq (cat Tryz.f19 (pn 52)) m1 (DC v1 v2 v3 v4 v5 v9)
variable{M w0 r v1 v2 v3 v4 v5 v9 v11 m1 L1}{K:Kn}{n:Nat}[SG w0]
theorem FA(hK:ao K)(hL1:B5 M w0 r v1 v2 v3 v4 v5 m1 L1)(h:tk K n v1 v2 v3 v4 v5 v9 L1 v11=some r):G6 M w0 r (lR 3379 :: .b 1::lR 423::HJ M w0 r m1) (Ub v1 v2 v3 v4 v5 v9 v11):=by
 unfold tk at h;obtain⟨h11,h⟩|⟨h11,h⟩:=ak h
 ·refine ah 28 h11 (aC 4 5 2 (aj 2 ?_));obtain⟨v12,h12,h⟩:=bind_some h;refine fU 1031 (uF hK h12) (tU (i:=66) (by kernel_rfl)) (ac (aL 6 (gb 1031 ?_)));cases h;exact lC
 ·exact ah 28 h11 (ae 4 (bz (hL1 h)))
theorem QU(hK:ao K)(hL1:B5 M w0 r v1 v2 v3 v4 v5 m1 L1)(h:ru K n v1 v2 v3 v4 v5 L1 v9=some r):G6 M w0 r (lR 52::HJ M w0 r m1) (DC v1 v2 v3 v4 v5 v9):=by
 unfold ru at h;refine aC 6 7 3 ?_;obtain⟨h7,h⟩|⟨h7,h⟩:=ak h
 ·refine ah 16 h7 (c8 8 9 1 3 5 (aj 0 ?_));obtain⟨h8,h⟩:=aF h;refine az (cS 440009 127 bc h8) (az (cR 64 0 bc bc (cE h8).2 ((fun _=>rfl))) (ac (aC 2 3 1 (aj 5 ?_))));obtain⟨h9,h⟩|⟨h9,h⟩:=ak h
  ·refine aB 23 h9 (aM 8 3 ?_);obtain⟨v10,h10,h⟩:=bind_some h;exact aS (ve hK h10) (ac (ae 0 (FA hK hL1 h)))
  ·exact aB 23 h9 (ac (ae 0 (FA hK hL1 h)))
 ·refine ah 16 h7 (aL 8 (jF 6 ?_));cases h;exact lC
theorem LW(hK:ao K)(m:Nat):B5 M w0 r v1 v2 v3 v4 v5 m (pc K n v1 v2 v3 v4 v5 m):=by
 induction m with
 | zero=>intro v9 h;cases h
 | succ m ih=>intro v9 h;have h:ru K n v1 v2 v3 v4 v5 (pc K n v1 v2 v3 v4 v5 m) v9=some r:=h;exact bB (QU hK ih h)
theorem Ou(hK:ao K)(h:s8 K n v1 v2 v3 v4 v5=some r):eG Tryz.prog 19 [.ptr 440001 0,.agg (av v1),iI v2] [(440001,List.set (bL (⟨[],v3,v4⟩:bH)) 0 (.ref 440009))] ⟨64,127,lm bc v5⟩ (fun v s=>v=.tup [.agg (aO r.1),.bool r.2.1]∧cj s.o [(440001,List.set (bL (⟨[],r.2.2.1,r.2.2.2.1⟩:bH)) 0 (.ref 440009))]∧look 440009 s.r=some ⟨64,127,lm bc r.2.2.2.2⟩):=by
 refine jz (c:=cat Tryz.f19 []) Tryz.func19 (by kernel_rfl) _ Tryz.ntmps19 (of_decide_eq_true (by kernel_rfl)) fun M w0=>(bd ⟨[(0,.ptr 440001 0),(1,.agg (av v1)),(2,iI v2)],[(440001,List.set (bL (⟨[],v3,v4⟩:bH)) 0 (.ref 440009))],[(440009,⟨64,127,lm bc v5⟩)],[440009,440001,1440001]⟩ ?_);unfold s8 at h;exact bK (ks':=[lR 12,lR 13,lR 7]) 4 (aj 4 (az (bu bc v5) (ac (ae 1 (cg (p:=pn 26) n (LW hK n h))))))
end
noncomputable section
variable[GS](M:Nat→Prop)(w0:aE)(r:ai×Bool×Int×Int×(List aG))(v1:aa)(v2 v3 v4:Int)(v5:List aG)(v6:ai×Bool×Int×Int×(List aG))(v7:Int)  
abbrev zk(n:Nat):aq:=.c (cat Tryz.f36 (pn n))
abbrev SD:Cx:=⟨Tryz.prog,27,M,w0⟩
abbrev P6:=bodyPost Tryz.prog Tryz.f36 (bA M w0 (fun v s=>v=.tup [.agg (aO r.1),.bool r.2.1]∧cj s.o [(440001,List.set (bL (⟨[],r.2.2.1,r.2.2.2.1⟩:bH)) 0 (.ref 440009))]∧look 440009 s.r=some ⟨64,127,lm bc r.2.2.2.2⟩))
abbrev UN(ks:List aq)(s:AS):=VE (SD M w0) (P6 M w0 r) ks .normal s
def So:AS:=⟨[(6,.ptr 6 0),(8,.ptr 8 0),(9,.bool v6.2.1)],[(6,List.set (aO bG) 66 (.nils)),(8,aO v6.1),(440001,List.set (bL (⟨[],v6.2.2.1,v7⟩:bH)) 0 (.ref 440009))],[(440009,⟨64,127,lm bc v6.2.2.2.2⟩)],[6,8,440001,440009,1440001,440001]⟩
variable{M w0 r v1 v2 v3 v4 v5 v6 v7}{K:Kn}{n:Nat}[SG w0]
theorem H8(hK:ao K)(h:wd K n v6 v7=some r):UN M w0 r [zk 15] (So v6 v7):=by
 unfold wd at h;refine aL 3 ?_;cases h;exact lC
theorem NI(hK:ao K)(h:tI K n v1 v2 v3 v4 v5=some r):eG Tryz.prog 36 [.ptr 440001 0,.agg (av v1),iI v2] [(440001,List.set (bL (⟨[],v3,v4⟩:bH)) 0 (.ref 440009))] ⟨64,127,lm bc v5⟩ (fun v s=>v=.tup [.agg (aO r.1),.bool r.2.1]∧cj s.o [(440001,List.set (bL (⟨[],r.2.2.1,r.2.2.2.1⟩:bH)) 0 (.ref 440009))]∧look 440009 s.r=some ⟨64,127,lm bc r.2.2.2.2⟩):=by
 refine jz (c:=cat Tryz.f36 []) Tryz.func36 (by kernel_rfl) _ Tryz.ntmps36 (of_decide_eq_true (by kernel_rfl)) fun M w0=>(bd ⟨[(0,.ptr 440001 0),(1,.agg (av v1)),(2,iI v2)],[(440001,List.set (bL (⟨[],v3,v4⟩:bH)) 0 (.ref 440009))],[(440009,⟨64,127,lm bc v5⟩)],[440009,440001,1440001]⟩ ?_);unfold tI at h;refine bK (ks':=[zk 6,zk 7]) 3 (aj 3 ?_);obtain⟨v6,h1,h⟩:=bind_some h;refine qc (Ou hK h1) (ac (aC 5 3 3 ?_));obtain⟨h2,h⟩|⟨h2,h⟩:=ak h
 ·exact ah 17 h2 (ae 2 (H8 hK h))
 ·exact ah 17 h2 (ae 2 (H8 hK h))
end
noncomputable section
variable[GS](M:Nat→Prop)(w0:aE)(r:Int×Int×(List aG))(v1:aa)(v2:Int)(v3:ai)(v4 v5:Int)(v6:List aG)  
abbrev O4(n:Nat):aq:=.c (cat Tryz.f37 (pn n))
variable{M w0 r v1 v2 v3 v4 v5 v6}{K:Kn}{n:Nat}[SG w0]
theorem Rc(hK:ao K)(h:sw K n v1 v2 v3 v4 v5 v6=some r):eG Tryz.prog 37 [.ptr 440001 0,.agg (av v1),iI v2,.agg (aO v3)] [(440001,List.set (bL (⟨[],v4,v5⟩:bH)) 0 (.ref 440009))] ⟨64,127,lm bc v6⟩ (fun v s=>v=.tup []∧cj s.o [(440001,List.set (bL (⟨[],r.1,r.2.1⟩:bH)) 0 (.ref 440009))]∧look 440009 s.r=some ⟨64,127,lm bc r.2.2⟩):=by
 refine jz (c:=cat Tryz.f37 []) Tryz.func37 (by kernel_rfl) _ Tryz.ntmps37 (of_decide_eq_true (by kernel_rfl)) fun M w0=>(bd ⟨[(0,.ptr 440001 0),(1,.agg (av v1)),(2,iI v2),(3,.agg (aO v3))],[(440001,List.set (bL (⟨[],v4,v5⟩:bH)) 0 (.ref 440009))],[(440009,⟨64,127,lm bc v6⟩)],[440009,440001,1440001]⟩ ?_);unfold sw at h;refine bK (ks':=[O4 7]) 4 (bJ [0,2,5,7] [5,7,440001] [440009] ?_);obtain⟨v8,h2,h⟩:=bind_some h;obtain⟨h3,h⟩:=aF h;refine bQ 2 (nu 15 [.ptr 440001 0,.ptr 440001 0,.ptr 440001 0,.ptr 440001 0,.ref 440009,.agg (av v1),iI v2,.agg (aO v3),.agg (aO v8),.agg (bc (⟨v1,v2,v8⟩:aG)),.sl (lm bc [(⟨v1,v2,v8⟩:aG)])]++nu 27 [.ptr 440001 0,.ptr 440001 0]) [] [] [fB 26 440009 ⟨64,127,lm bc (v6++[(⟨v1,v2,v8⟩:aG)])⟩,bZ Tryz.prog 29 Tryz.f37 (pn 7) 14] (ay [.v 0 2,.v 0 2,.v 0 2,.v 0 2,.v 0 1,.v 0 2,.v 0 2,.v 0 2] (ag (cD 0 1 23 (aU.bT (uF hK h2) (V':=.agg (aO v8)) (by kernel_rfl))) (ay [.v 0 2,.v 0 1] (ag (ex (m:=0) (cy 26 440009 64 127 bc (rfl) (yo) h3)) (ay [.v 1 2,.v 1 1] (ag (bX 1) bP)))))) (A3 ?_)
 cases h;exact lC
end
noncomputable section
variable[GS](M:Nat→Prop)(w0:aE)(r v1:Int)  
variable{M w0 r v1}{K:Kn}{n:Nat}
theorem gF(hK:ao K)(h:eS K n v1=some r):aU Tryz.prog 124 [iI v1] (fun v _=>v=iI r):=by
 refine bv (cat Tryz.f124 (pn 1)) Tryz.func124 Tryz.ntmps124 fun M w0=>(bd ⟨[(0,iI v1)],[],[],[]⟩ ?_);unfold eS at h;refine aL 5 ?_;cases h;exact bj
end
noncomputable section
variable[GS](M:Nat→Prop)(w0:aE)(r:Int×Bool)(v1:dg)(v2 v4:Int)  
abbrev Tl(n:Nat):aq:=.c (cat Tryz.f86 (pn n))
abbrev OI:Cx:=⟨Tryz.prog,25,M,w0⟩
abbrev Se:=bodyPost Tryz.prog Tryz.f86 (bA M w0 (fun v _=>v=.tup [iI r.1,.bool r.2]))
abbrev VQ(ks:List aq)(s:AS):=VE (OI M w0) (Se M w0 r) ks .normal s
def Po:AS:=⟨[(6,iI v4)],[],[],[]⟩
variable{M w0 r v1 v2 v4}{K:Kn}{n:Nat}
theorem Ff(hK:ao K)(h:nB K n v4=some r):VQ M w0 r [.b 0,Tl 15] (Po v4):=by
 unfold nB at h;refine aL 4 ?_;cases h;exact gn
theorem eC(hK:ao K)(h:dx K n v1 v2=some r):aU Tryz.prog 86 [.agg (pH v1),iI v2] (fun v _=>v=.tup [iI r.1,.bool r.2]):=by
 refine bv (cat Tryz.f86 (pn 1)) Tryz.func86 Tryz.ntmps86 fun M w0=>(bd ⟨[(0,.agg (pH v1)),(1,iI v2)],[],[],[]⟩ ?_);unfold dx at h;refine gd 117 0 15 10 ?_;obtain⟨h1,h⟩|⟨h1,h⟩:=ak h
 ·exact ah 11 h1 (ae 2 (Ff hK h))
 ·refine ah 11 h1 (bh 7 3 ?_);obtain⟨h2,h⟩|⟨h2,h⟩:=ak h
  ·refine ah 13 h2 (bh 2 1 (aj 1 ?_));obtain⟨v3,h3,h⟩:=bind_some h;exact aS (gF hK h3) (ac (ae 0 (Ff hK h)))
  ·refine ah 13 h2 (aL 6 ?_);cases h;exact gn
end
noncomputable section
variable[GS](M:Nat→Prop)(w0:aE)(r:bO)(v1:aJ)(v2 v3:Int)  
abbrev ms(n:Nat):aq:=.c (cat Tryz.f88 (pn n))
abbrev Ku:Cx:=⟨Tryz.prog,52,M,w0⟩
abbrev O5:=bodyPost Tryz.prog Tryz.f88 (bA M w0 (fun v _=>v=.agg (cb r)))
abbrev qP(m:Nat):List aq:=kl (Ku M w0) (O5 M w0 r) [.b 0,ms 15] (cat Tryz.f88 (pn 116)) m::[.b 0,ms 15]
variable{M w0 r v1 v2 v3}{K:Kn}{n:Nat}
theorem rY(hK:ao K)(h:kP K n v1 v2 v3=some r):aU Tryz.prog 88 [.agg (aV v1),iI v2,iI v3] (fun v _=>v=.agg (cb r)):=by
 refine bv (cat Tryz.f88 (pn 1)) Tryz.func88 Tryz.ntmps88 fun M w0=>(bd ⟨[(0,.agg (aV v1)),(1,iI v2),(2,iI v3)],[],[],[]⟩ ?_);unfold kP at h;refine bR (ks':=[ms 58,.b 0,ms 15]) 8 ⟨[(1,iI v2),(3,.ptr 3 0),(6,.ptr 6 0),(7,.ptr 7 0),(13,iI 0)],[(3,aV v1),(6,cb gl),(7,cb ({ gl with Content:=v3 }:bO))],[],[3,6,7]⟩ (s5 40 (c:=cat Tryz.f88 [1,1,0,1,0,0]) (by kernel_rfl) (bB (bK (ks':=ms 7474::ms 7475 :: .b 1::ms 935::qP M w0 r 39) 10 (aj 6 ?_))));obtain⟨v4,h1,h⟩:=bind_some h;refine aS (eC hK h1) (ac (aC 2 3 1 (aj 5 ?_)));obtain⟨v5,h2,h⟩:=bind_some h;refine aS (gF hK h2) (ac (aC 2 3 1 (aj 5 ?_)));obtain⟨v6,h3,h⟩:=bind_some h;refine aS (eC hK h3) (ac (bR (ks':=qP M w0 r 39) 3 ⟨[(1,iI v2),(3,.ptr 3 0),(6,.ptr 6 0),(7,.ptr 7 0),(13,iI 1)],[(3,aV v1),(6,cb gl),(7,cb (⟨⟨v4.1,0,0,0⟩,⟨v5,0,0,0⟩,⟨(max v6.1 0),0,0,0⟩,v3⟩:bO))],[],[3,6,7]⟩ (bz (bB (dP 114 115 1 15 10 (aj 6 ?_))))));obtain⟨v7,h4,h⟩:=bind_some h
 refine aS (eC hK h4) (ac (aC 2 3 1 (aj 5 ?_)));obtain⟨v8,h5,h⟩:=bind_some h;refine aS (gF hK h5) (ac (aC 2 3 1 (aj 5 ?_)));obtain⟨v9,h6,h⟩:=bind_some h;refine aS (eC hK h6) (ac (bR (ks':=qP M w0 r 38) 3 ⟨[(1,iI v2),(3,.ptr 3 0),(6,.ptr 6 0),(7,.ptr 7 0),(13,iI 2)],[(3,aV v1),(6,cb gl),(7,cb (⟨⟨v4.1,v7.1,0,0⟩,⟨v5,v8,0,0⟩,⟨(max v6.1 0),(max v9.1 0),0,0⟩,v3⟩:bO))],[],[3,6,7]⟩ (bz (bB (dP 114 115 1 15 10 (aj 6 ?_))))));obtain⟨v10,h7,h⟩:=bind_some h;refine aS (eC hK h7) (ac (aC 2 3 1 (aj 5 ?_)));obtain⟨v11,h8,h⟩:=bind_some h;refine aS (gF hK h8) (ac (aC 2 3 1 (aj 5 ?_)));obtain⟨v12,h9,h⟩:=bind_some h;refine aS (eC hK h9) (ac (bR (ks':=qP M w0 r 37) 3 ⟨[(1,iI v2),(3,.ptr 3 0),(6,.ptr 6 0),(7,.ptr 7 0),(13,iI 3)],[(3,aV v1),(6,cb gl),(7,cb (⟨⟨v4.1,v7.1,v10.1,0⟩,⟨v5,v8,v11,0⟩,⟨(max v6.1 0),(max v9.1 0),(max v12.1 0),0⟩,v3⟩:bO))],[],[3,6,7]⟩ (bz (bB (dP 114 115 1 15 10 (aj 6 ?_))))));obtain⟨v13,h10,h⟩:=bind_some h
 refine aS (eC hK h10) (ac (aC 2 3 1 (aj 5 ?_)));obtain⟨v14,h11,h⟩:=bind_some h;refine aS (gF hK h11) (ac (aC 2 3 1 (aj 5 ?_)));obtain⟨v15,h12,h⟩:=bind_some h;refine aS (eC hK h12) (ac (bR (ks':=qP M w0 r 36) 3 ⟨[(1,iI v2),(3,.ptr 3 0),(6,.ptr 6 0),(7,.ptr 7 0),(13,iI 4)],[(3,aV v1),(6,cb gl),(7,cb (⟨⟨v4.1,v7.1,v10.1,v13.1⟩,⟨v5,v8,v11,v14⟩,⟨(max v6.1 0),(max v9.1 0),(max v12.1 0),(max v15.1 0)⟩,v3⟩:bO))],[],[3,6,7]⟩ (bz (bB (aL 11 ?_)))));cases h;exact bj
end
noncomputable section
variable[GS](M:Nat→Prop)(w0:aE)(r:Int)(v1:bO)  
variable{M w0 r v1}{K:Kn}{n:Nat}
theorem tv(hK:ao K)(h:ki K n v1=some r):aU Tryz.prog 89 [.agg (cb v1)] (fun v _=>v=iI r):=by
 refine bv (cat Tryz.f89 (pn 1)) Tryz.func89 Tryz.ntmps89 fun M w0=>(bd ⟨[(0,.agg (cb v1))],[],[],[]⟩ ?_);unfold ki at h;refine aL 5 ?_;cases h;exact bj
end
noncomputable section
variable[GS](M:Nat→Prop)(w0:aE)(r:Int)(v1:aJ)(v2 v3 v5 v7:Int)  
abbrev EZ(n:Nat):aq:=.c (cat Tryz.f90 (pn n))
abbrev KL:Cx:=⟨Tryz.prog,37,M,w0⟩
abbrev Np:=bodyPost Tryz.prog Tryz.f90 (bA M w0 (fun v _=>v=iI r))
abbrev GG(ks:List aq)(s:AS):=VE (KL M w0) (Np M w0 r) ks .normal s
def RE:AS:=⟨[(2,iI v7)],[],[],[]⟩
def Q4:AS:=⟨[(1,iI v2),(2,iI v5),(3,.ptr 3 0)],[(3,aV v1)],[],[3]⟩
variable{M w0 r v1 v2 v3 v5 v7}{K:Kn}{n:Nat}
theorem IU(hK:ao K)(h:se K n v7=some r):GG M w0 r [EZ 31] (RE v7):=by
 unfold se at h;refine aL 3 ?_;cases h;exact bj
theorem IL(hK:ao K)(h:tf K n v1 v2 v5=some r):GG M w0 r [EZ 15] (Q4 v1 v2 v5):=by
 unfold tf at h;refine bN 4 5 3 2 (aj 3 ?_);obtain⟨v6,h3,h⟩:=bind_some h;refine aS (eC hK h3) (ac (bh 3 2 ?_));obtain⟨h4,h⟩|⟨h4,h⟩:=ak h
 ·exact ah 32 h4 (ae 2 (IU hK h))
 ·exact ah 32 h4 (ae 2 (IU hK h))
theorem uy(hK:ao K)(h:mN K n v1 v2 v3=some r):aU Tryz.prog 90 [.agg (aV v1),iI v2,iI v3] (fun v _=>v=iI r):=by
 refine bv (cat Tryz.f90 (pn 1)) Tryz.func90 Tryz.ntmps90 fun M w0=>(bd ⟨[(0,.agg (aV v1)),(1,iI v2),(2,iI v3)],[],[],[]⟩ ?_);unfold mN at h;refine bN 28 29 15 6 (aj 3 ?_);obtain⟨v4,h1,h⟩:=bind_some h;refine aS (eC hK h1) (ac (bh 3 2 ?_));obtain⟨h2,h⟩|⟨h2,h⟩:=ak h
 ·exact ah 20 h2 (ae 2 (IL hK h))
 ·exact ah 20 h2 (ae 2 (IL hK h))
end
noncomputable section
variable[GS](M:Nat→Prop)(w0:aE)(r:bO)(v1:aJ)(v2 v3:Int)(v4:bO)(v7 v8 v9:Int)(v10 v11:(Int×Bool))(v12:Bool)(v13:V4 Int)  
abbrev wu(n:Nat):aq:=.c (cat Tryz.f75 (pn n))
abbrev T4:Cx:=⟨Tryz.prog,89,M,w0⟩
abbrev Sr:=bodyPost Tryz.prog Tryz.f75 (bA M w0 (fun v _=>v=.agg (cb r)))
abbrev yE(ks:List aq)(s:AS):=VE (T4 M w0) (Sr M w0 r) ks .normal s
def Pp:AS:=⟨[(4,.ptr 4 0),(5,.ptr 5 0)],[(4,cb gl),(5,cb ({ v4 with Margin:=v13,Content:=v8 }:bO))],[],[4,5]⟩
def Na:AS:=⟨[(4,.ptr 4 0),(5,.ptr 5 0),(8,iI (ab (v3-v9))),(10,.bool v10.2),(12,.bool v11.2),(59,.bool v12)],[(4,cb gl),(5,cb ({ v4 with Content:=v8 }:bO))],[],[4,5]⟩
def Th:AS:=⟨[(1,iI v3),(2,.ptr 2 0),(4,.ptr 4 0),(5,.ptr 5 0),(6,iI v7)],[(2,aV v1),(4,cb gl),(5,cb v4)],[],[2,4,5]⟩
variable{M w0 r v1 v2 v3 v4 v7 v8 v9 v10 v11 v12 v13}{K:Kn}{n:Nat}
theorem uo(hK:ao K)(h:ow K n v4 v8 v13=some r):yE M w0 r [.b 0,wu 4095] (Pp v4 v8 v13):=by
 unfold ow at h;refine aL 4 ?_;cases h;exact bj
theorem Jq(hK:ao K)(h:xk K n v3 v4 v8 v9 v10 v11 v12=some r):yE M w0 r [wu 16377,.b 0,wu 4095] (Na v3 v4 v8 v9 v10 v11 v12):=by
 unfold xk at h;obtain⟨h12,h⟩|⟨h12,h⟩:=ak h
 ·exact ah 59 h12 (ae 4 (uo hK h))
 ·refine ah 59 h12 (bh 7 3 ?_);obtain⟨h13,h⟩|⟨h13,h⟩:=ak h
  ·exact ah 76 h13 (ae 2 (uo hK h))
  ·refine ah 76 h13 (bh 7 3 ?_);obtain⟨h14,h⟩|⟨h14,h⟩:=ak h
   ·exact ah 82 h14 (ae 2 (uo hK h))
   ·exact ah 82 h14 (ae 2 (uo hK h))
theorem Gn(hK:ao K)(h:rX K n v1 v3 v4 v7=some r):yE M w0 r [wu 63] (Th v1 v3 v4 v7):=by
 unfold rX at h;refine aC 2 3 1 (aj 3 ?_);obtain⟨v8,h6,h⟩:=bind_some h;refine aS (uy hK h6) (ac (aC 2 3 1 (aj 2 ?_)));obtain⟨v9,h7,h⟩:=bind_some h;refine aS (tv hK h7) (ac (aC 5 3 3 ?_));obtain⟨h8,h⟩|⟨h8,h⟩:=ak h
 ·refine ah 41 h8 (aL 5 ?_);cases h;exact bj
 ·refine ah 41 h8 (eV 2 3 3 (aj 4 ?_));obtain⟨v10,h9,h⟩:=bind_some h;refine aS (eC hK h9) (ac (aC 2 3 1 (aj 4 ?_)));obtain⟨v11,h10,h⟩:=bind_some h;refine aS (eC hK h10) (ac (dP 8 9 0 3 3 (aj 3 ?_)));obtain⟨h11,h⟩|⟨h11,h⟩:=ak h
  ·exact aB 62 h11 (ac (ae 0 (Jq hK h)))
  ·exact aB 62 h11 (ac (ae 0 (Jq hK h)))
theorem H7(hK:ao K)(h:oa K n v1 v2=some r):aU Tryz.prog 75 [.agg (aV v1),iI v2] (fun v _=>v=.agg (cb r)):=by
 refine bv (cat Tryz.f75 (pn 1)) Tryz.func75 Tryz.ntmps75 fun M w0=>(bd ⟨[(0,.agg (aV v1)),(1,iI v2)],[],[],[]⟩ ?_);unfold oa at h;refine aC 6 7 3 (aj 1 ?_);obtain⟨v3,h1,h⟩:=bind_some h;refine aS (gF hK h1) (ac (aC 2 3 1 (aj 2 ?_)));obtain⟨v4,h2,h⟩:=bind_some h;refine aS (rY hK h2) (ac (aC 2 3 1 (aj 3 ?_)));obtain⟨v5,h3,h⟩:=bind_some h;refine aS (eC hK h3) (ac (aC 5 3 3 ?_));obtain⟨h4,h⟩|⟨h4,h⟩:=ak h
 ·refine ah 26 h4 (bh 2 1 (aj 2 ?_));obtain⟨v6,h5,h⟩:=bind_some h;exact aS (tv hK h5) (ac (ae 0 (Gn hK h)))
 ·exact ah 26 h4 (ae 2 (Gn hK h))
end
noncomputable section
variable[GS](M:Nat→Prop)(w0:aE)(r:aW)(v1:Int)  
variable{M w0 r v1}{K:Kn}{n:Nat}
theorem GL(hK:ao K)(h:sr K n v1=some r):aU Tryz.prog 79 [iI v1] (fun v _=>v=.agg (cA r)):=by
 refine bv (cat Tryz.f79 (pn 1)) Tryz.func79 Tryz.ntmps79 fun M w0=>(bd ⟨[(0,iI v1)],[],[],[]⟩ ?_);unfold sr at h;refine aL 5 ?_;cases h;exact bj
end
noncomputable section
variable[GS](M:Nat→Prop)(w0:aE)(r v1:ai)(v2:Int)(v3:Int×Bool)(v5:Int)  
abbrev MK(n:Nat):aq:=.c (cat Tryz.f83 (pn n))
abbrev Sm:Cx:=⟨Tryz.prog,45,M,w0⟩
abbrev O8:=bodyPost Tryz.prog Tryz.f83 (bA M w0 (fun v _=>v=.agg (aO r)))
abbrev Vn(ks:List aq)(s:AS):=VE (Sm M w0) (O8 M w0 r) ks .normal s
def Ni:AS:=⟨[(2,.ptr 2 0),(4,.ptr 4 0)],[(2,aO ({ v1 with X:=(ab (v1.X+v3.1)),Y:=v5 }:ai)),(4,List.set (aO bG) 66 (.nils))],[],[2,4]⟩
variable{M w0 r v1 v2 v3 v5}{K:Kn}{n:Nat}
theorem C3(hK:ao K)(h:rE K n v1 v3 v5=some r):Vn M w0 r [MK 63] (Ni v1 v3 v5):=by
 unfold rE at h;refine aL 3 ?_;cases h;exact bj
theorem M4(hK:ao K)(h:qx K n v1 v2=some r):aU Tryz.prog 83 [.agg (aO v1),iI v2] (fun v _=>v=.agg (aO r)):=by
 refine bv (cat Tryz.f83 (pn 1)) Tryz.func83 Tryz.ntmps83 fun M w0=>(bd ⟨[(0,.agg (aO v1)),(1,iI v2)],[],[],[]⟩ ?_);unfold qx at h;refine aC 13 7 5 ?_;obtain⟨h1,h⟩|⟨h1,h⟩:=ak h
 ·refine ah 12 h1 (aL 5 ?_);cases h;exact bj
 ·refine ah 12 h1 (eV 2 3 3 (aj 4 ?_));obtain⟨v3,h2,h⟩:=bind_some h;refine aS (eC hK h2) (ac (aC 13 7 5 ?_));obtain⟨h3,h⟩|⟨h3,h⟩:=ak h
  ·refine ah 31 h3 (aC 4 5 2 (aj 3 ?_));obtain⟨v4,h4,h⟩:=bind_some h;exact aS (eC hK h4) (ac (ae 1 (C3 hK h)))
  ·exact ah 31 h3 (ae 2 (C3 hK h))
end
noncomputable section
variable[GS](M:Nat→Prop)(w0:aE)(r:Int)(v1:aW)  
variable{M w0 r v1}{K:Kn}{n:Nat}
theorem wT(hK:ao K)(h:jQ K n v1=some r):aU Tryz.prog 126 [.agg (cA v1)] (fun v _=>v=iI r):=by
 refine bv (cat Tryz.f126 (pn 1)) Tryz.func126 Tryz.ntmps126 fun M w0=>(bd ⟨[(0,.agg (cA v1))],[],[],[]⟩ ?_);unfold jQ at h;refine aL 5 ?_;cases h;exact bj
end
noncomputable section
variable[GS](M:Nat→Prop)(w0:aE)(r:Int)(v1:List aa)(v2:Fv)(v4:Int)(m1:Nat)(L1:Int→Option Int)
abbrev A5:Cx:=⟨Tryz.prog,19,M,w0⟩
abbrev xV:=bodyPost Tryz.prog Tryz.f119 (bA M w0 (fun v _=>v=iI r))
abbrev SI(ks:List aq)(s:AS):=VE (A5 M w0) (xV M w0 r) ks .normal s
abbrev Cz(n:Nat):aq:=.c (cat Tryz.f119 (pn n))
abbrev zP:List aq:=[.b 0,Cz 7]
abbrev P5:List aq:=kl (A5 M w0) (xV M w0 r) zP (cat Tryz.f119 (pn 52)) m1::zP
def Ey:AS:=⟨[(0,.sl (lm aR v1)),(1,.fn v2.id v2.aP),(7,iI (v1.length:Int)),(8,iI v4)],[],[],[]⟩
abbrev FE:Prop:=∀{v4:Int},L1 v4=some r→LP (A5 M w0) (xV M w0 r) zP (cat Tryz.f119 (pn 52)) m1 (Ey v1 v2 v4)
variable{M w0 r v1 v2 v4 m1 L1}{K:Kn}{n:Nat}
theorem Te(hK:ao K)(hL1:FE M w0 r v1 v2 m1 L1)(h:ou K n v1 v2 L1 v4=some r):SI M w0 r (Cz 52::P5 M w0 r m1) (Ey v1 v2 v4):=by
 unfold ou at h;refine aC 6 7 3 ?_;obtain⟨h5,h⟩|⟨h5,h⟩:=ak h
 ·refine ah 9 h5 (c8 18 19 1 3 7 (aj 3 ?_));obtain⟨h6,h⟩:=aF h;refine az (bi aR av h6 (dY) (dp)) (aM 5 1 ?_);obtain⟨v5,h7,h⟩:=bind_some h;refine k9 (hK.iq h7) (ac ?_);obtain⟨h8,h⟩|⟨h8,h⟩:=ak h
  ·refine ah 16 h8 (aL 9 ?_);cases h;exact bj
  ·exact ah 16 h8 (ae 4 (bz (hL1 h)))
 ·refine ah 9 h5 (aL 8 ?_);cases h;exact bj
theorem Tr(hK:ao K)(m:Nat):FE M w0 r v1 v2 m (ic K n v1 v2 m):=by
 induction m with
 | zero=>intro v4 h;cases h
 | succ m ih=>intro v4 h;have h:ou K n v1 v2 (ic K n v1 v2 m) v4=some r:=h;exact bB (Te hK ih h)
theorem Rl(hK:ao K)(h:sh K n v1 v2=some r):aU Tryz.prog 119 [.sl (lm aR v1),.fn v2.id v2.aP] (fun v _=>v=iI r):=by
 refine bv (cat Tryz.f119 (pn 1)) Tryz.func119 Tryz.ntmps119 fun M w0=>(bd ⟨[(0,.sl (lm aR v1)),(1,.fn v2.id v2.aP)],[],[],[]⟩ ?_);unfold sh at h;exact bN 12 13 7 4 (aj 1 (az (bu aR v1) (ac (ae 1 (cg (p:=pn 26) n (Tr hK n h))))))
end
noncomputable section
variable[GS](M:Nat→Prop)(w0:aE)(r:Bool)(v1:List aa)(v2:Fv)  
variable{M w0 r v1 v2}{K:Kn}{n:Nat}
theorem Hz(hK:ao K)(h:ln K n v1 v2=some r):aU Tryz.prog 64 [.sl (lm aR v1),.fn v2.id v2.aP] (fun v _=>v=.bool r):=by
 refine bv (cat Tryz.f64 (pn 1)) Tryz.func64 Tryz.ntmps64 fun M w0=>(bd ⟨[(0,.sl (lm aR v1)),(1,.fn v2.id v2.aP)],[],[],[]⟩ ?_);unfold ln at h;refine aC 6 7 3 (aj 2 ?_);obtain⟨v3,h1,h⟩:=bind_some h;refine aS (Rl hK h1) (ac (aL 1 ?_));cases h;exact bj
end
noncomputable section
variable[GS](M:Nat→Prop)(w0:aE)(r:Bool)(v1:aa)(v2:Bool)  
abbrev Wd(n:Nat):aq:=.c (cat Tryz.f171 (pn n))
abbrev Re:Cx:=⟨Tryz.prog,12,M,w0⟩
abbrev Sh:=bodyPost Tryz.prog Tryz.f171 (bA M w0 (fun v _=>v=.bool r))
abbrev UC(ks:List aq)(s:AS):=VE (Re M w0) (Sh M w0 r) ks .normal s
def Vh:AS:=⟨[(2,.bool v2)],[],[],[]⟩
variable{M w0 r v1 v2}{K:Kn}{n:Nat}
theorem DS(hK:ao K)(h:qh K n v2=some r):UC M w0 r [Wd 7] (Vh v2):=by
 unfold qh at h;refine aL 1 ?_;cases h;exact bj
theorem D6(hK:ao K)(h:gv K n v1=some r):aU Tryz.prog 171 [.agg (av v1)] (fun v _=>v=.bool r):=by
 refine bv (cat Tryz.f171 (pn 1)) Tryz.func171 Tryz.ntmps171 fun M w0=>(bd ⟨[(0,.agg (av v1))],[],[],[]⟩ ?_);unfold gv at h;refine aC 6 7 3 (aj 4 ?_);obtain⟨h1,h⟩|⟨h1,h⟩:=ak h
 ·exact aB 6 h1 (ac (ae 0 (DS hK h)))
 ·exact aB 6 h1 (ac (ae 0 (DS hK h)))
end
noncomputable section
variable[GS](M:Nat→Prop)(w0:aE)(r:(List aa)×Bool)(v1:aa)(v8:Int)(v9 v11:(List aa))(m1:Nat)(L1:Int→(List aa)→Option ((List aa)×Bool))
abbrev Cq:Cx:=⟨Tryz.prog,24,M,w0⟩
abbrev zl:=bodyPost Tryz.prog Tryz.f141 (bA M w0 (fun v _=>v=.tup [.sl (lm aR r.1),.bool r.2]))
abbrev DL(ks:List aq)(s:AS):=VE (Cq M w0) (zl M w0 r) ks .normal s
abbrev AU(n:Nat):aq:=.c (cat Tryz.f141 (pn n))
abbrev zO:List aq:=[.b 0,AU 15]
abbrev Jz:List aq:=kl (Cq M w0) (zl M w0 r) zO (cat Tryz.f141 (pn 116)) m1::zO
def Mq:AS:=⟨[(4,.ref 19),(8,.sl (lm aR v1.Kids)),(9,iI (v1.Kids.length:Int)),(10,iI v8)],[],[(19,⟨48,59,lm aR v11⟩)],[19]⟩
def Kr:AS:=⟨[(4,.ref 19),(8,.sl (lm aR v1.Kids)),(9,iI (v1.Kids.length:Int)),(10,iI v8)],[],[(19,⟨48,59,lm aR v9⟩)],[19]⟩
abbrev AG:Prop:=∀{v8:Int} {v9:(List aa)},L1 v8 v9=some r→LP (Cq M w0) (zl M w0 r) zO (cat Tryz.f141 (pn 116)) m1 (Kr v1 v8 v9)
variable{M w0 r v1 v8 v9 v11 m1 L1}{K:Kn}{n:Nat}
theorem Ke(hK:ao K)(hL1:AG M w0 r v1 m1 L1)(h:qM K n v1 v8 L1 v11=some r):DL M w0 r (.b 1::AU 935::Jz M w0 r m1) (Mq v1 v8 v11):=by
 unfold qM at h;exact ae 2 (bz (hL1 h))
theorem UG(hK:ao K)(hL1:AG M w0 r v1 m1 L1)(h:si K n v1 L1 v8 v9=some r):DL M w0 r (AU 116::Jz M w0 r m1) (Kr v1 v8 v9):=by
 unfold si at h;refine aC 6 7 3 ?_;obtain⟨h13,h⟩|⟨h13,h⟩:=ak h
 ·refine ah 11 h13 (c8 8 9 1 3 5 (aj 0 ?_));obtain⟨h14,h⟩:=aF h;refine az (bi aR av h14 (dY) (dp)) (ac (aC 2 3 1 (aj 1 ?_)));obtain⟨v10,h15,h⟩:=bind_some h;refine aS (D6 hK h15) (ac ?_);obtain⟨h16,h⟩|⟨h16,h⟩:=ak h
  ·refine ah 15 h16 (bh 2 1 (aj 2 (az (fX aR ([(gD v1.Kids v8)]:List aa) (new:=[av (gD v1.Kids v8)]) (by simp only[List.map_cons,List.map_nil,dp])) ?_)));obtain⟨h17,h⟩:=aF h;exact az (cy 19 19 48 59 aR (rfl) (dY) h17) (ac (ae 0 (Ke hK hL1 h)))
  ·exact ah 15 h16 (ae 2 (Ke hK hL1 h))
 ·refine ah 11 h13 (kV 2 3 6 (aj 2 (vm 19 ?_)));obtain⟨v12,h18,h⟩:=bind_some h;refine aS (Hz hK h18) (ac (aL 1 ?_));cases h;exact gn
theorem U9(hK:ao K)(m:Nat):AG M w0 r v1 m (oQ K n v1 m):=by
 induction m with
 | zero=>intro v8 v9 h;cases h
 | succ m ih=>intro v8 v9 h;have h:si K n v1 (oQ K n v1 m) v8 v9=some r:=h;exact bB (UG hK ih h)
theorem Ip(hK:ao K)(h:oG K n v1=some r):aU Tryz.prog 141 [.agg (av v1)] (fun v _=>v=.tup [.sl (lm aR r.1),.bool r.2]):=by
 refine bv (cat Tryz.f141 (pn 1)) Tryz.func141 Tryz.ntmps141 fun M w0=>(bd ⟨[(0,.agg (av v1))],[],[],[]⟩ ?_);unfold oG at h;exact bN 28 29 15 6 (aj 2 (az (bu aR v1.Kids) (ac (iK 2 0 1 (bJ [4,8,9,10] [] [] (gh 19 4 48 59 (ae 0 (cg (p:=pn 58) n (U9 hK n h)))))))))
end
noncomputable section
variable[GS](M:Nat→Prop)(w0:aE)(r:aW)(v1 v2:aW)  
variable{M w0 r v1 v2}{K:Kn}{n:Nat}
theorem su(hK:ao K)(h:ju K n v1 v2=some r):aU Tryz.prog 143 [.agg (cA v1),.agg (cA v2)] (fun v _=>v=.agg (cA r)):=by
 refine bv (cat Tryz.f143 (pn 1)) Tryz.func143 Tryz.ntmps143 fun M w0=>(bd ⟨[(0,.agg (cA v1)),(1,.agg (cA v2))],[],[],[]⟩ ?_);unfold ju at h;refine aL 5 ?_;cases h;exact bj
end
noncomputable section
variable[GS](M:Nat→Prop)(w0:aE)(r:(List ai)×Int×aW×aW×Bool)(v1:List ai)(v16:Int)(v17:Bool)(v18:Int)(v19 v20:aW)(v21:List ai)(v22:aW)(v24:Int)(v25:aW)(v26:Int)(v27:Bool)(v28 v29 v30:aW)(m1:Nat)(L1:Int→Bool→Int→aW→aW→(List ai)→Option ((List ai)×Int×aW×aW×Bool))
abbrev yz:Cx:=⟨Tryz.prog,52,M,w0⟩
abbrev yW:=bodyPost Tryz.prog Tryz.f142 (bA M w0 (fun v s=>v=.tup [.ref 43,iI r.2.1,.agg (cA r.2.2.1),.agg (cA r.2.2.2.1),.bool r.2.2.2.2]∧look 43 s.r=some ⟨44,67,lm aY r.1⟩))
abbrev qE(ks:List aq)(s:AS):=VE (yz M w0) (yW M w0 r) ks .normal s
abbrev ij(n:Nat):aq:=.c (cat Tryz.f142 (pn n))
abbrev AY:List aq:=[.b 0,ij 31]
abbrev ub:List aq:=kl (yz M w0) (yW M w0 r) AY (cat Tryz.f142 (pn 244)) m1::AY
def Q0:AS:=⟨[(2,.ref 43),(3,iI v26),(4,.ptr 4 0),(5,.ptr 5 0),(6,.bool v27),(7,.ptr 7 0),(9,.ptr 9 0),(10,.sl (lm aY v1)),(11,iI (v1.length:Int)),(12,iI v18)],[(4,cA v28),(5,cA cO),(7,cA v29),(9,aO ({ (gD v1 v18)with Y:=v24 }:ai))],[(43,⟨44,67,lm aY v21⟩)],[4,5,7,9,43]⟩
def Ui:AS:=⟨[(2,.ref 43),(4,.ptr 4 0),(5,.ptr 5 0),(7,.ptr 7 0),(9,.ptr 9 0),(10,.sl (lm aY v1)),(11,iI (v1.length:Int)),(12,iI v18)],[(4,cA v25),(5,cA cO),(7,cA v22),(9,aO ({ (gD v1 v18)with Y:=v24 }:ai))],[(43,⟨44,67,lm aY v21⟩)],[4,5,7,9,43]⟩
def OK:AS:=⟨[(2,.ref 43),(3,iI v16),(4,.ptr 4 0),(5,.ptr 5 0),(6,.bool v17),(7,.ptr 7 0),(9,.ptr 9 0),(10,.sl (lm aY v1)),(11,iI (v1.length:Int)),(12,iI v18)],[(4,cA v19),(5,cA cO),(7,cA v22),(9,aO ({ (gD v1 v18)with Y:=v24 }:ai))],[(43,⟨44,67,lm aY v21⟩)],[4,5,7,9,43]⟩
def RF:AS:=⟨[(2,.ref 43),(3,iI v16),(4,.ptr 4 0),(5,.ptr 5 0),(6,.bool v17),(7,.ptr 7 0)],[(4,cA v30),(5,cA cO),(7,cA v20)],[(43,⟨44,67,lm aY v21⟩)],[4,5,7,43]⟩
def GC:AS:=⟨[(2,.ref 43),(3,iI v16),(4,.ptr 4 0),(5,.ptr 5 0),(6,.bool v17),(7,.ptr 7 0),(10,.sl (lm aY v1)),(11,iI (v1.length:Int)),(12,iI v18)],[(4,cA v19),(5,cA cO),(7,cA v20)],[(43,⟨44,67,lm aY v21⟩)],[4,5,7,43]⟩
abbrev sv:Prop:=∀{v16:Int} {v17:Bool} {v18:Int} {v19:aW} {v20:aW} {v21:(List ai)},L1 v16 v17 v18 v19 v20 v21=some r→LP (yz M w0) (yW M w0 r) AY (cat Tryz.f142 (pn 244)) m1 (GC v1 v16 v17 v18 v19 v20 v21)
variable{M w0 r v1 v16 v17 v18 v19 v20 v21 v22 v24 v25 v26 v27 v28 v29 v30 m1 L1}{K:Kn}{n:Nat}
theorem IB(hK:ao K)(hL1:sv M w0 r v1 m1 L1)(h:tN K n v1 v18 v21 v24 L1 v26 v27 v28 v29=some r):qE M w0 r (ij 125343 :: .b 1::ij 1959::ub M w0 r m1) (Q0 v1 v18 v21 v24 v26 v27 v28 v29):=by
 unfold tN at h;refine aj 2 (az (fX aY ([({ (gD v1 v18)with Y:=v24 }:ai)]:List ai) (new:=[aO ({ (gD v1 v18)with Y:=v24 }:ai)]) (by simp only[List.map_cons,List.map_nil,ey])) ?_);obtain⟨h22,h⟩:=aF h;exact az (cy 43 43 44 67 aY (rfl) (ky) h22) (ac (ae 2 (bz (hL1 h))))
theorem IA(hK:ao K)(hL1:sv M w0 r v1 m1 L1)(h:sn K n v1 v18 v21 v22 v24 L1 v25=some r):qE M w0 r (ij 1002741::ij 125343 :: .b 1::ij 1959::ub M w0 r m1) (Ui v1 v18 v21 v22 v24 v25):=by
 unfold sn at h;exact ae 5 (IB hK hL1 h)
theorem Gj(hK:ao K)(hL1:sv M w0 r v1 m1 L1)(h:qY K n v1 v16 v17 v18 v19 v21 v22 L1 v24=some r):qE M w0 r (ij 62671 :: .b 1::ij 1959::ub M w0 r m1) (OK v1 v16 v17 v18 v19 v21 v22 v24):=by
 unfold qY at h;refine aC 5 3 3 ?_;obtain⟨h20,h⟩|⟨h20,h⟩:=ak h
 ·refine ah 30 h20 (aC 9 5 4 ?_);obtain⟨h21,h⟩|⟨h21,h⟩:=ak h
  ·exact ah 31 h21 (ae 2 (IA hK hL1 h))
  ·exact ah 31 h21 (ae 2 (IA hK hL1 h))
 ·exact ah 30 h20 (ae 2 (IB hK hL1 h))
theorem Jc(hK:ao K)(h:rD K n v16 v17 v20 v21 v30=some r):qE M w0 r [ij 63] (RF v16 v17 v20 v21 v30):=by
 unfold rD at h;refine aC 2 3 1 (bJ [2,3,4,5,6,7] [4,5,7] [43] (bQ 5 (nu 47 [.ref 43,iI v16,.agg (cA v30),.agg (cA v20),.bool v17]) [] [] [bZ Tryz.prog 52 Tryz.f142 (pn 126) 5,bZ Tryz.prog 52 Tryz.f142 (pn 126) 6,bZ Tryz.prog 52 Tryz.f142 (pn 126) 7,bZ Tryz.prog 52 Tryz.f142 (pn 126) 8,bZ Tryz.prog 52 Tryz.f142 (pn 126) 9] (ay [.v 0 1,.v 0 2,.v 0 3,.v 0 4,.v 0 5] (ag (bX 0) (ag (bX 1) (ag (bX 2) (ag (bX 3) (ag (bX 4) bP)))))) (aL 1 ?_)));cases h;exact vn
theorem Ta(hK:ao K)(hL1:sv M w0 r v1 m1 L1)(h:tD K n v1 L1 v16 v17 v18 v19 v20 v21=some r):qE M w0 r (ij 244::ub M w0 r m1) (GC v1 v16 v17 v18 v19 v20 v21):=by
 unfold tD at h;refine aC 6 7 3 ?_;obtain⟨h15,h⟩|⟨h15,h⟩:=ak h
 ·refine ah 13 h15 (c8 8 9 1 3 5 (aj 0 ?_));obtain⟨h16,h⟩:=aF h;refine az (bi aY aO h16 (ky) (ey)) (ac (aC 2 3 1 (aj 3 ?_)));obtain⟨v22,h17,h⟩:=bind_some h;refine aS (su hK h17) (ac (aC 13 7 5 ?_));obtain⟨h18,h⟩|⟨h18,h⟩:=ak h
  ·refine ah 22 h18 (bh 2 1 (aj 2 ?_));obtain⟨v23,h19,h⟩:=bind_some h;exact aS (wT hK h19) (ac (ae 0 (Gj hK hL1 h)))
  ·exact ah 22 h18 (ae 2 (Gj hK hL1 h))
 ·refine ah 13 h15 (kV 5 3 8 ?_);obtain⟨h23,h⟩|⟨h23,h⟩:=ak h
  ·exact ah 45 h23 (ae 2 (Jc hK h))
  ·exact ah 45 h23 (ae 2 (Jc hK h))
theorem MP(hK:ao K)(m:Nat):sv M w0 r v1 m (l7 K n v1 m):=by
 induction m with
 | zero=>intro v16 v17 v18 v19 v20 v21 h;cases h
 | succ m ih=>intro v16 v17 v18 v19 v20 v21 h;have h:tD K n v1 (l7 K n v1 m) v16 v17 v18 v19 v20 v21=some r:=h;exact bB (Ta hK ih h)
theorem L9(hK:ao K)(h:jS K n v1=some r):aU Tryz.prog 142 [.sl (lm aY v1)] (fun v s=>v=.tup [.ref 43,iI r.2.1,.agg (cA r.2.2.1),.agg (cA r.2.2.2.1),.bool r.2.2.2.2]∧look 43 s.r=some ⟨44,67,lm aY r.1⟩):=by
 refine bv (cat Tryz.f142 (pn 1)) Tryz.func142 Tryz.ntmps142 fun M w0=>(bd ⟨[(0,.sl (lm aY v1))],[],[],[]⟩ ?_);unfold jS at h;exact bN 60 61 31 8 (aj 1 (az (bu aY v1) (ac (iK 2 0 1 (bJ [2,3,4,5,6,7,10,11,12] [4,5,7] [] (gh 43 2 44 67 (ae 0 (cg (p:=pn 122) n (MP hK n h)))))))))
end
noncomputable section
variable[GS](M:Nat→Prop)(w0:aE)(r:Int)(v1:bO)  
variable{M w0 r v1}{K:Kn}{n:Nat}
theorem Mn(hK:ao K)(h:xh K n v1=some r):aU Tryz.prog 144 [.agg (cb v1)] (fun v _=>v=iI r):=by
 refine bv (cat Tryz.f144 (pn 1)) Tryz.func144 Tryz.ntmps144 fun M w0=>(bd ⟨[(0,.agg (cb v1))],[],[],[]⟩ ?_);unfold xh at h;refine aL 5 ?_;cases h;exact bj
end
noncomputable section
variable[GS](M:Nat→Prop)(w0:aE)(r:Bool)(v1:aa)(v2:Bool)  
abbrev NH(n:Nat):aq:=.c (cat Tryz.f145 (pn n))
abbrev Rf:Cx:=⟨Tryz.prog,16,M,w0⟩
abbrev OC:=bodyPost Tryz.prog Tryz.f145 (bA M w0 (fun v _=>v=.bool r))
abbrev S6(ks:List aq)(s:AS):=VE (Rf M w0) (OC M w0 r) ks .normal s
def Nw:AS:=⟨[(2,.bool v2)],[],[],[]⟩
variable{M w0 r v1 v2}{K:Kn}{n:Nat}
theorem xn(hK:ao K)(h:pf K n v2=some r):S6 M w0 r [NH 7] (Nw v2):=by
 unfold pf at h;refine aL 1 ?_;cases h;exact bj
theorem GF(hK:ao K)(h:nS K n v1=some r):aU Tryz.prog 145 [.agg (av v1)] (fun v _=>v=.bool r):=by
 refine bv (cat Tryz.f145 (pn 1)) Tryz.func145 Tryz.ntmps145 fun M w0=>(bd ⟨[(0,.agg (av v1))],[],[],[]⟩ ?_);unfold nS at h;refine aC 6 7 3 (aj 4 ?_);obtain⟨h1,h⟩|⟨h1,h⟩:=ak h
 ·exact aB 6 h1 (ac (ae 0 (xn hK h)))
 ·refine aB 6 h1 (aM 9 5 ?_);obtain⟨h2,h⟩|⟨h2,h⟩:=ak h
  ·exact aB 11 h2 (ac (ae 0 (xn hK h)))
  ·exact aB 11 h2 (ac (ae 0 (xn hK h)))
end
noncomputable section
variable[GS](M:Nat→Prop)(w0:aE)(r:ai×Int×Int×(List aG))(v1:aa)(v2:bO)(v3 v4:Bool)(v5:bF)(v6 v7:Int)(v8:List aG)(v9:(List aa)×Bool)(v12:Int)(v13:List ai)(v14 v15:Int)(v16:List aG)(v21:Int)(v22:Bool)(v23 v24:aW)(v25:List ai)(v26 v27:Int)(v28:List aG)(v29 v30:aW)(v32:Bool)(v34:Int)(v35:aW)(v36:Bool)(v41:Int)(v42 v43:aW)(v44:Bool)(v45:Int×Bool)(v46:Bool)(v47 v48 v49 v56:Int)(v57 v59:(List ai))(v61:Bool)(v63:List ai)(m1 m2:Nat)(L1:Int→(List ai)→Int→Int→(List aG)→Option (ai×Int×Int×(List aG)))(L2:Int→(List ai)→Option (ai×Int×Int×(List aG)))
abbrev rI:Cx:=⟨Tryz.prog,259,M,w0⟩
abbrev rK:=bodyPost Tryz.prog Tryz.f100 (bA M w0 (fun v s=>v=.agg (aO r.1)∧cj s.o [(440001,List.set (bL (⟨[],r.2.1,r.2.2.1⟩:bH)) 0 (.ref 440009))]∧look 440009 s.r=some ⟨64,127,lm bc r.2.2.2⟩))
abbrev g9(ks:List aq)(s:AS):=VE (rI M w0) (rK M w0 r) ks .normal s
abbrev cX(n:Nat):aq:=.c (cat Tryz.f100 (pn n))
abbrev yh:List aq:=[.b 4,cX 131071]
abbrev rT:List aq:=kl (rI M w0) (rK M w0 r) yh (cat Tryz.f100 (pn 1048564)) m2::yh
abbrev xR:List aq:=[.b 0,cX 4075,cX 255]
abbrev K6:List aq:=kl (rI M w0) (rK M w0 r) xR (cat Tryz.f100 (pn 32596)) m1::xR
def TD:AS:=⟨[(6,.ptr 6 0),(10,.ptr 10 0),(11,.ptr 11 0),(12,.sl (lm aR v9.1)),(13,.bool v9.2),(15,iI v34),(199,iI (v25.length:Int)),(200,iI v56)],[(6,cb v2),(10,List.set (aO bG) 66 (.nils)),(11,List.set (aO (⟨1,v1.Node,v2.Margin.a3,0,(ab (v2.Content+v48)),v49,0,⟨#[]⟩,v1.Style,v42,v43,v44,[]⟩:ai)) 66 (.ref 1054)),(440001,List.set (bL (⟨[],v26,v27⟩:bH)) 0 (.ref 440009))],[(1054,⟨44,67,lm aY v63⟩),(440009,⟨64,127,lm bc v28⟩)],[6,10,11,440001,1054,440009,1440001,440001]⟩
def Pk:AS:=⟨[(6,.ptr 6 0),(10,.ptr 10 0),(11,.ptr 11 0),(12,.sl (lm aR v9.1)),(13,.bool v9.2),(15,iI v34),(24,iI v56),(199,iI (v25.length:Int)),(200,iI v56),(244,.bool v61)],[(6,cb v2),(10,List.set (aO bG) 66 (.nils)),(11,List.set (aO (⟨1,v1.Node,v2.Margin.a3,0,(ab (v2.Content+v48)),v49,0,⟨#[]⟩,v1.Style,v42,v43,v44,[]⟩:ai)) 66 (.ref 1054)),(440001,List.set (bL (⟨[],v26,v27⟩:bH)) 0 (.ref 440009))],[(1054,⟨44,67,lm aY v59⟩),(440009,⟨64,127,lm bc v28⟩)],[6,10,11,440001,1054,440009,1440001,440001]⟩
def FJ:AS:=⟨[(6,.ptr 6 0),(10,.ptr 10 0),(11,.ptr 11 0),(12,.sl (lm aR v9.1)),(13,.bool v9.2),(15,iI v34),(199,iI (v25.length:Int)),(200,iI v56)],[(6,cb v2),(10,List.set (aO bG) 66 (.nils)),(11,List.set (aO (⟨1,v1.Node,v2.Margin.a3,0,(ab (v2.Content+v48)),v49,0,⟨#[]⟩,v1.Style,v42,v43,v44,[]⟩:ai)) 66 (.ref 1054)),(440001,List.set (bL (⟨[],v26,v27⟩:bH)) 0 (.ref 440009))],[(1054,⟨44,67,lm aY v57⟩),(440009,⟨64,127,lm bc v28⟩)],[6,10,11,440001,1054,440009,1440001,440001]⟩
def Mf:AS:=⟨[(6,.ptr 6 0),(10,.ptr 10 0),(11,.ptr 11 0),(12,.sl (lm aR v9.1)),(13,.bool v9.2),(14,iI v47),(15,iI v34)],[(6,cb v2),(10,List.set (aO bG) 66 (.nils)),(11,List.set (aO ({ bG with Kind:=1,Node:=v1.Node,Style:=v1.Style,Before:=v42,After:=v43,Empty:=v44 }:ai)) 66 (.ref 1054)),(440001,List.set (bL (⟨[],v26,v27⟩:bH)) 0 (.ref 440009))],[(1054,⟨44,67,lm aY v25⟩),(440009,⟨64,127,lm bc v28⟩)],[6,10,11,440001,1054,440009,1440001,440001]⟩
def K7:AS:=⟨[(6,.ptr 6 0),(10,.ptr 10 0),(11,.ptr 11 0),(12,.sl (lm aR v9.1)),(13,.bool v9.2),(14,iI (max v41 0)),(15,iI v34),(22,iI v45.1),(166,.bool v46)],[(6,cb v2),(10,List.set (aO bG) 66 (.nils)),(11,List.set (aO ({ bG with Kind:=1,Node:=v1.Node,Style:=v1.Style,Before:=v42,After:=v43,Empty:=v44 }:ai)) 66 (.ref 1054)),(440001,List.set (bL (⟨[],v26,v27⟩:bH)) 0 (.ref 440009))],[(1054,⟨44,67,lm aY v25⟩),(440009,⟨64,127,lm bc v28⟩)],[6,10,11,440001,1054,440009,1440001,440001]⟩
def Lp:AS:=⟨[(5,.ptr 5 0),(6,.ptr 6 0),(10,.ptr 10 0),(11,.ptr 11 0),(12,.sl (lm aR v9.1)),(13,.bool v9.2),(14,iI v41),(15,iI v34)],[(5,av v1),(6,cb v2),(10,List.set (aO bG) 66 (.nils)),(11,List.set (aO ({ bG with Kind:=1,Node:=v1.Node,Style:=v1.Style,Before:=v42,After:=v43,Empty:=v44 }:ai)) 66 (.ref 1054)),(440001,List.set (bL (⟨[],v26,v27⟩:bH)) 0 (.ref 440009))],[(1054,⟨44,67,lm aY v25⟩),(440009,⟨64,127,lm bc v28⟩)],[5,6,10,11,440001,1054,440009,1440001,440001]⟩
def S3:AS:=⟨[(3,.bool v4),(5,.ptr 5 0),(6,.ptr 6 0),(10,.ptr 10 0),(11,.ptr 11 0),(12,.sl (lm aR v9.1)),(13,.bool v9.2),(14,iI v21),(15,iI v34),(16,.ptr 16 0),(17,.ptr 17 0),(18,.bool v22),(113,.bool v36)],[(5,av v1),(6,cb v2),(10,List.set (aO bG) 66 (.nils)),(11,List.set (aO ({ bG with Kind:=1,Node:=v1.Node,Style:=v1.Style,Before:=v35,After:=v30 }:ai)) 66 (.ref 1054)),(16,cA v23),(17,cA v24),(440001,List.set (bL (⟨[],v26,v27⟩:bH)) 0 (.ref 440009))],[(1054,⟨44,67,lm aY v25⟩),(440009,⟨64,127,lm bc v28⟩)],[5,6,10,11,16,17,440001,1054,440009,1440001,440001]⟩
def Tw:AS:=⟨[(2,.bool v3),(3,.bool v4),(5,.ptr 5 0),(6,.ptr 6 0),(10,.ptr 10 0),(11,.ptr 11 0),(12,.sl (lm aR v9.1)),(13,.bool v9.2),(14,iI v21),(15,iI v34),(16,.ptr 16 0),(17,.ptr 17 0),(18,.bool v22)],[(5,av v1),(6,cb v2),(10,List.set (aO bG) 66 (.nils)),(11,List.set (aO ({ bG with Kind:=1,Node:=v1.Node,Style:=v1.Style,Before:=v35,After:=v30 }:ai)) 66 (.ref 1054)),(16,cA v23),(17,cA v24),(440001,List.set (bL (⟨[],v26,v27⟩:bH)) 0 (.ref 440009))],[(1054,⟨44,67,lm aY v25⟩),(440009,⟨64,127,lm bc v28⟩)],[5,6,10,11,16,17,440001,1054,440009,1440001,440001]⟩
def P7:AS:=⟨[(2,.bool v3),(3,.bool v4),(5,.ptr 5 0),(6,.ptr 6 0),(10,.ptr 10 0),(11,.ptr 11 0),(12,.sl (lm aR v9.1)),(13,.bool v9.2),(14,iI v21),(15,iI 0),(16,.ptr 16 0),(17,.ptr 17 0),(18,.bool v22),(98,.bool v32)],[(5,av v1),(6,cb v2),(10,List.set (aO bG) 66 (.nils)),(11,List.set (aO ({ bG with Kind:=1,Node:=v1.Node,Style:=v1.Style,Before:=v29,After:=v30 }:ai)) 66 (.ref 1054)),(16,cA v23),(17,cA v24),(440001,List.set (bL (⟨[],v26,v27⟩:bH)) 0 (.ref 440009))],[(1054,⟨44,67,lm aY v25⟩),(440009,⟨64,127,lm bc v28⟩)],[5,6,10,11,16,17,440001,1054,440009,1440001,440001]⟩
def Qn:AS:=⟨[(2,.bool v3),(3,.bool v4),(5,.ptr 5 0),(6,.ptr 6 0),(10,.ptr 10 0),(11,.ptr 11 0),(12,.sl (lm aR v9.1)),(13,.bool v9.2),(14,iI v21),(15,iI 0),(16,.ptr 16 0),(17,.ptr 17 0),(18,.bool v22)],[(5,av v1),(6,cb v2),(10,List.set (aO bG) 66 (.nils)),(11,List.set (aO ({ bG with Kind:=1,Node:=v1.Node,Style:=v1.Style }:ai)) 66 (.ref 1054)),(16,cA v23),(17,cA v24),(440001,List.set (bL (⟨[],v26,v27⟩:bH)) 0 (.ref 440009))],[(1054,⟨44,67,lm aY v25⟩),(440009,⟨64,127,lm bc v28⟩)],[5,6,10,11,16,17,440001,1054,440009,1440001,440001]⟩
def Gw:AS:=⟨[(2,.bool v3),(3,.bool v4),(5,.ptr 5 0),(6,.ptr 6 0),(9,.ptr 9 0),(10,.ptr 10 0),(11,.ptr 11 0),(12,.sl (lm aR v9.1)),(13,.bool v9.2),(15,iI 0),(16,.ptr 16 0),(17,.ptr 17 0),(19,.ref 50),(36,.sl (lm aR v9.1)),(37,iI (v9.1.length:Int)),(38,iI v12)],[(5,av v1),(6,cb v2),(9,bW v5),(10,List.set (aO bG) 66 (.nils)),(11,List.set (aO ({ bG with Kind:=1,Node:=v1.Node,Style:=v1.Style }:ai)) 66 (.nils)),(16,cA cO),(17,cA cO),(440001,List.set (bL (⟨[],v14,v15⟩:bH)) 0 (.ref 440009))],[(50,⟨44,67,lm aY v13⟩),(440009,⟨64,127,lm bc v16⟩)],[5,6,9,10,11,16,17,440001,50,440009,1440001,440001]⟩
abbrev Ij:Prop:=∀{v12:Int} {v13:(List ai)} {v14:Int} {v15:Int} {v16:(List aG)},L1 v12 v13 v14 v15 v16=some r→LP (rI M w0) (rK M w0 r) xR (cat Tryz.f100 (pn 32596)) m1 (Gw v1 v2 v3 v4 v5 v9 v12 v13 v14 v15 v16)
abbrev uv:Prop:=∀{v56:Int} {v57:(List ai)},L2 v56 v57=some r→LP (rI M w0) (rK M w0 r) yh (cat Tryz.f100 (pn 1048564)) m2 (FJ v1 v2 v9 v25 v26 v27 v28 v34 v42 v43 v44 v48 v49 v56 v57)
variable{M w0 r v1 v2 v3 v4 v5 v6 v7 v8 v9 v12 v13 v14 v15 v16 v21 v22 v23 v24 v25 v26 v27 v28 v29 v30 v32 v34 v35 v36 v41 v42 v43 v44 v45 v46 v47 v48 v49 v56 v57 v59 v61 v63 m1 m2 L1 L2}{K:Kn}{n:Nat}[SG w0]
theorem G5(hK:ao K)(hL2:uv M w0 r v1 v2 v9 v25 v26 v27 v28 v34 v42 v43 v44 v48 v49 m2 L2)(h:pZ K n v1 v2 v9 v25 v26 v27 v28 v34 v42 v43 v44 v48 v49 v56 L2 v63=some r):g9 M w0 r (.b 5::cX 8388519::rT M w0 r m2) (TD v1 v2 v9 v25 v26 v27 v28 v34 v42 v43 v44 v48 v49 v56 v63):=by
 unfold pZ at h;exact ae 2 (bz (hL2 h))
theorem Eo(hK:ao K)(hL2:uv M w0 r v1 v2 v9 v25 v26 v27 v28 v34 v42 v43 v44 v48 v49 m2 L2)(h:ra K n v1 v2 v9 v25 v26 v27 v28 v34 v42 v43 v44 v48 v49 v56 v59 L2 v61=some r):g9 M w0 r (cX 268432591 :: .b 5::cX 8388519::rT M w0 r m2) (Pk v1 v2 v9 v25 v26 v27 v28 v34 v42 v43 v44 v48 v49 v56 v59 v61):=by
 unfold ra at h;obtain⟨h64,h⟩|⟨h64,h⟩:=ak h
 ·refine ah 244 h64 (bh 2 1 (bJ [6,10,11,12,13,15,24,199,200] [6,10,11,440001] [1054,440009] ?_));obtain⟨h65,h⟩:=aF h;obtain⟨v62,h66,h⟩:=bind_some h;obtain⟨h67,h⟩:=aF h;exact bQ 1 (nu 245 [.ptr 11 66,.ref 1054,iI v56,.ptr 11 66,.ref 1054,iI v56,.eptr 1054 67 (v56.toNat) 0,.agg (aO (gD v59 v56)),.ptr 6 12,iI v2.Content,.agg (aO v62),.eptr 1054 67 (v56.toNat) 0]) [] [] [oS 1054 ⟨44,67,lm aY (List.set v59 v56.toNat v62)⟩] (ay (vz 6) (bC (d8 1054 67 aY (L:=v59) h65) (bC (cR 44 0 aY aO (cE h67).2 (ey)) (ay (vz 2) (ag (cD 0 1 255 (M4 hK h66)) (bC (d8 1054 67 aY (L:=v59) h67) (ag (ex (m:=0) (fw 1054 44 67 0 aY aO v62 (cE h67).2 (ey))) bP))))))) (ae 0 (G5 hK hL2 h))
 ·exact ah 244 h64 (ae 2 (G5 hK hL2 h))
theorem UQ(hK:ao K)(hL2:uv M w0 r v1 v2 v9 v25 v26 v27 v28 v34 v42 v43 v44 v48 v49 m2 L2)(h:tF K n v1 v2 v9 v25 v26 v27 v28 v34 v42 v43 v44 v48 v49 L2 v56 v57=some r):g9 M w0 r (cX 1048564::rT M w0 r m2) (FJ v1 v2 v9 v25 v26 v27 v28 v34 v42 v43 v44 v48 v49 v56 v57):=by
 unfold tF at h;refine aC 6 7 3 ?_;obtain⟨h54,h⟩|⟨h54,h⟩:=ak h
 ·refine ah 201 h54 (c8 18 19 5 3 7 (bJ [6,10,11,12,13,15,24,199,200] [6,10,11,440001] [1054,440009] ?_));obtain⟨h55,h⟩:=aF h;obtain⟨h56,h⟩:=aF h;refine bQ 1 (nu 203 [.ptr 11 66,.ref 1054,iI v56,.eptr 1054 67 (v56.toNat) 0,.eptr 1054 67 (v56.toNat) 2,iI ((gD v57 v56).X),.ptr 6 4,.ptr 6 7,iI v2.Border.a3,.ptr 6 8,.ptr 6 11,iI v2.Padding.a3,iI (ab (v2.Border.a3+v2.Padding.a3)),iI (ab (((gD v57 v56).X)+(ab (v2.Border.a3+v2.Padding.a3)))),.eptr 1054 67 (v56.toNat) 0,.eptr 1054 67 (v56.toNat) 2]) [] [] [oS 1054 ⟨44,67,lm aY (List.set v57 v56.toNat ({ (gD v57 v56)with X:=(ab (((gD v57 v56).X)+(ab (v2.Border.a3+v2.Padding.a3)))) }:ai))⟩] (ay (vz 3) (bC (d8 1054 67 aY (L:=v57) h55) (ay [.v 0 1] (bC (cR 3 2 aY aO (cE h56).2 (ey)) (ay (vz 8) (ag (fk (lo:=0) (k:=2) (c9 ⟨(by kernel_rfl),(dc (d8 1054 67 aY (L:=v57) h56) (by kernel_rfl))⟩ (c9 ⟨(by kernel_rfl),(dc (d8 1054 67 aY (L:=(List.set v57 v56.toNat ({ (gD v57 v56)with X:=(ab (((gD v57 v56).X)+(ab (v2.Border.a3+v2.Padding.a3)))) }:ai))) h56) (by kernel_rfl))⟩ fJ))) (ay [.v 0 1] (ag (ex (m:=0) (fw 1054 44 67 2 aY aO ({ (gD v57 v56)with X:=(ab (((gD v57 v56).X)+(ab (v2.Border.a3+v2.Padding.a3)))) }:ai) (cE h56).2 (ey))) bP)))))))) ?_
  obtain⟨v58,h57,h⟩:=ci h;refine bR (ks':=cX 134216294::cX 134216295 :: .b 5::cX 8388519::rT M w0 r m2) 1 ⟨[(6,.ptr 6 0),(10,.ptr 10 0),(11,.ptr 11 0),(12,.sl (lm aR v9.1)),(13,.bool v9.2),(15,iI v34),(24,iI v56),(199,iI (v25.length:Int)),(200,iI v56)],[(6,cb v2),(10,List.set (aO bG) 66 (.nils)),(11,List.set (aO (⟨1,v1.Node,v2.Margin.a3,0,(ab (v2.Content+v48)),v49,0,⟨#[]⟩,v1.Style,v42,v43,v44,[]⟩:ai)) 66 (.ref 1054)),(440001,List.set (bL (⟨[],v26,v27⟩:bH)) 0 (.ref 440009))],[(1054,⟨44,67,lm aY v58⟩),(440009,⟨64,127,lm bc v28⟩)],[6,10,11,440001,1054,440009,1440001,440001]⟩ ?_ (by subst h57;kernel_rfl);obtain⟨h58,h⟩:=aF h;obtain⟨h59,h⟩:=aF h;refine bQ 1 (nu 219 [.ptr 11 66,.ref 1054,iI v56,.eptr 1054 67 (v56.toNat) 0,.eptr 1054 67 (v56.toNat) 3,iI ((gD v58 v56).Y),.ptr 6 4,.ptr 6 4,iI v2.Border.a0,.ptr 6 8,.ptr 6 8,iI v2.Padding.a0,iI (ab (v2.Border.a0+v2.Padding.a0)),iI v34,iI (ab ((ab (v2.Border.a0+v2.Padding.a0))+v34)),iI (ab (((gD v58 v56).Y)+(ab ((ab (v2.Border.a0+v2.Padding.a0))+v34)))),.eptr 1054 67 (v56.toNat) 0,.eptr 1054 67 (v56.toNat) 3]) [] [] [oS 1054 ⟨44,67,lm aY (List.set v58 v56.toNat ({ (gD v58 v56)with Y:=(ab (((gD v58 v56).Y)+(ab ((ab (v2.Border.a0+v2.Padding.a0))+v34)))) }:ai))⟩] (ay (vz 3) (bC (d8 1054 67 aY (L:=v58) h58) (ay [.v 0 1] (bC (cR 3 3 aY aO (cE h59).2 (ey)) (ay (vz 10) (ag (fk (lo:=0) (k:=2) (c9 ⟨(by kernel_rfl),(dc (d8 1054 67 aY (L:=v58) h59) (by kernel_rfl))⟩ (c9 ⟨(by kernel_rfl),(dc (d8 1054 67 aY (L:=(List.set v58 v56.toNat ({ (gD v58 v56)with Y:=(ab (((gD v58 v56).Y)+(ab ((ab (v2.Border.a0+v2.Padding.a0))+v34)))) }:ai))) h59) (by kernel_rfl))⟩ fJ))) (ay [.v 0 1] (ag (ex (m:=0) (fw 1054 44 67 3 aY aO ({ (gD v58 v56)with Y:=(ab (((gD v58 v56).Y)+(ab ((ab (v2.Border.a0+v2.Padding.a0))+v34)))) }:ai) (cE h59).2 (ey))) bP)))))))) ?_
  obtain⟨v59,h60,h⟩:=ci h;refine bR (ks':=cX 268432590::cX 268432591 :: .b 5::cX 8388519::rT M w0 r m2) 1 ⟨[(6,.ptr 6 0),(10,.ptr 10 0),(11,.ptr 11 0),(12,.sl (lm aR v9.1)),(13,.bool v9.2),(15,iI v34),(24,iI v56),(199,iI (v25.length:Int)),(200,iI v56)],[(6,cb v2),(10,List.set (aO bG) 66 (.nils)),(11,List.set (aO (⟨1,v1.Node,v2.Margin.a3,0,(ab (v2.Content+v48)),v49,0,⟨#[]⟩,v1.Style,v42,v43,v44,[]⟩:ai)) 66 (.ref 1054)),(440001,List.set (bL (⟨[],v26,v27⟩:bH)) 0 (.ref 440009))],[(1054,⟨44,67,lm aY v59⟩),(440009,⟨64,127,lm bc v28⟩)],[6,10,11,440001,1054,440009,1440001,440001]⟩ ?_ (by subst h60;kernel_rfl);refine aj 2 ?_;obtain⟨h61,h⟩|⟨h61,h⟩:=ak h
  ·refine aB 238 h61 (aM 4 2 ?_);obtain⟨h62,h⟩:=aF h;refine az (bi aR av h62 (dY) (dp)) (aM 6 1 ?_);obtain⟨v60,h63,h⟩:=bind_some h;exact aS (GF hK h63) (ac (ae 0 (Eo hK hL2 h)))
  ·exact aB 238 h61 (ac (ae 0 (Eo hK hL2 h)))
 ·refine ah 201 h54 (aL 8 (gb 1054 ?_));cases h;exact dL
theorem P4(hK:ao K)(m:Nat):uv M w0 r v1 v2 v9 v25 v26 v27 v28 v34 v42 v43 v44 v48 v49 m (m9 K n v1 v2 v9 v25 v26 v27 v28 v34 v42 v43 v44 v48 v49 m):=by
 induction m with
 | zero=>intro v56 v57 h;cases h
 | succ m ih=>intro v56 v57 h;have h:tF K n v1 v2 v9 v25 v26 v27 v28 v34 v42 v43 v44 v48 v49 (m9 K n v1 v2 v9 v25 v26 v27 v28 v34 v42 v43 v44 v48 v49 m) v56 v57=some r:=h;exact bB (UQ hK ih h)
theorem Kq(hK:ao K)(h:nQ K n v1 v2 v9 v25 v26 v27 v28 v34 v42 v43 v44 v47=some r):g9 M w0 r [cX 8191] (Mf v1 v2 v9 v25 v26 v27 v28 v34 v42 v43 v44 v47):=by
 unfold nQ at h;refine aC 6 7 3 (bJ [6,10,11,12,13,14,15] [6,10,11,440001] [1054,440009] ?_);obtain⟨v48,h38,h⟩:=bind_some h;refine bQ 1 (nu 173 [.ptr 6 12,iI v2.Content,.agg (cb v2),iI v48,iI (ab (v2.Content+v48)),.ptr 11 4]) [] [] [bZ Tryz.prog 259 Tryz.f100 (pn 32766) 6] (ay (vz 3) (ag (cD 0 1 176 (Mn hK h38)) (ay (vz 2) (ag (bX 0) bP)))) ?_;obtain⟨v49,h39,h⟩:=ci h;refine bR (ks':=[cX 262140,cX 262141,cX 131071]) 4 ⟨[(6,.ptr 6 0),(10,.ptr 10 0),(11,.ptr 11 0),(12,.sl (lm aR v9.1)),(13,.bool v9.2),(15,iI v34)],[(6,cb v2),(10,List.set (aO bG) 66 (.nils)),(11,List.set (aO (⟨1,v1.Node,v2.Margin.a3,0,(ab (v2.Content+v48)),v49,0,⟨#[]⟩,v1.Style,v42,v43,v44,[]⟩:ai)) 66 (.ref 1054)),(440001,List.set (bL (⟨[],v26,v27⟩:bH)) 0 (.ref 440009))],[(1054,⟨44,67,lm aY v25⟩),(440009,⟨64,127,lm bc v28⟩)],[6,10,11,440001,1054,440009,1440001,440001]⟩ ?_ (by subst h39;kernel_rfl);exact aj 2 (az (bu aY v25) (ac (ae 1 (cg (p:=pn 524282) n (P4 hK n h)))))
theorem Ja(hK:ao K)(h:qj K n v1 v2 v9 v25 v26 v27 v28 v34 v41 v42 v43 v44 v45 v46=some r):g9 M w0 r [cX 32763,cX 8191] (K7 v1 v2 v9 v25 v26 v27 v28 v34 v41 v42 v43 v44 v45 v46):=by
 unfold qj at h;obtain⟨h37,h⟩|⟨h37,h⟩:=ak h
 ·exact ah 166 h37 (ae 2 (Kq hK h))
 ·exact ah 166 h37 (ae 2 (Kq hK h))
theorem re(hK:ao K)(h:jM K n v1 v2 v9 v25 v26 v27 v28 v34 v41 v42 v43 v44=some r):g9 M w0 r [.b 3,cX 2047] (Lp v1 v2 v9 v25 v26 v27 v28 v34 v41 v42 v43 v44):=by
 unfold jM at h;refine oB 12 13 7 5 (aj 3 ?_);obtain⟨v45,h35,h⟩:=bind_some h;refine aS (eC hK h35) (ac (aC 2 3 1 (aj 2 ?_)));obtain⟨h36,h⟩|⟨h36,h⟩:=ak h
 ·exact aB 160 h36 (ac (ae 0 (Ja hK h)))
 ·exact aB 160 h36 (ac (ae 0 (Ja hK h)))
theorem zq(hK:ao K)(h:oU K n v1 v2 v4 v9 v21 v22 v23 v24 v25 v26 v27 v28 v30 v34 v35 v36=some r):g9 M w0 r [cX 8185,.b 3,cX 2047] (S3 v1 v2 v4 v9 v21 v22 v23 v24 v25 v26 v27 v28 v30 v34 v35 v36):=by
 unfold oU at h;obtain⟨h27,h⟩|⟨h27,h⟩:=ak h
 ·refine ah 113 h27 (aC 4 5 2 (aj 4 ?_));obtain⟨v37,h28,h⟩:=bind_some h;exact aS (su hK h28) (ac (ae 5 (re hK h)))
 ·refine ah 113 h27 (bh 7 3 ?_);obtain⟨h29,h⟩|⟨h29,h⟩:=ak h
  ·refine ah 131 h29 (bh 11 5 ?_);obtain⟨h30,h⟩|⟨h30,h⟩:=ak h
   ·refine ah 134 h30 (bh 2 1 (aj 3 ?_));obtain⟨v38,h31,h⟩:=bind_some h;exact aS (su hK h31) (ac (ae 0 (re hK h)))
   ·exact ah 134 h30 (ae 2 (re hK h))
  ·refine ah 131 h29 (bh 7 3 ?_);obtain⟨h32,h⟩|⟨h32,h⟩:=ak h
   ·refine ah 140 h32 (aC 4 5 2 (aj 3 ?_));obtain⟨v39,h33,h⟩:=bind_some h;exact aS (su hK h33) (ac (ae 1 (re hK h)))
   ·refine ah 140 h32 (bh 3 1 (aj 3 ?_));obtain⟨v40,h34,h⟩:=bind_some h;exact aS (wT hK h34) (ac (ae 0 (re hK h)))
theorem yd(hK:ao K)(h:pP K n v1 v2 v3 v4 v9 v21 v22 v23 v24 v25 v26 v27 v28 v30 v34 v35=some r):g9 M w0 r [.b 2,cX 1023] (Tw v1 v2 v3 v4 v9 v21 v22 v23 v24 v25 v26 v27 v28 v30 v34 v35):=by
 unfold pP at h;refine c8 8 9 3 3 4 (aj 2 ?_);obtain⟨h25,h⟩|⟨h25,h⟩:=ak h
 ·refine aB 115 h25 (aM 5 3 ?_);obtain⟨h26,h⟩|⟨h26,h⟩:=ak h
  ·exact aB 118 h26 (ac (ae 0 (zq hK h)))
  ·exact aB 118 h26 (ac (ae 0 (zq hK h)))
 ·exact aB 115 h25 (ac (ae 0 (zq hK h)))
theorem Dh(hK:ao K)(h:qe K n v1 v2 v3 v4 v9 v21 v22 v23 v24 v25 v26 v27 v28 v29 v30 v32=some r):g9 M w0 r [cX 16359,.b 2,cX 1023] (P7 v1 v2 v3 v4 v9 v21 v22 v23 v24 v25 v26 v27 v28 v29 v30 v32):=by
 unfold qe at h;obtain⟨h23,h⟩|⟨h23,h⟩:=ak h
 ·refine ah 98 h23 (bh 2 1 (aj 1 ?_));obtain⟨v33,h24,h⟩:=bind_some h;exact aS (wT hK h24) (ac (ae 0 (yd hK h)))
 ·exact ah 98 h23 (ae 2 (yd hK h))
theorem I1(hK:ao K)(h:mL K n v1 v2 v3 v4 v9 v21 v22 v23 v24 v25 v26 v27 v28=some r):g9 M w0 r [cX 255] (Qn v1 v2 v3 v4 v9 v21 v22 v23 v24 v25 v26 v27 v28):=by
 unfold mL at h;refine aC 2 3 1 (bJ [2,3,5,6,10,11,12,13,14,15,16,17,18] [5,6,10,11,16,17,440001] [1054,440009] ?_);obtain⟨v29,h18,h⟩:=bind_some h;obtain⟨v30,h19,h⟩:=bind_some h;refine bQ 2 (nu 81 [.ptr 6 0,.ptr 6 0,iI v2.Margin.a0,.agg (cA v29),.ptr 6 0,.ptr 6 2,iI v2.Margin.a2,.agg (cA v30),.ptr 11 61,.ptr 11 63]) [] [] [bZ Tryz.prog 259 Tryz.f100 (pn 510) 9,bZ Tryz.prog 259 Tryz.f100 (pn 510) 11] (ay (vz 3) (ag (cD 0 1 84 (GL hK h18)) (ay [.v 0 2,.v 0 2,.v 0 2] (ag (cD 0 1 88 (GL hK h19)) (ay [.v 0 1] (ag (bX 0) (ay [.v 1 1] (ag (bX 1) bP)))))))) (gd 9 2 3 4 ?_);obtain⟨h20,h⟩|⟨h20,h⟩:=ak h
 ·refine ah 91 h20 (bh 2 1 (aj 3 ?_));obtain⟨v31,h21,h⟩:=bind_some h;exact aS (su hK h21) (ac (ae 0 (yd hK h)))
 ·refine ah 91 h20 (aC 6 7 2 (aj 3 ?_));obtain⟨h22,h⟩|⟨h22,h⟩:=ak h
  ·exact aB 101 h22 (ac (ae 0 (Dh hK h)))
  ·exact aB 101 h22 (ac (ae 0 (Dh hK h)))
theorem TZ(hK:ao K)(hL1:Ij M w0 r v1 v2 v3 v4 v5 v9 m1 L1)(h:sD K n v1 v2 v3 v4 v5 v9 L1 v12 v13 v14 v15 v16=some r):g9 M w0 r (cX 32596::K6 M w0 r m1) (Gw v1 v2 v3 v4 v5 v9 v12 v13 v14 v15 v16):=by
 unfold sD at h;refine aC 6 7 3 ?_;obtain⟨h11,h⟩|⟨h11,h⟩:=ak h
 ·refine ah 39 h11 (c8 8 9 1 3 5 (aj 0 ?_));obtain⟨h12,h⟩:=aF h;refine az (bi aR av h12 (dY) (dp)) (ac (aj 6 ?_));obtain⟨v17,h13,h⟩:=bind_some h;refine qc (hK.gB h13).2 ?_ (hK.gB h13).1;refine az (fX aY ([v17.1]:List ai) (new:=[aO v17.1]) (by simp only[List.map_cons,List.map_nil,ey])) ?_;obtain⟨h14,h⟩:=aF h;exact az (cy 50 50 44 67 aY (rfl) (ky) h14) (ac (ae 2 (bz (hL1 h))))
 ·refine ah 39 h11 (bK (ks':=[cX 4075,cX 255]) 5 (aj 1 (vm 50 ?_)));obtain⟨v18,h15,h⟩:=bind_some h;exact fU 1054 (L9 hK h15) (Gt (i:=0) rfl) (ac (ae 0 (I1 hK h)))
theorem VU(hK:ao K)(m:Nat):Ij M w0 r v1 v2 v3 v4 v5 v9 m (mu K n v1 v2 v3 v4 v5 v9 m):=by
 induction m with
 | zero=>intro v12 v13 v14 v15 v16 h;cases h
 | succ m ih=>intro v12 v13 v14 v15 v16 h;have h:sD K n v1 v2 v3 v4 v5 v9 (mu K n v1 v2 v3 v4 v5 v9 m) v12 v13 v14 v15 v16=some r:=h;exact bB (TZ hK ih h)
theorem D5(hK:ao K)(h:gQ K n v1 v2 v3 v4 v5 v6 v7 v8=some r):eG Tryz.prog 100 [.agg (av v1),.agg (cb v2),.bool v3,.bool v4,.agg (bW v5)] [(440001,List.set (bL (⟨[],v6,v7⟩:bH)) 0 (.ref 440009))] ⟨64,127,lm bc v8⟩ (fun v s=>v=.agg (aO r.1)∧cj s.o [(440001,List.set (bL (⟨[],r.2.1,r.2.2.1⟩:bH)) 0 (.ref 440009))]∧look 440009 s.r=some ⟨64,127,lm bc r.2.2.2⟩):=by
 refine jz (c:=cat Tryz.f100 []) Tryz.func100 (by kernel_rfl) _ Tryz.ntmps100 (of_decide_eq_true (by kernel_rfl)) fun M w0=>(bd ⟨[(0,.agg (av v1)),(1,.agg (cb v2)),(2,.bool v3),(3,.bool v4),(4,.agg (bW v5))],[(440001,List.set (bL (⟨[],v6,v7⟩:bH)) 0 (.ref 440009))],[(440009,⟨64,127,lm bc v8⟩)],[440009,440001,1440001]⟩ ?_);unfold gQ at h;refine bK (ks':=[cX 14,cX 15]) 5 (aj 1 ?_);obtain⟨v9,h1,h⟩:=bind_some h;refine aS (Ip hK h1) (ac (aC 61 31 9 ?_));obtain⟨h2,h⟩|⟨h2,h⟩:=ak h
 ·exact ah 35 h2 (bN 20 21 11 5 (aj 1 (az (bu aR v9.1) (ac (iK 2 0 1 (bJ [2,3,5,6,9,10,11,12,13,15,16,17,19,36,37,38] [5,6,9,10,11,16,17,440001] [440009] (gh 50 19 44 67 (ae 0 (cg (p:=pn 16298) n (VU hK n h))))))))))
 ·refine ah 35 h2 (aC 6 7 2 (aj 7 ?_));obtain⟨v19,h16,h⟩:=bind_some h;refine k9 (hK.pS h16) (ac (aC 2 3 1 (aj 2 ?_)));obtain⟨v20,h17,h⟩:=bind_some h;exact fU 1075 (xp hK h17) (fS 5) (ac (aj 2 (az (bu aY v20) (ac (bJ [2,3,5,6,10,11,12,13,14,15,16,17,18] [5,6,10,11,16,17,440001] [1075,440009] (z6 1075 1054 (ae 0 (I1 hK h))))))))
end
noncomputable section
variable[GS](M:Nat→Prop)(w0:aE)(r:ai×Int×Int×(List aG))(v1:aa)(v2:Int)(v3:bF)(v4 v5:Int)(v6:List aG)(v7:bO)(v8 v9:Bool)  
abbrev uf(n:Nat):aq:=.c (cat Tryz.f47 (pn n))
abbrev Ky:Cx:=⟨Tryz.prog,58,M,w0⟩
abbrev PH:=bodyPost Tryz.prog Tryz.f47 (bA M w0 (fun v s=>v=.agg (aO r.1)∧cj s.o [(440001,List.set (bL (⟨[],r.2.1,r.2.2.1⟩:bH)) 0 (.ref 440009))]∧look 440009 s.r=some ⟨64,127,lm bc r.2.2.2⟩))
abbrev En(ks:List aq)(s:AS):=VE (Ky M w0) (PH M w0 r) ks .normal s
def S8:AS:=⟨[(3,.ptr 3 0),(5,.ptr 5 0),(6,.ptr 6 0),(7,.ptr 7 0),(9,.bool v8),(10,.bool v9)],[(3,av v1),(5,bW v3),(6,List.set (aO bG) 66 (.nils)),(7,cb v7),(440001,List.set (bL (⟨[],v4,v5⟩:bH)) 0 (.ref 440009))],[(440009,⟨64,127,lm bc v6⟩)],[3,5,6,7,440001,440009,1440001,440001]⟩
def PZ:AS:=⟨[(3,.ptr 3 0),(5,.ptr 5 0),(6,.ptr 6 0),(7,.ptr 7 0),(8,.bool (v1.Style.Overflow == 0)),(9,.bool v8)],[(3,av v1),(5,bW v3),(6,List.set (aO bG) 66 (.nils)),(7,cb v7),(440001,List.set (bL (⟨[],v4,v5⟩:bH)) 0 (.ref 440009))],[(440009,⟨64,127,lm bc v6⟩)],[3,5,6,7,440001,440009,1440001,440001]⟩
variable{M w0 r v1 v2 v3 v4 v5 v6 v7 v8 v9}{K:Kn}{n:Nat}[SG w0]
theorem wb(hK:ao K)(h:oE K n v1 v3 v4 v5 v6 v7 v8 v9=some r):En M w0 r [uf 63] (S8 v1 v3 v4 v5 v6 v7 v8 v9):=by
 unfold oE at h;refine aC 2 3 1 (aj 5 ?_);obtain⟨v10,h7,h⟩:=bind_some h;refine qc (D5 hK h7) (ac (aL 1 ?_));cases h;exact dL
theorem BW(hK:ao K)(h:kp K n v1 v3 v4 v5 v6 v7 v8=some r):En M w0 r [uf 31] (PZ v1 v3 v4 v5 v6 v7 v8):=by
 unfold kp at h;refine aC 2 3 1 (aj 2 ?_);obtain⟨h4,h⟩|⟨h4,h⟩:=ak h
 ·refine aB 33 h4 (aM 8 6 ?_);obtain⟨h5,h⟩|⟨h5,h⟩:=ak h
  ·refine aB 39 h5 (aM 14 6 ?_);obtain⟨h6,h⟩|⟨h6,h⟩:=ak h
   ·exact aB 45 h6 (ac (ae 0 (wb hK h)))
   ·exact aB 45 h6 (ac (ae 0 (wb hK h)))
  ·exact aB 39 h5 (ac (ae 0 (wb hK h)))
 ·exact aB 33 h4 (ac (ae 0 (wb hK h)))
theorem NF(hK:ao K)(h:pC K n v1 v2 v3 v4 v5 v6=some r):eG Tryz.prog 47 [.agg (av v1),iI v2,.agg (bW v3)] [(440001,List.set (bL (⟨[],v4,v5⟩:bH)) 0 (.ref 440009))] ⟨64,127,lm bc v6⟩ (fun v s=>v=.agg (aO r.1)∧cj s.o [(440001,List.set (bL (⟨[],r.2.1,r.2.2.1⟩:bH)) 0 (.ref 440009))]∧look 440009 s.r=some ⟨64,127,lm bc r.2.2.2⟩):=by
 refine jz (c:=cat Tryz.f47 []) Tryz.func47 (by kernel_rfl) _ Tryz.ntmps47 (of_decide_eq_true (by kernel_rfl)) fun M w0=>(bd ⟨[(0,.agg (av v1)),(1,iI v2),(2,.agg (bW v3))],[(440001,List.set (bL (⟨[],v4,v5⟩:bH)) 0 (.ref 440009))],[(440009,⟨64,127,lm bc v6⟩)],[440009,440001,1440001]⟩ ?_);unfold pC at h;refine bK (ks':=[uf 6,uf 7]) 3 (aj 3 ?_);obtain⟨v7,h1,h⟩:=bind_some h;refine aS (H7 hK h1) (ac (aC 6 7 3 (aj 2 ?_)));obtain⟨h2,h⟩|⟨h2,h⟩:=ak h
 ·refine aB 20 h2 (aM 8 6 ?_);obtain⟨h3,h⟩|⟨h3,h⟩:=ak h
  ·exact aB 26 h3 (ac (ae 0 (BW hK h)))
  ·exact aB 26 h3 (ac (ae 0 (BW hK h)))
 ·exact aB 20 h2 (ac (ae 0 (BW hK h)))
end
noncomputable section
variable[GS](M:Nat→Prop)(w0:aE)(r:ai×Int×Int×(List aG))(v1:aa)(v2:Int)(v3:Bool)(v4:bF)(v5:Bool)(v6 v7:Int)(v8:List aG)(v10 v11:Int)(v12:List aG)(v13:ai×Int×Int×(List aG))(v15 v16:Int)(v17:List aG)  
abbrev sB(n:Nat):aq:=.c (cat Tryz.f43 (pn n))
abbrev Vc:Cx:=⟨Tryz.prog,54,M,w0⟩
abbrev UJ:=bodyPost Tryz.prog Tryz.f43 (bA M w0 (fun v s=>v=.agg (aO r.1)∧cj s.o [(440001,List.set (bL (⟨[],r.2.1,r.2.2.1⟩:bH)) 0 (.ref 440009))]∧look 440009 s.r=some ⟨64,127,lm bc r.2.2.2⟩))
abbrev GV(ks:List aq)(s:AS):=VE (Vc M w0) (UJ M w0 r) ks .normal s
def V7:AS:=⟨[(7,.ptr 7 0),(10,.ptr 10 0)],[(7,List.set (aO bG) 66 (.nils)),(10,aO v13.1),(440001,List.set (bL (⟨[],v15,v16⟩:bH)) 0 (.ref 440009))],[(440009,⟨64,127,lm bc v17⟩)],[7,10,440001,440009,1440001,440001]⟩
def SV:AS:=⟨[(1,iI v2),(3,.cptr (bW v4)),(4,.cptr ([dq 37 v5])),(5,.ptr 5 0),(7,.ptr 7 0)],[(5,av v1),(7,List.set (aO bG) 66 (.nils)),(440001,List.set (bL (⟨[],v10,v11⟩:bH)) 0 (.ref 440009))],[(440009,⟨64,127,lm bc v12⟩)],[5,7,440001,440009,1440001,440001]⟩
variable{M w0 r v1 v2 v3 v4 v5 v6 v7 v8 v10 v11 v12 v13 v15 v16 v17}{K:Kn}{n:Nat}[SG w0]
theorem D1(hK:ao K)(h:sL K n v13 v15 v16 v17=some r):GV M w0 r [sB 63] (V7 v13 v15 v16 v17):=by
 unfold sL at h;refine aL 3 ?_;cases h;exact dL
theorem GD(hK:ao K)(h:q8 K n v1 v2 v4 v5 v10 v11 v12=some r):GV M w0 r [sB 7] (SV v1 v2 v4 v5 v10 v11 v12):=by
 unfold q8 at h;refine gd 53 0 7 8 ?_;obtain⟨h5,h⟩|⟨h5,h⟩:=ak h
 ·refine ah 28 h5 ?_;cases h
 ·refine ah 28 h5 (bh 7 3 ?_);obtain⟨h6,h⟩|⟨h6,h⟩:=ak h
  ·refine ah 34 h6 ?_;cases h
  ·refine ah 34 h6 (bh 7 3 ?_);obtain⟨h7,h⟩|⟨h7,h⟩:=ak h
   ·refine ah 40 h7 ?_;cases h
   ·refine ah 40 h7 (bh 3 1 (aj 3 ?_));obtain⟨v13,h8,h⟩:=bind_some h;refine qc (NF hK h8) (ac (oB 4 5 3 3 (aj 1 (FS 37 v5 .neq 89 89 (.tmp 46) (.const .nilFunc) 47 (ac ?_)))));obtain⟨h9,h⟩|⟨h9,h⟩:=ak h
    ·refine ah 47 h9 (bh 2 1 (aj 4 ?_));obtain⟨h11,h⟩:=aF h;obtain⟨v14,h10,h⟩:=bind_some h;exact Bl 48 (v:=dq 37 v5) (v':=.vv (fT 37 GS.g)) (by kernel_rfl) (by rw[h11];rfl) rfl (Ix (Rc hK h10) (ac (ae 0 (D1 hK h))))
    ·exact ah 47 h9 (ae 2 (D1 hK h))
theorem Oo(hK:ao K)(h:rQ K n v1 v2 v3 v4 v5 v6 v7 v8=some r):eG Tryz.prog 43 [.agg (av v1),iI v2,.cptr ([dq 36 v3]),.cptr (bW v4),.cptr ([dq 37 v5])] [(440001,List.set (bL (⟨[],v6,v7⟩:bH)) 0 (.ref 440009))] ⟨64,127,lm bc v8⟩ (fun v s=>v=.agg (aO r.1)∧cj s.o [(440001,List.set (bL (⟨[],r.2.1,r.2.2.1⟩:bH)) 0 (.ref 440009))]∧look 440009 s.r=some ⟨64,127,lm bc r.2.2.2⟩):=by
 refine jz (c:=cat Tryz.f43 []) Tryz.func43 (by kernel_rfl) _ Tryz.ntmps43 (of_decide_eq_true (by kernel_rfl)) fun M w0=>(bd ⟨[(0,.agg (av v1)),(1,iI v2),(2,.cptr ([dq 36 v3])),(3,.cptr (bW v4)),(4,.cptr ([dq 37 v5]))],[(440001,List.set (bL (⟨[],v6,v7⟩:bH)) 0 (.ref 440009))],[(440009,⟨64,127,lm bc v8⟩)],[440009,440001,1440001]⟩ ?_);unfold rQ at h;refine bK (ks':=[sB 12,sB 13,sB 7]) 4 (aj 1 (FS 36 v3 .neq 66 66 (.tmp 11) (.const .nilFunc) 12 (ac ?_)));obtain⟨h1,h⟩|⟨h1,h⟩:=ak h
 ·refine ah 12 h1 (aC 4 5 2 (aj 3 ?_));obtain⟨h3,h⟩:=aF h;obtain⟨v9,h2,h⟩:=bind_some h;refine Bl 14 (v:=dq 36 v3) (v':=.vv (fT 36 GS.g)) (by kernel_rfl) (by rw[h3];rfl) rfl (Ix (NI hK h2) (ac (bh 3 2 ?_)));obtain⟨h4,h⟩|⟨h4,h⟩:=ak h
  ·refine ah 20 h4 (aL 5 ?_);cases h;exact dL
  ·exact ah 20 h4 (ae 2 (GD hK h))
 ·exact ah 12 h1 (ae 2 (GD hK h))
end
noncomputable section
variable[GS](M:Nat→Prop)(w0:aE)(r v1:aJ)(v2:Nat)(v3 v4 v5 v6 v7 v8 v9 v10 v11 v12 v13:aJ)  
abbrev dr(n:Nat):aq:=.c (cat Tryz.f108 (pn n))
abbrev yB:Cx:=⟨Tryz.prog,40,M,w0⟩
abbrev xm:=bodyPost Tryz.prog Tryz.f108 (bA M w0 (fun v _=>v=.agg (aV r)))
abbrev gV(ks:List aq)(s:AS):=VE (yB M w0) (xm M w0 r) ks .normal s
def SR:AS:=⟨[(1,.pp 1 v2 0),(2,.ptr 2 0),(24,.ref 10),(25,iI 11),(26,iI 10)],[(1,aV v13),(2,aV cT)],[(10,⟨201,1,lm bw [(v2,6),(v2,10),(v2,12),(v2,14),(v2,22),(v2,16),(v2,24),(v2,18),(v2,26),(v2,20),(v2,28)]⟩)],[1,2,10]⟩
def UM:AS:=⟨[(1,.pp 1 v2 0),(2,.ptr 2 0),(24,.ref 10),(25,iI 11),(26,iI 9)],[(1,aV v12),(2,aV cT)],[(10,⟨201,1,lm bw [(v2,6),(v2,10),(v2,12),(v2,14),(v2,22),(v2,16),(v2,24),(v2,18),(v2,26),(v2,20),(v2,28)]⟩)],[1,2,10]⟩
def LS:AS:=⟨[(1,.pp 1 v2 0),(2,.ptr 2 0),(24,.ref 10),(25,iI 11),(26,iI 8)],[(1,aV v11),(2,aV cT)],[(10,⟨201,1,lm bw [(v2,6),(v2,10),(v2,12),(v2,14),(v2,22),(v2,16),(v2,24),(v2,18),(v2,26),(v2,20),(v2,28)]⟩)],[1,2,10]⟩
def T5:AS:=⟨[(1,.pp 1 v2 0),(2,.ptr 2 0),(24,.ref 10),(25,iI 11),(26,iI 7)],[(1,aV v10),(2,aV cT)],[(10,⟨201,1,lm bw [(v2,6),(v2,10),(v2,12),(v2,14),(v2,22),(v2,16),(v2,24),(v2,18),(v2,26),(v2,20),(v2,28)]⟩)],[1,2,10]⟩
def Uv:AS:=⟨[(1,.pp 1 v2 0),(2,.ptr 2 0),(24,.ref 10),(25,iI 11),(26,iI 6)],[(1,aV v9),(2,aV cT)],[(10,⟨201,1,lm bw [(v2,6),(v2,10),(v2,12),(v2,14),(v2,22),(v2,16),(v2,24),(v2,18),(v2,26),(v2,20),(v2,28)]⟩)],[1,2,10]⟩
def QS:AS:=⟨[(1,.pp 1 v2 0),(2,.ptr 2 0),(24,.ref 10),(25,iI 11),(26,iI 5)],[(1,aV v8),(2,aV cT)],[(10,⟨201,1,lm bw [(v2,6),(v2,10),(v2,12),(v2,14),(v2,22),(v2,16),(v2,24),(v2,18),(v2,26),(v2,20),(v2,28)]⟩)],[1,2,10]⟩
def KQ:AS:=⟨[(1,.pp 1 v2 0),(2,.ptr 2 0),(24,.ref 10),(25,iI 11),(26,iI 4)],[(1,aV v7),(2,aV cT)],[(10,⟨201,1,lm bw [(v2,6),(v2,10),(v2,12),(v2,14),(v2,22),(v2,16),(v2,24),(v2,18),(v2,26),(v2,20),(v2,28)]⟩)],[1,2,10]⟩
def Nx:AS:=⟨[(1,.pp 1 v2 0),(2,.ptr 2 0),(24,.ref 10),(25,iI 11),(26,iI 3)],[(1,aV v6),(2,aV cT)],[(10,⟨201,1,lm bw [(v2,6),(v2,10),(v2,12),(v2,14),(v2,22),(v2,16),(v2,24),(v2,18),(v2,26),(v2,20),(v2,28)]⟩)],[1,2,10]⟩
def MF:AS:=⟨[(1,.pp 1 v2 0),(2,.ptr 2 0),(24,.ref 10),(25,iI 11),(26,iI 2)],[(1,aV v5),(2,aV cT)],[(10,⟨201,1,lm bw [(v2,6),(v2,10),(v2,12),(v2,14),(v2,22),(v2,16),(v2,24),(v2,18),(v2,26),(v2,20),(v2,28)]⟩)],[1,2,10]⟩
def Mk:AS:=⟨[(1,.pp 1 v2 0),(2,.ptr 2 0),(24,.ref 10),(25,iI 11),(26,iI 1)],[(1,aV v4),(2,aV cT)],[(10,⟨201,1,lm bw [(v2,6),(v2,10),(v2,12),(v2,14),(v2,22),(v2,16),(v2,24),(v2,18),(v2,26),(v2,20),(v2,28)]⟩)],[1,2,10]⟩
def N8:AS:=⟨[(1,.pp 1 v2 0),(2,.ptr 2 0),(24,.ref 10),(25,iI 11),(26,iI 0)],[(1,aV v3),(2,aV cT)],[(10,⟨201,1,lm bw [(v2,6),(v2,10),(v2,12),(v2,14),(v2,22),(v2,16),(v2,24),(v2,18),(v2,26),(v2,20),(v2,28)]⟩)],[1,2,10]⟩
abbrev dD(m:Nat):List aq:=kl (yB M w0) (xm M w0 r) [.b 2,dr 31] (cat Tryz.f108 (pn 244)) m::[.b 2,dr 31]
abbrev qN(m:Nat):List aq:=kl (yB M w0) (xm M w0 r) [.b 0,dr 15] (cat Tryz.f108 (pn 116)) m::[.b 0,dr 15]
variable{M w0 r v1 v2 v3 v4 v5 v6 v7 v8 v9 v10 v11 v12 v13}{K:Kn}{n:Nat}
theorem GN(hK:ao K)(h:uP K n v13=some r):gV M w0 r (.b 3::dr 1959::dD M w0 r 29) (SR v2 v13):=by
 unfold uP at h;refine bR (ks':=dD M w0 r 29) 2 ⟨[(1,.pp 1 v2 0),(2,.ptr 2 0),(24,.ref 10),(25,iI 11),(26,iI 11)],[(1,aV v13),(2,aV cT)],[(10,⟨201,1,lm bw [(v2,6),(v2,10),(v2,12),(v2,14),(v2,22),(v2,16),(v2,24),(v2,18),(v2,26),(v2,20),(v2,28)]⟩)],[1,2,10]⟩ (bz (bB (aL 11 ?_)));cases h;exact bj
theorem Ik(hK:ao K)(h:vj K n v12=some r):gV M w0 r (.b 3::dr 1959::dD M w0 r 30) (UM v2 v12):=by
 unfold vj at h;refine bR (ks':=dD M w0 r 30) 2 ⟨[(1,.pp 1 v2 0),(2,.ptr 2 0),(24,.ref 10),(25,iI 11),(26,iI 10)],[(1,aV v12),(2,aV cT)],[(10,⟨201,1,lm bw [(v2,6),(v2,10),(v2,12),(v2,14),(v2,22),(v2,16),(v2,24),(v2,18),(v2,26),(v2,20),(v2,28)]⟩)],[1,2,10]⟩ (bz (bB (dP 56 57 3 15 8 (aj 0 (az (cS 10 1 bw (L:=([(v2,6),(v2,10),(v2,12),(v2,14),(v2,22),(v2,16),(v2,24),(v2,18),(v2,26),(v2,20),(v2,28)]:List (Nat×Nat))) (i:=(10:Int)) (by kernel_rfl)) (az (cR 201 0 bw bw (L:=([(v2,6),(v2,10),(v2,12),(v2,14),(v2,22),(v2,16),(v2,24),(v2,18),(v2,26),(v2,20),(v2,28)]:List (Nat×Nat))) (j:=(10:Int).toNat) (of_decide_eq_true (by kernel_rfl)) ((fun _=>rfl))) (ac (aC 2 3 1 (aj 3 (dI 32 1 1 v2 28 0 (ac ?_)))))))))));obtain⟨h11,h⟩|⟨h11,h⟩:=ak h
 ·exact ah 34 h11 (bh 2 1 (aj 3 (dI 37 1 1 v2 28 0 (ac (ae 0 (GN hK (v2:=v2) h))))))
 ·exact ah 34 h11 (ae 2 (GN hK (v2:=v2) h))
theorem E1(hK:ao K)(h:wP K n v11=some r):gV M w0 r (.b 3::dr 1959::dD M w0 r 31) (LS v2 v11):=by
 unfold wP at h;refine bR (ks':=dD M w0 r 31) 2 ⟨[(1,.pp 1 v2 0),(2,.ptr 2 0),(24,.ref 10),(25,iI 11),(26,iI 9)],[(1,aV v11),(2,aV cT)],[(10,⟨201,1,lm bw [(v2,6),(v2,10),(v2,12),(v2,14),(v2,22),(v2,16),(v2,24),(v2,18),(v2,26),(v2,20),(v2,28)]⟩)],[1,2,10]⟩ (bz (bB (dP 56 57 3 15 8 (aj 0 (az (cS 10 1 bw (L:=([(v2,6),(v2,10),(v2,12),(v2,14),(v2,22),(v2,16),(v2,24),(v2,18),(v2,26),(v2,20),(v2,28)]:List (Nat×Nat))) (i:=(9:Int)) (by kernel_rfl)) (az (cR 201 0 bw bw (L:=([(v2,6),(v2,10),(v2,12),(v2,14),(v2,22),(v2,16),(v2,24),(v2,18),(v2,26),(v2,20),(v2,28)]:List (Nat×Nat))) (j:=(9:Int).toNat) (of_decide_eq_true (by kernel_rfl)) ((fun _=>rfl))) (ac (aC 2 3 1 (aj 3 (dI 32 1 1 v2 20 0 (ac ?_)))))))))));obtain⟨h10,h⟩|⟨h10,h⟩:=ak h
 ·exact ah 34 h10 (bh 2 1 (aj 3 (dI 37 1 1 v2 20 0 (ac (ae 0 (Ik hK (v2:=v2) h))))))
 ·exact ah 34 h10 (ae 2 (Ik hK (v2:=v2) h))
theorem HA(hK:ao K)(h:uC K n v10=some r):gV M w0 r (.b 3::dr 1959::dD M w0 r 32) (T5 v2 v10):=by
 unfold uC at h;refine bR (ks':=dD M w0 r 32) 2 ⟨[(1,.pp 1 v2 0),(2,.ptr 2 0),(24,.ref 10),(25,iI 11),(26,iI 8)],[(1,aV v10),(2,aV cT)],[(10,⟨201,1,lm bw [(v2,6),(v2,10),(v2,12),(v2,14),(v2,22),(v2,16),(v2,24),(v2,18),(v2,26),(v2,20),(v2,28)]⟩)],[1,2,10]⟩ (bz (bB (dP 56 57 3 15 8 (aj 0 (az (cS 10 1 bw (L:=([(v2,6),(v2,10),(v2,12),(v2,14),(v2,22),(v2,16),(v2,24),(v2,18),(v2,26),(v2,20),(v2,28)]:List (Nat×Nat))) (i:=(8:Int)) (by kernel_rfl)) (az (cR 201 0 bw bw (L:=([(v2,6),(v2,10),(v2,12),(v2,14),(v2,22),(v2,16),(v2,24),(v2,18),(v2,26),(v2,20),(v2,28)]:List (Nat×Nat))) (j:=(8:Int).toNat) (of_decide_eq_true (by kernel_rfl)) ((fun _=>rfl))) (ac (aC 2 3 1 (aj 3 (dI 32 1 1 v2 26 0 (ac ?_)))))))))));obtain⟨h9,h⟩|⟨h9,h⟩:=ak h
 ·exact ah 34 h9 (bh 2 1 (aj 3 (dI 37 1 1 v2 26 0 (ac (ae 0 (E1 hK (v2:=v2) h))))))
 ·exact ah 34 h9 (ae 2 (E1 hK (v2:=v2) h))
theorem Ei(hK:ao K)(h:vH K n v9=some r):gV M w0 r (.b 3::dr 1959::dD M w0 r 33) (Uv v2 v9):=by
 unfold vH at h;refine bR (ks':=dD M w0 r 33) 2 ⟨[(1,.pp 1 v2 0),(2,.ptr 2 0),(24,.ref 10),(25,iI 11),(26,iI 7)],[(1,aV v9),(2,aV cT)],[(10,⟨201,1,lm bw [(v2,6),(v2,10),(v2,12),(v2,14),(v2,22),(v2,16),(v2,24),(v2,18),(v2,26),(v2,20),(v2,28)]⟩)],[1,2,10]⟩ (bz (bB (dP 56 57 3 15 8 (aj 0 (az (cS 10 1 bw (L:=([(v2,6),(v2,10),(v2,12),(v2,14),(v2,22),(v2,16),(v2,24),(v2,18),(v2,26),(v2,20),(v2,28)]:List (Nat×Nat))) (i:=(7:Int)) (by kernel_rfl)) (az (cR 201 0 bw bw (L:=([(v2,6),(v2,10),(v2,12),(v2,14),(v2,22),(v2,16),(v2,24),(v2,18),(v2,26),(v2,20),(v2,28)]:List (Nat×Nat))) (j:=(7:Int).toNat) (of_decide_eq_true (by kernel_rfl)) ((fun _=>rfl))) (ac (aC 2 3 1 (aj 3 (dI 32 1 1 v2 18 0 (ac ?_)))))))))));obtain⟨h8,h⟩|⟨h8,h⟩:=ak h
 ·exact ah 34 h8 (bh 2 1 (aj 3 (dI 37 1 1 v2 18 0 (ac (ae 0 (HA hK (v2:=v2) h))))))
 ·exact ah 34 h8 (ae 2 (HA hK (v2:=v2) h))
theorem EQ(hK:ao K)(h:vG K n v8=some r):gV M w0 r (.b 3::dr 1959::dD M w0 r 34) (QS v2 v8):=by
 unfold vG at h;refine bR (ks':=dD M w0 r 34) 2 ⟨[(1,.pp 1 v2 0),(2,.ptr 2 0),(24,.ref 10),(25,iI 11),(26,iI 6)],[(1,aV v8),(2,aV cT)],[(10,⟨201,1,lm bw [(v2,6),(v2,10),(v2,12),(v2,14),(v2,22),(v2,16),(v2,24),(v2,18),(v2,26),(v2,20),(v2,28)]⟩)],[1,2,10]⟩ (bz (bB (dP 56 57 3 15 8 (aj 0 (az (cS 10 1 bw (L:=([(v2,6),(v2,10),(v2,12),(v2,14),(v2,22),(v2,16),(v2,24),(v2,18),(v2,26),(v2,20),(v2,28)]:List (Nat×Nat))) (i:=(6:Int)) (by kernel_rfl)) (az (cR 201 0 bw bw (L:=([(v2,6),(v2,10),(v2,12),(v2,14),(v2,22),(v2,16),(v2,24),(v2,18),(v2,26),(v2,20),(v2,28)]:List (Nat×Nat))) (j:=(6:Int).toNat) (of_decide_eq_true (by kernel_rfl)) ((fun _=>rfl))) (ac (aC 2 3 1 (aj 3 (dI 32 1 1 v2 24 0 (ac ?_)))))))))));obtain⟨h7,h⟩|⟨h7,h⟩:=ak h
 ·exact ah 34 h7 (bh 2 1 (aj 3 (dI 37 1 1 v2 24 0 (ac (ae 0 (Ei hK (v2:=v2) h))))))
 ·exact ah 34 h7 (ae 2 (Ei hK (v2:=v2) h))
theorem GM(hK:ao K)(h:vY K n v7=some r):gV M w0 r (.b 3::dr 1959::dD M w0 r 35) (KQ v2 v7):=by
 unfold vY at h;refine bR (ks':=dD M w0 r 35) 2 ⟨[(1,.pp 1 v2 0),(2,.ptr 2 0),(24,.ref 10),(25,iI 11),(26,iI 5)],[(1,aV v7),(2,aV cT)],[(10,⟨201,1,lm bw [(v2,6),(v2,10),(v2,12),(v2,14),(v2,22),(v2,16),(v2,24),(v2,18),(v2,26),(v2,20),(v2,28)]⟩)],[1,2,10]⟩ (bz (bB (dP 56 57 3 15 8 (aj 0 (az (cS 10 1 bw (L:=([(v2,6),(v2,10),(v2,12),(v2,14),(v2,22),(v2,16),(v2,24),(v2,18),(v2,26),(v2,20),(v2,28)]:List (Nat×Nat))) (i:=(5:Int)) (by kernel_rfl)) (az (cR 201 0 bw bw (L:=([(v2,6),(v2,10),(v2,12),(v2,14),(v2,22),(v2,16),(v2,24),(v2,18),(v2,26),(v2,20),(v2,28)]:List (Nat×Nat))) (j:=(5:Int).toNat) (of_decide_eq_true (by kernel_rfl)) ((fun _=>rfl))) (ac (aC 2 3 1 (aj 3 (dI 32 1 1 v2 16 0 (ac ?_)))))))))));obtain⟨h6,h⟩|⟨h6,h⟩:=ak h
 ·exact ah 34 h6 (bh 2 1 (aj 3 (dI 37 1 1 v2 16 0 (ac (ae 0 (EQ hK (v2:=v2) h))))))
 ·exact ah 34 h6 (ae 2 (EQ hK (v2:=v2) h))
theorem F6(hK:ao K)(h:wO K n v6=some r):gV M w0 r (.b 3::dr 1959::dD M w0 r 36) (Nx v2 v6):=by
 unfold wO at h;refine bR (ks':=dD M w0 r 36) 2 ⟨[(1,.pp 1 v2 0),(2,.ptr 2 0),(24,.ref 10),(25,iI 11),(26,iI 4)],[(1,aV v6),(2,aV cT)],[(10,⟨201,1,lm bw [(v2,6),(v2,10),(v2,12),(v2,14),(v2,22),(v2,16),(v2,24),(v2,18),(v2,26),(v2,20),(v2,28)]⟩)],[1,2,10]⟩ (bz (bB (dP 56 57 3 15 8 (aj 0 (az (cS 10 1 bw (L:=([(v2,6),(v2,10),(v2,12),(v2,14),(v2,22),(v2,16),(v2,24),(v2,18),(v2,26),(v2,20),(v2,28)]:List (Nat×Nat))) (i:=(4:Int)) (by kernel_rfl)) (az (cR 201 0 bw bw (L:=([(v2,6),(v2,10),(v2,12),(v2,14),(v2,22),(v2,16),(v2,24),(v2,18),(v2,26),(v2,20),(v2,28)]:List (Nat×Nat))) (j:=(4:Int).toNat) (of_decide_eq_true (by kernel_rfl)) ((fun _=>rfl))) (ac (aC 2 3 1 (aj 3 (dI 32 1 1 v2 22 0 (ac ?_)))))))))));obtain⟨h5,h⟩|⟨h5,h⟩:=ak h
 ·exact ah 34 h5 (bh 2 1 (aj 3 (dI 37 1 1 v2 22 0 (ac (ae 0 (GM hK (v2:=v2) h))))))
 ·exact ah 34 h5 (ae 2 (GM hK (v2:=v2) h))
theorem HM(hK:ao K)(h:uN K n v5=some r):gV M w0 r (.b 3::dr 1959::dD M w0 r 37) (MF v2 v5):=by
 unfold uN at h;refine bR (ks':=dD M w0 r 37) 2 ⟨[(1,.pp 1 v2 0),(2,.ptr 2 0),(24,.ref 10),(25,iI 11),(26,iI 3)],[(1,aV v5),(2,aV cT)],[(10,⟨201,1,lm bw [(v2,6),(v2,10),(v2,12),(v2,14),(v2,22),(v2,16),(v2,24),(v2,18),(v2,26),(v2,20),(v2,28)]⟩)],[1,2,10]⟩ (bz (bB (dP 56 57 3 15 8 (aj 0 (az (cS 10 1 bw (L:=([(v2,6),(v2,10),(v2,12),(v2,14),(v2,22),(v2,16),(v2,24),(v2,18),(v2,26),(v2,20),(v2,28)]:List (Nat×Nat))) (i:=(3:Int)) (by kernel_rfl)) (az (cR 201 0 bw bw (L:=([(v2,6),(v2,10),(v2,12),(v2,14),(v2,22),(v2,16),(v2,24),(v2,18),(v2,26),(v2,20),(v2,28)]:List (Nat×Nat))) (j:=(3:Int).toNat) (of_decide_eq_true (by kernel_rfl)) ((fun _=>rfl))) (ac (aC 2 3 1 (aj 3 (dI 32 1 1 v2 14 0 (ac ?_)))))))))));obtain⟨h4,h⟩|⟨h4,h⟩:=ak h
 ·exact ah 34 h4 (bh 2 1 (aj 3 (dI 37 1 1 v2 14 0 (ac (ae 0 (F6 hK (v2:=v2) h))))))
 ·exact ah 34 h4 (ae 2 (F6 hK (v2:=v2) h))
theorem GO(hK:ao K)(h:t7 K n v4=some r):gV M w0 r (.b 3::dr 1959::dD M w0 r 38) (Mk v2 v4):=by
 unfold t7 at h;refine bR (ks':=dD M w0 r 38) 2 ⟨[(1,.pp 1 v2 0),(2,.ptr 2 0),(24,.ref 10),(25,iI 11),(26,iI 2)],[(1,aV v4),(2,aV cT)],[(10,⟨201,1,lm bw [(v2,6),(v2,10),(v2,12),(v2,14),(v2,22),(v2,16),(v2,24),(v2,18),(v2,26),(v2,20),(v2,28)]⟩)],[1,2,10]⟩ (bz (bB (dP 56 57 3 15 8 (aj 0 (az (cS 10 1 bw (L:=([(v2,6),(v2,10),(v2,12),(v2,14),(v2,22),(v2,16),(v2,24),(v2,18),(v2,26),(v2,20),(v2,28)]:List (Nat×Nat))) (i:=(2:Int)) (by kernel_rfl)) (az (cR 201 0 bw bw (L:=([(v2,6),(v2,10),(v2,12),(v2,14),(v2,22),(v2,16),(v2,24),(v2,18),(v2,26),(v2,20),(v2,28)]:List (Nat×Nat))) (j:=(2:Int).toNat) (of_decide_eq_true (by kernel_rfl)) ((fun _=>rfl))) (ac (aC 2 3 1 (aj 3 (dI 32 1 1 v2 12 0 (ac ?_)))))))))));obtain⟨h3,h⟩|⟨h3,h⟩:=ak h
 ·exact ah 34 h3 (bh 2 1 (aj 3 (dI 37 1 1 v2 12 0 (ac (ae 0 (HM hK (v2:=v2) h))))))
 ·exact ah 34 h3 (ae 2 (HM hK (v2:=v2) h))
theorem I9(hK:ao K)(h:uq K n v3=some r):gV M w0 r (.b 3::dr 1959::dD M w0 r 39) (N8 v2 v3):=by
 unfold uq at h;refine bR (ks':=dD M w0 r 39) 2 ⟨[(1,.pp 1 v2 0),(2,.ptr 2 0),(24,.ref 10),(25,iI 11),(26,iI 1)],[(1,aV v3),(2,aV cT)],[(10,⟨201,1,lm bw [(v2,6),(v2,10),(v2,12),(v2,14),(v2,22),(v2,16),(v2,24),(v2,18),(v2,26),(v2,20),(v2,28)]⟩)],[1,2,10]⟩ (bz (bB (dP 56 57 3 15 8 (aj 0 (az (cS 10 1 bw (L:=([(v2,6),(v2,10),(v2,12),(v2,14),(v2,22),(v2,16),(v2,24),(v2,18),(v2,26),(v2,20),(v2,28)]:List (Nat×Nat))) (i:=(1:Int)) (by kernel_rfl)) (az (cR 201 0 bw bw (L:=([(v2,6),(v2,10),(v2,12),(v2,14),(v2,22),(v2,16),(v2,24),(v2,18),(v2,26),(v2,20),(v2,28)]:List (Nat×Nat))) (j:=(1:Int).toNat) (of_decide_eq_true (by kernel_rfl)) ((fun _=>rfl))) (ac (aC 2 3 1 (aj 3 (dI 32 1 1 v2 10 0 (ac ?_)))))))))));obtain⟨h2,h⟩|⟨h2,h⟩:=ak h
 ·exact ah 34 h2 (bh 2 1 (aj 3 (dI 37 1 1 v2 10 0 (ac (ae 0 (GO hK (v2:=v2) h))))))
 ·exact ah 34 h2 (ae 2 (GO hK (v2:=v2) h))
theorem JI(hK:ao K)(h:ux K n v1=some r):aU Tryz.prog 108 [.agg (aV v1)] (fun v _=>v=.agg (aV r)):=by
 refine bv (cat Tryz.f108 (pn 1)) Tryz.func108 Tryz.ntmps108 fun M w0=>(bd ⟨[(0,.agg (aV v1))],[],[],[]⟩ ?_);unfold ux at h;refine aC 6 7 3 (M6 1 1 0 fun v2=>(aj 3 (SX 202 3 #[(0,(.tmp 7)),(1,(.tmp 8)),(2,(.tmp 9))] 10 (e:=201) (sz:=1) (l:=lm bw [(v2,6),(v2,10),(v2,12)]) (ac (bR (ks':=[dr 58,.b 0,dr 15]) 4 ⟨[(1,.pp 1 v2 0),(2,.ptr 2 0),(3,.ref 10),(11,iI 0)],[(1,aV v1),(2,aV cT)],[(10,⟨201,1,lm bw [(v2,6),(v2,10),(v2,12)]⟩)],[1,2,10]⟩ (s5 40 (c:=cat Tryz.f108 [1,1,0,1,0,0]) (by kernel_rfl) (bB (bK (ks':=dr 3737 :: .b 1::dr 935::qN M w0 r 39) 9 (bJ [1,2,3,4,11] [1,2] [10] (bQ 2 (nu 14 [.ref 10,iI 0,.adr v2 14,.adr v2 14,iI 0,.adr v2 22,.adr v2 22,.sl (lm bw [(v2,14),(v2,22)])]) [] [] [fB 22 10 ⟨201,1,lm bw [(v2,6),(v2,10),(v2,12),(v2,14),(v2,22)]⟩,bZ Tryz.prog 40 Tryz.f108 (pn 3737) 9] (ay [.v 0 1,.v 0 2,.v 0 2,.v 0 2,.v 0 2,.v 0 2,.v 0 2,.v 0 1] (ag (ex (m:=0) (cy 22 10 201 1 bw (L:=([(v2,6),(v2,10),(v2,12)]:List (Nat×Nat))) (M:=([(v2,14),(v2,22)]:(List (Nat×Nat)))) (bytes:=8) (rfl) (fun _=>rfl) (by kernel_rfl))) (ag (bX 1) bP))) (bR (ks':=qN M w0 r 39) 2 ⟨[(1,.pp 1 v2 0),(2,.ptr 2 0),(3,.ref 10),(11,iI 1)],[(1,aV v1),(2,aV cT)],[(10,⟨201,1,lm bw [(v2,6),(v2,10),(v2,12),(v2,14),(v2,22)]⟩)],[1,2,10]⟩ (bz (bB (gd 57 1 15 9 (bJ [1,2,3,4,11] [1,2] [10] (bQ 2 (nu 14 [.ref 10,iI 1,.adr v2 14,.adr v2 16,iI 1,.adr v2 22,.adr v2 24,.sl (lm bw [(v2,16),(v2,24)])]) [] [] [fB 22 10 ⟨201,1,lm bw [(v2,6),(v2,10),(v2,12),(v2,14),(v2,22),(v2,16),(v2,24)]⟩,bZ Tryz.prog 40 Tryz.f108 (pn 3737) 9] (ay [.v 0 1,.v 0 2,.v 0 2,.v 0 2,.v 0 2,.v 0 2,.v 0 2,.v 0 1] (ag (ex (m:=0) (cy 22 10 201 1 bw (L:=([(v2,6),(v2,10),(v2,12),(v2,14),(v2,22)]:List (Nat×Nat))) (M:=([(v2,16),(v2,24)]:(List (Nat×Nat)))) (bytes:=8) (rfl) (fun _=>rfl) (by kernel_rfl))) (ag (bX 1) bP))) (bR (ks':=qN M w0 r 38) 2 ⟨[(1,.pp 1 v2 0),(2,.ptr 2 0),(3,.ref 10),(11,iI 2)],[(1,aV v1),(2,aV cT)],[(10,⟨201,1,lm bw [(v2,6),(v2,10),(v2,12),(v2,14),(v2,22),(v2,16),(v2,24)]⟩)],[1,2,10]⟩ (bz (bB (gd 57 1 15 9 (bJ [1,2,3,4,11] [1,2] [10] (bQ 2 (nu 14 [.ref 10,iI 2,.adr v2 14,.adr v2 18,iI 2,.adr v2 22,.adr v2 26,.sl (lm bw [(v2,18),(v2,26)])]) [] [] [fB 22 10 ⟨201,1,lm bw [(v2,6),(v2,10),(v2,12),(v2,14),(v2,22),(v2,16),(v2,24),(v2,18),(v2,26)]⟩,bZ Tryz.prog 40 Tryz.f108 (pn 3737) 9] (ay [.v 0 1,.v 0 2,.v 0 2,.v 0 2,.v 0 2,.v 0 2,.v 0 2,.v 0 1] (ag (ex (m:=0) (cy 22 10 201 1 bw (L:=([(v2,6),(v2,10),(v2,12),(v2,14),(v2,22),(v2,16),(v2,24)]:List (Nat×Nat))) (M:=([(v2,18),(v2,26)]:(List (Nat×Nat)))) (bytes:=8) (rfl) (fun _=>rfl) (by kernel_rfl))) (ag (bX 1) bP))) (bR (ks':=qN M w0 r 37) 2 ⟨[(1,.pp 1 v2 0),(2,.ptr 2 0),(3,.ref 10),(11,iI 3)],[(1,aV v1),(2,aV cT)],[(10,⟨201,1,lm bw [(v2,6),(v2,10),(v2,12),(v2,14),(v2,22),(v2,16),(v2,24),(v2,18),(v2,26)]⟩)],[1,2,10]⟩ ?_)))))))))))))))))))))))
 refine bz (bB (gd 57 1 15 9 (bJ [1,2,3,4,11] [1,2] [10] (bQ 2 (nu 14 [.ref 10,iI 3,.adr v2 14,.adr v2 20,iI 3,.adr v2 22,.adr v2 28,.sl (lm bw [(v2,20),(v2,28)])]) [] [] [fB 22 10 ⟨201,1,lm bw [(v2,6),(v2,10),(v2,12),(v2,14),(v2,22),(v2,16),(v2,24),(v2,18),(v2,26),(v2,20),(v2,28)]⟩,bZ Tryz.prog 40 Tryz.f108 (pn 3737) 9] (ay [.v 0 1,.v 0 2,.v 0 2,.v 0 2,.v 0 2,.v 0 2,.v 0 2,.v 0 1] (ag (ex (m:=0) (cy 22 10 201 1 bw (L:=([(v2,6),(v2,10),(v2,12),(v2,14),(v2,22),(v2,16),(v2,24),(v2,18),(v2,26)]:List (Nat×Nat))) (M:=([(v2,20),(v2,28)]:(List (Nat×Nat)))) (bytes:=8) (rfl) (fun _=>rfl) (by kernel_rfl))) (ag (bX 1) bP))) (bR (ks':=qN M w0 r 36) 2 ⟨[(1,.pp 1 v2 0),(2,.ptr 2 0),(3,.ref 10),(11,iI 4)],[(1,aV v1),(2,aV cT)],[(10,⟨201,1,lm bw [(v2,6),(v2,10),(v2,12),(v2,14),(v2,22),(v2,16),(v2,24),(v2,18),(v2,26),(v2,20),(v2,28)]⟩)],[1,2,10]⟩ (bz (bB (PG 4 5 3 10 (aj 1 (az (bu bw ([(v2,6),(v2,10),(v2,12),(v2,14),(v2,22),(v2,16),(v2,24),(v2,18),(v2,26),(v2,20),(v2,28)]:List (Nat×Nat))) (ac (bR (ks':=[dr 122,.b 2,dr 31]) 1 ⟨[(1,.pp 1 v2 0),(2,.ptr 2 0),(24,.ref 10),(25,iI 11),(26,iI 0)],[(1,aV v1),(2,aV cT)],[(10,⟨201,1,lm bw [(v2,6),(v2,10),(v2,12),(v2,14),(v2,22),(v2,16),(v2,24),(v2,18),(v2,26),(v2,20),(v2,28)]⟩)],[1,2,10]⟩ (s5 40 (c:=cat Tryz.f108 [1,1,1,0,1,0,0]) (by kernel_rfl) (bB (bK (ks':=dr 7832::dr 7833 :: .b 3::dr 1959::dD M w0 r 39) 8 (aj 0 (az (cS 10 1 bw (L:=([(v2,6),(v2,10),(v2,12),(v2,14),(v2,22),(v2,16),(v2,24),(v2,18),(v2,26),(v2,20),(v2,28)]:List (Nat×Nat))) (i:=(0:Int)) (by kernel_rfl)) (az (cR 201 0 bw bw (L:=([(v2,6),(v2,10),(v2,12),(v2,14),(v2,22),(v2,16),(v2,24),(v2,18),(v2,26),(v2,20),(v2,28)]:List (Nat×Nat))) (j:=(0:Int).toNat) (of_decide_eq_true (by kernel_rfl)) ((fun _=>rfl))) (ac (aC 2 3 1 (aj 3 (dI 32 1 1 v2 6 0 (ac ?_)))))))))))))))))))))))
 obtain⟨h1,h⟩|⟨h1,h⟩:=ak h
 ·exact ah 34 h1 (bh 2 1 (aj 3 (dI 37 1 1 v2 6 0 (ac (ae 0 (I9 hK (v2:=v2) h))))))
 ·exact ah 34 h1 (ae 2 (I9 hK (v2:=v2) h))
end
noncomputable section
variable[GS](M:Nat→Prop)(w0:aE)(r:Int×Int)(v1:aa)(v2:bF)(v6:(List aa)×Bool)(v11 v12 v13:Int)(m1:Nat)(L1:Int→Int→Int→Option (Int×Int))
abbrev AI:Cx:=⟨Tryz.prog,71,M,w0⟩
abbrev Bo:=bodyPost Tryz.prog Tryz.f107 (bA M w0 (fun v _=>v=.tup [iI r.1,iI r.2]))
abbrev U1(ks:List aq)(s:AS):=VE (AI M w0) (Bo M w0 r) ks .normal s
abbrev DR(n:Nat):aq:=.c (cat Tryz.f107 (pn n))
abbrev yM:List aq:=[.b 0,DR 63]
abbrev Vi:List aq:=kl (AI M w0) (Bo M w0 r) yM (cat Tryz.f107 (pn 500)) m1::yM
def DU:AS:=⟨[(3,.ptr 3 0),(4,iI v11),(5,iI v12),(47,.sl (lm aR v6.1)),(48,iI (v6.1.length:Int)),(49,iI v13)],[(3,bW v2)],[],[3]⟩
abbrev G7:Prop:=∀{v11:Int} {v12:Int} {v13:Int},L1 v11 v12 v13=some r→LP (AI M w0) (Bo M w0 r) yM (cat Tryz.f107 (pn 500)) m1 (DU v2 v6 v11 v12 v13)
variable{M w0 r v1 v2 v6 v11 v12 v13 m1 L1}{K:Kn}{n:Nat}
theorem NJ(hK:ao K)(hL1:G7 M w0 r v2 v6 m1 L1)(h:uI K n v2 v6 L1 v11 v12 v13=some r):U1 M w0 r (DR 500::Vi M w0 r m1) (DU v2 v6 v11 v12 v13):=by
 unfold uI at h;refine aC 6 7 3 ?_;obtain⟨h13,h⟩|⟨h13,h⟩:=ak h
 ·refine ah 50 h13 (c8 8 9 1 3 5 (aj 0 ?_));obtain⟨h14,h⟩:=aF h;refine az (bi aR av h14 (dY) (dp)) (ac (aC 2 3 1 (aj 3 ?_)));obtain⟨v14,h15,h⟩:=bind_some h;exact k9 (hK.oC h15) (ac (ae 3 (bz (hL1 h))))
 ·refine ah 50 h13 (kV 2 3 6 (aj 1 ?_));obtain⟨v15,h16,h⟩:=bind_some h;refine aS (gF hK h16) (aM 3 1 ?_);obtain⟨v16,h17,h⟩:=bind_some h;refine aS (gF hK h17) (ac (aL 1 ?_));cases h;exact gn
theorem MM(hK:ao K)(m:Nat):G7 M w0 r v2 v6 m (vN K n v2 v6 m):=by
 induction m with
 | zero=>intro v11 v12 v13 h;cases h
 | succ m ih=>intro v11 v12 v13 h;have h:uI K n v2 v6 (vN K n v2 v6 m) v11 v12 v13=some r:=h;exact bB (NJ hK ih h)
theorem Ek(hK:ao K)(h:tQ K n v1 v2=some r):aU Tryz.prog 107 [.agg (av v1),.agg (bW v2)] (fun v _=>v=.tup [iI r.1,iI r.2]):=by
 refine bv (cat Tryz.f107 (pn 1)) Tryz.func107 Tryz.ntmps107 fun M w0=>(bd ⟨[(0,.agg (av v1)),(1,.agg (bW v2))],[],[],[]⟩ ?_);unfold tQ at h;refine bN 12 13 7 4 (aj 2 ?_);obtain⟨v3,h1,h⟩:=bind_some h;refine aS (JI hK h1) (aM 4 1 ?_);obtain⟨v4,h2,h⟩:=bind_some h;refine aS (eC hK h2) (ac (bh 3 2 ?_));obtain⟨h3,h⟩|⟨h3,h⟩:=ak h
 ·refine ah 22 h3 (aC 4 5 2 (aj 1 ?_));obtain⟨v5,h4,h⟩:=bind_some h;refine aS (gF hK h4) (ac (aL 4 ?_));cases h;exact gn
 ·refine ah 22 h3 (eV 2 3 3 (aj 1 ?_));obtain⟨v6,h5,h⟩:=bind_some h;refine aS (Ip hK h5) (ac (aC 5 3 3 ?_));obtain⟨h6,h⟩|⟨h6,h⟩:=ak h
  ·refine ah 33 h6 (aC 4 5 2 (aj 5 ?_));obtain⟨v7,h7,h⟩:=bind_some h;refine k9 (hK.uU h7) (ac (aC 2 3 1 (aj 1 ?_)));obtain⟨v8,h8,h⟩:=bind_some h;refine aS (gF hK h8) (aM 3 1 ?_);obtain⟨v9,h9,h⟩:=bind_some h;refine aS (gF hK h9) (ac (aL 2 ?_));cases h;exact gn
  ·exact ah 33 h6 (oB 4 5 3 4 (aj 1 (az (bu aR v6.1) (ac (ae 1 (cg (p:=pn 250) n (MM hK n h)))))))
end
noncomputable section
variable[GS](M:Nat→Prop)(w0:aE)(r:Int×Int)(v1:aa)(v2:bF)  
variable{M w0 r v1 v2}{K:Kn}{n:Nat}
theorem TE(hK:ao K)(h:Bu K n v1 v2=some r):aU Tryz.prog 51 [.agg (av v1),.agg (bW v2)] (fun v _=>v=.tup [iI r.1,iI r.2]):=by
 refine bv (cat Tryz.f51 (pn 1)) Tryz.func51 Tryz.ntmps51 fun M w0=>(bd ⟨[(0,.agg (av v1)),(1,.agg (bW v2))],[],[],[]⟩ ?_);unfold Bu at h;refine aC 6 7 3 (aj 2 ?_);obtain⟨v3,h1,h⟩:=bind_some h;refine aS (Ek hK h1) (ac (aC 2 3 1 (aj 2 ?_)));obtain⟨v4,h2,h⟩:=bind_some h;refine aS (JI hK h2) (ac (aC 2 3 1 (bJ [4,5,6] [6] [] ?_)));obtain⟨v5,h3,h⟩:=bind_some h;obtain⟨v6,h4,h⟩:=bind_some h;obtain⟨v7,h5,h⟩:=bind_some h;obtain⟨v8,h6,h⟩:=bind_some h;obtain⟨v9,h7,h⟩:=bind_some h;obtain⟨v10,h8,h⟩:=bind_some h;refine bQ 2 (nu 16 [.agg (aV v4),.agg (aV v4),iI v3.1,iI v5,.agg (cb v6),iI v7,.agg (aV v4),.agg (aV v4),iI v3.2,iI v8,.agg (cb v9),iI v10]) [] [] [bZ Tryz.prog 28 Tryz.f51 (pn 30) 12,bZ Tryz.prog 28 Tryz.f51 (pn 30) 13] (ay (vz 3) (ag (cD 0 1 19 (uy hK h3)) (ag (cD 0 1 20 (rY hK h4)) (ag (cD 0 1 21 (tv hK h5)) (ay [.v 0 2,.v 0 2,.v 0 2] (ag (cD 0 2 25 (uy hK h6)) (ag (cD 0 2 26 (rY hK h7)) (ag (cD 0 1 27 (tv hK h8)) (ag (bX 0) (ag (bX 1) bP)))))))))) (aL 1 ?_)
 cases h;exact gn
end
noncomputable section
variable[GS](M:Nat→Prop)(w0:aE)(r:Int×Int)(v1:aa)(v2:bF)  
abbrev HU(n:Nat):aq:=.c (cat Tryz.f48 (pn n))
variable{M w0 r v1 v2}{K:Kn}{n:Nat}
theorem K1(hK:ao K)(h:xT K n v1 v2=some r):aU Tryz.prog 48 [.agg (av v1),.cptr (bW v2)] (fun v _=>v=.tup [iI r.1,iI r.2]):=by
 refine bv (cat Tryz.f48 (pn 1)) Tryz.func48 Tryz.ntmps48 fun M w0=>(bd ⟨[(0,.agg (av v1)),(1,.cptr (bW v2))],[],[],[]⟩ ?_);unfold xT at h;refine gd 53 0 7 8 ?_;obtain⟨h1,h⟩|⟨h1,h⟩:=ak h
 ·refine ah 7 h1 ?_;cases h
 ·refine ah 7 h1 (bh 7 3 ?_);obtain⟨h2,h⟩|⟨h2,h⟩:=ak h
  ·refine ah 14 h2 ?_;cases h
  ·refine ah 14 h2 (bK (ks':=[HU 14,HU 15]) 4 (aj 2 ?_));obtain⟨v3,h3,h⟩:=bind_some h;refine aS (TE hK h3) (ac (aL 1 ?_));cases h;exact gn
end
noncomputable section
variable[GS](M:Nat→Prop)(w0:aE)(r:List aD)(v1:aD)(v2:List aD)(v3 v4 v5 v6:Bool)(v7:aD)  
abbrev gc(n:Nat):aq:=.c (cat Tryz.f176 (pn n))
abbrev VA:Cx:=⟨Tryz.prog,72,M,w0⟩
abbrev PQ:=bodyPost Tryz.prog Tryz.f176 (bA M w0 (fun v s=>v=.ref 9∧cj s.o []∧look 9 s.r=some ⟨210,5,lm am r⟩))
abbrev qp(ks:List aq)(s:AS):=VE (VA M w0) (PQ M w0 r) ks .normal s
def Ls:AS:=⟨[(0,.ref 9),(3,.ptr 3 0)],[(3,am v7)],[(9,⟨210,5,lm am v2⟩)],[3,9]⟩
def Nn:AS:=⟨[(0,.ref 9),(3,.ptr 3 0),(64,.bool v6)],[(3,am v1)],[(9,⟨210,5,lm am v2⟩)],[3,9]⟩
def V8:AS:=⟨[(0,.ref 9),(3,.ptr 3 0),(5,.bool (v1.Box.Style.WhiteSpace == 2)),(32,.bool v5)],[(3,am v1)],[(9,⟨210,5,lm am v2⟩)],[3,9]⟩
def S9:AS:=⟨[(0,.ref 9),(3,.ptr 3 0),(5,.bool (v1.Box.Style.WhiteSpace == 2)),(24,.bool v4)],[(3,am v1)],[(9,⟨210,5,lm am v2⟩)],[3,9]⟩
def VI:AS:=⟨[(0,.ref 9),(3,.ptr 3 0),(5,.bool (v1.Box.Style.WhiteSpace == 2)),(19,.bool v3)],[(3,am v1)],[(9,⟨210,5,lm am v2⟩)],[3,9]⟩
variable{M w0 r v1 v2 v3 v4 v5 v6 v7}{K:Kn}{n:Nat}
theorem yu(hK:ao K)(h:lQ K n v2 v7=some r):qp M w0 r [.b 1,gc 31] (Ls v2 v7):=by
 unfold lQ at h;refine eV 6 7 4 (aj 3 ?_);obtain⟨h16,h⟩:=aF h;refine az (cy 71 9 210 5 am (rfl) (cn) h16) (ac (aL 1 ?_));cases h;exact dL
theorem AM(hK:ao K)(h:iZ K n v1 v2 v6=some r):qp M w0 r [gc 15609,gc 7805,.b 1,gc 31] (Nn v1 v2 v6):=by
 unfold iZ at h;obtain⟨h15,h⟩|⟨h15,h⟩:=ak h
 ·refine ah 64 h15 (aL 7 ?_);cases h;exact dL
 ·exact ah 64 h15 (ae 3 (yu hK h))
theorem EP(hK:ao K)(h:nR K n v1 v2 v5=some r):qp M w0 r [gc 487,.b 1,gc 31] (V8 v1 v2 v5):=by
 unfold nR at h;obtain⟨h9,h⟩|⟨h9,h⟩:=ak h
 ·refine ah 32 h9 (aL 6 ?_);cases h;exact dL
 ·refine ah 32 h9 (bh 7 3 ?_);obtain⟨h10,h⟩|⟨h10,h⟩:=ak h
  ·refine ah 40 h10 (bN 8 9 5 3 (aj 1 (az (bu am v2) (aM 4 2 ?_))));obtain⟨h11,h⟩|⟨h11,h⟩:=ak h
   ·exact aB 46 h11 (ac (ae 0 (AM hK h)))
   ·refine aB 46 h11 (aM 6 2 (az (bu am v2) (aM 8 1 ?_)));obtain⟨h12,h⟩:=aF h;refine az (cS 9 5 am h12) (aM 10 1 (az (cR 4 3 am am (cE h12).2 ((fun _=>rfl))) (aM 13 2 ?_)));obtain⟨h13,h⟩|⟨h13,h⟩:=ak h
    ·exact aB 55 h13 (ac (ae 0 (AM hK h)))
    ·refine aB 55 h13 (aM 15 2 (az (bu am v2) (aM 17 1 ?_)));obtain⟨h14,h⟩:=aF h;exact az (cS 9 5 am h14) (aM 19 1 (az (cR 3 0 am am (cE h14).2 ((fun _=>rfl))) (ac (ae 0 (AM hK h)))))
  ·exact ah 40 h10 (ae 2 (yu hK h))
theorem C6(hK:ao K)(h:m7 K n v1 v2 v4=some r):qp M w0 r [gc 121,.b 1,gc 31] (S9 v1 v2 v4):=by
 unfold m7 at h;obtain⟨h7,h⟩|⟨h7,h⟩:=ak h
 ·exact ah 24 h7 (ae 2 (yu hK h))
 ·refine ah 24 h7 (aC 6 7 2 (aj 2 ?_));obtain⟨h8,h⟩|⟨h8,h⟩:=ak h
  ·exact aB 34 h8 (ac (ae 0 (EP hK h)))
  ·exact aB 34 h8 (ac (ae 0 (EP hK h)))
theorem uO(hK:ao K)(h:iM K n v1 v2 v3=some r):qp M w0 r [gc 117,.b 0,gc 15] (VI v1 v2 v3):=by
 unfold iM at h;obtain⟨h4,h⟩|⟨h4,h⟩:=ak h
 ·refine ah 19 h4 (bK (ks':=[gc 120,gc 121,.b 1,gc 31]) 6 (aj 2 ?_));obtain⟨h6,h⟩|⟨h6,h⟩:=ak h
  ·exact aB 26 h6 (ac (ae 0 (C6 hK h)))
  ·exact aB 26 h6 (ac (ae 0 (C6 hK h)))
 ·refine ah 19 h4 (aC 6 7 2 (aj 3 ?_));obtain⟨h5,h⟩:=aF h;refine az (cy 18 9 210 5 am (rfl) (cn) h5) (ac (aL 3 ?_));cases h;exact dL
theorem KT(hK:ao K)(h:rx K n v1 v2=some r):f8 Tryz.prog 176 [.ref 9,.agg (am v1)] [] 9 ⟨210,5,lm am v2⟩ [9] (fun v s=>v=.ref 9∧cj s.o []∧look 9 s.r=some ⟨210,5,lm am r⟩):=by
 refine jO (c:=cat Tryz.f176 (pn 1)) Tryz.func176 (by kernel_rfl) _ Tryz.ntmps176 (of_decide_eq_true (by kernel_rfl)) fun M w0=>(bd ⟨[(0,.ref 9),(1,.agg (am v1))],[],[(9,⟨210,5,lm am v2⟩)],[9]⟩ ?_);unfold rx at h;refine dP 233 117 0 15 11 ?_;obtain⟨h1,h⟩|⟨h1,h⟩:=ak h
 ·exact ah 19 h1 (ae 2 (uO hK h))
 ·refine ah 19 h1 (bh 7 3 ?_);obtain⟨h2,h⟩|⟨h2,h⟩:=ak h
  ·exact ah 19 h2 (ae 2 (uO hK h))
  ·refine ah 19 h2 (bh 7 3 ?_);obtain⟨h3,h⟩|⟨h3,h⟩:=ak h
   ·exact ah 19 h3 (ae 2 (uO hK h))
   ·exact ah 19 h3 (ae 2 (uO hK h))
end
noncomputable section
variable[GS](M:Nat→Prop)(w0:aE)(r:Int×(List aD))(v1:List aa)(v2:Int)(v3:List aD)(v10:Nat)(v23 v24:Int)(v25:List aD)(v32 v36:Nat)(v37:List aD)(v41:Int)(v42:List aD)(v43:Int)(v44:List aD)(m1 m2:Nat)(L1:Int→Int→(List aD)→Option (Int×(List aD)))(L2:Nat→(List aD)→Option (Int×(List aD)))
abbrev rh:Cx:=⟨Tryz.prog,69,M,w0⟩
abbrev rL:=bodyPost Tryz.prog Tryz.f175 (bA M w0 (fun v s=>v=.tup []∧cj s.o [(1,[iI r.1]),(2,[.fno 175 [.ptr 1 0,.ptr 2 0,.ptr 3 0]]),(3,[.ref 9])]∧look 9 s.r=some ⟨210,5,lm am r.2⟩))
abbrev wA(ks:List aq)(s:AS):=VE (rh M w0) (rL M w0 r) ks .normal s
abbrev fO(n:Nat):aq:=.c (cat Tryz.f175 (pn n))
abbrev BZ:List aq:=[.b 0]
abbrev kO:List aq:=kl (rh M w0) (rL M w0 r) BZ (cat Tryz.f175 (pn 12)) m1::BZ
abbrev Ck:List aq:=.b 3 :: .b 2 :: .b 1::fO 103::kO M w0 r m1
abbrev CM:List aq:=kl (rh M w0) (rL M w0 r) (Ck M w0 r m1) (cat Tryz.f175 (pn 26867700)) m2::(Ck M w0 r m1)
def PA:AS:=⟨[(0,.sl (lm aR v1)),(1,.ptr 1 0),(2,.ptr 2 0),(3,.ptr 3 0),(10,iI (v1.length:Int)),(11,iI v23)],[(1,[iI v43]),(2,[.fno 175 [.ptr 1 0,.ptr 2 0,.ptr 3 0]]),(3,[.ref 9])],[(9,⟨210,5,lm am v44⟩)],[1,2,3,9,1000001,1,1000002,2,1000003,3]⟩
def Oq:AS:=⟨[(0,.sl (lm aR v1)),(1,.ptr 1 0),(2,.ptr 2 0),(3,.ptr 3 0),(10,iI (v1.length:Int)),(11,iI v23)],[(1,[iI v41]),(2,[.fno 175 [.ptr 1 0,.ptr 2 0,.ptr 3 0]]),(3,[.ref 9])],[(9,⟨210,5,lm am v42⟩)],[1,2,3,9,1000001,1,1000002,2,1000003,3]⟩
def DW:AS:=⟨[(0,.sl (lm aR v1)),(1,.ptr 1 0),(2,.ptr 2 0),(3,.ptr 3 0),(6,.cptr (av (gD v1 v23))),(10,iI (v1.length:Int)),(11,iI v23),(58,.sit 320058 v32 ((gD v1 v23).Text) v36)],[(1,[iI (ab (v24+1))]),(2,[.fno 175 [.ptr 1 0,.ptr 2 0,.ptr 3 0]]),(3,[.ref 9])],[(9,⟨210,5,lm am v37⟩)],[1,2,3,9,320058,1000001,1,1000002,2,1000003,3]⟩
def Fe:AS:=⟨[(0,.sl (lm aR v1)),(1,.ptr 1 0),(2,.ptr 2 0),(3,.ptr 3 0),(10,iI (v1.length:Int)),(11,iI v23)],[(1,[iI v24]),(2,[.fno 175 [.ptr 1 0,.ptr 2 0,.ptr 3 0]]),(3,[.ref 9])],[(9,⟨210,5,lm am v25⟩)],[1,2,3,9,1000001,1,1000002,2,1000003,3]⟩
abbrev nh:Prop:=∀{v23:Int} {v24:Int} {v25:(List aD)},L1 v23 v24 v25=some r→LP (rh M w0) (rL M w0 r) BZ (cat Tryz.f175 (pn 12)) m1 (Fe v1 v23 v24 v25)
abbrev EB:Prop:=∀{v36:Nat} {v37:(List aD)},L2 v36 v37=some r→LP (rh M w0) (rL M w0 r) (Ck M w0 r m1) (cat Tryz.f175 (pn 26867700)) m2 (DW v1 v23 v24 v32 v36 v37)
variable{M w0 r v1 v2 v3 v10 v23 v24 v25 v32 v36 v37 v41 v42 v43 v44 m1 m2 L1 L2}{K:Kn}{n:Nat}
theorem GB(hK:ao K)(hL1:nh M w0 r v1 m1 L1)(h:jx K n v1 v23 L1 v43 v44=some r):wA M w0 r (fO 103::kO M w0 r m1) (PA v1 v23 v43 v44):=by
 unfold jx at h;exact ae 1 (bz (hL1 h))
theorem qI(hK:ao K)(hL1:nh M w0 r v1 m1 L1)(h:gM K n v1 v23 L1 v41 v42=some r):wA M w0 r (.b 2 :: .b 1::fO 103::kO M w0 r m1) (Oq v1 v23 v41 v42):=by
 unfold gM at h;exact ae 2 (GB hK hL1 h)
theorem MH(hK:ao K)(hv32:w0.w.heap.size≤v32)(hL1:nh M w0 r v1 m1 L1)(hL2:EB M w0 r v1 v23 v24 v32 m1 m2 L2)(h:oq K n v1 v23 v24 L1 L2 v36 v37=some r):wA M w0 r (fO 26867700::CM M w0 r m1 m2) (DW v1 v23 v24 v32 v36 v37):=by
 unfold oq at h;refine aC 2 3 1 (aj 0 ?_);obtain⟨h43,h⟩|⟨h43,h⟩:=ak h
 ·refine ye 58 (id:=320058) (g:=v32) h43 hv32 (ac ?_);obtain⟨v38,h44,h⟩:=ci h;obtain⟨v39,h45,h⟩:=ci h;refine bR (ks':=fO 429883213 :: .b 4::CM M w0 r m1 m2) 6 ⟨[(0,.sl (lm aR v1)),(1,.ptr 1 0),(2,.ptr 2 0),(3,.ptr 3 0),(6,.cptr (av (gD v1 v23))),(8,.int .i32 v38),(10,iI (v1.length:Int)),(11,iI v23),(58,.sit 320058 v32 ((gD v1 v23).Text) v39)],[(1,[iI (ab (v24+1))]),(2,[.fno 175 [.ptr 1 0,.ptr 2 0,.ptr 3 0]]),(3,[.ref 9])],[(9,⟨210,5,lm am v37⟩)],[1,2,3,9,320058,1000001,1,1000002,2,1000003,3]⟩ ?_ (by subst h45;subst h44;kernel_rfl);refine aj 5 ?_;obtain⟨v40,h46,h⟩:=bind_some h;exact gE 9 9 [] (KT hK h46) (ac (ae 1 (bz (hL2 h))))
 ·exact Bi 58 (id:=320058) (g:=v32) h43 (ac (ae 6 (qI hK hL1 h)))
theorem UY(hK:ao K)(hv32:w0.w.heap.size≤v32)(hL1:nh M w0 r v1 m1 L1)(m:Nat):EB M w0 r v1 v23 v24 v32 m1 m (nW K n v1 v23 v24 L1 m):=by
 induction m with
 | zero=>intro v36 v37 h;cases h
 | succ m ih=>intro v36 v37 h;have h:oq K n v1 v23 v24 L1 (nW K n v1 v23 v24 L1 m) v36 v37=some r:=h;exact bB (MH hK hv32 hL1 ih h)
theorem Wa(hK:ao K)(hL1:nh M w0 r v1 m1 L1)(h:nN K n v1 L1 v23 v24 v25=some r):wA M w0 r (fO 12::kO M w0 r m1) (Fe v1 v23 v24 v25):=by
 unfold nN at h;refine aC 6 7 3 ?_;obtain⟨h24,h⟩|⟨h24,h⟩:=ak h
 ·refine ah 12 h24 (c8 18 19 1 3 7 (aj 2 ?_));obtain⟨h25,h⟩:=aF h;refine az (bi aR av h25 (dY) (dp)) (ac (bN 4 5 3 2 (aj 3 ?_)));obtain⟨v26,h26,h⟩:=bind_some h;refine aS (D6 hK h26) (ac ?_);obtain⟨h27,h⟩|⟨h27,h⟩:=ak h
  ·exact ah 21 h27 (ae 4 (GB hK hL1 h))
  ·refine ah 21 h27 ?_;obtain⟨v27,h28,h⟩:=ci h;refine bR (ks':=fO 26237 :: .b 2 :: .b 1::fO 103::kO M w0 r m1) 9 ⟨[(0,.sl (lm aR v1)),(1,.ptr 1 0),(2,.ptr 2 0),(3,.ptr 3 0),(6,.cptr (av (gD v1 v23))),(10,iI (v1.length:Int)),(11,iI v23),(27,iI ((gD v1 v23).Kind)),(28,.bool v27)],[(1,[iI (ab (v24+1))]),(2,[.fno 175 [.ptr 1 0,.ptr 2 0,.ptr 3 0]]),(3,[.ref 9])],[(9,⟨210,5,lm am v25⟩)],[1,2,3,9,1000001,1,1000002,2,1000003,3]⟩ ?_ (by subst h28;kernel_rfl);obtain⟨h29,h⟩|⟨h29,h⟩:=ak h
   ·refine ah 28 h29 (bh 2 1 (bJ [0,1,2,3,6,10,11] [1,2,3] [9] (Uh 5 0 [(30,.fno 175 [.ptr 1 0,.ptr 2 0,.ptr 3 0]),(31,.cptr (av (gD v1 v23))),(32,.cptr (av (gD v1 v23))),(33,.cptr (List.drop 58 (av (gD v1 v23)))),(34,.sl (lm aR ((gD v1 v23).Kids)))] [] [] [] (ay (vz 5) (uQ)) ?_)));obtain⟨v28,h30,h⟩:=bind_some h;exact gE 9 9 [(1,1),(2,2),(3,3)] (hK.tY h30) (ac (ae 0 (qI hK hL1 h)))
   ·refine ah 28 h29 ?_;obtain⟨v29,h31,h⟩:=ci h;refine bR (ks':=fO 104951 :: .b 2 :: .b 1::fO 103::kO M w0 r m1) 3 ⟨[(0,.sl (lm aR v1)),(1,.ptr 1 0),(2,.ptr 2 0),(3,.ptr 3 0),(6,.cptr (av (gD v1 v23))),(10,iI (v1.length:Int)),(11,iI v23),(27,iI ((gD v1 v23).Kind)),(36,.bool v29)],[(1,[iI (ab (v24+1))]),(2,[.fno 175 [.ptr 1 0,.ptr 2 0,.ptr 3 0]]),(3,[.ref 9])],[(9,⟨210,5,lm am v25⟩)],[1,2,3,9,1000001,1,1000002,2,1000003,3]⟩ ?_ (by subst h31;kernel_rfl);obtain⟨h32,h⟩|⟨h32,h⟩:=ak h
    ·refine ah 36 h32 (bh 2 1 (aj 5 ?_));obtain⟨h33,h⟩:=aF h;exact az (cy 43 9 210 5 am (rfl) (cn) h33) (ac (ae 0 (qI hK hL1 h)))
    ·refine ah 36 h32 ?_;obtain⟨v30,h34,h⟩:=ci h;refine bR (ks':=fO 419807 :: .b 2 :: .b 1::fO 103::kO M w0 r m1) 3 ⟨[(0,.sl (lm aR v1)),(1,.ptr 1 0),(2,.ptr 2 0),(3,.ptr 3 0),(6,.cptr (av (gD v1 v23))),(10,iI (v1.length:Int)),(11,iI v23),(27,iI ((gD v1 v23).Kind)),(44,.bool v30)],[(1,[iI (ab (v24+1))]),(2,[.fno 175 [.ptr 1 0,.ptr 2 0,.ptr 3 0]]),(3,[.ref 9])],[(9,⟨210,5,lm am v25⟩)],[1,2,3,9,1000001,1,1000002,2,1000003,3]⟩ ?_ (by subst h34;kernel_rfl);obtain⟨h35,h⟩|⟨h35,h⟩:=ak h
     ·refine ah 44 h35 (bh 2 1 (aj 5 ?_));obtain⟨h36,h⟩:=aF h;exact az (cy 51 9 210 5 am (rfl) (cn) h36) (ac (ae 0 (qI hK hL1 h)))
     ·refine ah 44 h35 ?_;obtain⟨v31,h37,h⟩:=ci h;refine bR (ks':=fO 1679231 :: .b 2 :: .b 1::fO 103::kO M w0 r m1) 3 ⟨[(0,.sl (lm aR v1)),(1,.ptr 1 0),(2,.ptr 2 0),(3,.ptr 3 0),(6,.cptr (av (gD v1 v23))),(10,iI (v1.length:Int)),(11,iI v23),(52,.bool v31)],[(1,[iI (ab (v24+1))]),(2,[.fno 175 [.ptr 1 0,.ptr 2 0,.ptr 3 0]]),(3,[.ref 9])],[(9,⟨210,5,lm am v25⟩)],[1,2,3,9,1000001,1,1000002,2,1000003,3]⟩ ?_ (by subst h37;kernel_rfl);obtain⟨h38,h⟩|⟨h38,h⟩:=ak h
      ·exact ah 52 h38 (aC 4 5 2 (aj 4 (Ar 320058 (b:=((gD v1 v23).Text)) fun v32 hv32=>(ac (ae 1 (cg (p:=pn 13433850) n (UY hK (v32:=v32) hv32 hL1 n h)))))))
      ·exact ah 52 h38 (ae 2 (qI hK hL1 h))
 ·refine ah 12 h24 (bK (ks':=[]) 5 (A3 ?_));cases h;exact lC
theorem Pj(hK:ao K)(m:Nat):nh M w0 r v1 m (lH K n v1 m):=by
 induction m with
 | zero=>intro v23 v24 v25 h;cases h
 | succ m ih=>intro v23 v24 v25 h;have h:nN K n v1 (lH K n v1 m) v23 v24 v25=some r:=h;exact bB (Wa hK ih h)
theorem G8(hK:ao K)(h:js K n v1 v2 v3=some r):f8 Tryz.prog 175 [.sl (lm aR v1),.ptr 1 0,.ptr 2 0,.ptr 3 0] [(1,[iI v2]),(2,[.fno 175 [.ptr 1 0,.ptr 2 0,.ptr 3 0]]),(3,[.ref 9])] 9 ⟨210,5,lm am v3⟩ [9,1,2,3,1000001,1000002,1000003] (fun v s=>v=.tup []∧cj s.o [(1,[iI r.1]),(2,[.fno 175 [.ptr 1 0,.ptr 2 0,.ptr 3 0]]),(3,[.ref 9])]∧look 9 s.r=some ⟨210,5,lm am r.2⟩):=by
 refine jO (c:=cat Tryz.f175 (pn 1)) Tryz.func175 (by kernel_rfl) _ Tryz.ntmps175 (of_decide_eq_true (by kernel_rfl)) fun M w0=>(bd ⟨[(0,.sl (lm aR v1)),(1,.ptr 1 0),(2,.ptr 2 0),(3,.ptr 3 0)],[(1,[iI v2]),(2,[.fno 175 [.ptr 1 0,.ptr 2 0,.ptr 3 0]]),(3,[.ref 9])],[(9,⟨210,5,lm am v3⟩)],[9,1,2,3,1000001,1000002,1000003]⟩ ?_);unfold js at h;exact aC 2 3 1 (aj 1 (az (bu aR v1) (ac (ae 1 (cg (p:=pn 6) n (Pj hK n h))))))
end
noncomputable section
variable[GS](M:Nat→Prop)(w0:aE)(r:List aD)(v1:List aa)  
variable{M w0 r v1}{K:Kn}{n:Nat}
theorem yQ(hK:ao K)(h:mD K n v1=some r):aU Tryz.prog 154 [.sl (lm aR v1)] (fun v s=>v=.ref 400003∧look 400003 s.r=some ⟨210,5,lm am r⟩):=by
 refine bv (cat Tryz.f154 (pn 1)) Tryz.func154 Tryz.ntmps154 fun M w0=>(bd ⟨[(0,.sl (lm aR v1))],[],[],[]⟩ ?_);unfold mD at h;refine aC 62 63 9 (aj 0 (mE 175 #[(.tmp 4),(.tmp 5),(.tmp 3)] [.ptr 4 0,.ptr 5 0,.ptr 3 0] (ac (aC 2 3 1 (aj 2 (vr 400003 3 0 210 5 ?_))))));obtain⟨v2,h1,h⟩:=bind_some h;refine gE 400003 9 [(4,1),(5,2),(3,3)] (G8 hK h1) (ac (aL 3 ?_));cases h;exact fd
end
noncomputable section
variable[GS](M:Nat→Prop)(w0:aE)(r:Bool)(v1:aD)(v2:Bool)  
abbrev OU(n:Nat):aq:=.c (cat Tryz.f177 (pn n))
abbrev L5:Cx:=⟨Tryz.prog,24,M,w0⟩
abbrev LV:=bodyPost Tryz.prog Tryz.f177 (bA M w0 (fun v _=>v=.bool r))
abbrev Rw(ks:List aq)(s:AS):=VE (L5 M w0) (LV M w0 r) ks .normal s
def Mi:AS:=⟨[(2,.bool v2)],[],[],[]⟩
variable{M w0 r v1 v2}{K:Kn}{n:Nat}
theorem xC(hK:ao K)(h:nF K n v2=some r):Rw M w0 r [OU 7] (Mi v2):=by
 unfold nF at h;refine aL 1 ?_;cases h;exact bj
theorem sE(hK:ao K)(h:jE K n v1=some r):aU Tryz.prog 177 [.agg (am v1)] (fun v _=>v=.bool r):=by
 refine bv (cat Tryz.f177 (pn 1)) Tryz.func177 Tryz.ntmps177 fun M w0=>(bd ⟨[(0,.agg (am v1))],[],[],[]⟩ ?_);unfold jE at h;refine aC 6 7 3 (aj 4 ?_);obtain⟨h1,h⟩|⟨h1,h⟩:=ak h
 ·refine aB 6 h1 (aM 13 9 ?_);obtain⟨h2,h⟩|⟨h2,h⟩:=ak h
  ·exact aB 15 h2 (ac (ae 0 (xC hK h)))
  ·exact aB 15 h2 (ac (ae 0 (xC hK h)))
 ·exact aB 6 h1 (ac (ae 0 (xC hK h)))
end
noncomputable section
variable[GS](M:Nat→Prop)(w0:aE)(r v1:Int)(v2 v3 v4 v5 v6:Bool)  
abbrev fc(n:Nat):aq:=.c (cat Tryz.f188 (pn n))
abbrev SB:Cx:=⟨Tryz.prog,73,M,w0⟩
abbrev Uj:=bodyPost Tryz.prog Tryz.f188 (bA M w0 (fun v _=>v=iI r))
abbrev ss(ks:List aq)(s:AS):=VE (SB M w0) (Uj M w0 r) ks .normal s
def Tm:AS:=⟨[(72,.bool v6)],[],[],[]⟩
def Sx:AS:=⟨[(0,.int .i32 v1),(60,.bool v5)],[],[],[]⟩
def OB:AS:=⟨[(0,.int .i32 v1),(29,.int .i32 v1),(44,.bool v4)],[],[],[]⟩
def Ms:AS:=⟨[(0,.int .i32 v1),(29,.int .i32 v1),(30,.bool v3)],[],[],[]⟩
def M5:AS:=⟨[(0,.int .i32 v1),(3,.bool v2)],[],[],[]⟩
variable{M w0 r v1 v2 v3 v4 v5 v6}{K:Kn}{n:Nat}
theorem FT(hK:ao K)(h:sT K n v6=some r):ss M w0 r [fc 61,fc 31] (Tm v6):=by
 unfold sT at h;obtain⟨h44,h⟩|⟨h44,h⟩:=ak h
 ·refine ah 72 h44 (aL 5 ?_);cases h;exact bj
 ·refine ah 72 h44 (aL 5 ?_);cases h;exact bj
theorem ny(hK:ao K)(h:jm K n v1 v5=some r):ss M w0 r [fc 1887,.b 1,fc 15] (Sx v1 v5):=by
 unfold jm at h;obtain⟨h42,h⟩|⟨h42,h⟩:=ak h
 ·refine ah 60 h42 (aL 6 ?_);cases h;exact bj
 ·refine ah 60 h42 (bK (ks':=[fc 60,fc 61,fc 31]) 5 (aj 3 ?_));obtain⟨h43,h⟩|⟨h43,h⟩:=ak h
  ·exact aB 69 h43 (ac (ae 0 (FT hK h)))
  ·exact aB 69 h43 (ac (ae 0 (FT hK h)))
theorem fz(hK:ao K)(h:ep K n v1 v4=some r):ss M w0 r [fc 471,.b 1,fc 15] (OB v1 v4):=by
 unfold ep at h;obtain⟨h36,h⟩|⟨h36,h⟩:=ak h
 ·refine ah 44 h36 (aL 6 ?_);cases h;exact bj
 ·refine ah 44 h36 (aC 13 7 4 ?_);obtain⟨h37,h⟩|⟨h37,h⟩:=ak h
  ·exact ah 60 h37 (ae 2 (ny hK h))
  ·refine ah 60 h37 (bh 7 3 ?_);obtain⟨h38,h⟩|⟨h38,h⟩:=ak h
   ·exact ah 60 h38 (ae 2 (ny hK h))
   ·refine ah 60 h38 (bh 7 3 ?_);obtain⟨h39,h⟩|⟨h39,h⟩:=ak h
    ·exact ah 60 h39 (ae 2 (ny hK h))
    ·refine ah 60 h39 (bh 7 3 ?_);obtain⟨h40,h⟩|⟨h40,h⟩:=ak h
     ·exact ah 60 h40 (ae 2 (ny hK h))
     ·refine ah 60 h40 (bh 7 3 ?_);obtain⟨h41,h⟩|⟨h41,h⟩:=ak h
      ·exact ah 60 h41 (ae 2 (ny hK h))
      ·exact ah 60 h41 (ae 2 (ny hK h))
theorem gg(hK:ao K)(h:eY K n v1 v3=some r):ss M w0 r [fc 117,.b 1,fc 15] (Ms v1 v3):=by
 unfold eY at h;obtain⟨h21,h⟩|⟨h21,h⟩:=ak h
 ·refine ah 30 h21 (aL 6 ?_);cases h;exact bj
 ·refine ah 30 h21 (aC 13 7 4 ?_);obtain⟨h22,h⟩|⟨h22,h⟩:=ak h
  ·exact ah 44 h22 (ae 2 (fz hK h))
  ·refine ah 44 h22 (bh 7 3 ?_);obtain⟨h23,h⟩|⟨h23,h⟩:=ak h
   ·exact ah 44 h23 (ae 2 (fz hK h))
   ·refine ah 44 h23 (bh 7 3 ?_);obtain⟨h24,h⟩|⟨h24,h⟩:=ak h
    ·exact ah 44 h24 (ae 2 (fz hK h))
    ·refine ah 44 h24 (bh 7 3 ?_);obtain⟨h25,h⟩|⟨h25,h⟩:=ak h
     ·exact ah 44 h25 (ae 2 (fz hK h))
     ·refine ah 44 h25 (bh 7 3 ?_);obtain⟨h26,h⟩|⟨h26,h⟩:=ak h
      ·exact ah 44 h26 (ae 2 (fz hK h))
      ·refine ah 44 h26 (bh 7 3 ?_);obtain⟨h27,h⟩|⟨h27,h⟩:=ak h
       ·exact ah 44 h27 (ae 2 (fz hK h))
       ·refine ah 44 h27 (bh 7 3 ?_);obtain⟨h28,h⟩|⟨h28,h⟩:=ak h
        ·exact ah 44 h28 (ae 2 (fz hK h))
        ·refine ah 44 h28 (bh 7 3 ?_);obtain⟨h29,h⟩|⟨h29,h⟩:=ak h
         ·exact ah 44 h29 (ae 2 (fz hK h))
         ·refine ah 44 h29 (bh 7 3 ?_);obtain⟨h30,h⟩|⟨h30,h⟩:=ak h
          ·exact ah 44 h30 (ae 2 (fz hK h))
          ·refine ah 44 h30 (bh 7 3 ?_);obtain⟨h31,h⟩|⟨h31,h⟩:=ak h
           ·exact ah 44 h31 (ae 2 (fz hK h))
           ·refine ah 44 h31 (bh 7 3 ?_);obtain⟨h32,h⟩|⟨h32,h⟩:=ak h
            ·exact ah 44 h32 (ae 2 (fz hK h))
            ·refine ah 44 h32 (bh 7 3 ?_);obtain⟨h33,h⟩|⟨h33,h⟩:=ak h
             ·exact ah 44 h33 (ae 2 (fz hK h))
             ·refine ah 44 h33 (bh 7 3 ?_);obtain⟨h34,h⟩|⟨h34,h⟩:=ak h
              ·exact ah 44 h34 (ae 2 (fz hK h))
              ·refine ah 44 h34 (bh 7 3 ?_);obtain⟨h35,h⟩|⟨h35,h⟩:=ak h
               ·exact ah 44 h35 (ae 2 (fz hK h))
               ·exact ah 44 h35 (ae 2 (fz hK h))
theorem lW(hK:ao K)(h:iP K n v1 v2=some r):ss M w0 r [fc 25,.b 0,fc 7] (M5 v1 v2):=by
 unfold iP at h;obtain⟨h7,h⟩|⟨h7,h⟩:=ak h
 ·refine ah 3 h7 (aL 6 ?_);cases h;exact bj
 ·refine ah 3 h7 (bh 7 3 ?_);obtain⟨h8,h⟩|⟨h8,h⟩:=ak h
  ·refine ah 26 h8 (aL 6 ?_);cases h;exact bj
  ·refine ah 26 h8 (bK (ks':=[fc 233,fc 117,.b 1,fc 15]) 10 ?_);obtain⟨h9,h⟩|⟨h9,h⟩:=ak h
   ·exact ah 30 h9 (ae 2 (gg hK h))
   ·refine ah 30 h9 (bh 7 3 ?_);obtain⟨h10,h⟩|⟨h10,h⟩:=ak h
    ·exact ah 30 h10 (ae 2 (gg hK h))
    ·refine ah 30 h10 (bh 7 3 ?_);obtain⟨h11,h⟩|⟨h11,h⟩:=ak h
     ·exact ah 30 h11 (ae 2 (gg hK h))
     ·refine ah 30 h11 (bh 7 3 ?_);obtain⟨h12,h⟩|⟨h12,h⟩:=ak h
      ·exact ah 30 h12 (ae 2 (gg hK h))
      ·refine ah 30 h12 (bh 7 3 ?_);obtain⟨h13,h⟩|⟨h13,h⟩:=ak h
       ·exact ah 30 h13 (ae 2 (gg hK h))
       ·refine ah 30 h13 (bh 7 3 ?_);obtain⟨h14,h⟩|⟨h14,h⟩:=ak h
        ·exact ah 30 h14 (ae 2 (gg hK h))
        ·refine ah 30 h14 (bh 7 3 ?_);obtain⟨h15,h⟩|⟨h15,h⟩:=ak h
         ·exact ah 30 h15 (ae 2 (gg hK h))
         ·refine ah 30 h15 (bh 7 3 ?_);obtain⟨h16,h⟩|⟨h16,h⟩:=ak h
          ·exact ah 30 h16 (ae 2 (gg hK h))
          ·refine ah 30 h16 (bh 7 3 ?_);obtain⟨h17,h⟩|⟨h17,h⟩:=ak h
           ·exact ah 30 h17 (ae 2 (gg hK h))
           ·refine ah 30 h17 (bh 7 3 ?_);obtain⟨h18,h⟩|⟨h18,h⟩:=ak h
            ·exact ah 30 h18 (ae 2 (gg hK h))
            ·refine ah 30 h18 (bh 7 3 ?_);obtain⟨h19,h⟩|⟨h19,h⟩:=ak h
             ·exact ah 30 h19 (ae 2 (gg hK h))
             ·refine ah 30 h19 (bh 7 3 ?_);obtain⟨h20,h⟩|⟨h20,h⟩:=ak h
              ·exact ah 30 h20 (ae 2 (gg hK h))
              ·exact ah 30 h20 (ae 2 (gg hK h))
theorem IM(hK:ao K)(h:ik K n v1=some r):aU Tryz.prog 188 [.int .i32 v1] (fun v _=>v=iI r):=by
 refine bv (cat Tryz.f188 (pn 1)) Tryz.func188 Tryz.ntmps188 fun M w0=>(bd ⟨[(0,.int .i32 v1)],[],[],[]⟩ ?_);unfold ik at h;refine dP 24 25 0 7 5 (aj 3 ?_);obtain⟨h1,h⟩|⟨h1,h⟩:=ak h
 ·exact aB 6 h1 (ac (ae 0 (lW hK h)))
 ·refine aB 6 h1 (aM 7 4 ?_);obtain⟨h2,h⟩|⟨h2,h⟩:=ak h
  ·exact aB 10 h2 (ac (ae 0 (lW hK h)))
  ·refine aB 10 h2 (aM 10 3 ?_);obtain⟨h3,h⟩|⟨h3,h⟩:=ak h
   ·refine aB 13 h3 (aM 15 5 ?_);obtain⟨h4,h⟩|⟨h4,h⟩:=ak h
    ·exact aB 18 h4 (ac (ae 0 (lW hK h)))
    ·refine aB 18 h4 (aM 18 3 ?_);obtain⟨h5,h⟩|⟨h5,h⟩:=ak h
     ·exact aB 21 h5 (ac (ae 0 (lW hK h)))
     ·exact aB 21 h5 (ac (ae 0 (lW hK h)))
   ·refine aB 13 h3 (aM 18 8 ?_);obtain⟨h6,h⟩|⟨h6,h⟩:=ak h
    ·exact aB 21 h6 (ac (ae 0 (lW hK h)))
    ·exact aB 21 h6 (ac (ae 0 (lW hK h)))
end
noncomputable section
variable[GS](M:Nat→Prop)(w0:aE)(r:Bool)(v1:Int)(v2:Bool)  
abbrev C5(n:Nat):aq:=.c (cat Tryz.f193 (pn n))
abbrev V0:Cx:=⟨Tryz.prog,9,M,w0⟩
abbrev Rt:=bodyPost Tryz.prog Tryz.f193 (bA M w0 (fun v _=>v=.bool r))
abbrev Mv(ks:List aq)(s:AS):=VE (V0 M w0) (Rt M w0 r) ks .normal s
def RM:AS:=⟨[(4,.bool v2)],[],[],[]⟩
variable{M w0 r v1 v2}{K:Kn}{n:Nat}
theorem vK(hK:ao K)(h:md K n v2=some r):Mv M w0 r [C5 53,.b 0,C5 7] (RM v2):=by
 unfold md at h;obtain⟨h4,h⟩|⟨h4,h⟩:=ak h
 ·refine ah 4 h4 (aL 6 ?_);cases h;exact bj
 ·refine ah 4 h4 (aL 6 ?_);cases h;exact bj
theorem E0(hK:ao K)(h:oO K n v1=some r):aU Tryz.prog 193 [.int .i32 v1] (fun v _=>v=.bool r):=by
 refine bv (cat Tryz.f193 (pn 1)) Tryz.func193 Tryz.ntmps193 fun M w0=>(bd ⟨[(0,.int .i32 v1)],[],[],[]⟩ ?_);unfold oO at h;refine dP 105 53 0 7 9 ?_;obtain⟨h1,h⟩|⟨h1,h⟩:=ak h
 ·exact ah 4 h1 (ae 2 (vK hK h))
 ·refine ah 4 h1 (bh 7 3 ?_);obtain⟨h2,h⟩|⟨h2,h⟩:=ak h
  ·exact ah 4 h2 (ae 2 (vK hK h))
  ·refine ah 4 h2 (bh 7 3 ?_);obtain⟨h3,h⟩|⟨h3,h⟩:=ak h
   ·exact ah 4 h3 (ae 2 (vK hK h))
   ·exact ah 4 h3 (ae 2 (vK hK h))
end
noncomputable section
variable[GS](M:Nat→Prop)(w0:aE)(r:Bool)(v1 v2:Int)(v5 v7 v8:Bool)  
abbrev mA(n:Nat):aq:=.c (cat Tryz.f186 (pn n))
abbrev MI:Cx:=⟨Tryz.prog,29,M,w0⟩
abbrev LA:=bodyPost Tryz.prog Tryz.f186 (bA M w0 (fun v _=>v=.bool r))
abbrev yn(ks:List aq)(s:AS):=VE (MI M w0) (LA M w0 r) ks .normal s
def QQ:AS:=⟨[(4,.bool v8)],[],[],[]⟩
def RO:AS:=⟨[(0,.int .i32 v1),(1,.int .i32 v2),(16,.bool v7)],[],[],[]⟩
def RL:AS:=⟨[(0,.int .i32 v1),(1,.int .i32 v2),(5,.bool v5)],[],[],[]⟩
variable{M w0 r v1 v2 v5 v7 v8}{K:Kn}{n:Nat}
theorem I3(hK:ao K)(h:rP K n v8=some r):yn M w0 r [mA 15] (QQ v8):=by
 unfold rP at h;refine aL 1 ?_;cases h;exact bj
theorem Fg(hK:ao K)(h:s7 K n v1 v2 v7=some r):yn M w0 r [mA 415,.b 0,mA 7] (RO v1 v2 v7):=by
 unfold s7 at h;obtain⟨h8,h⟩|⟨h8,h⟩:=ak h
 ·refine ah 16 h8 (aL 6 ?_);cases h;exact bj
 ·refine ah 16 h8 (bK (ks':=[mA 14,mA 15]) 4 (aj 3 ?_));obtain⟨h9,h⟩|⟨h9,h⟩:=ak h
  ·exact aB 25 h9 (ac (ae 0 (I3 hK h)))
  ·exact aB 25 h9 (ac (ae 0 (I3 hK h)))
theorem EN(hK:ao K)(h:l5 K n v1 v2 v5=some r):yn M w0 r [mA 25,.b 0,mA 7] (RL v1 v2 v5):=by
 unfold l5 at h;obtain⟨h4,h⟩|⟨h4,h⟩:=ak h
 ·refine ah 5 h4 (aL 6 ?_);cases h;exact bj
 ·refine ah 5 h4 (aC 6 7 2 (aj 1 ?_));obtain⟨v6,h5,h⟩:=bind_some h;refine aS (E0 hK h5) (ac ?_);obtain⟨h6,h⟩|⟨h6,h⟩:=ak h
  ·refine ah 13 h6 (aL 6 ?_);cases h;exact bj
  ·refine ah 13 h6 (aC 6 7 2 (aj 3 ?_));obtain⟨h7,h⟩|⟨h7,h⟩:=ak h
   ·exact aB 19 h7 (ac (ae 0 (Fg hK h)))
   ·exact aB 19 h7 (ac (ae 0 (Fg hK h)))
theorem Ri(hK:ao K)(h:sV K n v1 v2=some r):aU Tryz.prog 186 [.int .i32 v1,.int .i32 v2] (fun v _=>v=.bool r):=by
 refine bv (cat Tryz.f186 (pn 1)) Tryz.func186 Tryz.ntmps186 fun M w0=>(bd ⟨[(0,.int .i32 v1),(1,.int .i32 v2)],[],[],[]⟩ ?_);unfold sV at h;refine dP 24 25 0 7 5 (aj 1 ?_);obtain⟨v3,h1,h⟩:=bind_some h;refine aS (E0 hK h1) (aM 3 1 ?_);obtain⟨h2,h⟩|⟨h2,h⟩:=ak h
 ·exact aB 8 h2 (ac (ae 0 (EN hK h)))
 ·refine aB 8 h2 (aM 4 1 ?_);obtain⟨v4,h3,h⟩:=bind_some h;exact aS (IM hK h3) (ac (ae 0 (EN hK h)))
end
noncomputable section
variable[GS](M:Nat→Prop)(w0:aE)(r:List Int)(v1:ByteArray)(v2:Nat)(v9:Int)(v10:Nat)(v11:List Int)(v13:Bool)(v14:List Int)(m1:Nat)(L1:Int→Nat→(List Int)→Option (List Int))
abbrev Ap:Cx:=⟨Tryz.prog,26,M,w0⟩
abbrev zZ:=bodyPost Tryz.prog Tryz.f178 (bA M w0 (fun v s=>v=.ref 23∧look 23 s.r=some ⟨3,1,lm (ba .i64) r⟩))
abbrev yi(ks:List aq)(s:AS):=VE (Ap M w0) (zZ M w0 r) ks .normal s
abbrev km(n:Nat):aq:=.c (cat Tryz.f178 (pn n))
abbrev zB:List aq:=[.b 0,km 31]
abbrev wE:List aq:=kl (Ap M w0) (zZ M w0 r) zB (cat Tryz.f178 (pn 244)) m1::zB
def Pw:AS:=⟨[(3,.ref 23),(6,.int .i32 ((Utf8.decode v1 v10).1:Int)),(8,.sit 320008 v2 v1 (v10+(Utf8.decode v1 v10).2))],[],[(23,⟨3,1,lm (ba .i64) v14⟩)],[23,320008]⟩
def RT:AS:=⟨[(3,.ref 23),(5,iI ((v10:Nat):Int)),(6,.int .i32 ((Utf8.decode v1 v10).1:Int)),(8,.sit 320008 v2 v1 (v10+(Utf8.decode v1 v10).2)),(19,.bool v13)],[],[(23,⟨3,1,lm (ba .i64) v11⟩)],[23,320008]⟩
def Kl:AS:=⟨[(3,.ref 23),(4,.int .i32 v9),(8,.sit 320008 v2 v1 v10)],[],[(23,⟨3,1,lm (ba .i64) v11⟩)],[23,320008]⟩
abbrev vV:Prop:=∀{v9:Int} {v10:Nat} {v11:(List Int)},L1 v9 v10 v11=some r→LP (Ap M w0) (zZ M w0 r) zB (cat Tryz.f178 (pn 244)) m1 (Kl v1 v2 v9 v10 v11)
variable{M w0 r v1 v2 v9 v10 v11 v13 v14 m1 L1}{K:Kn}{n:Nat}
theorem GP(hK:ao K)(hv2:w0.w.heap.size≤v2)(hL1:vV M w0 r v1 v2 m1 L1)(h:lB K n v1 v10 L1 v14=some r):yi M w0 r (km 7835 :: .b 1::wE M w0 r m1) (Pw v1 v2 v10 v14):=by
 unfold lB at h;exact ae 2 (bz (hL1 h))
theorem Ie(hK:ao K)(hv2:w0.w.heap.size≤v2)(hL1:vV M w0 r v1 v2 m1 L1)(h:mF K n v1 v10 v11 L1 v13=some r):yi M w0 r (km 15669::km 7835 :: .b 1::wE M w0 r m1) (RT v1 v2 v10 v11 v13):=by
 unfold mF at h;obtain⟨h14,h⟩|⟨h14,h⟩:=ak h
 ·refine ah 19 h14 (bh 2 1 (aj 3 ?_));obtain⟨h15,h⟩:=aF h;exact az (cy 23 23 3 1 (ba .i64) (rfl) ((fun _=>rfl)) h15) (ac (ae 0 (GP hK (v2:=v2) hv2 hL1 h)))
 ·exact ah 19 h14 (ae 2 (GP hK (v2:=v2) hv2 hL1 h))
theorem Vx(hK:ao K)(hv2:w0.w.heap.size≤v2)(hL1:vV M w0 r v1 v2 m1 L1)(h:iL K n v1 L1 v9 v10 v11=some r):yi M w0 r (km 244::wE M w0 r m1) (Kl v1 v2 v9 v10 v11):=by
 unfold iL at h;refine aC 2 3 1 (aj 0 ?_);obtain⟨h11,h⟩|⟨h11,h⟩:=ak h
 ·refine ye 8 (id:=320008) (g:=v2) h11 hv2 (ac (bK (ks':=km 15668::km 15669::km 7835 :: .b 1::wE M w0 r m1) 8 (aj 3 ?_)));obtain⟨h12,h⟩|⟨h12,h⟩:=ak h
  ·refine aB 15 h12 (aM 5 2 ?_);obtain⟨v12,h13,h⟩:=bind_some h;exact aS (Ri hK h13) (ac (ae 0 (Ie hK (v2:=v2) hv2 hL1 h)))
  ·exact aB 15 h12 (ac (ae 0 (Ie hK (v2:=v2) hv2 hL1 h)))
 ·refine Bi 8 (id:=320008) (g:=v2) h11 (ac (aL 9 ?_));cases h;exact fd
theorem VN(hK:ao K)(hv2:w0.w.heap.size≤v2)(m:Nat):vV M w0 r v1 v2 m (kh K n v1 m):=by
 induction m with
 | zero=>intro v9 v10 v11 h;cases h
 | succ m ih=>intro v9 v10 v11 h;have h:iL K n v1 (kh K n v1 m) v9 v10 v11=some r:=h;exact bB (Vx hK hv2 ih h)
theorem Pd(hK:ao K)(h:qb K n v1=some r):aU Tryz.prog 178 [.str v1] (fun v s=>v=.ref 23∧look 23 s.r=some ⟨3,1,lm (ba .i64) r⟩):=by
 refine bv (cat Tryz.f178 (pn 1)) Tryz.func178 Tryz.ntmps178 fun M w0=>(bd ⟨[(0,.str v1)],[],[],[]⟩ ?_);unfold qb at h;exact bN 60 61 31 8 (aj 1 (Ar 320008 (b:=v1) fun v2 hv2=>(ac (iK 2 0 1 (bJ [3,4,8] [] [] (gh 23 3 3 1 (ae 0 (cg (p:=pn 122) n (VN hK (v2:=v2) hv2 n h)))))))))
end
noncomputable section
variable[GS](M:Nat→Prop)(w0:aE)(r:Bool)(v1 v2:aD)(v3 v7 v10:Bool)  
abbrev oV(n:Nat):aq:=.c (cat Tryz.f155 (pn n))
abbrev Nr:Cx:=⟨Tryz.prog,61,M,w0⟩
abbrev TF:=bodyPost Tryz.prog Tryz.f155 (bA M w0 (fun v _=>v=.bool r))
abbrev xB(ks:List aq)(s:AS):=VE (Nr M w0) (TF M w0 r) ks .normal s
def KG:AS:=⟨[(4,.bool v7)],[],[],[]⟩
def TJ:AS:=⟨[(2,.ptr 2 0),(3,.ptr 3 0),(51,.bool v10)],[(2,am v1),(3,am v2)],[],[2,3]⟩
def TH:AS:=⟨[(2,.ptr 2 0),(3,.ptr 3 0),(12,.bool v3)],[(2,am v1),(3,am v2)],[],[2,3]⟩
variable{M w0 r v1 v2 v3 v7 v10}{K:Kn}{n:Nat}
theorem rJ(hK:ao K)(h:kt K n v7=some r):xB M w0 r [oV 53,oV 7] (KG v7):=by
 unfold kt at h;refine aL 2 ?_;cases h;exact bj
theorem qm(hK:ao K)(h:ip K n v1 v2 v10=some r):xB M w0 r [oV 29,oV 15] (TJ v1 v2 v10):=by
 unfold ip at h;obtain⟨h16,h⟩|⟨h16,h⟩:=ak h
 ·refine ah 51 h16 (aL 5 ?_);cases h;exact bj
 ·refine ah 51 h16 (eV 2 3 3 (aj 6 ?_));obtain⟨v11,h17,h⟩:=bind_some h;refine fU 1058 (Pd hK h17) (fS 23) (az (bu (ba .i64) v11) (ac (aL 1 ?_)));cases h;exact bj
theorem Ej(hK:ao K)(h:kX K n v1 v2 v3=some r):xB M w0 r [oV 13,oV 7] (TH v1 v2 v3):=by
 unfold kX at h;obtain⟨h2,h⟩|⟨h2,h⟩:=ak h
 ·refine ah 12 h2 (aC 4 5 2 (aj 4 ?_));obtain⟨h3,h⟩|⟨h3,h⟩:=ak h
  ·refine aB 16 h3 (aM 12 8 ?_);obtain⟨h4,h⟩|⟨h4,h⟩:=ak h
   ·exact aB 24 h4 (ac (ae 0 (rJ hK h)))
   ·refine aB 24 h4 (aM 13 1 ?_);obtain⟨v4,h5,h⟩:=bind_some h;exact aS (sE hK h5) (ac (ae 0 (rJ hK h)))
  ·refine aB 16 h3 (aM 5 1 ?_);obtain⟨v5,h6,h⟩:=bind_some h;refine aS (sE hK h6) (aM 8 2 ?_);obtain⟨h7,h⟩|⟨h7,h⟩:=ak h
   ·refine aB 20 h7 (aM 12 4 ?_);obtain⟨h8,h⟩|⟨h8,h⟩:=ak h
    ·exact aB 24 h8 (ac (ae 0 (rJ hK h)))
    ·refine aB 24 h8 (aM 13 1 ?_);obtain⟨v6,h9,h⟩:=bind_some h;exact aS (sE hK h9) (ac (ae 0 (rJ hK h)))
   ·exact aB 20 h7 (ac (ae 0 (rJ hK h)))
 ·refine ah 12 h2 (oB 4 5 3 4 (aj 4 ?_));obtain⟨h10,h⟩|⟨h10,h⟩:=ak h
  ·exact aB 32 h10 (ac (ae 0 (qm hK h)))
  ·refine aB 32 h10 (aM 9 5 ?_);obtain⟨h11,h⟩|⟨h11,h⟩:=ak h
   ·exact aB 37 h11 (ac (ae 0 (qm hK h)))
   ·refine aB 37 h11 (aM 10 1 ?_);obtain⟨v8,h12,h⟩:=bind_some h;refine aS (sE hK h12) (aM 14 3 ?_);obtain⟨h13,h⟩|⟨h13,h⟩:=ak h
    ·exact aB 42 h13 (ac (ae 0 (qm hK h)))
    ·refine aB 42 h13 (aM 18 4 ?_);obtain⟨h14,h⟩|⟨h14,h⟩:=ak h
     ·refine aB 46 h14 (aM 19 1 ?_);obtain⟨v9,h15,h⟩:=bind_some h;exact aS (sE hK h15) (ac (ae 0 (qm hK h)))
     ·exact aB 46 h14 (ac (ae 0 (qm hK h)))
theorem nk(hK:ao K)(h:iz K n v1 v2=some r):aU Tryz.prog 155 [.agg (am v1),.agg (am v2)] (fun v _=>v=.bool r):=by
 refine bv (cat Tryz.f155 (pn 1)) Tryz.func155 Tryz.ntmps155 fun M w0=>(bd ⟨[(0,.agg (am v1)),(1,.agg (am v2))],[],[],[]⟩ ?_);unfold iz at h;refine bN 12 13 7 4 (aj 4 ?_);obtain⟨h1,h⟩|⟨h1,h⟩:=ak h
 ·exact aB 8 h1 (ac (ae 0 (Ej hK h)))
 ·exact aB 8 h1 (ac (ae 0 (Ej hK h)))
end
noncomputable section
variable[GS](M:Nat→Prop)(w0:aE)(r v1:Int)  
variable{M w0 r v1}{K:Kn}{n:Nat}
theorem tT(hK:ao K)(h:ls K n v1=some r):aU Tryz.prog 174 [iI v1] (fun v _=>v=iI r):=by
 refine bv (cat Tryz.f174 (pn 1)) Tryz.func174 Tryz.ntmps174 fun M w0=>(bd ⟨[(0,iI v1)],[],[],[]⟩ ?_);unfold ls at h;refine aL 5 ?_;cases h;exact bj
end
noncomputable section
variable[GS](M:Nat→Prop)(w0:aE)(r v1:Int)  
variable{M w0 r v1}{K:Kn}{n:Nat}
theorem CT(hK:ao K)(h:qg K n v1=some r):aU Tryz.prog 152 [iI v1] (fun v _=>v=iI r):=by
 refine bv (cat Tryz.f152 (pn 1)) Tryz.func152 Tryz.ntmps152 fun M w0=>(bd ⟨[(0,iI v1)],[],[],[]⟩ ?_);unfold qg at h;refine aC 6 7 3 (aj 1 ?_);obtain⟨v2,h1,h⟩:=bind_some h;refine aS (tT hK h1) (ac (aL 1 ?_));cases h;exact bj
end
end Go.Proofs.YtocgkfoifehcbaaGreat

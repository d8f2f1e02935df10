/- The runs of the functions that RelayoutChanged reaches do what their plain forms say, part 0. Made by a program. -/
import Derived.Test.YtocgkfoifehcbaaGreatRcGk
namespace Go.Proofs.YtocgkfoifehcbaaGreat
open Go.RowKit
set_option maxRecDepth 20000
set_option linter.all false
set_option linter.unusedVariables false
set_option linter.unusedSimpArgs false
noncomputable section
variable[GS](M:Nat→Prop)(w0:aB)(r:Bool)(v1 v2:(List ah))(v3:Fv)(v5:Int)(m1:Nat)(L1:Int→Option Bool)
abbrev Bc:Cx:=⟨Tryz.prog,32,M,w0⟩
abbrev EV:=bodyPost Tryz.prog Tryz.f63 (bC M w0 (fun v _=>v=.bool r))
abbrev Z9(ks:List ao)(s:AS):=VE (Bc M w0) (EV M w0 r) ks .normal s
abbrev Jd(n:Nat):ao:=.c (cat Tryz.f63 (pn n))
abbrev AJ:List ao:=[.b 0,Jd 15]
abbrev YM:List ao:=kl (Bc M w0) (EV M w0 r) AJ (cat Tryz.f63 (pn 116)) m1::AJ
def Ki:AS:=⟨[(1,.sl (lm aF v2)),(2,.fn v3.id v3.aK),(15,.sl (lm aF v1)),(16,iI (v1.length:Int)),(17,iI v5)],[],[],[]⟩
abbrev NL:Prop:=∀{v5:Int},L1 v5=some r→LP (Bc M w0) (EV M w0 r) AJ (cat Tryz.f63 (pn 116)) m1 (Ki v1 v2 v3 v5)
variable{M w0 r v1 v2 v3 v5 m1 L1}{K:Kn}{n:Nat}
theorem UO(hK:ak K)(hL1:NL M w0 r v1 v2 v3 m1 L1)(h:pH K n v1 v2 v3 L1 v5=some r):Z9 M w0 r (Jd 116::YM M w0 r m1) (Ki v1 v2 v3 v5):=by
 unfold pH at h;refine av 6 7 3 ?_;obtain⟨h7,h⟩|⟨h7,h⟩:=am h
 ·refine ae 18 h7 (cr 8 9 1 3 5 (ai 1 ?_));obtain⟨h8,h⟩:=ax h;refine au (bu aF ap h8 (dE) (cX)) (ab (av 2 3 1 (ai 2 ?_)));obtain⟨h9,h⟩:=ax h;refine au (bu aF ap h9 (dE) (cX)) (ab (av 2 3 1 (ai 3 ?_)));obtain⟨v6,h10,h⟩:=bind_some h;refine hF (hK.j6 h10) (ab ?_);obtain⟨h11,h⟩|⟨h11,h⟩:=am h
  ·refine ae 30 h11 (aJ 9 ?_);cases h;exact bp
  ·exact ae 30 h11 (ac 4 (bc (hL1 h)))
 ·refine ae 18 h7 (aJ 8 ?_);cases h;exact bp
theorem SS(hK:ak K)(m:Nat):NL M w0 r v1 v2 v3 m (nf K n v1 v2 v3 m):=by
 induction m with
 | zero=>intro v5 h;cases h
 | succ m ih=>intro v5 h;have h:pH K n v1 v2 v3 (nf K n v1 v2 v3 m) v5=some r:=h;exact aZ (UO hK ih h)
theorem Qg(hK:ak K)(h:pV K n v1 v2 v3=some r):aW Tryz.prog 63 [.sl (lm aF v1),.sl (lm aF v2),.fn v3.id v3.aK] (fun v _=>v=.bool r):=by
 refine bB (cat Tryz.f63 (pn 1)) Tryz.func63 Tryz.ntmps63 fun M w0=>(ba ⟨[(0,.sl (lm aF v1)),(1,.sl (lm aF v2)),(2,.fn v3.id v3.aK)],[],[],[]⟩ ?_);unfold pV at h;refine bN 12 13 7 4 (ai 1 (au (bj aF v1) (aO 3 1 (au (bj aF v2) (ab ?_)))));obtain⟨h1,h⟩|⟨h1,h⟩:=am h
 ·refine ae 14 h1 (aJ 5 ?_);cases h;exact bp
 ·exact ae 14 h1 (ju 4 5 3 4 (ai 1 (au (bj aF v1) (ab (ac 1 (bK (p:=pn 58) n (SS hK n h)))))))
end
noncomputable section
variable[GS](M:Nat→Prop)(w0:aB)(r:Bool)(v1 v2:ah)(v4:Bool)  
abbrev YN(n:Nat):ao:=.c (cat Tryz.f27 (pn n))
abbrev Td:Cx:=⟨Tryz.prog,52,M,w0⟩
abbrev Su:=bodyPost Tryz.prog Tryz.f27 (bC M w0 (fun v _=>v=.bool r))
abbrev Wr(ks:List ao)(s:AS):=VE (Td M w0) (Su M w0 r) ks .normal s
def V6:AS:=⟨[(4,.bool v4)],[],[],[]⟩
variable{M w0 r v1 v2 v4}{K:Kn}{n:Nat}
theorem ki(hK:ak K)(h:ic K n v4=some r):Wr M w0 r [YN 7] (V6 v4):=by
 unfold ic at h;refine aJ 1 ?_;cases h;exact bp
theorem gl(hK:ak K)(h:gY K n v1 v2=some r):aW Tryz.prog 27 [.agg (ap v1),.agg (ap v2)] (fun v _=>v=.bool r):=by
 refine bB (cat Tryz.f27 (pn 1)) Tryz.func27 Tryz.ntmps27 fun M w0=>(ba ⟨[(0,.agg (ap v1)),(1,.agg (ap v2))],[],[],[]⟩ ?_);unfold gY at h;refine av 6 7 3 (ai 6 ?_);obtain⟨h1,h⟩|⟨h1,h⟩:=am h
 ·refine aC 10 h1 (aO 13 7 ?_);obtain⟨h2,h⟩|⟨h2,h⟩:=am h
  ·refine aC 17 h2 (aO 20 7 ?_);obtain⟨h3,h⟩|⟨h3,h⟩:=am h
   ·refine aC 24 h3 (aO 27 7 ?_);obtain⟨h4,h⟩|⟨h4,h⟩:=am h
    ·refine aC 31 h4 (aO 34 7 ?_);obtain⟨h5,h⟩|⟨h5,h⟩:=am h
     ·refine aC 38 h5 (aO 41 7 ?_);obtain⟨h6,h⟩|⟨h6,h⟩:=am h
      ·refine aC 45 h6 (aO 45 4 ?_);obtain⟨v3,h7,h⟩:=bind_some h;exact aP (Qg hK h7) (ab (ac 0 (ki hK h)))
      ·exact aC 45 h6 (ab (ac 0 (ki hK h)))
     ·exact aC 38 h5 (ab (ac 0 (ki hK h)))
    ·exact aC 31 h4 (ab (ac 0 (ki hK h)))
   ·exact aC 24 h3 (ab (ac 0 (ki hK h)))
  ·exact aC 17 h2 (ab (ac 0 (ki hK h)))
 ·exact aC 10 h1 (ab (ac 0 (ki hK h)))
end
noncomputable section
variable[GS](M:Nat→Prop)(w0:aB)(r v1:List aj)  
variable{M w0 r v1}{K:Kn}{n:Nat}
theorem zC(hK:ak K)(h:qj K n v1=some r):aW Tryz.prog 78 [.sl (lm aL v1)] (fun v s=>v=.ref 5∧look 5 s.r=some ⟨44,67,lm aL r⟩):=by
 refine bB (cat Tryz.f78 (pn 1)) Tryz.func78 Tryz.ntmps78 fun M w0=>(ba ⟨[(0,.sl (lm aL v1))],[],[],[]⟩ ?_);unfold qj at h;refine bN 12 13 7 4 (ai 1 ?_);refine Ll (aQ Tryz.f78 (pn 12) 1) (.eql) 42 42 (.tmp 3) (.const (.slice none 0 0)) 4 (lm aL v1) (r:=aN Tryz.f78 (pn 12) 2) (e:=44) (by kernel_rfl) (by kernel_rfl) (by kernel_rfl) (by kernel_rfl) (by kernel_rfl) (by kernel_rfl) (by kernel_rfl) (by kernel_rfl) (fun hq=>?_) ?_
 ·have h:=K1 (by simpa using hq) h;refine ab (aJ 5 (dw 5 2 44 67 ?_));cases h;exact dk
 ·have h:=Om h;refine ab (dQ 2 3 3 (ai 0 (xO 42 5 (e:=44) (sz:=67) (aO 2 1 ?_))));obtain⟨h2,h⟩:=ax h;refine au (cc 7 5 44 67 aL (rfl) (hZ) h2) (ab (aJ 1 ?_));cases h;exact dk
end
noncomputable section
variable[GS](M:Nat→Prop)(w0:aB)(r v1:aj)(v2:List aj)(v4:Int)(v5:List aj)(m1:Nat)(L1:Int→(List aj)→Option aj)
abbrev AX:Cx:=⟨Tryz.prog,25,M,w0⟩
abbrev y6:=bodyPost Tryz.prog Tryz.f40 (bC M w0 (fun v s=>v=.agg (List.set (aI ({ r with Kids:=[] }:aj)) 66 (.ref 1007))∧look 1007 s.r=some ⟨44,67,lm aL r.Kids⟩))
abbrev Pp(ks:List ao)(s:AS):=VE (AX M w0) (y6 M w0 r) ks .normal s
abbrev HU(n:Nat):ao:=.c (cat Tryz.f40 (pn n))
abbrev Fk:List ao:=[.b 0,HU 15]
abbrev Sh:List ao:=kl (AX M w0) (y6 M w0 r) Fk (cat Tryz.f40 (pn 116)) m1::Fk
def J7:AS:=⟨[(1,.ptr 1 0),(2,.ptr 2 0),(10,.ref 1007),(11,iI (v2.length:Int)),(12,iI v4)],[(1,List.set (aI ({ v1 with Kids:=[] }:aj)) 66 (.ref 1007)),(2,List.set (aI bQ) 66 (.nils))],[(1007,⟨44,67,lm aL v5⟩)],[1,2,1007]⟩
abbrev FP:Prop:=∀{v4:Int} {v5:(List aj)},L1 v4 v5=some r→LP (AX M w0) (y6 M w0 r) Fk (cat Tryz.f40 (pn 116)) m1 (J7 v1 v2 v4 v5)
variable{M w0 r v1 v2 v4 v5 m1 L1}{K:Kn}{n:Nat}
theorem P8(hK:ak K)(hL1:FP M w0 r v1 v2 m1 L1)(h:uW K n v1 v2 L1 v4 v5=some r):Pp M w0 r (HU 116::Sh M w0 r m1) (J7 v1 v2 v4 v5):=by
 unfold uW at h;refine av 6 7 3 ?_;obtain⟨h6,h⟩|⟨h6,h⟩:=am h
 ·refine ae 13 h6 (cr 8 9 1 3 5 (ai 1 ?_));obtain⟨h7,h⟩:=ax h;refine au (ca 1007 67 aL h7) (au (br 44 0 aL aI (bf h7).2 (c9)) (ab (bA [1,2,3,4,10,11,12] [1,2,4] [1007] ?_)));obtain⟨v6,h8,h⟩:=bind_some h;obtain⟨h9,h⟩:=ax h;exact bw 1 (nu 17 [.ptr 1 66,.ref 1007,iI v4,.agg (aI (gD v5 v4)),.agg (aI v6),.eptr 1007 67 (v4.toNat) 0]) [] [] [cV 1007 ⟨44,67,lm aL (List.set v5 v4.toNat v6)⟩] (aq (vz 4) (ag (bL 0 1 21 (hK.um h8)) (aR (bO 1007 67 aL (L:=v5) h9) (ag (cy (m:=0) (cJ 1007 44 67 0 aL aI v6 (bf h9).2 (c9))) bz)))) (ac 2 (bc (hL1 h)))
 ·refine ae 13 h6 (aJ 8 ?_);cases h;exact dk
theorem Vm(hK:ak K)(m:Nat):FP M w0 r v1 v2 m (uZ K n v1 v2 m):=by
 induction m with
 | zero=>intro v4 v5 h;cases h
 | succ m ih=>intro v4 v5 h;have h:uW K n v1 v2 (uZ K n v1 v2 m) v4 v5=some r:=h;exact aZ (P8 hK ih h)
theorem vo(hK:ak K)(h:nJ K n v1=some r):aW Tryz.prog 40 [.agg (aI v1)] (fun v s=>v=.agg (List.set (aI ({ r with Kids:=[] }:aj)) 66 (.ref 1007))∧look 1007 s.r=some ⟨44,67,lm aL r.Kids⟩):=by
 refine bB (cat Tryz.f40 (pn 1)) Tryz.func40 Tryz.ntmps40 fun M w0=>(ba ⟨[(0,.agg (aI v1))],[],[],[]⟩ ?_);unfold nJ at h;refine av 6 7 3 (ai 2 ?_);obtain⟨v2,h1,h⟩:=bind_some h;exact dI 1007 (zC hK h1) (dt 5) (ab (bN 4 5 3 2 (ai 2 (au (bj aL v2) (ab (ac 1 (bK (p:=pn 58) n (Vm hK n h))))))))
end
noncomputable section
variable[GS](M:Nat→Prop)(w0:aB)(r:aj×Bool×Int×Int×(List aA))(v1:ah)(v2 v3 v4:Int)(v5:List aA)(v9:Int)(v11:Bool)(m1:Nat)(L1:Int→Option (aj×Bool×Int×Int×(List aA)))
abbrev AR:Cx:=⟨Tryz.prog,34,M,w0⟩
abbrev EJ:=bodyPost Tryz.prog Tryz.f19 (bC M w0 (fun v s=>v=.tup [.agg (aI r.1),.bool r.2.1]∧bW s.o [(440001,List.set (bt (⟨[],r.2.2.1,r.2.2.2.1⟩:bq)) 0 (.ref 440009))]∧look 440009 s.r=some ⟨64,127,lm aY r.2.2.2.2⟩))
abbrev Jl(ks:List ao)(s:AS):=VE (AR M w0) (EJ M w0 r) ks .normal s
abbrev kY(n:Nat):ao:=.c (cat Tryz.f19 (pn n))
abbrev EG:List ao:=[.b 0,kY 7]
abbrev GA:List ao:=kl (AR M w0) (EJ M w0 r) EG (cat Tryz.f19 (pn 52)) m1::EG
def Qj:AS:=⟨[(2,iI v2),(4,.ptr 4 0),(6,.ptr 6 0),(9,.ptr 9 0),(13,.ref 440009),(14,iI (v5.length:Int)),(15,iI v9),(28,.bool v11)],[(4,ap v1),(6,List.set (aI bQ) 66 (.nils)),(9,aY (gD v5 v9)),(440001,List.set (bt (⟨[],v3,v4⟩:bq)) 0 (.ref 440009))],[(440009,⟨64,127,lm aY v5⟩)],[4,6,9,440001,440009,1440001,440001]⟩
def GP:AS:=⟨[(2,iI v2),(4,.ptr 4 0),(6,.ptr 6 0),(13,.ref 440009),(14,iI (v5.length:Int)),(15,iI v9)],[(4,ap v1),(6,List.set (aI bQ) 66 (.nils)),(440001,List.set (bt (⟨[],v3,v4⟩:bq)) 0 (.ref 440009))],[(440009,⟨64,127,lm aY v5⟩)],[4,6,440001,440009,1440001,440001]⟩
abbrev CP:Prop:=∀{v9:Int},L1 v9=some r→LP (AR M w0) (EJ M w0 r) EG (cat Tryz.f19 (pn 52)) m1 (GP v1 v2 v3 v4 v5 v9)
variable{M w0 r v1 v2 v3 v4 v5 v9 v11 m1 L1}{K:Kn}{n:Nat}[SG w0]
theorem Iu(hK:ak K)(hL1:CP M w0 r v1 v2 v3 v4 v5 m1 L1)(h:xT K n v1 v2 v3 v4 v5 v9 L1 v11=some r):Jl M w0 r (kY 3379 :: .b 1::kY 423::GA M w0 r m1) (Qj v1 v2 v3 v4 v5 v9 v11):=by
 unfold xT at h;obtain⟨h11,h⟩|⟨h11,h⟩:=am h
 ·refine ae 28 h11 (av 4 5 2 (ai 2 ?_));obtain⟨v12,h12,h⟩:=bind_some h;refine dI 1031 (vo hK h12) (sZ (i:=66) (by kernel_rfl)) (ab (aJ 6 (eX 1031 ?_)));cases h;exact j4
 ·exact ae 28 h11 (ac 4 (bc (hL1 h)))
theorem Zn(hK:ak K)(hL1:CP M w0 r v1 v2 v3 v4 v5 m1 L1)(h:xw K n v1 v2 v3 v4 v5 L1 v9=some r):Jl M w0 r (kY 52::GA M w0 r m1) (GP v1 v2 v3 v4 v5 v9):=by
 unfold xw at h;refine av 6 7 3 ?_;obtain⟨h7,h⟩|⟨h7,h⟩:=am h
 ·refine ae 16 h7 (cr 8 9 1 3 5 (ai 0 ?_));obtain⟨h8,h⟩:=ax h;refine au (ca 440009 127 aY h8) (au (br 64 0 aY aY (bf h8).2 ((fun _=>rfl))) (ab (av 2 3 1 (ai 5 ?_))));obtain⟨h9,h⟩|⟨h9,h⟩:=am h
  ·refine aC 23 h9 (aO 8 3 ?_);obtain⟨v10,h10,h⟩:=bind_some h;exact aP (gl hK h10) (ab (ac 0 (Iu hK hL1 h)))
  ·exact aC 23 h9 (ab (ac 0 (Iu hK hL1 h)))
 ·refine ae 16 h7 (aJ 8 (jb 6 ?_));cases h;exact j4
theorem aaj(hK:ak K)(m:Nat):CP M w0 r v1 v2 v3 v4 v5 m (rQ K n v1 v2 v3 v4 v5 m):=by
 induction m with
 | zero=>intro v9 h;cases h
 | succ m ih=>intro v9 h;have h:xw K n v1 v2 v3 v4 v5 (rQ K n v1 v2 v3 v4 v5 m) v9=some r:=h;exact aZ (Zn hK ih h)
theorem UQ(hK:ak K)(h:za K n v1 v2 v3 v4 v5=some r):dA Tryz.prog 19 [.ptr 440001 0,.agg (ap v1),iI v2] [(440001,List.set (bt (⟨[],v3,v4⟩:bq)) 0 (.ref 440009))] ⟨64,127,lm aY v5⟩ (fun v s=>v=.tup [.agg (aI r.1),.bool r.2.1]∧bW s.o [(440001,List.set (bt (⟨[],r.2.2.1,r.2.2.2.1⟩:bq)) 0 (.ref 440009))]∧look 440009 s.r=some ⟨64,127,lm aY r.2.2.2.2⟩):=by
 refine fZ (c:=cat Tryz.f19 []) Tryz.func19 (by kernel_rfl) _ Tryz.ntmps19 (of_decide_eq_true (by kernel_rfl)) fun M w0=>(ba ⟨[(0,.ptr 440001 0),(1,.agg (ap v1)),(2,iI v2)],[(440001,List.set (bt (⟨[],v3,v4⟩:bq)) 0 (.ref 440009))],[(440009,⟨64,127,lm aY v5⟩)],[440009,440001,1440001]⟩ ?_);unfold za at h;exact bM (ks':=[kY 12,kY 13,kY 7]) 4 (ai 4 (au (bj aY v5) (ab (ac 1 (bK (p:=pn 26) n (aaj hK n h))))))
end
noncomputable section
variable[GS](M:Nat→Prop)(w0:aB)(r:aj×Bool×Int×Int×(List aA))(v1:ah)(v2 v3 v4:Int)(v5:List aA)(v6:aj×Bool×Int×Int×(List aA))(v7:Int)  
abbrev Ft(n:Nat):ao:=.c (cat Tryz.f36 (pn n))
abbrev YE:Cx:=⟨Tryz.prog,27,M,w0⟩
abbrev Q0:=bodyPost Tryz.prog Tryz.f36 (bC M w0 (fun v s=>v=.tup [.agg (aI r.1),.bool r.2.1]∧bW s.o [(440001,List.set (bt (⟨[],r.2.2.1,r.2.2.2.1⟩:bq)) 0 (.ref 440009))]∧look 440009 s.r=some ⟨64,127,lm aY r.2.2.2.2⟩))
abbrev Ud(ks:List ao)(s:AS):=VE (YE M w0) (Q0 M w0 r) ks .normal s
def ZY:AS:=⟨[(6,.ptr 6 0),(8,.ptr 8 0),(9,.bool v6.2.1)],[(6,List.set (aI bQ) 66 (.nils)),(8,aI v6.1),(440001,List.set (bt (⟨[],v6.2.2.1,v7⟩:bq)) 0 (.ref 440009))],[(440009,⟨64,127,lm aY v6.2.2.2.2⟩)],[6,8,440001,440009,1440001,440001]⟩
variable{M w0 r v1 v2 v3 v4 v5 v6 v7}{K:Kn}{n:Nat}[SG w0]
theorem LD(hK:ak K)(h:w7 K n v6 v7=some r):Ud M w0 r [Ft 15] (ZY v6 v7):=by
 unfold w7 at h;refine aJ 3 ?_;cases h;exact j4
theorem Vk(hK:ak K)(h:Da K n v1 v2 v3 v4 v5=some r):dA Tryz.prog 36 [.ptr 440001 0,.agg (ap v1),iI v2] [(440001,List.set (bt (⟨[],v3,v4⟩:bq)) 0 (.ref 440009))] ⟨64,127,lm aY v5⟩ (fun v s=>v=.tup [.agg (aI r.1),.bool r.2.1]∧bW s.o [(440001,List.set (bt (⟨[],r.2.2.1,r.2.2.2.1⟩:bq)) 0 (.ref 440009))]∧look 440009 s.r=some ⟨64,127,lm aY r.2.2.2.2⟩):=by
 refine fZ (c:=cat Tryz.f36 []) Tryz.func36 (by kernel_rfl) _ Tryz.ntmps36 (of_decide_eq_true (by kernel_rfl)) fun M w0=>(ba ⟨[(0,.ptr 440001 0),(1,.agg (ap v1)),(2,iI v2)],[(440001,List.set (bt (⟨[],v3,v4⟩:bq)) 0 (.ref 440009))],[(440009,⟨64,127,lm aY v5⟩)],[440009,440001,1440001]⟩ ?_);unfold Da at h;refine bM (ks':=[Ft 6,Ft 7]) 3 (ai 3 ?_);obtain⟨v6,h1,h⟩:=bind_some h;refine kh (UQ hK h1) (ab (av 5 3 3 ?_));obtain⟨h2,h⟩|⟨h2,h⟩:=am h
 ·exact ae 17 h2 (ac 2 (LD hK h))
 ·exact ae 17 h2 (ac 2 (LD hK h))
end
noncomputable section
variable[GS](M:Nat→Prop)(w0:aB)(r:Int×Int×(List aA))(v1:ah)(v2:Int)(v3:aj)(v4 v5:Int)(v6:List aA)  
abbrev Xl(n:Nat):ao:=.c (cat Tryz.f37 (pn n))
variable{M w0 r v1 v2 v3 v4 v5 v6}{K:Kn}{n:Nat}[SG w0]
theorem Xw(hK:ak K)(h:CB K n v1 v2 v3 v4 v5 v6=some r):dA Tryz.prog 37 [.ptr 440001 0,.agg (ap v1),iI v2,.agg (aI v3)] [(440001,List.set (bt (⟨[],v4,v5⟩:bq)) 0 (.ref 440009))] ⟨64,127,lm aY v6⟩ (fun v s=>v=.tup []∧bW s.o [(440001,List.set (bt (⟨[],r.1,r.2.1⟩:bq)) 0 (.ref 440009))]∧look 440009 s.r=some ⟨64,127,lm aY r.2.2⟩):=by
 refine fZ (c:=cat Tryz.f37 []) Tryz.func37 (by kernel_rfl) _ Tryz.ntmps37 (of_decide_eq_true (by kernel_rfl)) fun M w0=>(ba ⟨[(0,.ptr 440001 0),(1,.agg (ap v1)),(2,iI v2),(3,.agg (aI v3))],[(440001,List.set (bt (⟨[],v4,v5⟩:bq)) 0 (.ref 440009))],[(440009,⟨64,127,lm aY v6⟩)],[440009,440001,1440001]⟩ ?_);unfold CB at h;refine bM (ks':=[Xl 7]) 4 (bA [0,2,5,7] [5,7,440001] [440009] ?_);obtain⟨v8,h2,h⟩:=bind_some h;obtain⟨h3,h⟩:=ax h;refine bw 2 (nu 15 [.ptr 440001 0,.ptr 440001 0,.ptr 440001 0,.ptr 440001 0,.ref 440009,.agg (ap v1),iI v2,.agg (aI v3),.agg (aI v8),.agg (aY (⟨v1,v2,v8⟩:aA)),.sl (lm aY [(⟨v1,v2,v8⟩:aA)])]++nu 27 [.ptr 440001 0,.ptr 440001 0]) [] [] [eb 26 440009 ⟨64,127,lm aY (v6++[(⟨v1,v2,v8⟩:aA)])⟩,bS Tryz.prog 29 Tryz.f37 (pn 7) 14] (aq [.v 0 2,.v 0 2,.v 0 2,.v 0 2,.v 0 1,.v 0 2,.v 0 2,.v 0 2] (ag (bL 0 1 23 (aW.cf (vo hK h2) (V':=.agg (aI v8)) (by kernel_rfl))) (aq [.v 0 2,.v 0 1] (ag (cy (m:=0) (cc 26 440009 64 127 aY (rfl) (BD) h3)) (aq [.v 1 2,.v 1 1] (ag (bU 1) bz)))))) (im ?_)
 cases h;exact j4
end
noncomputable section
variable[GS](M:Nat→Prop)(w0:aB)(r v1:Int)  
variable{M w0 r v1}{K:Kn}{n:Nat}
theorem gg(hK:ak K)(h:fE K n v1=some r):aW Tryz.prog 124 [iI v1] (fun v _=>v=iI r):=by
 refine bB (cat Tryz.f124 (pn 1)) Tryz.func124 Tryz.ntmps124 fun M w0=>(ba ⟨[(0,iI v1)],[],[],[]⟩ ?_);unfold fE at h;refine aJ 5 ?_;cases h;exact bp
end
noncomputable section
variable[GS](M:Nat→Prop)(w0:aB)(r:Int×Bool)(v1:cE)(v2 v4:Int)  
abbrev Z6(n:Nat):ao:=.c (cat Tryz.f86 (pn n))
abbrev Si:Cx:=⟨Tryz.prog,25,M,w0⟩
abbrev W4:=bodyPost Tryz.prog Tryz.f86 (bC M w0 (fun v _=>v=.tup [iI r.1,.bool r.2]))
abbrev aaw(ks:List ao)(s:AS):=VE (Si M w0) (W4 M w0 r) ks .normal s
def aad:AS:=⟨[(6,iI v4)],[],[],[]⟩
variable{M w0 r v1 v2 v4}{K:Kn}{n:Nat}
theorem JJ(hK:ak K)(h:rm K n v4=some r):aaw M w0 r [.b 0,Z6 15] (aad v4):=by
 unfold rm at h;refine aJ 4 ?_;cases h;exact fL
theorem di(hK:ak K)(h:da K n v1 v2=some r):aW Tryz.prog 86 [.agg (eh v1),iI v2] (fun v _=>v=.tup [iI r.1,.bool r.2]):=by
 refine bB (cat Tryz.f86 (pn 1)) Tryz.func86 Tryz.ntmps86 fun M w0=>(ba ⟨[(0,.agg (eh v1)),(1,iI v2)],[],[],[]⟩ ?_);unfold da at h;refine eU 117 0 15 10 ?_;obtain⟨h1,h⟩|⟨h1,h⟩:=am h
 ·exact ae 11 h1 (ac 2 (JJ hK h))
 ·refine ae 11 h1 (bd 7 3 ?_);obtain⟨h2,h⟩|⟨h2,h⟩:=am h
  ·refine ae 13 h2 (bd 2 1 (ai 1 ?_));obtain⟨v3,h3,h⟩:=bind_some h;exact aP (gg hK h3) (ab (ac 0 (JJ hK h)))
  ·refine ae 13 h2 (aJ 6 ?_);cases h;exact fL
end
noncomputable section
variable[GS](M:Nat→Prop)(w0:aB)(r:cj)(v1:aX)(v2 v3:Int)  
abbrev lz(n:Nat):ao:=.c (cat Tryz.f88 (pn n))
abbrev OV:Cx:=⟨Tryz.prog,52,M,w0⟩
abbrev Y9:=bodyPost Tryz.prog Tryz.f88 (bC M w0 (fun v _=>v=.agg (cb r)))
abbrev oD(m:Nat):List ao:=kl (OV M w0) (Y9 M w0 r) [.b 0,lz 15] (cat Tryz.f88 (pn 116)) m::[.b 0,lz 15]
variable{M w0 r v1 v2 v3}{K:Kn}{n:Nat}
theorem iJ(hK:ak K)(h:gu K n v1 v2 v3=some r):aW Tryz.prog 88 [.agg (aE v1),iI v2,iI v3] (fun v _=>v=.agg (cb r)):=by
 refine bB (cat Tryz.f88 (pn 1)) Tryz.func88 Tryz.ntmps88 fun M w0=>(ba ⟨[(0,.agg (aE v1)),(1,iI v2),(2,iI v3)],[],[],[]⟩ ?_);unfold gu at h;refine bm (ks':=[lz 58,.b 0,lz 15]) 8 ⟨[(1,iI v2),(3,.ptr 3 0),(6,.ptr 6 0),(7,.ptr 7 0),(13,iI 0)],[(3,aE v1),(6,cb ge),(7,cb ({ ge with Content:=v3 }:cj))],[],[3,6,7]⟩ (jw 40 (c:=cat Tryz.f88 [1,1,0,1,0,0]) (by kernel_rfl) (aZ (bM (ks':=lz 7474::lz 7475 :: .b 1::lz 935::oD M w0 r 39) 10 (ai 6 ?_))));obtain⟨v4,h1,h⟩:=bind_some h;refine aP (di hK h1) (ab (av 2 3 1 (ai 5 ?_)));obtain⟨v5,h2,h⟩:=bind_some h;refine aP (gg hK h2) (ab (av 2 3 1 (ai 5 ?_)));obtain⟨v6,h3,h⟩:=bind_some h;refine aP (di hK h3) (ab (bm (ks':=oD M w0 r 39) 3 ⟨[(1,iI v2),(3,.ptr 3 0),(6,.ptr 6 0),(7,.ptr 7 0),(13,iI 1)],[(3,aE v1),(6,cb ge),(7,cb (⟨⟨v4.1,0,0,0⟩,⟨v5,0,0,0⟩,⟨(max v6.1 0),0,0,0⟩,v3⟩:cj))],[],[3,6,7]⟩ (bc (aZ (cU 114 115 1 15 10 (ai 6 ?_))))));obtain⟨v7,h4,h⟩:=bind_some h
 refine aP (di hK h4) (ab (av 2 3 1 (ai 5 ?_)));obtain⟨v8,h5,h⟩:=bind_some h;refine aP (gg hK h5) (ab (av 2 3 1 (ai 5 ?_)));obtain⟨v9,h6,h⟩:=bind_some h;refine aP (di hK h6) (ab (bm (ks':=oD M w0 r 38) 3 ⟨[(1,iI v2),(3,.ptr 3 0),(6,.ptr 6 0),(7,.ptr 7 0),(13,iI 2)],[(3,aE v1),(6,cb ge),(7,cb (⟨⟨v4.1,v7.1,0,0⟩,⟨v5,v8,0,0⟩,⟨(max v6.1 0),(max v9.1 0),0,0⟩,v3⟩:cj))],[],[3,6,7]⟩ (bc (aZ (cU 114 115 1 15 10 (ai 6 ?_))))));obtain⟨v10,h7,h⟩:=bind_some h;refine aP (di hK h7) (ab (av 2 3 1 (ai 5 ?_)));obtain⟨v11,h8,h⟩:=bind_some h;refine aP (gg hK h8) (ab (av 2 3 1 (ai 5 ?_)));obtain⟨v12,h9,h⟩:=bind_some h;refine aP (di hK h9) (ab (bm (ks':=oD M w0 r 37) 3 ⟨[(1,iI v2),(3,.ptr 3 0),(6,.ptr 6 0),(7,.ptr 7 0),(13,iI 3)],[(3,aE v1),(6,cb ge),(7,cb (⟨⟨v4.1,v7.1,v10.1,0⟩,⟨v5,v8,v11,0⟩,⟨(max v6.1 0),(max v9.1 0),(max v12.1 0),0⟩,v3⟩:cj))],[],[3,6,7]⟩ (bc (aZ (cU 114 115 1 15 10 (ai 6 ?_))))));obtain⟨v13,h10,h⟩:=bind_some h
 refine aP (di hK h10) (ab (av 2 3 1 (ai 5 ?_)));obtain⟨v14,h11,h⟩:=bind_some h;refine aP (gg hK h11) (ab (av 2 3 1 (ai 5 ?_)));obtain⟨v15,h12,h⟩:=bind_some h;refine aP (di hK h12) (ab (bm (ks':=oD M w0 r 36) 3 ⟨[(1,iI v2),(3,.ptr 3 0),(6,.ptr 6 0),(7,.ptr 7 0),(13,iI 4)],[(3,aE v1),(6,cb ge),(7,cb (⟨⟨v4.1,v7.1,v10.1,v13.1⟩,⟨v5,v8,v11,v14⟩,⟨(max v6.1 0),(max v9.1 0),(max v12.1 0),(max v15.1 0)⟩,v3⟩:cj))],[],[3,6,7]⟩ (bc (aZ (aJ 11 ?_)))));cases h;exact bp
end
noncomputable section
variable[GS](M:Nat→Prop)(w0:aB)(r:Int)(v1:cj)  
variable{M w0 r v1}{K:Kn}{n:Nat}
theorem jN(hK:ak K)(h:iD K n v1=some r):aW Tryz.prog 89 [.agg (cb v1)] (fun v _=>v=iI r):=by
 refine bB (cat Tryz.f89 (pn 1)) Tryz.func89 Tryz.ntmps89 fun M w0=>(ba ⟨[(0,.agg (cb v1))],[],[],[]⟩ ?_);unfold iD at h;refine aJ 5 ?_;cases h;exact bp
end
noncomputable section
variable[GS](M:Nat→Prop)(w0:aB)(r:Int)(v1:aX)(v2 v3 v5 v7:Int)  
abbrev KU(n:Nat):ao:=.c (cat Tryz.f90 (pn n))
abbrev RC:Cx:=⟨Tryz.prog,37,M,w0⟩
abbrev OH:=bodyPost Tryz.prog Tryz.f90 (bC M w0 (fun v _=>v=iI r))
abbrev JO(ks:List ao)(s:AS):=VE (RC M w0) (OH M w0 r) ks .normal s
def Yw:AS:=⟨[(2,iI v7)],[],[],[]⟩
def YH:AS:=⟨[(1,iI v2),(2,iI v5),(3,.ptr 3 0)],[(3,aE v1)],[],[3]⟩
variable{M w0 r v1 v2 v3 v5 v7}{K:Kn}{n:Nat}
theorem K4(hK:ak K)(h:wu K n v7=some r):JO M w0 r [KU 31] (Yw v7):=by
 unfold wu at h;refine aJ 3 ?_;cases h;exact bp
theorem KF(hK:ak K)(h:tU K n v1 v2 v5=some r):JO M w0 r [KU 15] (YH v1 v2 v5):=by
 unfold tU at h;refine bN 4 5 3 2 (ai 3 ?_);obtain⟨v6,h3,h⟩:=bind_some h;refine aP (di hK h3) (ab (bd 3 2 ?_));obtain⟨h4,h⟩|⟨h4,h⟩:=am h
 ·exact ae 32 h4 (ac 2 (K4 hK h))
 ·exact ae 32 h4 (ac 2 (K4 hK h))
theorem oW(hK:ak K)(h:ln K n v1 v2 v3=some r):aW Tryz.prog 90 [.agg (aE v1),iI v2,iI v3] (fun v _=>v=iI r):=by
 refine bB (cat Tryz.f90 (pn 1)) Tryz.func90 Tryz.ntmps90 fun M w0=>(ba ⟨[(0,.agg (aE v1)),(1,iI v2),(2,iI v3)],[],[],[]⟩ ?_);unfold ln at h;refine bN 28 29 15 6 (ai 3 ?_);obtain⟨v4,h1,h⟩:=bind_some h;refine aP (di hK h1) (ab (bd 3 2 ?_));obtain⟨h2,h⟩|⟨h2,h⟩:=am h
 ·exact ae 20 h2 (ac 2 (KF hK h))
 ·exact ae 20 h2 (ac 2 (KF hK h))
end
noncomputable section
variable[GS](M:Nat→Prop)(w0:aB)(r:cj)(v1:aX)(v2 v3:Int)(v4:cj)(v7 v8 v9:Int)(v10 v11:(Int×Bool))(v12:Bool)(v13:V4 Int)  
abbrev tw(n:Nat):ao:=.c (cat Tryz.f75 (pn n))
abbrev RL:Cx:=⟨Tryz.prog,89,M,w0⟩
abbrev PZ:=bodyPost Tryz.prog Tryz.f75 (bC M w0 (fun v _=>v=.agg (cb r)))
abbrev FE(ks:List ao)(s:AS):=VE (RL M w0) (PZ M w0 r) ks .normal s
def P9:AS:=⟨[(4,.ptr 4 0),(5,.ptr 5 0)],[(4,cb ge),(5,cb ({ v4 with Margin:=v13,Content:=v8 }:cj))],[],[4,5]⟩
def Pm:AS:=⟨[(4,.ptr 4 0),(5,.ptr 5 0),(8,iI (aa (v3-v9))),(10,.bool v10.2),(12,.bool v11.2),(59,.bool v12)],[(4,cb ge),(5,cb ({ v4 with Content:=v8 }:cj))],[],[4,5]⟩
def QK:AS:=⟨[(1,iI v3),(2,.ptr 2 0),(4,.ptr 4 0),(5,.ptr 5 0),(6,iI v7)],[(2,aE v1),(4,cb ge),(5,cb v4)],[],[2,4,5]⟩
variable{M w0 r v1 v2 v3 v4 v7 v8 v9 v10 v11 v12 v13}{K:Kn}{n:Nat}
theorem tR(hK:ak K)(h:lL K n v4 v8 v13=some r):FE M w0 r [.b 0,tw 4095] (P9 v4 v8 v13):=by
 unfold lL at h;refine aJ 4 ?_;cases h;exact bp
theorem N0(hK:ak K)(h:ul K n v3 v4 v8 v9 v10 v11 v12=some r):FE M w0 r [tw 16377,.b 0,tw 4095] (Pm v3 v4 v8 v9 v10 v11 v12):=by
 unfold ul at h;obtain⟨h12,h⟩|⟨h12,h⟩:=am h
 ·exact ae 59 h12 (ac 4 (tR hK h))
 ·refine ae 59 h12 (bd 7 3 ?_);obtain⟨h13,h⟩|⟨h13,h⟩:=am h
  ·exact ae 76 h13 (ac 2 (tR hK h))
  ·refine ae 76 h13 (bd 7 3 ?_);obtain⟨h14,h⟩|⟨h14,h⟩:=am h
   ·exact ae 82 h14 (ac 2 (tR hK h))
   ·exact ae 82 h14 (ac 2 (tR hK h))
theorem Lv(hK:ak K)(h:wC K n v1 v3 v4 v7=some r):FE M w0 r [tw 63] (QK v1 v3 v4 v7):=by
 unfold wC at h;refine av 2 3 1 (ai 3 ?_);obtain⟨v8,h6,h⟩:=bind_some h;refine aP (oW hK h6) (ab (av 2 3 1 (ai 2 ?_)));obtain⟨v9,h7,h⟩:=bind_some h;refine aP (jN hK h7) (ab (av 5 3 3 ?_));obtain⟨h8,h⟩|⟨h8,h⟩:=am h
 ·refine ae 41 h8 (aJ 5 ?_);cases h;exact bp
 ·refine ae 41 h8 (dQ 2 3 3 (ai 4 ?_));obtain⟨v10,h9,h⟩:=bind_some h;refine aP (di hK h9) (ab (av 2 3 1 (ai 4 ?_)));obtain⟨v11,h10,h⟩:=bind_some h;refine aP (di hK h10) (ab (cU 8 9 0 3 3 (ai 3 ?_)));obtain⟨h11,h⟩|⟨h11,h⟩:=am h
  ·exact aC 62 h11 (ab (ac 0 (N0 hK h)))
  ·exact aC 62 h11 (ab (ac 0 (N0 hK h)))
theorem AD(hK:ak K)(h:oG K n v1 v2=some r):aW Tryz.prog 75 [.agg (aE v1),iI v2] (fun v _=>v=.agg (cb r)):=by
 refine bB (cat Tryz.f75 (pn 1)) Tryz.func75 Tryz.ntmps75 fun M w0=>(ba ⟨[(0,.agg (aE v1)),(1,iI v2)],[],[],[]⟩ ?_);unfold oG at h;refine av 6 7 3 (ai 1 ?_);obtain⟨v3,h1,h⟩:=bind_some h;refine aP (gg hK h1) (ab (av 2 3 1 (ai 2 ?_)));obtain⟨v4,h2,h⟩:=bind_some h;refine aP (iJ hK h2) (ab (av 2 3 1 (ai 3 ?_)));obtain⟨v5,h3,h⟩:=bind_some h;refine aP (di hK h3) (ab (av 5 3 3 ?_));obtain⟨h4,h⟩|⟨h4,h⟩:=am h
 ·refine ae 26 h4 (bd 2 1 (ai 2 ?_));obtain⟨v6,h5,h⟩:=bind_some h;exact aP (jN hK h5) (ab (ac 0 (Lv hK h)))
 ·exact ae 26 h4 (ac 2 (Lv hK h))
end
noncomputable section
variable[GS](M:Nat→Prop)(w0:aB)(r:bn)(v1:Int)  
variable{M w0 r v1}{K:Kn}{n:Nat}
theorem uG(hK:ak K)(h:nz K n v1=some r):aW Tryz.prog 79 [iI v1] (fun v _=>v=.agg (cC r)):=by
 refine bB (cat Tryz.f79 (pn 1)) Tryz.func79 Tryz.ntmps79 fun M w0=>(ba ⟨[(0,iI v1)],[],[],[]⟩ ?_);unfold nz at h;refine aJ 5 ?_;cases h;exact bp
end
noncomputable section
variable[GS](M:Nat→Prop)(w0:aB)(r:Int)(v1:cE)(v2 v3:Int)  
variable{M w0 r v1 v2 v3}{K:Kn}{n:Nat}
theorem o8(hK:ak K)(h:lw K n v1 v2 v3=some r):aW Tryz.prog 82 [.agg (eh v1),iI v2,iI v3] (fun v _=>v=iI r):=by
 refine bB (cat Tryz.f82 (pn 1)) Tryz.func82 Tryz.ntmps82 fun M w0=>(ba ⟨[(0,.agg (eh v1)),(1,iI v2),(2,iI v3)],[],[],[]⟩ ?_);unfold lw at h;refine bN 12 13 7 4 (ai 2 ?_);obtain⟨v4,h1,h⟩:=bind_some h;refine aP (di hK h1) (ab (bd 3 2 ?_));obtain⟨h2,h⟩|⟨h2,h⟩:=am h
 ·refine ae 15 h2 (aJ 5 ?_);cases h;exact bp
 ·refine ae 15 h2 (aJ 5 ?_);cases h;exact bp
end
noncomputable section
variable[GS](M:Nat→Prop)(w0:aB)(r v1:List Int)(v2 v3:Int)(v4:Fv)(v11:Int)(v12:List Int)(v15:Int)(v16:List Int)(v18:Bool)(m1 m2:Nat)(L1 L2:Int→(List Int)→Option (List Int))
abbrev oO:Cx:=⟨Tryz.prog,53,M,w0⟩
abbrev oV:=bodyPost Tryz.prog Tryz.f189 (bC M w0 (fun v s=>v=fe r∧look 0 s.r=some ⟨3,1,lm (af .i64) r⟩))
abbrev Cm(ks:List ao)(s:AS):=VE (oO M w0) (oV M w0 r) ks .normal s
abbrev oY(n:Nat):ao:=.c (cat Tryz.f189 (pn n))
abbrev CF:List ao:=[.b 0]
abbrev K6:List ao:=kl (oO M w0) (oV M w0 r) CF (cat Tryz.f189 (pn 12)) m1::CF
abbrev FD:List ao:=.b 2 :: .b 1::oY 51::K6 M w0 r m1
abbrev NB:List ao:=kl (oO M w0) (oV M w0 r) (FD M w0 r m1) (cat Tryz.f189 (pn 804)) m2::(FD M w0 r m1)
def PL:AS:=⟨[(0,.ref 0),(1,iI v2),(2,iI v3),(3,.fn v4.id v4.aK),(8,iI v11),(9,iI v15),(34,.bool v18)],[],[(0,⟨3,1,lm (af .i64) v16⟩)],[0,1000000,0]⟩
def MR:AS:=⟨[(0,.ref 0),(1,iI v2),(2,iI v3),(3,.fn v4.id v4.aK),(8,iI v11),(9,iI v15)],[],[(0,⟨3,1,lm (af .i64) v16⟩)],[0,1000000,0]⟩
def MC:AS:=⟨[(0,.ref 0),(1,iI v2),(2,iI v3),(3,.fn v4.id v4.aK),(8,iI v11)],[],[(0,⟨3,1,lm (af .i64) v12⟩)],[0,1000000,0]⟩
abbrev n9:Prop:=∀{v11:Int} {v12:(List Int)},L1 v11 v12=some r→LP (oO M w0) (oV M w0 r) CF (cat Tryz.f189 (pn 12)) m1 (MC v2 v3 v4 v11 v12)
abbrev EC:Prop:=∀{v15:Int} {v16:(List Int)},L2 v15 v16=some r→LP (oO M w0) (oV M w0 r) (FD M w0 r m1) (cat Tryz.f189 (pn 804)) m2 (MR v2 v3 v4 v11 v15 v16)
variable{M w0 r v1 v2 v3 v4 v11 v12 v15 v16 v18 m1 m2 L1 L2}{K:Kn}{n:Nat}
theorem Ky(hK:ak K)(hL1:n9 M w0 r v2 v3 v4 m1 L1)(hL2:EC M w0 r v2 v3 v4 v11 m1 m2 L2)(h:wD K n v2 v3 v4 v11 v15 v16 L1 L2 v18=some r):Cm M w0 r (oY 3217::oY 1609::NB M w0 r m1 m2) (PL v2 v3 v4 v11 v15 v16 v18):=by
 unfold wD at h;obtain⟨h34,h⟩|⟨h34,h⟩:=am h
 ·refine ae 34 h34 (lg 4 3 3 4 (bA [0,1,2,3,8,9] [] [0] ?_));obtain⟨h35,h⟩:=ax h;obtain⟨h36,h⟩:=ax h;obtain⟨h37,h⟩:=ax h;obtain⟨h38,h⟩:=ax h;exact bw 2 (nu 37 [.ref 0,iI v15,.ref 0,iI v15,iI (aa (v15-1)),.ref 0,iI v15,iI (aa (v15-1)),.eptr 0 1 (((aa (v15-1))).toNat) 0,iI (gD v16 ((aa (v15-1)))),.ref 0,iI v15,.eptr 0 1 (v15.toNat) 0,iI (gD v16 v15),.eptr 0 1 (v15.toNat) 0,.eptr 0 1 (((aa (v15-1))).toNat) 0]) [] [] [cV 0 ⟨3,1,lm (af .i64) (List.set v16 v15.toNat (gD v16 ((aa (v15-1)))))⟩,cV 0 ⟨3,1,lm (af .i64) (List.set (List.set v16 v15.toNat (gD v16 ((aa (v15-1))))) ((aa (v15-1))).toNat (gD v16 v15))⟩] (aq [.v 0 1,.v 0 1,.v 0 2,.v 0 2,.v 0 2,.v 0 1,.v 0 1,.v 0 1] (aR (bO 0 1 (af .i64) (L:=v16) h35) (aR (br 3 0 (af .i64) (af .i64) (bf h35).2 ((fun _=>rfl))) (aq [.v 0 2,.v 0 2] (ag (dm (lo:=0) (k:=2) (cu ⟨(by kernel_rfl),(cw (bO 0 1 (af .i64) (L:=v16) h36) (by kernel_rfl))⟩ (cu ⟨(by kernel_rfl),(cw (bO 0 1 (af .i64) (L:=(List.set v16 v15.toNat (gD v16 ((aa (v15-1)))))) h36) (by kernel_rfl))⟩ dp))) (aR (br 3 0 (af .i64) (af .i64) (bf h37).2 ((fun _=>rfl))) (aR (bO 0 1 (af .i64) (L:=v16) h37) (ag (cy (m:=0) (cJ 0 3 1 0 (af .i64) (af .i64) (gD v16 ((aa (v15-1)))) (bf h37).2 ((fun _=>rfl)))) (ag (lA (lo:=1) (bO 0 1 (af .i64) (L:=(List.set v16 v15.toNat (gD v16 ((aa (v15-1)))))) h38)) (ag (cy (m:=1) (cJ 0 3 1 0 (af .i64) (af .i64) (gD v16 v15) (bf h38).2 ((fun _=>rfl)))) bz)))))))))) (ac 2 (bc (hL2 h)))
 ·exact ae 34 h34 (ac 7 (bc (hL1 h)))
theorem W9(hK:ak K)(hL1:n9 M w0 r v2 v3 v4 m1 L1)(hL2:EC M w0 r v2 v3 v4 v11 m1 m2 L2)(h:tu K n v2 v3 v4 v11 L1 L2 v15 v16=some r):Cm M w0 r (oY 804::NB M w0 r m1 m2) (MR v2 v3 v4 v11 v15 v16):=by
 unfold tu at h;refine bN 4 5 3 2 (bA [0,1,2,3,8,9] [] [0] ?_);obtain⟨h30,h⟩|⟨h30,h⟩:=am h
 ·obtain⟨h31,h⟩:=ax h;obtain⟨h32,h⟩:=ax h;obtain⟨v17,h33,h⟩:=bind_some h;exact bw 0 (nu 18 [iI v15,iI v2,.bool (decide (v15>v2)),.bool true,.fn v4.id v4.aK,.ref 0,iI v15,.eptr 0 1 (v15.toNat) 0,iI (gD v16 v15),.ref 0,iI v15,iI (aa (v15-1)),.eptr 0 1 (((aa (v15-1))).toNat) 0,iI (gD v16 ((aa (v15-1)))),iI v17,.bool (decide (v17<0)),.bool (decide (v17<0))]) [] [] [] (aq (vz 3) (ag (cm 0 21 (e:=(decide (v15>v2))) (b:=true) h30) (aq (vz 3) (aR (bO 0 1 (af .i64) (L:=v16) h31) (aR (br 3 0 (af .i64) (af .i64) (bf h31).2 ((fun _=>rfl))) (aq (vz 3) (aR (bO 0 1 (af .i64) (L:=v16) h32) (aR (br 3 0 (af .i64) (af .i64) (bf h32).2 ((fun _=>rfl))) (ag (bL 0 1 32 (hK.fA h33).2 (hK.fA h33).1) (aq (vz 2) bz)))))))))) (ac 0 (Ky hK hL1 hL2 h))
 ·exact bw 0 (nu 18 [iI v15,iI v2,.bool (decide (v15>v2)),.bool false,.tup [],.tup [],.tup [],.tup [],.tup [],.tup [],.tup [],.tup [],.tup [],.tup [],.tup [],.tup [],.bool false]) [] [] [] (aq (vz 3) (ag (cm 0 21 (e:=(decide (v15>v2))) (b:=false) h30) (ag (ay 0 1) (ag (ay 0 1) (ag (ay 0 1) (ag (ay 0 1) (ag (ay 0 1) (ag (ay 0 1) (ag (ay 0 1) (ag (ay 0 1) (ag (ay 0 1) (ag (ay 0 1) (ag (ay 0 1) (ag (ay 0 1) (aq [.v 0 1] bz))))))))))))))) (ac 0 (Ky hK hL1 hL2 h))
theorem VK(hK:ak K)(hL1:n9 M w0 r v2 v3 v4 m1 L1)(m:Nat):EC M w0 r v2 v3 v4 v11 m1 m (uD K n v2 v3 v4 v11 L1 m):=by
 induction m with
 | zero=>intro v15 v16 h;cases h
 | succ m ih=>intro v15 v16 h;have h:tu K n v2 v3 v4 v11 L1 (uD K n v2 v3 v4 v11 L1 m) v15 v16=some r:=h;exact aZ (W9 hK hL1 ih h)
theorem Th(hK:ak K)(hL1:n9 M w0 r v2 v3 v4 m1 L1)(h:sL K n v2 v3 v4 L1 v11 v12=some r):Cm M w0 r (oY 12::K6 M w0 r m1) (MC v2 v3 v4 v11 v12):=by
 unfold sL at h;refine av 5 3 3 ?_;obtain⟨h20,h⟩|⟨h20,h⟩:=am h
 ·exact ae 14 h20 (ac 7 (bK (p:=pn 402) n (VK hK hL1 n h)))
 ·refine ae 14 h20 (bM (ks':=[]) 5 (im ?_));cases h;exact gc
theorem YY(hK:ak K)(m:Nat):n9 M w0 r v2 v3 v4 m (w9 K n v2 v3 v4 m):=by
 induction m with
 | zero=>intro v11 v12 h;cases h
 | succ m ih=>intro v11 v12 h;have h:sL K n v2 v3 v4 (w9 K n v2 v3 v4 m) v11 v12=some r:=h;exact aZ (Th hK ih h)
theorem I5(hK:ak K)(h:t7 K n v1 v2 v3 v4=some r):gW Tryz.prog 189 [.ref 0,iI v2,iI v3,.fn v4.id v4.aK] 0 ⟨3,1,lm (af .i64) v1⟩ (fun v s=>v=fe r∧look 0 s.r=some ⟨3,1,lm (af .i64) r⟩):=by
 refine kN (c:=cat Tryz.f189 (pn 1)) Tryz.func189 (by kernel_rfl) _ Tryz.ntmps189 (of_decide_eq_true (by kernel_rfl)) fun M w0=>(ba ⟨[(0,.ref 0),(1,iI v2),(2,iI v3),(3,.fn v4.id v4.aK)],[],[(0,⟨3,1,lm (af .i64) v1⟩)],[0,1000000]⟩ ?_);unfold t7 at h;exact ac 3 (bK (p:=pn 6) n (YY hK n h))
end
noncomputable section
variable[GS](M:Nat→Prop)(w0:aB)(r v1:List Int)(v2 v3 v4:Int)(v5:Fv)(v6:Int)(v7:List Int)(m1:Nat)(L1:Int→(List Int)→Option (List Int))
abbrev Fd:Cx:=⟨Tryz.prog,38,M,w0⟩
abbrev D6:=bodyPost Tryz.prog Tryz.f196 (bC M w0 (fun v s=>v=fe r∧look 0 s.r=some ⟨3,1,lm (af .i64) r⟩))
abbrev Uh(ks:List ao)(s:AS):=VE (Fd M w0) (D6 M w0 r) ks .normal s
abbrev Rx(n:Nat):ao:=.c (cat Tryz.f196 (pn n))
abbrev Bh:List ao:=[.b 0]
abbrev QC:List ao:=kl (Fd M w0) (D6 M w0 r) Bh (cat Tryz.f196 (pn 12)) m1::Bh
def Ov:AS:=⟨[(0,.ref 0),(1,iI v2),(2,iI v3),(3,iI v4),(10,iI v6)],[],[(0,⟨3,1,lm (af .i64) v7⟩)],[0,1000000,0]⟩
abbrev Gn:Prop:=∀{v6:Int} {v7:(List Int)},L1 v6 v7=some r→LP (Fd M w0) (D6 M w0 r) Bh (cat Tryz.f196 (pn 12)) m1 (Ov v2 v3 v4 v6 v7)
variable{M w0 r v1 v2 v3 v4 v5 v6 v7 m1 L1}{K:Kn}{n:Nat}
theorem Pw(hK:ak K)(hL1:Gn M w0 r v2 v3 v4 m1 L1)(h:yx K n v2 v3 v4 L1 v6 v7=some r):Uh M w0 r (Rx 12::QC M w0 r m1) (Ov v2 v3 v4 v6 v7):=by
 unfold yx at h;refine av 5 3 3 ?_;obtain⟨h6,h⟩|⟨h6,h⟩:=am h
 ·refine ae 13 h6 (lg 4 1 3 4 (bA [0,1,2,3,10] [] [0] ?_));obtain⟨h7,h⟩:=ax h;obtain⟨h8,h⟩:=ax h;obtain⟨h9,h⟩:=ax h;obtain⟨h10,h⟩:=ax h;exact bw 2 (nu 16 [.ref 0,iI v2,iI v6,iI (aa (v2+v6)),.ref 0,iI v3,iI v6,iI (aa (v3+v6)),.ref 0,iI v3,iI v6,iI (aa (v3+v6)),.eptr 0 1 (((aa (v3+v6))).toNat) 0,iI (gD v7 ((aa (v3+v6)))),.ref 0,iI v2,iI v6,iI (aa (v2+v6)),.eptr 0 1 (((aa (v2+v6))).toNat) 0,iI (gD v7 ((aa (v2+v6)))),.eptr 0 1 (((aa (v2+v6))).toNat) 0,.eptr 0 1 (((aa (v3+v6))).toNat) 0]) [] [] [cV 0 ⟨3,1,lm (af .i64) (List.set v7 ((aa (v2+v6))).toNat (gD v7 ((aa (v3+v6)))))⟩,cV 0 ⟨3,1,lm (af .i64) (List.set (List.set v7 ((aa (v2+v6))).toNat (gD v7 ((aa (v3+v6))))) ((aa (v3+v6))).toNat (gD v7 ((aa (v2+v6)))))⟩] (aq [.v 0 1,.v 0 1,.v 0 1,.v 0 1,.v 0 2,.v 0 2,.v 0 2,.v 0 2,.v 0 1,.v 0 1,.v 0 1,.v 0 1] (aR (bO 0 1 (af .i64) (L:=v7) h7) (aR (br 3 0 (af .i64) (af .i64) (bf h7).2 ((fun _=>rfl))) (aq [.v 0 2,.v 0 2,.v 0 2,.v 0 2] (ag (dm (lo:=0) (k:=2) (cu ⟨(by kernel_rfl),(cw (bO 0 1 (af .i64) (L:=v7) h8) (by kernel_rfl))⟩ (cu ⟨(by kernel_rfl),(cw (bO 0 1 (af .i64) (L:=(List.set v7 ((aa (v2+v6))).toNat (gD v7 ((aa (v3+v6)))))) h8) (by kernel_rfl))⟩ dp))) (aR (br 3 0 (af .i64) (af .i64) (bf h9).2 ((fun _=>rfl))) (aR (bO 0 1 (af .i64) (L:=v7) h9) (ag (cy (m:=0) (cJ 0 3 1 0 (af .i64) (af .i64) (gD v7 ((aa (v3+v6)))) (bf h9).2 ((fun _=>rfl)))) (ag (lA (lo:=1) (bO 0 1 (af .i64) (L:=(List.set v7 ((aa (v2+v6))).toNat (gD v7 ((aa (v3+v6)))))) h10)) (ag (cy (m:=1) (cJ 0 3 1 0 (af .i64) (af .i64) (gD v7 ((aa (v2+v6)))) (bf h10).2 ((fun _=>rfl)))) bz)))))))))) (ac 2 (bc (hL1 h)))
 ·refine ae 13 h6 (bM (ks':=[]) 5 (im ?_));cases h;exact gc
theorem ZM(hK:ak K)(m:Nat):Gn M w0 r v2 v3 v4 m (uj K n v2 v3 v4 m):=by
 induction m with
 | zero=>intro v6 v7 h;cases h
 | succ m ih=>intro v6 v7 h;have h:yx K n v2 v3 v4 (uj K n v2 v3 v4 m) v6 v7=some r:=h;exact aZ (Pw hK ih h)
theorem zV(hK:ak K)(h:qh K n v1 v2 v3 v4 v5=some r):gW Tryz.prog 196 [.ref 0,iI v2,iI v3,iI v4,.fn v5.id v5.aK] 0 ⟨3,1,lm (af .i64) v1⟩ (fun v s=>v=fe r∧look 0 s.r=some ⟨3,1,lm (af .i64) r⟩):=by
 refine kN (c:=cat Tryz.f196 (pn 1)) Tryz.func196 (by kernel_rfl) _ Tryz.ntmps196 (of_decide_eq_true (by kernel_rfl)) fun M w0=>(ba ⟨[(0,.ref 0),(1,iI v2),(2,iI v3),(3,iI v4),(4,.fn v5.id v5.aK)],[],[(0,⟨3,1,lm (af .i64) v1⟩)],[0,1000000]⟩ ?_);unfold qh at h;exact ac 3 (bK (p:=pn 6) n (ZM hK n h))
end
noncomputable section
variable[GS](M:Nat→Prop)(w0:aB)(r v1:List Int)(v2 v3 v4:Int)(v5:Fv)(v11 v12:Int)(v13:List Int)(v16 v17:Int)(v18:List Int)(m1:Nat)(L1:Int→Int→(List Int)→Option (List Int))
abbrev Cd:Cx:=⟨Tryz.prog,58,M,w0⟩
abbrev Fb:=bodyPost Tryz.prog Tryz.f195 (bC M w0 (fun v s=>v=fe r∧look 0 s.r=some ⟨3,1,lm (af .i64) r⟩))
abbrev GC(ks:List ao)(s:AS):=VE (Cd M w0) (Fb M w0 r) ks .normal s
abbrev yQ(n:Nat):ao:=.c (cat Tryz.f195 (pn n))
abbrev zT:List ao:=[.b 0,yQ 15]
abbrev ED:List ao:=kl (Cd M w0) (Fb M w0 r) zT (cat Tryz.f195 (pn 56)) m1::zT
def Vs:AS:=⟨[(0,.ref 0),(2,iI v3),(4,.fn v5.id v5.aK),(10,iI v16),(11,iI v17)],[],[(0,⟨3,1,lm (af .i64) v18⟩)],[0,1000000,0]⟩
def LX:AS:=⟨[(0,.ref 0),(2,iI v3),(4,.fn v5.id v5.aK),(10,iI v11),(11,iI v12)],[],[(0,⟨3,1,lm (af .i64) v13⟩)],[0,1000000,0]⟩
abbrev Dt:Prop:=∀{v11:Int} {v12:Int} {v13:(List Int)},L1 v11 v12 v13=some r→LP (Cd M w0) (Fb M w0 r) zT (cat Tryz.f195 (pn 56)) m1 (LX v3 v5 v11 v12 v13)
variable{M w0 r v1 v2 v3 v4 v5 v11 v12 v13 v16 v17 v18 m1 L1}{K:Kn}{n:Nat}
theorem JQ(hK:ak K)(hL1:Dt M w0 r v3 v5 m1 L1)(h:xC K n v3 v5 L1 v16 v17 v18=some r):GC M w0 r (.b 1::ED M w0 r m1) (Vs v3 v5 v16 v17 v18):=by
 unfold xC at h;exact ac 1 (bc (hL1 h))
theorem Z8(hK:ak K)(hL1:Dt M w0 r v3 v5 m1 L1)(h:q6 K n v3 v5 L1 v11 v12 v13=some r):GC M w0 r (yQ 56::ED M w0 r m1) (LX v3 v5 v11 v12 v13):=by
 unfold q6 at h;refine av 5 3 3 ?_;obtain⟨h5,h⟩|⟨h5,h⟩:=am h
 ·refine ae 20 h5 (bM (ks':=yQ 453 :: .b 1::ED M w0 r m1) 5 ?_);obtain⟨h6,h⟩|⟨h6,h⟩:=am h
  ·refine ae 23 h6 (av 4 5 2 (ai 7 ?_));obtain⟨v14,h7,h⟩:=bind_some h;exact fD 0 0 (zV hK h7) (ab (ac 1 (JQ hK hL1 h)))
  ·refine ae 23 h6 (av 6 7 2 (ai 11 ?_));obtain⟨v15,h8,h⟩:=bind_some h;exact fD 0 0 (zV hK h8) (ab (ac 1 (JQ hK hL1 h)))
 ·refine ae 20 h5 (bM (ks':=[yQ 15]) 5 (ai 7 ?_));obtain⟨v19,h9,h⟩:=bind_some h;refine fD 0 0 (zV hK h9) (ab (im ?_));cases h;exact gc
theorem WO(hK:ak K)(m:Nat):Dt M w0 r v3 v5 m (xG K n v3 v5 m):=by
 induction m with
 | zero=>intro v11 v12 v13 h;cases h
 | succ m ih=>intro v11 v12 v13 h;have h:q6 K n v3 v5 (xG K n v3 v5 m) v11 v12 v13=some r:=h;exact aZ (Z8 hK ih h)
theorem TE(hK:ak K)(h:BM K n v1 v2 v3 v4 v5=some r):gW Tryz.prog 195 [.ref 0,iI v2,iI v3,iI v4,.fn v5.id v5.aK] 0 ⟨3,1,lm (af .i64) v1⟩ (fun v s=>v=fe r∧look 0 s.r=some ⟨3,1,lm (af .i64) r⟩):=by
 refine kN (c:=cat Tryz.f195 (pn 1)) Tryz.func195 (by kernel_rfl) _ Tryz.ntmps195 (of_decide_eq_true (by kernel_rfl)) fun M w0=>(ba ⟨[(0,.ref 0),(1,iI v2),(2,iI v3),(3,iI v4),(4,.fn v5.id v5.aK)],[],[(0,⟨3,1,lm (af .i64) v1⟩)],[0,1000000]⟩ ?_);unfold BM at h;exact ac 6 (bK (p:=pn 28) n (WO hK n h))
end
noncomputable section
variable[GS](M:Nat→Prop)(w0:aB)(r v1:List Int)(v2 v3 v4:Int)(v5:Fv)(v10 v11 v14 v15 v16:Int)(v17:List Int)(v22 v23 v26 v27 v28:Int)(v29:List Int)(v30 v31 v33 v34 v39 v40 v43 v44:Int)(v45:Bool)(v47:List Int)(v48:Bool)(v50:List Int)(v51:Bool)(v53:List Int)(m1 m2 m3 m4 m5:Nat)(L1:Int→Int→Option (List Int))(L2:Int→(List Int)→Option (List Int))(L3:Int→Int→Option (List Int))(L4:Int→(List Int)→Option (List Int))(L5:Int→Int→Option (List Int))
abbrev gG:Cx:=⟨Tryz.prog,220,M,w0⟩
abbrev gF:=bodyPost Tryz.prog Tryz.f190 (bC M w0 (fun v s=>v=fe r∧look 0 s.r=some ⟨3,1,lm (af .i64) r⟩))
abbrev fg(ks:List ao)(s:AS):=VE (gG M w0) (gF M w0 r) ks .normal s
abbrev cZ(n:Nat):ao:=.c (cat Tryz.f190 (pn n))
abbrev D1:List ao:=[.b 2,cZ 175,cZ 3]
abbrev T1:List ao:=kl (gG M w0) (gF M w0 r) D1 (cat Tryz.f190 (pn 1396)) m2::D1
abbrev zj:List ao:=[.b 0,cZ 87,cZ 3]
abbrev En:List ao:=kl (gG M w0) (gF M w0 r) zj (cat Tryz.f190 (pn 344)) m1::zj
abbrev CG:List ao:=[.b 6,cZ 431,cZ 7]
abbrev XE:List ao:=kl (gG M w0) (gF M w0 r) CG (cat Tryz.f190 (pn 3444)) m4::CG
abbrev DE:List ao:=[.b 4,cZ 215,cZ 7]
abbrev CU:List ao:=kl (gG M w0) (gF M w0 r) DE (cat Tryz.f190 (pn 856)) m3::DE
abbrev Av:List ao:=[.b 8,cZ 511]
abbrev zp:List ao:=kl (gG M w0) (gF M w0 r) Av (cat Tryz.f190 (pn 2040)) m5::Av
def OQ:AS:=⟨[(0,.ref 0),(1,iI v2),(4,.fn v5.id v5.aK),(10,iI v14),(11,iI v15)],[],[(0,⟨3,1,lm (af .i64) v1⟩)],[0,1000000,0]⟩
def HB:AS:=⟨[(0,.ref 0),(10,iI v10),(13,iI v16)],[],[(0,⟨3,1,lm (af .i64) v17⟩)],[0,1000000,0]⟩
def GY:AS:=⟨[(0,.ref 0),(1,iI v2),(4,.fn v5.id v5.aK),(10,iI v10),(11,iI v11)],[],[(0,⟨3,1,lm (af .i64) v1⟩)],[0,1000000,0]⟩
def SN:AS:=⟨[(0,.ref 0),(2,iI v3),(4,.fn v5.id v5.aK),(14,iI v26),(15,iI v27)],[],[(0,⟨3,1,lm (af .i64) v1⟩)],[0,1000000,0]⟩
def HF:AS:=⟨[(0,.ref 0),(14,iI v22),(17,iI v28)],[],[(0,⟨3,1,lm (af .i64) v29⟩)],[0,1000000,0]⟩
def NS:AS:=⟨[(0,.ref 0),(2,iI v3),(4,.fn v5.id v5.aK),(14,iI v22),(15,iI v23)],[],[(0,⟨3,1,lm (af .i64) v1⟩)],[0,1000000,0]⟩
def Ym:AS:=⟨[(0,.ref 0),(1,iI v2),(2,iI v3),(3,iI v4),(4,.fn v5.id v5.aK),(18,iI v30),(19,iI v31),(20,iI v43),(21,iI v44),(22,iI (aa (v31-1)))],[],[(0,⟨3,1,lm (af .i64) v1⟩)],[0,1000000,0]⟩
def WA:AS:=⟨[],[],[(0,⟨3,1,lm (af .i64) v53⟩)],[0,1000000,0]⟩
def OF:AS:=⟨[(0,.ref 0),(3,iI v4),(4,.fn v5.id v5.aK),(18,iI v30),(24,iI (aa (v31-v39))),(213,.bool v51)],[],[(0,⟨3,1,lm (af .i64) v50⟩)],[0,1000000,0]⟩
def YB:AS:=⟨[(0,.ref 0),(3,iI v4),(4,.fn v5.id v5.aK),(18,iI v30),(24,iI (aa (v31-v39)))],[],[(0,⟨3,1,lm (af .i64) v50⟩)],[0,1000000,0]⟩
def Wx:AS:=⟨[(0,.ref 0),(1,iI v2),(3,iI v4),(4,.fn v5.id v5.aK),(18,iI v30),(20,iI v39),(24,iI (aa (v31-v39))),(199,.bool v48)],[],[(0,⟨3,1,lm (af .i64) v47⟩)],[0,1000000,0]⟩
def YO:AS:=⟨[(0,.ref 0),(1,iI v2),(3,iI v4),(4,.fn v5.id v5.aK),(18,iI v30),(20,iI v39),(24,iI (aa (v31-v39)))],[],[(0,⟨3,1,lm (af .i64) v47⟩)],[0,1000000,0]⟩
def Ut:AS:=⟨[(0,.ref 0),(1,iI v2),(2,iI v3),(3,iI v4),(4,.fn v5.id v5.aK),(18,iI v30),(20,iI v39),(24,iI (aa (v31-v39))),(185,.bool v45)],[],[(0,⟨3,1,lm (af .i64) v1⟩)],[0,1000000,0]⟩
def IP:AS:=⟨[(0,.ref 0),(1,iI v2),(2,iI v3),(3,iI v4),(4,.fn v5.id v5.aK),(18,iI v30),(19,iI v31),(20,iI v39),(21,iI v40),(22,iI (aa (v31-1)))],[],[(0,⟨3,1,lm (af .i64) v1⟩)],[0,1000000,0]⟩
def Tc:AS:=⟨[(0,.ref 0),(1,iI v2),(2,iI v3),(3,iI v4),(4,.fn v5.id v5.aK),(18,iI v30),(19,iI v31),(20,iI v33),(21,iI v34)],[],[(0,⟨3,1,lm (af .i64) v1⟩)],[0,1000000,0]⟩
abbrev zf:Prop:=∀{v10:Int} {v11:Int},L1 v10 v11=some r→LP (gG M w0) (gF M w0 r) zj (cat Tryz.f190 (pn 344)) m1 (GY v1 v2 v5 v10 v11)
abbrev LN:Prop:=∀{v16:Int} {v17:(List Int)},L2 v16 v17=some r→LP (gG M w0) (gF M w0 r) D1 (cat Tryz.f190 (pn 1396)) m2 (HB v10 v16 v17)
abbrev Fr:Prop:=∀{v22:Int} {v23:Int},L3 v22 v23=some r→LP (gG M w0) (gF M w0 r) DE (cat Tryz.f190 (pn 856)) m3 (NS v1 v3 v5 v22 v23)
abbrev KC:Prop:=∀{v28:Int} {v29:(List Int)},L4 v28 v29=some r→LP (gG M w0) (gF M w0 r) CG (cat Tryz.f190 (pn 3444)) m4 (HF v22 v28 v29)
abbrev A6:Prop:=∀{v39:Int} {v40:Int},L5 v39 v40=some r→LP (gG M w0) (gF M w0 r) Av (cat Tryz.f190 (pn 2040)) m5 (IP v1 v2 v3 v4 v5 v30 v31 v39 v40)
variable{M w0 r v1 v2 v3 v4 v5 v10 v11 v14 v15 v16 v17 v22 v23 v26 v27 v28 v29 v30 v31 v33 v34 v39 v40 v43 v44 v45 v47 v48 v50 v51 v53 m1 m2 m3 m4 m5 L1 L2 L3 L4 L5}{K:Kn}{n:Nat}
theorem Ia(hK:ak K)(hL1:zf M w0 r v1 v2 v5 m1 L1)(h:wE K n v1 v2 v5 L1 v14 v15=some r):fg M w0 r (.b 1::En M w0 r m1) (OQ v1 v2 v5 v14 v15):=by
 unfold wE at h;exact ac 1 (bc (hL1 h))
theorem PS(hK:ak K)(hL2:LN M w0 r v10 m2 L2)(h:xc K n v10 L2 v16 v17=some r):fg M w0 r (cZ 1396::T1 M w0 r m2) (HB v10 v16 v17):=by
 unfold xc at h;refine av 5 3 3 ?_;obtain⟨h19,h⟩|⟨h19,h⟩:=am h
 ·refine ae 58 h19 (lg 4 3 3 4 (bA [0,10,13] [] [0] ?_));obtain⟨h20,h⟩:=ax h;obtain⟨h21,h⟩:=ax h;obtain⟨h22,h⟩:=ax h;obtain⟨h23,h⟩:=ax h;exact bw 2 (nu 61 [.ref 0,iI v16,.ref 0,iI v16,iI (aa (v16+1)),.ref 0,iI v16,iI (aa (v16+1)),.eptr 0 1 (((aa (v16+1))).toNat) 0,iI (gD v17 ((aa (v16+1)))),.ref 0,iI v16,.eptr 0 1 (v16.toNat) 0,iI (gD v17 v16),.eptr 0 1 (v16.toNat) 0,.eptr 0 1 (((aa (v16+1))).toNat) 0]) [] [] [cV 0 ⟨3,1,lm (af .i64) (List.set v17 v16.toNat (gD v17 ((aa (v16+1)))))⟩,cV 0 ⟨3,1,lm (af .i64) (List.set (List.set v17 v16.toNat (gD v17 ((aa (v16+1))))) ((aa (v16+1))).toNat (gD v17 v16))⟩] (aq [.v 0 1,.v 0 1,.v 0 2,.v 0 2,.v 0 2,.v 0 1,.v 0 1,.v 0 1] (aR (bO 0 1 (af .i64) (L:=v17) h20) (aR (br 3 0 (af .i64) (af .i64) (bf h20).2 ((fun _=>rfl))) (aq [.v 0 2,.v 0 2] (ag (dm (lo:=0) (k:=2) (cu ⟨(by kernel_rfl),(cw (bO 0 1 (af .i64) (L:=v17) h21) (by kernel_rfl))⟩ (cu ⟨(by kernel_rfl),(cw (bO 0 1 (af .i64) (L:=(List.set v17 v16.toNat (gD v17 ((aa (v16+1)))))) h21) (by kernel_rfl))⟩ dp))) (aR (br 3 0 (af .i64) (af .i64) (bf h22).2 ((fun _=>rfl))) (aR (bO 0 1 (af .i64) (L:=v17) h22) (ag (cy (m:=0) (cJ 0 3 1 0 (af .i64) (af .i64) (gD v17 ((aa (v16+1)))) (bf h22).2 ((fun _=>rfl)))) (ag (lA (lo:=1) (bO 0 1 (af .i64) (L:=(List.set v17 v16.toNat (gD v17 ((aa (v16+1)))))) h23)) (ag (cy (m:=1) (cJ 0 3 1 0 (af .i64) (af .i64) (gD v17 v16) (bf h23).2 ((fun _=>rfl)))) bz)))))))))) (ac 2 (bc (hL2 h)))
 ·refine ae 58 h19 (aJ 7 ?_);cases h;exact gc
theorem WS(hK:ak K)(m:Nat):LN M w0 r v10 m (s9 K n v10 m):=by
 induction m with
 | zero=>intro v16 v17 h;cases h
 | succ m ih=>intro v16 v17 h;have h:xc K n v10 (s9 K n v10 m) v16 v17=some r:=h;exact aZ (PS hK ih h)
theorem UY(hK:ak K)(hL1:zf M w0 r v1 v2 v5 m1 L1)(h:wd K n v1 v2 v5 L1 v10 v11=some r):fg M w0 r (cZ 344::En M w0 r m1) (GY v1 v2 v5 v10 v11):=by
 unfold wd at h;refine av 5 3 3 ?_;obtain⟨h8,h⟩|⟨h8,h⟩:=am h
 ·refine ae 33 h8 ?_;obtain⟨v12,h9,h⟩:=bF h;refine bm (ks':=cZ 5514::cZ 5515 :: .b 1::En M w0 r m1) 6 ⟨[(0,.ref 0),(1,iI v2),(4,.fn v5.id v5.aK),(10,iI v10),(11,iI v11),(12,iI v12)],[],[(0,⟨3,1,lm (af .i64) v1⟩)],[0,1000000,0]⟩ ?_ (by subst h9;kernel_rfl);obtain⟨h10,h⟩:=ax h;obtain⟨h11,h⟩:=ax h;obtain⟨v13,h12,h⟩:=bind_some h;refine bw 0 (nu 40 [.fn v5.id v5.aK,.ref 0,iI v12,.eptr 0 1 (v12.toNat) 0,iI (gD v1 v12),.ref 0,iI v2,.eptr 0 1 (v2.toNat) 0,iI (gD v1 v2),iI v13,.bool (decide (v13<0))]) [] [] [] (aq (vz 3) (aR (bO 0 1 (af .i64) (L:=v1) h10) (aR (br 3 0 (af .i64) (af .i64) (bf h10).2 ((fun _=>rfl))) (aq (vz 2) (aR (bO 0 1 (af .i64) (L:=v1) h11) (aR (br 3 0 (af .i64) (af .i64) (bf h11).2 ((fun _=>rfl))) (ag (bL 0 1 49 (hK.fA h12).2 (hK.fA h12).1) (aq [.v 0 1] bz)))))))) ?_;obtain⟨h13,h⟩|⟨h13,h⟩:=am h
  ·exact ae 50 h13 (ac 2 (Ia hK hL1 h))
  ·exact ae 50 h13 (ac 2 (Ia hK hL1 h))
 ·exact ae 33 h8 (ac 9 (bK (p:=pn 698) n (WS hK n h)))
theorem Ze(hK:ak K)(m:Nat):zf M w0 r v1 v2 v5 m (rR K n v1 v2 v5 m):=by
 induction m with
 | zero=>intro v10 v11 h;cases h
 | succ m ih=>intro v10 v11 h;have h:wd K n v1 v2 v5 (rR K n v1 v2 v5 m) v10 v11=some r:=h;exact aZ (UY hK ih h)
theorem GJ(hK:ak K)(hL3:Fr M w0 r v1 v3 v5 m3 L3)(h:yE K n v1 v3 v5 L3 v26 v27=some r):fg M w0 r (.b 5::CU M w0 r m3) (SN v1 v3 v5 v26 v27):=by
 unfold yE at h;exact ac 1 (bc (hL3 h))
theorem aaD(hK:ak K)(hL4:KC M w0 r v22 m4 L4)(h:sn K n v22 L4 v28 v29=some r):fg M w0 r (cZ 3444::XE M w0 r m4) (HF v22 v28 v29):=by
 unfold sn at h;refine av 5 3 3 ?_;obtain⟨h42,h⟩|⟨h42,h⟩:=am h
 ·refine ae 110 h42 (lg 4 7 3 4 (bA [0,14,17] [] [0] ?_));obtain⟨h43,h⟩:=ax h;obtain⟨h44,h⟩:=ax h;obtain⟨h45,h⟩:=ax h;obtain⟨h46,h⟩:=ax h;exact bw 2 (nu 113 [.ref 0,iI v28,.ref 0,iI v28,iI (aa (v28-1)),.ref 0,iI v28,iI (aa (v28-1)),.eptr 0 1 (((aa (v28-1))).toNat) 0,iI (gD v29 ((aa (v28-1)))),.ref 0,iI v28,.eptr 0 1 (v28.toNat) 0,iI (gD v29 v28),.eptr 0 1 (v28.toNat) 0,.eptr 0 1 (((aa (v28-1))).toNat) 0]) [] [] [cV 0 ⟨3,1,lm (af .i64) (List.set v29 v28.toNat (gD v29 ((aa (v28-1)))))⟩,cV 0 ⟨3,1,lm (af .i64) (List.set (List.set v29 v28.toNat (gD v29 ((aa (v28-1))))) ((aa (v28-1))).toNat (gD v29 v28))⟩] (aq [.v 0 1,.v 0 1,.v 0 2,.v 0 2,.v 0 2,.v 0 1,.v 0 1,.v 0 1] (aR (bO 0 1 (af .i64) (L:=v29) h43) (aR (br 3 0 (af .i64) (af .i64) (bf h43).2 ((fun _=>rfl))) (aq [.v 0 2,.v 0 2] (ag (dm (lo:=0) (k:=2) (cu ⟨(by kernel_rfl),(cw (bO 0 1 (af .i64) (L:=v29) h44) (by kernel_rfl))⟩ (cu ⟨(by kernel_rfl),(cw (bO 0 1 (af .i64) (L:=(List.set v29 v28.toNat (gD v29 ((aa (v28-1)))))) h44) (by kernel_rfl))⟩ dp))) (aR (br 3 0 (af .i64) (af .i64) (bf h45).2 ((fun _=>rfl))) (aR (bO 0 1 (af .i64) (L:=v29) h45) (ag (cy (m:=0) (cJ 0 3 1 0 (af .i64) (af .i64) (gD v29 ((aa (v28-1)))) (bf h45).2 ((fun _=>rfl)))) (ag (lA (lo:=1) (bO 0 1 (af .i64) (L:=(List.set v29 v28.toNat (gD v29 ((aa (v28-1)))))) h46)) (ag (cy (m:=1) (cJ 0 3 1 0 (af .i64) (af .i64) (gD v29 v28) (bf h46).2 ((fun _=>rfl)))) bz)))))))))) (ac 2 (bc (hL4 h)))
 ·refine ae 110 h42 (aJ 7 ?_);cases h;exact gc
theorem Wu(hK:ak K)(m:Nat):KC M w0 r v22 m (wb K n v22 m):=by
 induction m with
 | zero=>intro v28 v29 h;cases h
 | succ m ih=>intro v28 v29 h;have h:sn K n v22 (wb K n v22 m) v28 v29=some r:=h;exact aZ (aaD hK ih h)
theorem Z2(hK:ak K)(hL3:Fr M w0 r v1 v3 v5 m3 L3)(h:rB K n v1 v3 v5 L3 v22 v23=some r):fg M w0 r (cZ 856::CU M w0 r m3) (NS v1 v3 v5 v22 v23):=by
 unfold rB at h;refine av 5 3 3 ?_;obtain⟨h31,h⟩|⟨h31,h⟩:=am h
 ·refine ae 85 h31 ?_;obtain⟨v24,h32,h⟩:=bF h;refine bm (ks':=cZ 13706::cZ 13707 :: .b 5::CU M w0 r m3) 6 ⟨[(0,.ref 0),(2,iI v3),(4,.fn v5.id v5.aK),(14,iI v22),(15,iI v23),(16,iI v24)],[],[(0,⟨3,1,lm (af .i64) v1⟩)],[0,1000000,0]⟩ ?_ (by subst h32;kernel_rfl);obtain⟨h33,h⟩:=ax h;obtain⟨h34,h⟩:=ax h;obtain⟨v25,h35,h⟩:=bind_some h;refine bw 0 (nu 92 [.fn v5.id v5.aK,.ref 0,iI v3,.eptr 0 1 (v3.toNat) 0,iI (gD v1 v3),.ref 0,iI v24,.eptr 0 1 (v24.toNat) 0,iI (gD v1 v24),iI v25,.bool (decide (v25<0)),.bool (!(decide (v25<0)))]) [] [] [] (aq (vz 3) (aR (bO 0 1 (af .i64) (L:=v1) h33) (aR (br 3 0 (af .i64) (af .i64) (bf h33).2 ((fun _=>rfl))) (aq (vz 2) (aR (bO 0 1 (af .i64) (L:=v1) h34) (aR (br 3 0 (af .i64) (af .i64) (bf h34).2 ((fun _=>rfl))) (ag (bL 0 1 101 (hK.fA h35).2 (hK.fA h35).1) (aq (vz 2) bz)))))))) ?_;obtain⟨h36,h⟩|⟨h36,h⟩:=am h
  ·exact ae 103 h36 (ac 2 (GJ hK hL3 h))
  ·exact ae 103 h36 (ac 2 (GJ hK hL3 h))
 ·exact ae 85 h31 (ac 9 (bK (p:=pn 1722) n (Wu hK n h)))
theorem TI(hK:ak K)(m:Nat):Fr M w0 r v1 v3 v5 m (xY K n v1 v3 v5 m):=by
 induction m with
 | zero=>intro v22 v23 h;cases h
 | succ m ih=>intro v22 v23 h;have h:rB K n v1 v3 v5 (xY K n v1 v3 v5 m) v22 v23=some r:=h;exact aZ (Z2 hK ih h)
theorem Ja(hK:ak K)(hL5:A6 M w0 r v1 v2 v3 v4 v5 v30 v31 m5 L5)(h:wF K n v1 v2 v3 v4 v5 v30 v31 L5 v43 v44=some r):fg M w0 r (.b 9::zp M w0 r m5) (Ym v1 v2 v3 v4 v5 v30 v31 v43 v44):=by
 unfold wF at h;exact ac 1 (bc (hL5 h))
theorem G9(hK:ak K)(h:uv K n v53=some r):fg M w0 r [] (WA v53):=by
 unfold uv at h;refine im ?_;cases h;exact gc
theorem JA(hK:ak K)(h:wh K n v4 v5 v30 v31 v39 v50 v51=some r):fg M w0 r [cZ 8191] (OF v4 v5 v30 v31 v39 v50 v51):=by
 unfold wh at h;obtain⟨h70,h⟩|⟨h70,h⟩:=am h
 ·refine ae 213 h70 (bd 2 1 (ai 5 ?_));obtain⟨v52,h71,h⟩:=bind_some h;exact fD 0 0 (hK.l9 h71) (ab (ac 0 (G9 hK h)))
 ·exact ae 213 h70 (ac 2 (G9 hK h))
theorem G4(hK:ak K)(h:vu K n v4 v5 v30 v31 v39 v50=some r):fg M w0 r [cZ 4095] (YB v4 v5 v30 v31 v39 v50):=by
 unfold vu at h;refine av 2 3 1 (ai 4 ?_);obtain⟨h69,h⟩|⟨h69,h⟩:=am h
 ·exact aC 209 h69 (ab (ac 0 (JA hK h)))
 ·exact aC 209 h69 (ab (ac 0 (JA hK h)))
theorem Nj(hK:ak K)(h:wn K n v2 v4 v5 v30 v31 v39 v47 v48=some r):fg M w0 r [cZ 8189,cZ 4095] (Wx v2 v4 v5 v30 v31 v39 v47 v48):=by
 unfold wn at h;obtain⟨h67,h⟩|⟨h67,h⟩:=am h
 ·refine ae 199 h67 (bd 2 1 (ai 5 ?_));obtain⟨v49,h68,h⟩:=bind_some h;exact fD 0 0 (hK.l9 h68) (ab (ac 0 (G4 hK h)))
 ·exact ae 199 h67 (ac 2 (G4 hK h))
theorem N4(hK:ak K)(h:yA K n v2 v4 v5 v30 v31 v39 v47=some r):fg M w0 r [cZ 2047] (YO v2 v4 v5 v30 v31 v39 v47):=by
 unfold yA at h;refine bN 4 5 3 2 (ai 4 ?_);obtain⟨h66,h⟩|⟨h66,h⟩:=am h
 ·exact aC 195 h66 (ab (ac 0 (Nj hK h)))
 ·exact aC 195 h66 (ab (ac 0 (Nj hK h)))
theorem II(hK:ak K)(h:yG K n v1 v2 v3 v4 v5 v30 v31 v39 v45=some r):fg M w0 r [cZ 4093,cZ 2047] (Ut v1 v2 v3 v4 v5 v30 v31 v39 v45):=by
 unfold yG at h;obtain⟨h64,h⟩|⟨h64,h⟩:=am h
 ·refine ae 185 h64 (bd 2 1 (ai 5 ?_));obtain⟨v46,h65,h⟩:=bind_some h;exact fD 0 0 (TE hK h65) (ab (ac 0 (N4 hK h)))
 ·exact ae 185 h64 (ac 2 (N4 hK h))
theorem VZ(hK:ak K)(hL5:A6 M w0 r v1 v2 v3 v4 v5 v30 v31 m5 L5)(h:yC K n v1 v2 v3 v4 v5 v30 v31 L5 v39 v40=some r):fg M w0 r (cZ 2040::zp M w0 r m5) (IP v1 v2 v3 v4 v5 v30 v31 v39 v40):=by
 unfold yC at h;refine av 5 3 3 ?_;obtain⟨h57,h⟩|⟨h57,h⟩:=am h
 ·refine ae 151 h57 ?_;obtain⟨v41,h58,h⟩:=bF h;refine bm (ks':=cZ 32650::cZ 32651 :: .b 9::zp M w0 r m5) 6 ⟨[(0,.ref 0),(1,iI v2),(2,iI v3),(3,iI v4),(4,.fn v5.id v5.aK),(18,iI v30),(19,iI v31),(20,iI v39),(21,iI v40),(22,iI (aa (v31-1))),(23,iI v41)],[],[(0,⟨3,1,lm (af .i64) v1⟩)],[0,1000000,0]⟩ ?_ (by subst h58;kernel_rfl);obtain⟨h59,h⟩:=ax h;obtain⟨h60,h⟩:=ax h;obtain⟨v42,h61,h⟩:=bind_some h;refine bw 0 (nu 158 [.fn v5.id v5.aK,.ref 0,iI (aa (v31-1)),iI v41,iI (aa ((aa (v31-1))-v41)),.eptr 0 1 (((aa ((aa (v31-1))-v41))).toNat) 0,iI (gD v1 ((aa ((aa (v31-1))-v41)))),.ref 0,iI v41,.eptr 0 1 (v41.toNat) 0,iI (gD v1 v41),iI v42,.bool (decide (v42<0)),.bool (!(decide (v42<0)))]) [] [] [] (aq (vz 5) (aR (bO 0 1 (af .i64) (L:=v1) h59) (aR (br 3 0 (af .i64) (af .i64) (bf h59).2 ((fun _=>rfl))) (aq (vz 2) (aR (bO 0 1 (af .i64) (L:=v1) h60) (aR (br 3 0 (af .i64) (af .i64) (bf h60).2 ((fun _=>rfl))) (ag (bL 0 1 169 (hK.fA h61).2 (hK.fA h61).1) (aq (vz 2) bz)))))))) ?_
  obtain⟨h62,h⟩|⟨h62,h⟩:=am h
  ·exact ae 171 h62 (ac 2 (Ja hK hL5 h))
  ·exact ae 171 h62 (ac 2 (Ja hK hL5 h))
 ·refine ae 151 h57 (mj 12 13 7 9 (ai 4 ?_));obtain⟨h63,h⟩|⟨h63,h⟩:=am h
  ·exact aC 181 h63 (ab (ac 0 (II hK h)))
  ·exact aC 181 h63 (ab (ac 0 (II hK h)))
theorem PO(hK:ak K)(m:Nat):A6 M w0 r v1 v2 v3 v4 v5 v30 v31 m (rf K n v1 v2 v3 v4 v5 v30 v31 m):=by
 induction m with
 | zero=>intro v39 v40 h;cases h
 | succ m ih=>intro v39 v40 h;have h:yC K n v1 v2 v3 v4 v5 v30 v31 (rf K n v1 v2 v3 v4 v5 v30 v31 m) v39 v40=some r:=h;exact aZ (VZ hK ih h)
theorem KV(hK:ak K)(h:we K n v1 v2 v3 v4 v5 v30 v31 v33 v34=some r):fg M w0 r [cZ 127] (Tc v1 v2 v3 v4 v5 v30 v31 v33 v34):=by
 unfold we at h;exact ac 4 (bK (p:=pn 1020) n (PO hK n h))
theorem B1(hK:ak K)(h:nV K n v1 v2 v3 v4 v5=some r):gW Tryz.prog 190 [.ref 0,iI v2,iI v3,iI v4,.fn v5.id v5.aK] 0 ⟨3,1,lm (af .i64) v1⟩ (fun v s=>v=fe r∧look 0 s.r=some ⟨3,1,lm (af .i64) r⟩):=by
 refine kN (c:=cat Tryz.f190 (pn 1)) Tryz.func190 (by kernel_rfl) _ Tryz.ntmps190 (of_decide_eq_true (by kernel_rfl)) fun M w0=>(ba ⟨[(0,.ref 0),(1,iI v2),(2,iI v3),(3,iI v4),(4,.fn v5.id v5.aK)],[],[(0,⟨3,1,lm (af .i64) v1⟩)],[0,1000000]⟩ ?_);unfold nV at h;refine av 5 3 3 ?_;obtain⟨h1,h⟩|⟨h1,h⟩:=am h
 ·exact ae 28 h1 (ac 7 (bK (p:=pn 172) n (Ze hK n h)))
 ·refine ae 28 h1 (dQ 5 3 5 ?_);obtain⟨h24,h⟩|⟨h24,h⟩:=am h
  ·exact ae 80 h24 (ac 7 (bK (p:=pn 428) n (TI hK n h)))
  ·refine ae 80 h24 ?_;obtain⟨v30,h47,h⟩:=bF h;obtain⟨v31,h48,h⟩:=bF h;obtain⟨v32,h49,h⟩:=bF h;refine bm (ks':=[cZ 253,cZ 127]) 11 ⟨[(0,.ref 0),(1,iI v2),(2,iI v3),(3,iI v4),(4,.fn v5.id v5.aK),(18,iI v30),(19,iI v31),(140,.bool v32)],[],[(0,⟨3,1,lm (af .i64) v1⟩)],[0,1000000,0]⟩ ?_ (by subst h49;subst h48;subst h47;kernel_rfl);obtain⟨h50,h⟩|⟨h50,h⟩:=am h
   ·exact ae 140 h50 (ac 4 (KV hK h))
   ·exact ae 140 h50 (ac 4 (KV hK h))
end
noncomputable section
variable[GS](M:Nat→Prop)(w0:aB)(r v1:List Int)(v2:Int)(v3:Fv)(v5 v6:Int)(v7:List Int)(v17:Int)(v18:List Int)(v20 v21:Int)(v22 v25:(List Int))(m1 m2 m3:Nat)(L1:Int→Int→(List Int)→Option (List Int))(L2:Int→(List Int)→Option (List Int))(L3:Int→Int→(List Int)→Option (List Int))
abbrev kz:Cx:=⟨Tryz.prog,63,M,w0⟩
abbrev lJ:=bodyPost Tryz.prog Tryz.f182 (bC M w0 (fun v s=>v=fe r∧look 0 s.r=some ⟨3,1,lm (af .i64) r⟩))
abbrev ub(ks:List ao)(s:AS):=VE (kz M w0) (lJ M w0 r) ks .normal s
abbrev iA(n:Nat):ao:=.c (cat Tryz.f182 (pn n))
abbrev E6:List ao:=[.b 2]
abbrev Dl:List ao:=kl (kz M w0) (lJ M w0 r) E6 (cat Tryz.f182 (pn 124)) m2::E6
abbrev Ek:List ao:=[.b 0,iA 15]
abbrev Mf:List ao:=kl (kz M w0) (lJ M w0 r) Ek (cat Tryz.f182 (pn 56)) m1::Ek
abbrev AU:List ao:=.b 4::iA 1995 :: .b 3::Dl M w0 r m2
abbrev HZ:List ao:=kl (kz M w0) (lJ M w0 r) (AU M w0 r m2) (cat Tryz.f182 (pn 7976)) m3::(AU M w0 r m2)
def Tz:AS:=⟨[(0,.ref 0),(1,iI v2),(2,.fn v3.id v3.aK),(6,iI v17)],[],[(0,⟨3,1,lm (af .i64) v25⟩)],[0,1000000,0]⟩
def Jr:AS:=⟨[(0,.ref 0),(1,iI v2),(2,.fn v3.id v3.aK),(6,iI v17),(7,iI v20),(8,iI v21)],[],[(0,⟨3,1,lm (af .i64) v22⟩)],[0,1000000,0]⟩
def Ku:AS:=⟨[(0,.ref 0),(1,iI v2),(2,.fn v3.id v3.aK),(6,iI v17)],[],[(0,⟨3,1,lm (af .i64) v18⟩)],[0,1000000,0]⟩
def IQ:AS:=⟨[(0,.ref 0),(1,iI v2),(2,.fn v3.id v3.aK),(6,iI 20),(7,iI v5),(8,iI v6)],[],[(0,⟨3,1,lm (af .i64) v7⟩)],[0,1000000,0]⟩
abbrev Kz:Prop:=∀{v5:Int} {v6:Int} {v7:(List Int)},L1 v5 v6 v7=some r→LP (kz M w0) (lJ M w0 r) Ek (cat Tryz.f182 (pn 56)) m1 (IQ v2 v3 v5 v6 v7)
abbrev ou:Prop:=∀{v17:Int} {v18:(List Int)},L2 v17 v18=some r→LP (kz M w0) (lJ M w0 r) E6 (cat Tryz.f182 (pn 124)) m2 (Ku v2 v3 v17 v18)
abbrev JS:Prop:=∀{v20:Int} {v21:Int} {v22:(List Int)},L3 v20 v21 v22=some r→LP (kz M w0) (lJ M w0 r) (AU M w0 r m2) (cat Tryz.f182 (pn 7976)) m3 (Jr v2 v3 v17 v20 v21 v22)
variable{M w0 r v1 v2 v3 v5 v6 v7 v17 v18 v20 v21 v22 v25 m1 m2 m3 L1 L2 L3}{K:Kn}{n:Nat}
theorem Mw(hK:ak K)(hL2:ou M w0 r v2 v3 m2 L2)(h:wA K n v2 v3 v17 L2 v25=some r):ub M w0 r (iA 3991 :: .b 3::Dl M w0 r m2) (Tz v2 v3 v17 v25):=by
 unfold wA at h;exact ac 2 (bc (hL2 h))
theorem TA(hK:ak K)(hL2:ou M w0 r v2 v3 m2 L2)(hL3:JS M w0 r v2 v3 v17 m2 m3 L3)(h:sh K n v2 v3 v17 L2 L3 v20 v21 v22=some r):ub M w0 r (iA 7976::HZ M w0 r m2 m3) (Jr v2 v3 v17 v20 v21 v22):=by
 unfold sh at h;refine av 5 3 3 ?_;obtain⟨h16,h⟩|⟨h16,h⟩:=am h
 ·refine ae 35 h16 (bM (ks':=iA 63812::iA 63813 :: .b 5::HZ M w0 r m2 m3) 4 (ai 7 ?_));obtain⟨v23,h17,h⟩:=bind_some h;exact fD 0 0 (B1 hK h17) (ab (ac 4 (bc (hL3 h))))
 ·refine ae 35 h16 (eI 11 3 10 ?_);obtain⟨h18,h⟩|⟨h18,h⟩:=am h
  ·refine ae 54 h18 (bd 2 1 (ai 5 ?_));obtain⟨v24,h19,h⟩:=bind_some h;exact fD 0 0 (B1 hK h19) (ab (ac 0 (Mw hK hL2 h)))
  ·exact ae 54 h18 (ac 2 (Mw hK hL2 h))
theorem RZ(hK:ak K)(hL2:ou M w0 r v2 v3 m2 L2)(m:Nat):JS M w0 r v2 v3 v17 m2 m (sk K n v2 v3 v17 L2 m):=by
 induction m with
 | zero=>intro v20 v21 v22 h;cases h
 | succ m ih=>intro v20 v21 v22 h;have h:sh K n v2 v3 v17 L2 (sk K n v2 v3 v17 L2 m) v20 v21 v22=some r:=h;exact aZ (TA hK hL2 ih h)
theorem Pa(hK:ak K)(hL2:ou M w0 r v2 v3 m2 L2)(h:wK K n v2 v3 L2 v17 v18=some r):ub M w0 r (iA 124::Dl M w0 r m2) (Ku v2 v3 v17 v18):=by
 unfold wK at h;refine av 5 3 3 ?_;obtain⟨h13,h⟩|⟨h13,h⟩:=am h
 ·exact ae 30 h13 (ac 7 (bK (p:=pn 3988) n (RZ hK hL2 n h)))
 ·refine ae 30 h13 (bM (ks':=[]) 5 (im ?_));cases h;exact gc
theorem Xd(hK:ak K)(m:Nat):ou M w0 r v2 v3 m (tY K n v2 v3 m):=by
 induction m with
 | zero=>intro v17 v18 h;cases h
 | succ m ih=>intro v17 v18 h;have h:wK K n v2 v3 (tY K n v2 v3 m) v17 v18=some r:=h;exact aZ (Pa hK ih h)
theorem W8(hK:ak K)(hL1:Kz M w0 r v2 v3 m1 L1)(h:yS K n v2 v3 L1 v5 v6 v7=some r):ub M w0 r (iA 56::Mf M w0 r m1) (IQ v2 v3 v5 v6 v7):=by
 unfold yS at h;refine av 5 3 3 ?_;obtain⟨h3,h⟩|⟨h3,h⟩:=am h
 ·refine ae 13 h3 (bM (ks':=iA 452::iA 453 :: .b 1::Mf M w0 r m1) 4 (ai 4 ?_));obtain⟨v8,h4,h⟩:=bind_some h;exact fD 0 0 (I5 hK h4) (ab (ac 4 (bc (hL1 h))))
 ·refine ae 13 h3 (eI 2 3 6 (ai 4 ?_));obtain⟨v9,h5,h⟩:=bind_some h;exact fD 0 0 (I5 hK h5) (ab (ac 1 (bK (p:=pn 62) n (Xd hK n h))))
theorem Zb(hK:ak K)(m:Nat):Kz M w0 r v2 v3 m (sa K n v2 v3 m):=by
 induction m with
 | zero=>intro v5 v6 v7 h;cases h
 | succ m ih=>intro v5 v6 v7 h;have h:yS K n v2 v3 (sa K n v2 v3 m) v5 v6 v7=some r:=h;exact aZ (W8 hK ih h)
theorem Qd(hK:ak K)(h:CH K n v1 v2 v3=some r):gW Tryz.prog 182 [.ref 0,iI v2,.fn v3.id v3.aK] 0 ⟨3,1,lm (af .i64) v1⟩ (fun v s=>v=fe r∧look 0 s.r=some ⟨3,1,lm (af .i64) r⟩):=by
 refine kN (c:=cat Tryz.f182 (pn 1)) Tryz.func182 (by kernel_rfl) _ Tryz.ntmps182 (of_decide_eq_true (by kernel_rfl)) fun M w0=>(ba ⟨[(0,.ref 0),(1,iI v2),(2,.fn v3.id v3.aK)],[],[(0,⟨3,1,lm (af .i64) v1⟩)],[0,1000000]⟩ ?_);unfold CH at h;exact ac 6 (bK (p:=pn 28) n (Zb hK n h))
end
noncomputable section
variable[GS](M:Nat→Prop)(w0:aB)(r v1:List Int)(v2:Fv)  
variable{M w0 r v1 v2}{K:Kn}{n:Nat}
theorem Nv(hK:ak K)(h:vG K n v1 v2=some r):gW Tryz.prog 164 [.ref 0,.fn v2.id v2.aK] 0 ⟨3,1,lm (af .i64) v1⟩ (fun v s=>v=fe r∧look 0 s.r=some ⟨3,1,lm (af .i64) r⟩):=by
 refine kN (c:=cat Tryz.f164 (pn 1)) Tryz.func164 (by kernel_rfl) _ Tryz.ntmps164 (of_decide_eq_true (by kernel_rfl)) fun M w0=>(ba ⟨[(0,.ref 0),(1,.fn v2.id v2.aK)],[],[(0,⟨3,1,lm (af .i64) v1⟩)],[0,1000000]⟩ ?_);unfold vG at h;refine ai 2 (au (bj (af .i64) v1) (aO 4 1 ?_));obtain⟨v3,h1,h⟩:=bind_some h;refine fD 0 0 (Qd hK h1) (ab (im ?_));cases h;exact gc
end
noncomputable section
variable[GS](M:Nat→Prop)(w0:aB)(r:Bool)(v1:ah)(v2:Bool)  
abbrev Qk(n:Nat):ao:=.c (cat Tryz.f171 (pn n))
abbrev Uw:Cx:=⟨Tryz.prog,12,M,w0⟩
abbrev Xp:=bodyPost Tryz.prog Tryz.f171 (bC M w0 (fun v _=>v=.bool r))
abbrev UH(ks:List ao)(s:AS):=VE (Uw M w0) (Xp M w0 r) ks .normal s
def Rj:AS:=⟨[(2,.bool v2)],[],[],[]⟩
variable{M w0 r v1 v2}{K:Kn}{n:Nat}
theorem Kl(hK:ak K)(h:vb K n v2=some r):UH M w0 r [Qk 7] (Rj v2):=by
 unfold vb at h;refine aJ 1 ?_;cases h;exact bp
theorem CI(hK:ak K)(h:qd K n v1=some r):aW Tryz.prog 171 [.agg (ap v1)] (fun v _=>v=.bool r):=by
 refine bB (cat Tryz.f171 (pn 1)) Tryz.func171 Tryz.ntmps171 fun M w0=>(ba ⟨[(0,.agg (ap v1))],[],[],[]⟩ ?_);unfold qd at h;refine av 6 7 3 (ai 4 ?_);obtain⟨h1,h⟩|⟨h1,h⟩:=am h
 ·exact aC 6 h1 (ab (ac 0 (Kl hK h)))
 ·exact aC 6 h1 (ab (ac 0 (Kl hK h)))
end
noncomputable section
variable[GS](M:Nat→Prop)(w0:aB)(r:Bool)(v1:Int)  
variable{M w0 r v1}{K:Kn}{n:Nat}
theorem NU(hK:ak K)(h:sW K n v1=some r):aW Tryz.prog 183 [iI v1] (fun v _=>v=.bool r):=by
 refine bB (cat Tryz.f183 (pn 1)) Tryz.func183 Tryz.ntmps183 fun M w0=>(ba ⟨[(0,iI v1)],[],[],[]⟩ ?_);unfold sW at h;refine aJ 5 ?_;cases h;exact bp
end
noncomputable section
variable[GS](M:Nat→Prop)(w0:aB)(r:Int)(v1 v2:Int)  
variable{M w0 r v1 v2}{K:Kn}{n:Nat}
theorem KY(hK:ak K)(h:sw K n v1 v2=some r):aW Tryz.prog 166 [iI v1,iI v2] (fun v _=>v=iI r):=by
 refine bB (cat Tryz.f166 (pn 1)) Tryz.func166 Tryz.ntmps166 fun M w0=>(ba ⟨[(0,iI v1),(1,iI v2)],[],[],[]⟩ ?_);unfold sw at h;refine av 6 7 3 (ai 1 ?_);obtain⟨v3,h1,h⟩:=bind_some h;refine aP (NU hK h1) (ab (av 2 3 1 (ai 1 ?_)));obtain⟨v4,h2,h⟩:=bind_some h;refine aP (NU hK h2) (ab (av 5 3 3 ?_));obtain⟨h3,h⟩|⟨h3,h⟩:=am h
 ·refine ae 11 h3 (av 9 5 4 ?_);obtain⟨h4,h⟩|⟨h4,h⟩:=am h
  ·refine ae 12 h4 (aJ 6 ?_);cases h;exact bp
  ·refine ae 12 h4 (aJ 6 ?_);cases h;exact bp
 ·refine ae 11 h3 (dQ 5 3 5 ?_);obtain⟨h5,h⟩|⟨h5,h⟩:=am h
  ·refine ae 13 h5 (aJ 5 ?_);cases h;exact bp
  ·refine ae 13 h5 (dQ 5 3 5 ?_);obtain⟨h6,h⟩|⟨h6,h⟩:=am h
   ·refine ae 16 h6 (aJ 5 ?_);cases h;exact bp
   ·refine ae 16 h6 (dQ 5 3 5 ?_);obtain⟨h7,h⟩|⟨h7,h⟩:=am h
    ·refine ae 19 h7 (aJ 5 ?_);cases h;exact bp
    ·refine ae 19 h7 (aJ 5 ?_);cases h;exact bp
end
noncomputable section
variable[GS](M:Nat→Prop)(w0:aB)(r:Int)(v1 v2:Int)(v3:List ah)  
variable{M w0 r v1 v2 v3}{K:Kn}{n:Nat}
theorem V5(hK:ak K)(h:B7 K n v1 v2 v3=some r):aW Tryz.prog 172 [iI v1,iI v2,.cptr ([.sl (lm aF v3)])] (fun v _=>v=iI r):=by
 refine bB (cat Tryz.f172 (pn 1)) Tryz.func172 Tryz.ntmps172 fun M w0=>(ba ⟨[(0,iI v1),(1,iI v2),(2,.cptr ([.sl (lm aF v3)]))],[],[],[]⟩ ?_);unfold B7 at h;refine av 6 7 3 (bA [0,1,2] [] [] ?_);obtain⟨h1,h⟩:=ax h;obtain⟨h2,h⟩:=ax h;obtain⟨v4,h3,h⟩:=bind_some h;refine bw 1 (nu 6 [.sl (lm aF v3),iI v1,.cptr (ap (gD v3 v1)),.cptr (List.drop 2 (ap (gD v3 v1))),.cptr (List.drop 48 (List.drop 2 (ap (gD v3 v1)))),iI (((gD v3 v1).Style).Order),.sl (lm aF v3),iI v2,.cptr (ap (gD v3 v2)),.cptr (List.drop 2 (ap (gD v3 v2))),.cptr (List.drop 48 (List.drop 2 (ap (gD v3 v2)))),iI (((gD v3 v2).Style).Order),iI v4]) [] [] [bS Tryz.prog 19 Tryz.f172 (pn 6) 13] (aq (vz 2) (aR (bu aF ap h1 (dE) (cX)) (aq (vz 5) (aR (bu aF ap h2 (dE) (cX)) (aq (vz 3) (ag (bL 0 1 18 (KY hK h3)) (ag (bU 0) bz))))))) (aJ 1 ?_);cases h;exact bp
end
noncomputable section
variable[GS](M:Nat→Prop)(w0:aB)(r:List Int)(v1:List ah)(v6:Int)(v7 v9:(List Int))(m1:Nat)(L1:Int→(List Int)→Option (List Int))
abbrev zn:Cx:=⟨Tryz.prog,24,M,w0⟩
abbrev Ei:=bodyPost Tryz.prog Tryz.f146 (bC M w0 (fun v s=>v=.ref 18∧look 18 s.r=some ⟨3,1,lm (af .i64) r⟩))
abbrev LS(ks:List ao)(s:AS):=VE (zn M w0) (Ei M w0 r) ks .normal s
abbrev EO(n:Nat):ao:=.c (cat Tryz.f146 (pn n))
abbrev Er:List ao:=[.b 0,EO 15]
abbrev I9:List ao:=kl (zn M w0) (Ei M w0 r) Er (cat Tryz.f146 (pn 116)) m1::Er
def Ry:AS:=⟨[(1,.ptr 1 0),(3,.ref 18),(6,.sl (lm aF v1)),(7,iI (v1.length:Int)),(8,iI v6)],[(1,[.sl (lm aF v1)])],[(18,⟨3,1,lm (af .i64) v9⟩)],[1,18]⟩
def Ms:AS:=⟨[(1,.ptr 1 0),(3,.ref 18),(6,.sl (lm aF v1)),(7,iI (v1.length:Int)),(8,iI v6)],[(1,[.sl (lm aF v1)])],[(18,⟨3,1,lm (af .i64) v7⟩)],[1,18]⟩
abbrev FM:Prop:=∀{v6:Int} {v7:(List Int)},L1 v6 v7=some r→LP (zn M w0) (Ei M w0 r) Er (cat Tryz.f146 (pn 116)) m1 (Ms v1 v6 v7)
variable{M w0 r v1 v6 v7 v9 m1 L1}{K:Kn}{n:Nat}
theorem NE(hK:ak K)(hL1:FM M w0 r v1 m1 L1)(h:qX K n v1 v6 L1 v9=some r):LS M w0 r (.b 1::EO 935::I9 M w0 r m1) (Ry v1 v6 v9):=by
 unfold qX at h;exact ac 2 (bc (hL1 h))
theorem Yo(hK:ak K)(hL1:FM M w0 r v1 m1 L1)(h:sf K n v1 L1 v6 v7=some r):LS M w0 r (EO 116::I9 M w0 r m1) (Ms v1 v6 v7):=by
 unfold sf at h;refine av 6 7 3 ?_;obtain⟨h11,h⟩|⟨h11,h⟩:=am h
 ·refine ae 9 h11 (cr 8 9 1 3 5 (ai 1 ?_));obtain⟨h12,h⟩:=ax h;refine au (bu aF ap h12 (dE) (cX)) (ab (av 2 3 1 (ai 1 ?_)));obtain⟨v8,h13,h⟩:=bind_some h;refine aP (CI hK h13) (ab ?_);obtain⟨h14,h⟩|⟨h14,h⟩:=am h
  ·refine ae 14 h14 (bd 2 1 (ai 3 ?_));obtain⟨h15,h⟩:=ax h;exact au (cc 18 18 3 1 (af .i64) (rfl) ((fun _=>rfl)) h15) (ab (ac 0 (NE hK hL1 h)))
  ·exact ae 14 h14 (ac 2 (NE hK hL1 h))
 ·refine ae 9 h11 (eI 2 3 6 (ai 1 (jU 1 1 ([.sl (lm aF v1)]) (mS 172 #[(.tmp 1)] [.cptr ([.sl (lm aF v1)])] ?_))));obtain⟨v10,h16,h⟩:=bind_some h;refine fD 18 0 (Nv hK h16) (ab (aJ 3 ?_));cases h;exact dk
theorem WN(hK:ak K)(m:Nat):FM M w0 r v1 m (yF K n v1 m):=by
 induction m with
 | zero=>intro v6 v7 h;cases h
 | succ m ih=>intro v6 v7 h;have h:sf K n v1 (yF K n v1 m) v6 v7=some r:=h;exact aZ (Yo hK ih h)
theorem RE(hK:ak K)(h:C8 K n v1=some r):aW Tryz.prog 146 [.sl (lm aF v1)] (fun v s=>v=.ref 18∧look 18 s.r=some ⟨3,1,lm (af .i64) r⟩):=by
 refine bB (cat Tryz.f146 (pn 1)) Tryz.func146 Tryz.ntmps146 fun M w0=>(ba ⟨[(0,.sl (lm aF v1))],[],[],[]⟩ ?_);unfold C8 at h;exact bN 28 29 15 6 (ai 1 (au (bj aF v1) (ab (eW 2 0 1 (bA [1,3,6,7,8] [1] [] (dw 18 3 3 1 (ac 0 (bK (p:=pn 58) n (WN hK n h)))))))))
end
noncomputable section
variable[GS](M:Nat→Prop)(w0:aB)(r:List ah)(v1:ah)(v2:List Int)(v3:Int)(v4:List ah)(m1:Nat)(L1:Int→(List ah)→Option (List ah))
abbrev Fx:Cx:=⟨Tryz.prog,24,M,w0⟩
abbrev Fi:=bodyPost Tryz.prog Tryz.f102 (bC M w0 (fun v s=>v=.ref 21∧look 21 s.r=some ⟨48,59,lm aF r⟩))
abbrev Q2(ks:List ao)(s:AS):=VE (Fx M w0) (Fi M w0 r) ks .normal s
abbrev KI(n:Nat):ao:=.c (cat Tryz.f102 (pn n))
abbrev FJ:List ao:=[.b 0,KI 15]
abbrev ZT:List ao:=kl (Fx M w0) (Fi M w0 r) FJ (cat Tryz.f102 (pn 116)) m1::FJ
def Na:AS:=⟨[(1,.ptr 1 0),(3,.ref 21),(8,.ref 1008),(9,iI (v2.length:Int)),(10,iI v3)],[(1,ap v1)],[(21,⟨48,59,lm aF v4⟩),(1008,⟨3,1,lm (af .i64) v2⟩)],[1,21,1008]⟩
abbrev N5:Prop:=∀{v3:Int} {v4:(List ah)},L1 v3 v4=some r→LP (Fx M w0) (Fi M w0 r) FJ (cat Tryz.f102 (pn 116)) m1 (Na v1 v2 v3 v4)
variable{M w0 r v1 v2 v3 v4 m1 L1}{K:Kn}{n:Nat}
theorem W1(hK:ak K)(hL1:N5 M w0 r v1 v2 m1 L1)(h:vY K n v1 v2 L1 v3 v4=some r):Q2 M w0 r (KI 116::ZT M w0 r m1) (Na v1 v2 v3 v4):=by
 unfold vY at h;refine av 6 7 3 ?_;obtain⟨h10,h⟩|⟨h10,h⟩:=am h
 ·refine ae 11 h10 (cr 8 9 1 3 5 (ai 0 ?_));obtain⟨h11,h⟩:=ax h;refine au (ca 1008 1 (af .i64) h11) (au (br 3 0 (af .i64) (af .i64) (bf h11).2 ((fun _=>rfl))) (ab (ai 4 ?_)));obtain⟨h12,h⟩:=ax h;refine au (bu aF ap h12 (dE) (cX)) (aO 6 1 (au (eJ aF ([(gD v1.Kids ((gD v2 v3)))]:List ah) (new:=[ap (gD v1.Kids ((gD v2 v3)))]) (by simp only[List.map_cons,List.map_nil,cX])) ?_));obtain⟨h13,h⟩:=ax h;exact au (cc 21 21 48 59 aF (rfl) (dE) h13) (ab (ac 2 (bc (hL1 h))))
 ·refine ae 11 h10 (aJ 8 ?_);cases h;exact dk
theorem SD(hK:ak K)(m:Nat):N5 M w0 r v1 v2 m (vD K n v1 v2 m):=by
 induction m with
 | zero=>intro v3 v4 h;cases h
 | succ m ih=>intro v3 v4 h;have h:vY K n v1 v2 (vD K n v1 v2 m) v3 v4=some r:=h;exact aZ (W1 hK ih h)
theorem FH(hK:ak K)(h:qP K n v1=some r):aW Tryz.prog 102 [.agg (ap v1)] (fun v s=>v=.ref 21∧look 21 s.r=some ⟨48,59,lm aF r⟩):=by
 refine bB (cat Tryz.f102 (pn 1)) Tryz.func102 Tryz.ntmps102 fun M w0=>(ba ⟨[(0,.agg (ap v1))],[],[],[]⟩ ?_);unfold qP at h;refine bN 28 29 15 6 (ai 2 ?_);obtain⟨v2,h1,h⟩:=bind_some h;exact dI 1008 (RE hK h1) (dt 18) (au (bj (af .i64) v2) (ab (eW 2 0 1 (bA [1,3,8,9,10] [1] [1008] (dw 21 3 48 59 (ac 0 (bK (p:=pn 58) n (SD hK n h))))))))
end
noncomputable section
variable[GS](M:Nat→Prop)(w0:aB)(r:Int)(v1:bn)  
variable{M w0 r v1}{K:Kn}{n:Nat}
theorem jl(hK:ak K)(h:gt K n v1=some r):aW Tryz.prog 126 [.agg (cC v1)] (fun v _=>v=iI r):=by
 refine bB (cat Tryz.f126 (pn 1)) Tryz.func126 Tryz.ntmps126 fun M w0=>(ba ⟨[(0,.agg (cC v1))],[],[],[]⟩ ?_);unfold gt at h;refine aJ 5 ?_;cases h;exact bp
end
noncomputable section
variable[GS](M:Nat→Prop)(w0:aB)(r:Int)(v1:aj)  
variable{M w0 r v1}{K:Kn}{n:Nat}
theorem M9(hK:ak K)(h:tE K n v1=some r):aW Tryz.prog 127 [.agg (aI v1)] (fun v _=>v=iI r):=by
 refine bB (cat Tryz.f127 (pn 1)) Tryz.func127 Tryz.ntmps127 fun M w0=>(ba ⟨[(0,.agg (aI v1))],[],[],[]⟩ ?_);unfold tE at h;refine av 13 7 5 ?_;obtain⟨h1,h⟩|⟨h1,h⟩:=am h
 ·refine ae 4 h1 (aJ 5 ?_);cases h;exact bp
 ·refine ae 4 h1 (dQ 2 3 3 (ai 2 ?_));obtain⟨v2,h2,h⟩:=bind_some h;refine aP (jl hK h2) (ab (aJ 1 ?_));cases h;exact bp
end
noncomputable section
variable[GS](M:Nat→Prop)(w0:aB)(r:Int)(v1 v2:Int)  
variable{M w0 r v1 v2}{K:Kn}{n:Nat}
theorem iM(hK:ak K)(h:gp K n v1 v2=some r):aW Tryz.prog 104 [iI v1,iI v2] (fun v _=>v=iI r):=by
 refine bB (cat Tryz.f104 (pn 1)) Tryz.func104 Tryz.ntmps104 fun M w0=>(ba ⟨[(0,iI v1),(1,iI v2)],[],[],[]⟩ ?_);unfold gp at h;refine aJ 5 ?_;cases h;exact bp
end
noncomputable section
variable[GS](M:Nat→Prop)(w0:aB)(r v1:bZ)  
variable{M w0 r v1}{K:Kn}{n:Nat}
theorem LQ(hK:ak K)(h:tN K n v1=some r):aW Tryz.prog 159 [.agg (bV v1)] (fun v _=>v=.agg (bV r)):=by
 refine bB (cat Tryz.f159 (pn 1)) Tryz.func159 Tryz.ntmps159 fun M w0=>(ba ⟨[(0,.agg (bV v1))],[],[],[]⟩ ?_);unfold tN at h;refine av 6 7 3 (ai 2 ?_);obtain⟨v2,h1,h⟩:=bind_some h;refine aP (iM hK h1) (ab (av 2 3 1 (ai 2 ?_)));obtain⟨v3,h2,h⟩:=bind_some h;refine aP (iM hK h2) (ab (av 2 3 1 (ai 2 ?_)));obtain⟨v4,h3,h⟩:=bind_some h;refine aP (iM hK h3) (ab (av 2 3 1 (ai 2 ?_)));obtain⟨v5,h4,h⟩:=bind_some h;refine aP (iM hK h4) (ab (av 2 3 1 (bA [1,2] [1,2] [] ?_)));obtain⟨v6,h5,h⟩:=bind_some h;refine bw 1 (nu 19 [.ptr 1 4,iI v1.Max,iI v6,.ptr 1 3,iI v5,iI (max v6 v5),.ptr 1 4]) [] [] [bS Tryz.prog 27 Tryz.f159 (pn 126) 7] (aq (vz 2) (ag (bL 0 1 21 (iM hK h5)) (aq (vz 4) (ag (bU 0) bz)))) (aJ 3 ?_);cases h;exact bp
end
noncomputable section
variable[GS](M:Nat→Prop)(w0:aB)(r:Int)(v1:bZ)(v2:Int)  
variable{M w0 r v1 v2}{K:Kn}{n:Nat}
theorem BZ(hK:ak K)(h:pN K n v1 v2=some r):aW Tryz.prog 160 [.agg (bV v1),iI v2] (fun v _=>v=iI r):=by
 refine bB (cat Tryz.f160 (pn 1)) Tryz.func160 Tryz.ntmps160 fun M w0=>(ba ⟨[(0,.agg (bV v1)),(1,iI v2)],[],[],[]⟩ ?_);unfold pN at h;refine aJ 5 ?_;cases h;exact bp
end
noncomputable section
variable[GS](M:Nat→Prop)(w0:aB)(r:Int)(v1:bZ)  
variable{M w0 r v1}{K:Kn}{n:Nat}
theorem EX(hK:ak K)(h:qc K n v1=some r):aW Tryz.prog 128 [.agg (bV v1)] (fun v _=>v=iI r):=by
 refine bB (cat Tryz.f128 (pn 1)) Tryz.func128 Tryz.ntmps128 fun M w0=>(ba ⟨[(0,.agg (bV v1))],[],[],[]⟩ ?_);unfold qc at h;refine av 6 7 3 (ai 1 ?_);obtain⟨v2,h1,h⟩:=bind_some h;refine aP (LQ hK h1) (ab (av 2 3 1 (ai 3 ?_)));obtain⟨v3,h2,h⟩:=bind_some h;refine aP (BZ hK h2) (ab (aJ 1 ?_));cases h;exact bp
end
noncomputable section
variable[GS](M:Nat→Prop)(w0:aB)(r:Int)(v1 v2:Int)(v3:List Int)  
variable{M w0 r v1 v2 v3}{K:Kn}{n:Nat}
theorem YZ(hK:ak K)(h:AC K n v1 v2 v3=some r):aW Tryz.prog 165 [iI v1,iI v2,.cptr ([.sl (lm (af .i64) v3)])] (fun v _=>v=iI r):=by
 refine bB (cat Tryz.f165 (pn 1)) Tryz.func165 Tryz.ntmps165 fun M w0=>(ba ⟨[(0,iI v1),(1,iI v2),(2,.cptr ([.sl (lm (af .i64) v3)]))],[],[],[]⟩ ?_);unfold AC at h;refine av 6 7 3 (bA [0,1,2] [] [] ?_);obtain⟨h1,h⟩:=ax h;obtain⟨h2,h⟩:=ax h;obtain⟨v4,h3,h⟩:=bind_some h;refine bw 1 (nu 6 [.sl (lm (af .i64) v3),iI v2,.cptr ([iI (gD v3 v2)]),iI (gD v3 v2),.sl (lm (af .i64) v3),iI v1,.cptr ([iI (gD v3 v1)]),iI (gD v3 v1),iI v4]) [] [] [bS Tryz.prog 15 Tryz.f165 (pn 6) 9] (aq (vz 2) (aR (bu (af .i64) (af .i64) h1 ((fun _=>rfl)) ((fun _=>rfl))) (aq (vz 3) (aR (bu (af .i64) (af .i64) h2 ((fun _=>rfl)) ((fun _=>rfl))) (aq [.v 0 1] (ag (bL 0 1 14 (KY hK h3)) (ag (bU 0) bz))))))) (aJ 1 ?_);cases h;exact bp
end
noncomputable section
variable[GS](M:Nat→Prop)(w0:aB)(r:List Int)(v1:Int)(v2:List Int)(v3:Int)(v4 v5 v6:(List Int))(v8 v9 v14 v15:Int)(v16 v17 v18 v26:(List Int))(v27 v28:Int)(v29:List Int)(m1 m2 m3:Nat)(L1:Int→Int→Option (List Int))(L2:Int→Int→(List Int)→(List Int)→(List Int)→Option (List Int))(L3:(List Int)→Int→Int→(List Int)→Option (List Int))
abbrev kA:Cx:=⟨Tryz.prog,96,M,w0⟩
abbrev ky:=bodyPost Tryz.prog Tryz.f136 (bC M w0 (fun v s=>v=.ref 21∧look 21 s.r=some ⟨3,1,lm (af .i64) r⟩))
abbrev Et(ks:List ao)(s:AS):=VE (kA M w0) (ky M w0 r) ks .normal s
abbrev fx(n:Nat):ao:=.c (cat Tryz.f136 (pn n))
abbrev Aw:List ao:=[.b 4,fx 8191]
abbrev RG:List ao:=kl (kA M w0) (ky M w0 r) Aw (cat Tryz.f136 (pn 65524)) m3::Aw
abbrev CY:List ao:=[.b 2,fx 2047]
abbrev Lf:List ao:=kl (kA M w0) (ky M w0 r) CY (cat Tryz.f136 (pn 16372)) m2::CY
abbrev y9:List ao:=[.b 0,fx 255]
abbrev aap:List ao:=kl (kA M w0) (ky M w0 r) y9 (cat Tryz.f136 (pn 2036)) m1::y9
def Il:AS:=⟨[(5,.ref 21),(82,.sl (lm (af .i64) v26)),(83,iI v27),(84,iI v28)],[],[(21,⟨3,1,lm (af .i64) v29⟩)],[21]⟩
def HC:AS:=⟨[(0,iI v3),(5,.ref 21),(6,.ptr 6 0),(7,.ref 27),(8,iI v8),(11,iI v14),(43,.sl (lm (af .i64) v2)),(44,iI (v2.length:Int)),(45,iI v15)],[(6,[.ref 24])],[(21,⟨3,1,lm (af .i64) v16⟩),(24,⟨3,1,lm (af .i64) v17⟩),(27,⟨3,1,lm (af .i64) v18⟩)],[6,21,24,27]⟩
def NK:AS:=⟨[(0,iI v3),(1,.sl (lm (af .i64) v2)),(5,.ref 21),(6,.ptr 6 0),(7,.ref 27),(8,iI v8),(28,.sl (lm (af .i64) v2)),(29,iI (v2.length:Int)),(30,iI v9)],[(6,[.ref 24])],[(21,⟨3,1,lm (af .i64) v4⟩),(24,⟨3,1,lm (af .i64) v5⟩),(27,⟨3,1,lm (af .i64) v6⟩)],[6,21,24,27]⟩
abbrev G1:Prop:=∀{v8:Int} {v9:Int},L1 v8 v9=some r→LP (kA M w0) (ky M w0 r) y9 (cat Tryz.f136 (pn 2036)) m1 (NK v2 v3 v4 v5 v6 v8 v9)
abbrev Kg:Prop:=∀{v14:Int} {v15:Int} {v16:(List Int)} {v17:(List Int)} {v18:(List Int)},L2 v14 v15 v16 v17 v18=some r→LP (kA M w0) (ky M w0 r) CY (cat Tryz.f136 (pn 16372)) m2 (HC v2 v3 v8 v14 v15 v16 v17 v18)
abbrev NC:Prop:=∀{v26:(List Int)} {v27:Int} {v28:Int} {v29:(List Int)},L3 v26 v27 v28 v29=some r→LP (kA M w0) (ky M w0 r) Aw (cat Tryz.f136 (pn 65524)) m3 (Il v26 v27 v28 v29)
variable{M w0 r v1 v2 v3 v4 v5 v6 v8 v9 v14 v15 v16 v17 v18 v26 v27 v28 v29 m1 m2 m3 L1 L2 L3}{K:Kn}{n:Nat}
theorem O7(hK:ak K)(hL3:NC M w0 r m3 L3)(h:sE K n L3 v26 v27 v28 v29=some r):Et M w0 r (fx 65524::RG M w0 r m3) (Il v26 v27 v28 v29):=by
 unfold sE at h;refine av 6 7 3 ?_;obtain⟨h46,h⟩|⟨h46,h⟩:=am h
 ·refine ae 85 h46 (cr 8 9 5 3 5 (ai 0 ?_));obtain⟨h47,h⟩:=ax h;refine au (bu (af .i64) (af .i64) h47 ((fun _=>rfl)) ((fun _=>rfl))) (ab (ai 2 ?_));obtain⟨h48,h⟩:=ax h;refine au (ca 21 1 (af .i64) h48) (au (br 3 0 (af .i64) (af .i64) (bf h48).2 ((fun _=>rfl))) (aO 5 1 ?_));obtain⟨h49,h⟩:=ax h;exact au (ca 21 1 (af .i64) h49) (au (cJ 21 3 1 0 (af .i64) (af .i64) (aa ((gD v29 ((gD v26 v28)))+1)) (bf h49).2 ((fun _=>rfl))) (ab (ac 2 (bc (hL3 h)))))
 ·refine ae 85 h46 (aJ 8 ?_);cases h;exact dk
theorem R2(hK:ak K)(m:Nat):NC M w0 r m (t9 K n m):=by
 induction m with
 | zero=>intro v26 v27 v28 v29 h;cases h
 | succ m ih=>intro v26 v27 v28 v29 h;have h:sE K n (t9 K n m) v26 v27 v28 v29=some r:=h;exact aZ (O7 hK ih h)
theorem Z1(hK:ak K)(hL2:Kg M w0 r v2 v3 v8 m2 L2)(h:rS K n v2 v3 v8 L2 v14 v15 v16 v17 v18=some r):Et M w0 r (fx 16372::Lf M w0 r m2) (HC v2 v3 v8 v14 v15 v16 v17 v18):=by
 unfold rS at h;refine av 6 7 3 ?_;obtain⟨h26,h⟩|⟨h26,h⟩:=am h
 ·refine ae 46 h26 (cr 8 9 3 3 5 (ai 1 ?_));obtain⟨h27,h⟩:=ax h;refine au (bu (af .i64) (af .i64) h27 ((fun _=>rfl)) ((fun _=>rfl))) (ab (av 2 3 1 (ai 2 ?_)));obtain⟨v19,h28,h⟩:=bind_some h;refine aP (iM hK h28) (ab (av 2 3 1 (bA [0,5,6,7,8,11,12,14,43,44,45] [6] [21,24,27] ?_)));obtain⟨h29,h⟩:=ax h;obtain⟨h30,h⟩:=ax h;obtain⟨h31,h⟩:=ax h;obtain⟨h32,h⟩:=ax h;obtain⟨h33,h⟩:=ax h;refine bw 3 (nu 54 [.ref 21,iI v15,.ref 24,iI v15,.ref 27,iI v15,iI (aa (v3*v19)),iI v8,iI (aa (Int.tdiv (aa (v3*v19)) v8)),iI (aa (v3*v19)),iI v8,iI (Int.tmod (aa (v3*v19)) v8),iI v15,.eptr 21 1 (v15.toNat) 0,.eptr 24 1 (v15.toNat) 0,.eptr 27 1 (v15.toNat) 0]) [] [] [cV 21 ⟨3,1,lm (af .i64) (List.set v16 v15.toNat (aa (Int.tdiv (aa (v3*v19)) v8)))⟩,cV 24 ⟨3,1,lm (af .i64) (List.set v17 v15.toNat (Int.tmod (aa (v3*v19)) v8))⟩,cV 27 ⟨3,1,lm (af .i64) (List.set v18 v15.toNat v15)⟩] (aq [.v 0 1,.v 0 1,.v 0 2,.v 0 2,.v 0 3,.v 0 3,.v 0 1,.v 0 1] (aR (Uj .i64 (aa (v3*v19)) h29) (aq [.v 0 2,.v 0 2] (ag (dm (lo:=0) (k:=2) (cu ⟨(by kernel_rfl),(cw (A1 .i64 (aa (v3*v19)) h30) (by kernel_rfl))⟩ (cu ⟨(by kernel_rfl),(cw (A1 .i64 (aa (v3*v19)) h30) (by kernel_rfl))⟩ dp))) (aq [.v 0 3] (aR (bO 21 1 (af .i64) (L:=v16) h31) (ag (cy (m:=0) (cJ 21 3 1 0 (af .i64) (af .i64) (aa (Int.tdiv (aa (v3*v19)) v8)) (bf h31).2 ((fun _=>rfl)))) (ag (lA (lo:=1) (bO 24 1 (af .i64) (L:=v17) h32)) (ag (cy (m:=1) (cJ 24 3 1 0 (af .i64) (af .i64) (Int.tmod (aa (v3*v19)) v8) (bf h32).2 ((fun _=>rfl)))) (ag (lA (lo:=2) (bO 27 1 (af .i64) (L:=v18) h33)) (ag (cy (m:=2) (cJ 27 3 1 0 (af .i64) (af .i64) v15 (bf h33).2 ((fun _=>rfl)))) bz))))))))))) ?_
  obtain⟨v20,h34,h⟩:=bF h;obtain⟨v21,h35,h⟩:=bF h;refine bm (ks':=fx 2095719 :: .b 3::fx 130983::Lf M w0 r m2) 0 ⟨[(0,iI v3),(5,.ref 21),(6,.ptr 6 0),(7,.ref 27),(8,iI v8),(11,iI v14),(12,iI v15),(43,.sl (lm (af .i64) v2)),(44,iI (v2.length:Int)),(45,iI v15)],[(6,[.ref 24])],[(21,⟨3,1,lm (af .i64) v20⟩),(24,⟨3,1,lm (af .i64) v21⟩),(27,⟨3,1,lm (af .i64) (List.set v18 v15.toNat v15)⟩)],[6,21,24,27]⟩ ?_ (by subst h35;subst h34;kernel_rfl);refine ai 3 ?_;obtain⟨h36,h⟩:=ax h;exact au (ca 21 1 (af .i64) h36) (au (br 3 0 (af .i64) (af .i64) (bf h36).2 ((fun _=>rfl))) (ab (ac 2 (bc (hL2 h)))))
 ·refine ae 46 h26 (eI 2 3 6 (ai 1 (iV 24 (jU 6 6 ([.sl (lm (af .i64) v17)]) (mS 165 #[(.tmp 6)] [.cptr ([.sl (lm (af .i64) v17)])] ?_)))));obtain⟨v22,h37,h⟩:=bind_some h;refine fD 27 0 (Nv hK h37) (ab (bN 4 5 3 2 (ai 2 (iV 27 ?_))));obtain⟨h38,h⟩:=ax h;exact au (fF (af .i64) v22 (0:Int) v14 72 (.tmp 80) none (some (.tmp 81)) 82 (e:=3) (sz:=1) (by kernel_rfl) (by kernel_rfl) (by kernel_rfl) (by kernel_rfl) (by kernel_rfl) (by kernel_rfl) ((fun _=>rfl)) (fun k hk=>by subst hk;kernel_rfl) h38) (au (bj (af .i64) (List.drop ((0:Int)).toNat (List.take v14.toNat v22))) (ab (ac 1 (bK (p:=pn 32762) n (R2 hK n h)))))
theorem Ys(hK:ak K)(m:Nat):Kg M w0 r v2 v3 v8 m (sF K n v2 v3 v8 m):=by
 induction m with
 | zero=>intro v14 v15 v16 v17 v18 h;cases h
 | succ m ih=>intro v14 v15 v16 v17 v18 h;have h:rS K n v2 v3 v8 (sF K n v2 v3 v8 m) v14 v15 v16 v17 v18=some r:=h;exact aZ (Z1 hK ih h)
theorem RT(hK:ak K)(hL1:G1 M w0 r v2 v3 v4 v5 v6 m1 L1)(h:rk K n v2 v3 v4 v5 v6 L1 v8 v9=some r):Et M w0 r (fx 2036::aap M w0 r m1) (NK v2 v3 v4 v5 v6 v8 v9):=by
 unfold rk at h;refine av 6 7 3 ?_;obtain⟨h11,h⟩|⟨h11,h⟩:=am h
 ·refine ae 31 h11 (cr 8 9 1 3 5 (ai 0 ?_));obtain⟨h12,h⟩:=ax h;refine au (bu (af .i64) (af .i64) h12 ((fun _=>rfl)) ((fun _=>rfl))) (ab (ai 2 ?_));obtain⟨v10,h13,h⟩:=bind_some h;exact aP (iM hK h13) (ab (ac 2 (bc (hL1 h))))
 ·refine ae 31 h11 (eI 5 3 8 ?_);obtain⟨h14,h⟩|⟨h14,h⟩:=am h
  ·refine ae 40 h14 (aJ 5 ?_);cases h;exact dk
  ·exact ae 40 h14 (ju 12 13 7 6 (ai 1 (au (bj (af .i64) v2) (ab (ac 1 (bK (p:=pn 8186) n (Ys hK n h)))))))
theorem O5(hK:ak K)(m:Nat):G1 M w0 r v2 v3 v4 v5 v6 m (sJ K n v2 v3 v4 v5 v6 m):=by
 induction m with
 | zero=>intro v8 v9 h;cases h
 | succ m ih=>intro v8 v9 h;have h:rk K n v2 v3 v4 v5 v6 (sJ K n v2 v3 v4 v5 v6 m) v8 v9=some r:=h;exact aZ (RT hK ih h)
theorem TN(hK:ak K)(h:y8 K n v1 v2=some r):aW Tryz.prog 136 [iI v1,.sl (lm (af .i64) v2)] (fun v s=>v=.ref 21∧look 21 s.r=some ⟨3,1,lm (af .i64) r⟩):=by
 refine bB (cat Tryz.f136 (pn 1)) Tryz.func136 Tryz.ntmps136 fun M w0=>(ba ⟨[(0,iI v1),(1,.sl (lm (af .i64) v2))],[],[],[]⟩ ?_);unfold y8 at h;refine av 6 7 3 (ai 1 ?_);obtain⟨v3,h1,h⟩:=bind_some h;refine aP (iM hK h1) (ab (av 2 3 1 (ai 1 (au (bj (af .i64) v2) ?_))));obtain⟨h2,h⟩:=ax h;refine jQ (af .i64) (0:Int) 72 (.tmp 20) (.tmp 20) 21 (e:=3) (sz:=1) (zc:=[iI 0]) (kd:=.i64) (kd':=.i64) h2 (ab ?_);obtain⟨v4,h3,h⟩:=bF h;refine bm (ks':=[fx 30,fx 31]) 1 ⟨[(0,iI v3),(1,.sl (lm (af .i64) v2)),(5,.ref 21)],[],[(21,⟨3,1,lm (af .i64) v4⟩)],[21]⟩ ?_ (by subst h3;kernel_rfl);refine ai 1 (au (bj (af .i64) v2) ?_);obtain⟨h4,h⟩:=ax h;refine jQ (af .i64) (0:Int) 72 (.tmp 23) (.tmp 23) 24 (e:=3) (sz:=1) (zc:=[iI 0]) (kd:=.i64) (kd':=.i64) h4 (ab ?_);obtain⟨v5,h5,h⟩:=bF h;refine bm (ks':=[fx 62,fx 63]) 1 ⟨[(0,iI v3),(1,.sl (lm (af .i64) v2)),(5,.ref 21),(6,.ptr 6 0)],[(6,[.ref 24])],[(21,⟨3,1,lm (af .i64) v4⟩),(24,⟨3,1,lm (af .i64) v5⟩)],[6,21,24]⟩ ?_ (by subst h5;kernel_rfl)
 refine ai 1 (au (bj (af .i64) v2) ?_);obtain⟨h6,h⟩:=ax h;refine jQ (af .i64) (0:Int) 72 (.tmp 26) (.tmp 26) 27 (e:=3) (sz:=1) (zc:=[iI 0]) (kd:=.i64) (kd':=.i64) h6 (ab ?_);obtain⟨v6,h7,h⟩:=bF h;refine bm (ks':=[fx 508,fx 509,fx 255]) 4 ⟨[(0,iI v3),(1,.sl (lm (af .i64) v2)),(5,.ref 21),(6,.ptr 6 0),(7,.ref 27),(8,iI 0)],[(6,[.ref 24])],[(21,⟨3,1,lm (af .i64) v4⟩),(24,⟨3,1,lm (af .i64) v5⟩),(27,⟨3,1,lm (af .i64) v6⟩)],[6,21,24,27]⟩ ?_ (by subst h7;kernel_rfl);exact ai 1 (au (bj (af .i64) v2) (ab (ac 1 (bK (p:=pn 1018) n (O5 hK n h)))))
end
noncomputable section
variable[GS](M:Nat→Prop)(w0:aB)(r:Bool×(List bi))(v1:List bi)(v2 v3 v16 v17 v18:Int)(v19 v20:(List Int))(v23 v24:Int)(v25 v26:(List Int))(v27 v31 v32:Int)(v33:List Int)(v39:Int)(v40:List bi)(v41:Int)(v42:Bool)(v43:List bi)(m1 m2 m3:Nat)(L1:Int→Int→Int→(List Int)→(List Int)→Option (Bool×(List bi)))(L2:Int→Int→(List Int)→Option (Bool×(List bi)))(L3:Int→(List bi)→Option (Bool×(List bi)))
abbrev kn:Cx:=⟨Tryz.prog,170,M,w0⟩
abbrev kX:=bodyPost Tryz.prog Tryz.f161 (bC M w0 (fun v s=>v=.bool r.1∧look 0 s.r=some ⟨220,9,lm bv r.2⟩))
abbrev lc(ks:List ao)(s:AS):=VE (kn M w0) (kX M w0 r) ks .normal s
abbrev eS(n:Nat):ao:=.c (cat Tryz.f161 (pn n))
abbrev Ca:List ao:=[.b 4,eS 4095]
abbrev zb:List ao:=kl (kn M w0) (kX M w0 r) Ca (cat Tryz.f161 (pn 32756)) m3::Ca
abbrev Du:List ao:=[.b 2,eS 2047]
abbrev Gf:List ao:=kl (kn M w0) (kX M w0 r) Du (cat Tryz.f161 (pn 16372)) m2::Du
abbrev BI:List ao:=[.b 0,eS 31]
abbrev Ez:List ao:=kl (kn M w0) (kX M w0 r) BI (cat Tryz.f161 (pn 244)) m1::BI
def XM:AS:=⟨[(0,.ref 0),(2,iI v3),(7,iI v23),(8,iI v24),(9,.ref 47),(10,.ref 52),(22,.ref 0),(23,iI (v1.length:Int)),(24,iI v18)],[],[(0,⟨220,9,lm bv v1⟩),(47,⟨3,1,lm (af .i64) v25⟩),(52,⟨3,1,lm (af .i64) v26⟩)],[0,47,52,1000000,0]⟩
def VN:AS:=⟨[(0,.ref 0),(13,iI v31),(14,.ref 1075),(117,.ref 47),(118,iI (v19.length:Int)),(119,iI v39)],[],[(0,⟨220,9,lm bv v43⟩),(47,⟨3,1,lm (af .i64) v19⟩),(1075,⟨3,1,lm (af .i64) v33⟩)],[0,47,1075,1000000,0]⟩
def TQ:AS:=⟨[(0,.ref 0),(13,iI v31),(14,.ref 1075),(19,.eptr 0 9 (((gD v19 v39)).toNat) 0),(20,iI v41),(117,.ref 47),(118,iI (v19.length:Int)),(119,iI v39),(161,.bool v42)],[],[(0,⟨220,9,lm bv v40⟩),(47,⟨3,1,lm (af .i64) v19⟩),(1075,⟨3,1,lm (af .i64) v33⟩)],[0,47,1075,1000000,0]⟩
def L6:AS:=⟨[(0,.ref 0),(13,iI v31),(14,.ref 1075),(117,.ref 47),(118,iI (v19.length:Int)),(119,iI v39)],[],[(0,⟨220,9,lm bv v40⟩),(47,⟨3,1,lm (af .i64) v19⟩),(1075,⟨3,1,lm (af .i64) v33⟩)],[0,47,1075,1000000,0]⟩
def NW:AS:=⟨[(0,.ref 0),(2,iI v3),(9,.ref 47),(13,iI v31),(14,.ref 1075),(76,.ref 47),(77,iI (v19.length:Int)),(78,iI v32)],[],[(0,⟨220,9,lm bv v1⟩),(47,⟨3,1,lm (af .i64) v19⟩),(1075,⟨3,1,lm (af .i64) v33⟩)],[0,47,1075,1000000,0]⟩
def TO:AS:=⟨[(0,.ref 0),(2,iI v3),(7,iI v27),(9,.ref 47),(10,.ref 52)],[],[(0,⟨220,9,lm bv v1⟩),(47,⟨3,1,lm (af .i64) v19⟩),(52,⟨3,1,lm (af .i64) v20⟩)],[0,47,52,1000000,0]⟩
def LK:AS:=⟨[(0,.ref 0),(2,iI v3),(7,iI v16),(8,iI v17),(9,.ref 47),(10,.ref 52),(22,.ref 0),(23,iI (v1.length:Int)),(24,iI v18)],[],[(0,⟨220,9,lm bv v1⟩),(47,⟨3,1,lm (af .i64) v19⟩),(52,⟨3,1,lm (af .i64) v20⟩)],[0,47,52,1000000,0]⟩
abbrev EK:Prop:=∀{v16:Int} {v17:Int} {v18:Int} {v19:(List Int)} {v20:(List Int)},L1 v16 v17 v18 v19 v20=some r→LP (kn M w0) (kX M w0 r) BI (cat Tryz.f161 (pn 244)) m1 (LK v1 v3 v16 v17 v18 v19 v20)
abbrev Jh:Prop:=∀{v31:Int} {v32:Int} {v33:(List Int)},L2 v31 v32 v33=some r→LP (kn M w0) (kX M w0 r) Du (cat Tryz.f161 (pn 16372)) m2 (NW v1 v3 v19 v31 v32 v33)
abbrev tc:Prop:=∀{v39:Int} {v40:(List bi)},L3 v39 v40=some r→LP (kn M w0) (kX M w0 r) Ca (cat Tryz.f161 (pn 32756)) m3 (L6 v19 v31 v33 v39 v40)
variable{M w0 r v1 v2 v3 v16 v17 v18 v19 v20 v23 v24 v25 v26 v27 v31 v32 v33 v39 v40 v41 v42 v43 m1 m2 m3 L1 L2 L3}{K:Kn}{n:Nat}
theorem Ho(hK:ak K)(hL1:EK M w0 r v1 v3 m1 L1)(h:wT K n v1 v3 v18 L1 v23 v24 v25 v26=some r):lc M w0 r (eS 1959::Ez M w0 r m1) (XM v1 v3 v18 v23 v24 v25 v26):=by
 unfold wT at h;exact ac 1 (bc (hL1 h))
theorem Lr(hK:ak K)(hL3:tc M w0 r v19 v31 v33 m3 L3)(h:wy K n v19 v31 v33 v39 L3 v43=some r):lc M w0 r (.b 5::eS 262055::zb M w0 r m3) (VN v19 v31 v33 v39 v43):=by
 unfold wy at h;exact ac 2 (bc (hL3 h))
theorem nI(hK:ak K)(hL3:tc M w0 r v19 v31 v33 m3 L3)(h:jz K n v19 v31 v33 v39 v40 v41 L3 v42=some r):lc M w0 r (eS 8385743 :: .b 5::eS 262055::zb M w0 r m3) (TQ v19 v31 v33 v39 v40 v41 v42):=by
 unfold jz at h;obtain⟨h73,h⟩|⟨h73,h⟩:=am h
 ·refine ae 161 h73 (bd 2 1 (ai 5 ?_));obtain⟨h74,h⟩:=ax h;exact au (cJ 0 220 9 7 bv bv ({ (gD v40 ((gD v19 v39)))with size:=v41 }:bi) (of_decide_eq_true h74) ((fun _=>rfl))) (aO 8 2 (au (cJ 0 220 9 8 bv bv (L:=(List.set v40 ((gD v19 v39)).toNat ({ (gD v40 ((gD v19 v39)))with size:=v41 }:bi))) (j:=((gD v19 v39)).toNat) ({ (gD (List.set v40 ((gD v19 v39)).toNat ({ (gD v40 ((gD v19 v39)))with size:=v41 }:bi)) ((gD v19 v39)))with fixed:=true }:bi) (fm (of_decide_eq_true h74)) ((fun _=>rfl))) (ab (ac 0 (Lr hK hL3 h)))))
 ·exact ae 161 h73 (ac 2 (Lr hK hL3 h))
theorem RK(hK:ak K)(hL3:tc M w0 r v19 v31 v33 m3 L3)(h:tL K n v19 v31 v33 L3 v39 v40=some r):lc M w0 r (eS 32756::zb M w0 r m3) (L6 v19 v31 v33 v39 v40):=by
 unfold tL at h;refine av 6 7 3 ?_;obtain⟨h60,h⟩|⟨h60,h⟩:=am h
 ·refine ae 120 h60 (cr 8 9 5 3 5 (ai 1 ?_));obtain⟨h61,h⟩:=ax h;refine au (ca 47 1 (af .i64) h61) (au (br 3 0 (af .i64) (af .i64) (bf h61).2 ((fun _=>rfl))) (ab (av 2 3 1 (ai 2 ?_))));obtain⟨h62,h⟩:=ax h;refine au (ca 0 9 bv h62) (ab (av 2 3 1 (bA [0,13,14,17,19,117,118,119] [] [0,47,1075] ?_)));obtain⟨h63,h⟩:=ax h;obtain⟨v41,h64,h⟩:=bind_some h;refine bw 1 (nu 127 [.eptr 0 9 (((gD v19 v39)).toNat) 0,.eptr 0 9 (((gD v19 v39)).toNat) 0,.eptr 0 9 (((gD v19 v39)).toNat) 0,.agg (bV ((gD v40 ((gD v19 v39))).Item)),.ref 1075,iI v39,.eptr 1075 1 (v39.toNat) 0,iI (gD v33 v39),iI v41]) [] [] [bS Tryz.prog 170 Tryz.f161 (pn 4192870) 9] (aq (vz 3) (aR (br 176 0 bv bv (bf h62).2 ((fun _=>rfl))) (aq (vz 2) (aR (bO 1075 1 (af .i64) (L:=v33) h63) (aR (br 3 0 (af .i64) (af .i64) (bf h63).2 ((fun _=>rfl))) (ag (bL 0 1 135 (BZ hK h64)) (ag (bU 0) bz))))))) (av 2 3 1 (ai 3 ?_));obtain⟨h65,h⟩|⟨h65,h⟩:=am h
  ·exact aC 138 h65 (ab (ac 0 (nI hK hL3 h)))
  ·refine aC 138 h65 (aO 6 3 ?_);obtain⟨h66,h⟩|⟨h66,h⟩:=am h
   ·refine aC 141 h66 (aO 9 3 ?_);obtain⟨h67,h⟩:=ax h;refine au (ca 1075 1 (af .i64) h67) (au (br 3 0 (af .i64) (af .i64) (bf h67).2 ((fun _=>rfl))) (aO 15 4 ?_));obtain⟨h68,h⟩|⟨h68,h⟩:=am h
    ·exact aC 150 h68 (ab (ac 0 (nI hK hL3 h)))
    ·refine aC 150 h68 (aO 18 3 ?_);obtain⟨h69,h⟩|⟨h69,h⟩:=am h
     ·refine aC 153 h69 (aO 21 3 ?_);obtain⟨h70,h⟩:=ax h;exact au (ca 1075 1 (af .i64) h70) (au (br 3 0 (af .i64) (af .i64) (bf h70).2 ((fun _=>rfl))) (ab (ac 0 (nI hK hL3 h))))
     ·exact aC 153 h69 (ab (ac 0 (nI hK hL3 h)))
   ·refine aC 141 h66 (aO 18 12 ?_);obtain⟨h71,h⟩|⟨h71,h⟩:=am h
    ·refine aC 153 h71 (aO 21 3 ?_);obtain⟨h72,h⟩:=ax h;exact au (ca 1075 1 (af .i64) h72) (au (br 3 0 (af .i64) (af .i64) (bf h72).2 ((fun _=>rfl))) (ab (ac 0 (nI hK hL3 h))))
    ·exact aC 153 h71 (ab (ac 0 (nI hK hL3 h)))
 ·refine ae 120 h60 (aJ 8 ?_);cases h;exact dk
theorem Uo(hK:ak K)(m:Nat):tc M w0 r v19 v31 v33 m (wo K n v19 v31 v33 m):=by
 induction m with
 | zero=>intro v39 v40 h;cases h
 | succ m ih=>intro v39 v40 h;have h:tL K n v19 v31 v33 (wo K n v19 v31 v33 m) v39 v40=some r:=h;exact aZ (RK hK ih h)
theorem aas(hK:ak K)(hL2:Jh M w0 r v1 v3 v19 m2 L2)(h:ue K n v1 v3 v19 L2 v31 v32 v33=some r):lc M w0 r (eS 16372::Gf M w0 r m2) (NW v1 v3 v19 v31 v32 v33):=by
 unfold ue at h;refine av 6 7 3 ?_;obtain⟨h35,h⟩|⟨h35,h⟩:=am h
 ·refine ae 79 h35 (cr 8 9 3 3 5 (ai 1 ?_));obtain⟨h36,h⟩:=ax h;refine au (ca 47 1 (af .i64) h36) (au (br 3 0 (af .i64) (af .i64) (bf h36).2 ((fun _=>rfl))) (ab (av 2 3 1 (bA [0,2,9,13,14,15,16,76,77,78] [] [0,47,1075] ?_))));obtain⟨h37,h⟩:=ax h;obtain⟨h38,h⟩:=ax h;obtain⟨h39,h⟩:=ax h;refine bw 1 (nu 83 [.ref 1075,iI v32,.ref 0,iI (gD v19 v32),.eptr 0 9 (((gD v19 v32)).toNat) 0,.eptr 0 9 (((gD v19 v32)).toNat) 0,.eptr 0 9 (((gD v19 v32)).toNat) 0,iI (((gD v1 ((gD v19 v32))).Item).aB),iI v3,.ref 1075,iI v32,.eptr 1075 1 (v32.toNat) 0,iI (gD v33 v32),iI (aa (v3*(gD v33 v32))),iI (aa ((((gD v1 ((gD v19 v32))).Item).aB)+(aa (v3*(gD v33 v32))))),.eptr 1075 1 (v32.toNat) 0]) [] [] [cV 1075 ⟨3,1,lm (af .i64) (List.set v33 v32.toNat (aa ((((gD v1 ((gD v19 v32))).Item).aB)+(aa (v3*(gD v33 v32))))))⟩] (aq (vz 4) (aR (bO 0 9 bv (L:=v1) h37) (aq (vz 2) (aR (br 3 0 bv bv (bf h37).2 ((fun _=>rfl))) (aq (vz 3) (aR (bO 1075 1 (af .i64) (L:=v33) h38) (aR (br 3 0 (af .i64) (af .i64) (bf h39).2 ((fun _=>rfl))) (aq (vz 2) (aR (bO 1075 1 (af .i64) (L:=v33) h39) (ag (cy (m:=0) (cJ 1075 3 1 0 (af .i64) (af .i64) (aa ((((gD v1 ((gD v19 v32))).Item).aB)+(aa (v3*(gD v33 v32))))) (bf h39).2 ((fun _=>rfl)))) bz)))))))))) ?_
  obtain⟨v34,h40,h⟩:=bF h;refine bm (ks':=eS 1047859 :: .b 3::eS 130983::Gf M w0 r m2) 0 ⟨[(0,.ref 0),(2,iI v3),(9,.ref 47),(13,iI v31),(14,.ref 1075),(15,iI v32),(16,iI (gD v19 v32)),(76,.ref 47),(77,iI (v19.length:Int)),(78,iI v32)],[],[(0,⟨220,9,lm bv v1⟩),(47,⟨3,1,lm (af .i64) v19⟩),(1075,⟨3,1,lm (af .i64) v34⟩)],[0,47,1075,1000000,0]⟩ ?_ (by subst h40;kernel_rfl);obtain⟨h41,h⟩:=ax h;obtain⟨h42,h⟩:=ax h;obtain⟨v35,h43,h⟩:=bind_some h;obtain⟨h44,h⟩:=ax h;exact bw 1 (nu 99 [iI v31,.ref 0,iI (gD v19 v32),.eptr 0 9 (((gD v19 v32)).toNat) 0,.eptr 0 9 (((gD v19 v32)).toNat) 0,.agg (bV ((gD v1 ((gD v19 v32))).Item)),.ref 1075,iI v32,.eptr 1075 1 (v32.toNat) 0,iI (gD v34 v32),iI v35,.ref 1075,iI v32,.eptr 1075 1 (v32.toNat) 0,iI (gD v34 v32),iI (aa (v35-(gD v34 v32))),iI (aa (v31+(aa (v35-(gD v34 v32)))))]) [] [] [bS Tryz.prog 170 Tryz.f161 (pn 1047859) 17] (aq (vz 3) (aR (bO 0 9 bv (L:=v1) h41) (aq [.v 0 1] (aR (br 176 0 bv bv (bf h41).2 ((fun _=>rfl))) (aq (vz 2) (aR (bO 1075 1 (af .i64) (L:=v34) h42) (aR (br 3 0 (af .i64) (af .i64) (bf h44).2 ((fun _=>rfl))) (ag (bL 0 1 109 (BZ hK h43)) (aq (vz 2) (aR (bO 1075 1 (af .i64) (L:=v34) h44) (aR (br 3 0 (af .i64) (af .i64) (bf h44).2 ((fun _=>rfl))) (aq (vz 2) (ag (bU 0) bz))))))))))))) (ac 2 (bc (hL2 h)))
 ·exact ae 79 h35 (mj 4 5 3 7 (ai 1 (au (bj (af .i64) v19) (ab (ac 1 (bK (p:=pn 16378) n (Uo hK n h)))))))
theorem T7(hK:ak K)(m:Nat):Jh M w0 r v1 v3 v19 m (se K n v1 v3 v19 m):=by
 induction m with
 | zero=>intro v31 v32 v33 h;cases h
 | succ m ih=>intro v31 v32 v33 h;have h:ue K n v1 v3 v19 (se K n v1 v3 v19 m) v31 v32 v33=some r:=h;exact aZ (aas hK ih h)
theorem HV(hK:ak K)(h:xW K n v1 v3 v19 v20 v27=some r):lc M w0 r [eS 255] (TO v1 v3 v19 v20 v27):=by
 unfold xW at h;refine av 6 7 3 (ai 2 (iV 52 ?_));obtain⟨v28,h24,h⟩:=bind_some h;exact dI 1075 (TN hK h24) (dt 21) (ab (bN 4 5 3 2 (ai 1 (au (bj (af .i64) v19) (ab (ac 1 (bK (p:=pn 8186) n (T7 hK n h))))))))
theorem WB(hK:ak K)(hL1:EK M w0 r v1 v3 m1 L1)(h:tQ K n v1 v3 L1 v16 v17 v18 v19 v20=some r):lc M w0 r (eS 244::Ez M w0 r m1) (LK v1 v3 v16 v17 v18 v19 v20):=by
 unfold tQ at h;refine av 6 7 3 ?_;obtain⟨h15,h⟩|⟨h15,h⟩:=am h
 ·refine ae 25 h15 (cr 8 9 1 3 5 (ai 1 ?_));obtain⟨h16,h⟩:=ax h;refine au (ca 0 9 bv h16) (au (br 220 0 bv bv (bf h16).2 ((fun _=>rfl))) (ab (av 5 3 3 ?_)));obtain⟨h17,h⟩|⟨h17,h⟩:=am h
  ·exact ae 30 h17 (ac 6 (Ho hK hL1 h))
  ·refine ae 30 h17 ?_;obtain⟨v21,h18,h⟩:=bF h;obtain⟨v22,h19,h⟩:=bF h;refine bm (ks':=eS 125342::eS 125343 :: .b 1::eS 1959::Ez M w0 r m1) 7 ⟨[(0,.ref 0),(2,iI v3),(7,iI v21),(8,iI v22),(9,.ref 47),(10,.ref 52),(11,iI v18),(12,.ptr 12 0),(22,.ref 0),(23,iI (v1.length:Int)),(24,iI v18)],[(12,bv (gD v1 v18))],[(0,⟨220,9,lm bv v1⟩),(47,⟨3,1,lm (af .i64) v19⟩),(52,⟨3,1,lm (af .i64) v20⟩)],[12,0,47,52,1000000,0]⟩ ?_ (by subst h19;subst h18;kernel_rfl);refine ai 3 ?_;obtain⟨h20,h⟩:=ax h;refine au (cc 47 47 3 1 (af .i64) (rfl) ((fun _=>rfl)) h20) (ab (ai 4 ?_));obtain⟨h21,h⟩:=ax h;exact au (cc 52 52 3 1 (af .i64) (rfl) ((fun _=>rfl)) h21) (ab (ac 1 (Ho hK hL1 h)))
 ·refine ae 25 h15 (mj 4 5 3 7 (ai 1 (au (bj (af .i64) v19) (ab ?_))));obtain⟨h22,h⟩|⟨h22,h⟩:=am h
  ·refine ae 56 h22 (aJ 5 ?_);cases h;exact dk
  ·refine ae 56 h22 (dQ 13 7 7 ?_);obtain⟨h23,h⟩|⟨h23,h⟩:=am h
   ·exact ae 62 h23 (ac 2 (HV hK h))
   ·exact ae 62 h23 (ac 2 (HV hK h))
theorem Z3(hK:ak K)(m:Nat):EK M w0 r v1 v3 m (uK K n v1 v3 m):=by
 induction m with
 | zero=>intro v16 v17 v18 v19 v20 h;cases h
 | succ m ih=>intro v16 v17 v18 v19 v20 h;have h:tQ K n v1 v3 (uK K n v1 v3 m) v16 v17 v18 v19 v20=some r:=h;exact aZ (WB hK ih h)
theorem Vu(hK:ak K)(h:Cz K n v1 v2 v3=some r):gW Tryz.prog 161 [.ref 0,iI v2,iI v3] 0 ⟨220,9,lm bv v1⟩ (fun v s=>v=.bool r.1∧look 0 s.r=some ⟨220,9,lm bv r.2⟩):=by
 refine kN (c:=cat Tryz.f161 (pn 1)) Tryz.func161 (by kernel_rfl) _ Tryz.ntmps161 (of_decide_eq_true (by kernel_rfl)) fun M w0=>(ba ⟨[(0,.ref 0),(1,iI v2),(2,iI v3)],[],[(0,⟨220,9,lm bv v1⟩)],[0,1000000]⟩ ?_);unfold Cz at h;exact bN 60 61 31 8 (ai 1 (au (bj bv v1) (ab (eW 2 0 1 (bA [0,2,7,8,9,10,22,23,24] [] [0] (dw 47 9 3 1 (dw 52 10 3 1 (ac 0 (bK (p:=pn 122) n (Z3 hK n h))))))))))
end
noncomputable section
variable[GS](M:Nat→Prop)(w0:aB)(r:List Int)(v1:List bZ)(v2 v3 v8 v9:Int)(v10:List bi)(v14 v19:Int)(v20 v23 v24 v26:(List bi))(v27:Bool×(List bi))(v29:Int)(v30:List Int)(m1 m2 m3 m4:Nat)(L1:Int→Int→(List bi)→Option (List Int))(L2:Int→(List bi)→Option (List Int))(L3:(List bi)→Option (List Int))(L4:Int→(List Int)→Option (List Int))
abbrev jm:Cx:=⟨Tryz.prog,158,M,w0⟩
abbrev jp:=bodyPost Tryz.prog Tryz.f129 (bC M w0 (fun v s=>v=.ref 143∧look 143 s.r=some ⟨3,1,lm (af .i64) r⟩))
abbrev kO(ks:List ao)(s:AS):=VE (jm M w0) (jp M w0 r) ks .normal s
abbrev dd(n:Nat):ao:=.c (cat Tryz.f129 (pn n))
abbrev zd:List ao:=[.b 6,dd 4095]
abbrev WQ:List ao:=kl (jm M w0) (jp M w0 r) zd (cat Tryz.f129 (pn 32756)) m4::zd
abbrev D9:List ao:=[.b 4,dd 1023]
abbrev PQ:List ao:=kl (jm M w0) (jp M w0 r) D9 (cat Tryz.f129 (pn 4088)) m3::D9
abbrev Cw:List ao:=[.b 2,dd 511]
abbrev nX:List ao:=kl (jm M w0) (jp M w0 r) Cw (cat Tryz.f129 (pn 4084)) m2::Cw
abbrev zP:List ao:=[.b 0,dd 63]
abbrev F6:List ao:=kl (jm M w0) (jp M w0 r) zP (cat Tryz.f129 (pn 500)) m1::zP
def Zg:AS:=⟨[(1,iI v3),(5,.ref 20),(9,iI v14),(48,iI (v10.length:Int)),(49,iI v19)],[],[(20,⟨220,9,lm bv v24⟩)],[20]⟩
def WU:AS:=⟨[(1,iI v3),(5,.ref 20),(9,iI v14),(11,.eptr 20 9 (v19.toNat) 0),(48,iI (v10.length:Int)),(49,iI v19)],[],[(20,⟨220,9,lm bv v23⟩)],[20]⟩
def Nt:AS:=⟨[(12,.ref 143),(144,.ref 20),(145,iI (v27.2.length:Int)),(146,iI v29)],[],[(20,⟨220,9,lm bv v27.2⟩),(143,⟨3,1,lm (af .i64) v30⟩)],[20,143]⟩
def Og:AS:=⟨[(1,iI v3),(5,.ref 20),(9,iI v14)],[],[(20,⟨220,9,lm bv v26⟩)],[20]⟩
def I4:AS:=⟨[(1,iI v3),(5,.ref 20),(9,iI v14),(48,iI (v10.length:Int)),(49,iI v19)],[],[(20,⟨220,9,lm bv v20⟩)],[20]⟩
def Vv:AS:=⟨[(1,iI v3),(5,.ref 20),(9,iI v14)],[],[(20,⟨220,9,lm bv v10⟩)],[20]⟩
def FQ:AS:=⟨[(1,iI v3),(5,.ref 20),(6,iI v8),(21,.sl (lm bV v1)),(22,iI (v1.length:Int)),(23,iI v9)],[],[(20,⟨220,9,lm bv v10⟩)],[20]⟩
abbrev Hn:Prop:=∀{v8:Int} {v9:Int} {v10:(List bi)},L1 v8 v9 v10=some r→LP (jm M w0) (jp M w0 r) zP (cat Tryz.f129 (pn 500)) m1 (FQ v1 v3 v8 v9 v10)
abbrev xX:Prop:=∀{v19:Int} {v20:(List bi)},L2 v19 v20=some r→LP (jm M w0) (jp M w0 r) Cw (cat Tryz.f129 (pn 4084)) m2 (I4 v3 v10 v14 v19 v20)
abbrev F1:Prop:=∀{v26:(List bi)},L3 v26=some r→LP (jm M w0) (jp M w0 r) D9 (cat Tryz.f129 (pn 4088)) m3 (Og v3 v14 v26)
abbrev Ge:Prop:=∀{v29:Int} {v30:(List Int)},L4 v29 v30=some r→LP (jm M w0) (jp M w0 r) zd (cat Tryz.f129 (pn 32756)) m4 (Nt v27 v29 v30)
variable{M w0 r v1 v2 v3 v8 v9 v10 v14 v19 v20 v23 v24 v26 v27 v29 v30 m1 m2 m3 m4 L1 L2 L3 L4}{K:Kn}{n:Nat}
theorem Ks(hK:ak K)(hL2:xX M w0 r v3 v10 v14 m2 L2)(h:vI K n v3 v10 v14 v19 L2 v24=some r):kO M w0 r (.b 3::dd 32679::nX M w0 r m2) (Zg v3 v10 v14 v19 v24):=by
 unfold vI at h;exact ac 2 (bc (hL2 h))
theorem NJ(hK:ak K)(hL2:xX M w0 r v3 v10 v14 m2 L2)(h:xQ K n v3 v10 v14 v19 L2 v23=some r):kO M w0 r (dd 522855 :: .b 3::dd 32679::nX M w0 r m2) (WU v3 v10 v14 v19 v23):=by
 unfold xQ at h;refine ai 4 ?_;obtain⟨h31,h⟩:=ax h;refine au (br 4 8 bv bv (of_decide_eq_true h31) ((fun _=>rfl))) (aO 6 1 ?_);obtain⟨h32,h⟩|⟨h32,h⟩:=am h
 ·exact aC 127 h32 (aO 14 8 (au (cJ 20 220 9 8 bv bv ({ (gD v23 v19)with fixed:=true }:bi) (of_decide_eq_true h31) ((fun _=>rfl))) (ab (ac 0 (Ks hK hL2 h)))))
 ·exact aC 127 h32 (aO 9 3 (au (br 3 5 bv bv (of_decide_eq_true h31) ((fun _=>rfl))) (aO 14 4 (au (cJ 20 220 9 8 bv bv ({ (gD v23 v19)with fixed:=(((gD v23 v19).factor) == 0) }:bi) (of_decide_eq_true h31) ((fun _=>rfl))) (ab (ac 0 (Ks hK hL2 h)))))))
theorem Rk(hK:ak K)(hL4:Ge M w0 r v27 m4 L4)(h:rb K n v27 L4 v29 v30=some r):kO M w0 r (dd 32756::WQ M w0 r m4) (Nt v27 v29 v30):=by
 unfold rb at h;refine av 6 7 3 ?_;obtain⟨h42,h⟩|⟨h42,h⟩:=am h
 ·refine ae 147 h42 (cr 8 9 7 3 5 (ai 1 ?_));obtain⟨h43,h⟩:=ax h;refine au (ca 20 9 bv h43) (au (br 220 0 bv bv (bf h43).2 ((fun _=>rfl))) (ab (ai 4 ?_)));obtain⟨h44,h⟩:=ax h;exact au (ca 143 1 (af .i64) h44) (au (cJ 143 3 1 0 (af .i64) (af .i64) ((gD v27.2 v29).size) (bf h44).2 ((fun _=>rfl))) (ab (ac 2 (bc (hL4 h)))))
 ·refine ae 147 h42 (aJ 8 ?_);cases h;exact dk
theorem ZZ(hK:ak K)(m:Nat):Ge M w0 r v27 m (tH K n v27 m):=by
 induction m with
 | zero=>intro v29 v30 h;cases h
 | succ m ih=>intro v29 v30 h;have h:rb K n v27 (tH K n v27 m) v29 v30=some r:=h;exact aZ (Rk hK ih h)
theorem Sz(hK:ak K)(hL3:F1 M w0 r v3 v14 m3 L3)(h:xF K n v3 v14 L3 v26=some r):kO M w0 r (dd 4088::PQ M w0 r m3) (Og v3 v14 v26):=by
 unfold xF at h;refine bN 4 5 3 2 (ai 3 ?_);obtain⟨v27,h35,h⟩:=bind_some h;refine fD 20 0 (Vu hK h35) (ab ?_);obtain⟨h36,h⟩|⟨h36,h⟩:=am h
 ·exact ae 140 h36 (ac 5 (bc (hL3 h)))
 ·refine ae 140 h36 (eI 2 3 6 (ai 1 (au (bj bv v27.2) ?_)));obtain⟨h37,h⟩:=ax h;refine jQ (af .i64) (0:Int) 72 (.tmp 142) (.tmp 142) 143 (e:=3) (sz:=1) (zc:=[iI 0]) (kd:=.i64) (kd':=.i64) h37 (ab ?_);obtain⟨v28,h38,h⟩:=bF h;refine bm (ks':=[dd 8188,dd 8189,dd 4095]) 2 ⟨[(5,.ref 20),(12,.ref 143)],[],[(20,⟨220,9,lm bv v27.2⟩),(143,⟨3,1,lm (af .i64) v28⟩)],[20,143]⟩ ?_ (by subst h38;kernel_rfl);exact ai 1 (au (bj bv v27.2) (ab (ac 1 (bK (p:=pn 16378) n (ZZ hK n h)))))
theorem XT(hK:ak K)(m:Nat):F1 M w0 r v3 v14 m (rG K n v3 v14 m):=by
 induction m with
 | zero=>intro v26 h;cases h
 | succ m ih=>intro v26 h;have h:xF K n v3 v14 (rG K n v3 v14 m) v26=some r:=h;exact aZ (Sz hK ih h)
theorem XG(hK:ak K)(hL2:xX M w0 r v3 v10 v14 m2 L2)(h:yW K n v3 v10 v14 L2 v19 v20=some r):kO M w0 r (dd 4084::nX M w0 r m2) (I4 v3 v10 v14 v19 v20):=by
 unfold yW at h;refine av 6 7 3 ?_;obtain⟨h26,h⟩|⟨h26,h⟩:=am h
 ·refine ae 50 h26 (cr 18 19 3 3 7 (ai 2 ?_));obtain⟨h27,h⟩:=ax h;refine au (ca 20 9 bv h27) (ab (av 5 3 3 ?_));obtain⟨h28,h⟩|⟨h28,h⟩:=am h
  ·refine ae 56 h28 (av 4 5 2 (bA [1,5,9,11,48,49] [] [20] (bw 2 (nu 57 [.eptr 20 9 (v19.toNat) 0,.eptr 20 9 (v19.toNat) 0,.eptr 20 9 (v19.toNat) 0,.eptr 20 9 (v19.toNat) 0,.eptr 20 9 (v19.toNat) 0,.eptr 20 9 (v19.toNat) 1,iI (((gD v20 v19).Item).Grow),.eptr 20 9 (v19.toNat) 0,.eptr 20 9 (v19.toNat) 0,.eptr 20 9 (v19.toNat) 0,.eptr 20 9 (v19.toNat) 1,iI (((gD v20 v19).Item).Grow),.eptr 20 9 (v19.toNat) 0,.eptr 20 9 (v19.toNat) 5,.eptr 20 9 (v19.toNat) 0,.eptr 20 9 (v19.toNat) 6]) [] [] [cV 20 ⟨220,9,lm bv (List.set v20 v19.toNat ({ (gD v20 v19)with factor:=((gD v20 v19).Item).Grow }:bi))⟩,cV 20 ⟨220,9,lm bv (List.set (List.set v20 v19.toNat ({ (gD v20 v19)with factor:=((gD v20 v19).Item).Grow }:bi)) v19.toNat ({ (gD (List.set v20 v19.toNat ({ (gD v20 v19)with factor:=((gD v20 v19).Item).Grow }:bi)) v19)with weight:=((gD v20 v19).Item).Grow }:bi))⟩] (aq [.v 0 1,.v 0 2,.v 0 1,.v 0 1,.v 0 1,.v 0 1] (aR (br 3 1 bv bv (bf h27).2 ((fun _=>rfl))) (aq [.v 0 2,.v 0 2,.v 0 2,.v 0 2] (aR (br 3 1 bv bv (bf h27).2 ((fun _=>rfl))) (aq [.v 0 2,.v 0 1] (ag (cy (m:=0) (cJ 20 220 9 5 bv bv ({ (gD v20 v19)with factor:=((gD v20 v19).Item).Grow }:bi) (bf h27).2 ((fun _=>rfl)))) (aq [.v 1 2,.v 1 1] (ag (cy (m:=1) (cJ 20 220 9 6 bv bv (L:=(List.set v20 v19.toNat ({ (gD v20 v19)with factor:=((gD v20 v19).Item).Grow }:bi))) (j:=v19.toNat) ({ (gD (List.set v20 v19.toNat ({ (gD v20 v19)with factor:=((gD v20 v19).Item).Grow }:bi)) v19)with weight:=((gD v20 v19).Item).Grow }:bi) (fm (bf h27).2) ((fun _=>rfl)))) bz)))))))) ?_)))
   obtain⟨v21,h29,h⟩:=bF h;refine bm (ks':=dd 4182837::dd 522855 :: .b 3::dd 32679::nX M w0 r m2) 0 ⟨[(1,iI v3),(5,.ref 20),(9,iI v14),(11,.eptr 20 9 (v19.toNat) 0),(48,iI (v10.length:Int)),(49,iI v19)],[],[(20,⟨220,9,lm bv v21⟩)],[20]⟩ ?_ (by subst h29;kernel_rfl);exact bw 1 (nu 73 [.eptr 20 9 (v19.toNat) 0,.eptr 20 9 (v19.toNat) 0,.eptr 20 9 (v19.toNat) 0,.eptr 20 9 (v19.toNat) 0,.eptr 20 9 (v19.toNat) 0,iI (((gD v21 v19).Item).aB),.eptr 20 9 (v19.toNat) 0,.eptr 20 9 (v19.toNat) 0,.eptr 20 9 (v19.toNat) 7,iI ((gD v21 v19).size),.bool (decide ((((gD v21 v19).Item).aB)>((gD v21 v19).size))),.eptr 20 9 (v19.toNat) 0,.eptr 20 9 (v19.toNat) 8]) [] [] [cV 20 ⟨220,9,lm bv (List.set v21 v19.toNat ({ (gD v21 v19)with fixed:=(decide ((((gD v21 v19).Item).aB)>((gD v21 v19).size))) }:bi))⟩] (aq (vz 5) (aR (br 3 0 bv bv (L:=v21) (j:=v19.toNat) (by rw[←h29];exact(fm (fm (bf h27).2))) ((fun _=>rfl))) (aq (vz 3) (aR (br 3 7 bv bv (L:=v21) (j:=v19.toNat) (by rw[←h29];exact(fm (fm (bf h27).2))) ((fun _=>rfl))) (aq [.v 0 1,.v 0 2,.v 0 1] (ag (cy (m:=0) (cJ 20 220 9 8 bv bv (L:=v21) (j:=v19.toNat) ({ (gD v21 v19)with fixed:=(decide ((((gD v21 v19).Item).aB)>((gD v21 v19).size))) }:bi) (by rw[←h29];exact(fm (fm (bf h27).2))) ((fun _=>rfl)))) bz)))))) (ac 0 (NJ hK hL2 h))
  ·refine ae 56 h28 (av 6 7 2 (bA [1,5,9,11,48,49] [] [20] (bw 2 (nu 86 [.eptr 20 9 (v19.toNat) 0,.eptr 20 9 (v19.toNat) 0,.eptr 20 9 (v19.toNat) 0,.eptr 20 9 (v19.toNat) 0,.eptr 20 9 (v19.toNat) 0,.eptr 20 9 (v19.toNat) 2,iI (((gD v20 v19).Item).Shrink),.eptr 20 9 (v19.toNat) 0,.eptr 20 9 (v19.toNat) 0,.eptr 20 9 (v19.toNat) 0,.eptr 20 9 (v19.toNat) 0,iI (((gD v20 v19).Item).aB),.eptr 20 9 (v19.toNat) 0,.eptr 20 9 (v19.toNat) 0,.eptr 20 9 (v19.toNat) 0,.eptr 20 9 (v19.toNat) 2,iI (((gD v20 v19).Item).Shrink),iI (aa ((((gD v20 v19).Item).aB)*(((gD v20 v19).Item).Shrink))),iI (aa (Int.tdiv (aa ((((gD v20 v19).Item).aB)*(((gD v20 v19).Item).Shrink))) 1000)),.eptr 20 9 (v19.toNat) 0,.eptr 20 9 (v19.toNat) 5,.eptr 20 9 (v19.toNat) 0,.eptr 20 9 (v19.toNat) 6]) [] [] [cV 20 ⟨220,9,lm bv (List.set v20 v19.toNat ({ (gD v20 v19)with factor:=((gD v20 v19).Item).Shrink }:bi))⟩,cV 20 ⟨220,9,lm bv (List.set (List.set v20 v19.toNat ({ (gD v20 v19)with factor:=((gD v20 v19).Item).Shrink }:bi)) v19.toNat ({ (gD (List.set v20 v19.toNat ({ (gD v20 v19)with factor:=((gD v20 v19).Item).Shrink }:bi)) v19)with weight:=(aa (Int.tdiv (aa ((((gD v20 v19).Item).aB)*(((gD v20 v19).Item).Shrink))) 1000)) }:bi))⟩] (aq [.v 0 1,.v 0 2,.v 0 1,.v 0 1,.v 0 1,.v 0 1] (aR (br 3 2 bv bv (bf h27).2 ((fun _=>rfl))) (aq [.v 0 2,.v 0 2,.v 0 2,.v 0 2] (aR (br 3 0 bv bv (bf h27).2 ((fun _=>rfl))) (aq [.v 0 2,.v 0 2,.v 0 2,.v 0 2] (aR (br 3 2 bv bv (bf h27).2 ((fun _=>rfl))) (aq [.v 0 2,.v 0 2,.v 0 2,.v 0 1] (ag (cy (m:=0) (cJ 20 220 9 5 bv bv ({ (gD v20 v19)with factor:=((gD v20 v19).Item).Shrink }:bi) (bf h27).2 ((fun _=>rfl)))) (aq [.v 1 2,.v 1 1] (ag (cy (m:=1) (cJ 20 220 9 6 bv bv (L:=(List.set v20 v19.toNat ({ (gD v20 v19)with factor:=((gD v20 v19).Item).Shrink }:bi))) (j:=v19.toNat) ({ (gD (List.set v20 v19.toNat ({ (gD v20 v19)with factor:=((gD v20 v19).Item).Shrink }:bi)) v19)with weight:=(aa (Int.tdiv (aa ((((gD v20 v19).Item).aB)*(((gD v20 v19).Item).Shrink))) 1000)) }:bi) (fm (bf h27).2) ((fun _=>rfl)))) bz)))))))))) ?_)))
   obtain⟨v22,h30,h⟩:=bF h;refine bm (ks':=dd 4182839::dd 522855 :: .b 3::dd 32679::nX M w0 r m2) 0 ⟨[(1,iI v3),(5,.ref 20),(9,iI v14),(11,.eptr 20 9 (v19.toNat) 0),(48,iI (v10.length:Int)),(49,iI v19)],[],[(20,⟨220,9,lm bv v22⟩)],[20]⟩ ?_ (by subst h30;kernel_rfl);exact bw 1 (nu 109 [.eptr 20 9 (v19.toNat) 0,.eptr 20 9 (v19.toNat) 0,.eptr 20 9 (v19.toNat) 0,.eptr 20 9 (v19.toNat) 0,.eptr 20 9 (v19.toNat) 0,iI (((gD v22 v19).Item).aB),.eptr 20 9 (v19.toNat) 0,.eptr 20 9 (v19.toNat) 0,.eptr 20 9 (v19.toNat) 7,iI ((gD v22 v19).size),.bool (decide ((((gD v22 v19).Item).aB)<((gD v22 v19).size))),.eptr 20 9 (v19.toNat) 0,.eptr 20 9 (v19.toNat) 8]) [] [] [cV 20 ⟨220,9,lm bv (List.set v22 v19.toNat ({ (gD v22 v19)with fixed:=(decide ((((gD v22 v19).Item).aB)<((gD v22 v19).size))) }:bi))⟩] (aq (vz 5) (aR (br 3 0 bv bv (L:=v22) (j:=v19.toNat) (by rw[←h30];exact(fm (fm (bf h27).2))) ((fun _=>rfl))) (aq (vz 3) (aR (br 3 7 bv bv (L:=v22) (j:=v19.toNat) (by rw[←h30];exact(fm (fm (bf h27).2))) ((fun _=>rfl))) (aq [.v 0 1,.v 0 2,.v 0 1] (ag (cy (m:=0) (cJ 20 220 9 8 bv bv (L:=v22) (j:=v19.toNat) ({ (gD v22 v19)with fixed:=(decide ((((gD v22 v19).Item).aB)<((gD v22 v19).size))) }:bi) (by rw[←h30];exact(fm (fm (bf h27).2))) ((fun _=>rfl)))) bz)))))) (ac 0 (NJ hK hL2 h))
 ·exact ae 50 h26 (ac 7 (bK (p:=pn 2044) n (XT hK n h)))
theorem Ya(hK:ak K)(m:Nat):xX M w0 r v3 v10 v14 m (tm K n v3 v10 v14 m):=by
 induction m with
 | zero=>intro v19 v20 h;cases h
 | succ m ih=>intro v19 v20 h;have h:yW K n v3 v10 v14 (tm K n v3 v10 v14 m) v19 v20=some r:=h;exact aZ (XG hK ih h)
theorem HT(hK:ak K)(h:wv K n v3 v10 v14=some r):kO M w0 r [dd 255] (Vv v3 v10 v14):=by
 unfold wv at h;exact bN 4 5 3 2 (ai 1 (au (bj bv v10) (ab (ac 1 (bK (p:=pn 2042) n (Ya hK n h))))))
theorem UI(hK:ak K)(hL1:Hn M w0 r v1 v3 m1 L1)(h:ut K n v1 v3 L1 v8 v9 v10=some r):kO M w0 r (dd 500::F6 M w0 r m1) (FQ v1 v3 v8 v9 v10):=by
 unfold ut at h;refine av 6 7 3 ?_;obtain⟨h11,h⟩|⟨h11,h⟩:=am h
 ·refine ae 24 h11 (cr 8 9 1 3 5 (ai 1 ?_));obtain⟨h12,h⟩:=ax h;refine au (bu bV bV h12 (DQ) ((fun _=>rfl))) (ab (av 2 3 1 (bA [1,5,6,7,8,21,22,23] [8] [20] ?_)));obtain⟨v11,h13,h⟩:=bind_some h;obtain⟨v12,h14,h⟩:=bind_some h;obtain⟨h15,h⟩:=ax h;refine bw 1 (nu 28 [.ref 20,iI v9,.agg (bV (gD v1 v9)),.agg (bV v11),.agg (bV (gD v1 v9)),iI v12,.agg (bv ({ js with Item:=v11,size:=v12 }:bi)),.eptr 20 9 (v9.toNat) 0]) [] [] [cV 20 ⟨220,9,lm bv (List.set v10 v9.toNat ({ js with Item:=v11,size:=v12 }:bi))⟩] (aq (vz 3) (ag (bL 0 1 31 (LQ hK h13)) (aq [.v 0 1] (ag (bL 0 1 33 (EX hK h14)) (aq [.v 0 1] (aR (bO 20 9 bv (L:=v10) h15) (ag (cy (m:=0) (cJ 20 220 9 0 bv bv ({ js with Item:=v11,size:=v12 }:bi) (bf h15).2 ((fun _=>rfl)))) bz))))))) ?_;obtain⟨v13,h16,h⟩:=bF h;refine bm (ks':=dd 32051 :: .b 1::dd 4007::F6 M w0 r m1) 0 ⟨[(1,iI v3),(5,.ref 20),(6,iI v8),(7,iI v9),(21,.sl (lm bV v1)),(22,iI (v1.length:Int)),(23,iI v9)],[],[(20,⟨220,9,lm bv v13⟩)],[20]⟩ ?_ (by subst h16;kernel_rfl)
  refine ai 3 ?_;obtain⟨h17,h⟩:=ax h;exact au (ca 20 9 bv h17) (aO 5 1 (au (br 3 7 bv bv (bf h17).2 ((fun _=>rfl))) (ab (ac 2 (bc (hL1 h))))))
 ·refine ae 24 h11 (eI 13 7 10 ?_);obtain⟨h18,h⟩|⟨h18,h⟩:=am h
  ·exact ae 46 h18 (ac 2 (HT hK h))
  ·exact ae 46 h18 (ac 2 (HT hK h))
theorem R8(hK:ak K)(m:Nat):Hn M w0 r v1 v3 m (sB K n v1 v3 m):=by
 induction m with
 | zero=>intro v8 v9 v10 h;cases h
 | succ m ih=>intro v8 v9 v10 h;have h:ut K n v1 v3 (sB K n v1 v3 m) v8 v9 v10=some r:=h;exact aZ (UI hK ih h)
theorem Mb(hK:ak K)(h:vF K n v1 v2=some r):aW Tryz.prog 129 [.sl (lm bV v1),iI v2] (fun v s=>v=.ref 143∧look 143 s.r=some ⟨3,1,lm (af .i64) r⟩):=by
 refine bB (cat Tryz.f129 (pn 1)) Tryz.func129 Tryz.ntmps129 fun M w0=>(ba ⟨[(0,.sl (lm bV v1)),(1,iI v2)],[],[],[]⟩ ?_);unfold vF at h;obtain⟨v3,h1,h⟩:=bF h;refine bm (ks':=[dd 14,dd 15]) 5 ⟨[(0,.sl (lm bV v1)),(1,iI v3)],[],[],[]⟩ ?_ (by subst h1;kernel_rfl);refine ai 1 (au (bj bV v1) ?_);obtain⟨h2,h⟩:=ax h;refine jQ bv (js:bi) 218 (.tmp 19) (.tmp 19) 20 (e:=220) (sz:=9) (zc:=bv js) (kd:=.i64) (kd':=.i64) h2 (ab ?_);obtain⟨v4,h3,h⟩:=bF h;refine bm (ks':=[dd 124,dd 125,dd 63]) 4 ⟨[(0,.sl (lm bV v1)),(1,iI v3),(5,.ref 20),(6,iI 0)],[],[(20,⟨220,9,lm bv v4⟩)],[20]⟩ ?_ (by subst h3;kernel_rfl);exact ai 1 (au (bj bV v1) (ab (ac 1 (bK (p:=pn 250) n (R8 hK n h)))))
end
end Go.Proofs.YtocgkfoifehcbaaGreat

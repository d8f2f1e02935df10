/- The runs of the functions that InlineSpread reaches do what their plain forms say, part 4. Made by a program. -/
import Derived.Test.YtnpmlepplfaijaaGreatIwGk
import Derived.Test.YtnpmlepplfaijaaGreatIwP3
namespace Go.Proofs.YtnpmlepplfaijaaGreat
open Go.RowKit
set_option maxRecDepth 20000
set_option linter.all false
set_option linter.unusedVariables false
set_option linter.unusedSimpArgs false
noncomputable section
variable(M:Nat→Prop)(w0:aF)(r:Int×Int)(v1:List ai)(v6:Int)(v7 v10:(List aP))(v13 v14 v20:Int)(v21 v24:(List aP))(v29 v30 v31:Int)(v32:Bool)(v34 v35:Int)(m1 m2 m3 m4:Nat)(L1:Int→(List aP)→Option (Int×Int))(L2:Int→Int→Option (Int×Int))(L3:Int→(List aP)→Option (Int×Int))(L4:Int→Int→Int→Option (Int×Int))
abbrev kt:Cx:=⟨Tryz.prog,124,M,w0⟩
abbrev kq:=bodyPost Tryz.prog Tryz.f18 (bu M w0 (fun v _=>v=.tup [iI r.1,iI r.2]))
abbrev nP(ks:List aq)(s:AS):=VE (kt M w0) (kq M w0 r) ks .normal s
abbrev eC(n:Nat):aq:=.c (cat Tryz.f18 (pn n))
abbrev Cq:List aq:=[.b 6,eC 2047]
abbrev BK:List aq:=kl (kt M w0) (kq M w0 r) Cq (cat Tryz.f18 (pn 16372)) m4::Cq
abbrev Dw:List aq:=[.b 4,eC 511]
abbrev Dk:List aq:=kl (kt M w0) (kq M w0 r) Dw (cat Tryz.f18 (pn 4084)) m3::Dw
abbrev F3:List aq:=[.b 2,eC 255]
abbrev Kl:List aq:=kl (kt M w0) (kq M w0 r) F3 (cat Tryz.f18 (pn 1016)) m2::F3
abbrev Ei:List aq:=[.b 0,eC 63]
abbrev Dm:List aq:=kl (kt M w0) (kq M w0 r) Ei (cat Tryz.f18 (pn 500)) m1::Ei
def Zi:AS:=⟨[(4,.ref 1018),(5,iI 0),(6,iI 0),(7,iI v6)],[],[(1018,⟨49,9,lm bn v10⟩)],[1018]⟩
def QH:AS:=⟨[(4,.ref 1018),(5,iI v13),(6,iI 0),(12,iI v20)],[],[(1018,⟨49,9,lm bn v24⟩)],[1018]⟩
def abW:AS:=⟨[(4,.ref 1018),(5,iI v13),(6,iI v34),(15,iI v35),(16,iI v31)],[],[(1018,⟨49,9,lm bn v21⟩)],[1018]⟩
def RL:AS:=⟨[(4,.ref 1018),(5,iI v13),(6,iI v29),(15,iI v30),(16,iI v31),(111,.bool v32)],[],[(1018,⟨49,9,lm bn v21⟩)],[1018]⟩
def Lk:AS:=⟨[(4,.ref 1018),(5,iI v13),(6,iI v29),(15,iI v30),(16,iI v31)],[],[(1018,⟨49,9,lm bn v21⟩)],[1018]⟩
def Gf:AS:=⟨[(4,.ref 1018),(5,iI v13),(6,iI 0),(12,iI v20)],[],[(1018,⟨49,9,lm bn v21⟩)],[1018]⟩
def Jf:AS:=⟨[(4,.ref 1018),(5,iI v13),(6,iI 0),(10,iI v14)],[],[(1018,⟨49,9,lm bn v7⟩)],[1018]⟩
def IK:AS:=⟨[(4,.ref 1018),(5,iI 0),(6,iI 0),(7,iI v6)],[],[(1018,⟨49,9,lm bn v7⟩)],[1018]⟩
abbrev BU:Prop:=∀{v6:Int} {v7:(List aP)},L1 v6 v7=some r→LP (kt M w0) (kq M w0 r) Ei (cat Tryz.f18 (pn 500)) m1 (IK v6 v7)
abbrev Lz:Prop:=∀{v13:Int} {v14:Int},L2 v13 v14=some r→LP (kt M w0) (kq M w0 r) F3 (cat Tryz.f18 (pn 1016)) m2 (Jf v7 v13 v14)
abbrev BI:Prop:=∀{v20:Int} {v21:(List aP)},L3 v20 v21=some r→LP (kt M w0) (kq M w0 r) Dw (cat Tryz.f18 (pn 4084)) m3 (Gf v13 v20 v21)
abbrev zJ:Prop:=∀{v29:Int} {v30:Int} {v31:Int},L4 v29 v30 v31=some r→LP (kt M w0) (kq M w0 r) Cq (cat Tryz.f18 (pn 16372)) m4 (Lk v13 v21 v29 v30 v31)
variable{M w0 r v1 v6 v7 v10 v13 v14 v20 v21 v24 v29 v30 v31 v32 v34 v35 m1 m2 m3 m4 L1 L2 L3 L4}{K:Kn}{n:Nat}
theorem Ng(hK:am K)(hL1:BU M w0 r m1 L1)(h:rx K n v6 L1 v10=some r):nP M w0 r (.b 1::eC 2003::Dm M w0 r m1) (Zi v6 v10):=by
 unfold rx at h;exact ae 2 (bt (hL1 h))
theorem MV(hK:am K)(hL3:BI M w0 r v13 m3 L3)(h:qN K n v13 v20 L3 v24=some r):nP M w0 r (.b 5::eC 16339::Dk M w0 r m3) (QH v13 v20 v24):=by
 unfold qN at h;exact ae 2 (bt (hL3 h))
theorem Ol(hK:am K)(hL4:zJ M w0 r v13 v21 m4 L4)(h:tP K n v13 v21 v31 L4 v34 v35=some r):nP M w0 r (.b 7::eC 65491::BK M w0 r m4) (abW v13 v21 v31 v34 v35):=by
 unfold tP at h;exact ae 2 (bt (hL4 h))
theorem Ku(hK:am K)(hL4:zJ M w0 r v13 v21 m4 L4)(h:oG K n v13 v21 v29 v30 v31 L4 v32=some r):nP M w0 r (eC 261961 :: .b 7::eC 65491::BK M w0 r m4) (RL v13 v21 v29 v30 v31 v32):=by
 unfold oG at h;obtain⟨h54,h⟩|⟨h54,h⟩:=ak h
 ·refine ag 111 h54 (az 4 5 2 (aj 5 ?_));obtain⟨h55,h⟩:=aK h;refine aB (MU bn v21 v30 (aa (v31+1)) 36 (.tmp 113) (some (.tmp 114)) (some (.tmp 116)) 117 (id:=1018) (e:=49) (sz:=9) (et:=49) (by kernel_rfl) (by kernel_rfl) (by kernel_rfl) (by kernel_rfl) (by kernel_rfl) (by kernel_rfl) (by kernel_rfl) (fun k hk=>by subst hk;kernel_rfl) h55) ?_;obtain⟨h57,h⟩:=aK h;obtain⟨v33,h56,h⟩:=bind_some h;exact Gu (KJ hK h56) ((by kernel_rfl:nf _ _=some (48,[.sl (List.take (((aa (v31+1))).toNat-v30.toNat) (List.drop (v30.toNat) (lm bn v21)))],[.sref 1018 9 (v30.toNat) (((aa (v31+1))).toNat-v30.toNat)])).trans (by simp only[I5]:some (48,([.sl (List.take (((aa (v31+1))).toNat-v30.toNat) (List.drop (v30.toNat) (lm bn v21)))]:List AV),([.sref 1018 9 (v30.toNat) (((aa (v31+1))).toNat-v30.toNat)]:List AV))=some (48,[.sl (lm bn (List.take (((aa (v31+1))).toNat-v30.toNat) (List.drop (v30.toNat) v21)))],[.sref 1018 9 (v30.toNat) (((aa (v31+1))).toNat-v30.toNat)]))) (Kj (q:=[((v30.toNat)+(((aa (v31+1))).toNat-v30.toNat),(lm bn v21).length)]) (by kernel_rfl) (And.intro (IC bn (L:=v21) (off:=v30.toNat) (m:=(((aa (v31+1))).toNat-v30.toNat)) h57) trivial)) (ac (ae 1 (Ol hK hL4 h)))
 ·exact ag 111 h54 (ae 2 (Ol hK hL4 h))
theorem SY(hK:am K)(hL4:zJ M w0 r v13 v21 m4 L4)(h:sJ K n v13 v21 L4 v29 v30 v31=some r):nP M w0 r (eC 16372::BK M w0 r m4) (Lk v13 v21 v29 v30 v31):=by
 unfold sJ at h;refine bH 4 5 3 2 (aj 2 (aB (bq bn v21) (ac ?_)));obtain⟨h51,h⟩|⟨h51,h⟩:=ak h
 ·refine ag 97 h51 (cQ 8 9 7 3 5 (aj 2 ?_));obtain⟨h52,h⟩:=aK h;refine aB (cS 1018 9 bn h52) (aL 4 1 (aB (cp 4 7 bn bn (cj h52).2 ((fun _=>rfl))) (aL 6 1 ?_)));obtain⟨h53,h⟩|⟨h53,h⟩:=ak h
  ·exact aA 105 h53 (ac (ae 0 (Ku hK hL4 h)))
  ·exact aA 105 h53 (aL 8 2 (aB (bq bn v21) (ac (ae 0 (Ku hK hL4 h)))))
 ·refine ag 97 h51 (aE 8 ?_);cases h;exact dS
theorem XW(hK:am K)(m:Nat):zJ M w0 r v13 v21 m (jb K n v13 v21 m):=by
 induction m with
 | zero=>intro v29 v30 v31 h;cases h
 | succ m ih=>intro v29 v30 v31 h;have h:sJ K n v13 v21 (jb K n v13 v21 m) v29 v30 v31=some r:=h;exact bp (SY hK ih h)
theorem Zn(hK:am K)(hL3:BI M w0 r v13 m3 L3)(h:qH K n v13 L3 v20 v21=some r):nP M w0 r (eC 4084::Dk M w0 r m3) (Gf v13 v20 v21):=by
 unfold qH at h;refine bH 4 5 3 2 (aj 2 (aB (bq bn v21) (ac ?_)));obtain⟨h36,h⟩|⟨h36,h⟩:=ak h
 ·refine ag 67 h36 (cQ 8 9 5 3 5 (aj 2 ?_));obtain⟨h37,h⟩:=aK h;refine aB (cS 1018 9 bn h37) (aL 4 1 (aB (cp 44 8 bn bn (cj h37).2 ((fun _=>rfl))) (aB (bq aG ((gD v21 v20).Box)) (ac ?_))));obtain⟨v22,h38,h⟩:=bW h;refine bB (ks':=eC 65353 :: .b 5::eC 16339::Dk M w0 r m3) 0 ⟨[(4,.ref 1018),(5,iI v13),(6,iI 0),(12,iI v20),(76,.bool v22)],[],[(1018,⟨49,9,lm bn v21⟩)],[1018]⟩ ?_ (by subst h38;kernel_rfl);obtain⟨h39,h⟩|⟨h39,h⟩:=ak h
  ·refine ag 76 h39 (az 4 5 2 (aj 2 ?_));obtain⟨h40,h⟩:=aK h;refine aB (cS 1018 9 bn h40) (aL 4 1 (aB (cp 47 0 bn bn (cj h40).2 ((fun _=>rfl))) ?_));obtain⟨h41,h⟩:=aK h;refine aB (bw aS aS h41 (jy) ((fun _=>rfl))) (aL 8 2 ?_);obtain⟨v23,h42,h⟩:=bind_some h;refine aD (Da hK h42) (ac (aj 3 ?_));obtain⟨h43,h⟩:=aK h;exact aB (cS 1018 9 bn h43) (aL 5 1 (aB (tL 1018 49 9 2 bn bn ({ (gD v21 v20)with Width:=v23.2 }:aP) (cj h43).2 ((fun _=>rfl))) (ac (ae 0 (MV hK hL3 h)))))
  ·exact ag 76 h39 (ae 2 (MV hK hL3 h))
 ·exact ag 67 h36 (ae 11 (cf (p:=pn 8186) n (XW hK n h)))
theorem acC(hK:am K)(m:Nat):BI M w0 r v13 m (kw K n v13 m):=by
 induction m with
 | zero=>intro v20 v21 h;cases h
 | succ m ih=>intro v20 v21 h;have h:qH K n v13 (kw K n v13 m) v20 v21=some r:=h;exact bp (Zn hK ih h)
theorem Un(hK:am K)(hL2:Lz M w0 r v7 m2 L2)(h:qI K n v7 L2 v13 v14=some r):nP M w0 r (eC 1016::Kl M w0 r m2) (Jf v7 v13 v14):=by
 unfold qI at h;refine bH 4 5 3 2 (aj 2 (aB (bq bn v7) (ac ?_)));obtain⟨h23,h⟩|⟨h23,h⟩:=ak h
 ·refine ag 52 h23 (co (ks':=eC 8132::eC 8133 :: .b 3::Kl M w0 r m2) 4 (aj 2 ?_));obtain⟨v15,h24,h⟩:=bind_some h;refine aaS (Vz hK h24) (ac (az 2 3 1 (aj 4 ?_)));obtain⟨h25,h⟩:=aK h;refine aB (MU bn v7 v14 v15 36 (.tmp 57) (some (.tmp 58)) (some (.tmp 59)) 60 (id:=1018) (e:=49) (sz:=9) (et:=49) (by kernel_rfl) (by kernel_rfl) (by kernel_rfl) (by kernel_rfl) (by kernel_rfl) (by kernel_rfl) (by kernel_rfl) (fun k hk=>by subst hk;kernel_rfl) h25) ?_;obtain⟨h27,h⟩:=aK h;obtain⟨v16,h26,h⟩:=bind_some h;exact Gu (KJ hK h26) ((by kernel_rfl:nf _ _=some (48,[.sl (List.take (v15.toNat-v14.toNat) (List.drop (v14.toNat) (lm bn v7)))],[.sref 1018 9 (v14.toNat) (v15.toNat-v14.toNat)])).trans (by simp only[I5]:some (48,([.sl (List.take (v15.toNat-v14.toNat) (List.drop (v14.toNat) (lm bn v7)))]:List AV),([.sref 1018 9 (v14.toNat) (v15.toNat-v14.toNat)]:List AV))=some (48,[.sl (lm bn (List.take (v15.toNat-v14.toNat) (List.drop (v14.toNat) v7)))],[.sref 1018 9 (v14.toNat) (v15.toNat-v14.toNat)]))) (Kj (q:=[((v14.toNat)+(v15.toNat-v14.toNat),(lm bn v7).length)]) (by kernel_rfl) (And.intro (IC bn (L:=v7) (off:=v14.toNat) (m:=(v15.toNat-v14.toNat)) h27) trivial)) (ac (ae 2 (bt (hL2 h))))
 ·exact ag 52 h23 (ae 9 (cf (p:=pn 2042) n (acC hK n h)))
theorem U9(hK:am K)(m:Nat):Lz M w0 r v7 m (kR K n v7 m):=by
 induction m with
 | zero=>intro v13 v14 h;cases h
 | succ m ih=>intro v13 v14 h;have h:qI K n v7 (kR K n v7 m) v13 v14=some r:=h;exact bp (Un hK ih h)
theorem Ql(hK:am K)(hL1:BU M w0 r m1 L1)(h:rU K n L1 v6 v7=some r):nP M w0 r (eC 500::Dm M w0 r m1) (IK v6 v7):=by
 unfold rU at h;refine bH 4 5 3 2 (aj 2 (aB (bq bn v7) (ac ?_)));obtain⟨h10,h⟩|⟨h10,h⟩:=ak h
 ·refine ag 22 h10 (cQ 8 9 1 3 5 (aj 2 ?_));obtain⟨h11,h⟩:=aK h;refine aB (cS 1018 9 bn h11) (aL 4 1 (aB (cp 44 8 bn bn (cj h11).2 ((fun _=>rfl))) (aB (bq aG ((gD v7 v6).Box)) (ac ?_))));obtain⟨v8,h12,h⟩:=bW h;refine bB (ks':=eC 8009 :: .b 1::eC 2003::Dm M w0 r m1) 0 ⟨[(4,.ref 1018),(5,iI 0),(6,iI 0),(7,iI v6),(31,.bool v8)],[],[(1018,⟨49,9,lm bn v7⟩)],[1018]⟩ ?_ (by subst h12;kernel_rfl);obtain⟨h13,h⟩|⟨h13,h⟩:=ak h
  ·refine ag 31 h13 (az 4 5 2 (aj 2 ?_));obtain⟨h14,h⟩:=aK h;refine aB (cS 1018 9 bn h14) (aL 4 1 (aB (cp 47 0 bn bn (cj h14).2 ((fun _=>rfl))) ?_));obtain⟨h15,h⟩:=aK h;refine aB (bw aS aS h15 (jy) ((fun _=>rfl))) (aL 8 2 ?_);obtain⟨v9,h16,h⟩:=bind_some h;refine aD (Da hK h16) (ac (aj 3 ?_));obtain⟨h17,h⟩:=aK h;exact aB (cS 1018 9 bn h17) (aL 5 1 (aB (tL 1018 49 9 2 bn bn ({ (gD v7 v6)with Width:=v9.1 }:aP) (cj h17).2 ((fun _=>rfl))) (ac (ae 0 (Ng hK hL1 h)))))
  ·exact ag 31 h13 (ae 2 (Ng hK hL1 h))
 ·exact ag 22 h10 (ae 9 (cf (p:=pn 508) n (U9 hK n h)))
theorem R5(hK:am K)(m:Nat):BU M w0 r m (ml K n m):=by
 induction m with
 | zero=>intro v6 v7 h;cases h
 | succ m ih=>intro v6 v7 h;have h:rU K n (ml K n m) v6 v7=some r:=h;exact bp (Ql hK ih h)
theorem VD(hK:am K)(h:pS K n v1=some r):aO Tryz.prog 18 [.sl (lm aQ v1)] (fun v _=>v=.tup [iI r.1,iI r.2]):=by
 refine bg (cat Tryz.f18 (pn 1)) Tryz.func18 Tryz.ntmps18 fun M w0=>(bc ⟨[(0,.sl (lm aQ v1))],[],[],[]⟩ ?_);unfold pS at h;refine az 6 7 3 (aj 1 ?_);obtain⟨v2,h1,h⟩:=bind_some h;exact dx 1018 (ZN hK h1) (fx 440006) (ac (ae 8 (cf (p:=pn 250) n (R5 hK n h))))
end
noncomputable section
variable(M:Nat→Prop)(w0:aF)(r:Bool)(v1:List ci)(v2 v7 v8 v10:Int)(v11:List ai)(v14:Int×Int)(v16:Bool)(v18:List ay)(v21 v22:Int)(v23:Bool)(v24:Int)(v26:Bool)(m1 m2:Nat)(L1 L2:Int→Int→Option Bool)
abbrev uE:Cx:=⟨Tryz.prog,99,M,w0⟩
abbrev q5:=bodyPost Tryz.prog Tryz.f5 (bu M w0 (fun v _=>v=.bool r))
abbrev pN(ks:List aq)(s:AS):=VE (uE M w0) (q5 M w0 r) ks .normal s
abbrev gQ(n:Nat):aq:=.c (cat Tryz.f5 (pn n))
abbrev Ep:List aq:=[.b 2,gQ 8191]
abbrev Fw:List aq:=kl (uE M w0) (q5 M w0 r) Ep (cat Tryz.f5 (pn 65524)) m2::Ep
abbrev C0:List aq:=[.b 0,gQ 31]
abbrev BQ:List aq:=kl (uE M w0) (q5 M w0 r) C0 (cat Tryz.f5 (pn 244)) m1::C0
def R0:AS:=⟨[(0,.sl (lm b9 v1)),(1,.int .u8 v10),(21,.sl (lm b9 v1)),(22,iI (v1.length:Int)),(23,iI v8)],[],[],[]⟩
def UB:AS:=⟨[(1,.int .u8 v7),(8,iI v14.1),(9,iI v14.2),(12,.ref 1060),(13,iI v24),(61,.ref 1060),(62,iI (v18.length:Int)),(63,iI v22)],[],[(1060,⟨46,62,lm aN v18⟩)],[1060]⟩
def abK:AS:=⟨[(1,.int .u8 v7),(8,iI v14.1),(9,iI v14.2),(12,.ref 1060),(13,iI v21),(61,.ref 1060),(62,iI (v18.length:Int)),(63,iI v22),(76,.bool v23)],[],[(1060,⟨46,62,lm aN v18⟩)],[1060]⟩
def Pb:AS:=⟨[(4,.bool v26)],[],[],[]⟩
def Kb:AS:=⟨[(1,.int .u8 v7),(8,iI v14.1),(9,iI v14.2),(12,.ref 1060),(13,iI v21),(61,.ref 1060),(62,iI (v18.length:Int)),(63,iI v22)],[],[(1060,⟨46,62,lm aN v18⟩)],[1060]⟩
def Ws:AS:=⟨[(1,.int .u8 v7),(7,.sl (lm aQ v11)),(8,iI v14.1),(9,iI v14.2),(54,.bool v16)],[],[],[]⟩
def IX:AS:=⟨[(0,.sl (lm b9 v1)),(1,.int .u8 v7),(21,.sl (lm b9 v1)),(22,iI (v1.length:Int)),(23,iI v8)],[],[],[]⟩
abbrev CL:Prop:=∀{v7:Int} {v8:Int},L1 v7 v8=some r→LP (uE M w0) (q5 M w0 r) C0 (cat Tryz.f5 (pn 244)) m1 (IX v1 v7 v8)
abbrev ym:Prop:=∀{v21:Int} {v22:Int},L2 v21 v22=some r→LP (uE M w0) (q5 M w0 r) Ep (cat Tryz.f5 (pn 65524)) m2 (Kb v7 v14 v18 v21 v22)
variable{M w0 r v1 v2 v7 v8 v10 v11 v14 v16 v18 v21 v22 v23 v24 v26 m1 m2 L1 L2}{K:Kn}{n:Nat}
theorem H9(hK:am K)(hL1:CL M w0 r v1 m1 L1)(h:ww K n v1 v8 L1 v10=some r):pN M w0 r (.b 1::gQ 1959::BQ M w0 r m1) (R0 v1 v8 v10):=by
 unfold ww at h;exact ae 2 (bt (hL1 h))
theorem KX(hK:am K)(hL2:ym M w0 r v7 v14 v18 m2 L2)(h:qW K n v7 v14 v18 v22 L2 v24=some r):pN M w0 r (.b 3::gQ 524199::Fw M w0 r m2) (UB v7 v14 v18 v22 v24):=by
 unfold qW at h;exact ae 2 (bt (hL2 h))
theorem NP(hK:am K)(hL2:ym M w0 r v7 v14 v18 m2 L2)(h:oO K n v7 v14 v18 v21 v22 L2 v23=some r):pN M w0 r (gQ 4193587 :: .b 3::gQ 524199::Fw M w0 r m2) (abK v7 v14 v18 v21 v22 v23):=by
 unfold oO at h;obtain⟨h30,h⟩|⟨h30,h⟩:=ak h
 ·exact ag 76 h30 (ae 2 (KX hK hL2 h))
 ·exact ag 76 h30 (ae 2 (KX hK hL2 h))
theorem H2(hK:am K)(h:om K n v26=some r):pN M w0 r [gQ 16383] (Pb v26):=by
 unfold om at h;refine aE 1 ?_;cases h;exact ba
theorem Zx(hK:am K)(hL2:ym M w0 r v7 v14 v18 m2 L2)(h:sa K n v7 v14 v18 L2 v21 v22=some r):pN M w0 r (gQ 65524::Fw M w0 r m2) (Kb v7 v14 v18 v21 v22):=by
 unfold sa at h;refine az 6 7 3 ?_;obtain⟨h27,h⟩|⟨h27,h⟩:=ak h
 ·refine ag 64 h27 (cQ 8 9 3 3 5 (aj 1 ?_));obtain⟨h28,h⟩:=aK h;refine aB (cS 1060 62 aN h28) (aB (cp 46 0 aN aN (cj h28).2 ((fun _=>rfl))) (ac (az 2 3 1 (aj 3 ?_))));obtain⟨h29,h⟩|⟨h29,h⟩:=ak h
  ·exact aA 70 h29 (aL 5 2 (aB (bq aN v18) (ac (ae 0 (NP hK hL2 h)))))
  ·exact aA 70 h29 (ac (ae 0 (NP hK hL2 h)))
 ·refine ag 64 h27 (kx 2 3 6 (aj 4 ?_));obtain⟨h31,h⟩|⟨h31,h⟩:=ak h
  ·refine aA 83 h31 (aL 10 6 (lT 1060 ?_));obtain⟨v25,h32,h⟩:=bind_some h;exact dx 1090 (IV hK h32) (fx 16) (aB (bq (bi .i64) v25) (aL 14 2 (aB (bq aN v18) (ac (ae 0 (H2 hK h))))))
  ·exact aA 83 h31 (ac (ae 0 (H2 hK h)))
theorem aa5(hK:am K)(m:Nat):ym M w0 r v7 v14 v18 m (qt K n v7 v14 v18 m):=by
 induction m with
 | zero=>intro v21 v22 h;cases h
 | succ m ih=>intro v21 v22 h;have h:sa K n v7 v14 v18 (qt K n v7 v14 v18 m) v21 v22=some r:=h;exact bp (Zx hK ih h)
theorem Kv(hK:am K)(h:px K n v7 v11 v14 v16=some r):pN M w0 r [gQ 1021,gQ 511] (Ws v7 v11 v14 v16):=by
 unfold px at h;obtain⟨h19,h⟩|⟨h19,h⟩:=ak h
 ·refine ag 54 h19 (aE 5 ?_);cases h;exact ba
 ·refine ag 54 h19 (dB 5 3 5 ?_);obtain⟨h20,h⟩|⟨h20,h⟩:=ak h
  ·refine ag 56 h20 (aE 5 ?_);cases h;exact ba
  ·refine ag 56 h20 (dB 2 3 3 (aj 2 ?_));obtain⟨v17,h21,h⟩:=bind_some h;refine aD (wK hK h21) ?_;obtain⟨v18,h22,h⟩:=bind_some h;exact dx 1060 (Jx hK h22) (fx 1009) (ac (bH 12 13 7 4 (aj 1 (aB (bq aN v18) (ac (ae 1 (cf (p:=pn 32762) n (aa5 hK n h))))))))
theorem XO(hK:am K)(hL1:CL M w0 r v1 m1 L1)(h:rF K n v1 L1 v7 v8=some r):pN M w0 r (gQ 244::BQ M w0 r m1) (IX v1 v7 v8):=by
 unfold rF at h;refine az 6 7 3 ?_;obtain⟨h9,h⟩|⟨h9,h⟩:=ak h
 ·refine ag 24 h9 (cQ 8 9 1 3 5 (aj 0 ?_));obtain⟨h10,h⟩:=aK h;refine aB (bw b9 b9 h10 (tI) ((fun _=>rfl))) (ac ?_);obtain⟨v9,h11,h⟩:=bW h;refine bB (ks':=gQ 15667 :: .b 1::gQ 1959::BQ M w0 r m1) 2 ⟨[(0,.sl (lm b9 v1)),(1,.int .u8 v7),(21,.sl (lm b9 v1)),(22,iI (v1.length:Int)),(23,iI v8),(30,.bool v9)],[],[],[]⟩ ?_ (by subst h11;kernel_rfl);obtain⟨h12,h⟩|⟨h12,h⟩:=ak h
  ·exact ag 30 h12 (ae 2 (H9 hK hL1 h))
  ·exact ag 30 h12 (ae 2 (H9 hK hL1 h))
 ·refine ag 24 h9 (kx 2 3 6 (aj 1 ?_));obtain⟨v11,h13,h⟩:=bind_some h;refine dx 1033 (abQ hK h13) (fx 1007) (ac (az 2 3 1 (aj 2 ?_)));obtain⟨v12,h14,h⟩:=bind_some h;refine aD (ab7 hK h14) ?_;obtain⟨v13,h15,h⟩:=bind_some h;refine aD (wK hK h15) (lT 1033 ?_);obtain⟨v14,h16,h⟩:=bind_some h;refine aD (YT hK h16) (ac (az 2 3 1 (aj 1 ?_)));obtain⟨v15,h17,h⟩:=bind_some h;refine aD (VD hK h17) (ac (bH 4 5 3 2 (aj 4 ?_)));obtain⟨h18,h⟩|⟨h18,h⟩:=ak h
  ·exact aA 50 h18 (ac (ae 0 (Kv hK h)))
  ·exact aA 50 h18 (ac (ae 0 (Kv hK h)))
theorem Qo(hK:am K)(m:Nat):CL M w0 r v1 m (sr K n v1 m):=by
 induction m with
 | zero=>intro v7 v8 h;cases h
 | succ m ih=>intro v7 v8 h;have h:rF K n v1 (sr K n v1 m) v7 v8=some r:=h;exact bp (XO hK ih h)
theorem Yb(hK:am K)(h:zS K n v1 v2=some r):aO Tryz.prog 5 [.sl (lm b9 v1),.int .u8 v2] (fun v _=>v=.bool r):=by
 refine bg (cat Tryz.f5 (pn 1)) Tryz.func5 Tryz.ntmps5 fun M w0=>(bc ⟨[(0,.sl (lm b9 v1)),(1,.int .u8 v2)],[],[],[]⟩ ?_);unfold zS at h;refine bH 12 13 7 4 (aj 0 ?_);obtain⟨v3,h1,h⟩:=bind_some h;refine aD (UP hK h1) (ac ?_);obtain⟨h2,h⟩|⟨h2,h⟩:=ak h
 ·refine ag 17 h2 (aE 5 ?_);cases h;exact ba
 ·refine ag 17 h2 (ii 4 5 3 4 (aj 1 ?_));obtain⟨v4,h3,h⟩:=bind_some h;refine aD (S8 hK h3) (ac ?_);obtain⟨h4,h⟩|⟨h4,h⟩:=ak h
  ·refine ag 20 h4 (aE 5 ?_);cases h;exact ba
  ·exact ag 20 h4 (ii 4 5 3 4 (aj 1 (aB (bq b9 v1) (ac (ae 1 (cf (p:=pn 122) n (Qo hK n h)))))))
end
noncomputable section
variable(M:Nat→Prop)(w0:aF)(r:aV)(v1:aI)(v2 v3:Int)(v4:aV)(v7 v8 v9:Int)(v10 v11:(Int×Bool))(v12:Bool)(v13:V4 Int)  
abbrev yX(n:Nat):aq:=.c (cat Tryz.f103 (pn n))
abbrev aaP:Cx:=⟨Tryz.prog,89,M,w0⟩
abbrev RZ:=bodyPost Tryz.prog Tryz.f103 (bu M w0 (fun v _=>v=.agg (bm r)))
abbrev Cz(ks:List aq)(s:AS):=VE (aaP M w0) (RZ M w0 r) ks .normal s
def V0:AS:=⟨[(4,.ptr 4 0),(5,.ptr 5 0)],[(4,bm dM),(5,bm ({ v4 with Margin:=v13,Content:=v8 }:aV))],[],[4,5]⟩
def abB:AS:=⟨[(4,.ptr 4 0),(5,.ptr 5 0),(8,iI (aa (v3-v9))),(10,.bool v10.2),(12,.bool v11.2),(59,.bool v12)],[(4,bm dM),(5,bm ({ v4 with Content:=v8 }:aV))],[],[4,5]⟩
def aap:AS:=⟨[(1,iI v3),(2,.ptr 2 0),(4,.ptr 4 0),(5,.ptr 5 0),(6,iI v7)],[(2,aJ v1),(4,bm dM),(5,bm v4)],[],[2,4,5]⟩
variable{M w0 r v1 v2 v3 v4 v7 v8 v9 v10 v11 v12 v13}{K:Kn}{n:Nat}
theorem zC(hK:am K)(h:tN K n v4 v8 v13=some r):Cz M w0 r [.b 0,yX 4095] (V0 v4 v8 v13):=by
 unfold tN at h;refine aE 4 ?_;cases h;exact ba
theorem Hg(hK:am K)(h:xW K n v3 v4 v8 v9 v10 v11 v12=some r):Cz M w0 r [yX 16377,.b 0,yX 4095] (abB v3 v4 v8 v9 v10 v11 v12):=by
 unfold xW at h;obtain⟨h12,h⟩|⟨h12,h⟩:=ak h
 ·exact ag 59 h12 (ae 4 (zC hK h))
 ·refine ag 59 h12 (bh 7 3 ?_);obtain⟨h13,h⟩|⟨h13,h⟩:=ak h
  ·exact ag 76 h13 (ae 2 (zC hK h))
  ·refine ag 76 h13 (bh 7 3 ?_);obtain⟨h14,h⟩|⟨h14,h⟩:=ak h
   ·exact ag 82 h14 (ae 2 (zC hK h))
   ·exact ag 82 h14 (ae 2 (zC hK h))
theorem Ls(hK:am K)(h:yW K n v1 v3 v4 v7=some r):Cz M w0 r [yX 63] (aap v1 v3 v4 v7):=by
 unfold yW at h;refine az 2 3 1 (aj 3 ?_);obtain⟨v8,h6,h⟩:=bind_some h;refine aD (Ao hK h6) (ac (az 2 3 1 (aj 2 ?_)));obtain⟨v9,h7,h⟩:=bind_some h;refine aD (s7 hK h7) (ac (az 5 3 3 ?_));obtain⟨h8,h⟩|⟨h8,h⟩:=ak h
 ·refine ag 41 h8 (aE 5 ?_);cases h;exact ba
 ·refine ag 41 h8 (dB 2 3 3 (aj 4 ?_));obtain⟨v10,h9,h⟩:=bind_some h;refine aD (eU hK h9) (ac (az 2 3 1 (aj 4 ?_)));obtain⟨v11,h10,h⟩:=bind_some h;refine aD (eU hK h10) (ac (dk 8 9 0 3 3 (aj 3 ?_)));obtain⟨h11,h⟩|⟨h11,h⟩:=ak h
  ·exact aA 62 h11 (ac (ae 0 (Hg hK h)))
  ·exact aA 62 h11 (ac (ae 0 (Hg hK h)))
theorem ZS(hK:am K)(h:Dl K n v1 v2=some r):aO Tryz.prog 103 [.agg (aJ v1),iI v2] (fun v _=>v=.agg (bm r)):=by
 refine bg (cat Tryz.f103 (pn 1)) Tryz.func103 Tryz.ntmps103 fun M w0=>(bc ⟨[(0,.agg (aJ v1)),(1,iI v2)],[],[],[]⟩ ?_);unfold Dl at h;refine az 6 7 3 (aj 1 ?_);obtain⟨v3,h1,h⟩:=bind_some h;refine aD (iE hK h1) (ac (az 2 3 1 (aj 2 ?_)));obtain⟨v4,h2,h⟩:=bind_some h;refine aD (wu hK h2) (ac (az 2 3 1 (aj 3 ?_)));obtain⟨v5,h3,h⟩:=bind_some h;refine aD (eU hK h3) (ac (az 5 3 3 ?_));obtain⟨h4,h⟩|⟨h4,h⟩:=ak h
 ·refine ag 26 h4 (bh 2 1 (aj 2 ?_));obtain⟨v6,h5,h⟩:=bind_some h;exact aD (s7 hK h5) (ac (ae 0 (Ls hK h)))
 ·exact ag 26 h4 (ae 2 (Ls hK h))
end
noncomputable section
variable(M:Nat→Prop)(w0:aF)(r:ah)(v1:ai)(v2:Int)(v3:cg)(v4:aV)(v5 v6:Bool)  
abbrev Im(n:Nat):aq:=.c (cat Tryz.f60 (pn n))
abbrev QM:Cx:=⟨Tryz.prog,58,M,w0⟩
abbrev X0:=bodyPost Tryz.prog Tryz.f60 (bu M w0 (fun v s=>v=.agg (List.set (aH ({ r with Kids:=[] }:ah)) 66 (.ref 1057))∧look 1057 s.r=some ⟨59,67,lm aG r.Kids⟩))
abbrev Hb(ks:List aq)(s:AS):=VE (QM M w0) (X0 M w0 r) ks .normal s
def Tj:AS:=⟨[(3,.ptr 3 0),(5,.ptr 5 0),(6,.ptr 6 0),(7,.ptr 7 0),(9,.bool v5),(10,.bool v6)],[(3,aW v1),(5,ct v3),(6,List.set (aH bA) 66 (.nils)),(7,bm v4)],[],[3,5,6,7]⟩
def TT:AS:=⟨[(3,.ptr 3 0),(5,.ptr 5 0),(6,.ptr 6 0),(7,.ptr 7 0),(8,.bool (v1.Style.Overflow == 0)),(9,.bool v5)],[(3,aW v1),(5,ct v3),(6,List.set (aH bA) 66 (.nils)),(7,bm v4)],[],[3,5,6,7]⟩
variable{M w0 r v1 v2 v3 v4 v5 v6}{K:Kn}{n:Nat}
theorem ye(hK:am K)(h:sX K n v1 v3 v4 v5 v6=some r):Hb M w0 r [Im 63] (Tj v1 v3 v4 v5 v6):=by
 unfold sX at h;refine az 2 3 1 (aj 5 ?_);obtain⟨v7,h7,h⟩:=bind_some h;refine dx 1057 (L5 hK h7) (pQ (i:=66) (by kernel_rfl)) (ac (aE 1 ?_));cases h;exact fa
theorem DA(hK:am K)(h:vi K n v1 v3 v4 v5=some r):Hb M w0 r [Im 31] (TT v1 v3 v4 v5):=by
 unfold vi at h;refine az 2 3 1 (aj 2 ?_);obtain⟨h4,h⟩|⟨h4,h⟩:=ak h
 ·refine aA 33 h4 (aL 8 6 ?_);obtain⟨h5,h⟩|⟨h5,h⟩:=ak h
  ·refine aA 39 h5 (aL 14 6 ?_);obtain⟨h6,h⟩|⟨h6,h⟩:=ak h
   ·exact aA 45 h6 (ac (ae 0 (ye hK h)))
   ·exact aA 45 h6 (ac (ae 0 (ye hK h)))
  ·exact aA 39 h5 (ac (ae 0 (ye hK h)))
 ·exact aA 33 h4 (ac (ae 0 (ye hK h)))
theorem VC(hK:am K)(h:CT K n v1 v2 v3=some r):aO Tryz.prog 60 [.agg (aW v1),iI v2,.agg (ct v3)] (fun v s=>v=.agg (List.set (aH ({ r with Kids:=[] }:ah)) 66 (.ref 1057))∧look 1057 s.r=some ⟨59,67,lm aG r.Kids⟩):=by
 refine bg (cat Tryz.f60 (pn 1)) Tryz.func60 Tryz.ntmps60 fun M w0=>(bc ⟨[(0,.agg (aW v1)),(1,iI v2),(2,.agg (ct v3))],[],[],[]⟩ ?_);unfold CT at h;refine az 6 7 3 (aj 3 ?_);obtain⟨v4,h1,h⟩:=bind_some h;refine aD (ZS hK h1) (ac (az 6 7 3 (aj 2 ?_)));obtain⟨h2,h⟩|⟨h2,h⟩:=ak h
 ·refine aA 20 h2 (aL 8 6 ?_);obtain⟨h3,h⟩|⟨h3,h⟩:=ak h
  ·exact aA 26 h3 (ac (ae 0 (DA hK h)))
  ·exact aA 26 h3 (ac (ae 0 (DA hK h)))
 ·exact aA 20 h2 (ac (ae 0 (DA hK h)))
end
noncomputable section
variable(M:Nat→Prop)(w0:aF)(r:ah)(v1:ai)(v2:Int)  
variable{M w0 r v1 v2}{K:Kn}{n:Nat}
theorem Tf(hK:am K)(h:E3 K n v1 v2=some r):aO Tryz.prog 31 [.agg (aW v1),iI v2] (fun v s=>v=.agg (List.set (aH ({ r with Kids:=[] }:ah)) 66 (.ref 8))∧look 8 s.r=some ⟨59,67,lm aG r.Kids⟩):=by
 refine bg (cat Tryz.f31 (pn 1)) Tryz.func31 Tryz.ntmps31 fun M w0=>(bc ⟨[(0,.agg (aW v1)),(1,iI v2)],[],[],[]⟩ ?_);unfold E3 at h;refine az 6 7 3 (bI [1,2,4] [2,4] [] ?_);obtain⟨v3,h1,h⟩:=bind_some h;obtain⟨v4,h2,h⟩:=bind_some h;refine bF 1 (nu 5 [.agg (aW v1),iI v2,.agg (ct v3),.agg (List.set (aH ({ v4 with Kids:=[] }:ah)) 66 (.ref 8))]) [] [(8,⟨59,67,lm aG v4.Kids⟩)] [bR Tryz.prog 9 Tryz.f31 (pn 6) 4] (av (vz 2) (ab (cb 0 1 7 (wK hK h1)) (ab (EL 0 1 8 (VC hK h2) (pQ (i:=66) (by kernel_rfl))) (ab (bQ 0) bG)))) (aE 1 ?_);cases h;exact fa
end
noncomputable section
variable(M:Nat→Prop)(w0:aF)(r:Int×Int)(v1:ai)(v2:cg)  
variable{M w0 r v1 v2}{K:Kn}{n:Nat}
theorem Sj(hK:am K)(h:wZ K n v1 v2=some r):aO Tryz.prog 61 [.agg (aW v1),.agg (ct v2)] (fun v _=>v=.tup [iI r.1,iI r.2]):=by
 refine bg (cat Tryz.f61 (pn 1)) Tryz.func61 Tryz.ntmps61 fun M w0=>(bc ⟨[(0,.agg (aW v1)),(1,.agg (ct v2))],[],[],[]⟩ ?_);unfold wZ at h;refine az 6 7 3 (aj 2 ?_);obtain⟨v3,h1,h⟩:=bind_some h;refine aD (Ni hK h1) (ac (az 2 3 1 (aj 2 ?_)));obtain⟨v4,h2,h⟩:=bind_some h;refine aD (Og hK h2) (ac (az 2 3 1 (bI [4,5,6] [6] [] ?_)));obtain⟨v5,h3,h⟩:=bind_some h;obtain⟨v6,h4,h⟩:=bind_some h;obtain⟨v7,h5,h⟩:=bind_some h;obtain⟨v8,h6,h⟩:=bind_some h;obtain⟨v9,h7,h⟩:=bind_some h;obtain⟨v10,h8,h⟩:=bind_some h;refine bF 2 (nu 16 [.agg (aJ v4),.agg (aJ v4),iI v3.1,iI v5,.agg (bm v6),iI v7,.agg (aJ v4),.agg (aJ v4),iI v3.2,iI v8,.agg (bm v9),iI v10]) [] [] [bR Tryz.prog 28 Tryz.f61 (pn 30) 12,bR Tryz.prog 28 Tryz.f61 (pn 30) 13] (av (vz 3) (ab (cb 0 1 19 (Ao hK h3)) (ab (cb 0 1 20 (wu hK h4)) (ab (cb 0 1 21 (s7 hK h5)) (av [.v 0 2,.v 0 2,.v 0 2] (ab (cb 0 2 25 (Ao hK h6)) (ab (cb 0 2 26 (wu hK h7)) (ab (cb 0 1 27 (s7 hK h8)) (ab (bQ 0) (ab (bQ 1) bG)))))))))) (aE 1 ?_)
 cases h;exact dS
end
noncomputable section
variable(M:Nat→Prop)(w0:aF)(r:Int×Int)(v1:ai)  
variable{M w0 r v1}{K:Kn}{n:Nat}
theorem aaO(hK:am K)(h:uf K n v1=some r):aO Tryz.prog 32 [.agg (aW v1)] (fun v _=>v=.tup [iI r.1,iI r.2]):=by
 refine bg (cat Tryz.f32 (pn 1)) Tryz.func32 Tryz.ntmps32 fun M w0=>(bc ⟨[(0,.agg (aW v1))],[],[],[]⟩ ?_);unfold uf at h;refine az 6 7 3 (bI [1] [1] [] ?_);obtain⟨v2,h1,h⟩:=bind_some h;obtain⟨v3,h2,h⟩:=bind_some h;refine bF 2 (nu 4 [.agg (aW v1),.agg (ct v2),.tup [iI v3.1,iI v3.2],iI v3.1,iI v3.2]) [] [] [bR Tryz.prog 9 Tryz.f32 (pn 6) 5,bR Tryz.prog 9 Tryz.f32 (pn 6) 6] (av [.v 0 1] (ab (cb 0 1 5 (wK hK h1)) (ab (cb 0 1 6 (Sj hK h2)) (av (vz 2) (ab (bQ 0) (ab (bQ 1) bG)))))) (aE 1 ?_);cases h;exact dS
end
end Go.Proofs.YtnpmlepplfaijaaGreat

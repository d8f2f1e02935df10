/- The runs of the functions that RelayoutFresh reaches do what their plain forms say, part 1. Made by a program. -/
import Derived.Test.YtocgkfoifehcbaaGreatRfGk
import Derived.Test.YtocgkfoifehcbaaGreatRfP0
namespace Go.Proofs.YtocgkfoifehcbaaGreat
open Go.RowKit
set_option maxRecDepth 20000
set_option linter.all false
set_option linter.unusedVariables false
set_option linter.unusedSimpArgs false
noncomputable section
variable[GS](M:Nat→Prop)(w0:aE)(r v1:Int)  
variable{M w0 r v1}{K:Kn}{n:Nat}
theorem Eu(hK:ao K)(h:sg K n v1=some r):aS Tryz.prog 153 [iI v1] (fun v _=>v=iI r):=by
 refine bu (cat Tryz.f153 (pn 1)) Tryz.func153 Tryz.ntmps153 fun M w0=>(bc ⟨[(0,iI v1)],[],[],[]⟩ ?_);unfold sg at h;refine aC 6 7 3 (aj 1 ?_);obtain⟨v2,h1,h⟩:=bind_some h;refine aU (uh hK h1) (aM 3 1 ?_);obtain⟨v3,h2,h⟩:=bind_some h;refine aU (uh hK h2) (ac (aL 1 ?_));cases h;exact bj
end
noncomputable section
variable[GS](M:Nat→Prop)(w0:aE)(r:Int×Int)(v1:aJ)  
variable{M w0 r v1}{K:Kn}{n:Nat}
theorem xM(hK:ao K)(h:kB K n v1=some r):aS Tryz.prog 148 [.agg (aV v1)] (fun v _=>v=.tup [iI r.1,iI r.2]):=by
 refine bu (cat Tryz.f148 (pn 1)) Tryz.func148 Tryz.ntmps148 fun M w0=>(bc ⟨[(0,.agg (aV v1))],[],[],[]⟩ ?_);unfold kB at h;refine aC 14 15 5 (bI [1,4] [1] [] ?_);obtain⟨v2,h1,h⟩:=bind_some h;obtain⟨v3,h2,h⟩:=bind_some h;refine bP 1 (nu 8 [.ptr 1 37,iI v1.FontSize,iI v2,iI (max v1.LineHeight 0),.ptr 1 37,iI v1.FontSize,iI v3,iI (ab ((max v1.LineHeight 0)-v3)),iI ((ab ((max v1.LineHeight 0)-v3)) / 2),iI (ab (v2+((ab ((max v1.LineHeight 0)-v3)) / 2)))]) [] [] [bZ Tryz.prog 22 Tryz.f148 (pn 14) 10] (ay (vz 2) (ag (cD 0 1 10 (EL hK h1)) (ay (vz 3) (ag (cD 0 1 14 (Eu hK h2)) (ay (vz 3) (ag (bX 0) bQ)))))) (aL 3 ?_);cases h;exact gF
end
noncomputable section
variable[GS](M:Nat→Prop)(w0:aE)(r:List Int)(v1:Int)(v2:List Int)(v3 v4:Bool)  
abbrev Ht(n:Nat):aq:=.c (cat Tryz.f194 (pn n))
abbrev UG:Cx:=⟨Tryz.prog,78,M,w0⟩
abbrev QN:=bodyPost Tryz.prog Tryz.f194 (bA M w0 (fun v s=>v=.ref 9∧cn s.o []∧look 9 s.r=some ⟨5,1,lm (ba .u8) r⟩))
abbrev J5(ks:List aq)(s:AS):=VE (UG M w0) (QN M w0 r) ks .normal s
def Mz:AS:=⟨[(0,.ref 9),(1,.int .i32 v1),(50,.bool v4)],[],[(9,⟨5,1,lm (ba .u8) v2⟩)],[9]⟩
def Pf:AS:=⟨[(0,.ref 9),(1,.int .i32 v1),(5,.int .u32 (IntKind.wrap .u32 v1)),(25,.bool v3)],[],[(9,⟨5,1,lm (ba .u8) v2⟩)],[9]⟩
variable{M w0 r v1 v2 v3 v4}{K:Kn}{n:Nat}
theorem JI(hK:ao K)(h:ro K n v1 v2 v4=some r):J5 M w0 r [Ht 479,.b 0] (Mz v1 v2 v4):=by
 unfold ro at h;obtain⟨h8,h⟩|⟨h8,h⟩:=ak h
 ·refine ah 50 h8 (aC 4 5 2 (aj 20 ?_));obtain⟨h9,h⟩:=aF h;refine az (cv 77 9 5 1 (ba .u8) (rfl) ((fun _=>rfl)) h9) (ac (aL 2 ?_));cases h;exact dT
 ·refine ah 50 h8 (aC 6 7 2 (aj 2 ?_));obtain⟨h10,h⟩:=aF h;refine az (cv 10 9 5 1 (ba .u8) (rfl) ((fun _=>rfl)) h10) (ac (aL 2 ?_));cases h;exact dT
theorem Co(hK:ao K)(h:jV K n v1 v2 v3=some r):J5 M w0 r [Ht 119,.b 0] (Pf v1 v2 v3):=by
 unfold jV at h;obtain⟨h5,h⟩|⟨h5,h⟩:=ak h
 ·refine ah 25 h5 (aC 4 5 2 (aj 15 ?_));obtain⟨h6,h⟩:=aF h;refine az (cv 49 9 5 1 (ba .u8) (rfl) ((fun _=>rfl)) h6) (ac (aL 2 ?_));cases h;exact dT
 ·refine ah 25 h5 (aC 6 7 2 (aj 3 ?_));obtain⟨h7,h⟩|⟨h7,h⟩:=ak h
  ·exact aB 53 h7 (ac (ae 0 (JI hK h)))
  ·exact aB 53 h7 (ac (ae 0 (JI hK h)))
theorem UP(hK:ao K)(h:o8 K n v1 v2=some r):gg Tryz.prog 194 [.ref 9,.int .i32 v1] [] 9 ⟨5,1,lm (ba .u8) v2⟩ [9] (fun v s=>v=.ref 9∧cn s.o []∧look 9 s.r=some ⟨5,1,lm (ba .u8) r⟩):=by
 refine jr (c:=cat Tryz.f194 (pn 1)) Tryz.func194 (by kernel_rfl) _ Tryz.ntmps194 (of_decide_eq_true (by kernel_rfl)) fun M w0=>(bc ⟨[(0,.ref 9),(1,.int .i32 v1)],[],[(9,⟨5,1,lm (ba .u8) v2⟩)],[9]⟩ ?_);unfold o8 at h;refine il 29 0 7 ?_;obtain⟨h1,h⟩|⟨h1,h⟩:=ak h
 ·refine ah 11 h1 (aC 4 5 2 (aj 10 ?_));obtain⟨h2,h⟩:=aF h;refine az (cv 24 9 5 1 (ba .u8) (rfl) ((fun _=>rfl)) h2) (ac (aL 2 ?_));cases h;exact dT
 ·refine ah 11 h1 (aC 13 7 4 ?_);obtain⟨h3,h⟩|⟨h3,h⟩:=ak h
  ·exact ah 25 h3 (ae 2 (Co hK h))
  ·refine ah 25 h3 (bh 3 1 (aj 3 ?_));obtain⟨h4,h⟩|⟨h4,h⟩:=ak h
   ·exact aB 30 h4 (ac (ae 0 (Co hK h)))
   ·exact aB 30 h4 (ac (ae 0 (Co hK h)))
end
noncomputable section
variable[GS](M:Nat→Prop)(w0:aE)(r:List Int)(v1:Int)(v2:List Int)  
variable{M w0 r v1 v2}{K:Kn}{n:Nat}
theorem F1(hK:ao K)(h:oE K n v1 v2=some r):gg Tryz.prog 187 [.ref 9,.int .i32 v1] [] 9 ⟨5,1,lm (ba .u8) v2⟩ [9] (fun v s=>v=.ref 9∧cn s.o []∧look 9 s.r=some ⟨5,1,lm (ba .u8) r⟩):=by
 refine jr (c:=cat Tryz.f187 (pn 1)) Tryz.func187 (by kernel_rfl) _ Tryz.ntmps187 (of_decide_eq_true (by kernel_rfl)) fun M w0=>(bc ⟨[(0,.ref 9),(1,.int .i32 v1)],[],[(9,⟨5,1,lm (ba .u8) v2⟩)],[9]⟩ ?_);unfold oE at h;refine aC 13 7 5 ?_;obtain⟨h1,h⟩|⟨h1,h⟩:=ak h
 ·refine ah 7 h1 (aC 4 5 2 (aj 4 ?_));obtain⟨h2,h⟩:=aF h;refine az (cv 12 9 5 1 (ba .u8) (rfl) ((fun _=>rfl)) h2) (ac (aL 2 ?_));cases h;exact dT
 ·refine ah 7 h1 (fb 2 3 3 (aj 2 ?_));obtain⟨v3,h3,h⟩:=bind_some h;refine gu 9 9 [] (UP hK h3) (ac (aL 1 ?_));cases h;exact dT
end
noncomputable section
variable[GS](M:Nat→Prop)(w0:aE)(r:Int×Unit×(List Int))(v1:Int)(v2:Bool)(v3:List Int)  
variable{M w0 r v1 v2 v3}{K:Kn}{n:Nat}
theorem Gx(hK:ao K)(h:mz K n v1 v2 v3=some r):gg Tryz.prog 179 [.ptr 450119 0,.int .i32 v1] [(450119,[(s9 v2 450119),.ref 9])] 9 ⟨5,1,lm (ba .u8) v3⟩ [9,450119,1450119] (fun v s=>v=.tup [iI r.1,.vv .nilIface]∧cn s.o [(450119,[.ptr 450119 0,.ref 9])]∧look 9 s.r=some ⟨5,1,lm (ba .u8) r.2.2⟩):=by
 refine jr (c:=cat Tryz.f179 (pn 1)) Tryz.func179 (by kernel_rfl) _ Tryz.ntmps179 (of_decide_eq_true (by kernel_rfl)) fun M w0=>(bc ⟨[(0,.ptr 450119 0),(1,.int .i32 v1)],[(450119,[(s9 v2 450119),.ref 9])],[(9,⟨5,1,lm (ba .u8) v3⟩)],[9,450119,1450119]⟩ ?_);unfold mz at h;refine aC 6 7 3 (aj 1 ?_);rcases ak h with⟨h1,gh1⟩|⟨h1,gh1⟩
 ·subst h1;have h:=gh1;refine GV 450119 (b:=true) (c1:=.ref 9) (ac (aC 2 3 1 (aj 4 (az (bv (ba .u8) v3) (ac (aC 2 3 1 (aj 6 ?_)))))));obtain⟨v4,h2,h⟩:=bind_some h;refine gu 9 9 [] (F1 hK h2) (ac (aC 2 3 1 (aj 4 (az (bv (ba .u8) v4) (ac (aL 1 ?_))))));cases h;exact mG
 ·subst h1;have h:=gh1;refine GV 450119 (b:=false) (c1:=.ref 9) (ac (aC 2 3 1 (aj 4 (az (bv (ba .u8) v3) (ac (aC 2 3 1 (aj 6 ?_)))))));obtain⟨v5,h3,h⟩:=bind_some h;refine gu 9 9 [] (F1 hK h3) (ac (aC 2 3 1 (aj 4 (az (bv (ba .u8) v5) (ac (aL 1 ?_))))));cases h;exact mG
end
noncomputable section
variable[GS](M:Nat→Prop)(w0:aE)(r:Int)(v1 v2:Int)  
variable{M w0 r v1 v2}{K:Kn}{n:Nat}
theorem Bm(hK:ao K)(h:kW K n v1 v2=some r):aS Tryz.prog 180 [.int .i32 v1,iI v2] (fun v _=>v=iI r):=by
 refine bu (cat Tryz.f180 (pn 1)) Tryz.func180 Tryz.ntmps180 fun M w0=>(bc ⟨[(0,.int .i32 v1),(1,iI v2)],[],[],[]⟩ ?_);unfold kW at h;refine aC 6 7 3 (aj 1 ?_);obtain⟨v3,h1,h⟩:=bind_some h;refine aU (Fh hK h1) (aM 3 1 ?_);obtain⟨v4,h2,h⟩:=bind_some h;refine aU (uh hK h2) (ac (aL 1 ?_));cases h;exact bj
end
noncomputable section
variable[GS](M:Nat→Prop)(w0:aE)(r:Int)(v1:ByteArray)(v2:Int)(v3:Nat)(v5:Int)(v6 m1:Nat)(L1:Int→Nat→Option Int)
abbrev yw:Cx:=⟨Tryz.prog,19,M,w0⟩
abbrev Bj:=bodyPost Tryz.prog Tryz.f181 (bA M w0 (fun v _=>v=iI r))
abbrev U5(ks:List aq)(s:AS):=VE (yw M w0) (Bj M w0 r) ks .normal s
abbrev JC(n:Nat):aq:=.c (cat Tryz.f181 (pn n))
abbrev zS:List aq:=[.b 0,JC 15]
abbrev TL:List aq:=kl (yw M w0) (Bj M w0 r) zS (cat Tryz.f181 (pn 116)) m1::zS
def I8:AS:=⟨[(1,iI v2),(5,iI v5),(9,.sit 320009 v3 v1 v6)],[],[],[320009]⟩
abbrev IK:Prop:=∀{v5:Int} {v6:Nat},L1 v5 v6=some r→LP (yw M w0) (Bj M w0 r) zS (cat Tryz.f181 (pn 116)) m1 (I8 v1 v2 v3 v5 v6)
variable{M w0 r v1 v2 v3 v5 v6 m1 L1}{K:Kn}{n:Nat}
theorem R3(hK:ao K)(hv3:w0.w.heap.size≤v3)(hL1:IK M w0 r v1 v2 v3 m1 L1)(h:nB K n v1 v2 L1 v5 v6=some r):U5 M w0 r (JC 116::TL M w0 r m1) (I8 v1 v2 v3 v5 v6):=by
 unfold nB at h;refine aC 2 3 1 (aj 0 ?_);obtain⟨h3,h⟩|⟨h3,h⟩:=ak h
 ·refine y6 9 (id:=320009) (g:=v3) h3 hv3 (ac (il 13 1 6 (aj 3 ?_)));obtain⟨v7,h4,h⟩:=bind_some h;exact aU (Bm hK h4) (ac (ae 1 (bw (hL1 h))))
 ·refine BT 9 (id:=320009) (g:=v3) h3 (ac (aL 9 ?_));cases h;exact bj
theorem Nj(hK:ao K)(hv3:w0.w.heap.size≤v3)(m:Nat):IK M w0 r v1 v2 v3 m (nR K n v1 v2 m):=by
 induction m with
 | zero=>intro v5 v6 h;cases h
 | succ m ih=>intro v5 v6 h;have h:nB K n v1 v2 (nR K n v1 v2 m) v5 v6=some r:=h;exact bB (R3 hK hv3 ih h)
theorem CH(hK:ao K)(h:lS K n v1 v2=some r):aS Tryz.prog 181 [.str v1,iI v2] (fun v _=>v=iI r):=by
 refine bu (cat Tryz.f181 (pn 1)) Tryz.func181 Tryz.ntmps181 fun M w0=>(bc ⟨[(0,.str v1),(1,iI v2)],[],[],[]⟩ ?_);unfold lS at h;exact bO 28 29 15 6 (aj 1 (Bt 320009 (b:=v1) fun v3 hv3=>(ac (ae 1 (ci (p:=pn 58) n (Nj hK (v3:=v3) hv3 n h))))))
end
noncomputable section
variable[GS](M:Nat→Prop)(w0:aE)(r:au)(v1:List aD)(v4:Int)(v5:Bool)(v6:List Int)(v9:Bool)(v10:aJ)(v14:ByteArray)(v15:Int)(v18:aJ)(v22:ByteArray)(v23:Int)(m1:Nat)(L1:Int→Bool→(List Int)→Option au)
abbrev zk:Cx:=⟨Tryz.prog,59,M,w0⟩
abbrev yN:=bodyPost Tryz.prog Tryz.f156 (bA M w0 (fun v _=>v=.agg (aI r)))
abbrev ur(ks:List aq)(s:AS):=VE (zk M w0) (yN M w0 r) ks .normal s
abbrev eR(n:Nat):aq:=.c (cat Tryz.f156 (pn n))
abbrev zD:List aq:=[.b 0,eR 15]
abbrev LM:List aq:=kl (zk M w0) (yN M w0 r) zD (cat Tryz.f156 (pn 116)) m1::zD
def Rp:AS:=⟨[(2,.ptr 2 0),(6,.ptr 6 0),(7,.ptr 7 0),(8,.str v14)],[(2,List.set (aI cy) 61 (.nils)),(6,aV v10),(7,List.set (aI ({ cy with Text:=(bytesOf v6),Space:=v15 }:au)) 61 (.nils))],[],[2,6,7]⟩
def VF:AS:=⟨[(2,.ptr 2 0),(6,.ptr 6 0),(7,.ptr 7 0),(8,.str v22)],[(2,List.set (aI cy) 61 (.nils)),(6,aV v18),(7,List.set (aI ({ cy with Text:=(bytesOf v6),Space:=v23 }:au)) 61 (.nils))],[],[2,6,7]⟩
def Ku:AS:=⟨[(0,.sl (lm am v1)),(2,.ptr 2 0),(3,.ptr 451119 0)],[(2,List.set (aI cy) 61 (.nils)),(451119,[(s9 v9 451119),.ref 401119])],[(401119,⟨5,1,lm (ba .u8) v6⟩)],[2,451119,401119]⟩
def Js:AS:=⟨[(0,.sl (lm am v1)),(2,.ptr 2 0),(3,.ptr 451119 0),(9,.sl (lm am v1)),(10,iI (v1.length:Int)),(11,iI v4)],[(2,List.set (aI cy) 61 (.nils)),(451119,[(s9 v5 451119),.ref 401119])],[(401119,⟨5,1,lm (ba .u8) v6⟩)],[2,451119,401119]⟩
abbrev GC:Prop:=∀{v4:Int} {v5:Bool} {v6:(List Int)},L1 v4 v5 v6=some r→LP (zk M w0) (yN M w0 r) zD (cat Tryz.f156 (pn 116)) m1 (Js v1 v4 v5 v6)
variable{M w0 r v1 v4 v5 v6 v9 v10 v14 v15 v18 v22 v23 m1 L1}{K:Kn}{n:Nat}
theorem ID(hK:ao K)(h:rN K n v6 v10 v14 v15=some r):ur M w0 r [eR 255] (Rp v6 v10 v14 v15):=by
 unfold rN at h;refine aC 2 3 1 (aj 3 ?_);obtain⟨v16,h24,h⟩:=bind_some h;refine aU (CH hK h24) (ac (aC 2 3 1 (aj 1 ?_)));obtain⟨v17,h25,h⟩:=bind_some h;refine aU (xM hK h25) (ac (aL 3 (jc 2 ?_)));cases h;exact bj
theorem Hx(hK:ao K)(h:s5 K n v6 v18 v22 v23=some r):ur M w0 r [eR 255] (VF v6 v18 v22 v23):=by
 unfold s5 at h;refine aC 2 3 1 (aj 3 ?_);obtain⟨v24,h35,h⟩:=bind_some h;refine aU (CH hK h35) (ac (aC 2 3 1 (aj 1 ?_)));obtain⟨v25,h36,h⟩:=bind_some h;refine aU (xM hK h36) (ac (aL 3 (jc 2 ?_)));cases h;exact bj
theorem D4(hK:ao K)(h:pq K n v1 v6 v9=some r):ur M w0 r [eR 15] (Ku v1 v6 v9):=by
 unfold pq at h;rcases ak h with⟨h14,gh14⟩|⟨h14,gh14⟩
 ·subst h14;have h:=gh14;refine aC 2 3 1 (aj 1 ?_);obtain⟨h15,h⟩:=aF h;refine az (bi am am h15 (co) ((fun _=>rfl))) (ac ?_);obtain⟨v10,h16,h⟩:=cg h;refine bR (ks':=[eR 62,eR 63]) 1 ⟨[(0,.sl (lm am v1)),(2,.ptr 2 0),(3,.ptr 451119 0),(6,.ptr 6 0)],[(2,List.set (aI cy) 61 (.nils)),(6,aV v10),(451119,[.ptr 451119 0,.ref 401119])],[(401119,⟨5,1,lm (ba .u8) v6⟩)],[2,6,451119,401119]⟩ ?_ (by subst h16;kernel_rfl);refine aj 0 ?_;obtain⟨h17,h⟩:=aF h;refine Ff 451119 401119 (L:=v6) h17 (ac (bO 12 13 7 4 (aj 2 (az (bv am v1) (aM 4 1 ?_)))));obtain⟨h18,h⟩:=aF h;refine az (bi am am h18 (co) ((fun _=>rfl))) (ac ?_);obtain⟨v11,h19,h⟩:=cg h;refine bR (ks':=[eR 509,eR 255]) 0 ⟨[(2,.ptr 2 0),(6,.ptr 6 0),(7,.ptr 7 0),(8,.str (bytesOf v6)),(36,.bool v11)],[(2,List.set (aI cy) 61 (.nils)),(6,aV v10),(7,List.set (aI ({ cy with Text:=(bytesOf v6) }:au)) 61 (.nils))],[],[2,6,7]⟩ ?_ (by subst h19;kernel_rfl)
  obtain⟨h20,h⟩|⟨h20,h⟩:=ak h
  ·refine ah 36 h20 (aC 4 5 2 (aj 4 ?_));obtain⟨h21,h⟩:=aF h;refine az (xg h21) (ac ?_);obtain⟨v12,h22,h⟩:=cg h;refine bR (ks':=[eR 2037,eR 255]) 0 ⟨[(2,.ptr 2 0),(6,.ptr 6 0),(7,.ptr 7 0),(8,.str v12)],[(2,List.set (aI cy) 61 (.nils)),(6,aV v10),(7,List.set (aI ({ cy with Text:=(bytesOf v6) }:au)) 61 (.nils))],[],[2,6,7]⟩ ?_ (by subst h22;kernel_rfl);refine aj 2 ?_;obtain⟨v13,h23,h⟩:=bind_some h;exact aU (Bm hK h23) (ac (ae 0 (ID hK h)))
  ·exact ah 36 h20 (ae 2 (ID hK h))
 ·subst h14;have h:=gh14;refine aC 2 3 1 (aj 1 ?_);obtain⟨h26,h⟩:=aF h;refine az (bi am am h26 (co) ((fun _=>rfl))) (ac ?_);obtain⟨v18,h27,h⟩:=cg h;refine bR (ks':=[eR 62,eR 63]) 1 ⟨[(0,.sl (lm am v1)),(2,.ptr 2 0),(3,.ptr 451119 0),(6,.ptr 6 0)],[(2,List.set (aI cy) 61 (.nils)),(6,aV v18),(451119,[.nilp,.ref 401119])],[(401119,⟨5,1,lm (ba .u8) v6⟩)],[2,6,451119,401119]⟩ ?_ (by subst h27;kernel_rfl);refine aj 0 ?_;obtain⟨h28,h⟩:=aF h;refine Ff 451119 401119 (L:=v6) h28 (ac (bO 12 13 7 4 (aj 2 (az (bv am v1) (aM 4 1 ?_)))));obtain⟨h29,h⟩:=aF h;refine az (bi am am h29 (co) ((fun _=>rfl))) (ac ?_);obtain⟨v19,h30,h⟩:=cg h;refine bR (ks':=[eR 509,eR 255]) 0 ⟨[(2,.ptr 2 0),(6,.ptr 6 0),(7,.ptr 7 0),(8,.str (bytesOf v6)),(36,.bool v19)],[(2,List.set (aI cy) 61 (.nils)),(6,aV v18),(7,List.set (aI ({ cy with Text:=(bytesOf v6) }:au)) 61 (.nils))],[],[2,6,7]⟩ ?_ (by subst h30;kernel_rfl);obtain⟨h31,h⟩|⟨h31,h⟩:=ak h
  ·refine ah 36 h31 (aC 4 5 2 (aj 4 ?_));obtain⟨h32,h⟩:=aF h;refine az (xg h32) (ac ?_);obtain⟨v20,h33,h⟩:=cg h;refine bR (ks':=[eR 2037,eR 255]) 0 ⟨[(2,.ptr 2 0),(6,.ptr 6 0),(7,.ptr 7 0),(8,.str v20)],[(2,List.set (aI cy) 61 (.nils)),(6,aV v18),(7,List.set (aI ({ cy with Text:=(bytesOf v6) }:au)) 61 (.nils))],[],[2,6,7]⟩ ?_ (by subst h33;kernel_rfl);refine aj 2 ?_;obtain⟨v21,h34,h⟩:=bind_some h;exact aU (Bm hK h34) (ac (ae 0 (Hx hK h)))
  ·exact ah 36 h31 (ae 2 (Hx hK h))
theorem QE(hK:ao K)(hL1:GC M w0 r v1 m1 L1)(h:nV K n v1 L1 v4 v5 v6=some r):ur M w0 r (eR 116::LM M w0 r m1) (Js v1 v4 v5 v6):=by
 unfold nV at h;rcases ak h with⟨h7,gh7⟩|⟨h7,gh7⟩
 ·subst h7;have h:=gh7;refine aC 6 7 3 ?_;obtain⟨h8,h⟩|⟨h8,h⟩:=ak h
  ·refine ah 12 h8 (c8 8 9 1 3 5 (aj 0 ?_));obtain⟨h9,h⟩:=aF h;refine az (bi am am h9 (co) ((fun _=>rfl))) (ac (aj 2 ?_));obtain⟨v7,h10,h⟩:=bind_some h;exact gu 401119 9 [(451119,450119)] (Gx hK h10) (ac (ae 2 (bw (hL1 h))))
  ·exact ah 12 h8 (ae 5 (D4 hK h))
 ·subst h7;have h:=gh7;refine aC 6 7 3 ?_;obtain⟨h11,h⟩|⟨h11,h⟩:=ak h
  ·refine ah 12 h11 (c8 8 9 1 3 5 (aj 0 ?_));obtain⟨h12,h⟩:=aF h;refine az (bi am am h12 (co) ((fun _=>rfl))) (ac (aj 2 ?_));obtain⟨v8,h13,h⟩:=bind_some h;exact gu 401119 9 [(451119,450119)] (Gx hK h13) (ac (ae 2 (bw (hL1 h))))
  ·exact ah 12 h11 (ae 5 (D4 hK h))
theorem Vm(hK:ao K)(m:Nat):GC M w0 r v1 m (mE K n v1 m):=by
 induction m with
 | zero=>intro v4 v5 v6 h;cases h
 | succ m ih=>intro v4 v5 v6 h;have h:nV K n v1 (mE K n v1 m) v4 v5 v6=some r:=h;exact bB (QE hK ih h)
theorem Aj(hK:ao K)(h:lR K n v1=some r):aS Tryz.prog 156 [.sl (lm am v1)] (fun v _=>v=.agg (aI r)):=by
 refine bu (cat Tryz.f156 (pn 1)) Tryz.func156 Tryz.ntmps156 fun M w0=>(bc ⟨[(0,.sl (lm am v1))],[],[],[]⟩ ?_);unfold lR at h;exact aC 6 7 3 (aj 0 (NM 451119 (T:=119) (d:=3) (cs:=[.nilp,.nils]) (ac (bO 4 5 3 2 (aj 1 (az (bv am v1) (ac (il 2 0 1 (bI [0,2,3,9,10,11] [2,451119] [] (uw 401119 451119 1 5 1 (ae 0 (ci (p:=pn 58) n (Vm hK n h)))))))))))))
end
noncomputable section
variable[GS](M:Nat→Prop)(w0:aE)(r:List au)(v1:List aa)(v2:Fv)(v3:List aD)(v30:Int)(v31:List au)(v33:Bool)(v39:Int)(v41:Bool)(v43:Int)(v44:au)(m1 m2:Nat)(L1:Int→(List au)→Option (List au))(L2:Int→Option (List au))
abbrev rM:Cx:=⟨Tryz.prog,120,M,w0⟩
abbrev rQ:=bodyPost Tryz.prog Tryz.f112 (bA M w0 (fun v s=>v=.ref 117∧look 117 s.r=some ⟨165,62,lm aI r⟩))
abbrev pV(ks:List aq)(s:AS):=VE (rM M w0) (rQ M w0 r) ks .normal s
abbrev dU(n:Nat):aq:=.c (cat Tryz.f112 (pn n))
abbrev yO:List aq:=[.b 0,dU 31]
abbrev ic:List aq:=kl (rM M w0) (rQ M w0 r) yO (cat Tryz.f112 (pn 244)) m1::yO
abbrev zr:List aq:=.b 3::dU 4009823 :: .b 2::dU 31327 :: .b 1::ic M w0 r m1
abbrev HJ:List aq:=kl (rM M w0) (rQ M w0 r) (zr M w0 r m1) (cat Tryz.f112 (pn 16039288)) m2::(zr M w0 r m1)
def VH:AS:=⟨[(1,.fn v2.id v2.aP),(5,.sl (lm am v3)),(6,.ref 117),(8,.ptr 8 0),(9,.bool v33),(10,.ptr 10 0),(11,iI v43)],[(8,am (gD v3 v30)),(10,aI v44)],[(117,⟨165,62,lm aI v31⟩)],[8,10,117]⟩
def Sc:AS:=⟨[(1,.fn v2.id v2.aP),(5,.sl (lm am v3)),(6,.ref 117),(7,iI v30),(8,.ptr 8 0),(9,.bool v33),(10,.ptr 10 0),(11,iI v39),(81,.bool v41)],[(8,am (gD v3 v30)),(10,List.set (aI cy) 61 (.nils))],[(117,⟨165,62,lm aI v31⟩)],[8,10,117]⟩
def ER:AS:=⟨[(1,.fn v2.id v2.aP),(5,.sl (lm am v3)),(6,.ref 117),(7,iI v30),(8,.ptr 8 0),(9,.bool v33),(10,.ptr 10 0),(11,iI v39)],[(8,am (gD v3 v30)),(10,List.set (aI cy) 61 (.nils))],[(117,⟨165,62,lm aI v31⟩)],[8,10,117]⟩
def O8:AS:=⟨[(1,.fn v2.id v2.aP),(5,.sl (lm am v3)),(6,.ref 117),(7,iI v30),(8,.ptr 8 0),(9,.bool v33)],[(8,am (gD v3 v30))],[(117,⟨165,62,lm aI v31⟩)],[8,117]⟩
def CS:AS:=⟨[(1,.fn v2.id v2.aP),(5,.sl (lm am v3)),(6,.ref 117),(7,iI v30)],[],[(117,⟨165,62,lm aI v31⟩)],[117]⟩
abbrev mK:Prop:=∀{v30:Int} {v31:(List au)},L1 v30 v31=some r→LP (rM M w0) (rQ M w0 r) yO (cat Tryz.f112 (pn 244)) m1 (CS v2 v3 v30 v31)
abbrev z0:Prop:=∀{v39:Int},L2 v39=some r→LP (rM M w0) (rQ M w0 r) (zr M w0 r m1) (cat Tryz.f112 (pn 16039288)) m2 (ER v2 v3 v30 v31 v33 v39)
variable{M w0 r v1 v2 v3 v30 v31 v33 v39 v41 v43 v44 m1 m2 L1 L2}{K:Kn}{n:Nat}
theorem Cf(hK:ao K)(hL1:mK M w0 r v2 v3 m1 L1)(h:iv K n v2 v3 v30 v31 v33 L1 v43 v44=some r):pV M w0 r (.b 2::dU 31327 :: .b 1::ic M w0 r m1) (VH v2 v3 v30 v31 v33 v43 v44):=by
 unfold iv at h;refine fb 2 3 2 (bI [1,5,6,8,9,10,11] [8,10] [117] (bP 3 (nu 100 [.ptr 8 4,.cptr (aw ((gD v3 v30).Box)),.cptr (aw ((gD v3 v30).Box)),.cptr (List.drop 1 (aw ((gD v3 v30).Box))),iI (((gD v3 v30).Box).Node),.ptr 8 4,.cptr (aw ((gD v3 v30).Box)),.cptr (aw ((gD v3 v30).Box)),.cptr (List.drop 2 (aw ((gD v3 v30).Box))),.agg (aV (((gD v3 v30).Box).Style)),.bool v33,.ptr 10 0,.ptr 10 2,.ptr 10 59]) [] [] [bZ Tryz.prog 120 Tryz.f112 (pn 62654) 12,bZ Tryz.prog 120 Tryz.f112 (pn 62654) 14,bZ Tryz.prog 120 Tryz.f112 (pn 62654) 16] (ay [.v 0 1,.v 0 1,.v 0 1,.v 0 1,.v 0 1,.v 0 2,.v 0 2,.v 0 2,.v 0 2,.v 0 2,.v 0 3,.v 0 1] (ag (bX 0) (ay [.v 1 1] (ag (bX 1) (ay [.v 2 1] (ag (bX 2) bQ)))))) ?_));obtain⟨v45,h94,h⟩:=cg h;obtain⟨v46,h95,h⟩:=cg h;refine bR (ks':=dU 125310::dU 125311 :: .b 1::ic M w0 r m1) 1 ⟨[(1,.fn v2.id v2.aP),(5,.sl (lm am v3)),(6,.ref 117),(10,.ptr 10 0),(11,iI v43)],[(10,aI ({ v44 with Node:=v45,Style:=v46,Glued:=v33 }:au))],[(117,⟨165,62,lm aI v31⟩)],[10,117]⟩ ?_ (by subst h95;subst h94;kernel_rfl)
 refine aj 3 ?_;obtain⟨h96,h⟩:=aF h;exact az (cv 117 117 165 62 aI (rfl) (fk) h96) (ac (ae 2 (bw (hL1 h))))
theorem ug(hK:ao K)(hL1:mK M w0 r v2 v3 m1 L1)(hL2:z0 M w0 r v2 v3 v30 v31 v33 m1 m2 L2)(h:ix K n v2 v3 v30 v31 v33 v39 L1 L2 v41=some r):pV M w0 r (dU 64157153::dU 32078577::HJ M w0 r m1 m2) (Sc v2 v3 v30 v31 v33 v39 v41):=by
 unfold ix at h;obtain⟨h91,h⟩|⟨h91,h⟩:=ak h
 ·exact ah 81 h91 (ae 5 (bw (hL2 h)))
 ·refine ah 81 h91 (bK (ks':=dU 4009823 :: .b 2::dU 31327 :: .b 1::ic M w0 r m1) 5 (aj 3 ?_));obtain⟨h92,h⟩:=aF h;refine az (gU am v3 v30 v39 206 (.tmp 84) (some (.tmp 85)) (some (.tmp 86)) 87 (e:=210) (sz:=5) (by kernel_rfl) (by kernel_rfl) (by kernel_rfl) (by kernel_rfl) (by kernel_rfl) (by kernel_rfl) (co) (fun k hk=>by subst hk;kernel_rfl) h92) ?_;obtain⟨v42,h93,h⟩:=bind_some h;exact aU (Aj hK h93) (ac (ae 0 (Cf hK hL1 h)))
theorem Td(hK:ao K)(hL1:mK M w0 r v2 v3 m1 L1)(hL2:z0 M w0 r v2 v3 v30 v31 v33 m1 m2 L2)(h:nI K n v2 v3 v30 v31 v33 L1 L2 v39=some r):pV M w0 r (dU 16039288::HJ M w0 r m1 m2) (ER v2 v3 v30 v31 v33 v39):=by
 unfold nI at h;refine bO 4 5 3 2 (bI [1,5,6,7,8,9,10,11] [8,10] [117] ?_);obtain⟨h83,h⟩|⟨h83,h⟩:=ak h
 ·obtain⟨h84,h⟩:=aF h;obtain⟨h85,h⟩|⟨h85,h⟩:=ak h
  ·obtain⟨h86,h⟩:=aF h;obtain⟨h87,h⟩|⟨h87,h⟩:=ak h
   ·obtain⟨h88,h⟩:=aF h;obtain⟨h89,h⟩:=aF h;obtain⟨v40,h90,h⟩:=bind_some h;exact bP 0 (nu 47 [iI v39,.sl (lm am v3),iI (v3.length:Int),.bool (decide (v39<(v3.length:Int))),.bool true,.sl (lm am v3),iI v39,.cptr (am (gD v3 v39)),.cptr (List.drop 0 (am (gD v3 v39))),iI ((gD v3 v39).Kind),.bool (((gD v3 v39).Kind) == 1),.bool (((gD v3 v39).Kind) == 1),.bool true,.sl (lm am v3),iI v39,.cptr (am (gD v3 v39)),.cptr (List.drop 1 (am (gD v3 v39))),iI ((gD v3 v39).Of),.ptr 8 1,iI ((gD v3 v30).Of),.bool (((gD v3 v39).Of) == ((gD v3 v30).Of)),.bool (((gD v3 v39).Of) == ((gD v3 v30).Of)),.bool true,.sl (lm am v3),iI v39,iI (ab (v39-1)),.cptr (am (gD v3 ((ab (v39-1))))),.agg (am (gD v3 ((ab (v39-1))))),.sl (lm am v3),iI v39,.cptr (am (gD v3 v39)),.agg (am (gD v3 v39)),.bool v40,.bool (!v40),.bool (!v40)]) [] [] [] (ay (vz 2) (bC (bv am v3) (ay [.v 0 1] (ag (ct 0 51 (e:=(decide (v39<(v3.length:Int)))) (b:=true) h83) (ay (vz 2) (bC (bi am am h84 (co) ((fun _=>rfl))) (ay (vz 4) (ag (ct 0 59 (e:=(((gD v3 v39).Kind) == 1)) (b:=true) h85) (ay (vz 2) (bC (bi am am h86 (co) ((fun _=>rfl))) (ay (vz 6) (ag (ct 0 69 (e:=(((gD v3 v39).Of) == ((gD v3 v30).Of))) (b:=true) h87) (ay (vz 3) (bC (bi am am h88 (co) ((fun _=>rfl))) (ay (vz 3) (bC (bi am am h89 (co) ((fun _=>rfl))) (ay [.v 0 1] (ag (cD 0 1 79 (po hK h90)) (ay (vz 2) bQ))))))))))))))))))) (ae 0 (ug hK hL1 hL2 h))
   ·exact bP 0 (nu 47 [iI v39,.sl (lm am v3),iI (v3.length:Int),.bool (decide (v39<(v3.length:Int))),.bool true,.sl (lm am v3),iI v39,.cptr (am (gD v3 v39)),.cptr (List.drop 0 (am (gD v3 v39))),iI ((gD v3 v39).Kind),.bool (((gD v3 v39).Kind) == 1),.bool (((gD v3 v39).Kind) == 1),.bool true,.sl (lm am v3),iI v39,.cptr (am (gD v3 v39)),.cptr (List.drop 1 (am (gD v3 v39))),iI ((gD v3 v39).Of),.ptr 8 1,iI ((gD v3 v30).Of),.bool (((gD v3 v39).Of) == ((gD v3 v30).Of)),.bool (((gD v3 v39).Of) == ((gD v3 v30).Of)),.bool false,.tup [],.tup [],.tup [],.tup [],.tup [],.tup [],.tup [],.tup [],.tup [],.tup [],.tup [],.bool false]) [] [] [] (ay (vz 2) (bC (bv am v3) (ay [.v 0 1] (ag (ct 0 51 (e:=(decide (v39<(v3.length:Int)))) (b:=true) h83) (ay (vz 2) (bC (bi am am h84 (co) ((fun _=>rfl))) (ay (vz 4) (ag (ct 0 59 (e:=(((gD v3 v39).Kind) == 1)) (b:=true) h85) (ay (vz 2) (bC (bi am am h86 (co) ((fun _=>rfl))) (ay (vz 6) (ag (ct 0 69 (e:=(((gD v3 v39).Of) == ((gD v3 v30).Of))) (b:=false) h87) (ag (ax 0 1) (ag (ax 0 1) (ag (ax 0 1) (ag (ax 0 1) (ag (ax 0 1) (ag (ax 0 1) (ag (ax 0 1) (ag (ax 0 1) (ag (ax 0 1) (ag (ax 0 1) (ag (ax 0 1) (ay [.v 0 1] bQ)))))))))))))))))))))))) (ae 0 (ug hK hL1 hL2 h))
  ·exact bP 0 (nu 47 [iI v39,.sl (lm am v3),iI (v3.length:Int),.bool (decide (v39<(v3.length:Int))),.bool true,.sl (lm am v3),iI v39,.cptr (am (gD v3 v39)),.cptr (List.drop 0 (am (gD v3 v39))),iI ((gD v3 v39).Kind),.bool (((gD v3 v39).Kind) == 1),.bool (((gD v3 v39).Kind) == 1),.bool false,.tup [],.tup [],.tup [],.tup [],.tup [],.tup [],.tup [],.tup [],.bool false,.bool false,.tup [],.tup [],.tup [],.tup [],.tup [],.tup [],.tup [],.tup [],.tup [],.tup [],.tup [],.bool false]) [] [] [] (ay (vz 2) (bC (bv am v3) (ay [.v 0 1] (ag (ct 0 51 (e:=(decide (v39<(v3.length:Int)))) (b:=true) h83) (ay (vz 2) (bC (bi am am h84 (co) ((fun _=>rfl))) (ay (vz 4) (ag (ct 0 59 (e:=(((gD v3 v39).Kind) == 1)) (b:=false) h85) (ag (ax 0 1) (ag (ax 0 1) (ag (ax 0 1) (ag (ax 0 1) (ag (ax 0 1) (ag (ax 0 1) (ag (ax 0 1) (ag (ax 0 1) (ay (vz 2) (ag (ax 0 1) (ag (ax 0 1) (ag (ax 0 1) (ag (ax 0 1) (ag (ax 0 1) (ag (ax 0 1) (ag (ax 0 1) (ag (ax 0 1) (ag (ax 0 1) (ag (ax 0 1) (ag (ax 0 1) (ay [.v 0 1] bQ))))))))))))))))))))))))))))) (ae 0 (ug hK hL1 hL2 h))
 ·exact bP 0 (nu 47 [iI v39,.sl (lm am v3),iI (v3.length:Int),.bool (decide (v39<(v3.length:Int))),.bool false,.tup [],.tup [],.tup [],.tup [],.tup [],.tup [],.bool false,.bool false,.tup [],.tup [],.tup [],.tup [],.tup [],.tup [],.tup [],.tup [],.bool false,.bool false,.tup [],.tup [],.tup [],.tup [],.tup [],.tup [],.tup [],.tup [],.tup [],.tup [],.tup [],.bool false]) [] [] [] (ay (vz 2) (bC (bv am v3) (ay [.v 0 1] (ag (ct 0 51 (e:=(decide (v39<(v3.length:Int)))) (b:=false) h83) (ag (ax 0 1) (ag (ax 0 1) (ag (ax 0 1) (ag (ax 0 1) (ag (ax 0 1) (ag (ax 0 1) (ay (vz 2) (ag (ax 0 1) (ag (ax 0 1) (ag (ax 0 1) (ag (ax 0 1) (ag (ax 0 1) (ag (ax 0 1) (ag (ax 0 1) (ag (ax 0 1) (ay (vz 2) (ag (ax 0 1) (ag (ax 0 1) (ag (ax 0 1) (ag (ax 0 1) (ag (ax 0 1) (ag (ax 0 1) (ag (ax 0 1) (ag (ax 0 1) (ag (ax 0 1) (ag (ax 0 1) (ag (ax 0 1) (ay [.v 0 1] bQ)))))))))))))))))))))))))))))))) (ae 0 (ug hK hL1 hL2 h))
theorem S1(hK:ao K)(hL1:mK M w0 r v2 v3 m1 L1)(m:Nat):z0 M w0 r v2 v3 v30 v31 v33 m1 m (mD K n v2 v3 v30 v31 v33 L1 m):=by
 induction m with
 | zero=>intro v39 h;cases h
 | succ m ih=>intro v39 h;have h:nI K n v2 v3 v30 v31 v33 L1 (mD K n v2 v3 v30 v31 v33 L1 m) v39=some r:=h;exact bB (Td hK hL1 ih h)
theorem AF(hK:ao K)(hL1:mK M w0 r v2 v3 m1 L1)(h:lU K n v2 v3 v30 v31 L1 v33=some r):pV M w0 r (dU 3915 :: .b 1::ic M w0 r m1) (O8 v2 v3 v30 v31 v33):=by
 unfold lU at h;obtain⟨v34,h69,h⟩:=cg h;refine bR (ks':=dU 250613 :: .b 2::dU 31327 :: .b 1::ic M w0 r m1) 10 ⟨[(1,.fn v2.id v2.aP),(5,.sl (lm am v3)),(6,.ref 117),(7,iI v30),(8,.ptr 8 0),(9,.bool v33),(10,.ptr 10 0),(11,iI (ab (v30+1))),(46,iI ((gD v3 v30).Kind)),(89,.bool v34)],[(8,am (gD v3 v30)),(10,List.set (aI cy) 61 (.nils))],[(117,⟨165,62,lm aI v31⟩)],[8,10,117]⟩ ?_ (by subst h69;kernel_rfl);obtain⟨h70,h⟩|⟨h70,h⟩:=ak h
 ·exact ah 89 h70 (bK (ks':=.b 2::dU 31327 :: .b 1::ic M w0 r m1) 2 (jc 10 (ae 0 (Cf hK hL1 h))))
 ·refine ah 89 h70 ?_;obtain⟨v35,h71,h⟩:=cg h;refine bR (ks':=dU 1002455 :: .b 2::dU 31327 :: .b 1::ic M w0 r m1) 3 ⟨[(1,.fn v2.id v2.aP),(5,.sl (lm am v3)),(6,.ref 117),(7,iI v30),(8,.ptr 8 0),(9,.bool v33),(10,.ptr 10 0),(11,iI (ab (v30+1))),(92,.bool v35)],[(8,am (gD v3 v30)),(10,List.set (aI cy) 61 (.nils))],[(117,⟨165,62,lm aI v31⟩)],[8,10,117]⟩ ?_ (by subst h71;kernel_rfl);obtain⟨h72,h⟩|⟨h72,h⟩:=ak h
  ·refine ah 92 h72 (bh 2 1 (aj 5 ?_));obtain⟨v36,h73,h⟩:=bind_some h;exact lf (hK.ol h73) (ac (ae 0 (Cf hK hL1 h)))
  ·exact ah 92 h72 (ae 3 (ci (p:=pn 8019644) n (S1 hK hL1 n h)))
theorem Qd(hK:ao K)(hL1:mK M w0 r v2 v3 m1 L1)(h:oK K n v2 v3 L1 v30 v31=some r):pV M w0 r (dU 244::ic M w0 r m1) (CS v2 v3 v30 v31):=by
 unfold oK at h;refine bO 4 5 3 2 (aj 2 (az (bv am v3) (ac ?_)));obtain⟨h62,h⟩|⟨h62,h⟩:=ak h
 ·refine ah 17 h62 (bK (ks':=dU 1956::dU 1957 :: .b 1::ic M w0 r m1) 4 (aj 2 ?_));obtain⟨h63,h⟩:=aF h;refine az (bi am am h63 (co) ((fun _=>rfl))) (ac (aC 2 3 1 (bI [1,5,6,7,8] [8] [117] ?_)));obtain⟨h64,h⟩|⟨h64,h⟩:=ak h
  ·obtain⟨h65,h⟩:=aF h;obtain⟨h66,h⟩|⟨h66,h⟩:=ak h
   ·obtain⟨h67,h⟩:=aF h;obtain⟨v32,h68,h⟩:=bind_some h;exact bP 1 (nu 22 [iI v30,.bool (decide (v30>0)),.bool true,.sl (lm am v3),iI v30,iI (ab (v30-1)),.cptr (am (gD v3 ((ab (v30-1))))),.cptr (List.drop 0 (am (gD v3 ((ab (v30-1)))))),iI ((gD v3 ((ab (v30-1)))).Kind),.bool (((gD v3 ((ab (v30-1)))).Kind) != 2),.bool (((gD v3 ((ab (v30-1)))).Kind) != 2),.bool true,.sl (lm am v3),iI v30,iI (ab (v30-1)),.cptr (am (gD v3 ((ab (v30-1))))),.agg (am (gD v3 ((ab (v30-1))))),.agg (am (gD v3 v30)),.bool v32,.bool (!v32),.bool (!v32)]) [] [] [bZ Tryz.prog 120 Tryz.f112 (pn 3914) 21] (ay (vz 2) (ag (ct 0 24 (e:=(decide (v30>0))) (b:=true) h64) (ay (vz 3) (bC (bi am am h65 (co) ((fun _=>rfl))) (ay (vz 4) (ag (ct 0 33 (e:=(((gD v3 ((ab (v30-1)))).Kind) != 2)) (b:=true) h66) (ay (vz 3) (bC (bi am am h67 (co) ((fun _=>rfl))) (ay (vz 2) (ag (cD 0 1 40 (po hK h68)) (ay (vz 2) (ag (bX 0) bQ)))))))))))) (ae 0 (AF hK hL1 h))
   ·exact bP 1 (nu 22 [iI v30,.bool (decide (v30>0)),.bool true,.sl (lm am v3),iI v30,iI (ab (v30-1)),.cptr (am (gD v3 ((ab (v30-1))))),.cptr (List.drop 0 (am (gD v3 ((ab (v30-1)))))),iI ((gD v3 ((ab (v30-1)))).Kind),.bool (((gD v3 ((ab (v30-1)))).Kind) != 2),.bool (((gD v3 ((ab (v30-1)))).Kind) != 2),.bool false,.tup [],.tup [],.tup [],.tup [],.tup [],.tup [],.tup [],.tup [],.bool false]) [] [] [bZ Tryz.prog 120 Tryz.f112 (pn 3914) 21] (ay (vz 2) (ag (ct 0 24 (e:=(decide (v30>0))) (b:=true) h64) (ay (vz 3) (bC (bi am am h65 (co) ((fun _=>rfl))) (ay (vz 4) (ag (ct 0 33 (e:=(((gD v3 ((ab (v30-1)))).Kind) != 2)) (b:=false) h66) (ag (ax 0 1) (ag (ax 0 1) (ag (ax 0 1) (ag (ax 0 1) (ag (ax 0 1) (ag (ax 0 1) (ag (ax 0 1) (ag (ax 0 1) (ay [.v 0 1] (ag (bX 0) bQ)))))))))))))))) (ae 0 (AF hK hL1 h))
  ·exact bP 1 (nu 22 [iI v30,.bool (decide (v30>0)),.bool false,.tup [],.tup [],.tup [],.tup [],.tup [],.tup [],.tup [],.bool false,.bool false,.tup [],.tup [],.tup [],.tup [],.tup [],.tup [],.tup [],.tup [],.bool false]) [] [] [bZ Tryz.prog 120 Tryz.f112 (pn 3914) 21] (ay (vz 2) (ag (ct 0 24 (e:=(decide (v30>0))) (b:=false) h64) (ag (ax 0 1) (ag (ax 0 1) (ag (ax 0 1) (ag (ax 0 1) (ag (ax 0 1) (ag (ax 0 1) (ag (ax 0 1) (ay (vz 2) (ag (ax 0 1) (ag (ax 0 1) (ag (ax 0 1) (ag (ax 0 1) (ag (ax 0 1) (ag (ax 0 1) (ag (ax 0 1) (ag (ax 0 1) (ay [.v 0 1] (ag (bX 0) bQ)))))))))))))))))))) (ae 0 (AF hK hL1 h))
 ·refine ah 17 h62 (aL 8 ?_);cases h;exact eV
theorem RH(hK:ao K)(m:Nat):mK M w0 r v2 v3 m (lr K n v2 v3 m):=by
 induction m with
 | zero=>intro v30 v31 h;cases h
 | succ m ih=>intro v30 v31 h;have h:oK K n v2 v3 (lr K n v2 v3 m) v30 v31=some r:=h;exact bB (Qd hK ih h)
theorem Qt(hK:ao K)(h:pu K n v1 v2=some r):aS Tryz.prog 112 [.sl (lm aR v1),.fn v2.id v2.aP] (fun v s=>v=.ref 117∧look 117 s.r=some ⟨165,62,lm aI r⟩):=by
 refine bu (cat Tryz.f112 (pn 1)) Tryz.func112 Tryz.ntmps112 fun M w0=>(bc ⟨[(0,.sl (lm aR v1)),(1,.fn v2.id v2.aP)],[],[],[]⟩ ?_);unfold pu at h;refine aC 6 7 3 (aj 1 ?_);obtain⟨v3,h1,h⟩:=bind_some h;exact fJ 1013 (Cj hK h1) (fL 400003) (ac (gc 26 0 7 6 (bI [1,5,6,7] [] [1013] (gf 1013 (fZ 117 6 165 62 (ae 0 (ci (p:=pn 122) n (RH hK n h))))))))
end
noncomputable section
variable[GS](M:Nat→Prop)(w0:aE)(r:ai×Int×Int×(List aG))(v1:aa)(v2:bN)(v3:bF)(v4 v5:Int)(v6:List aG)  
abbrev HW(n:Nat):aq:=.c (cat Tryz.f74 (pn n))
variable{M w0 r v1 v2 v3 v4 v5 v6}{K:Kn}{n:Nat}[SG w0]
theorem Po(hK:ao K)(h:wO K n v1 v2 v3 v4 v5 v6=some r):eG Tryz.prog 74 [.agg (aw v1),.agg (cb v2),.agg (bW v3)] [(440001,List.set (bL (⟨[],v4,v5⟩:bH)) 0 (.ref 440009))] ⟨64,127,lm bd v6⟩ (fun v s=>v=.agg (aO r.1)∧cn s.o [(440001,List.set (bL (⟨[],r.2.1,r.2.2.1⟩:bH)) 0 (.ref 440009))]∧look 440009 s.r=some ⟨64,127,lm bd r.2.2.2⟩):=by
 refine jC (c:=cat Tryz.f74 []) Tryz.func74 (by kernel_rfl) _ Tryz.ntmps74 (of_decide_eq_true (by kernel_rfl)) fun M w0=>(bc ⟨[(0,.agg (aw v1)),(1,.agg (cb v2)),(2,.agg (bW v3))],[(440001,List.set (bL (⟨[],v4,v5⟩:bH)) 0 (.ref 440009))],[(440009,⟨64,127,lm bd v6⟩)],[440009,440001,1440001]⟩ ?_);unfold wO at h;refine bK (ks':=[HW 6,HW 7]) 3 (aj 3 ?_);obtain⟨v7,h1,h⟩:=bind_some h;refine sI (C7 hK h1) (ac (aL 1 ?_));cases h;exact dT
end
noncomputable section
variable[GS](M:Nat→Prop)(w0:aE)(r:Int)(v1:aa)(v2:Int)(v3:bF)(v9:Int)  
abbrev Vu(n:Nat):aq:=.c (cat Tryz.f99 (pn n))
abbrev SK:Cx:=⟨Tryz.prog,46,M,w0⟩
abbrev Ox:=bodyPost Tryz.prog Tryz.f99 (bA M w0 (fun v _=>v=iI r))
abbrev MV(ks:List aq)(s:AS):=VE (SK M w0) (Ox M w0 r) ks .normal s
def LI:AS:=⟨[(1,iI v2),(3,.ptr 3 0),(7,iI v9)],[(3,aw v1)],[],[3]⟩
variable{M w0 r v1 v2 v3 v9}{K:Kn}{n:Nat}
theorem C0(hK:ao K)(h:vS K n v1 v2 v9=some r):MV M w0 r [Vu 15] (LI v1 v2 v9):=by
 unfold vS at h;refine aC 2 3 1 (aj 4 ?_);obtain⟨v10,h7,h⟩:=bind_some h;refine aU (wy hK h7) (ac (aL 1 ?_));cases h;exact bj
theorem Ln(hK:ao K)(h:xn K n v1 v2 v3=some r):aS Tryz.prog 99 [.agg (aw v1),iI v2,.agg (bW v3)] (fun v _=>v=iI r):=by
 refine bu (cat Tryz.f99 (pn 1)) Tryz.func99 Tryz.ntmps99 fun M w0=>(bc ⟨[(0,.agg (aw v1)),(1,iI v2),(2,.agg (bW v3))],[],[],[]⟩ ?_);unfold xn at h;refine aC 6 7 3 (aj 4 ?_);obtain⟨v4,h1,h⟩:=bind_some h;refine aU (eF hK h1) (ac (aC 5 3 3 ?_));obtain⟨h2,h⟩|⟨h2,h⟩:=ak h
 ·refine ah 21 h2 (aC 4 5 2 (aj 2 ?_));obtain⟨v5,h3,h⟩:=bind_some h;refine aU (Ev hK h3) (ac (aC 2 3 1 (bI [1,3,9,10] [3] [] ?_)));obtain⟨v6,h4,h⟩:=bind_some h;obtain⟨v7,h5,h⟩:=bind_some h;obtain⟨v8,h6,h⟩:=bind_some h;exact bP 1 (nu 28 [iI v2,iI v6,.ptr 3 2,.agg (aV v1.Style),iI v2,.agg (cb v7),iI v8,iI (ab (v6-v8))]) [] [] [bZ Tryz.prog 46 Tryz.f99 (pn 234) 8] (ay [.v 0 1] (ag (cD 0 1 29 (gx hK h4)) (ay (vz 3) (ag (cD 0 1 33 (tx hK h5)) (ag (cD 0 1 34 (tA hK h6)) (ay [.v 0 1] (ag (bX 0) bQ))))))) (ae 1 (C0 hK h))
 ·exact ah 21 h2 (ae 2 (C0 hK h))
end
noncomputable section
variable[GS](M:Nat→Prop)(w0:aE)(r:au)(v1:aa)(v2:Int)(v3:bF)  
variable{M w0 r v1 v2 v3}{K:Kn}{n:Nat}
theorem L6(hK:ao K)(h:A5 K n v1 v2 v3=some r):aS Tryz.prog 147 [.agg (aw v1),.cptr ([iI v2]),.cptr (bW v3)] (fun v _=>v=.agg (aI r)):=by
 refine bu (cat Tryz.f147 (pn 1)) Tryz.func147 Tryz.ntmps147 fun M w0=>(bc ⟨[(0,.agg (aw v1)),(1,.cptr ([iI v2])),(2,.cptr (bW v3))],[],[],[]⟩ ?_);unfold A5 at h;refine aC 6 7 3 (bI [1,2,3,4] [3,4] [] ?_);obtain⟨v4,h1,h⟩:=bind_some h;obtain⟨v5,h2,h⟩:=bind_some h;refine bP 1 (nu 7 [.ptr 3 2,.agg (aV v1.Style),iI v2,.agg (aw v1),iI v2,.agg (bW v3),iI v4,.agg (cb v5)]++nu 5 [.ptr 5 0]) [(5,cb gi)] [] [bZ Tryz.prog 36 Tryz.f147 (pn 6) 9] (ay (vz 6) (ag (cD 0 1 13 (Ln hK h1)) (ag (cD 0 1 14 (tx hK h2)) (ag (pd 0 1 68 5 (cb gi)) (ag (bX 0) bQ))))) ?_;cases h
end
noncomputable section
variable[GS](M:Nat→Prop)(w0:aE)(r:List au)(v1:List aa)(v2:Int)(v3:bF)  
variable{M w0 r v1 v2 v3}{K:Kn}{n:Nat}
theorem M3(hK:ao K)(h:rY K n v1 v2 v3=some r):aS Tryz.prog 109 [.sl (lm aR v1),iI v2,.agg (bW v3)] (fun v s=>v=.ref 1009∧look 1009 s.r=some ⟨165,62,lm aI r⟩):=by
 refine bu (cat Tryz.f109 (pn 1)) Tryz.func109 Tryz.ntmps109 fun M w0=>(bc ⟨[(0,.sl (lm aR v1)),(1,iI v2),(2,.agg (bW v3))],[],[],[]⟩ ?_);unfold rY at h;refine aC 6 7 3 (aj 1 (qA 4 4 ([iI v2]) (qA 5 5 (bW v3) (yQ 147 #[(.tmp 4),(.tmp 5)] [.cptr ([iI v2]),.cptr (bW v3)] ?_))));obtain⟨v4,h1,h⟩:=bind_some h;refine fJ 1009 (Qt hK h1) (fL 117) (ac (aL 1 ?_));cases h;exact eV
end
noncomputable section
variable[GS](M:Nat→Prop)(w0:aE)(r:Int)(v1:List au)(v2 v4:Int)(v5:Bool)(m1:Nat)(L1:Int→Option Int)
abbrev zX:Cx:=⟨Tryz.prog,22,M,w0⟩
abbrev Am:=bodyPost Tryz.prog Tryz.f115 (bA M w0 (fun v _=>v=iI r))
abbrev ES(ks:List aq)(s:AS):=VE (zX M w0) (Am M w0 r) ks .normal s
abbrev uL(n:Nat):aq:=.c (cat Tryz.f115 (pn n))
abbrev AZ:List aq:=[.b 0,uL 15]
abbrev Hd:List aq:=kl (zX M w0) (Am M w0 r) AZ (cat Tryz.f115 (pn 56)) m1::AZ
def MO:AS:=⟨[(0,.sl (lm aI v1)),(5,iI v4),(18,.bool v5)],[],[],[]⟩
def Cv:AS:=⟨[(0,.sl (lm aI v1)),(5,iI v4)],[],[],[]⟩
abbrev zt:Prop:=∀{v4:Int},L1 v4=some r→LP (zX M w0) (Am M w0 r) AZ (cat Tryz.f115 (pn 56)) m1 (Cv v1 v4)
variable{M w0 r v1 v2 v4 v5 m1 L1}{K:Kn}{n:Nat}
theorem HF(hK:ao K)(hL1:zt M w0 r v1 m1 L1)(h:n6 K n v1 v4 L1 v5=some r):ES M w0 r (uL 225::uL 113::Hd M w0 r m1) (MO v1 v4 v5):=by
 unfold n6 at h;obtain⟨h6,h⟩|⟨h6,h⟩:=ak h
 ·exact ah 18 h6 (ae 5 (bw (hL1 h)))
 ·refine ah 18 h6 (aL 8 ?_);cases h;exact bj
theorem KH(hK:ao K)(hL1:zt M w0 r v1 m1 L1)(h:o9 K n v1 L1 v4=some r):ES M w0 r (uL 56::Hd M w0 r m1) (Cv v1 v4):=by
 unfold o9 at h;refine bO 4 5 3 2 (aj 2 (az (bv aI v1) (aM 5 2 ?_)));obtain⟨h4,h⟩|⟨h4,h⟩:=ak h
 ·refine aB 12 h4 (aM 7 2 ?_);obtain⟨h5,h⟩:=aF h;exact az (bi aI aI h5 (fk) ((fun _=>rfl))) (ac (ae 0 (HF hK hL1 h)))
 ·exact aB 12 h4 (ac (ae 0 (HF hK hL1 h)))
theorem S9(hK:ao K)(m:Nat):zt M w0 r v1 m (pR K n v1 m):=by
 induction m with
 | zero=>intro v4 h;cases h
 | succ m ih=>intro v4 h;have h:o9 K n v1 (pR K n v1 m) v4=some r:=h;exact bB (KH hK ih h)
theorem xy(hK:ao K)(h:mA K n v1 v2=some r):aS Tryz.prog 115 [.sl (lm aI v1),iI v2] (fun v _=>v=iI r):=by
 refine bu (cat Tryz.f115 (pn 1)) Tryz.func115 Tryz.ntmps115 fun M w0=>(bc ⟨[(0,.sl (lm aI v1)),(1,iI v2)],[],[],[]⟩ ?_);unfold mA at h;exact ae 6 (ci (p:=pn 28) n (S9 hK n h))
end
noncomputable section
variable[GS](M:Nat→Prop)(w0:aE)(r:Int)(v1:List au)(v3:Int)(m1:Nat)(L1:Int→Option Int)
abbrev AD:Cx:=⟨Tryz.prog,18,M,w0⟩
abbrev Bg:=bodyPost Tryz.prog Tryz.f150 (bA M w0 (fun v _=>v=iI r))
abbrev Q4(ks:List aq)(s:AS):=VE (AD M w0) (Bg M w0 r) ks .normal s
abbrev IC(n:Nat):aq:=.c (cat Tryz.f150 (pn n))
abbrev zb:List aq:=[.b 0,IC 7]
abbrev Mr:List aq:=kl (AD M w0) (Bg M w0 r) zb (cat Tryz.f150 (pn 52)) m1::zb
def Ie:AS:=⟨[(0,.sl (lm aI v1)),(3,iI v3)],[],[],[]⟩
abbrev FG:Prop:=∀{v3:Int},L1 v3=some r→LP (AD M w0) (Bg M w0 r) zb (cat Tryz.f150 (pn 52)) m1 (Ie v1 v3)
variable{M w0 r v1 v3 m1 L1}{K:Kn}{n:Nat}
theorem UE(hK:ao K)(hL1:FG M w0 r v1 m1 L1)(h:ky K n v1 L1 v3=some r):Q4 M w0 r (IC 52::Mr M w0 r m1) (Ie v1 v3):=by
 unfold ky at h;refine aC 5 3 3 ?_;obtain⟨h5,h⟩|⟨h5,h⟩:=ak h
 ·refine ah 8 h5 (c8 8 9 1 3 5 (aj 2 ?_));obtain⟨h6,h⟩:=aF h;refine az (bi aI aI h6 (fk) ((fun _=>rfl))) (ac ?_);obtain⟨h7,h⟩|⟨h7,h⟩:=ak h
  ·refine ah 16 h7 (aL 9 ?_);cases h;exact bj
  ·exact ah 16 h7 (ae 4 (bw (hL1 h)))
 ·refine ah 8 h5 (aL 8 ?_);cases h;exact bj
theorem RJ(hK:ao K)(m:Nat):FG M w0 r v1 m (lj K n v1 m):=by
 induction m with
 | zero=>intro v3 h;cases h
 | succ m ih=>intro v3 h;have h:ky K n v1 (lj K n v1 m) v3=some r:=h;exact bB (UE hK ih h)
theorem Dd(hK:ao K)(h:kS K n v1=some r):aS Tryz.prog 150 [.sl (lm aI v1)] (fun v _=>v=iI r):=by
 refine bu (cat Tryz.f150 (pn 1)) Tryz.func150 Tryz.ntmps150 fun M w0=>(bc ⟨[(0,.sl (lm aI v1))],[],[],[]⟩ ?_);unfold kS at h;exact bO 12 13 7 4 (aj 1 (az (bv aI v1) (ac (ae 1 (ci (p:=pn 26) n (RJ hK n h))))))
end
noncomputable section
variable[GS](M:Nat→Prop)(w0:aE)(r:Int)(v1:List au)(v2 v3 v5:Int)(m1:Nat)(L1:Int→Int→Option Int)
abbrev B7:Cx:=⟨Tryz.prog,33,M,w0⟩
abbrev AI:=bodyPost Tryz.prog Tryz.f116 (bA M w0 (fun v _=>v=iI r))
abbrev Fq(ks:List aq)(s:AS):=VE (B7 M w0) (AI M w0 r) ks .normal s
abbrev Ay(n:Nat):aq:=.c (cat Tryz.f116 (pn n))
abbrev zC:List aq:=[.b 0,Ay 15]
abbrev T3:List aq:=kl (B7 M w0) (AI M w0 r) zC (cat Tryz.f116 (pn 116)) m1::zC
def NX:AS:=⟨[(3,iI v5)],[],[],[]⟩
def C9:AS:=⟨[(0,.sl (lm aI v1)),(3,iI v2),(7,.sl (lm aI v1)),(8,iI (v1.length:Int)),(9,iI v3)],[],[],[]⟩
abbrev En:Prop:=∀{v2:Int} {v3:Int},L1 v2 v3=some r→LP (B7 M w0) (AI M w0 r) zC (cat Tryz.f116 (pn 116)) m1 (C9 v1 v2 v3)
variable{M w0 r v1 v2 v3 v5 m1 L1}{K:Kn}{n:Nat}
theorem Jn(hK:ao K)(h:tN K n v5=some r):Fq M w0 r [Ay 31] (NX v5):=by
 unfold tN at h;refine aL 3 ?_;cases h;exact bj
theorem ML(hK:ao K)(hL1:En M w0 r v1 m1 L1)(h:oH K n v1 L1 v2 v3=some r):Fq M w0 r (Ay 116::T3 M w0 r m1) (C9 v1 v2 v3):=by
 unfold oH at h;refine aC 6 7 3 ?_;obtain⟨h3,h⟩|⟨h3,h⟩:=ak h
 ·refine ah 10 h3 (c8 8 9 1 3 5 (aj 0 ?_));obtain⟨h4,h⟩:=aF h;exact az (bi aI aI h4 (fk) ((fun _=>rfl))) (ac (ae 3 (bw (hL1 h))))
 ·refine ah 10 h3 (EQ 4 5 3 7 (aj 1 ?_));obtain⟨v4,h5,h⟩:=bind_some h;refine aU (Dd hK h5) (ac (bh 3 2 ?_));obtain⟨h6,h⟩|⟨h6,h⟩:=ak h
  ·refine ah 24 h6 (bh 2 1 (aj 3 ?_));obtain⟨h7,h⟩:=aF h;exact az (bi aI aI h7 (fk) ((fun _=>rfl))) (ac (ae 0 (Jn hK h)))
  ·exact ah 24 h6 (ae 2 (Jn hK h))
theorem Uf(hK:ao K)(m:Nat):En M w0 r v1 m (o4 K n v1 m):=by
 induction m with
 | zero=>intro v2 v3 h;cases h
 | succ m ih=>intro v2 v3 h;have h:oH K n v1 (o4 K n v1 m) v2 v3=some r:=h;exact bB (ML hK ih h)
theorem wP(hK:ao K)(h:kX K n v1=some r):aS Tryz.prog 116 [.sl (lm aI v1)] (fun v _=>v=iI r):=by
 refine bu (cat Tryz.f116 (pn 1)) Tryz.func116 Tryz.ntmps116 fun M w0=>(bc ⟨[(0,.sl (lm aI v1))],[],[],[]⟩ ?_);unfold kX at h;exact bO 28 29 15 6 (aj 1 (az (bv aI v1) (ac (ae 1 (ci (p:=pn 58) n (Uf hK n h))))))
end
noncomputable section
variable[GS](M:Nat→Prop)(w0:aE)(r:List Int)(v1:List au)(v2 v19:Int)(v20:List Int)(v25:Int)(v26:Bool)(m1 m2:Nat)(L1:Int→(List Int)→Option (List Int))(L2:Int→Option (List Int))
abbrev sA:Cx:=⟨Tryz.prog,46,M,w0⟩
abbrev qQ:=bodyPost Tryz.prog Tryz.f110 (bA M w0 (fun v s=>v=.ref 16∧look 16 s.r=some ⟨3,1,lm (ba .i64) r⟩))
abbrev wL(ks:List aq)(s:AS):=VE (sA M w0) (qQ M w0 r) ks .normal s
abbrev hJ(n:Nat):aq:=.c (cat Tryz.f110 (pn n))
abbrev B9:List aq:=[.b 0,hJ 15]
abbrev tW:List aq:=kl (sA M w0) (qQ M w0 r) B9 (cat Tryz.f110 (pn 116)) m1::B9
abbrev yX:List aq:=.b 2::hJ 3735 :: .b 1::tW M w0 r m1
abbrev BH:List aq:=kl (sA M w0) (qQ M w0 r) (yX M w0 r m1) (cat Tryz.f110 (pn 14936)) m2::(yX M w0 r m1)
def Vr:AS:=⟨[(0,.sl (lm aI v1)),(1,iI v2),(5,.ref 16),(7,iI v25)],[],[(16,⟨3,1,lm (ba .i64) (v20++[v19])⟩)],[16]⟩
def Rj:AS:=⟨[(0,.sl (lm aI v1)),(1,iI v2),(5,.ref 16),(6,iI v19),(7,iI v25),(32,.bool v26)],[],[(16,⟨3,1,lm (ba .i64) (v20++[v19])⟩)],[16]⟩
def HU:AS:=⟨[(0,.sl (lm aI v1)),(1,iI v2),(5,.ref 16),(6,iI v19),(7,iI v25)],[],[(16,⟨3,1,lm (ba .i64) (v20++[v19])⟩)],[16]⟩
def Dx:AS:=⟨[(0,.sl (lm aI v1)),(1,iI v2),(5,.ref 16),(6,iI v19)],[],[(16,⟨3,1,lm (ba .i64) v20⟩)],[16]⟩
abbrev nS:Prop:=∀{v19:Int} {v20:(List Int)},L1 v19 v20=some r→LP (sA M w0) (qQ M w0 r) B9 (cat Tryz.f110 (pn 116)) m1 (Dx v1 v2 v19 v20)
abbrev Ct:Prop:=∀{v25:Int},L2 v25=some r→LP (sA M w0) (qQ M w0 r) (yX M w0 r m1) (cat Tryz.f110 (pn 14936)) m2 (HU v1 v2 v19 v20 v25)
variable{M w0 r v1 v2 v19 v20 v25 v26 m1 m2 L1 L2}{K:Kn}{n:Nat}
theorem EB(hK:ao K)(hL1:nS M w0 r v1 v2 m1 L1)(h:wY K n v1 v2 v19 v20 v25 L1=some r):wL M w0 r (hJ 3735 :: .b 1::tW M w0 r m1) (Vr v1 v2 v19 v20 v25):=by
 unfold wY at h;exact ae 2 (bw (hL1 h))
theorem DK(hK:ao K)(hL1:nS M w0 r v1 v2 m1 L1)(hL2:Ct M w0 r v1 v2 v19 v20 m1 m2 L2)(h:nr K n v1 v2 v19 v20 v25 L1 L2 v26=some r):wL M w0 r (hJ 59745::hJ 29873::BH M w0 r m1 m2) (Rj v1 v2 v19 v20 v25 v26):=by
 unfold nr at h;obtain⟨h47,h⟩|⟨h47,h⟩:=ak h
 ·refine ah 32 h47 (bK (ks':=hJ 119492::hJ 119493 :: .b 3::BH M w0 r m1 m2) 4 (aj 2 ?_));obtain⟨v27,h48,h⟩:=bind_some h;refine aU (xy hK h48) (ac (bO 4 5 3 2 (aj 3 ?_)));obtain⟨h49,h⟩:=aF h;refine az (gU aI v1 v19 v27 159 (.tmp 36) (some (.tmp 37)) (some (.tmp 38)) 39 (e:=165) (sz:=62) (by kernel_rfl) (by kernel_rfl) (by kernel_rfl) (by kernel_rfl) (by kernel_rfl) (by kernel_rfl) (fk) (fun k hk=>by subst hk;kernel_rfl) h49) ?_;obtain⟨v28,h50,h⟩:=bind_some h;refine aU (wP hK h50) (ac ?_);obtain⟨h51,h⟩|⟨h51,h⟩:=ak h
  ·exact ah 42 h51 (ae 6 (EB hK hL1 h))
  ·exact ah 42 h51 (ae 4 (bw (hL2 h)))
 ·exact ah 32 h47 (ae 5 (EB hK hL1 h))
theorem N1(hK:ao K)(hL1:nS M w0 r v1 v2 m1 L1)(hL2:Ct M w0 r v1 v2 v19 v20 m1 m2 L2)(h:pG K n v1 v2 v19 v20 L1 L2 v25=some r):wL M w0 r (hJ 14936::BH M w0 r m1 m2) (HU v1 v2 v19 v20 v25):=by
 unfold pG at h;refine bO 4 5 3 2 (aj 2 (az (bv aI v1) (aM 5 2 ?_)));obtain⟨h45,h⟩|⟨h45,h⟩:=ak h
 ·refine aB 24 h45 (aM 8 3 ?_);obtain⟨h46,h⟩:=aF h;exact az (bi aI aI h46 (fk) ((fun _=>rfl))) (ac (ae 0 (DK hK hL1 hL2 h)))
 ·exact aB 24 h45 (ac (ae 0 (DK hK hL1 hL2 h)))
theorem Vh(hK:ao K)(hL1:nS M w0 r v1 v2 m1 L1)(m:Nat):Ct M w0 r v1 v2 v19 v20 m1 m (oN K n v1 v2 v19 v20 L1 m):=by
 induction m with
 | zero=>intro v25 h;cases h
 | succ m ih=>intro v25 h;have h:pG K n v1 v2 v19 v20 L1 (oN K n v1 v2 v19 v20 L1 m) v25=some r:=h;exact bB (N1 hK hL1 ih h)
theorem Tc(hK:ao K)(hL1:nS M w0 r v1 v2 m1 L1)(h:oi K n v1 v2 L1 v19 v20=some r):wL M w0 r (hJ 116::tW M w0 r m1) (Dx v1 v2 v19 v20):=by
 unfold oi at h;refine bO 4 5 3 2 (aj 2 (az (bv aI v1) (ac ?_)));obtain⟨h35,h⟩|⟨h35,h⟩:=ak h
 ·refine ah 12 h35 (bK (ks':=hJ 932::hJ 933 :: .b 1::tW M w0 r m1) 4 (aj 3 ?_));obtain⟨h36,h⟩:=aF h;refine az (cv 16 16 3 1 (ba .i64) (rfl) ((fun _=>rfl)) h36) (ac (aC 2 3 1 (aj 2 ?_)));obtain⟨v21,h37,h⟩:=bind_some h;exact aU (xy hK h37) (ac (ae 2 (ci (p:=pn 7468) n (Vh hK hL1 n h))))
 ·refine ah 12 h35 (aL 8 ?_);cases h;exact eV
theorem S3(hK:ao K)(m:Nat):nS M w0 r v1 v2 m (oA K n v1 v2 m):=by
 induction m with
 | zero=>intro v19 v20 h;cases h
 | succ m ih=>intro v19 v20 h;have h:oi K n v1 v2 (oA K n v1 v2 m) v19 v20=some r:=h;exact bB (Tc hK ih h)
theorem R6(hK:ao K)(h:qu K n v1 v2=some r):aS Tryz.prog 110 [.sl (lm aI v1),iI v2] (fun v s=>v=.ref 16∧look 16 s.r=some ⟨3,1,lm (ba .i64) r⟩):=by
 refine bu (cat Tryz.f110 (pn 1)) Tryz.func110 Tryz.ntmps110 fun M w0=>(bc ⟨[(0,.sl (lm aI v1)),(1,iI v2)],[],[],[]⟩ ?_);unfold qu at h;exact gc 58 0 15 8 (bI [0,1,5,6] [] [] (fZ 16 5 3 1 (ae 0 (ci (p:=pn 58) n (S3 hK n h)))))
end
noncomputable section
variable[GS](M:Nat→Prop)(w0:aE)(r:Int)(v1:aJ)(v2 v3:Int)  
variable{M w0 r v1 v2 v3}{K:Kn}{n:Nat}
theorem OW(hK:ao K)(h:jx K n v1 v2 v3=some r):aS Tryz.prog 149 [.agg (aV v1),iI v2,iI v3] (fun v _=>v=iI r):=by
 refine bu (cat Tryz.f149 (pn 1)) Tryz.func149 Tryz.ntmps149 fun M w0=>(bc ⟨[(0,.agg (aV v1)),(1,iI v2),(2,iI v3)],[],[],[]⟩ ?_);unfold jx at h;refine aC 13 7 5 ?_;obtain⟨h1,h⟩|⟨h1,h⟩:=ak h
 ·refine ah 9 h1 (aL 5 ?_);cases h;exact bj
 ·refine ah 9 h1 (CR 21 0 3 8 ?_);obtain⟨h2,h⟩|⟨h2,h⟩:=ak h
  ·refine ah 12 h2 (aL 6 ?_);cases h;exact bj
  ·refine ah 12 h2 (bh 7 3 ?_);obtain⟨h3,h⟩|⟨h3,h⟩:=ak h
   ·refine ah 18 h3 (aL 6 ?_);cases h;exact bj
   ·refine ah 18 h3 (aL 6 ?_);cases h;exact bj
end
noncomputable section
variable[GS](M:Nat→Prop)(w0:aE)(r:Bool)(v1 v2:ByteArray)(v3:Bool)  
abbrev TY(n:Nat):aq:=.c (cat Tryz.f173 (pn n))
abbrev Sv:Cx:=⟨Tryz.prog,21,M,w0⟩
abbrev KX:=bodyPost Tryz.prog Tryz.f173 (bA M w0 (fun v _=>v=.bool r))
abbrev M6(ks:List aq)(s:AS):=VE (Sv M w0) (KX M w0 r) ks .normal s
def Ou:AS:=⟨[(4,.bool v3)],[],[],[]⟩
variable{M w0 r v1 v2 v3}{K:Kn}{n:Nat}
theorem JZ(hK:ao K)(h:ru K n v3=some r):M6 M w0 r [TY 7] (Ou v3):=by
 unfold ru at h;refine aL 1 ?_;cases h;exact bj
theorem QD(hK:ao K)(h:wA K n v1 v2=some r):aS Tryz.prog 173 [.str v1,.str v2] (fun v _=>v=.bool r):=by
 refine bu (cat Tryz.f173 (pn 1)) Tryz.func173 Tryz.ntmps173 fun M w0=>(bc ⟨[(0,.str v1),(1,.str v2)],[],[],[]⟩ ?_);unfold wA at h;refine aC 6 7 3 (aj 6 ?_);obtain⟨h1,h⟩|⟨h1,h⟩:=ak h
 ·refine aB 10 h1 (aM 12 6 ?_);obtain⟨h2,h⟩:=aF h;exact az (xg h2) (ac (ae 0 (JZ hK h)))
 ·exact aB 10 h1 (ac (ae 0 (JZ hK h)))
end
noncomputable section
variable[GS](M:Nat→Prop)(w0:aE)(r:Bool)(v1 v2:ByteArray)  
variable{M w0 r v1 v2}{K:Kn}{n:Nat}
theorem Np(hK:ao K)(h:sc K n v1 v2=some r):aS Tryz.prog 151 [.str v1,.str v2] (fun v _=>v=.bool r):=by
 refine bu (cat Tryz.f151 (pn 1)) Tryz.func151 Tryz.ntmps151 fun M w0=>(bc ⟨[(0,.str v1),(1,.str v2)],[],[],[]⟩ ?_);unfold sc at h;refine aC 6 7 3 (aj 2 ?_);obtain⟨v3,h1,h⟩:=bind_some h;refine aU (QD hK h1) (ac (aL 1 ?_));cases h;exact bj
end
noncomputable section
variable[GS](M:Nat→Prop)(w0:aE)(r:ai)(v1:List au)(v2:aJ)(v3 v8 v9 v10 v11 v12 v15 v78 v79:Int)(v80:List ai)(v82:Bool)(v83:au)(v87:List ai)(v104:Int)(v105:List ai)(m1 m2 m3:Nat)(L1:Int→Int→Int→Option ai)(L2:Int→Int→(List ai)→Option ai)(L3:Int→(List ai)→Option ai)
abbrev mB:Cx:=⟨Tryz.prog,156,M,w0⟩
abbrev mb:=bodyPost Tryz.prog Tryz.f111 (bA M w0 (fun v s=>v=.agg (List.set (aO ({ r with Kids:=[] }:ai)) 66 (.ref 114))∧look 114 s.r=some ⟨44,67,lm aY r.Kids⟩))
abbrev lx(ks:List aq)(s:AS):=VE (mB M w0) (mb M w0 r) ks .normal s
abbrev dC(n:Nat):aq:=.c (cat Tryz.f111 (pn n))
abbrev yV:List aq:=[.b 2,dC 255]
abbrev ou:List aq:=kl (mB M w0) (mb M w0 r) yV (cat Tryz.f111 (pn 2036)) m2::yV
abbrev yY:List aq:=[.b 0,dC 15]
abbrev Ik:List aq:=kl (mB M w0) (mb M w0 r) yY (cat Tryz.f111 (pn 116)) m1::yY
abbrev zq:List aq:=.b 4::dC 521423 :: .b 3::dC 16295::ou M w0 r m2
abbrev B8:List aq:=kl (mB M w0) (mb M w0 r) (zq M w0 r m2) (cat Tryz.f111 (pn 4171380)) m3::(zq M w0 r m2)
def PG:AS:=⟨[(0,.sl (lm aI v1)),(2,iI v3),(4,.ptr 4 0),(6,.ptr 6 0),(7,iI v11),(8,iI v12),(24,.sl (lm aI v1)),(25,iI (v1.length:Int)),(26,iI v10)],[(4,aV v2),(6,List.set (aO bG) 66 (.nils))],[],[4,6]⟩
def Ek:AS:=⟨[(6,.ptr 6 0),(7,iI v8),(11,.ptr 11 0),(12,iI v78),(13,iI v15),(15,.ptr 15 0),(56,.sl (lm aI v1)),(57,iI (v1.length:Int)),(58,iI v79),(117,.sl (lm aY v83.Box)),(118,iI (v83.Box.length:Int)),(119,iI v104)],[(6,List.set (aO bG) 66 (.nils)),(11,List.set (aO ({ bG with Kind:=2,W:=v3,H:=(ab (v8+v9)),aE:=v8,Style:=v2 }:ai)) 66 (.ref 114)),(15,aI v83)],[(114,⟨44,67,lm aY v105⟩)],[6,11,15,114]⟩
def Wa:AS:=⟨[(6,.ptr 6 0),(7,iI v8),(11,.ptr 11 0),(12,iI v78),(13,iI v15),(15,.ptr 15 0),(56,.sl (lm aI v1)),(57,iI (v1.length:Int)),(58,iI v79)],[(6,List.set (aO bG) 66 (.nils)),(11,List.set (aO ({ bG with Kind:=2,W:=v3,H:=(ab (v8+v9)),aE:=v8,Style:=v2 }:ai)) 66 (.ref 114)),(15,aI v83)],[(114,⟨44,67,lm aY v87⟩)],[6,11,15,114]⟩
def RV:AS:=⟨[(6,.ptr 6 0),(7,iI v8),(11,.ptr 11 0),(12,iI v78),(13,iI v15),(15,.ptr 15 0),(56,.sl (lm aI v1)),(57,iI (v1.length:Int)),(58,iI v79)],[(6,List.set (aO bG) 66 (.nils)),(11,List.set (aO ({ bG with Kind:=2,W:=v3,H:=(ab (v8+v9)),aE:=v8,Style:=v2 }:ai)) 66 (.ref 114)),(15,aI v83)],[(114,⟨44,67,lm aY v80⟩)],[6,11,15,114]⟩
def Sf:AS:=⟨[(6,.ptr 6 0),(7,iI v8),(11,.ptr 11 0),(12,iI v78),(13,iI v15),(15,.ptr 15 0),(56,.sl (lm aI v1)),(57,iI (v1.length:Int)),(58,iI v79),(76,.bool v82)],[(6,List.set (aO bG) 66 (.nils)),(11,List.set (aO ({ bG with Kind:=2,W:=v3,H:=(ab (v8+v9)),aE:=v8,Style:=v2 }:ai)) 66 (.ref 114)),(15,aI (gD v1 v79))],[(114,⟨44,67,lm aY v80⟩)],[6,11,15,114]⟩
def G7:AS:=⟨[(6,.ptr 6 0),(7,iI v8),(11,.ptr 11 0),(12,iI v78),(13,iI v15),(56,.sl (lm aI v1)),(57,iI (v1.length:Int)),(58,iI v79)],[(6,List.set (aO bG) 66 (.nils)),(11,List.set (aO ({ bG with Kind:=2,W:=v3,H:=(ab (v8+v9)),aE:=v8,Style:=v2 }:ai)) 66 (.ref 114))],[(114,⟨44,67,lm aY v80⟩)],[6,11,114]⟩
def C2:AS:=⟨[(0,.sl (lm aI v1)),(2,iI v3),(4,.ptr 4 0),(6,.ptr 6 0),(7,iI v8),(8,iI v9),(24,.sl (lm aI v1)),(25,iI (v1.length:Int)),(26,iI v10)],[(4,aV v2),(6,List.set (aO bG) 66 (.nils))],[],[4,6]⟩
abbrev z5:Prop:=∀{v8:Int} {v9:Int} {v10:Int},L1 v8 v9 v10=some r→LP (mB M w0) (mb M w0 r) yY (cat Tryz.f111 (pn 116)) m1 (C2 v1 v2 v3 v8 v9 v10)
abbrev ms:Prop:=∀{v78:Int} {v79:Int} {v80:(List ai)},L2 v78 v79 v80=some r→LP (mB M w0) (mb M w0 r) yV (cat Tryz.f111 (pn 2036)) m2 (G7 v1 v2 v3 v8 v9 v15 v78 v79 v80)
abbrev Jy:Prop:=∀{v104:Int} {v105:(List ai)},L3 v104 v105=some r→LP (mB M w0) (mb M w0 r) (zq M w0 r m2) (cat Tryz.f111 (pn 4171380)) m3 (Ek v1 v2 v3 v8 v9 v15 v78 v79 v83 v104 v105)
variable{M w0 r v1 v2 v3 v8 v9 v10 v11 v12 v15 v78 v79 v80 v82 v83 v87 v104 v105 m1 m2 m3 L1 L2 L3}{K:Kn}{n:Nat}
theorem HG(hK:ao K)(hL1:z5 M w0 r v1 v2 v3 m1 L1)(h:sV K n v1 v2 v3 v10 L1 v11 v12=some r):lx M w0 r (.b 1::dC 935::Ik M w0 r m1) (PG v1 v2 v3 v10 v11 v12):=by
 unfold sV at h;exact ae 2 (bw (hL1 h))
theorem V9(hK:ao K)(hL2:ms M w0 r v1 v2 v3 v8 v9 v15 m2 L2)(hL3:Jy M w0 r v1 v2 v3 v8 v9 v15 v78 v79 v83 m2 m3 L3)(h:pw K n v1 v2 v3 v8 v9 v15 v78 v79 v83 L2 L3 v104 v105=some r):lx M w0 r (dC 4171380::B8 M w0 r m2 m3) (Ek v1 v2 v3 v8 v9 v15 v78 v79 v83 v104 v105):=by
 unfold pw at h;refine aC 6 7 3 ?_;obtain⟨h123,h⟩|⟨h123,h⟩:=ak h
 ·refine ah 120 h123 (c8 8 9 5 3 5 (aj 0 ?_));obtain⟨h124,h⟩:=aF h;refine az (bi aY aO h124 (lg) (er)) (ac ?_);obtain⟨v106,h125,h⟩:=cg h;obtain⟨v107,h126,h⟩:=cg h;obtain⟨v108,h127,h⟩:=cg h;obtain⟨v109,h128,h⟩:=cg h;obtain⟨v110,h129,h⟩:=cg h;obtain⟨v111,h130,h⟩:=cg h;obtain⟨v112,h131,h⟩:=cg h;obtain⟨v113,h132,h⟩:=cg h;obtain⟨v114,h133,h⟩:=cg h;obtain⟨v115,h134,h⟩:=cg h;refine bR (ks':=dC 533936742::dC 533936743 :: .b 5::dC 33371047::B8 M w0 r m2 m3) 3 ⟨[(6,.ptr 6 0),(7,iI v8),(11,.ptr 11 0),(12,iI v78),(13,iI v15),(15,.ptr 15 0),(18,.ptr 18 0),(56,.sl (lm aI v1)),(57,iI (v1.length:Int)),(58,iI v79),(117,.sl (lm aY v83.Box)),(118,iI (v83.Box.length:Int)),(119,iI v104)],[(6,List.set (aO bG) 66 (.nils)),(11,List.set (aO ({ bG with Kind:=2,W:=v3,H:=(ab (v8+v9)),aE:=v8,Style:=v2 }:ai)) 66 (.ref 114)),(15,aI v83),(18,aO (⟨v106,v107,v108,(gD v83.Box v104).Y,(gD v83.Box v104).W,(gD v83.Box v104).H,v109,v110,v111,v112,v113,v114,v115⟩:ai))],[(114,⟨44,67,lm aY v105⟩)],[6,11,15,18,114]⟩ ?_ (by subst h134;subst h133;subst h132;subst h131;subst h130;subst h129;subst h128;subst h127;subst h126;subst h125;kernel_rfl)
  obtain⟨v116,h135,h⟩:=bind_some h;refine bP 1 (nu 128 [.ptr 18 3,iI ((gD v83.Box v104).Y),iI v8,.ptr 18 5,iI ((gD v83.Box v104).H),iI (ab (v8-((gD v83.Box v104).H))),.ptr 18 63,.agg (cz v113),iI v116,iI (ab ((ab (v8-((gD v83.Box v104).H)))-v116)),iI (ab (((gD v83.Box v104).Y)+(ab ((ab (v8-((gD v83.Box v104).H)))-v116)))),.ptr 18 3]) [] [] [bZ Tryz.prog 156 Tryz.f111 (pn 533936742) 12] (ay (vz 8) (ag (cD 0 1 136 (uS hK h135)) (ay (vz 3) (ag (bX 0) bQ)))) ?_;obtain⟨v117,h136,h⟩:=cg h;refine bR (ks':=dC 533936743 :: .b 5::dC 33371047::B8 M w0 r m2 m3) 0 ⟨[(6,.ptr 6 0),(7,iI v8),(11,.ptr 11 0),(12,iI v78),(13,iI v15),(15,.ptr 15 0),(18,.ptr 18 0),(56,.sl (lm aI v1)),(57,iI (v1.length:Int)),(58,iI v79),(117,.sl (lm aY v83.Box)),(118,iI (v83.Box.length:Int)),(119,iI v104)],[(6,List.set (aO bG) 66 (.nils)),(11,List.set (aO ({ bG with Kind:=2,W:=v3,H:=(ab (v8+v9)),aE:=v8,Style:=v2 }:ai)) 66 (.ref 114)),(15,aI v83),(18,aO (⟨v106,v107,v108,v117,(gD v83.Box v104).W,(gD v83.Box v104).H,v109,v110,v111,v112,v113,v114,v115⟩:ai))],[(114,⟨44,67,lm aY v105⟩)],[6,11,15,18,114]⟩ ?_ (by subst h136;kernel_rfl)
  refine aj 3 (az (fO aY ([(⟨v106,v107,v108,v117,(gD v83.Box v104).W,(gD v83.Box v104).H,v109,v110,v111,v112,v113,v114,v115⟩:ai)]:List ai) (new:=[aO (⟨v106,v107,v108,v117,(gD v83.Box v104).W,(gD v83.Box v104).H,v109,v110,v111,v112,v113,v114,v115⟩:ai)]) (by simp only[List.map_cons,List.map_nil,er])) ?_);obtain⟨h137,h⟩:=aF h;exact az (cv 144 114 44 67 aY (rfl) (lg) h137) (ac (ae 2 (bw (hL3 h))))
 ·exact ah 120 h123 (ae 8 (bw (hL2 h)))
theorem PF(hK:ao K)(hL2:ms M w0 r v1 v2 v3 v8 v9 v15 m2 L2)(m:Nat):Jy M w0 r v1 v2 v3 v8 v9 v15 v78 v79 v83 m2 m (pJ K n v1 v2 v3 v8 v9 v15 v78 v79 v83 L2 m):=by
 induction m with
 | zero=>intro v104 v105 h;cases h
 | succ m ih=>intro v104 v105 h;have h:pw K n v1 v2 v3 v8 v9 v15 v78 v79 v83 L2 (pJ K n v1 v2 v3 v8 v9 v15 v78 v79 v83 L2 m) v104 v105=some r:=h;exact bB (V9 hK hL2 ih h)
theorem HV(hK:ao K)(hL2:ms M w0 r v1 v2 v3 v8 v9 v15 m2 L2)(h:m7 K n v1 v2 v3 v8 v9 v15 v78 v79 v83 L2 v87=some r):lx M w0 r (dC 260711 :: .b 3::dC 16295::ou M w0 r m2) (Wa v1 v2 v3 v8 v9 v15 v78 v79 v83 v87):=by
 unfold m7 at h;exact bO 4 5 3 2 (aj 2 (az (bv aY v83.Box) (ac (ae 1 (ci (p:=pn 2085690) n (PF hK hL2 n h))))))
theorem Eo(hK:ao K)(hL2:ms M w0 r v1 v2 v3 v8 v9 v15 m2 L2)(h:kz K n v1 v2 v3 v8 v9 v15 v78 v79 v80 L2 v83=some r):lx M w0 r (dC 130355 :: .b 3::dC 16295::ou M w0 r m2) (RV v1 v2 v3 v8 v9 v15 v78 v79 v80 v83):=by
 unfold kz at h;obtain⟨v84,h99,h⟩:=cg h;refine bR (ks':=dC 521421::dC 260711 :: .b 3::dC 16295::ou M w0 r m2) 3 ⟨[(6,.ptr 6 0),(7,iI v8),(11,.ptr 11 0),(12,iI v78),(13,iI v15),(15,.ptr 15 0),(56,.sl (lm aI v1)),(57,iI (v1.length:Int)),(58,iI v79),(88,.bool v84)],[(6,List.set (aO bG) 66 (.nils)),(11,List.set (aO ({ bG with Kind:=2,W:=v3,H:=(ab (v8+v9)),aE:=v8,Style:=v2 }:ai)) 66 (.ref 114)),(15,aI v83)],[(114,⟨44,67,lm aY v80⟩)],[6,11,15,114]⟩ ?_ (by subst h99;kernel_rfl);obtain⟨h100,h⟩|⟨h100,h⟩:=ak h
 ·refine ah 88 h100 (bh 5 3 (bI [6,7,11,12,13,15,16,56,57,58] [6,11,15] [114] ?_));obtain⟨v85,h101,h⟩:=bind_some h;obtain⟨v86,h102,h⟩:=bind_some h;obtain⟨h103,h⟩:=aF h;exact bP 2 (nu 92 [.ptr 11 66,.ref 114,.ptr 15 0,iI v83.Node,.ptr 15 2,.agg (aV v83.Style),.ptr 15 1,.str v83.Text,iI v78,iI v8,iI v83.Style.FontSize,iI v85,iI (ab (v8-v85)),.ptr 15 55,iI v83.Width,.ptr 15 56,iI v83.Space,iI (ab (v83.Width+v83.Space)),iI v83.Style.FontSize,iI v86,.agg (List.set (aO (⟨3,v83.Node,v78,(ab (v8-v85)),(ab (v83.Width+v83.Space)),v86,0,v83.Text,v83.Style,cR,cR,false,[]⟩:ai)) 66 (.nils)),.sl (lm aY [(⟨3,v83.Node,v78,(ab (v8-v85)),(ab (v83.Width+v83.Space)),v86,0,v83.Text,v83.Style,cR,cR,false,[]⟩:ai)])]++nu 115 [.ptr 11 66]) [] [] [fi 114 114 ⟨44,67,lm aY (v80++[(⟨3,v83.Node,v78,(ab (v8-v85)),(ab (v83.Width+v83.Space)),v86,0,v83.Text,v83.Style,cR,cR,false,[]⟩:ai)])⟩,bZ Tryz.prog 156 Tryz.f111 (pn 2085685) 24] (ay [.v 0 2,.v 0 1,.v 0 2,.v 0 2,.v 0 2,.v 0 2,.v 0 2,.v 0 2,.v 0 2,.v 0 2,.v 0 2] (ag (cD 0 2 103 (EL hK h101)) (ay [.v 0 2,.v 0 2,.v 0 2,.v 0 2,.v 0 2,.v 0 2,.v 0 2] (ag (cD 0 1 111 (Eu hK h102)) (ay [.v 0 2] (bC (fO aY ([(⟨3,v83.Node,v78,(ab (v8-v85)),(ab (v83.Width+v83.Space)),v86,0,v83.Text,v83.Style,cR,cR,false,[]⟩:ai)]:List ai) (new:=[aO (⟨3,v83.Node,v78,(ab (v8-v85)),(ab (v83.Width+v83.Space)),v86,0,v83.Text,v83.Style,cR,cR,false,[]⟩:ai)]) (by simp only[List.map_cons,List.map_nil,er])) (ag (eu (m:=0) (cv 114 114 44 67 aY (rfl) (lg) h103)) (ay [.v 1 1] (ag (bX 1) bQ))))))))) (ae 0 (HV hK hL2 h))
 ·exact ah 88 h100 (ae 2 (HV hK hL2 h))
theorem yg(hK:ao K)(hL2:ms M w0 r v1 v2 v3 v8 v9 v15 m2 L2)(h:kw K n v1 v2 v3 v8 v9 v15 v78 v79 v80 L2 v82=some r):lx M w0 r (dC 260709::dC 130355 :: .b 3::dC 16295::ou M w0 r m2) (Sf v1 v2 v3 v8 v9 v15 v78 v79 v80 v82):=by
 unfold kw at h;obtain⟨h97,h⟩|⟨h97,h⟩:=ak h
 ·refine ah 76 h97 (aC 4 5 2 (aj 6 ?_));obtain⟨h98,h⟩:=aF h;exact az (xg h98) (ac (ae 1 (Eo hK hL2 h)))
 ·exact ah 76 h97 (ae 2 (Eo hK hL2 h))
theorem KE(hK:ao K)(hL2:ms M w0 r v1 v2 v3 v8 v9 v15 m2 L2)(h:oP K n v1 v2 v3 v8 v9 v15 L2 v78 v79 v80=some r):lx M w0 r (dC 2036::ou M w0 r m2) (G7 v1 v2 v3 v8 v9 v15 v78 v79 v80):=by
 unfold oP at h;refine aC 6 7 3 ?_;obtain⟨h92,h⟩|⟨h92,h⟩:=ak h
 ·refine ah 59 h92 (c8 8 9 3 3 5 (aj 1 ?_));obtain⟨h93,h⟩:=aF h;refine az (bi aI aI h93 (fk) ((fun _=>rfl))) (ac (bO 4 5 3 2 (aj 4 ?_)));obtain⟨h94,h⟩|⟨h94,h⟩:=ak h
  ·refine aB 66 h94 (aM 6 2 ?_);obtain⟨v81,h95,h⟩:=bind_some h;refine aU (Np hK h95) (aM 9 2 ?_);obtain⟨h96,h⟩|⟨h96,h⟩:=ak h
   ·exact aB 71 h96 (ac (ae 0 (yg hK hL2 h)))
   ·exact aB 71 h96 (ac (ae 0 (yg hK hL2 h)))
  ·exact aB 66 h94 (ac (ae 0 (yg hK hL2 h)))
 ·refine ah 59 h92 (aL 8 ?_);cases h;exact eV
theorem KU(hK:ao K)(m:Nat):ms M w0 r v1 v2 v3 v8 v9 v15 m (jL K n v1 v2 v3 v8 v9 v15 m):=by
 induction m with
 | zero=>intro v78 v79 v80 h;cases h
 | succ m ih=>intro v78 v79 v80 h;have h:oP K n v1 v2 v3 v8 v9 v15 (jL K n v1 v2 v3 v8 v9 v15 m) v78 v79 v80=some r:=h;exact bB (KE hK ih h)
theorem Ve(hK:ao K)(hL1:z5 M w0 r v1 v2 v3 m1 L1)(h:oY K n v1 v2 v3 L1 v8 v9 v10=some r):lx M w0 r (dC 116::Ik M w0 r m1) (C2 v1 v2 v3 v8 v9 v10):=by
 unfold oY at h;refine aC 6 7 3 ?_;obtain⟨h6,h⟩|⟨h6,h⟩:=ak h
 ·refine ah 27 h6 (c8 8 9 1 3 5 (aj 0 ?_));obtain⟨h7,h⟩:=aF h;refine az (bi aI aI h7 (fk) ((fun _=>rfl))) (ac (bh 3 2 ?_));obtain⟨h8,h⟩|⟨h8,h⟩:=ak h
  ·exact ah 32 h8 (bh 2 1 (bI [0,2,4,6,7,8,10,24,25,26] [4,6,10] [] (bP 2 (nu 33 [iI v8,.ptr 10 57,iI ((gD v1 v10).Above),iI (max v8 ((gD v1 v10).Above)),iI v9,.ptr 10 58,iI ((gD v1 v10).Below),iI (max v9 ((gD v1 v10).Below))]) [] [] [bZ Tryz.prog 156 Tryz.f111 (pn 14950) 8,bZ Tryz.prog 156 Tryz.f111 (pn 14950) 9] (ay [.v 0 1,.v 0 1,.v 0 1,.v 0 1,.v 0 2,.v 0 2,.v 0 2,.v 0 2] (ag (bX 0) (ag (bX 1) bQ))) (ae 0 (HG hK hL1 h)))))
  ·exact ah 32 h8 (ae 2 (HG hK hL1 h))
 ·refine ah 27 h6 (kJ 6 7 8 (bI [0,2,4,6,7,11] [4,6,11] [] ?_));obtain⟨v13,h9,h⟩:=bind_some h;obtain⟨v14,h10,h⟩:=bind_some h;refine bP 1 (nu 49 [.agg (aV v2),iI v3,.sl (lm aI v1),iI v13,iI v14]) [] [] [bZ Tryz.prog 156 Tryz.f111 (pn 62) 5] (ay (vz 3) (ag (cD 0 1 52 (wP hK h9)) (ag (cD 0 1 53 (OW hK h10)) (ag (bX 0) bQ)))) (aC 2 3 1 (aj 1 ?_));obtain⟨v15,h11,h⟩:=bind_some h;exact aU (Dd hK h11) (ac (bO 4 5 3 2 (aj 1 (az (bv aI v1) (ac (il 2 2 1 (bI [6,7,11,12,13,56,57,58] [6,11] [] (uw 114 11 66 44 67 (ae 0 (ci (p:=pn 1018) n (KU hK n h)))))))))))
theorem Pn(hK:ao K)(m:Nat):z5 M w0 r v1 v2 v3 m (nA K n v1 v2 v3 m):=by
 induction m with
 | zero=>intro v8 v9 v10 h;cases h
 | succ m ih=>intro v8 v9 v10 h;have h:oY K n v1 v2 v3 (nA K n v1 v2 v3 m) v8 v9 v10=some r:=h;exact bB (Ve hK ih h)
theorem Ov(hK:ao K)(h:qY K n v1 v2 v3=some r):aS Tryz.prog 111 [.sl (lm aI v1),.agg (aV v2),iI v3] (fun v s=>v=.agg (List.set (aO ({ r with Kids:=[] }:ai)) 66 (.ref 114))∧look 114 s.r=some ⟨44,67,lm aY r.Kids⟩):=by
 refine bu (cat Tryz.f111 (pn 1)) Tryz.func111 Tryz.ntmps111 fun M w0=>(bc ⟨[(0,.sl (lm aI v1)),(1,.agg (aV v2)),(2,iI v3)],[],[],[]⟩ ?_);unfold qY at h;refine aC 6 7 3 (aj 1 ?_);obtain⟨v4,h1,h⟩:=bind_some h;exact aU (xM hK h1) (ac (bO 4 5 3 2 (aj 1 (az (bv aI v1) (ac (ae 1 (ci (p:=pn 58) n (Pn hK n h))))))))
end
noncomputable section
variable[GS](M:Nat→Prop)(w0:aE)(r:(List ai)×Int)(v1:List aa)(v2:aJ)(v3:Int)(v4:bF)(v5:List au)(v6:List Int)(v13 v14 v15:Int)(v16:List ai)(m1:Nat)(L1:Int→Int→Int→(List ai)→Option ((List ai)×Int))
abbrev xI:Cx:=⟨Tryz.prog,61,M,w0⟩
abbrev Cg:=bodyPost Tryz.prog Tryz.f53 (bA M w0 (fun v s=>v=.tup [.ref 57,iI r.2]∧look 57 s.r=some ⟨44,67,lm aY r.1⟩))
abbrev KK(ks:List aq)(s:AS):=VE (xI M w0) (Cg M w0 r) ks .normal s
abbrev CY(n:Nat):aq:=.c (cat Tryz.f53 (pn n))
abbrev Cr:List aq:=[.b 0,CY 63]
abbrev Uv:List aq:=kl (xI M w0) (Cg M w0 r) Cr (cat Tryz.f53 (pn 500)) m1::Cr
def Kp:AS:=⟨[(2,iI (min (max v3 0) 1048576)),(5,.ptr 5 0),(8,.ref 57),(9,iI v13),(10,.sl (lm aI v5)),(11,.ref 1023),(30,iI v14),(31,iI v15)],[(5,aV v2)],[(57,⟨44,67,lm aY v16⟩),(1023,⟨3,1,lm (ba .i64) (v6++[(v5.length:Int)])⟩)],[5,57,1023]⟩
abbrev Fu:Prop:=∀{v13:Int} {v14:Int} {v15:Int} {v16:(List ai)},L1 v13 v14 v15 v16=some r→LP (xI M w0) (Cg M w0 r) Cr (cat Tryz.f53 (pn 500)) m1 (Kp v2 v3 v5 v6 v13 v14 v15 v16)
variable{M w0 r v1 v2 v3 v4 v5 v6 v13 v14 v15 v16 m1 L1}{K:Kn}{n:Nat}
theorem Vt(hK:ao K)(hL1:Fu M w0 r v2 v3 v5 v6 m1 L1)(h:nN K n v2 v3 v5 v6 L1 v13 v14 v15 v16=some r):KK M w0 r (CY 500::Uv M w0 r m1) (Kp v2 v3 v5 v6 v13 v14 v15 v16):=by
 unfold nN at h;refine aC 6 7 3 ?_;obtain⟨h20,h⟩|⟨h20,h⟩:=ak h
 ·refine ah 32 h20 (c8 18 19 1 3 7 (bI [2,5,8,9,10,11,12,30,31] [5] [57,1023] ?_));obtain⟨h21,h⟩:=aF h;obtain⟨h22,h⟩:=aF h;obtain⟨h23,h⟩:=aF h;obtain⟨v17,h24,h⟩:=bind_some h;refine bP 1 (nu 34 [.sl (lm aI v5),.ref 1023,iI v15,.eptr 1023 1 (v15.toNat) 0,iI (gD (v6++[(v5.length:Int)]) v15),.ref 1023,iI v15,iI (ab (v15+1)),.eptr 1023 1 (((ab (v15+1))).toNat) 0,iI (gD (v6++[(v5.length:Int)]) ((ab (v15+1)))),.sl (lm aI (List.drop ((gD (v6++[(v5.length:Int)]) v15)).toNat (List.take ((gD (v6++[(v5.length:Int)]) ((ab (v15+1))))).toNat v5))),.agg (aV v2),iI (min (max v3 0) 1048576),.agg (List.set (aO ({ v17 with Kids:=[] }:ai)) 66 (.ref 47))]++nu 13 [.ptr 13 0]) [(13,List.set (aO bG) 66 (.nils))] [(47,⟨44,67,lm aY v17.Kids⟩)] [bZ Tryz.prog 61 Tryz.f53 (pn 32050) 15] (ay (vz 3) (bC (ef 1023 1 (ba .i64) (L:=(v6++[(v5.length:Int)])) h21) (bC (cO 3 0 (ba .i64) (ba .i64) (cE h21).2 ((fun _=>rfl))) (ay (vz 3) (bC (ef 1023 1 (ba .i64) (L:=(v6++[(v5.length:Int)])) h22) (bC (cO 3 0 (ba .i64) (ba .i64) (cE h22).2 ((fun _=>rfl))) (bC (gU aI v5 (gD (v6++[(v5.length:Int)]) v15) (gD (v6++[(v5.length:Int)]) ((ab (v15+1)))) 159 (.tmp 34) (some (.tmp 38)) (some (.tmp 43)) 44 (e:=165) (sz:=62) (by kernel_rfl) (by kernel_rfl) (by kernel_rfl) (by kernel_rfl) (by kernel_rfl) (by kernel_rfl) (fk) (fun k hk=>by subst hk;kernel_rfl) h23) (ay (vz 2) (ag (yR 0 1 47 (Ov hK h24) (uF (i:=66) (by kernel_rfl))) (ag (pd 0 1 44 13 (List.set (aO bG) 66 (.nils))) (ag (bX 0) bQ))))))))))) (bh 7 4 (aj 2 (vb 47 (az (fO aY ([({ v17 with Y:=v13 }:ai)]:List ai) (new:=[aO ({ v17 with Y:=v13 }:ai)]) (by simp only[List.map_cons,List.map_nil,er])) ?_))))
  obtain⟨h25,h⟩:=aF h;exact az (cv 57 57 44 67 aY (rfl) (lg) h25) (ac (ae 2 (bw (hL1 h))))
 ·refine ah 32 h20 (aL 8 ?_);cases h;exact t6
theorem Tl(hK:ao K)(m:Nat):Fu M w0 r v2 v3 v5 v6 m (nW K n v2 v3 v5 v6 m):=by
 induction m with
 | zero=>intro v13 v14 v15 v16 h;cases h
 | succ m ih=>intro v13 v14 v15 v16 h;have h:nN K n v2 v3 v5 v6 (nW K n v2 v3 v5 v6 m) v13 v14 v15 v16=some r:=h;exact bB (Vt hK ih h)
theorem Qz(hK:ao K)(h:rD K n v1 v2 v3 v4=some r):aS Tryz.prog 53 [.sl (lm aR v1),.agg (aV v2),iI v3,.agg (bW v4)] (fun v s=>v=.tup [.ref 57,iI r.2]∧look 57 s.r=some ⟨44,67,lm aY r.1⟩):=by
 refine bu (cat Tryz.f53 (pn 1)) Tryz.func53 Tryz.ntmps53 fun M w0=>(bc ⟨[(0,.sl (lm aR v1)),(1,.agg (aV v2)),(2,iI v3),(3,.agg (bW v4))],[],[],[]⟩ ?_);unfold rD at h;refine aC 14 15 5 (aj 3 ?_);obtain⟨v5,h1,h⟩:=bind_some h;refine fJ 1020 (M3 hK h1) (fL 1009) (ac (aC 2 3 1 (aj 2 (vb 1020 ?_))));obtain⟨v6,h2,h⟩:=bind_some h;refine fJ 1023 (R6 hK h2) (fL 16) (aM 4 1 (az (bv aI v5) (aM 6 1 ?_)));obtain⟨h3,h⟩:=aF h;exact az (cv 27 1023 3 1 (ba .i64) (rfl) ((fun _=>rfl)) h3) (ac (bO 4 5 3 2 (aj 1 (az (bv (ba .i64) (v6++[(v5.length:Int)])) (ac (il 2 0 1 (bI [2,5,8,9,10,11,30,31] [5] [1023] (fZ 57 8 44 67 (ae 0 (ci (p:=pn 250) n (Tl hK n h)))))))))))
end
noncomputable section
variable[GS](M:Nat→Prop)(w0:aE)(r:(List ai)×Int)(v1:List aa)(v2:aJ)(v3:Int)(v4:bF)  
variable{M w0 r v1 v2 v3 v4}{K:Kn}{n:Nat}
theorem TH(hK:ao K)(h:q8 K n v1 v2 v3 v4=some r):aS Tryz.prog 52 [.sl (lm aR v1),.agg (aV v2),iI v3,.cptr (bW v4)] (fun v s=>v=.tup [.ref 1013,iI r.2]∧look 1013 s.r=some ⟨44,67,lm aY r.1⟩):=by
 refine bu (cat Tryz.f52 (pn 1)) Tryz.func52 Tryz.ntmps52 fun M w0=>(bc ⟨[(0,.sl (lm aR v1)),(1,.agg (aV v2)),(2,iI v3),(3,.cptr (bW v4))],[],[],[]⟩ ?_);unfold q8 at h;refine aC 6 7 3 (aj 4 ?_);obtain⟨v5,h1,h⟩:=bind_some h;refine fJ 1013 (Qz hK h1) (DP (i:=0) rfl) (ac (aL 1 ?_));cases h;exact t6
end
noncomputable section
variable[GS](M:Nat→Prop)(w0:aE)(r:au×(List Int))(v1:aa)(v2:bF)(v3:List Int)  
variable{M w0 r v1 v2 v3}{K:Kn}{n:Nat}
theorem Wd(hK:ao K)(h:z7 K n v1 v2 v3=some r):gg Tryz.prog 113 [.agg (aw v1),.cptr (bW v2),.ptr 1 0] [(1,[.ref 9])] 9 ⟨3,1,lm (ba .i64) v3⟩ [9,1,1000001] (fun v s=>v=.agg (aI r.1)∧cn s.o [(1,[.ref 9])]∧look 9 s.r=some ⟨3,1,lm (ba .i64) r.2⟩):=by
 refine jr (c:=cat Tryz.f113 (pn 1)) Tryz.func113 (by kernel_rfl) _ Tryz.ntmps113 (of_decide_eq_true (by kernel_rfl)) fun M w0=>(bc ⟨[(0,.agg (aw v1)),(1,.cptr (bW v2)),(2,.ptr 1 0)],[(1,[.ref 9])],[(9,⟨3,1,lm (ba .i64) v3⟩)],[9,1,1000001]⟩ ?_);unfold z7 at h;refine aC 6 7 3 (aj 3 ?_);obtain⟨v4,h1,h⟩:=bind_some h;refine lf (hK.nP h1) (ac (aC 2 3 1 (aj 3 ?_)));obtain⟨h2,h⟩:=aF h;refine az (cv 17 9 3 1 (ba .i64) (rfl) ((fun _=>rfl)) h2) (ac (aL 3 (jc 4 ?_)));cases h;exact dT
end
noncomputable section
variable[GS](M:Nat→Prop)(w0:aE)(r:au×Int×(List Int))(v1:aa)(v2:Int)(v3:List Int)  
variable{M w0 r v1 v2 v3}{K:Kn}{n:Nat}
theorem PM(hK:ao K)(h:xH K n v1 v2 v3=some r):gg Tryz.prog 114 [.agg (aw v1),.ptr 1 0,.ptr 2 0] [(1,[iI v2]),(2,[.ref 9])] 9 ⟨3,1,lm (ba .i64) v3⟩ [9,1,2,1000001,1000002] (fun v s=>v=.agg (aI r.1)∧cn s.o [(1,[iI r.2.1]),(2,[.ref 9])]∧look 9 s.r=some ⟨3,1,lm (ba .i64) r.2.2⟩):=by
 refine jr (c:=cat Tryz.f114 (pn 1)) Tryz.func114 (by kernel_rfl) _ Tryz.ntmps114 (of_decide_eq_true (by kernel_rfl)) fun M w0=>(bc ⟨[(0,.agg (aw v1)),(1,.ptr 1 0),(2,.ptr 2 0)],[(1,[iI v2]),(2,[.ref 9])],[(9,⟨3,1,lm (ba .i64) v3⟩)],[9,1,2,1000001,1000002]⟩ ?_);unfold xH at h;refine aC 14 15 5 (aj 3 ?_);obtain⟨h1,h⟩:=aF h;refine az (cT 9 1 (ba .i64) h1) (az (cO 3 0 (ba .i64) (ba .i64) (cE h1).2 ((fun _=>rfl))) (ac (aL 1 (jc 4 ?_))));cases h;exact dT
end
noncomputable section
variable[GS](M:Nat→Prop)(w0:aE)(r:(List au)×(List Int))(v1:List aa)(v2:bF)(v3:List Int)(v4:List aD)(v33:Int)(v34:List Int)(v35:List au)(v37:Bool)(v43:Int)(v45:Bool)(v47:Int)(v48:List Int)(v49:au)(m1 m2:Nat)(L1:Int→(List Int)→(List au)→Option ((List au)×(List Int)))(L2:Int→Option ((List au)×(List Int)))
abbrev qt:Cx:=⟨Tryz.prog,120,M,w0⟩
abbrev rf:=bodyPost Tryz.prog Tryz.f112 (bA M w0 (fun v s=>v=.sl (lm aI r.1)∧cn s.o [(1,[.ref 9])]∧look 9 s.r=some ⟨3,1,lm (ba .i64) r.2⟩))
abbrev tJ(ks:List aq)(s:AS):=VE (qt M w0) (rf M w0 r) ks .normal s
abbrev dV(n:Nat):aq:=.c (cat Tryz.f112 (pn n))
abbrev Bb:List aq:=[.b 0,dV 31]
abbrev iy:List aq:=kl (qt M w0) (rf M w0 r) Bb (cat Tryz.f112 (pn 244)) m1::Bb
abbrev zu:List aq:=.b 3::dV 4009823 :: .b 2::dV 31327 :: .b 1::iy M w0 r m1
abbrev F5:List aq:=kl (qt M w0) (rf M w0 r) (zu M w0 r m1) (cat Tryz.f112 (pn 16039288)) m2::(zu M w0 r m1)
def Lf:AS:=⟨[(1,.fno 113 [.cptr (bW v2),.ptr 1 0]),(5,.sl (lm am v4)),(6,.ref 117),(8,.ptr 8 0),(9,.bool v37),(10,.ptr 10 0),(11,iI v47)],[(1,[.ref 9]),(8,am (gD v4 v33)),(10,aI v49)],[(9,⟨3,1,lm (ba .i64) v48⟩),(117,⟨165,62,lm aI v35⟩)],[1,8,10,9,117,1000001,1]⟩
def P4:AS:=⟨[(1,.fno 113 [.cptr (bW v2),.ptr 1 0]),(5,.sl (lm am v4)),(6,.ref 117),(7,iI v33),(8,.ptr 8 0),(9,.bool v37),(10,.ptr 10 0),(11,iI v43),(81,.bool v45)],[(1,[.ref 9]),(8,am (gD v4 v33)),(10,List.set (aI cy) 61 (.nils))],[(9,⟨3,1,lm (ba .i64) v34⟩),(117,⟨165,62,lm aI v35⟩)],[1,8,10,9,117,1000001,1]⟩
def CF:AS:=⟨[(1,.fno 113 [.cptr (bW v2),.ptr 1 0]),(5,.sl (lm am v4)),(6,.ref 117),(7,iI v33),(8,.ptr 8 0),(9,.bool v37),(10,.ptr 10 0),(11,iI v43)],[(1,[.ref 9]),(8,am (gD v4 v33)),(10,List.set (aI cy) 61 (.nils))],[(9,⟨3,1,lm (ba .i64) v34⟩),(117,⟨165,62,lm aI v35⟩)],[1,8,10,9,117,1000001,1]⟩
def NP:AS:=⟨[(1,.fno 113 [.cptr (bW v2),.ptr 1 0]),(5,.sl (lm am v4)),(6,.ref 117),(7,iI v33),(8,.ptr 8 0),(9,.bool v37)],[(1,[.ref 9]),(8,am (gD v4 v33))],[(9,⟨3,1,lm (ba .i64) v34⟩),(117,⟨165,62,lm aI v35⟩)],[1,8,9,117,1000001,1]⟩
def CG:AS:=⟨[(1,.fno 113 [.cptr (bW v2),.ptr 1 0]),(5,.sl (lm am v4)),(6,.ref 117),(7,iI v33)],[(1,[.ref 9])],[(9,⟨3,1,lm (ba .i64) v34⟩),(117,⟨165,62,lm aI v35⟩)],[1,9,117,1000001,1]⟩
abbrev l9:Prop:=∀{v33:Int} {v34:(List Int)} {v35:(List au)},L1 v33 v34 v35=some r→LP (qt M w0) (rf M w0 r) Bb (cat Tryz.f112 (pn 244)) m1 (CG v2 v4 v33 v34 v35)
abbrev AY:Prop:=∀{v43:Int},L2 v43=some r→LP (qt M w0) (rf M w0 r) (zu M w0 r m1) (cat Tryz.f112 (pn 16039288)) m2 (CF v2 v4 v33 v34 v35 v37 v43)
variable{M w0 r v1 v2 v3 v4 v33 v34 v35 v37 v43 v45 v47 v48 v49 m1 m2 L1 L2}{K:Kn}{n:Nat}
theorem z3(hK:ao K)(hL1:l9 M w0 r v2 v4 m1 L1)(h:rE K n v2 v4 v33 v35 v37 L1 v47 v48 v49=some r):tJ M w0 r (.b 2::dV 31327 :: .b 1::iy M w0 r m1) (Lf v2 v4 v33 v35 v37 v47 v48 v49):=by
 unfold rE at h;refine fb 2 3 2 (bI [1,5,6,8,9,10,11] [1,8,10] [9,117] (bP 3 (nu 100 [.ptr 8 4,.cptr (aw ((gD v4 v33).Box)),.cptr (aw ((gD v4 v33).Box)),.cptr (List.drop 1 (aw ((gD v4 v33).Box))),iI (((gD v4 v33).Box).Node),.ptr 8 4,.cptr (aw ((gD v4 v33).Box)),.cptr (aw ((gD v4 v33).Box)),.cptr (List.drop 2 (aw ((gD v4 v33).Box))),.agg (aV (((gD v4 v33).Box).Style)),.bool v37,.ptr 10 0,.ptr 10 2,.ptr 10 59]) [] [] [bZ Tryz.prog 120 Tryz.f112 (pn 62654) 12,bZ Tryz.prog 120 Tryz.f112 (pn 62654) 14,bZ Tryz.prog 120 Tryz.f112 (pn 62654) 16] (ay [.v 0 1,.v 0 1,.v 0 1,.v 0 1,.v 0 1,.v 0 2,.v 0 2,.v 0 2,.v 0 2,.v 0 2,.v 0 3,.v 0 1] (ag (bX 0) (ay [.v 1 1] (ag (bX 1) (ay [.v 2 1] (ag (bX 2) bQ)))))) ?_));obtain⟨v50,h94,h⟩:=cg h;obtain⟨v51,h95,h⟩:=cg h;refine bR (ks':=dV 125310::dV 125311 :: .b 1::iy M w0 r m1) 1 ⟨[(1,.fno 113 [.cptr (bW v2),.ptr 1 0]),(5,.sl (lm am v4)),(6,.ref 117),(10,.ptr 10 0),(11,iI v47)],[(1,[.ref 9]),(10,aI ({ v49 with Node:=v50,Style:=v51,Glued:=v37 }:au))],[(9,⟨3,1,lm (ba .i64) v48⟩),(117,⟨165,62,lm aI v35⟩)],[1,10,9,117,1000001,1]⟩ ?_ (by subst h95;subst h94;kernel_rfl)
 refine aj 3 ?_;obtain⟨h96,h⟩:=aF h;exact az (cv 117 117 165 62 aI (rfl) (fk) h96) (ac (ae 2 (bw (hL1 h))))
theorem u9(hK:ao K)(hL1:l9 M w0 r v2 v4 m1 L1)(hL2:AY M w0 r v2 v4 v33 v34 v35 v37 m1 m2 L2)(h:mZ K n v2 v4 v33 v34 v35 v37 v43 L1 L2 v45=some r):tJ M w0 r (dV 64157153::dV 32078577::F5 M w0 r m1 m2) (P4 v2 v4 v33 v34 v35 v37 v43 v45):=by
 unfold mZ at h;obtain⟨h91,h⟩|⟨h91,h⟩:=ak h
 ·exact ah 81 h91 (ae 5 (bw (hL2 h)))
 ·refine ah 81 h91 (bK (ks':=dV 4009823 :: .b 2::dV 31327 :: .b 1::iy M w0 r m1) 5 (aj 3 ?_));obtain⟨h92,h⟩:=aF h;refine az (gU am v4 v33 v43 206 (.tmp 84) (some (.tmp 85)) (some (.tmp 86)) 87 (e:=210) (sz:=5) (by kernel_rfl) (by kernel_rfl) (by kernel_rfl) (by kernel_rfl) (by kernel_rfl) (by kernel_rfl) (co) (fun k hk=>by subst hk;kernel_rfl) h92) ?_;obtain⟨v46,h93,h⟩:=bind_some h;exact aU (Aj hK h93) (ac (ae 0 (z3 hK hL1 h)))
theorem U1(hK:ao K)(hL1:l9 M w0 r v2 v4 m1 L1)(hL2:AY M w0 r v2 v4 v33 v34 v35 v37 m1 m2 L2)(h:uH K n v2 v4 v33 v34 v35 v37 L1 L2 v43=some r):tJ M w0 r (dV 16039288::F5 M w0 r m1 m2) (CF v2 v4 v33 v34 v35 v37 v43):=by
 unfold uH at h;refine bO 4 5 3 2 (bI [1,5,6,7,8,9,10,11] [1,8,10] [9,117] ?_);obtain⟨h83,h⟩|⟨h83,h⟩:=ak h
 ·obtain⟨h84,h⟩:=aF h;obtain⟨h85,h⟩|⟨h85,h⟩:=ak h
  ·obtain⟨h86,h⟩:=aF h;obtain⟨h87,h⟩|⟨h87,h⟩:=ak h
   ·obtain⟨h88,h⟩:=aF h;obtain⟨h89,h⟩:=aF h;obtain⟨v44,h90,h⟩:=bind_some h;exact bP 0 (nu 47 [iI v43,.sl (lm am v4),iI (v4.length:Int),.bool (decide (v43<(v4.length:Int))),.bool true,.sl (lm am v4),iI v43,.cptr (am (gD v4 v43)),.cptr (List.drop 0 (am (gD v4 v43))),iI ((gD v4 v43).Kind),.bool (((gD v4 v43).Kind) == 1),.bool (((gD v4 v43).Kind) == 1),.bool true,.sl (lm am v4),iI v43,.cptr (am (gD v4 v43)),.cptr (List.drop 1 (am (gD v4 v43))),iI ((gD v4 v43).Of),.ptr 8 1,iI ((gD v4 v33).Of),.bool (((gD v4 v43).Of) == ((gD v4 v33).Of)),.bool (((gD v4 v43).Of) == ((gD v4 v33).Of)),.bool true,.sl (lm am v4),iI v43,iI (ab (v43-1)),.cptr (am (gD v4 ((ab (v43-1))))),.agg (am (gD v4 ((ab (v43-1))))),.sl (lm am v4),iI v43,.cptr (am (gD v4 v43)),.agg (am (gD v4 v43)),.bool v44,.bool (!v44),.bool (!v44)]) [] [] [] (ay (vz 2) (bC (bv am v4) (ay [.v 0 1] (ag (ct 0 51 (e:=(decide (v43<(v4.length:Int)))) (b:=true) h83) (ay (vz 2) (bC (bi am am h84 (co) ((fun _=>rfl))) (ay (vz 4) (ag (ct 0 59 (e:=(((gD v4 v43).Kind) == 1)) (b:=true) h85) (ay (vz 2) (bC (bi am am h86 (co) ((fun _=>rfl))) (ay (vz 6) (ag (ct 0 69 (e:=(((gD v4 v43).Of) == ((gD v4 v33).Of))) (b:=true) h87) (ay (vz 3) (bC (bi am am h88 (co) ((fun _=>rfl))) (ay (vz 3) (bC (bi am am h89 (co) ((fun _=>rfl))) (ay [.v 0 1] (ag (cD 0 1 79 (po hK h90)) (ay (vz 2) bQ))))))))))))))))))) (ae 0 (u9 hK hL1 hL2 h))
   ·exact bP 0 (nu 47 [iI v43,.sl (lm am v4),iI (v4.length:Int),.bool (decide (v43<(v4.length:Int))),.bool true,.sl (lm am v4),iI v43,.cptr (am (gD v4 v43)),.cptr (List.drop 0 (am (gD v4 v43))),iI ((gD v4 v43).Kind),.bool (((gD v4 v43).Kind) == 1),.bool (((gD v4 v43).Kind) == 1),.bool true,.sl (lm am v4),iI v43,.cptr (am (gD v4 v43)),.cptr (List.drop 1 (am (gD v4 v43))),iI ((gD v4 v43).Of),.ptr 8 1,iI ((gD v4 v33).Of),.bool (((gD v4 v43).Of) == ((gD v4 v33).Of)),.bool (((gD v4 v43).Of) == ((gD v4 v33).Of)),.bool false,.tup [],.tup [],.tup [],.tup [],.tup [],.tup [],.tup [],.tup [],.tup [],.tup [],.tup [],.bool false]) [] [] [] (ay (vz 2) (bC (bv am v4) (ay [.v 0 1] (ag (ct 0 51 (e:=(decide (v43<(v4.length:Int)))) (b:=true) h83) (ay (vz 2) (bC (bi am am h84 (co) ((fun _=>rfl))) (ay (vz 4) (ag (ct 0 59 (e:=(((gD v4 v43).Kind) == 1)) (b:=true) h85) (ay (vz 2) (bC (bi am am h86 (co) ((fun _=>rfl))) (ay (vz 6) (ag (ct 0 69 (e:=(((gD v4 v43).Of) == ((gD v4 v33).Of))) (b:=false) h87) (ag (ax 0 1) (ag (ax 0 1) (ag (ax 0 1) (ag (ax 0 1) (ag (ax 0 1) (ag (ax 0 1) (ag (ax 0 1) (ag (ax 0 1) (ag (ax 0 1) (ag (ax 0 1) (ag (ax 0 1) (ay [.v 0 1] bQ)))))))))))))))))))))))) (ae 0 (u9 hK hL1 hL2 h))
  ·exact bP 0 (nu 47 [iI v43,.sl (lm am v4),iI (v4.length:Int),.bool (decide (v43<(v4.length:Int))),.bool true,.sl (lm am v4),iI v43,.cptr (am (gD v4 v43)),.cptr (List.drop 0 (am (gD v4 v43))),iI ((gD v4 v43).Kind),.bool (((gD v4 v43).Kind) == 1),.bool (((gD v4 v43).Kind) == 1),.bool false,.tup [],.tup [],.tup [],.tup [],.tup [],.tup [],.tup [],.tup [],.bool false,.bool false,.tup [],.tup [],.tup [],.tup [],.tup [],.tup [],.tup [],.tup [],.tup [],.tup [],.tup [],.bool false]) [] [] [] (ay (vz 2) (bC (bv am v4) (ay [.v 0 1] (ag (ct 0 51 (e:=(decide (v43<(v4.length:Int)))) (b:=true) h83) (ay (vz 2) (bC (bi am am h84 (co) ((fun _=>rfl))) (ay (vz 4) (ag (ct 0 59 (e:=(((gD v4 v43).Kind) == 1)) (b:=false) h85) (ag (ax 0 1) (ag (ax 0 1) (ag (ax 0 1) (ag (ax 0 1) (ag (ax 0 1) (ag (ax 0 1) (ag (ax 0 1) (ag (ax 0 1) (ay (vz 2) (ag (ax 0 1) (ag (ax 0 1) (ag (ax 0 1) (ag (ax 0 1) (ag (ax 0 1) (ag (ax 0 1) (ag (ax 0 1) (ag (ax 0 1) (ag (ax 0 1) (ag (ax 0 1) (ag (ax 0 1) (ay [.v 0 1] bQ))))))))))))))))))))))))))))) (ae 0 (u9 hK hL1 hL2 h))
 ·exact bP 0 (nu 47 [iI v43,.sl (lm am v4),iI (v4.length:Int),.bool (decide (v43<(v4.length:Int))),.bool false,.tup [],.tup [],.tup [],.tup [],.tup [],.tup [],.bool false,.bool false,.tup [],.tup [],.tup [],.tup [],.tup [],.tup [],.tup [],.tup [],.bool false,.bool false,.tup [],.tup [],.tup [],.tup [],.tup [],.tup [],.tup [],.tup [],.tup [],.tup [],.tup [],.bool false]) [] [] [] (ay (vz 2) (bC (bv am v4) (ay [.v 0 1] (ag (ct 0 51 (e:=(decide (v43<(v4.length:Int)))) (b:=false) h83) (ag (ax 0 1) (ag (ax 0 1) (ag (ax 0 1) (ag (ax 0 1) (ag (ax 0 1) (ag (ax 0 1) (ay (vz 2) (ag (ax 0 1) (ag (ax 0 1) (ag (ax 0 1) (ag (ax 0 1) (ag (ax 0 1) (ag (ax 0 1) (ag (ax 0 1) (ag (ax 0 1) (ay (vz 2) (ag (ax 0 1) (ag (ax 0 1) (ag (ax 0 1) (ag (ax 0 1) (ag (ax 0 1) (ag (ax 0 1) (ag (ax 0 1) (ag (ax 0 1) (ag (ax 0 1) (ag (ax 0 1) (ag (ax 0 1) (ay [.v 0 1] bQ)))))))))))))))))))))))))))))))) (ae 0 (u9 hK hL1 hL2 h))
theorem ND(hK:ao K)(hL1:l9 M w0 r v2 v4 m1 L1)(m:Nat):AY M w0 r v2 v4 v33 v34 v35 v37 m1 m (uG K n v2 v4 v33 v34 v35 v37 L1 m):=by
 induction m with
 | zero=>intro v43 h;cases h
 | succ m ih=>intro v43 h;have h:uH K n v2 v4 v33 v34 v35 v37 L1 (uG K n v2 v4 v33 v34 v35 v37 L1 m) v43=some r:=h;exact bB (U1 hK hL1 ih h)
theorem A7(hK:ao K)(hL1:l9 M w0 r v2 v4 m1 L1)(h:tc K n v2 v4 v33 v34 v35 L1 v37=some r):tJ M w0 r (dV 3915 :: .b 1::iy M w0 r m1) (NP v2 v4 v33 v34 v35 v37):=by
 unfold tc at h;obtain⟨v38,h69,h⟩:=cg h;refine bR (ks':=dV 250613 :: .b 2::dV 31327 :: .b 1::iy M w0 r m1) 10 ⟨[(1,.fno 113 [.cptr (bW v2),.ptr 1 0]),(5,.sl (lm am v4)),(6,.ref 117),(7,iI v33),(8,.ptr 8 0),(9,.bool v37),(10,.ptr 10 0),(11,iI (ab (v33+1))),(46,iI ((gD v4 v33).Kind)),(89,.bool v38)],[(1,[.ref 9]),(8,am (gD v4 v33)),(10,List.set (aI cy) 61 (.nils))],[(9,⟨3,1,lm (ba .i64) v34⟩),(117,⟨165,62,lm aI v35⟩)],[1,8,10,9,117,1000001,1]⟩ ?_ (by subst h69;kernel_rfl);obtain⟨h70,h⟩|⟨h70,h⟩:=ak h
 ·exact ah 89 h70 (bK (ks':=.b 2::dV 31327 :: .b 1::iy M w0 r m1) 2 (jc 10 (ae 0 (z3 hK hL1 h))))
 ·refine ah 89 h70 ?_;obtain⟨v39,h71,h⟩:=cg h;refine bR (ks':=dV 1002455 :: .b 2::dV 31327 :: .b 1::iy M w0 r m1) 3 ⟨[(1,.fno 113 [.cptr (bW v2),.ptr 1 0]),(5,.sl (lm am v4)),(6,.ref 117),(7,iI v33),(8,.ptr 8 0),(9,.bool v37),(10,.ptr 10 0),(11,iI (ab (v33+1))),(92,.bool v39)],[(1,[.ref 9]),(8,am (gD v4 v33)),(10,List.set (aI cy) 61 (.nils))],[(9,⟨3,1,lm (ba .i64) v34⟩),(117,⟨165,62,lm aI v35⟩)],[1,8,10,9,117,1000001,1]⟩ ?_ (by subst h71;kernel_rfl);obtain⟨h72,h⟩|⟨h72,h⟩:=ak h
  ·refine ah 92 h72 (bh 2 1 (aj 5 ?_));obtain⟨v40,h73,h⟩:=bind_some h;exact gu 9 9 [(1,1)] (Wd hK h73) (ac (ae 0 (z3 hK hL1 h)))
  ·exact ah 92 h72 (ae 3 (ci (p:=pn 8019644) n (ND hK hL1 n h)))
theorem U0(hK:ao K)(hL1:l9 M w0 r v2 v4 m1 L1)(h:uC K n v2 v4 L1 v33 v34 v35=some r):tJ M w0 r (dV 244::iy M w0 r m1) (CG v2 v4 v33 v34 v35):=by
 unfold uC at h;refine bO 4 5 3 2 (aj 2 (az (bv am v4) (ac ?_)));obtain⟨h62,h⟩|⟨h62,h⟩:=ak h
 ·refine ah 17 h62 (bK (ks':=dV 1956::dV 1957 :: .b 1::iy M w0 r m1) 4 (aj 2 ?_));obtain⟨h63,h⟩:=aF h;refine az (bi am am h63 (co) ((fun _=>rfl))) (ac (aC 2 3 1 (bI [1,5,6,7,8] [1,8] [9,117] ?_)));obtain⟨h64,h⟩|⟨h64,h⟩:=ak h
  ·obtain⟨h65,h⟩:=aF h;obtain⟨h66,h⟩|⟨h66,h⟩:=ak h
   ·obtain⟨h67,h⟩:=aF h;obtain⟨v36,h68,h⟩:=bind_some h;exact bP 1 (nu 22 [iI v33,.bool (decide (v33>0)),.bool true,.sl (lm am v4),iI v33,iI (ab (v33-1)),.cptr (am (gD v4 ((ab (v33-1))))),.cptr (List.drop 0 (am (gD v4 ((ab (v33-1)))))),iI ((gD v4 ((ab (v33-1)))).Kind),.bool (((gD v4 ((ab (v33-1)))).Kind) != 2),.bool (((gD v4 ((ab (v33-1)))).Kind) != 2),.bool true,.sl (lm am v4),iI v33,iI (ab (v33-1)),.cptr (am (gD v4 ((ab (v33-1))))),.agg (am (gD v4 ((ab (v33-1))))),.agg (am (gD v4 v33)),.bool v36,.bool (!v36),.bool (!v36)]) [] [] [bZ Tryz.prog 120 Tryz.f112 (pn 3914) 21] (ay (vz 2) (ag (ct 0 24 (e:=(decide (v33>0))) (b:=true) h64) (ay (vz 3) (bC (bi am am h65 (co) ((fun _=>rfl))) (ay (vz 4) (ag (ct 0 33 (e:=(((gD v4 ((ab (v33-1)))).Kind) != 2)) (b:=true) h66) (ay (vz 3) (bC (bi am am h67 (co) ((fun _=>rfl))) (ay (vz 2) (ag (cD 0 1 40 (po hK h68)) (ay (vz 2) (ag (bX 0) bQ)))))))))))) (ae 0 (A7 hK hL1 h))
   ·exact bP 1 (nu 22 [iI v33,.bool (decide (v33>0)),.bool true,.sl (lm am v4),iI v33,iI (ab (v33-1)),.cptr (am (gD v4 ((ab (v33-1))))),.cptr (List.drop 0 (am (gD v4 ((ab (v33-1)))))),iI ((gD v4 ((ab (v33-1)))).Kind),.bool (((gD v4 ((ab (v33-1)))).Kind) != 2),.bool (((gD v4 ((ab (v33-1)))).Kind) != 2),.bool false,.tup [],.tup [],.tup [],.tup [],.tup [],.tup [],.tup [],.tup [],.bool false]) [] [] [bZ Tryz.prog 120 Tryz.f112 (pn 3914) 21] (ay (vz 2) (ag (ct 0 24 (e:=(decide (v33>0))) (b:=true) h64) (ay (vz 3) (bC (bi am am h65 (co) ((fun _=>rfl))) (ay (vz 4) (ag (ct 0 33 (e:=(((gD v4 ((ab (v33-1)))).Kind) != 2)) (b:=false) h66) (ag (ax 0 1) (ag (ax 0 1) (ag (ax 0 1) (ag (ax 0 1) (ag (ax 0 1) (ag (ax 0 1) (ag (ax 0 1) (ag (ax 0 1) (ay [.v 0 1] (ag (bX 0) bQ)))))))))))))))) (ae 0 (A7 hK hL1 h))
  ·exact bP 1 (nu 22 [iI v33,.bool (decide (v33>0)),.bool false,.tup [],.tup [],.tup [],.tup [],.tup [],.tup [],.tup [],.bool false,.bool false,.tup [],.tup [],.tup [],.tup [],.tup [],.tup [],.tup [],.tup [],.bool false]) [] [] [bZ Tryz.prog 120 Tryz.f112 (pn 3914) 21] (ay (vz 2) (ag (ct 0 24 (e:=(decide (v33>0))) (b:=false) h64) (ag (ax 0 1) (ag (ax 0 1) (ag (ax 0 1) (ag (ax 0 1) (ag (ax 0 1) (ag (ax 0 1) (ag (ax 0 1) (ay (vz 2) (ag (ax 0 1) (ag (ax 0 1) (ag (ax 0 1) (ag (ax 0 1) (ag (ax 0 1) (ag (ax 0 1) (ag (ax 0 1) (ag (ax 0 1) (ay [.v 0 1] (ag (bX 0) bQ)))))))))))))))))))) (ae 0 (A7 hK hL1 h))
 ·refine ah 17 h62 (aL 8 (gf 117 ?_));cases h;exact dT
theorem RZ(hK:ao K)(m:Nat):l9 M w0 r v2 v4 m (uM K n v2 v4 m):=by
 induction m with
 | zero=>intro v33 v34 v35 h;cases h
 | succ m ih=>intro v33 v34 v35 h;have h:uC K n v2 v4 (uM K n v2 v4 m) v33 v34 v35=some r:=h;exact bB (U0 hK ih h)
theorem R2(hK:ao K)(h:AW K n v1 v2 v3=some r):gg Tryz.prog 112 [.sl (lm aR v1),.fno 113 [.cptr (bW v2),.ptr 1 0]] [(1,[.ref 9])] 9 ⟨3,1,lm (ba .i64) v3⟩ [9,1,1000001] (fun v s=>v=.sl (lm aI r.1)∧cn s.o [(1,[.ref 9])]∧look 9 s.r=some ⟨3,1,lm (ba .i64) r.2⟩):=by
 refine jr (c:=cat Tryz.f112 (pn 1)) Tryz.func112 (by kernel_rfl) _ Tryz.ntmps112 (of_decide_eq_true (by kernel_rfl)) fun M w0=>(bc ⟨[(0,.sl (lm aR v1)),(1,.fno 113 [.cptr (bW v2),.ptr 1 0])],[(1,[.ref 9])],[(9,⟨3,1,lm (ba .i64) v3⟩)],[9,1,1000001]⟩ ?_);unfold AW at h;refine aC 6 7 3 (aj 1 ?_);obtain⟨v4,h1,h⟩:=bind_some h;exact fJ 1013 (Cj hK h1) (fL 400003) (ac (gc 26 0 7 6 (bI [1,5,6,7] [1] [9,1013] (gf 1013 (fZ 117 6 165 62 (ae 0 (ci (p:=pn 122) n (RZ hK n h))))))))
end
noncomputable section
variable[GS](M:Nat→Prop)(w0:aE)(r:(List au)×Int×(List Int))(v1:List aa)(v2:Int)(v3:List Int)(v4:List aD)(v35 v36:Int)(v37:List Int)(v38:List au)(v40:Bool)(v46:Int)(v48:Bool)(v50 v51:Int)(v52:List Int)(v53:au)(m1 m2:Nat)(L1:Int→Int→(List Int)→(List au)→Option ((List au)×Int×(List Int)))(L2:Int→Option ((List au)×Int×(List Int)))
abbrev sd:Cx:=⟨Tryz.prog,120,M,w0⟩
abbrev pY:=bodyPost Tryz.prog Tryz.f112 (bA M w0 (fun v s=>v=.sl (lm aI r.1)∧cn s.o [(1,[iI r.2.1]),(2,[.ref 9])]∧look 9 s.r=some ⟨3,1,lm (ba .i64) r.2.2⟩))
abbrev qD(ks:List aq)(s:AS):=VE (sd M w0) (pY M w0 r) ks .normal s
abbrev dX(n:Nat):aq:=.c (cat Tryz.f112 (pn n))
abbrev z9:List aq:=[.b 0,dX 31]
abbrev ib:List aq:=kl (sd M w0) (pY M w0 r) z9 (cat Tryz.f112 (pn 244)) m1::z9
abbrev xr:List aq:=.b 3::dX 4009823 :: .b 2::dX 31327 :: .b 1::ib M w0 r m1
abbrev CW:List aq:=kl (sd M w0) (pY M w0 r) (xr M w0 r m1) (cat Tryz.f112 (pn 16039288)) m2::(xr M w0 r m1)
def R7:AS:=⟨[(1,.fno 114 [.ptr 1 0,.ptr 2 0]),(5,.sl (lm am v4)),(6,.ref 117),(8,.ptr 8 0),(9,.bool v40),(10,.ptr 10 0),(11,iI v50)],[(1,[iI v51]),(2,[.ref 9]),(8,am (gD v4 v35)),(10,aI v53)],[(9,⟨3,1,lm (ba .i64) v52⟩),(117,⟨165,62,lm aI v38⟩)],[1,2,8,10,9,117,1000001,1,1000002,2]⟩
def KY:AS:=⟨[(1,.fno 114 [.ptr 1 0,.ptr 2 0]),(5,.sl (lm am v4)),(6,.ref 117),(7,iI v35),(8,.ptr 8 0),(9,.bool v40),(10,.ptr 10 0),(11,iI v46),(81,.bool v48)],[(1,[iI v36]),(2,[.ref 9]),(8,am (gD v4 v35)),(10,List.set (aI cy) 61 (.nils))],[(9,⟨3,1,lm (ba .i64) v37⟩),(117,⟨165,62,lm aI v38⟩)],[1,2,8,10,9,117,1000001,1,1000002,2]⟩
def Jo:AS:=⟨[(1,.fno 114 [.ptr 1 0,.ptr 2 0]),(5,.sl (lm am v4)),(6,.ref 117),(7,iI v35),(8,.ptr 8 0),(9,.bool v40),(10,.ptr 10 0),(11,iI v46)],[(1,[iI v36]),(2,[.ref 9]),(8,am (gD v4 v35)),(10,List.set (aI cy) 61 (.nils))],[(9,⟨3,1,lm (ba .i64) v37⟩),(117,⟨165,62,lm aI v38⟩)],[1,2,8,10,9,117,1000001,1,1000002,2]⟩
def TC:AS:=⟨[(1,.fno 114 [.ptr 1 0,.ptr 2 0]),(5,.sl (lm am v4)),(6,.ref 117),(7,iI v35),(8,.ptr 8 0),(9,.bool v40)],[(1,[iI v36]),(2,[.ref 9]),(8,am (gD v4 v35))],[(9,⟨3,1,lm (ba .i64) v37⟩),(117,⟨165,62,lm aI v38⟩)],[1,2,8,9,117,1000001,1,1000002,2]⟩
def J8:AS:=⟨[(1,.fno 114 [.ptr 1 0,.ptr 2 0]),(5,.sl (lm am v4)),(6,.ref 117),(7,iI v35)],[(1,[iI v36]),(2,[.ref 9])],[(9,⟨3,1,lm (ba .i64) v37⟩),(117,⟨165,62,lm aI v38⟩)],[1,2,9,117,1000001,1,1000002,2]⟩
abbrev l7:Prop:=∀{v35:Int} {v36:Int} {v37:(List Int)} {v38:(List au)},L1 v35 v36 v37 v38=some r→LP (sd M w0) (pY M w0 r) z9 (cat Tryz.f112 (pn 244)) m1 (J8 v4 v35 v36 v37 v38)
abbrev xB:Prop:=∀{v46:Int},L2 v46=some r→LP (sd M w0) (pY M w0 r) (xr M w0 r m1) (cat Tryz.f112 (pn 16039288)) m2 (Jo v4 v35 v36 v37 v38 v40 v46)
variable{M w0 r v1 v2 v3 v4 v35 v36 v37 v38 v40 v46 v48 v50 v51 v52 v53 m1 m2 L1 L2}{K:Kn}{n:Nat}
theorem xu(hK:ao K)(hL1:l7 M w0 r v4 m1 L1)(h:qp K n v4 v35 v38 v40 L1 v50 v51 v52 v53=some r):qD M w0 r (.b 2::dX 31327 :: .b 1::ib M w0 r m1) (R7 v4 v35 v38 v40 v50 v51 v52 v53):=by
 unfold qp at h;refine fb 2 3 2 (bI [1,5,6,8,9,10,11] [1,2,8,10] [9,117] (bP 3 (nu 100 [.ptr 8 4,.cptr (aw ((gD v4 v35).Box)),.cptr (aw ((gD v4 v35).Box)),.cptr (List.drop 1 (aw ((gD v4 v35).Box))),iI (((gD v4 v35).Box).Node),.ptr 8 4,.cptr (aw ((gD v4 v35).Box)),.cptr (aw ((gD v4 v35).Box)),.cptr (List.drop 2 (aw ((gD v4 v35).Box))),.agg (aV (((gD v4 v35).Box).Style)),.bool v40,.ptr 10 0,.ptr 10 2,.ptr 10 59]) [] [] [bZ Tryz.prog 120 Tryz.f112 (pn 62654) 12,bZ Tryz.prog 120 Tryz.f112 (pn 62654) 14,bZ Tryz.prog 120 Tryz.f112 (pn 62654) 16] (ay [.v 0 1,.v 0 1,.v 0 1,.v 0 1,.v 0 1,.v 0 2,.v 0 2,.v 0 2,.v 0 2,.v 0 2,.v 0 3,.v 0 1] (ag (bX 0) (ay [.v 1 1] (ag (bX 1) (ay [.v 2 1] (ag (bX 2) bQ)))))) ?_));obtain⟨v54,h94,h⟩:=cg h;obtain⟨v55,h95,h⟩:=cg h;refine bR (ks':=dX 125310::dX 125311 :: .b 1::ib M w0 r m1) 1 ⟨[(1,.fno 114 [.ptr 1 0,.ptr 2 0]),(5,.sl (lm am v4)),(6,.ref 117),(10,.ptr 10 0),(11,iI v50)],[(1,[iI v51]),(2,[.ref 9]),(10,aI ({ v53 with Node:=v54,Style:=v55,Glued:=v40 }:au))],[(9,⟨3,1,lm (ba .i64) v52⟩),(117,⟨165,62,lm aI v38⟩)],[1,2,10,9,117,1000001,1,1000002,2]⟩ ?_ (by subst h95;subst h94;kernel_rfl)
 refine aj 3 ?_;obtain⟨h96,h⟩:=aF h;exact az (cv 117 117 165 62 aI (rfl) (fk) h96) (ac (ae 2 (bw (hL1 h))))
theorem tY(hK:ao K)(hL1:l7 M w0 r v4 m1 L1)(hL2:xB M w0 r v4 v35 v36 v37 v38 v40 m1 m2 L2)(h:nJ K n v4 v35 v36 v37 v38 v40 v46 L1 L2 v48=some r):qD M w0 r (dX 64157153::dX 32078577::CW M w0 r m1 m2) (KY v4 v35 v36 v37 v38 v40 v46 v48):=by
 unfold nJ at h;obtain⟨h91,h⟩|⟨h91,h⟩:=ak h
 ·exact ah 81 h91 (ae 5 (bw (hL2 h)))
 ·refine ah 81 h91 (bK (ks':=dX 4009823 :: .b 2::dX 31327 :: .b 1::ib M w0 r m1) 5 (aj 3 ?_));obtain⟨h92,h⟩:=aF h;refine az (gU am v4 v35 v46 206 (.tmp 84) (some (.tmp 85)) (some (.tmp 86)) 87 (e:=210) (sz:=5) (by kernel_rfl) (by kernel_rfl) (by kernel_rfl) (by kernel_rfl) (by kernel_rfl) (by kernel_rfl) (co) (fun k hk=>by subst hk;kernel_rfl) h92) ?_;obtain⟨v49,h93,h⟩:=bind_some h;exact aU (Aj hK h93) (ac (ae 0 (xu hK hL1 h)))
theorem TD(hK:ao K)(hL1:l7 M w0 r v4 m1 L1)(hL2:xB M w0 r v4 v35 v36 v37 v38 v40 m1 m2 L2)(h:uj K n v4 v35 v36 v37 v38 v40 L1 L2 v46=some r):qD M w0 r (dX 16039288::CW M w0 r m1 m2) (Jo v4 v35 v36 v37 v38 v40 v46):=by
 unfold uj at h;refine bO 4 5 3 2 (bI [1,5,6,7,8,9,10,11] [1,2,8,10] [9,117] ?_);obtain⟨h83,h⟩|⟨h83,h⟩:=ak h
 ·obtain⟨h84,h⟩:=aF h;obtain⟨h85,h⟩|⟨h85,h⟩:=ak h
  ·obtain⟨h86,h⟩:=aF h;obtain⟨h87,h⟩|⟨h87,h⟩:=ak h
   ·obtain⟨h88,h⟩:=aF h;obtain⟨h89,h⟩:=aF h;obtain⟨v47,h90,h⟩:=bind_some h;exact bP 0 (nu 47 [iI v46,.sl (lm am v4),iI (v4.length:Int),.bool (decide (v46<(v4.length:Int))),.bool true,.sl (lm am v4),iI v46,.cptr (am (gD v4 v46)),.cptr (List.drop 0 (am (gD v4 v46))),iI ((gD v4 v46).Kind),.bool (((gD v4 v46).Kind) == 1),.bool (((gD v4 v46).Kind) == 1),.bool true,.sl (lm am v4),iI v46,.cptr (am (gD v4 v46)),.cptr (List.drop 1 (am (gD v4 v46))),iI ((gD v4 v46).Of),.ptr 8 1,iI ((gD v4 v35).Of),.bool (((gD v4 v46).Of) == ((gD v4 v35).Of)),.bool (((gD v4 v46).Of) == ((gD v4 v35).Of)),.bool true,.sl (lm am v4),iI v46,iI (ab (v46-1)),.cptr (am (gD v4 ((ab (v46-1))))),.agg (am (gD v4 ((ab (v46-1))))),.sl (lm am v4),iI v46,.cptr (am (gD v4 v46)),.agg (am (gD v4 v46)),.bool v47,.bool (!v47),.bool (!v47)]) [] [] [] (ay (vz 2) (bC (bv am v4) (ay [.v 0 1] (ag (ct 0 51 (e:=(decide (v46<(v4.length:Int)))) (b:=true) h83) (ay (vz 2) (bC (bi am am h84 (co) ((fun _=>rfl))) (ay (vz 4) (ag (ct 0 59 (e:=(((gD v4 v46).Kind) == 1)) (b:=true) h85) (ay (vz 2) (bC (bi am am h86 (co) ((fun _=>rfl))) (ay (vz 6) (ag (ct 0 69 (e:=(((gD v4 v46).Of) == ((gD v4 v35).Of))) (b:=true) h87) (ay (vz 3) (bC (bi am am h88 (co) ((fun _=>rfl))) (ay (vz 3) (bC (bi am am h89 (co) ((fun _=>rfl))) (ay [.v 0 1] (ag (cD 0 1 79 (po hK h90)) (ay (vz 2) bQ))))))))))))))))))) (ae 0 (tY hK hL1 hL2 h))
   ·exact bP 0 (nu 47 [iI v46,.sl (lm am v4),iI (v4.length:Int),.bool (decide (v46<(v4.length:Int))),.bool true,.sl (lm am v4),iI v46,.cptr (am (gD v4 v46)),.cptr (List.drop 0 (am (gD v4 v46))),iI ((gD v4 v46).Kind),.bool (((gD v4 v46).Kind) == 1),.bool (((gD v4 v46).Kind) == 1),.bool true,.sl (lm am v4),iI v46,.cptr (am (gD v4 v46)),.cptr (List.drop 1 (am (gD v4 v46))),iI ((gD v4 v46).Of),.ptr 8 1,iI ((gD v4 v35).Of),.bool (((gD v4 v46).Of) == ((gD v4 v35).Of)),.bool (((gD v4 v46).Of) == ((gD v4 v35).Of)),.bool false,.tup [],.tup [],.tup [],.tup [],.tup [],.tup [],.tup [],.tup [],.tup [],.tup [],.tup [],.bool false]) [] [] [] (ay (vz 2) (bC (bv am v4) (ay [.v 0 1] (ag (ct 0 51 (e:=(decide (v46<(v4.length:Int)))) (b:=true) h83) (ay (vz 2) (bC (bi am am h84 (co) ((fun _=>rfl))) (ay (vz 4) (ag (ct 0 59 (e:=(((gD v4 v46).Kind) == 1)) (b:=true) h85) (ay (vz 2) (bC (bi am am h86 (co) ((fun _=>rfl))) (ay (vz 6) (ag (ct 0 69 (e:=(((gD v4 v46).Of) == ((gD v4 v35).Of))) (b:=false) h87) (ag (ax 0 1) (ag (ax 0 1) (ag (ax 0 1) (ag (ax 0 1) (ag (ax 0 1) (ag (ax 0 1) (ag (ax 0 1) (ag (ax 0 1) (ag (ax 0 1) (ag (ax 0 1) (ag (ax 0 1) (ay [.v 0 1] bQ)))))))))))))))))))))))) (ae 0 (tY hK hL1 hL2 h))
  ·exact bP 0 (nu 47 [iI v46,.sl (lm am v4),iI (v4.length:Int),.bool (decide (v46<(v4.length:Int))),.bool true,.sl (lm am v4),iI v46,.cptr (am (gD v4 v46)),.cptr (List.drop 0 (am (gD v4 v46))),iI ((gD v4 v46).Kind),.bool (((gD v4 v46).Kind) == 1),.bool (((gD v4 v46).Kind) == 1),.bool false,.tup [],.tup [],.tup [],.tup [],.tup [],.tup [],.tup [],.tup [],.bool false,.bool false,.tup [],.tup [],.tup [],.tup [],.tup [],.tup [],.tup [],.tup [],.tup [],.tup [],.tup [],.bool false]) [] [] [] (ay (vz 2) (bC (bv am v4) (ay [.v 0 1] (ag (ct 0 51 (e:=(decide (v46<(v4.length:Int)))) (b:=true) h83) (ay (vz 2) (bC (bi am am h84 (co) ((fun _=>rfl))) (ay (vz 4) (ag (ct 0 59 (e:=(((gD v4 v46).Kind) == 1)) (b:=false) h85) (ag (ax 0 1) (ag (ax 0 1) (ag (ax 0 1) (ag (ax 0 1) (ag (ax 0 1) (ag (ax 0 1) (ag (ax 0 1) (ag (ax 0 1) (ay (vz 2) (ag (ax 0 1) (ag (ax 0 1) (ag (ax 0 1) (ag (ax 0 1) (ag (ax 0 1) (ag (ax 0 1) (ag (ax 0 1) (ag (ax 0 1) (ag (ax 0 1) (ag (ax 0 1) (ag (ax 0 1) (ay [.v 0 1] bQ))))))))))))))))))))))))))))) (ae 0 (tY hK hL1 hL2 h))
 ·exact bP 0 (nu 47 [iI v46,.sl (lm am v4),iI (v4.length:Int),.bool (decide (v46<(v4.length:Int))),.bool false,.tup [],.tup [],.tup [],.tup [],.tup [],.tup [],.bool false,.bool false,.tup [],.tup [],.tup [],.tup [],.tup [],.tup [],.tup [],.tup [],.bool false,.bool false,.tup [],.tup [],.tup [],.tup [],.tup [],.tup [],.tup [],.tup [],.tup [],.tup [],.tup [],.bool false]) [] [] [] (ay (vz 2) (bC (bv am v4) (ay [.v 0 1] (ag (ct 0 51 (e:=(decide (v46<(v4.length:Int)))) (b:=false) h83) (ag (ax 0 1) (ag (ax 0 1) (ag (ax 0 1) (ag (ax 0 1) (ag (ax 0 1) (ag (ax 0 1) (ay (vz 2) (ag (ax 0 1) (ag (ax 0 1) (ag (ax 0 1) (ag (ax 0 1) (ag (ax 0 1) (ag (ax 0 1) (ag (ax 0 1) (ag (ax 0 1) (ay (vz 2) (ag (ax 0 1) (ag (ax 0 1) (ag (ax 0 1) (ag (ax 0 1) (ag (ax 0 1) (ag (ax 0 1) (ag (ax 0 1) (ag (ax 0 1) (ag (ax 0 1) (ag (ax 0 1) (ag (ax 0 1) (ay [.v 0 1] bQ)))))))))))))))))))))))))))))))) (ae 0 (tY hK hL1 hL2 h))
theorem Lq(hK:ao K)(hL1:l7 M w0 r v4 m1 L1)(m:Nat):xB M w0 r v4 v35 v36 v37 v38 v40 m1 m (vc K n v4 v35 v36 v37 v38 v40 L1 m):=by
 induction m with
 | zero=>intro v46 h;cases h
 | succ m ih=>intro v46 h;have h:uj K n v4 v35 v36 v37 v38 v40 L1 (vc K n v4 v35 v36 v37 v38 v40 L1 m) v46=some r:=h;exact bB (TD hK hL1 ih h)
theorem Ck(hK:ao K)(hL1:l7 M w0 r v4 m1 L1)(h:qL K n v4 v35 v36 v37 v38 L1 v40=some r):qD M w0 r (dX 3915 :: .b 1::ib M w0 r m1) (TC v4 v35 v36 v37 v38 v40):=by
 unfold qL at h;obtain⟨v41,h69,h⟩:=cg h;refine bR (ks':=dX 250613 :: .b 2::dX 31327 :: .b 1::ib M w0 r m1) 10 ⟨[(1,.fno 114 [.ptr 1 0,.ptr 2 0]),(5,.sl (lm am v4)),(6,.ref 117),(7,iI v35),(8,.ptr 8 0),(9,.bool v40),(10,.ptr 10 0),(11,iI (ab (v35+1))),(46,iI ((gD v4 v35).Kind)),(89,.bool v41)],[(1,[iI v36]),(2,[.ref 9]),(8,am (gD v4 v35)),(10,List.set (aI cy) 61 (.nils))],[(9,⟨3,1,lm (ba .i64) v37⟩),(117,⟨165,62,lm aI v38⟩)],[1,2,8,10,9,117,1000001,1,1000002,2]⟩ ?_ (by subst h69;kernel_rfl);obtain⟨h70,h⟩|⟨h70,h⟩:=ak h
 ·exact ah 89 h70 (bK (ks':=.b 2::dX 31327 :: .b 1::ib M w0 r m1) 2 (jc 10 (ae 0 (xu hK hL1 h))))
 ·refine ah 89 h70 ?_;obtain⟨v42,h71,h⟩:=cg h;refine bR (ks':=dX 1002455 :: .b 2::dX 31327 :: .b 1::ib M w0 r m1) 3 ⟨[(1,.fno 114 [.ptr 1 0,.ptr 2 0]),(5,.sl (lm am v4)),(6,.ref 117),(7,iI v35),(8,.ptr 8 0),(9,.bool v40),(10,.ptr 10 0),(11,iI (ab (v35+1))),(92,.bool v42)],[(1,[iI v36]),(2,[.ref 9]),(8,am (gD v4 v35)),(10,List.set (aI cy) 61 (.nils))],[(9,⟨3,1,lm (ba .i64) v37⟩),(117,⟨165,62,lm aI v38⟩)],[1,2,8,10,9,117,1000001,1,1000002,2]⟩ ?_ (by subst h71;kernel_rfl);obtain⟨h72,h⟩|⟨h72,h⟩:=ak h
  ·refine ah 92 h72 (bh 2 1 (aj 5 ?_));obtain⟨v43,h73,h⟩:=bind_some h;exact gu 9 9 [(1,1),(2,2)] (PM hK h73) (ac (ae 0 (xu hK hL1 h)))
  ·exact ah 92 h72 (ae 3 (ci (p:=pn 8019644) n (Lq hK hL1 n h)))
theorem Nx(hK:ao K)(hL1:l7 M w0 r v4 m1 L1)(h:w6 K n v4 L1 v35 v36 v37 v38=some r):qD M w0 r (dX 244::ib M w0 r m1) (J8 v4 v35 v36 v37 v38):=by
 unfold w6 at h;refine bO 4 5 3 2 (aj 2 (az (bv am v4) (ac ?_)));obtain⟨h62,h⟩|⟨h62,h⟩:=ak h
 ·refine ah 17 h62 (bK (ks':=dX 1956::dX 1957 :: .b 1::ib M w0 r m1) 4 (aj 2 ?_));obtain⟨h63,h⟩:=aF h;refine az (bi am am h63 (co) ((fun _=>rfl))) (ac (aC 2 3 1 (bI [1,5,6,7,8] [1,2,8] [9,117] ?_)));obtain⟨h64,h⟩|⟨h64,h⟩:=ak h
  ·obtain⟨h65,h⟩:=aF h;obtain⟨h66,h⟩|⟨h66,h⟩:=ak h
   ·obtain⟨h67,h⟩:=aF h;obtain⟨v39,h68,h⟩:=bind_some h;exact bP 1 (nu 22 [iI v35,.bool (decide (v35>0)),.bool true,.sl (lm am v4),iI v35,iI (ab (v35-1)),.cptr (am (gD v4 ((ab (v35-1))))),.cptr (List.drop 0 (am (gD v4 ((ab (v35-1)))))),iI ((gD v4 ((ab (v35-1)))).Kind),.bool (((gD v4 ((ab (v35-1)))).Kind) != 2),.bool (((gD v4 ((ab (v35-1)))).Kind) != 2),.bool true,.sl (lm am v4),iI v35,iI (ab (v35-1)),.cptr (am (gD v4 ((ab (v35-1))))),.agg (am (gD v4 ((ab (v35-1))))),.agg (am (gD v4 v35)),.bool v39,.bool (!v39),.bool (!v39)]) [] [] [bZ Tryz.prog 120 Tryz.f112 (pn 3914) 21] (ay (vz 2) (ag (ct 0 24 (e:=(decide (v35>0))) (b:=true) h64) (ay (vz 3) (bC (bi am am h65 (co) ((fun _=>rfl))) (ay (vz 4) (ag (ct 0 33 (e:=(((gD v4 ((ab (v35-1)))).Kind) != 2)) (b:=true) h66) (ay (vz 3) (bC (bi am am h67 (co) ((fun _=>rfl))) (ay (vz 2) (ag (cD 0 1 40 (po hK h68)) (ay (vz 2) (ag (bX 0) bQ)))))))))))) (ae 0 (Ck hK hL1 h))
   ·exact bP 1 (nu 22 [iI v35,.bool (decide (v35>0)),.bool true,.sl (lm am v4),iI v35,iI (ab (v35-1)),.cptr (am (gD v4 ((ab (v35-1))))),.cptr (List.drop 0 (am (gD v4 ((ab (v35-1)))))),iI ((gD v4 ((ab (v35-1)))).Kind),.bool (((gD v4 ((ab (v35-1)))).Kind) != 2),.bool (((gD v4 ((ab (v35-1)))).Kind) != 2),.bool false,.tup [],.tup [],.tup [],.tup [],.tup [],.tup [],.tup [],.tup [],.bool false]) [] [] [bZ Tryz.prog 120 Tryz.f112 (pn 3914) 21] (ay (vz 2) (ag (ct 0 24 (e:=(decide (v35>0))) (b:=true) h64) (ay (vz 3) (bC (bi am am h65 (co) ((fun _=>rfl))) (ay (vz 4) (ag (ct 0 33 (e:=(((gD v4 ((ab (v35-1)))).Kind) != 2)) (b:=false) h66) (ag (ax 0 1) (ag (ax 0 1) (ag (ax 0 1) (ag (ax 0 1) (ag (ax 0 1) (ag (ax 0 1) (ag (ax 0 1) (ag (ax 0 1) (ay [.v 0 1] (ag (bX 0) bQ)))))))))))))))) (ae 0 (Ck hK hL1 h))
  ·exact bP 1 (nu 22 [iI v35,.bool (decide (v35>0)),.bool false,.tup [],.tup [],.tup [],.tup [],.tup [],.tup [],.tup [],.bool false,.bool false,.tup [],.tup [],.tup [],.tup [],.tup [],.tup [],.tup [],.tup [],.bool false]) [] [] [bZ Tryz.prog 120 Tryz.f112 (pn 3914) 21] (ay (vz 2) (ag (ct 0 24 (e:=(decide (v35>0))) (b:=false) h64) (ag (ax 0 1) (ag (ax 0 1) (ag (ax 0 1) (ag (ax 0 1) (ag (ax 0 1) (ag (ax 0 1) (ag (ax 0 1) (ay (vz 2) (ag (ax 0 1) (ag (ax 0 1) (ag (ax 0 1) (ag (ax 0 1) (ag (ax 0 1) (ag (ax 0 1) (ag (ax 0 1) (ag (ax 0 1) (ay [.v 0 1] (ag (bX 0) bQ)))))))))))))))))))) (ae 0 (Ck hK hL1 h))
 ·refine ah 17 h62 (aL 8 (gf 117 ?_));cases h;exact dT
theorem Nv(hK:ao K)(m:Nat):l7 M w0 r v4 m (uO K n v4 m):=by
 induction m with
 | zero=>intro v35 v36 v37 v38 h;cases h
 | succ m ih=>intro v35 v36 v37 v38 h;have h:w6 K n v4 (uO K n v4 m) v35 v36 v37 v38=some r:=h;exact bB (Nx hK ih h)
theorem Si(hK:ao K)(h:xD K n v1 v2 v3=some r):gg Tryz.prog 112 [.sl (lm aR v1),.fno 114 [.ptr 1 0,.ptr 2 0]] [(1,[iI v2]),(2,[.ref 9])] 9 ⟨3,1,lm (ba .i64) v3⟩ [9,1,2,1000001,1000002] (fun v s=>v=.sl (lm aI r.1)∧cn s.o [(1,[iI r.2.1]),(2,[.ref 9])]∧look 9 s.r=some ⟨3,1,lm (ba .i64) r.2.2⟩):=by
 refine jr (c:=cat Tryz.f112 (pn 1)) Tryz.func112 (by kernel_rfl) _ Tryz.ntmps112 (of_decide_eq_true (by kernel_rfl)) fun M w0=>(bc ⟨[(0,.sl (lm aR v1)),(1,.fno 114 [.ptr 1 0,.ptr 2 0])],[(1,[iI v2]),(2,[.ref 9])],[(9,⟨3,1,lm (ba .i64) v3⟩)],[9,1,2,1000001,1000002]⟩ ?_);unfold xD at h;refine aC 6 7 3 (aj 1 ?_);obtain⟨v4,h1,h⟩:=bind_some h;exact fJ 1013 (Cj hK h1) (fL 400003) (ac (gc 26 0 7 6 (bI [1,5,6,7] [1,2] [9,1013] (gf 1013 (fZ 117 6 165 62 (ae 0 (ci (p:=pn 122) n (Nv hK n h))))))))
end
end Go.Proofs.YtocgkfoifehcbaaGreat

/- The runs of the functions that RelayoutFresh reaches do what their plain forms say, part 1. Made by a program. -/
import Derived.Test.YtocgkfoifehcbaaGreatRfGk
import Derived.Test.YtocgkfoifehcbaaGreatRfP0
namespace Go.Proofs.YtocgkfoifehcbaaGreat
open Go.RowKit
set_option maxRecDepth 20000
set_option linter.all false
set_option linter.unusedVariables false
set_option linter.unusedSimpArgs false
noncomputable section
variable[GS](M:Nat→Prop)(w0:aE)(r v1:Int)  
variable{M w0 r v1}{K:Kn}{n:Nat}
theorem IH(hK:ao K)(h:qa K n v1=some r):aU Tryz.prog 153 [iI v1] (fun v _=>v=iI r):=by
 refine bv (cat Tryz.f153 (pn 1)) Tryz.func153 Tryz.ntmps153 fun M w0=>(bd ⟨[(0,iI v1)],[],[],[]⟩ ?_);unfold qa at h;refine aC 6 7 3 (aj 1 ?_);obtain⟨v2,h1,h⟩:=bind_some h;refine aS (tT hK h1) (aM 3 1 ?_);obtain⟨v3,h2,h⟩:=bind_some h;refine aS (tT hK h2) (ac (aL 1 ?_));cases h;exact bj
end
noncomputable section
variable[GS](M:Nat→Prop)(w0:aE)(r:Int×Int)(v1:aJ)  
variable{M w0 r v1}{K:Kn}{n:Nat}
theorem Bc(hK:ao K)(h:jY K n v1=some r):aU Tryz.prog 148 [.agg (aV v1)] (fun v _=>v=.tup [iI r.1,iI r.2]):=by
 refine bv (cat Tryz.f148 (pn 1)) Tryz.func148 Tryz.ntmps148 fun M w0=>(bd ⟨[(0,.agg (aV v1))],[],[],[]⟩ ?_);unfold jY at h;refine aC 14 15 5 (bJ [1,4] [1] [] ?_);obtain⟨v2,h1,h⟩:=bind_some h;obtain⟨v3,h2,h⟩:=bind_some h;refine bQ 1 (nu 8 [.ptr 1 37,iI v1.FontSize,iI v2,iI (max v1.LineHeight 0),.ptr 1 37,iI v1.FontSize,iI v3,iI (ab ((max v1.LineHeight 0)-v3)),iI ((ab ((max v1.LineHeight 0)-v3)) / 2),iI (ab (v2+((ab ((max v1.LineHeight 0)-v3)) / 2)))]) [] [] [bZ Tryz.prog 22 Tryz.f148 (pn 14) 10] (ay (vz 2) (ag (cD 0 1 10 (CT hK h1)) (ay (vz 3) (ag (cD 0 1 14 (IH hK h2)) (ay (vz 3) (ag (bX 0) bP)))))) (aL 3 ?_);cases h;exact gn
end
noncomputable section
variable[GS](M:Nat→Prop)(w0:aE)(r:List Int)(v1:Int)(v2:List Int)(v3 v4:Bool)  
abbrev Ia(n:Nat):aq:=.c (cat Tryz.f194 (pn n))
abbrev Ps:Cx:=⟨Tryz.prog,78,M,w0⟩
abbrev VB:=bodyPost Tryz.prog Tryz.f194 (bA M w0 (fun v s=>v=.ref 9∧cj s.o []∧look 9 s.r=some ⟨5,1,lm (ba .u8) r⟩))
abbrev I8(ks:List aq)(s:AS):=VE (Ps M w0) (VB M w0 r) ks .normal s
def Tx:AS:=⟨[(0,.ref 9),(1,.int .i32 v1),(50,.bool v4)],[],[(9,⟨5,1,lm (ba .u8) v2⟩)],[9]⟩
def RG:AS:=⟨[(0,.ref 9),(1,.int .i32 v1),(5,.int .u32 (IntKind.wrap .u32 v1)),(25,.bool v3)],[],[(9,⟨5,1,lm (ba .u8) v2⟩)],[9]⟩
variable{M w0 r v1 v2 v3 v4}{K:Kn}{n:Nat}
theorem Ju(hK:ao K)(h:s6 K n v1 v2 v4=some r):I8 M w0 r [Ia 479,.b 0] (Tx v1 v2 v4):=by
 unfold s6 at h;obtain⟨h8,h⟩|⟨h8,h⟩:=ak h
 ·refine ah 50 h8 (aC 4 5 2 (aj 20 ?_));obtain⟨h9,h⟩:=aF h;refine az (cy 77 9 5 1 (ba .u8) (rfl) ((fun _=>rfl)) h9) (ac (aL 2 ?_));cases h;exact dL
 ·refine ah 50 h8 (aC 6 7 2 (aj 2 ?_));obtain⟨h10,h⟩:=aF h;refine az (cy 10 9 5 1 (ba .u8) (rfl) ((fun _=>rfl)) h10) (ac (aL 2 ?_));cases h;exact dL
theorem y7(hK:ao K)(h:kT K n v1 v2 v3=some r):I8 M w0 r [Ia 119,.b 0] (RG v1 v2 v3):=by
 unfold kT at h;obtain⟨h5,h⟩|⟨h5,h⟩:=ak h
 ·refine ah 25 h5 (aC 4 5 2 (aj 15 ?_));obtain⟨h6,h⟩:=aF h;refine az (cy 49 9 5 1 (ba .u8) (rfl) ((fun _=>rfl)) h6) (ac (aL 2 ?_));cases h;exact dL
 ·refine ah 25 h5 (aC 6 7 2 (aj 3 ?_));obtain⟨h7,h⟩|⟨h7,h⟩:=ak h
  ·exact aB 53 h7 (ac (ae 0 (Ju hK h)))
  ·exact aB 53 h7 (ac (ae 0 (Ju hK h)))
theorem Ly(hK:ao K)(h:pj K n v1 v2=some r):f8 Tryz.prog 194 [.ref 9,.int .i32 v1] [] 9 ⟨5,1,lm (ba .u8) v2⟩ [9] (fun v s=>v=.ref 9∧cj s.o []∧look 9 s.r=some ⟨5,1,lm (ba .u8) r⟩):=by
 refine jO (c:=cat Tryz.f194 (pn 1)) Tryz.func194 (by kernel_rfl) _ Tryz.ntmps194 (of_decide_eq_true (by kernel_rfl)) fun M w0=>(bd ⟨[(0,.ref 9),(1,.int .i32 v1)],[],[(9,⟨5,1,lm (ba .u8) v2⟩)],[9]⟩ ?_);unfold pj at h;refine iK 29 0 7 ?_;obtain⟨h1,h⟩|⟨h1,h⟩:=ak h
 ·refine ah 11 h1 (aC 4 5 2 (aj 10 ?_));obtain⟨h2,h⟩:=aF h;refine az (cy 24 9 5 1 (ba .u8) (rfl) ((fun _=>rfl)) h2) (ac (aL 2 ?_));cases h;exact dL
 ·refine ah 11 h1 (aC 13 7 4 ?_);obtain⟨h3,h⟩|⟨h3,h⟩:=ak h
  ·exact ah 25 h3 (ae 2 (y7 hK h))
  ·refine ah 25 h3 (bh 3 1 (aj 3 ?_));obtain⟨h4,h⟩|⟨h4,h⟩:=ak h
   ·exact aB 30 h4 (ac (ae 0 (y7 hK h)))
   ·exact aB 30 h4 (ac (ae 0 (y7 hK h)))
end
noncomputable section
variable[GS](M:Nat→Prop)(w0:aE)(r:List Int)(v1:Int)(v2:List Int)  
variable{M w0 r v1 v2}{K:Kn}{n:Nat}
theorem F7(hK:ao K)(h:oL K n v1 v2=some r):f8 Tryz.prog 187 [.ref 9,.int .i32 v1] [] 9 ⟨5,1,lm (ba .u8) v2⟩ [9] (fun v s=>v=.ref 9∧cj s.o []∧look 9 s.r=some ⟨5,1,lm (ba .u8) r⟩):=by
 refine jO (c:=cat Tryz.f187 (pn 1)) Tryz.func187 (by kernel_rfl) _ Tryz.ntmps187 (of_decide_eq_true (by kernel_rfl)) fun M w0=>(bd ⟨[(0,.ref 9),(1,.int .i32 v1)],[],[(9,⟨5,1,lm (ba .u8) v2⟩)],[9]⟩ ?_);unfold oL at h;refine aC 13 7 5 ?_;obtain⟨h1,h⟩|⟨h1,h⟩:=ak h
 ·refine ah 7 h1 (aC 4 5 2 (aj 4 ?_));obtain⟨h2,h⟩:=aF h;refine az (cy 12 9 5 1 (ba .u8) (rfl) ((fun _=>rfl)) h2) (ac (aL 2 ?_));cases h;exact dL
 ·refine ah 7 h1 (eV 2 3 3 (aj 2 ?_));obtain⟨v3,h3,h⟩:=bind_some h;refine gE 9 9 [] (Ly hK h3) (ac (aL 1 ?_));cases h;exact dL
end
noncomputable section
variable[GS](M:Nat→Prop)(w0:aE)(r:Int×Unit×(List Int))(v1:Int)(v2:Bool)(v3:List Int)  
variable{M w0 r v1 v2 v3}{K:Kn}{n:Nat}
theorem Fs(hK:ao K)(h:mf K n v1 v2 v3=some r):f8 Tryz.prog 179 [.ptr 450119 0,.int .i32 v1] [(450119,[(rF v2 450119),.ref 9])] 9 ⟨5,1,lm (ba .u8) v3⟩ [9,450119,1450119] (fun v s=>v=.tup [iI r.1,.vv .nilIface]∧cj s.o [(450119,[.ptr 450119 0,.ref 9])]∧look 9 s.r=some ⟨5,1,lm (ba .u8) r.2.2⟩):=by
 refine jO (c:=cat Tryz.f179 (pn 1)) Tryz.func179 (by kernel_rfl) _ Tryz.ntmps179 (of_decide_eq_true (by kernel_rfl)) fun M w0=>(bd ⟨[(0,.ptr 450119 0),(1,.int .i32 v1)],[(450119,[(rF v2 450119),.ref 9])],[(9,⟨5,1,lm (ba .u8) v3⟩)],[9,450119,1450119]⟩ ?_);unfold mf at h;refine aC 6 7 3 (aj 1 ?_);rcases ak h with⟨h1,gh1⟩|⟨h1,gh1⟩
 ·subst h1;have h:=gh1;refine H5 450119 (b:=true) (c1:=.ref 9) (ac (aC 2 3 1 (aj 4 (az (bu (ba .u8) v3) (ac (aC 2 3 1 (aj 6 ?_)))))));obtain⟨v4,h2,h⟩:=bind_some h;refine gE 9 9 [] (F7 hK h2) (ac (aC 2 3 1 (aj 4 (az (bu (ba .u8) v4) (ac (aL 1 ?_))))));cases h;exact lC
 ·subst h1;have h:=gh1;refine H5 450119 (b:=false) (c1:=.ref 9) (ac (aC 2 3 1 (aj 4 (az (bu (ba .u8) v3) (ac (aC 2 3 1 (aj 6 ?_)))))));obtain⟨v5,h3,h⟩:=bind_some h;refine gE 9 9 [] (F7 hK h3) (ac (aC 2 3 1 (aj 4 (az (bu (ba .u8) v5) (ac (aL 1 ?_))))));cases h;exact lC
end
noncomputable section
variable[GS](M:Nat→Prop)(w0:aE)(r:Int)(v1 v2:Int)  
variable{M w0 r v1 v2}{K:Kn}{n:Nat}
theorem yt(hK:ao K)(h:j7 K n v1 v2=some r):aU Tryz.prog 180 [.int .i32 v1,iI v2] (fun v _=>v=iI r):=by
 refine bv (cat Tryz.f180 (pn 1)) Tryz.func180 Tryz.ntmps180 fun M w0=>(bd ⟨[(0,.int .i32 v1),(1,iI v2)],[],[],[]⟩ ?_);unfold j7 at h;refine aC 6 7 3 (aj 1 ?_);obtain⟨v3,h1,h⟩:=bind_some h;refine aS (IM hK h1) (aM 3 1 ?_);obtain⟨v4,h2,h⟩:=bind_some h;refine aS (tT hK h2) (ac (aL 1 ?_));cases h;exact bj
end
noncomputable section
variable[GS](M:Nat→Prop)(w0:aE)(r:Int)(v1:ByteArray)(v2:Int)(v3:Nat)(v5:Int)(v6 m1:Nat)(L1:Int→Nat→Option Int)
abbrev BE:Cx:=⟨Tryz.prog,19,M,w0⟩
abbrev Cp:=bodyPost Tryz.prog Tryz.f181 (bA M w0 (fun v _=>v=iI r))
abbrev QV(ks:List aq)(s:AS):=VE (BE M w0) (Cp M w0 r) ks .normal s
abbrev GE(n:Nat):aq:=.c (cat Tryz.f181 (pn n))
abbrev yZ:List aq:=[.b 0,GE 15]
abbrev Me:List aq:=kl (BE M w0) (Cp M w0 r) yZ (cat Tryz.f181 (pn 116)) m1::yZ
def Gv:AS:=⟨[(1,iI v2),(5,iI v5),(9,.sit 320009 v3 v1 v6)],[],[],[320009]⟩
abbrev FU:Prop:=∀{v5:Int} {v6:Nat},L1 v5 v6=some r→LP (BE M w0) (Cp M w0 r) yZ (cat Tryz.f181 (pn 116)) m1 (Gv v1 v2 v3 v5 v6)
variable{M w0 r v1 v2 v3 v5 v6 m1 L1}{K:Kn}{n:Nat}
theorem PE(hK:ao K)(hv3:w0.w.heap.size≤v3)(hL1:FU M w0 r v1 v2 v3 m1 L1)(h:nO K n v1 v2 L1 v5 v6=some r):QV M w0 r (GE 116::Me M w0 r m1) (Gv v1 v2 v3 v5 v6):=by
 unfold nO at h;refine aC 2 3 1 (aj 0 ?_);obtain⟨h3,h⟩|⟨h3,h⟩:=ak h
 ·refine ye 9 (id:=320009) (g:=v3) h3 hv3 (ac (iK 13 1 6 (aj 3 ?_)));obtain⟨v7,h4,h⟩:=bind_some h;exact aS (yt hK h4) (ac (ae 1 (bz (hL1 h))))
 ·refine Bi 9 (id:=320009) (g:=v3) h3 (ac (aL 9 ?_));cases h;exact bj
theorem Lj(hK:ao K)(hv3:w0.w.heap.size≤v3)(m:Nat):FU M w0 r v1 v2 v3 m (n7 K n v1 v2 m):=by
 induction m with
 | zero=>intro v5 v6 h;cases h
 | succ m ih=>intro v5 v6 h;have h:nO K n v1 v2 (n7 K n v1 v2 m) v5 v6=some r:=h;exact bB (PE hK hv3 ih h)
theorem IE(hK:ao K)(h:mT K n v1 v2=some r):aU Tryz.prog 181 [.str v1,iI v2] (fun v _=>v=iI r):=by
 refine bv (cat Tryz.f181 (pn 1)) Tryz.func181 Tryz.ntmps181 fun M w0=>(bd ⟨[(0,.str v1),(1,iI v2)],[],[],[]⟩ ?_);unfold mT at h;exact bN 28 29 15 6 (aj 1 (Ar 320009 (b:=v1) fun v3 hv3=>(ac (ae 1 (cg (p:=pn 58) n (Lj hK (v3:=v3) hv3 n h))))))
end
noncomputable section
variable[GS](M:Nat→Prop)(w0:aE)(r:au)(v1:List aD)(v4:Int)(v5:Bool)(v6:List Int)(v9:Bool)(v10:aJ)(v14:ByteArray)(v15:Int)(v18:aJ)(v22:ByteArray)(v23:Int)(m1:Nat)(L1:Int→Bool→(List Int)→Option au)
abbrev y6:Cx:=⟨Tryz.prog,59,M,w0⟩
abbrev AJ:=bodyPost Tryz.prog Tryz.f156 (bA M w0 (fun v _=>v=.agg (aI r)))
abbrev vC(ks:List aq)(s:AS):=VE (y6 M w0) (AJ M w0 r) ks .normal s
abbrev eK(n:Nat):aq:=.c (cat Tryz.f156 (pn n))
abbrev BU:List aq:=[.b 0,eK 15]
abbrev Tz:List aq:=kl (y6 M w0) (AJ M w0 r) BU (cat Tryz.f156 (pn 116)) m1::BU
def Pc:AS:=⟨[(2,.ptr 2 0),(6,.ptr 6 0),(7,.ptr 7 0),(8,.str v14)],[(2,List.set (aI cv) 61 (.nils)),(6,aV v10),(7,List.set (aI ({ cv with Text:=(bytesOf v6),Space:=v15 }:au)) 61 (.nils))],[],[2,6,7]⟩
def Ng:AS:=⟨[(2,.ptr 2 0),(6,.ptr 6 0),(7,.ptr 7 0),(8,.str v22)],[(2,List.set (aI cv) 61 (.nils)),(6,aV v18),(7,List.set (aI ({ cv with Text:=(bytesOf v6),Space:=v23 }:au)) 61 (.nils))],[],[2,6,7]⟩
def Tk:AS:=⟨[(0,.sl (lm am v1)),(2,.ptr 2 0),(3,.ptr 451119 0)],[(2,List.set (aI cv) 61 (.nils)),(451119,[(rF v9 451119),.ref 401119])],[(401119,⟨5,1,lm (ba .u8) v6⟩)],[2,451119,401119]⟩
def Iy:AS:=⟨[(0,.sl (lm am v1)),(2,.ptr 2 0),(3,.ptr 451119 0),(9,.sl (lm am v1)),(10,iI (v1.length:Int)),(11,iI v4)],[(2,List.set (aI cv) 61 (.nils)),(451119,[(rF v5 451119),.ref 401119])],[(401119,⟨5,1,lm (ba .u8) v6⟩)],[2,451119,401119]⟩
abbrev HV:Prop:=∀{v4:Int} {v5:Bool} {v6:(List Int)},L1 v4 v5 v6=some r→LP (y6 M w0) (AJ M w0 r) BU (cat Tryz.f156 (pn 116)) m1 (Iy v1 v4 v5 v6)
variable{M w0 r v1 v4 v5 v6 v9 v10 v14 v15 v18 v22 v23 m1 L1}{K:Kn}{n:Nat}
theorem JU(hK:ao K)(h:rm K n v6 v10 v14 v15=some r):vC M w0 r [eK 255] (Pc v6 v10 v14 v15):=by
 unfold rm at h;refine aC 2 3 1 (aj 3 ?_);obtain⟨v16,h24,h⟩:=bind_some h;refine aS (IE hK h24) (ac (aC 2 3 1 (aj 1 ?_)));obtain⟨v17,h25,h⟩:=bind_some h;refine aS (Bc hK h25) (ac (aL 3 (jF 2 ?_)));cases h;exact bj
theorem CY(hK:ao K)(h:sP K n v6 v18 v22 v23=some r):vC M w0 r [eK 255] (Ng v6 v18 v22 v23):=by
 unfold sP at h;refine aC 2 3 1 (aj 3 ?_);obtain⟨v24,h35,h⟩:=bind_some h;refine aS (IE hK h35) (ac (aC 2 3 1 (aj 1 ?_)));obtain⟨v25,h36,h⟩:=bind_some h;refine aS (Bc hK h36) (ac (aL 3 (jF 2 ?_)));cases h;exact bj
theorem JK(hK:ao K)(h:ob K n v1 v6 v9=some r):vC M w0 r [eK 15] (Tk v1 v6 v9):=by
 unfold ob at h;rcases ak h with⟨h14,gh14⟩|⟨h14,gh14⟩
 ·subst h14;have h:=gh14;refine aC 2 3 1 (aj 1 ?_);obtain⟨h15,h⟩:=aF h;refine az (bi am am h15 (cn) ((fun _=>rfl))) (ac ?_);obtain⟨v10,h16,h⟩:=ci h;refine bR (ks':=[eK 62,eK 63]) 1 ⟨[(0,.sl (lm am v1)),(2,.ptr 2 0),(3,.ptr 451119 0),(6,.ptr 6 0)],[(2,List.set (aI cv) 61 (.nils)),(6,aV v10),(451119,[.ptr 451119 0,.ref 401119])],[(401119,⟨5,1,lm (ba .u8) v6⟩)],[2,6,451119,401119]⟩ ?_ (by subst h16;kernel_rfl);refine aj 0 ?_;obtain⟨h17,h⟩:=aF h;refine DT 451119 401119 (L:=v6) h17 (ac (bN 12 13 7 4 (aj 2 (az (bu am v1) (aM 4 1 ?_)))));obtain⟨h18,h⟩:=aF h;refine az (bi am am h18 (cn) ((fun _=>rfl))) (ac ?_);obtain⟨v11,h19,h⟩:=ci h;refine bR (ks':=[eK 509,eK 255]) 0 ⟨[(2,.ptr 2 0),(6,.ptr 6 0),(7,.ptr 7 0),(8,.str (bytesOf v6)),(36,.bool v11)],[(2,List.set (aI cv) 61 (.nils)),(6,aV v10),(7,List.set (aI ({ cv with Text:=(bytesOf v6) }:au)) 61 (.nils))],[],[2,6,7]⟩ ?_ (by subst h19;kernel_rfl)
  obtain⟨h20,h⟩|⟨h20,h⟩:=ak h
  ·refine ah 36 h20 (aC 4 5 2 (aj 4 ?_));obtain⟨h21,h⟩:=aF h;refine az (vc h21) (ac ?_);obtain⟨v12,h22,h⟩:=ci h;refine bR (ks':=[eK 2037,eK 255]) 0 ⟨[(2,.ptr 2 0),(6,.ptr 6 0),(7,.ptr 7 0),(8,.str v12)],[(2,List.set (aI cv) 61 (.nils)),(6,aV v10),(7,List.set (aI ({ cv with Text:=(bytesOf v6) }:au)) 61 (.nils))],[],[2,6,7]⟩ ?_ (by subst h22;kernel_rfl);refine aj 2 ?_;obtain⟨v13,h23,h⟩:=bind_some h;exact aS (yt hK h23) (ac (ae 0 (JU hK h)))
  ·exact ah 36 h20 (ae 2 (JU hK h))
 ·subst h14;have h:=gh14;refine aC 2 3 1 (aj 1 ?_);obtain⟨h26,h⟩:=aF h;refine az (bi am am h26 (cn) ((fun _=>rfl))) (ac ?_);obtain⟨v18,h27,h⟩:=ci h;refine bR (ks':=[eK 62,eK 63]) 1 ⟨[(0,.sl (lm am v1)),(2,.ptr 2 0),(3,.ptr 451119 0),(6,.ptr 6 0)],[(2,List.set (aI cv) 61 (.nils)),(6,aV v18),(451119,[.nilp,.ref 401119])],[(401119,⟨5,1,lm (ba .u8) v6⟩)],[2,6,451119,401119]⟩ ?_ (by subst h27;kernel_rfl);refine aj 0 ?_;obtain⟨h28,h⟩:=aF h;refine DT 451119 401119 (L:=v6) h28 (ac (bN 12 13 7 4 (aj 2 (az (bu am v1) (aM 4 1 ?_)))));obtain⟨h29,h⟩:=aF h;refine az (bi am am h29 (cn) ((fun _=>rfl))) (ac ?_);obtain⟨v19,h30,h⟩:=ci h;refine bR (ks':=[eK 509,eK 255]) 0 ⟨[(2,.ptr 2 0),(6,.ptr 6 0),(7,.ptr 7 0),(8,.str (bytesOf v6)),(36,.bool v19)],[(2,List.set (aI cv) 61 (.nils)),(6,aV v18),(7,List.set (aI ({ cv with Text:=(bytesOf v6) }:au)) 61 (.nils))],[],[2,6,7]⟩ ?_ (by subst h30;kernel_rfl);obtain⟨h31,h⟩|⟨h31,h⟩:=ak h
  ·refine ah 36 h31 (aC 4 5 2 (aj 4 ?_));obtain⟨h32,h⟩:=aF h;refine az (vc h32) (ac ?_);obtain⟨v20,h33,h⟩:=ci h;refine bR (ks':=[eK 2037,eK 255]) 0 ⟨[(2,.ptr 2 0),(6,.ptr 6 0),(7,.ptr 7 0),(8,.str v20)],[(2,List.set (aI cv) 61 (.nils)),(6,aV v18),(7,List.set (aI ({ cv with Text:=(bytesOf v6) }:au)) 61 (.nils))],[],[2,6,7]⟩ ?_ (by subst h33;kernel_rfl);refine aj 2 ?_;obtain⟨v21,h34,h⟩:=bind_some h;exact aS (yt hK h34) (ac (ae 0 (CY hK h)))
  ·exact ah 36 h31 (ae 2 (CY hK h))
theorem Mh(hK:ao K)(hL1:HV M w0 r v1 m1 L1)(h:pN K n v1 L1 v4 v5 v6=some r):vC M w0 r (eK 116::Tz M w0 r m1) (Iy v1 v4 v5 v6):=by
 unfold pN at h;rcases ak h with⟨h7,gh7⟩|⟨h7,gh7⟩
 ·subst h7;have h:=gh7;refine aC 6 7 3 ?_;obtain⟨h8,h⟩|⟨h8,h⟩:=ak h
  ·refine ah 12 h8 (c8 8 9 1 3 5 (aj 0 ?_));obtain⟨h9,h⟩:=aF h;refine az (bi am am h9 (cn) ((fun _=>rfl))) (ac (aj 2 ?_));obtain⟨v7,h10,h⟩:=bind_some h;exact gE 401119 9 [(451119,450119)] (Fs hK h10) (ac (ae 2 (bz (hL1 h))))
  ·exact ah 12 h8 (ae 5 (JK hK h))
 ·subst h7;have h:=gh7;refine aC 6 7 3 ?_;obtain⟨h11,h⟩|⟨h11,h⟩:=ak h
  ·refine ah 12 h11 (c8 8 9 1 3 5 (aj 0 ?_));obtain⟨h12,h⟩:=aF h;refine az (bi am am h12 (cn) ((fun _=>rfl))) (ac (aj 2 ?_));obtain⟨v8,h13,h⟩:=bind_some h;exact gE 401119 9 [(451119,450119)] (Fs hK h13) (ac (ae 2 (bz (hL1 h))))
  ·exact ah 12 h11 (ae 5 (JK hK h))
theorem Tb(hK:ao K)(m:Nat):HV M w0 r v1 m (mg K n v1 m):=by
 induction m with
 | zero=>intro v4 v5 v6 h;cases h
 | succ m ih=>intro v4 v5 v6 h;have h:pN K n v1 (mg K n v1 m) v4 v5 v6=some r:=h;exact bB (Mh hK ih h)
theorem AO(hK:ao K)(h:mH K n v1=some r):aU Tryz.prog 156 [.sl (lm am v1)] (fun v _=>v=.agg (aI r)):=by
 refine bv (cat Tryz.f156 (pn 1)) Tryz.func156 Tryz.ntmps156 fun M w0=>(bd ⟨[(0,.sl (lm am v1))],[],[],[]⟩ ?_);unfold mH at h;exact aC 6 7 3 (aj 0 (Ll 451119 (T:=119) (d:=3) (cs:=[.nilp,.nils]) (ac (bN 4 5 3 2 (aj 1 (az (bu am v1) (ac (iK 2 0 1 (bJ [0,2,3,9,10,11] [2,451119] [] (ud 401119 451119 1 5 1 (ae 0 (cg (p:=pn 58) n (Tb hK n h)))))))))))))
end
noncomputable section
variable[GS](M:Nat→Prop)(w0:aE)(r:List au)(v1:List aa)(v2:Fv)(v3:List aD)(v30:Int)(v31:List au)(v33:Bool)(v39:Int)(v41:Bool)(v43:Int)(v44:au)(m1 m2:Nat)(L1:Int→(List au)→Option (List au))(L2:Int→Option (List au))
abbrev rR:Cx:=⟨Tryz.prog,120,M,w0⟩
abbrev rj:=bodyPost Tryz.prog Tryz.f112 (bA M w0 (fun v s=>v=.ref 117∧look 117 s.r=some ⟨165,62,lm aI r⟩))
abbrev qQ(ks:List aq)(s:AS):=VE (rR M w0) (rj M w0 r) ks .normal s
abbrev dW(n:Nat):aq:=.c (cat Tryz.f112 (pn n))
abbrev Bd:List aq:=[.b 0,dW 31]
abbrev iT:List aq:=kl (rR M w0) (rj M w0 r) Bd (cat Tryz.f112 (pn 244)) m1::Bd
abbrev B8:List aq:=.b 3::dW 4009823 :: .b 2::dW 31327 :: .b 1::iT M w0 r m1
abbrev Dw:List aq:=kl (rR M w0) (rj M w0 r) (B8 M w0 r m1) (cat Tryz.f112 (pn 16039288)) m2::(B8 M w0 r m1)
def Vj:AS:=⟨[(1,.fn v2.id v2.aP),(5,.sl (lm am v3)),(6,.ref 117),(8,.ptr 8 0),(9,.bool v33),(10,.ptr 10 0),(11,iI v43)],[(8,am (gD v3 v30)),(10,aI v44)],[(117,⟨165,62,lm aI v31⟩)],[8,10,117]⟩
def RW:AS:=⟨[(1,.fn v2.id v2.aP),(5,.sl (lm am v3)),(6,.ref 117),(7,iI v30),(8,.ptr 8 0),(9,.bool v33),(10,.ptr 10 0),(11,iI v39),(81,.bool v41)],[(8,am (gD v3 v30)),(10,List.set (aI cv) 61 (.nils))],[(117,⟨165,62,lm aI v31⟩)],[8,10,117]⟩
def GQ:AS:=⟨[(1,.fn v2.id v2.aP),(5,.sl (lm am v3)),(6,.ref 117),(7,iI v30),(8,.ptr 8 0),(9,.bool v33),(10,.ptr 10 0),(11,iI v39)],[(8,am (gD v3 v30)),(10,List.set (aI cv) 61 (.nils))],[(117,⟨165,62,lm aI v31⟩)],[8,10,117]⟩
def PU:AS:=⟨[(1,.fn v2.id v2.aP),(5,.sl (lm am v3)),(6,.ref 117),(7,iI v30),(8,.ptr 8 0),(9,.bool v33)],[(8,am (gD v3 v30))],[(117,⟨165,62,lm aI v31⟩)],[8,117]⟩
def Kb:AS:=⟨[(1,.fn v2.id v2.aP),(5,.sl (lm am v3)),(6,.ref 117),(7,iI v30)],[],[(117,⟨165,62,lm aI v31⟩)],[117]⟩
abbrev lx:Prop:=∀{v30:Int} {v31:(List au)},L1 v30 v31=some r→LP (rR M w0) (rj M w0 r) Bd (cat Tryz.f112 (pn 244)) m1 (Kb v2 v3 v30 v31)
abbrev Be:Prop:=∀{v39:Int},L2 v39=some r→LP (rR M w0) (rj M w0 r) (B8 M w0 r m1) (cat Tryz.f112 (pn 16039288)) m2 (GQ v2 v3 v30 v31 v33 v39)
variable{M w0 r v1 v2 v3 v30 v31 v33 v39 v41 v43 v44 m1 m2 L1 L2}{K:Kn}{n:Nat}
theorem zN(hK:ao K)(hL1:lx M w0 r v2 v3 m1 L1)(h:iV K n v2 v3 v30 v31 v33 L1 v43 v44=some r):qQ M w0 r (.b 2::dW 31327 :: .b 1::iT M w0 r m1) (Vj v2 v3 v30 v31 v33 v43 v44):=by
 unfold iV at h;refine eV 2 3 2 (bJ [1,5,6,8,9,10,11] [8,10] [117] (bQ 3 (nu 100 [.ptr 8 4,.cptr (av ((gD v3 v30).Box)),.cptr (av ((gD v3 v30).Box)),.cptr (List.drop 1 (av ((gD v3 v30).Box))),iI (((gD v3 v30).Box).Node),.ptr 8 4,.cptr (av ((gD v3 v30).Box)),.cptr (av ((gD v3 v30).Box)),.cptr (List.drop 2 (av ((gD v3 v30).Box))),.agg (aV (((gD v3 v30).Box).Style)),.bool v33,.ptr 10 0,.ptr 10 2,.ptr 10 59]) [] [] [bZ Tryz.prog 120 Tryz.f112 (pn 62654) 12,bZ Tryz.prog 120 Tryz.f112 (pn 62654) 14,bZ Tryz.prog 120 Tryz.f112 (pn 62654) 16] (ay [.v 0 1,.v 0 1,.v 0 1,.v 0 1,.v 0 1,.v 0 2,.v 0 2,.v 0 2,.v 0 2,.v 0 2,.v 0 3,.v 0 1] (ag (bX 0) (ay [.v 1 1] (ag (bX 1) (ay [.v 2 1] (ag (bX 2) bP)))))) ?_));obtain⟨v45,h94,h⟩:=ci h;obtain⟨v46,h95,h⟩:=ci h;refine bR (ks':=dW 125310::dW 125311 :: .b 1::iT M w0 r m1) 1 ⟨[(1,.fn v2.id v2.aP),(5,.sl (lm am v3)),(6,.ref 117),(10,.ptr 10 0),(11,iI v43)],[(10,aI ({ v44 with Node:=v45,Style:=v46,Glued:=v33 }:au))],[(117,⟨165,62,lm aI v31⟩)],[10,117]⟩ ?_ (by subst h95;subst h94;kernel_rfl)
 refine aj 3 ?_;obtain⟨h96,h⟩:=aF h;exact az (cy 117 117 165 62 aI (rfl) (fu) h96) (ac (ae 2 (bz (hL1 h))))
theorem tZ(hK:ao K)(hL1:lx M w0 r v2 v3 m1 L1)(hL2:Be M w0 r v2 v3 v30 v31 v33 m1 m2 L2)(h:ig K n v2 v3 v30 v31 v33 v39 L1 L2 v41=some r):qQ M w0 r (dW 64157153::dW 32078577::Dw M w0 r m1 m2) (RW v2 v3 v30 v31 v33 v39 v41):=by
 unfold ig at h;obtain⟨h91,h⟩|⟨h91,h⟩:=ak h
 ·exact ah 81 h91 (ae 5 (bz (hL2 h)))
 ·refine ah 81 h91 (bK (ks':=dW 4009823 :: .b 2::dW 31327 :: .b 1::iT M w0 r m1) 5 (aj 3 ?_));obtain⟨h92,h⟩:=aF h;refine az (gW am v3 v30 v39 206 (.tmp 84) (some (.tmp 85)) (some (.tmp 86)) 87 (e:=210) (sz:=5) (by kernel_rfl) (by kernel_rfl) (by kernel_rfl) (by kernel_rfl) (by kernel_rfl) (by kernel_rfl) (cn) (fun k hk=>by subst hk;kernel_rfl) h92) ?_;obtain⟨v42,h93,h⟩:=bind_some h;exact aS (AO hK h93) (ac (ae 0 (zN hK hL1 h)))
theorem Vw(hK:ao K)(hL1:lx M w0 r v2 v3 m1 L1)(hL2:Be M w0 r v2 v3 v30 v31 v33 m1 m2 L2)(h:ne K n v2 v3 v30 v31 v33 L1 L2 v39=some r):qQ M w0 r (dW 16039288::Dw M w0 r m1 m2) (GQ v2 v3 v30 v31 v33 v39):=by
 unfold ne at h;refine bN 4 5 3 2 (bJ [1,5,6,7,8,9,10,11] [8,10] [117] ?_);obtain⟨h83,h⟩|⟨h83,h⟩:=ak h
 ·obtain⟨h84,h⟩:=aF h;obtain⟨h85,h⟩|⟨h85,h⟩:=ak h
  ·obtain⟨h86,h⟩:=aF h;obtain⟨h87,h⟩|⟨h87,h⟩:=ak h
   ·obtain⟨h88,h⟩:=aF h;obtain⟨h89,h⟩:=aF h;obtain⟨v40,h90,h⟩:=bind_some h;exact bQ 0 (nu 47 [iI v39,.sl (lm am v3),iI (v3.length:Int),.bool (decide (v39<(v3.length:Int))),.bool true,.sl (lm am v3),iI v39,.cptr (am (gD v3 v39)),.cptr (List.drop 0 (am (gD v3 v39))),iI ((gD v3 v39).Kind),.bool (((gD v3 v39).Kind) == 1),.bool (((gD v3 v39).Kind) == 1),.bool true,.sl (lm am v3),iI v39,.cptr (am (gD v3 v39)),.cptr (List.drop 1 (am (gD v3 v39))),iI ((gD v3 v39).Of),.ptr 8 1,iI ((gD v3 v30).Of),.bool (((gD v3 v39).Of) == ((gD v3 v30).Of)),.bool (((gD v3 v39).Of) == ((gD v3 v30).Of)),.bool true,.sl (lm am v3),iI v39,iI (ab (v39-1)),.cptr (am (gD v3 ((ab (v39-1))))),.agg (am (gD v3 ((ab (v39-1))))),.sl (lm am v3),iI v39,.cptr (am (gD v3 v39)),.agg (am (gD v3 v39)),.bool v40,.bool (!v40),.bool (!v40)]) [] [] [] (ay (vz 2) (bC (bu am v3) (ay [.v 0 1] (ag (cu 0 51 (e:=(decide (v39<(v3.length:Int)))) (b:=true) h83) (ay (vz 2) (bC (bi am am h84 (cn) ((fun _=>rfl))) (ay (vz 4) (ag (cu 0 59 (e:=(((gD v3 v39).Kind) == 1)) (b:=true) h85) (ay (vz 2) (bC (bi am am h86 (cn) ((fun _=>rfl))) (ay (vz 6) (ag (cu 0 69 (e:=(((gD v3 v39).Of) == ((gD v3 v30).Of))) (b:=true) h87) (ay (vz 3) (bC (bi am am h88 (cn) ((fun _=>rfl))) (ay (vz 3) (bC (bi am am h89 (cn) ((fun _=>rfl))) (ay [.v 0 1] (ag (cD 0 1 79 (nk hK h90)) (ay (vz 2) bP))))))))))))))))))) (ae 0 (tZ hK hL1 hL2 h))
   ·exact bQ 0 (nu 47 [iI v39,.sl (lm am v3),iI (v3.length:Int),.bool (decide (v39<(v3.length:Int))),.bool true,.sl (lm am v3),iI v39,.cptr (am (gD v3 v39)),.cptr (List.drop 0 (am (gD v3 v39))),iI ((gD v3 v39).Kind),.bool (((gD v3 v39).Kind) == 1),.bool (((gD v3 v39).Kind) == 1),.bool true,.sl (lm am v3),iI v39,.cptr (am (gD v3 v39)),.cptr (List.drop 1 (am (gD v3 v39))),iI ((gD v3 v39).Of),.ptr 8 1,iI ((gD v3 v30).Of),.bool (((gD v3 v39).Of) == ((gD v3 v30).Of)),.bool (((gD v3 v39).Of) == ((gD v3 v30).Of)),.bool false,.tup [],.tup [],.tup [],.tup [],.tup [],.tup [],.tup [],.tup [],.tup [],.tup [],.tup [],.bool false]) [] [] [] (ay (vz 2) (bC (bu am v3) (ay [.v 0 1] (ag (cu 0 51 (e:=(decide (v39<(v3.length:Int)))) (b:=true) h83) (ay (vz 2) (bC (bi am am h84 (cn) ((fun _=>rfl))) (ay (vz 4) (ag (cu 0 59 (e:=(((gD v3 v39).Kind) == 1)) (b:=true) h85) (ay (vz 2) (bC (bi am am h86 (cn) ((fun _=>rfl))) (ay (vz 6) (ag (cu 0 69 (e:=(((gD v3 v39).Of) == ((gD v3 v30).Of))) (b:=false) h87) (ag (ax 0 1) (ag (ax 0 1) (ag (ax 0 1) (ag (ax 0 1) (ag (ax 0 1) (ag (ax 0 1) (ag (ax 0 1) (ag (ax 0 1) (ag (ax 0 1) (ag (ax 0 1) (ag (ax 0 1) (ay [.v 0 1] bP)))))))))))))))))))))))) (ae 0 (tZ hK hL1 hL2 h))
  ·exact bQ 0 (nu 47 [iI v39,.sl (lm am v3),iI (v3.length:Int),.bool (decide (v39<(v3.length:Int))),.bool true,.sl (lm am v3),iI v39,.cptr (am (gD v3 v39)),.cptr (List.drop 0 (am (gD v3 v39))),iI ((gD v3 v39).Kind),.bool (((gD v3 v39).Kind) == 1),.bool (((gD v3 v39).Kind) == 1),.bool false,.tup [],.tup [],.tup [],.tup [],.tup [],.tup [],.tup [],.tup [],.bool false,.bool false,.tup [],.tup [],.tup [],.tup [],.tup [],.tup [],.tup [],.tup [],.tup [],.tup [],.tup [],.bool false]) [] [] [] (ay (vz 2) (bC (bu am v3) (ay [.v 0 1] (ag (cu 0 51 (e:=(decide (v39<(v3.length:Int)))) (b:=true) h83) (ay (vz 2) (bC (bi am am h84 (cn) ((fun _=>rfl))) (ay (vz 4) (ag (cu 0 59 (e:=(((gD v3 v39).Kind) == 1)) (b:=false) h85) (ag (ax 0 1) (ag (ax 0 1) (ag (ax 0 1) (ag (ax 0 1) (ag (ax 0 1) (ag (ax 0 1) (ag (ax 0 1) (ag (ax 0 1) (ay (vz 2) (ag (ax 0 1) (ag (ax 0 1) (ag (ax 0 1) (ag (ax 0 1) (ag (ax 0 1) (ag (ax 0 1) (ag (ax 0 1) (ag (ax 0 1) (ag (ax 0 1) (ag (ax 0 1) (ag (ax 0 1) (ay [.v 0 1] bP))))))))))))))))))))))))))))) (ae 0 (tZ hK hL1 hL2 h))
 ·exact bQ 0 (nu 47 [iI v39,.sl (lm am v3),iI (v3.length:Int),.bool (decide (v39<(v3.length:Int))),.bool false,.tup [],.tup [],.tup [],.tup [],.tup [],.tup [],.bool false,.bool false,.tup [],.tup [],.tup [],.tup [],.tup [],.tup [],.tup [],.tup [],.bool false,.bool false,.tup [],.tup [],.tup [],.tup [],.tup [],.tup [],.tup [],.tup [],.tup [],.tup [],.tup [],.bool false]) [] [] [] (ay (vz 2) (bC (bu am v3) (ay [.v 0 1] (ag (cu 0 51 (e:=(decide (v39<(v3.length:Int)))) (b:=false) h83) (ag (ax 0 1) (ag (ax 0 1) (ag (ax 0 1) (ag (ax 0 1) (ag (ax 0 1) (ag (ax 0 1) (ay (vz 2) (ag (ax 0 1) (ag (ax 0 1) (ag (ax 0 1) (ag (ax 0 1) (ag (ax 0 1) (ag (ax 0 1) (ag (ax 0 1) (ag (ax 0 1) (ay (vz 2) (ag (ax 0 1) (ag (ax 0 1) (ag (ax 0 1) (ag (ax 0 1) (ag (ax 0 1) (ag (ax 0 1) (ag (ax 0 1) (ag (ax 0 1) (ag (ax 0 1) (ag (ax 0 1) (ag (ax 0 1) (ay [.v 0 1] bP)))))))))))))))))))))))))))))))) (ae 0 (tZ hK hL1 hL2 h))
theorem PX(hK:ao K)(hL1:lx M w0 r v2 v3 m1 L1)(m:Nat):Be M w0 r v2 v3 v30 v31 v33 m1 m (mP K n v2 v3 v30 v31 v33 L1 m):=by
 induction m with
 | zero=>intro v39 h;cases h
 | succ m ih=>intro v39 h;have h:ne K n v2 v3 v30 v31 v33 L1 (mP K n v2 v3 v30 v31 v33 L1 m) v39=some r:=h;exact bB (Vw hK hL1 ih h)
theorem xu(hK:ao K)(hL1:lx M w0 r v2 v3 m1 L1)(h:ly K n v2 v3 v30 v31 L1 v33=some r):qQ M w0 r (dW 3915 :: .b 1::iT M w0 r m1) (PU v2 v3 v30 v31 v33):=by
 unfold ly at h;obtain⟨v34,h69,h⟩:=ci h;refine bR (ks':=dW 250613 :: .b 2::dW 31327 :: .b 1::iT M w0 r m1) 10 ⟨[(1,.fn v2.id v2.aP),(5,.sl (lm am v3)),(6,.ref 117),(7,iI v30),(8,.ptr 8 0),(9,.bool v33),(10,.ptr 10 0),(11,iI (ab (v30+1))),(46,iI ((gD v3 v30).Kind)),(89,.bool v34)],[(8,am (gD v3 v30)),(10,List.set (aI cv) 61 (.nils))],[(117,⟨165,62,lm aI v31⟩)],[8,10,117]⟩ ?_ (by subst h69;kernel_rfl);obtain⟨h70,h⟩|⟨h70,h⟩:=ak h
 ·exact ah 89 h70 (bK (ks':=.b 2::dW 31327 :: .b 1::iT M w0 r m1) 2 (jF 10 (ae 0 (zN hK hL1 h))))
 ·refine ah 89 h70 ?_;obtain⟨v35,h71,h⟩:=ci h;refine bR (ks':=dW 1002455 :: .b 2::dW 31327 :: .b 1::iT M w0 r m1) 3 ⟨[(1,.fn v2.id v2.aP),(5,.sl (lm am v3)),(6,.ref 117),(7,iI v30),(8,.ptr 8 0),(9,.bool v33),(10,.ptr 10 0),(11,iI (ab (v30+1))),(92,.bool v35)],[(8,am (gD v3 v30)),(10,List.set (aI cv) 61 (.nils))],[(117,⟨165,62,lm aI v31⟩)],[8,10,117]⟩ ?_ (by subst h71;kernel_rfl);obtain⟨h72,h⟩|⟨h72,h⟩:=ak h
  ·refine ah 92 h72 (bh 2 1 (aj 5 ?_));obtain⟨v36,h73,h⟩:=bind_some h;exact k9 (hK.nG h73) (ac (ae 0 (zN hK hL1 h)))
  ·exact ah 92 h72 (ae 3 (cg (p:=pn 8019644) n (PX hK hL1 n h)))
theorem UF(hK:ao K)(hL1:lx M w0 r v2 v3 m1 L1)(h:pq K n v2 v3 L1 v30 v31=some r):qQ M w0 r (dW 244::iT M w0 r m1) (Kb v2 v3 v30 v31):=by
 unfold pq at h;refine bN 4 5 3 2 (aj 2 (az (bu am v3) (ac ?_)));obtain⟨h62,h⟩|⟨h62,h⟩:=ak h
 ·refine ah 17 h62 (bK (ks':=dW 1956::dW 1957 :: .b 1::iT M w0 r m1) 4 (aj 2 ?_));obtain⟨h63,h⟩:=aF h;refine az (bi am am h63 (cn) ((fun _=>rfl))) (ac (aC 2 3 1 (bJ [1,5,6,7,8] [8] [117] ?_)));obtain⟨h64,h⟩|⟨h64,h⟩:=ak h
  ·obtain⟨h65,h⟩:=aF h;obtain⟨h66,h⟩|⟨h66,h⟩:=ak h
   ·obtain⟨h67,h⟩:=aF h;obtain⟨v32,h68,h⟩:=bind_some h;exact bQ 1 (nu 22 [iI v30,.bool (decide (v30>0)),.bool true,.sl (lm am v3),iI v30,iI (ab (v30-1)),.cptr (am (gD v3 ((ab (v30-1))))),.cptr (List.drop 0 (am (gD v3 ((ab (v30-1)))))),iI ((gD v3 ((ab (v30-1)))).Kind),.bool (((gD v3 ((ab (v30-1)))).Kind) != 2),.bool (((gD v3 ((ab (v30-1)))).Kind) != 2),.bool true,.sl (lm am v3),iI v30,iI (ab (v30-1)),.cptr (am (gD v3 ((ab (v30-1))))),.agg (am (gD v3 ((ab (v30-1))))),.agg (am (gD v3 v30)),.bool v32,.bool (!v32),.bool (!v32)]) [] [] [bZ Tryz.prog 120 Tryz.f112 (pn 3914) 21] (ay (vz 2) (ag (cu 0 24 (e:=(decide (v30>0))) (b:=true) h64) (ay (vz 3) (bC (bi am am h65 (cn) ((fun _=>rfl))) (ay (vz 4) (ag (cu 0 33 (e:=(((gD v3 ((ab (v30-1)))).Kind) != 2)) (b:=true) h66) (ay (vz 3) (bC (bi am am h67 (cn) ((fun _=>rfl))) (ay (vz 2) (ag (cD 0 1 40 (nk hK h68)) (ay (vz 2) (ag (bX 0) bP)))))))))))) (ae 0 (xu hK hL1 h))
   ·exact bQ 1 (nu 22 [iI v30,.bool (decide (v30>0)),.bool true,.sl (lm am v3),iI v30,iI (ab (v30-1)),.cptr (am (gD v3 ((ab (v30-1))))),.cptr (List.drop 0 (am (gD v3 ((ab (v30-1)))))),iI ((gD v3 ((ab (v30-1)))).Kind),.bool (((gD v3 ((ab (v30-1)))).Kind) != 2),.bool (((gD v3 ((ab (v30-1)))).Kind) != 2),.bool false,.tup [],.tup [],.tup [],.tup [],.tup [],.tup [],.tup [],.tup [],.bool false]) [] [] [bZ Tryz.prog 120 Tryz.f112 (pn 3914) 21] (ay (vz 2) (ag (cu 0 24 (e:=(decide (v30>0))) (b:=true) h64) (ay (vz 3) (bC (bi am am h65 (cn) ((fun _=>rfl))) (ay (vz 4) (ag (cu 0 33 (e:=(((gD v3 ((ab (v30-1)))).Kind) != 2)) (b:=false) h66) (ag (ax 0 1) (ag (ax 0 1) (ag (ax 0 1) (ag (ax 0 1) (ag (ax 0 1) (ag (ax 0 1) (ag (ax 0 1) (ag (ax 0 1) (ay [.v 0 1] (ag (bX 0) bP)))))))))))))))) (ae 0 (xu hK hL1 h))
  ·exact bQ 1 (nu 22 [iI v30,.bool (decide (v30>0)),.bool false,.tup [],.tup [],.tup [],.tup [],.tup [],.tup [],.tup [],.bool false,.bool false,.tup [],.tup [],.tup [],.tup [],.tup [],.tup [],.tup [],.tup [],.bool false]) [] [] [bZ Tryz.prog 120 Tryz.f112 (pn 3914) 21] (ay (vz 2) (ag (cu 0 24 (e:=(decide (v30>0))) (b:=false) h64) (ag (ax 0 1) (ag (ax 0 1) (ag (ax 0 1) (ag (ax 0 1) (ag (ax 0 1) (ag (ax 0 1) (ag (ax 0 1) (ay (vz 2) (ag (ax 0 1) (ag (ax 0 1) (ag (ax 0 1) (ag (ax 0 1) (ag (ax 0 1) (ag (ax 0 1) (ag (ax 0 1) (ag (ax 0 1) (ay [.v 0 1] (ag (bX 0) bP)))))))))))))))))))) (ae 0 (xu hK hL1 h))
 ·refine ah 17 h62 (aL 8 ?_);cases h;exact fd
theorem Lc(hK:ao K)(m:Nat):lx M w0 r v2 v3 m (l6 K n v2 v3 m):=by
 induction m with
 | zero=>intro v30 v31 h;cases h
 | succ m ih=>intro v30 v31 h;have h:pq K n v2 v3 (l6 K n v2 v3 m) v30 v31=some r:=h;exact bB (UF hK ih h)
theorem T7(hK:ao K)(h:nr K n v1 v2=some r):aU Tryz.prog 112 [.sl (lm aR v1),.fn v2.id v2.aP] (fun v s=>v=.ref 117∧look 117 s.r=some ⟨165,62,lm aI r⟩):=by
 refine bv (cat Tryz.f112 (pn 1)) Tryz.func112 Tryz.ntmps112 fun M w0=>(bd ⟨[(0,.sl (lm aR v1)),(1,.fn v2.id v2.aP)],[],[],[]⟩ ?_);unfold nr at h;refine aC 6 7 3 (aj 1 ?_);obtain⟨v3,h1,h⟩:=bind_some h;exact fU 1013 (yQ hK h1) (fS 400003) (ac (gd 26 0 7 6 (bJ [1,5,6,7] [] [1013] (gb 1013 (gh 117 6 165 62 (ae 0 (cg (p:=pn 122) n (Lc hK n h))))))))
end
noncomputable section
variable[GS](M:Nat→Prop)(w0:aE)(r:ai×Int×Int×(List aG))(v1:aa)(v2:bO)(v3:bF)(v4 v5:Int)(v6:List aG)  
abbrev Df(n:Nat):aq:=.c (cat Tryz.f74 (pn n))
variable{M w0 r v1 v2 v3 v4 v5 v6}{K:Kn}{n:Nat}[SG w0]
theorem Ut(hK:ao K)(h:xj K n v1 v2 v3 v4 v5 v6=some r):eG Tryz.prog 74 [.agg (av v1),.agg (cb v2),.agg (bW v3)] [(440001,List.set (bL (⟨[],v4,v5⟩:bH)) 0 (.ref 440009))] ⟨64,127,lm bc v6⟩ (fun v s=>v=.agg (aO r.1)∧cj s.o [(440001,List.set (bL (⟨[],r.2.1,r.2.2.1⟩:bH)) 0 (.ref 440009))]∧look 440009 s.r=some ⟨64,127,lm bc r.2.2.2⟩):=by
 refine jz (c:=cat Tryz.f74 []) Tryz.func74 (by kernel_rfl) _ Tryz.ntmps74 (of_decide_eq_true (by kernel_rfl)) fun M w0=>(bd ⟨[(0,.agg (av v1)),(1,.agg (cb v2)),(2,.agg (bW v3))],[(440001,List.set (bL (⟨[],v4,v5⟩:bH)) 0 (.ref 440009))],[(440009,⟨64,127,lm bc v6⟩)],[440009,440001,1440001]⟩ ?_);unfold xj at h;refine bK (ks':=[Df 6,Df 7]) 3 (aj 3 ?_);obtain⟨v7,h1,h⟩:=bind_some h;refine qc (D5 hK h1) (ac (aL 1 ?_));cases h;exact dL
end
noncomputable section
variable[GS](M:Nat→Prop)(w0:aE)(r:Int)(v1:aa)(v2:Int)(v3:bF)(v9:Int)  
abbrev Sc(n:Nat):aq:=.c (cat Tryz.f99 (pn n))
abbrev Vu:Cx:=⟨Tryz.prog,46,M,w0⟩
abbrev UI:=bodyPost Tryz.prog Tryz.f99 (bA M w0 (fun v _=>v=iI r))
abbrev N4(ks:List aq)(s:AS):=VE (Vu M w0) (UI M w0 r) ks .normal s
def Tc:AS:=⟨[(1,iI v2),(3,.ptr 3 0),(7,iI v9)],[(3,av v1)],[],[3]⟩
variable{M w0 r v1 v2 v3 v9}{K:Kn}{n:Nat}
theorem El(hK:ao K)(h:uE K n v1 v2 v9=some r):N4 M w0 r [Sc 15] (Tc v1 v2 v9):=by
 unfold uE at h;refine aC 2 3 1 (aj 4 ?_);obtain⟨v10,h7,h⟩:=bind_some h;refine aS (uy hK h7) (ac (aL 1 ?_));cases h;exact bj
theorem Mm(hK:ao K)(h:BR K n v1 v2 v3=some r):aU Tryz.prog 99 [.agg (av v1),iI v2,.agg (bW v3)] (fun v _=>v=iI r):=by
 refine bv (cat Tryz.f99 (pn 1)) Tryz.func99 Tryz.ntmps99 fun M w0=>(bd ⟨[(0,.agg (av v1)),(1,iI v2),(2,.agg (bW v3))],[],[],[]⟩ ?_);unfold BR at h;refine aC 6 7 3 (aj 4 ?_);obtain⟨v4,h1,h⟩:=bind_some h;refine aS (eC hK h1) (ac (aC 5 3 3 ?_));obtain⟨h2,h⟩|⟨h2,h⟩:=ak h
 ·refine ah 21 h2 (aC 4 5 2 (aj 2 ?_));obtain⟨v5,h3,h⟩:=bind_some h;refine aS (Ek hK h3) (ac (aC 2 3 1 (bJ [1,3,9,10] [3] [] ?_)));obtain⟨v6,h4,h⟩:=bind_some h;obtain⟨v7,h5,h⟩:=bind_some h;obtain⟨v8,h6,h⟩:=bind_some h;exact bQ 1 (nu 28 [iI v2,iI v6,.ptr 3 2,.agg (aV v1.Style),iI v2,.agg (cb v7),iI v8,iI (ab (v6-v8))]) [] [] [bZ Tryz.prog 46 Tryz.f99 (pn 234) 8] (ay [.v 0 1] (ag (cD 0 1 29 (gF hK h4)) (ay (vz 3) (ag (cD 0 1 33 (rY hK h5)) (ag (cD 0 1 34 (tv hK h6)) (ay [.v 0 1] (ag (bX 0) bP))))))) (ae 1 (El hK h))
 ·exact ah 21 h2 (ae 2 (El hK h))
end
noncomputable section
variable[GS](M:Nat→Prop)(w0:aE)(r:au)(v1:aa)(v2:Int)(v3:bF)  
variable{M w0 r v1 v2 v3}{K:Kn}{n:Nat}
theorem TI(hK:ao K)(h:BA K n v1 v2 v3=some r):aU Tryz.prog 147 [.agg (av v1),.cptr ([iI v2]),.cptr (bW v3)] (fun v _=>v=.agg (aI r)):=by
 refine bv (cat Tryz.f147 (pn 1)) Tryz.func147 Tryz.ntmps147 fun M w0=>(bd ⟨[(0,.agg (av v1)),(1,.cptr ([iI v2])),(2,.cptr (bW v3))],[],[],[]⟩ ?_);unfold BA at h;refine aC 6 7 3 (bJ [1,2,3,4] [3,4] [] ?_);obtain⟨v4,h1,h⟩:=bind_some h;obtain⟨v5,h2,h⟩:=bind_some h;refine bQ 1 (nu 7 [.ptr 3 2,.agg (aV v1.Style),iI v2,.agg (av v1),iI v2,.agg (bW v3),iI v4,.agg (cb v5)]++nu 5 [.ptr 5 0]) [(5,cb gl)] [] [bZ Tryz.prog 36 Tryz.f147 (pn 6) 9] (ay (vz 6) (ag (cD 0 1 13 (Mm hK h1)) (ag (cD 0 1 14 (rY hK h2)) (ag (pw 0 1 68 5 (cb gl)) (ag (bX 0) bP))))) ?_;cases h
end
noncomputable section
variable[GS](M:Nat→Prop)(w0:aE)(r:List au)(v1:List aa)(v2:Int)(v3:bF)  
variable{M w0 r v1 v2 v3}{K:Kn}{n:Nat}
theorem LI(hK:ao K)(h:qi K n v1 v2 v3=some r):aU Tryz.prog 109 [.sl (lm aR v1),iI v2,.agg (bW v3)] (fun v s=>v=.ref 1009∧look 1009 s.r=some ⟨165,62,lm aI r⟩):=by
 refine bv (cat Tryz.f109 (pn 1)) Tryz.func109 Tryz.ntmps109 fun M w0=>(bd ⟨[(0,.sl (lm aR v1)),(1,iI v2),(2,.agg (bW v3))],[],[],[]⟩ ?_);unfold qi at h;refine aC 6 7 3 (aj 1 (sN 4 4 ([iI v2]) (sN 5 5 (bW v3) (xI 147 #[(.tmp 4),(.tmp 5)] [.cptr ([iI v2]),.cptr (bW v3)] ?_))));obtain⟨v4,h1,h⟩:=bind_some h;refine fU 1009 (T7 hK h1) (fS 117) (ac (aL 1 ?_));cases h;exact fd
end
noncomputable section
variable[GS](M:Nat→Prop)(w0:aE)(r:Int)(v1:List au)(v2 v4:Int)(v5:Bool)(m1:Nat)(L1:Int→Option Int)
abbrev A8:Cx:=⟨Tryz.prog,22,M,w0⟩
abbrev AP:=bodyPost Tryz.prog Tryz.f115 (bA M w0 (fun v _=>v=iI r))
abbrev I2(ks:List aq)(s:AS):=VE (A8 M w0) (AP M w0 r) ks .normal s
abbrev ur(n:Nat):aq:=.c (cat Tryz.f115 (pn n))
abbrev Ca:List aq:=[.b 0,ur 15]
abbrev Du:List aq:=kl (A8 M w0) (AP M w0 r) Ca (cat Tryz.f115 (pn 56)) m1::Ca
def L6:AS:=⟨[(0,.sl (lm aI v1)),(5,iI v4),(18,.bool v5)],[],[],[]⟩
def JL:AS:=⟨[(0,.sl (lm aI v1)),(5,iI v4)],[],[],[]⟩
abbrev BG:Prop:=∀{v4:Int},L1 v4=some r→LP (A8 M w0) (AP M w0 r) Ca (cat Tryz.f115 (pn 56)) m1 (JL v1 v4)
variable{M w0 r v1 v2 v4 v5 m1 L1}{K:Kn}{n:Nat}
theorem CQ(hK:ao K)(hL1:BG M w0 r v1 m1 L1)(h:oI K n v1 v4 L1 v5=some r):I2 M w0 r (ur 225::ur 113::Du M w0 r m1) (L6 v1 v4 v5):=by
 unfold oI at h;obtain⟨h6,h⟩|⟨h6,h⟩:=ak h
 ·exact ah 18 h6 (ae 5 (bz (hL1 h)))
 ·refine ah 18 h6 (aL 8 ?_);cases h;exact bj
theorem TK(hK:ao K)(hL1:BG M w0 r v1 m1 L1)(h:o9 K n v1 L1 v4=some r):I2 M w0 r (ur 56::Du M w0 r m1) (JL v1 v4):=by
 unfold o9 at h;refine bN 4 5 3 2 (aj 2 (az (bu aI v1) (aM 5 2 ?_)));obtain⟨h4,h⟩|⟨h4,h⟩:=ak h
 ·refine aB 12 h4 (aM 7 2 ?_);obtain⟨h5,h⟩:=aF h;exact az (bi aI aI h5 (fu) ((fun _=>rfl))) (ac (ae 0 (CQ hK hL1 h)))
 ·exact aB 12 h4 (ac (ae 0 (CQ hK hL1 h)))
theorem L4(hK:ao K)(m:Nat):BG M w0 r v1 m (pJ K n v1 m):=by
 induction m with
 | zero=>intro v4 h;cases h
 | succ m ih=>intro v4 h;have h:o9 K n v1 (pJ K n v1 m) v4=some r:=h;exact bB (TK hK ih h)
theorem BD(hK:ao K)(h:lv K n v1 v2=some r):aU Tryz.prog 115 [.sl (lm aI v1),iI v2] (fun v _=>v=iI r):=by
 refine bv (cat Tryz.f115 (pn 1)) Tryz.func115 Tryz.ntmps115 fun M w0=>(bd ⟨[(0,.sl (lm aI v1)),(1,iI v2)],[],[],[]⟩ ?_);unfold lv at h;exact ae 6 (cg (p:=pn 28) n (L4 hK n h))
end
noncomputable section
variable[GS](M:Nat→Prop)(w0:aE)(r:Int)(v1:List au)(v3:Int)(m1:Nat)(L1:Int→Option Int)
abbrev ya:Cx:=⟨Tryz.prog,18,M,w0⟩
abbrev yf:=bodyPost Tryz.prog Tryz.f150 (bA M w0 (fun v _=>v=iI r))
abbrev U2(ks:List aq)(s:AS):=VE (ya M w0) (yf M w0 r) ks .normal s
abbrev DJ(n:Nat):aq:=.c (cat Tryz.f150 (pn n))
abbrev yU:List aq:=[.b 0,DJ 7]
abbrev Pg:List aq:=kl (ya M w0) (yf M w0 r) yU (cat Tryz.f150 (pn 52)) m1::yU
def C9:AS:=⟨[(0,.sl (lm aI v1)),(3,iI v3)],[],[],[]⟩
abbrev J7:Prop:=∀{v3:Int},L1 v3=some r→LP (ya M w0) (yf M w0 r) yU (cat Tryz.f150 (pn 52)) m1 (C9 v1 v3)
variable{M w0 r v1 v3 m1 L1}{K:Kn}{n:Nat}
theorem Ve(hK:ao K)(hL1:J7 M w0 r v1 m1 L1)(h:kR K n v1 L1 v3=some r):U2 M w0 r (DJ 52::Pg M w0 r m1) (C9 v1 v3):=by
 unfold kR at h;refine aC 5 3 3 ?_;obtain⟨h5,h⟩|⟨h5,h⟩:=ak h
 ·refine ah 8 h5 (c8 8 9 1 3 5 (aj 2 ?_));obtain⟨h6,h⟩:=aF h;refine az (bi aI aI h6 (fu) ((fun _=>rfl))) (ac ?_);obtain⟨h7,h⟩|⟨h7,h⟩:=ak h
  ·refine ah 16 h7 (aL 9 ?_);cases h;exact bj
  ·exact ah 16 h7 (ae 4 (bz (hL1 h)))
 ·refine ah 8 h5 (aL 8 ?_);cases h;exact bj
theorem Oh(hK:ao K)(m:Nat):J7 M w0 r v1 m (jR K n v1 m):=by
 induction m with
 | zero=>intro v3 h;cases h
 | succ m ih=>intro v3 h;have h:kR K n v1 (jR K n v1 m) v3=some r:=h;exact bB (Ve hK ih h)
theorem IG(hK:ao K)(h:kD K n v1=some r):aU Tryz.prog 150 [.sl (lm aI v1)] (fun v _=>v=iI r):=by
 refine bv (cat Tryz.f150 (pn 1)) Tryz.func150 Tryz.ntmps150 fun M w0=>(bd ⟨[(0,.sl (lm aI v1))],[],[],[]⟩ ?_);unfold kD at h;exact bN 12 13 7 4 (aj 1 (az (bu aI v1) (ac (ae 1 (cg (p:=pn 26) n (Oh hK n h))))))
end
noncomputable section
variable[GS](M:Nat→Prop)(w0:aE)(r:Int)(v1:List au)(v2 v3 v5:Int)(m1:Nat)(L1:Int→Int→Option Int)
abbrev za:Cx:=⟨Tryz.prog,33,M,w0⟩
abbrev zb:=bodyPost Tryz.prog Tryz.f116 (bA M w0 (fun v _=>v=iI r))
abbrev CD(ks:List aq)(s:AS):=VE (za M w0) (zb M w0 r) ks .normal s
abbrev xF(n:Nat):aq:=.c (cat Tryz.f116 (pn n))
abbrev Bj:List aq:=[.b 0,xF 15]
abbrev Sq:List aq:=kl (za M w0) (zb M w0 r) Bj (cat Tryz.f116 (pn 116)) m1::Bj
def QZ:AS:=⟨[(3,iI v5)],[],[],[]⟩
def GX:AS:=⟨[(0,.sl (lm aI v1)),(3,iI v2),(7,.sl (lm aI v1)),(8,iI (v1.length:Int)),(9,iI v3)],[],[],[]⟩
abbrev IR:Prop:=∀{v2:Int} {v3:Int},L1 v2 v3=some r→LP (za M w0) (zb M w0 r) Bj (cat Tryz.f116 (pn 116)) m1 (GX v1 v2 v3)
variable{M w0 r v1 v2 v3 v5 m1 L1}{K:Kn}{n:Nat}
theorem FK(hK:ao K)(h:ry K n v5=some r):CD M w0 r [xF 31] (QZ v5):=by
 unfold ry at h;refine aL 3 ?_;cases h;exact bj
theorem Sf(hK:ao K)(hL1:IR M w0 r v1 m1 L1)(h:pR K n v1 L1 v2 v3=some r):CD M w0 r (xF 116::Sq M w0 r m1) (GX v1 v2 v3):=by
 unfold pR at h;refine aC 6 7 3 ?_;obtain⟨h3,h⟩|⟨h3,h⟩:=ak h
 ·refine ah 10 h3 (c8 8 9 1 3 5 (aj 0 ?_));obtain⟨h4,h⟩:=aF h;exact az (bi aI aI h4 (fu) ((fun _=>rfl))) (ac (ae 3 (bz (hL1 h))))
 ·refine ah 10 h3 (Hl 4 5 3 7 (aj 1 ?_));obtain⟨v4,h5,h⟩:=bind_some h;refine aS (IG hK h5) (ac (bh 3 2 ?_));obtain⟨h6,h⟩|⟨h6,h⟩:=ak h
  ·refine ah 24 h6 (bh 2 1 (aj 3 ?_));obtain⟨h7,h⟩:=aF h;exact az (bi aI aI h7 (fu) ((fun _=>rfl))) (ac (ae 0 (FK hK h)))
  ·exact ah 24 h6 (ae 2 (FK hK h))
theorem Uc(hK:ao K)(m:Nat):IR M w0 r v1 m (ox K n v1 m):=by
 induction m with
 | zero=>intro v2 v3 h;cases h
 | succ m ih=>intro v2 v3 h;have h:pR K n v1 (ox K n v1 m) v2 v3=some r:=h;exact bB (Sf hK ih h)
theorem ui(hK:ao K)(h:kg K n v1=some r):aU Tryz.prog 116 [.sl (lm aI v1)] (fun v _=>v=iI r):=by
 refine bv (cat Tryz.f116 (pn 1)) Tryz.func116 Tryz.ntmps116 fun M w0=>(bd ⟨[(0,.sl (lm aI v1))],[],[],[]⟩ ?_);unfold kg at h;exact bN 28 29 15 6 (aj 1 (az (bu aI v1) (ac (ae 1 (cg (p:=pn 58) n (Uc hK n h))))))
end
noncomputable section
variable[GS](M:Nat→Prop)(w0:aE)(r:List Int)(v1:List au)(v2 v19:Int)(v20:List Int)(v25:Int)(v26:Bool)(m1 m2:Nat)(L1:Int→(List Int)→Option (List Int))(L2:Int→Option (List Int))
abbrev rU:Cx:=⟨Tryz.prog,46,M,w0⟩
abbrev qU:=bodyPost Tryz.prog Tryz.f110 (bA M w0 (fun v s=>v=.ref 16∧look 16 s.r=some ⟨3,1,lm (ba .i64) r⟩))
abbrev uH(ks:List aq)(s:AS):=VE (rU M w0) (qU M w0 r) ks .normal s
abbrev gK(n:Nat):aq:=.c (cat Tryz.f110 (pn n))
abbrev zG:List aq:=[.b 0,gK 15]
abbrev wy:List aq:=kl (rU M w0) (qU M w0 r) zG (cat Tryz.f110 (pn 116)) m1::zG
abbrev Ay:List aq:=.b 2::gK 3735 :: .b 1::wy M w0 r m1
abbrev zm:List aq:=kl (rU M w0) (qU M w0 r) (Ay M w0 r m1) (cat Tryz.f110 (pn 14936)) m2::(Ay M w0 r m1)
def RC:AS:=⟨[(0,.sl (lm aI v1)),(1,iI v2),(5,.ref 16),(7,iI v25)],[],[(16,⟨3,1,lm (ba .i64) (v20++[v19])⟩)],[16]⟩
def Vm:AS:=⟨[(0,.sl (lm aI v1)),(1,iI v2),(5,.ref 16),(6,iI v19),(7,iI v25),(32,.bool v26)],[],[(16,⟨3,1,lm (ba .i64) (v20++[v19])⟩)],[16]⟩
def D0:AS:=⟨[(0,.sl (lm aI v1)),(1,iI v2),(5,.ref 16),(6,iI v19),(7,iI v25)],[],[(16,⟨3,1,lm (ba .i64) (v20++[v19])⟩)],[16]⟩
def Jp:AS:=⟨[(0,.sl (lm aI v1)),(1,iI v2),(5,.ref 16),(6,iI v19)],[],[(16,⟨3,1,lm (ba .i64) v20⟩)],[16]⟩
abbrev pM:Prop:=∀{v19:Int} {v20:(List Int)},L1 v19 v20=some r→LP (rU M w0) (qU M w0 r) zG (cat Tryz.f110 (pn 116)) m1 (Jp v1 v2 v19 v20)
abbrev yA:Prop:=∀{v25:Int},L2 v25=some r→LP (rU M w0) (qU M w0 r) (Ay M w0 r m1) (cat Tryz.f110 (pn 14936)) m2 (D0 v1 v2 v19 v20 v25)
variable{M w0 r v1 v2 v19 v20 v25 v26 m1 m2 L1 L2}{K:Kn}{n:Nat}
theorem C0(hK:ao K)(hL1:pM M w0 r v1 v2 m1 L1)(h:xf K n v1 v2 v19 v20 v25 L1=some r):uH M w0 r (gK 3735 :: .b 1::wy M w0 r m1) (RC v1 v2 v19 v20 v25):=by
 unfold xf at h;exact ae 2 (bz (hL1 h))
theorem HD(hK:ao K)(hL1:pM M w0 r v1 v2 m1 L1)(hL2:yA M w0 r v1 v2 v19 v20 m1 m2 L2)(h:oY K n v1 v2 v19 v20 v25 L1 L2 v26=some r):uH M w0 r (gK 59745::gK 29873::zm M w0 r m1 m2) (Vm v1 v2 v19 v20 v25 v26):=by
 unfold oY at h;obtain⟨h47,h⟩|⟨h47,h⟩:=ak h
 ·refine ah 32 h47 (bK (ks':=gK 119492::gK 119493 :: .b 3::zm M w0 r m1 m2) 4 (aj 2 ?_));obtain⟨v27,h48,h⟩:=bind_some h;refine aS (BD hK h48) (ac (bN 4 5 3 2 (aj 3 ?_)));obtain⟨h49,h⟩:=aF h;refine az (gW aI v1 v19 v27 159 (.tmp 36) (some (.tmp 37)) (some (.tmp 38)) 39 (e:=165) (sz:=62) (by kernel_rfl) (by kernel_rfl) (by kernel_rfl) (by kernel_rfl) (by kernel_rfl) (by kernel_rfl) (fu) (fun k hk=>by subst hk;kernel_rfl) h49) ?_;obtain⟨v28,h50,h⟩:=bind_some h;refine aS (ui hK h50) (ac ?_);obtain⟨h51,h⟩|⟨h51,h⟩:=ak h
  ·exact ah 42 h51 (ae 6 (C0 hK hL1 h))
  ·exact ah 42 h51 (ae 4 (bz (hL2 h)))
 ·exact ah 32 h47 (ae 5 (C0 hK hL1 h))
theorem NA(hK:ao K)(hL1:pM M w0 r v1 v2 m1 L1)(hL2:yA M w0 r v1 v2 v19 v20 m1 m2 L2)(h:pd K n v1 v2 v19 v20 L1 L2 v25=some r):uH M w0 r (gK 14936::zm M w0 r m1 m2) (D0 v1 v2 v19 v20 v25):=by
 unfold pd at h;refine bN 4 5 3 2 (aj 2 (az (bu aI v1) (aM 5 2 ?_)));obtain⟨h45,h⟩|⟨h45,h⟩:=ak h
 ·refine aB 24 h45 (aM 8 3 ?_);obtain⟨h46,h⟩:=aF h;exact az (bi aI aI h46 (fu) ((fun _=>rfl))) (ac (ae 0 (HD hK hL1 hL2 h)))
 ·exact aB 24 h45 (ac (ae 0 (HD hK hL1 hL2 h)))
theorem Od(hK:ao K)(hL1:pM M w0 r v1 v2 m1 L1)(m:Nat):yA M w0 r v1 v2 v19 v20 m1 m (o5 K n v1 v2 v19 v20 L1 m):=by
 induction m with
 | zero=>intro v25 h;cases h
 | succ m ih=>intro v25 h;have h:pd K n v1 v2 v19 v20 L1 (o5 K n v1 v2 v19 v20 L1 m) v25=some r:=h;exact bB (NA hK hL1 ih h)
theorem Pu(hK:ao K)(hL1:pM M w0 r v1 v2 m1 L1)(h:nM K n v1 v2 L1 v19 v20=some r):uH M w0 r (gK 116::wy M w0 r m1) (Jp v1 v2 v19 v20):=by
 unfold nM at h;refine bN 4 5 3 2 (aj 2 (az (bu aI v1) (ac ?_)));obtain⟨h35,h⟩|⟨h35,h⟩:=ak h
 ·refine ah 12 h35 (bK (ks':=gK 932::gK 933 :: .b 1::wy M w0 r m1) 4 (aj 3 ?_));obtain⟨h36,h⟩:=aF h;refine az (cy 16 16 3 1 (ba .i64) (rfl) ((fun _=>rfl)) h36) (ac (aC 2 3 1 (aj 2 ?_)));obtain⟨v21,h37,h⟩:=bind_some h;exact aS (BD hK h37) (ac (ae 2 (cg (p:=pn 7468) n (Od hK hL1 n h))))
 ·refine ah 12 h35 (aL 8 ?_);cases h;exact fd
theorem Qq(hK:ao K)(m:Nat):pM M w0 r v1 v2 m (pG K n v1 v2 m):=by
 induction m with
 | zero=>intro v19 v20 h;cases h
 | succ m ih=>intro v19 v20 h;have h:nM K n v1 v2 (pG K n v1 v2 m) v19 v20=some r:=h;exact bB (Pu hK ih h)
theorem Nl(hK:ao K)(h:tw K n v1 v2=some r):aU Tryz.prog 110 [.sl (lm aI v1),iI v2] (fun v s=>v=.ref 16∧look 16 s.r=some ⟨3,1,lm (ba .i64) r⟩):=by
 refine bv (cat Tryz.f110 (pn 1)) Tryz.func110 Tryz.ntmps110 fun M w0=>(bd ⟨[(0,.sl (lm aI v1)),(1,iI v2)],[],[],[]⟩ ?_);unfold tw at h;exact gd 58 0 15 8 (bJ [0,1,5,6] [] [] (gh 16 5 3 1 (ae 0 (cg (p:=pn 58) n (Qq hK n h)))))
end
noncomputable section
variable[GS](M:Nat→Prop)(w0:aE)(r:Int)(v1:aJ)(v2 v3:Int)  
variable{M w0 r v1 v2 v3}{K:Kn}{n:Nat}
theorem Rq(hK:ao K)(h:jh K n v1 v2 v3=some r):aU Tryz.prog 149 [.agg (aV v1),iI v2,iI v3] (fun v _=>v=iI r):=by
 refine bv (cat Tryz.f149 (pn 1)) Tryz.func149 Tryz.ntmps149 fun M w0=>(bd ⟨[(0,.agg (aV v1)),(1,iI v2),(2,iI v3)],[],[],[]⟩ ?_);unfold jh at h;refine aC 13 7 5 ?_;obtain⟨h1,h⟩|⟨h1,h⟩:=ak h
 ·refine ah 9 h1 (aL 5 ?_);cases h;exact bj
 ·refine ah 9 h1 (Fu 21 0 3 8 ?_);obtain⟨h2,h⟩|⟨h2,h⟩:=ak h
  ·refine ah 12 h2 (aL 6 ?_);cases h;exact bj
  ·refine ah 12 h2 (bh 7 3 ?_);obtain⟨h3,h⟩|⟨h3,h⟩:=ak h
   ·refine ah 18 h3 (aL 6 ?_);cases h;exact bj
   ·refine ah 18 h3 (aL 6 ?_);cases h;exact bj
end
noncomputable section
variable[GS](M:Nat→Prop)(w0:aE)(r:Bool)(v1 v2:ByteArray)(v3:Bool)  
abbrev MD(n:Nat):aq:=.c (cat Tryz.f173 (pn n))
abbrev SM:Cx:=⟨Tryz.prog,21,M,w0⟩
abbrev MB:=bodyPost Tryz.prog Tryz.f173 (bA M w0 (fun v _=>v=.bool r))
abbrev LY(ks:List aq)(s:AS):=VE (SM M w0) (MB M w0 r) ks .normal s
def K2:AS:=⟨[(4,.bool v3)],[],[],[]⟩
variable{M w0 r v1 v2 v3}{K:Kn}{n:Nat}
theorem Fx(hK:ao K)(h:qJ K n v3=some r):LY M w0 r [MD 7] (K2 v3):=by
 unfold qJ at h;refine aL 1 ?_;cases h;exact bj
theorem Sj(hK:ao K)(h:wm K n v1 v2=some r):aU Tryz.prog 173 [.str v1,.str v2] (fun v _=>v=.bool r):=by
 refine bv (cat Tryz.f173 (pn 1)) Tryz.func173 Tryz.ntmps173 fun M w0=>(bd ⟨[(0,.str v1),(1,.str v2)],[],[],[]⟩ ?_);unfold wm at h;refine aC 6 7 3 (aj 6 ?_);obtain⟨h1,h⟩|⟨h1,h⟩:=ak h
 ·refine aB 10 h1 (aM 12 6 ?_);obtain⟨h2,h⟩:=aF h;exact az (vc h2) (ac (ae 0 (Fx hK h)))
 ·exact aB 10 h1 (ac (ae 0 (Fx hK h)))
end
noncomputable section
variable[GS](M:Nat→Prop)(w0:aE)(r:Bool)(v1 v2:ByteArray)  
variable{M w0 r v1 v2}{K:Kn}{n:Nat}
theorem RI(hK:ao K)(h:qA K n v1 v2=some r):aU Tryz.prog 151 [.str v1,.str v2] (fun v _=>v=.bool r):=by
 refine bv (cat Tryz.f151 (pn 1)) Tryz.func151 Tryz.ntmps151 fun M w0=>(bd ⟨[(0,.str v1),(1,.str v2)],[],[],[]⟩ ?_);unfold qA at h;refine aC 6 7 3 (aj 2 ?_);obtain⟨v3,h1,h⟩:=bind_some h;refine aS (Sj hK h1) (ac (aL 1 ?_));cases h;exact bj
end
noncomputable section
variable[GS](M:Nat→Prop)(w0:aE)(r:ai)(v1:List au)(v2:aJ)(v3 v8 v9 v10 v11 v12 v15 v78 v79:Int)(v80:List ai)(v82:Bool)(v83:au)(v87:List ai)(v104:Int)(v105:List ai)(m1 m2 m3:Nat)(L1:Int→Int→Int→Option ai)(L2:Int→Int→(List ai)→Option ai)(L3:Int→(List ai)→Option ai)
abbrev mb:Cx:=⟨Tryz.prog,156,M,w0⟩
abbrev l4:=bodyPost Tryz.prog Tryz.f111 (bA M w0 (fun v s=>v=.agg (List.set (aO ({ r with Kids:=[] }:ai)) 66 (.ref 114))∧look 114 s.r=some ⟨44,67,lm aY r.Kids⟩))
abbrev my(ks:List aq)(s:AS):=VE (mb M w0) (l4 M w0 r) ks .normal s
abbrev dC(n:Nat):aq:=.c (cat Tryz.f111 (pn n))
abbrev zy:List aq:=[.b 2,dC 255]
abbrev oT:List aq:=kl (mb M w0) (l4 M w0 r) zy (cat Tryz.f111 (pn 2036)) m2::zy
abbrev zx:List aq:=[.b 0,dC 15]
abbrev Iz:List aq:=kl (mb M w0) (l4 M w0 r) zx (cat Tryz.f111 (pn 116)) m1::zx
abbrev A7:List aq:=.b 4::dC 521423 :: .b 3::dC 16295::oT M w0 r m2
abbrev xA:List aq:=kl (mb M w0) (l4 M w0 r) (A7 M w0 r m2) (cat Tryz.f111 (pn 4171380)) m3::(A7 M w0 r m2)
def SW:AS:=⟨[(0,.sl (lm aI v1)),(2,iI v3),(4,.ptr 4 0),(6,.ptr 6 0),(7,iI v11),(8,iI v12),(24,.sl (lm aI v1)),(25,iI (v1.length:Int)),(26,iI v10)],[(4,aV v2),(6,List.set (aO bG) 66 (.nils))],[],[4,6]⟩
def J0:AS:=⟨[(6,.ptr 6 0),(7,iI v8),(11,.ptr 11 0),(12,iI v78),(13,iI v15),(15,.ptr 15 0),(56,.sl (lm aI v1)),(57,iI (v1.length:Int)),(58,iI v79),(117,.sl (lm aY v83.Box)),(118,iI (v83.Box.length:Int)),(119,iI v104)],[(6,List.set (aO bG) 66 (.nils)),(11,List.set (aO ({ bG with Kind:=2,W:=v3,H:=(ab (v8+v9)),aE:=v8,Style:=v2 }:ai)) 66 (.ref 114)),(15,aI v83)],[(114,⟨44,67,lm aY v105⟩)],[6,11,15,114]⟩
def O0:AS:=⟨[(6,.ptr 6 0),(7,iI v8),(11,.ptr 11 0),(12,iI v78),(13,iI v15),(15,.ptr 15 0),(56,.sl (lm aI v1)),(57,iI (v1.length:Int)),(58,iI v79)],[(6,List.set (aO bG) 66 (.nils)),(11,List.set (aO ({ bG with Kind:=2,W:=v3,H:=(ab (v8+v9)),aE:=v8,Style:=v2 }:ai)) 66 (.ref 114)),(15,aI v83)],[(114,⟨44,67,lm aY v87⟩)],[6,11,15,114]⟩
def Qd:AS:=⟨[(6,.ptr 6 0),(7,iI v8),(11,.ptr 11 0),(12,iI v78),(13,iI v15),(15,.ptr 15 0),(56,.sl (lm aI v1)),(57,iI (v1.length:Int)),(58,iI v79)],[(6,List.set (aO bG) 66 (.nils)),(11,List.set (aO ({ bG with Kind:=2,W:=v3,H:=(ab (v8+v9)),aE:=v8,Style:=v2 }:ai)) 66 (.ref 114)),(15,aI v83)],[(114,⟨44,67,lm aY v80⟩)],[6,11,15,114]⟩
def Pf:AS:=⟨[(6,.ptr 6 0),(7,iI v8),(11,.ptr 11 0),(12,iI v78),(13,iI v15),(15,.ptr 15 0),(56,.sl (lm aI v1)),(57,iI (v1.length:Int)),(58,iI v79),(76,.bool v82)],[(6,List.set (aO bG) 66 (.nils)),(11,List.set (aO ({ bG with Kind:=2,W:=v3,H:=(ab (v8+v9)),aE:=v8,Style:=v2 }:ai)) 66 (.ref 114)),(15,aI (gD v1 v79))],[(114,⟨44,67,lm aY v80⟩)],[6,11,15,114]⟩
def D4:AS:=⟨[(6,.ptr 6 0),(7,iI v8),(11,.ptr 11 0),(12,iI v78),(13,iI v15),(56,.sl (lm aI v1)),(57,iI (v1.length:Int)),(58,iI v79)],[(6,List.set (aO bG) 66 (.nils)),(11,List.set (aO ({ bG with Kind:=2,W:=v3,H:=(ab (v8+v9)),aE:=v8,Style:=v2 }:ai)) 66 (.ref 114))],[(114,⟨44,67,lm aY v80⟩)],[6,11,114]⟩
def Fp:AS:=⟨[(0,.sl (lm aI v1)),(2,iI v3),(4,.ptr 4 0),(6,.ptr 6 0),(7,iI v8),(8,iI v9),(24,.sl (lm aI v1)),(25,iI (v1.length:Int)),(26,iI v10)],[(4,aV v2),(6,List.set (aO bG) 66 (.nils))],[],[4,6]⟩
abbrev B3:Prop:=∀{v8:Int} {v9:Int} {v10:Int},L1 v8 v9 v10=some r→LP (mb M w0) (l4 M w0 r) zx (cat Tryz.f111 (pn 116)) m1 (Fp v1 v2 v3 v8 v9 v10)
abbrev lM:Prop:=∀{v78:Int} {v79:Int} {v80:(List ai)},L2 v78 v79 v80=some r→LP (mb M w0) (l4 M w0 r) zy (cat Tryz.f111 (pn 2036)) m2 (D4 v1 v2 v3 v8 v9 v15 v78 v79 v80)
abbrev J4:Prop:=∀{v104:Int} {v105:(List ai)},L3 v104 v105=some r→LP (mb M w0) (l4 M w0 r) (A7 M w0 r m2) (cat Tryz.f111 (pn 4171380)) m3 (J0 v1 v2 v3 v8 v9 v15 v78 v79 v83 v104 v105)
variable{M w0 r v1 v2 v3 v8 v9 v10 v11 v12 v15 v78 v79 v80 v82 v83 v87 v104 v105 m1 m2 m3 L1 L2 L3}{K:Kn}{n:Nat}
theorem Gd(hK:ao K)(hL1:B3 M w0 r v1 v2 v3 m1 L1)(h:tz K n v1 v2 v3 v10 L1 v11 v12=some r):my M w0 r (.b 1::dC 935::Iz M w0 r m1) (SW v1 v2 v3 v10 v11 v12):=by
 unfold tz at h;exact ae 2 (bz (hL1 h))
theorem SN(hK:ao K)(hL2:lM M w0 r v1 v2 v3 v8 v9 v15 m2 L2)(hL3:J4 M w0 r v1 v2 v3 v8 v9 v15 v78 v79 v83 m2 m3 L3)(h:pr K n v1 v2 v3 v8 v9 v15 v78 v79 v83 L2 L3 v104 v105=some r):my M w0 r (dC 4171380::xA M w0 r m2 m3) (J0 v1 v2 v3 v8 v9 v15 v78 v79 v83 v104 v105):=by
 unfold pr at h;refine aC 6 7 3 ?_;obtain⟨h123,h⟩|⟨h123,h⟩:=ak h
 ·refine ah 120 h123 (c8 8 9 5 3 5 (aj 0 ?_));obtain⟨h124,h⟩:=aF h;refine az (bi aY aO h124 (ky) (ey)) (ac ?_);obtain⟨v106,h125,h⟩:=ci h;obtain⟨v107,h126,h⟩:=ci h;obtain⟨v108,h127,h⟩:=ci h;obtain⟨v109,h128,h⟩:=ci h;obtain⟨v110,h129,h⟩:=ci h;obtain⟨v111,h130,h⟩:=ci h;obtain⟨v112,h131,h⟩:=ci h;obtain⟨v113,h132,h⟩:=ci h;obtain⟨v114,h133,h⟩:=ci h;obtain⟨v115,h134,h⟩:=ci h;refine bR (ks':=dC 533936742::dC 533936743 :: .b 5::dC 33371047::xA M w0 r m2 m3) 3 ⟨[(6,.ptr 6 0),(7,iI v8),(11,.ptr 11 0),(12,iI v78),(13,iI v15),(15,.ptr 15 0),(18,.ptr 18 0),(56,.sl (lm aI v1)),(57,iI (v1.length:Int)),(58,iI v79),(117,.sl (lm aY v83.Box)),(118,iI (v83.Box.length:Int)),(119,iI v104)],[(6,List.set (aO bG) 66 (.nils)),(11,List.set (aO ({ bG with Kind:=2,W:=v3,H:=(ab (v8+v9)),aE:=v8,Style:=v2 }:ai)) 66 (.ref 114)),(15,aI v83),(18,aO (⟨v106,v107,v108,(gD v83.Box v104).Y,(gD v83.Box v104).W,(gD v83.Box v104).H,v109,v110,v111,v112,v113,v114,v115⟩:ai))],[(114,⟨44,67,lm aY v105⟩)],[6,11,15,18,114]⟩ ?_ (by subst h134;subst h133;subst h132;subst h131;subst h130;subst h129;subst h128;subst h127;subst h126;subst h125;kernel_rfl)
  obtain⟨v116,h135,h⟩:=bind_some h;refine bQ 1 (nu 128 [.ptr 18 3,iI ((gD v83.Box v104).Y),iI v8,.ptr 18 5,iI ((gD v83.Box v104).H),iI (ab (v8-((gD v83.Box v104).H))),.ptr 18 63,.agg (cA v113),iI v116,iI (ab ((ab (v8-((gD v83.Box v104).H)))-v116)),iI (ab (((gD v83.Box v104).Y)+(ab ((ab (v8-((gD v83.Box v104).H)))-v116)))),.ptr 18 3]) [] [] [bZ Tryz.prog 156 Tryz.f111 (pn 533936742) 12] (ay (vz 8) (ag (cD 0 1 136 (wT hK h135)) (ay (vz 3) (ag (bX 0) bP)))) ?_;obtain⟨v117,h136,h⟩:=ci h;refine bR (ks':=dC 533936743 :: .b 5::dC 33371047::xA M w0 r m2 m3) 0 ⟨[(6,.ptr 6 0),(7,iI v8),(11,.ptr 11 0),(12,iI v78),(13,iI v15),(15,.ptr 15 0),(18,.ptr 18 0),(56,.sl (lm aI v1)),(57,iI (v1.length:Int)),(58,iI v79),(117,.sl (lm aY v83.Box)),(118,iI (v83.Box.length:Int)),(119,iI v104)],[(6,List.set (aO bG) 66 (.nils)),(11,List.set (aO ({ bG with Kind:=2,W:=v3,H:=(ab (v8+v9)),aE:=v8,Style:=v2 }:ai)) 66 (.ref 114)),(15,aI v83),(18,aO (⟨v106,v107,v108,v117,(gD v83.Box v104).W,(gD v83.Box v104).H,v109,v110,v111,v112,v113,v114,v115⟩:ai))],[(114,⟨44,67,lm aY v105⟩)],[6,11,15,18,114]⟩ ?_ (by subst h136;kernel_rfl)
  refine aj 3 (az (fX aY ([(⟨v106,v107,v108,v117,(gD v83.Box v104).W,(gD v83.Box v104).H,v109,v110,v111,v112,v113,v114,v115⟩:ai)]:List ai) (new:=[aO (⟨v106,v107,v108,v117,(gD v83.Box v104).W,(gD v83.Box v104).H,v109,v110,v111,v112,v113,v114,v115⟩:ai)]) (by simp only[List.map_cons,List.map_nil,ey])) ?_);obtain⟨h137,h⟩:=aF h;exact az (cy 144 114 44 67 aY (rfl) (ky) h137) (ac (ae 2 (bz (hL3 h))))
 ·exact ah 120 h123 (ae 8 (bz (hL2 h)))
theorem RJ(hK:ao K)(hL2:lM M w0 r v1 v2 v3 v8 v9 v15 m2 L2)(m:Nat):J4 M w0 r v1 v2 v3 v8 v9 v15 v78 v79 v83 m2 m (om K n v1 v2 v3 v8 v9 v15 v78 v79 v83 L2 m):=by
 induction m with
 | zero=>intro v104 v105 h;cases h
 | succ m ih=>intro v104 v105 h;have h:pr K n v1 v2 v3 v8 v9 v15 v78 v79 v83 L2 (om K n v1 v2 v3 v8 v9 v15 v78 v79 v83 L2 m) v104 v105=some r:=h;exact bB (SN hK hL2 ih h)
theorem Gh(hK:ao K)(hL2:lM M w0 r v1 v2 v3 v8 v9 v15 m2 L2)(h:nT K n v1 v2 v3 v8 v9 v15 v78 v79 v83 L2 v87=some r):my M w0 r (dC 260711 :: .b 3::dC 16295::oT M w0 r m2) (O0 v1 v2 v3 v8 v9 v15 v78 v79 v83 v87):=by
 unfold nT at h;exact bN 4 5 3 2 (aj 2 (az (bu aY v83.Box) (ac (ae 1 (cg (p:=pn 2085690) n (RJ hK hL2 n h))))))
theorem FN(hK:ao K)(hL2:lM M w0 r v1 v2 v3 v8 v9 v15 m2 L2)(h:jU K n v1 v2 v3 v8 v9 v15 v78 v79 v80 L2 v83=some r):my M w0 r (dC 130355 :: .b 3::dC 16295::oT M w0 r m2) (Qd v1 v2 v3 v8 v9 v15 v78 v79 v80 v83):=by
 unfold jU at h;obtain⟨v84,h99,h⟩:=ci h;refine bR (ks':=dC 521421::dC 260711 :: .b 3::dC 16295::oT M w0 r m2) 3 ⟨[(6,.ptr 6 0),(7,iI v8),(11,.ptr 11 0),(12,iI v78),(13,iI v15),(15,.ptr 15 0),(56,.sl (lm aI v1)),(57,iI (v1.length:Int)),(58,iI v79),(88,.bool v84)],[(6,List.set (aO bG) 66 (.nils)),(11,List.set (aO ({ bG with Kind:=2,W:=v3,H:=(ab (v8+v9)),aE:=v8,Style:=v2 }:ai)) 66 (.ref 114)),(15,aI v83)],[(114,⟨44,67,lm aY v80⟩)],[6,11,15,114]⟩ ?_ (by subst h99;kernel_rfl);obtain⟨h100,h⟩|⟨h100,h⟩:=ak h
 ·refine ah 88 h100 (bh 5 3 (bJ [6,7,11,12,13,15,16,56,57,58] [6,11,15] [114] ?_));obtain⟨v85,h101,h⟩:=bind_some h;obtain⟨v86,h102,h⟩:=bind_some h;obtain⟨h103,h⟩:=aF h;exact bQ 2 (nu 92 [.ptr 11 66,.ref 114,.ptr 15 0,iI v83.Node,.ptr 15 2,.agg (aV v83.Style),.ptr 15 1,.str v83.Text,iI v78,iI v8,iI v83.Style.FontSize,iI v85,iI (ab (v8-v85)),.ptr 15 55,iI v83.Width,.ptr 15 56,iI v83.Space,iI (ab (v83.Width+v83.Space)),iI v83.Style.FontSize,iI v86,.agg (List.set (aO (⟨3,v83.Node,v78,(ab (v8-v85)),(ab (v83.Width+v83.Space)),v86,0,v83.Text,v83.Style,cO,cO,false,[]⟩:ai)) 66 (.nils)),.sl (lm aY [(⟨3,v83.Node,v78,(ab (v8-v85)),(ab (v83.Width+v83.Space)),v86,0,v83.Text,v83.Style,cO,cO,false,[]⟩:ai)])]++nu 115 [.ptr 11 66]) [] [] [fB 114 114 ⟨44,67,lm aY (v80++[(⟨3,v83.Node,v78,(ab (v8-v85)),(ab (v83.Width+v83.Space)),v86,0,v83.Text,v83.Style,cO,cO,false,[]⟩:ai)])⟩,bZ Tryz.prog 156 Tryz.f111 (pn 2085685) 24] (ay [.v 0 2,.v 0 1,.v 0 2,.v 0 2,.v 0 2,.v 0 2,.v 0 2,.v 0 2,.v 0 2,.v 0 2,.v 0 2] (ag (cD 0 2 103 (CT hK h101)) (ay [.v 0 2,.v 0 2,.v 0 2,.v 0 2,.v 0 2,.v 0 2,.v 0 2] (ag (cD 0 1 111 (IH hK h102)) (ay [.v 0 2] (bC (fX aY ([(⟨3,v83.Node,v78,(ab (v8-v85)),(ab (v83.Width+v83.Space)),v86,0,v83.Text,v83.Style,cO,cO,false,[]⟩:ai)]:List ai) (new:=[aO (⟨3,v83.Node,v78,(ab (v8-v85)),(ab (v83.Width+v83.Space)),v86,0,v83.Text,v83.Style,cO,cO,false,[]⟩:ai)]) (by simp only[List.map_cons,List.map_nil,ey])) (ag (ex (m:=0) (cy 114 114 44 67 aY (rfl) (ky) h103)) (ay [.v 1 1] (ag (bX 1) bP))))))))) (ae 0 (Gh hK hL2 h))
 ·exact ah 88 h100 (ae 2 (Gh hK hL2 h))
theorem zp(hK:ao K)(hL2:lM M w0 r v1 v2 v3 v8 v9 v15 m2 L2)(h:kW K n v1 v2 v3 v8 v9 v15 v78 v79 v80 L2 v82=some r):my M w0 r (dC 260709::dC 130355 :: .b 3::dC 16295::oT M w0 r m2) (Pf v1 v2 v3 v8 v9 v15 v78 v79 v80 v82):=by
 unfold kW at h;obtain⟨h97,h⟩|⟨h97,h⟩:=ak h
 ·refine ah 76 h97 (aC 4 5 2 (aj 6 ?_));obtain⟨h98,h⟩:=aF h;exact az (vc h98) (ac (ae 1 (FN hK hL2 h)))
 ·exact ah 76 h97 (ae 2 (FN hK hL2 h))
theorem KX(hK:ao K)(hL2:lM M w0 r v1 v2 v3 v8 v9 v15 m2 L2)(h:mV K n v1 v2 v3 v8 v9 v15 L2 v78 v79 v80=some r):my M w0 r (dC 2036::oT M w0 r m2) (D4 v1 v2 v3 v8 v9 v15 v78 v79 v80):=by
 unfold mV at h;refine aC 6 7 3 ?_;obtain⟨h92,h⟩|⟨h92,h⟩:=ak h
 ·refine ah 59 h92 (c8 8 9 3 3 5 (aj 1 ?_));obtain⟨h93,h⟩:=aF h;refine az (bi aI aI h93 (fu) ((fun _=>rfl))) (ac (bN 4 5 3 2 (aj 4 ?_)));obtain⟨h94,h⟩|⟨h94,h⟩:=ak h
  ·refine aB 66 h94 (aM 6 2 ?_);obtain⟨v81,h95,h⟩:=bind_some h;refine aS (RI hK h95) (aM 9 2 ?_);obtain⟨h96,h⟩|⟨h96,h⟩:=ak h
   ·exact aB 71 h96 (ac (ae 0 (zp hK hL2 h)))
   ·exact aB 71 h96 (ac (ae 0 (zp hK hL2 h)))
  ·exact aB 66 h94 (ac (ae 0 (zp hK hL2 h)))
 ·refine ah 59 h92 (aL 8 ?_);cases h;exact fd
theorem Lo(hK:ao K)(m:Nat):lM M w0 r v1 v2 v3 v8 v9 v15 m (je K n v1 v2 v3 v8 v9 v15 m):=by
 induction m with
 | zero=>intro v78 v79 v80 h;cases h
 | succ m ih=>intro v78 v79 v80 h;have h:mV K n v1 v2 v3 v8 v9 v15 (je K n v1 v2 v3 v8 v9 v15 m) v78 v79 v80=some r:=h;exact bB (KX hK ih h)
theorem Vv(hK:ao K)(hL1:B3 M w0 r v1 v2 v3 m1 L1)(h:ot K n v1 v2 v3 L1 v8 v9 v10=some r):my M w0 r (dC 116::Iz M w0 r m1) (Fp v1 v2 v3 v8 v9 v10):=by
 unfold ot at h;refine aC 6 7 3 ?_;obtain⟨h6,h⟩|⟨h6,h⟩:=ak h
 ·refine ah 27 h6 (c8 8 9 1 3 5 (aj 0 ?_));obtain⟨h7,h⟩:=aF h;refine az (bi aI aI h7 (fu) ((fun _=>rfl))) (ac (bh 3 2 ?_));obtain⟨h8,h⟩|⟨h8,h⟩:=ak h
  ·exact ah 32 h8 (bh 2 1 (bJ [0,2,4,6,7,8,10,24,25,26] [4,6,10] [] (bQ 2 (nu 33 [iI v8,.ptr 10 57,iI ((gD v1 v10).Above),iI (max v8 ((gD v1 v10).Above)),iI v9,.ptr 10 58,iI ((gD v1 v10).Below),iI (max v9 ((gD v1 v10).Below))]) [] [] [bZ Tryz.prog 156 Tryz.f111 (pn 14950) 8,bZ Tryz.prog 156 Tryz.f111 (pn 14950) 9] (ay [.v 0 1,.v 0 1,.v 0 1,.v 0 1,.v 0 2,.v 0 2,.v 0 2,.v 0 2] (ag (bX 0) (ag (bX 1) bP))) (ae 0 (Gd hK hL1 h)))))
  ·exact ah 32 h8 (ae 2 (Gd hK hL1 h))
 ·refine ah 27 h6 (kV 6 7 8 (bJ [0,2,4,6,7,11] [4,6,11] [] ?_));obtain⟨v13,h9,h⟩:=bind_some h;obtain⟨v14,h10,h⟩:=bind_some h;refine bQ 1 (nu 49 [.agg (aV v2),iI v3,.sl (lm aI v1),iI v13,iI v14]) [] [] [bZ Tryz.prog 156 Tryz.f111 (pn 62) 5] (ay (vz 3) (ag (cD 0 1 52 (ui hK h9)) (ag (cD 0 1 53 (Rq hK h10)) (ag (bX 0) bP)))) (aC 2 3 1 (aj 1 ?_));obtain⟨v15,h11,h⟩:=bind_some h;exact aS (IG hK h11) (ac (bN 4 5 3 2 (aj 1 (az (bu aI v1) (ac (iK 2 2 1 (bJ [6,7,11,12,13,56,57,58] [6,11] [] (ud 114 11 66 44 67 (ae 0 (cg (p:=pn 1018) n (Lo hK n h)))))))))))
theorem Pz(hK:ao K)(m:Nat):B3 M w0 r v1 v2 v3 m (nA K n v1 v2 v3 m):=by
 induction m with
 | zero=>intro v8 v9 v10 h;cases h
 | succ m ih=>intro v8 v9 v10 h;have h:ot K n v1 v2 v3 (nA K n v1 v2 v3 m) v8 v9 v10=some r:=h;exact bB (Vv hK ih h)
theorem Pq(hK:ao K)(h:sI K n v1 v2 v3=some r):aU Tryz.prog 111 [.sl (lm aI v1),.agg (aV v2),iI v3] (fun v s=>v=.agg (List.set (aO ({ r with Kids:=[] }:ai)) 66 (.ref 114))∧look 114 s.r=some ⟨44,67,lm aY r.Kids⟩):=by
 refine bv (cat Tryz.f111 (pn 1)) Tryz.func111 Tryz.ntmps111 fun M w0=>(bd ⟨[(0,.sl (lm aI v1)),(1,.agg (aV v2)),(2,iI v3)],[],[],[]⟩ ?_);unfold sI at h;refine aC 6 7 3 (aj 1 ?_);obtain⟨v4,h1,h⟩:=bind_some h;exact aS (Bc hK h1) (ac (bN 4 5 3 2 (aj 1 (az (bu aI v1) (ac (ae 1 (cg (p:=pn 58) n (Pz hK n h))))))))
end
noncomputable section
variable[GS](M:Nat→Prop)(w0:aE)(r:(List ai)×Int)(v1:List aa)(v2:aJ)(v3:Int)(v4:bF)(v5:List au)(v6:List Int)(v13 v14 v15:Int)(v16:List ai)(m1:Nat)(L1:Int→Int→Int→(List ai)→Option ((List ai)×Int))
abbrev yD:Cx:=⟨Tryz.prog,61,M,w0⟩
abbrev Aa:=bodyPost Tryz.prog Tryz.f53 (bA M w0 (fun v s=>v=.tup [.ref 57,iI r.2]∧look 57 s.r=some ⟨44,67,lm aY r.1⟩))
abbrev NM(ks:List aq)(s:AS):=VE (yD M w0) (Aa M w0 r) ks .normal s
abbrev HX(n:Nat):aq:=.c (cat Tryz.f53 (pn n))
abbrev yl:List aq:=[.b 0,HX 63]
abbrev MW:List aq:=kl (yD M w0) (Aa M w0 r) yl (cat Tryz.f53 (pn 500)) m1::yl
def HL:AS:=⟨[(2,iI (min (max v3 0) 1048576)),(5,.ptr 5 0),(8,.ref 57),(9,iI v13),(10,.sl (lm aI v5)),(11,.ref 1023),(30,iI v14),(31,iI v15)],[(5,aV v2)],[(57,⟨44,67,lm aY v16⟩),(1023,⟨3,1,lm (ba .i64) (v6++[(v5.length:Int)])⟩)],[5,57,1023]⟩
abbrev CC:Prop:=∀{v13:Int} {v14:Int} {v15:Int} {v16:(List ai)},L1 v13 v14 v15 v16=some r→LP (yD M w0) (Aa M w0 r) yl (cat Tryz.f53 (pn 500)) m1 (HL v2 v3 v5 v6 v13 v14 v15 v16)
variable{M w0 r v1 v2 v3 v4 v5 v6 v13 v14 v15 v16 m1 L1}{K:Kn}{n:Nat}
theorem Pb(hK:ao K)(hL1:CC M w0 r v2 v3 v5 v6 m1 L1)(h:o8 K n v2 v3 v5 v6 L1 v13 v14 v15 v16=some r):NM M w0 r (HX 500::MW M w0 r m1) (HL v2 v3 v5 v6 v13 v14 v15 v16):=by
 unfold o8 at h;refine aC 6 7 3 ?_;obtain⟨h20,h⟩|⟨h20,h⟩:=ak h
 ·refine ah 32 h20 (c8 18 19 1 3 7 (bJ [2,5,8,9,10,11,12,30,31] [5] [57,1023] ?_));obtain⟨h21,h⟩:=aF h;obtain⟨h22,h⟩:=aF h;obtain⟨h23,h⟩:=aF h;obtain⟨v17,h24,h⟩:=bind_some h;refine bQ 1 (nu 34 [.sl (lm aI v5),.ref 1023,iI v15,.eptr 1023 1 (v15.toNat) 0,iI (gD (v6++[(v5.length:Int)]) v15),.ref 1023,iI v15,iI (ab (v15+1)),.eptr 1023 1 (((ab (v15+1))).toNat) 0,iI (gD (v6++[(v5.length:Int)]) ((ab (v15+1)))),.sl (lm aI (List.drop ((gD (v6++[(v5.length:Int)]) v15)).toNat (List.take ((gD (v6++[(v5.length:Int)]) ((ab (v15+1))))).toNat v5))),.agg (aV v2),iI (min (max v3 0) 1048576),.agg (List.set (aO ({ v17 with Kids:=[] }:ai)) 66 (.ref 47))]++nu 13 [.ptr 13 0]) [(13,List.set (aO bG) 66 (.nils))] [(47,⟨44,67,lm aY v17.Kids⟩)] [bZ Tryz.prog 61 Tryz.f53 (pn 32050) 15] (ay (vz 3) (bC (d8 1023 1 (ba .i64) (L:=(v6++[(v5.length:Int)])) h21) (bC (cR 3 0 (ba .i64) (ba .i64) (cE h21).2 ((fun _=>rfl))) (ay (vz 3) (bC (d8 1023 1 (ba .i64) (L:=(v6++[(v5.length:Int)])) h22) (bC (cR 3 0 (ba .i64) (ba .i64) (cE h22).2 ((fun _=>rfl))) (bC (gW aI v5 (gD (v6++[(v5.length:Int)]) v15) (gD (v6++[(v5.length:Int)]) ((ab (v15+1)))) 159 (.tmp 34) (some (.tmp 38)) (some (.tmp 43)) 44 (e:=165) (sz:=62) (by kernel_rfl) (by kernel_rfl) (by kernel_rfl) (by kernel_rfl) (by kernel_rfl) (by kernel_rfl) (fu) (fun k hk=>by subst hk;kernel_rfl) h23) (ay (vz 2) (ag (y9 0 1 47 (Pq hK h24) (tU (i:=66) (by kernel_rfl))) (ag (pw 0 1 44 13 (List.set (aO bG) 66 (.nils))) (ag (bX 0) bP))))))))))) (bh 7 4 (aj 2 (vm 47 (az (fX aY ([({ v17 with Y:=v13 }:ai)]:List ai) (new:=[aO ({ v17 with Y:=v13 }:ai)]) (by simp only[List.map_cons,List.map_nil,ey])) ?_))))
  obtain⟨h25,h⟩:=aF h;exact az (cy 57 57 44 67 aY (rfl) (ky) h25) (ac (ae 2 (bz (hL1 h))))
 ·refine ah 32 h20 (aL 8 ?_);cases h;exact vn
theorem UR(hK:ao K)(m:Nat):CC M w0 r v2 v3 v5 v6 m (nf K n v2 v3 v5 v6 m):=by
 induction m with
 | zero=>intro v13 v14 v15 v16 h;cases h
 | succ m ih=>intro v13 v14 v15 v16 h;have h:o8 K n v2 v3 v5 v6 (nf K n v2 v3 v5 v6 m) v13 v14 v15 v16=some r:=h;exact bB (Pb hK ih h)
theorem Qm(hK:ao K)(h:tm K n v1 v2 v3 v4=some r):aU Tryz.prog 53 [.sl (lm aR v1),.agg (aV v2),iI v3,.agg (bW v4)] (fun v s=>v=.tup [.ref 57,iI r.2]∧look 57 s.r=some ⟨44,67,lm aY r.1⟩):=by
 refine bv (cat Tryz.f53 (pn 1)) Tryz.func53 Tryz.ntmps53 fun M w0=>(bd ⟨[(0,.sl (lm aR v1)),(1,.agg (aV v2)),(2,iI v3),(3,.agg (bW v4))],[],[],[]⟩ ?_);unfold tm at h;refine aC 14 15 5 (aj 3 ?_);obtain⟨v5,h1,h⟩:=bind_some h;refine fU 1020 (LI hK h1) (fS 1009) (ac (aC 2 3 1 (aj 2 (vm 1020 ?_))));obtain⟨v6,h2,h⟩:=bind_some h;refine fU 1023 (Nl hK h2) (fS 16) (aM 4 1 (az (bu aI v5) (aM 6 1 ?_)));obtain⟨h3,h⟩:=aF h;exact az (cy 27 1023 3 1 (ba .i64) (rfl) ((fun _=>rfl)) h3) (ac (bN 4 5 3 2 (aj 1 (az (bu (ba .i64) (v6++[(v5.length:Int)])) (ac (iK 2 0 1 (bJ [2,5,8,9,10,11,30,31] [5] [1023] (gh 57 8 44 67 (ae 0 (cg (p:=pn 250) n (UR hK n h)))))))))))
end
noncomputable section
variable[GS](M:Nat→Prop)(w0:aE)(r:(List ai)×Int)(v1:List aa)(v2:aJ)(v3:Int)(v4:bF)  
variable{M w0 r v1 v2 v3 v4}{K:Kn}{n:Nat}
theorem OX(hK:ao K)(h:rc K n v1 v2 v3 v4=some r):aU Tryz.prog 52 [.sl (lm aR v1),.agg (aV v2),iI v3,.cptr (bW v4)] (fun v s=>v=.tup [.ref 1013,iI r.2]∧look 1013 s.r=some ⟨44,67,lm aY r.1⟩):=by
 refine bv (cat Tryz.f52 (pn 1)) Tryz.func52 Tryz.ntmps52 fun M w0=>(bd ⟨[(0,.sl (lm aR v1)),(1,.agg (aV v2)),(2,iI v3),(3,.cptr (bW v4))],[],[],[]⟩ ?_);unfold rc at h;refine aC 6 7 3 (aj 4 ?_);obtain⟨v5,h1,h⟩:=bind_some h;refine fU 1013 (Qm hK h1) (Gt (i:=0) rfl) (ac (aL 1 ?_));cases h;exact vn
end
noncomputable section
variable[GS](M:Nat→Prop)(w0:aE)(r:au×(List Int))(v1:aa)(v2:bF)(v3:List Int)  
variable{M w0 r v1 v2 v3}{K:Kn}{n:Nat}
theorem QR(hK:ao K)(h:AL K n v1 v2 v3=some r):f8 Tryz.prog 113 [.agg (av v1),.cptr (bW v2),.ptr 1 0] [(1,[.ref 9])] 9 ⟨3,1,lm (ba .i64) v3⟩ [9,1,1000001] (fun v s=>v=.agg (aI r.1)∧cj s.o [(1,[.ref 9])]∧look 9 s.r=some ⟨3,1,lm (ba .i64) r.2⟩):=by
 refine jO (c:=cat Tryz.f113 (pn 1)) Tryz.func113 (by kernel_rfl) _ Tryz.ntmps113 (of_decide_eq_true (by kernel_rfl)) fun M w0=>(bd ⟨[(0,.agg (av v1)),(1,.cptr (bW v2)),(2,.ptr 1 0)],[(1,[.ref 9])],[(9,⟨3,1,lm (ba .i64) v3⟩)],[9,1,1000001]⟩ ?_);unfold AL at h;refine aC 6 7 3 (aj 3 ?_);obtain⟨v4,h1,h⟩:=bind_some h;refine k9 (hK.oC h1) (ac (aC 2 3 1 (aj 3 ?_)));obtain⟨h2,h⟩:=aF h;refine az (cy 17 9 3 1 (ba .i64) (rfl) ((fun _=>rfl)) h2) (ac (aL 3 (jF 4 ?_)));cases h;exact dL
end
noncomputable section
variable[GS](M:Nat→Prop)(w0:aE)(r:au×Int×(List Int))(v1:aa)(v2:Int)(v3:List Int)  
variable{M w0 r v1 v2 v3}{K:Kn}{n:Nat}
theorem VL(hK:ao K)(h:BJ K n v1 v2 v3=some r):f8 Tryz.prog 114 [.agg (av v1),.ptr 1 0,.ptr 2 0] [(1,[iI v2]),(2,[.ref 9])] 9 ⟨3,1,lm (ba .i64) v3⟩ [9,1,2,1000001,1000002] (fun v s=>v=.agg (aI r.1)∧cj s.o [(1,[iI r.2.1]),(2,[.ref 9])]∧look 9 s.r=some ⟨3,1,lm (ba .i64) r.2.2⟩):=by
 refine jO (c:=cat Tryz.f114 (pn 1)) Tryz.func114 (by kernel_rfl) _ Tryz.ntmps114 (of_decide_eq_true (by kernel_rfl)) fun M w0=>(bd ⟨[(0,.agg (av v1)),(1,.ptr 1 0),(2,.ptr 2 0)],[(1,[iI v2]),(2,[.ref 9])],[(9,⟨3,1,lm (ba .i64) v3⟩)],[9,1,2,1000001,1000002]⟩ ?_);unfold BJ at h;refine aC 14 15 5 (aj 3 ?_);obtain⟨h1,h⟩:=aF h;refine az (cS 9 1 (ba .i64) h1) (az (cR 3 0 (ba .i64) (ba .i64) (cE h1).2 ((fun _=>rfl))) (ac (aL 1 (jF 4 ?_))));cases h;exact dL
end
noncomputable section
variable[GS](M:Nat→Prop)(w0:aE)(r:(List au)×(List Int))(v1:List aa)(v2:bF)(v3:List Int)(v4:List aD)(v33:Int)(v34:List Int)(v35:List au)(v37:Bool)(v43:Int)(v45:Bool)(v47:Int)(v48:List Int)(v49:au)(m1 m2:Nat)(L1:Int→(List Int)→(List au)→Option ((List au)×(List Int)))(L2:Int→Option ((List au)×(List Int)))
abbrev rk:Cx:=⟨Tryz.prog,120,M,w0⟩
abbrev ro:=bodyPost Tryz.prog Tryz.f112 (bA M w0 (fun v s=>v=.sl (lm aI r.1)∧cj s.o [(1,[.ref 9])]∧look 9 s.r=some ⟨3,1,lm (ba .i64) r.2⟩))
abbrev rG(ks:List aq)(s:AS):=VE (rk M w0) (ro M w0 r) ks .normal s
abbrev dU(n:Nat):aq:=.c (cat Tryz.f112 (pn n))
abbrev xE:List aq:=[.b 0,dU 31]
abbrev iU:List aq:=kl (rk M w0) (ro M w0 r) xE (cat Tryz.f112 (pn 244)) m1::xE
abbrev xK:List aq:=.b 3::dU 4009823 :: .b 2::dU 31327 :: .b 1::iU M w0 r m1
abbrev EJ:List aq:=kl (rk M w0) (ro M w0 r) (xK M w0 r m1) (cat Tryz.f112 (pn 16039288)) m2::(xK M w0 r m1)
def N3:AS:=⟨[(1,.fno 113 [.cptr (bW v2),.ptr 1 0]),(5,.sl (lm am v4)),(6,.ref 117),(8,.ptr 8 0),(9,.bool v37),(10,.ptr 10 0),(11,iI v47)],[(1,[.ref 9]),(8,am (gD v4 v33)),(10,aI v49)],[(9,⟨3,1,lm (ba .i64) v48⟩),(117,⟨165,62,lm aI v35⟩)],[1,8,10,9,117,1000001,1]⟩
def Vg:AS:=⟨[(1,.fno 113 [.cptr (bW v2),.ptr 1 0]),(5,.sl (lm am v4)),(6,.ref 117),(7,iI v33),(8,.ptr 8 0),(9,.bool v37),(10,.ptr 10 0),(11,iI v43),(81,.bool v45)],[(1,[.ref 9]),(8,am (gD v4 v33)),(10,List.set (aI cv) 61 (.nils))],[(9,⟨3,1,lm (ba .i64) v34⟩),(117,⟨165,62,lm aI v35⟩)],[1,8,10,9,117,1000001,1]⟩
def Cv:AS:=⟨[(1,.fno 113 [.cptr (bW v2),.ptr 1 0]),(5,.sl (lm am v4)),(6,.ref 117),(7,iI v33),(8,.ptr 8 0),(9,.bool v37),(10,.ptr 10 0),(11,iI v43)],[(1,[.ref 9]),(8,am (gD v4 v33)),(10,List.set (aI cv) 61 (.nils))],[(9,⟨3,1,lm (ba .i64) v34⟩),(117,⟨165,62,lm aI v35⟩)],[1,8,10,9,117,1000001,1]⟩
def M8:AS:=⟨[(1,.fno 113 [.cptr (bW v2),.ptr 1 0]),(5,.sl (lm am v4)),(6,.ref 117),(7,iI v33),(8,.ptr 8 0),(9,.bool v37)],[(1,[.ref 9]),(8,am (gD v4 v33))],[(9,⟨3,1,lm (ba .i64) v34⟩),(117,⟨165,62,lm aI v35⟩)],[1,8,9,117,1000001,1]⟩
def CR:AS:=⟨[(1,.fno 113 [.cptr (bW v2),.ptr 1 0]),(5,.sl (lm am v4)),(6,.ref 117),(7,iI v33)],[(1,[.ref 9])],[(9,⟨3,1,lm (ba .i64) v34⟩),(117,⟨165,62,lm aI v35⟩)],[1,9,117,1000001,1]⟩
abbrev lK:Prop:=∀{v33:Int} {v34:(List Int)} {v35:(List au)},L1 v33 v34 v35=some r→LP (rk M w0) (ro M w0 r) xE (cat Tryz.f112 (pn 244)) m1 (CR v2 v4 v33 v34 v35)
abbrev zL:Prop:=∀{v43:Int},L2 v43=some r→LP (rk M w0) (ro M w0 r) (xK M w0 r m1) (cat Tryz.f112 (pn 16039288)) m2 (Cv v2 v4 v33 v34 v35 v37 v43)
variable{M w0 r v1 v2 v3 v4 v33 v34 v35 v37 v43 v45 v47 v48 v49 m1 m2 L1 L2}{K:Kn}{n:Nat}
theorem y8(hK:ao K)(hL1:lK M w0 r v2 v4 m1 L1)(h:ta K n v2 v4 v33 v35 v37 L1 v47 v48 v49=some r):rG M w0 r (.b 2::dU 31327 :: .b 1::iU M w0 r m1) (N3 v2 v4 v33 v35 v37 v47 v48 v49):=by
 unfold ta at h;refine eV 2 3 2 (bJ [1,5,6,8,9,10,11] [1,8,10] [9,117] (bQ 3 (nu 100 [.ptr 8 4,.cptr (av ((gD v4 v33).Box)),.cptr (av ((gD v4 v33).Box)),.cptr (List.drop 1 (av ((gD v4 v33).Box))),iI (((gD v4 v33).Box).Node),.ptr 8 4,.cptr (av ((gD v4 v33).Box)),.cptr (av ((gD v4 v33).Box)),.cptr (List.drop 2 (av ((gD v4 v33).Box))),.agg (aV (((gD v4 v33).Box).Style)),.bool v37,.ptr 10 0,.ptr 10 2,.ptr 10 59]) [] [] [bZ Tryz.prog 120 Tryz.f112 (pn 62654) 12,bZ Tryz.prog 120 Tryz.f112 (pn 62654) 14,bZ Tryz.prog 120 Tryz.f112 (pn 62654) 16] (ay [.v 0 1,.v 0 1,.v 0 1,.v 0 1,.v 0 1,.v 0 2,.v 0 2,.v 0 2,.v 0 2,.v 0 2,.v 0 3,.v 0 1] (ag (bX 0) (ay [.v 1 1] (ag (bX 1) (ay [.v 2 1] (ag (bX 2) bP)))))) ?_));obtain⟨v50,h94,h⟩:=ci h;obtain⟨v51,h95,h⟩:=ci h;refine bR (ks':=dU 125310::dU 125311 :: .b 1::iU M w0 r m1) 1 ⟨[(1,.fno 113 [.cptr (bW v2),.ptr 1 0]),(5,.sl (lm am v4)),(6,.ref 117),(10,.ptr 10 0),(11,iI v47)],[(1,[.ref 9]),(10,aI ({ v49 with Node:=v50,Style:=v51,Glued:=v37 }:au))],[(9,⟨3,1,lm (ba .i64) v48⟩),(117,⟨165,62,lm aI v35⟩)],[1,10,9,117,1000001,1]⟩ ?_ (by subst h95;subst h94;kernel_rfl)
 refine aj 3 ?_;obtain⟨h96,h⟩:=aF h;exact az (cy 117 117 165 62 aI (rfl) (fu) h96) (ac (ae 2 (bz (hL1 h))))
theorem wK(hK:ao K)(hL1:lK M w0 r v2 v4 m1 L1)(hL2:zL M w0 r v2 v4 v33 v34 v35 v37 m1 m2 L2)(h:nn K n v2 v4 v33 v34 v35 v37 v43 L1 L2 v45=some r):rG M w0 r (dU 64157153::dU 32078577::EJ M w0 r m1 m2) (Vg v2 v4 v33 v34 v35 v37 v43 v45):=by
 unfold nn at h;obtain⟨h91,h⟩|⟨h91,h⟩:=ak h
 ·exact ah 81 h91 (ae 5 (bz (hL2 h)))
 ·refine ah 81 h91 (bK (ks':=dU 4009823 :: .b 2::dU 31327 :: .b 1::iU M w0 r m1) 5 (aj 3 ?_));obtain⟨h92,h⟩:=aF h;refine az (gW am v4 v33 v43 206 (.tmp 84) (some (.tmp 85)) (some (.tmp 86)) 87 (e:=210) (sz:=5) (by kernel_rfl) (by kernel_rfl) (by kernel_rfl) (by kernel_rfl) (by kernel_rfl) (by kernel_rfl) (cn) (fun k hk=>by subst hk;kernel_rfl) h92) ?_;obtain⟨v46,h93,h⟩:=bind_some h;exact aS (AO hK h93) (ac (ae 0 (y8 hK hL1 h)))
theorem Ok(hK:ao K)(hL1:lK M w0 r v2 v4 m1 L1)(hL2:zL M w0 r v2 v4 v33 v34 v35 v37 m1 m2 L2)(h:vx K n v2 v4 v33 v34 v35 v37 L1 L2 v43=some r):rG M w0 r (dU 16039288::EJ M w0 r m1 m2) (Cv v2 v4 v33 v34 v35 v37 v43):=by
 unfold vx at h;refine bN 4 5 3 2 (bJ [1,5,6,7,8,9,10,11] [1,8,10] [9,117] ?_);obtain⟨h83,h⟩|⟨h83,h⟩:=ak h
 ·obtain⟨h84,h⟩:=aF h;obtain⟨h85,h⟩|⟨h85,h⟩:=ak h
  ·obtain⟨h86,h⟩:=aF h;obtain⟨h87,h⟩|⟨h87,h⟩:=ak h
   ·obtain⟨h88,h⟩:=aF h;obtain⟨h89,h⟩:=aF h;obtain⟨v44,h90,h⟩:=bind_some h;exact bQ 0 (nu 47 [iI v43,.sl (lm am v4),iI (v4.length:Int),.bool (decide (v43<(v4.length:Int))),.bool true,.sl (lm am v4),iI v43,.cptr (am (gD v4 v43)),.cptr (List.drop 0 (am (gD v4 v43))),iI ((gD v4 v43).Kind),.bool (((gD v4 v43).Kind) == 1),.bool (((gD v4 v43).Kind) == 1),.bool true,.sl (lm am v4),iI v43,.cptr (am (gD v4 v43)),.cptr (List.drop 1 (am (gD v4 v43))),iI ((gD v4 v43).Of),.ptr 8 1,iI ((gD v4 v33).Of),.bool (((gD v4 v43).Of) == ((gD v4 v33).Of)),.bool (((gD v4 v43).Of) == ((gD v4 v33).Of)),.bool true,.sl (lm am v4),iI v43,iI (ab (v43-1)),.cptr (am (gD v4 ((ab (v43-1))))),.agg (am (gD v4 ((ab (v43-1))))),.sl (lm am v4),iI v43,.cptr (am (gD v4 v43)),.agg (am (gD v4 v43)),.bool v44,.bool (!v44),.bool (!v44)]) [] [] [] (ay (vz 2) (bC (bu am v4) (ay [.v 0 1] (ag (cu 0 51 (e:=(decide (v43<(v4.length:Int)))) (b:=true) h83) (ay (vz 2) (bC (bi am am h84 (cn) ((fun _=>rfl))) (ay (vz 4) (ag (cu 0 59 (e:=(((gD v4 v43).Kind) == 1)) (b:=true) h85) (ay (vz 2) (bC (bi am am h86 (cn) ((fun _=>rfl))) (ay (vz 6) (ag (cu 0 69 (e:=(((gD v4 v43).Of) == ((gD v4 v33).Of))) (b:=true) h87) (ay (vz 3) (bC (bi am am h88 (cn) ((fun _=>rfl))) (ay (vz 3) (bC (bi am am h89 (cn) ((fun _=>rfl))) (ay [.v 0 1] (ag (cD 0 1 79 (nk hK h90)) (ay (vz 2) bP))))))))))))))))))) (ae 0 (wK hK hL1 hL2 h))
   ·exact bQ 0 (nu 47 [iI v43,.sl (lm am v4),iI (v4.length:Int),.bool (decide (v43<(v4.length:Int))),.bool true,.sl (lm am v4),iI v43,.cptr (am (gD v4 v43)),.cptr (List.drop 0 (am (gD v4 v43))),iI ((gD v4 v43).Kind),.bool (((gD v4 v43).Kind) == 1),.bool (((gD v4 v43).Kind) == 1),.bool true,.sl (lm am v4),iI v43,.cptr (am (gD v4 v43)),.cptr (List.drop 1 (am (gD v4 v43))),iI ((gD v4 v43).Of),.ptr 8 1,iI ((gD v4 v33).Of),.bool (((gD v4 v43).Of) == ((gD v4 v33).Of)),.bool (((gD v4 v43).Of) == ((gD v4 v33).Of)),.bool false,.tup [],.tup [],.tup [],.tup [],.tup [],.tup [],.tup [],.tup [],.tup [],.tup [],.tup [],.bool false]) [] [] [] (ay (vz 2) (bC (bu am v4) (ay [.v 0 1] (ag (cu 0 51 (e:=(decide (v43<(v4.length:Int)))) (b:=true) h83) (ay (vz 2) (bC (bi am am h84 (cn) ((fun _=>rfl))) (ay (vz 4) (ag (cu 0 59 (e:=(((gD v4 v43).Kind) == 1)) (b:=true) h85) (ay (vz 2) (bC (bi am am h86 (cn) ((fun _=>rfl))) (ay (vz 6) (ag (cu 0 69 (e:=(((gD v4 v43).Of) == ((gD v4 v33).Of))) (b:=false) h87) (ag (ax 0 1) (ag (ax 0 1) (ag (ax 0 1) (ag (ax 0 1) (ag (ax 0 1) (ag (ax 0 1) (ag (ax 0 1) (ag (ax 0 1) (ag (ax 0 1) (ag (ax 0 1) (ag (ax 0 1) (ay [.v 0 1] bP)))))))))))))))))))))))) (ae 0 (wK hK hL1 hL2 h))
  ·exact bQ 0 (nu 47 [iI v43,.sl (lm am v4),iI (v4.length:Int),.bool (decide (v43<(v4.length:Int))),.bool true,.sl (lm am v4),iI v43,.cptr (am (gD v4 v43)),.cptr (List.drop 0 (am (gD v4 v43))),iI ((gD v4 v43).Kind),.bool (((gD v4 v43).Kind) == 1),.bool (((gD v4 v43).Kind) == 1),.bool false,.tup [],.tup [],.tup [],.tup [],.tup [],.tup [],.tup [],.tup [],.bool false,.bool false,.tup [],.tup [],.tup [],.tup [],.tup [],.tup [],.tup [],.tup [],.tup [],.tup [],.tup [],.bool false]) [] [] [] (ay (vz 2) (bC (bu am v4) (ay [.v 0 1] (ag (cu 0 51 (e:=(decide (v43<(v4.length:Int)))) (b:=true) h83) (ay (vz 2) (bC (bi am am h84 (cn) ((fun _=>rfl))) (ay (vz 4) (ag (cu 0 59 (e:=(((gD v4 v43).Kind) == 1)) (b:=false) h85) (ag (ax 0 1) (ag (ax 0 1) (ag (ax 0 1) (ag (ax 0 1) (ag (ax 0 1) (ag (ax 0 1) (ag (ax 0 1) (ag (ax 0 1) (ay (vz 2) (ag (ax 0 1) (ag (ax 0 1) (ag (ax 0 1) (ag (ax 0 1) (ag (ax 0 1) (ag (ax 0 1) (ag (ax 0 1) (ag (ax 0 1) (ag (ax 0 1) (ag (ax 0 1) (ag (ax 0 1) (ay [.v 0 1] bP))))))))))))))))))))))))))))) (ae 0 (wK hK hL1 hL2 h))
 ·exact bQ 0 (nu 47 [iI v43,.sl (lm am v4),iI (v4.length:Int),.bool (decide (v43<(v4.length:Int))),.bool false,.tup [],.tup [],.tup [],.tup [],.tup [],.tup [],.bool false,.bool false,.tup [],.tup [],.tup [],.tup [],.tup [],.tup [],.tup [],.tup [],.bool false,.bool false,.tup [],.tup [],.tup [],.tup [],.tup [],.tup [],.tup [],.tup [],.tup [],.tup [],.tup [],.bool false]) [] [] [] (ay (vz 2) (bC (bu am v4) (ay [.v 0 1] (ag (cu 0 51 (e:=(decide (v43<(v4.length:Int)))) (b:=false) h83) (ag (ax 0 1) (ag (ax 0 1) (ag (ax 0 1) (ag (ax 0 1) (ag (ax 0 1) (ag (ax 0 1) (ay (vz 2) (ag (ax 0 1) (ag (ax 0 1) (ag (ax 0 1) (ag (ax 0 1) (ag (ax 0 1) (ag (ax 0 1) (ag (ax 0 1) (ag (ax 0 1) (ay (vz 2) (ag (ax 0 1) (ag (ax 0 1) (ag (ax 0 1) (ag (ax 0 1) (ag (ax 0 1) (ag (ax 0 1) (ag (ax 0 1) (ag (ax 0 1) (ag (ax 0 1) (ag (ax 0 1) (ag (ax 0 1) (ay [.v 0 1] bP)))))))))))))))))))))))))))))))) (ae 0 (wK hK hL1 hL2 h))
theorem Kz(hK:ao K)(hL1:lK M w0 r v2 v4 m1 L1)(m:Nat):zL M w0 r v2 v4 v33 v34 v35 v37 m1 m (uz K n v2 v4 v33 v34 v35 v37 L1 m):=by
 induction m with
 | zero=>intro v43 h;cases h
 | succ m ih=>intro v43 h;have h:vx K n v2 v4 v33 v34 v35 v37 L1 (uz K n v2 v4 v33 v34 v35 v37 L1 m) v43=some r:=h;exact bB (Ok hK hL1 ih h)
theorem zd(hK:ao K)(hL1:lK M w0 r v2 v4 m1 L1)(h:rz K n v2 v4 v33 v34 v35 L1 v37=some r):rG M w0 r (dU 3915 :: .b 1::iU M w0 r m1) (M8 v2 v4 v33 v34 v35 v37):=by
 unfold rz at h;obtain⟨v38,h69,h⟩:=ci h;refine bR (ks':=dU 250613 :: .b 2::dU 31327 :: .b 1::iU M w0 r m1) 10 ⟨[(1,.fno 113 [.cptr (bW v2),.ptr 1 0]),(5,.sl (lm am v4)),(6,.ref 117),(7,iI v33),(8,.ptr 8 0),(9,.bool v37),(10,.ptr 10 0),(11,iI (ab (v33+1))),(46,iI ((gD v4 v33).Kind)),(89,.bool v38)],[(1,[.ref 9]),(8,am (gD v4 v33)),(10,List.set (aI cv) 61 (.nils))],[(9,⟨3,1,lm (ba .i64) v34⟩),(117,⟨165,62,lm aI v35⟩)],[1,8,10,9,117,1000001,1]⟩ ?_ (by subst h69;kernel_rfl);obtain⟨h70,h⟩|⟨h70,h⟩:=ak h
 ·exact ah 89 h70 (bK (ks':=.b 2::dU 31327 :: .b 1::iU M w0 r m1) 2 (jF 10 (ae 0 (y8 hK hL1 h))))
 ·refine ah 89 h70 ?_;obtain⟨v39,h71,h⟩:=ci h;refine bR (ks':=dU 1002455 :: .b 2::dU 31327 :: .b 1::iU M w0 r m1) 3 ⟨[(1,.fno 113 [.cptr (bW v2),.ptr 1 0]),(5,.sl (lm am v4)),(6,.ref 117),(7,iI v33),(8,.ptr 8 0),(9,.bool v37),(10,.ptr 10 0),(11,iI (ab (v33+1))),(92,.bool v39)],[(1,[.ref 9]),(8,am (gD v4 v33)),(10,List.set (aI cv) 61 (.nils))],[(9,⟨3,1,lm (ba .i64) v34⟩),(117,⟨165,62,lm aI v35⟩)],[1,8,10,9,117,1000001,1]⟩ ?_ (by subst h71;kernel_rfl);obtain⟨h72,h⟩|⟨h72,h⟩:=ak h
  ·refine ah 92 h72 (bh 2 1 (aj 5 ?_));obtain⟨v40,h73,h⟩:=bind_some h;exact gE 9 9 [(1,1)] (QR hK h73) (ac (ae 0 (y8 hK hL1 h)))
  ·exact ah 92 h72 (ae 3 (cg (p:=pn 8019644) n (Kz hK hL1 n h)))
theorem Ov(hK:ao K)(hL1:lK M w0 r v2 v4 m1 L1)(h:uX K n v2 v4 L1 v33 v34 v35=some r):rG M w0 r (dU 244::iU M w0 r m1) (CR v2 v4 v33 v34 v35):=by
 unfold uX at h;refine bN 4 5 3 2 (aj 2 (az (bu am v4) (ac ?_)));obtain⟨h62,h⟩|⟨h62,h⟩:=ak h
 ·refine ah 17 h62 (bK (ks':=dU 1956::dU 1957 :: .b 1::iU M w0 r m1) 4 (aj 2 ?_));obtain⟨h63,h⟩:=aF h;refine az (bi am am h63 (cn) ((fun _=>rfl))) (ac (aC 2 3 1 (bJ [1,5,6,7,8] [1,8] [9,117] ?_)));obtain⟨h64,h⟩|⟨h64,h⟩:=ak h
  ·obtain⟨h65,h⟩:=aF h;obtain⟨h66,h⟩|⟨h66,h⟩:=ak h
   ·obtain⟨h67,h⟩:=aF h;obtain⟨v36,h68,h⟩:=bind_some h;exact bQ 1 (nu 22 [iI v33,.bool (decide (v33>0)),.bool true,.sl (lm am v4),iI v33,iI (ab (v33-1)),.cptr (am (gD v4 ((ab (v33-1))))),.cptr (List.drop 0 (am (gD v4 ((ab (v33-1)))))),iI ((gD v4 ((ab (v33-1)))).Kind),.bool (((gD v4 ((ab (v33-1)))).Kind) != 2),.bool (((gD v4 ((ab (v33-1)))).Kind) != 2),.bool true,.sl (lm am v4),iI v33,iI (ab (v33-1)),.cptr (am (gD v4 ((ab (v33-1))))),.agg (am (gD v4 ((ab (v33-1))))),.agg (am (gD v4 v33)),.bool v36,.bool (!v36),.bool (!v36)]) [] [] [bZ Tryz.prog 120 Tryz.f112 (pn 3914) 21] (ay (vz 2) (ag (cu 0 24 (e:=(decide (v33>0))) (b:=true) h64) (ay (vz 3) (bC (bi am am h65 (cn) ((fun _=>rfl))) (ay (vz 4) (ag (cu 0 33 (e:=(((gD v4 ((ab (v33-1)))).Kind) != 2)) (b:=true) h66) (ay (vz 3) (bC (bi am am h67 (cn) ((fun _=>rfl))) (ay (vz 2) (ag (cD 0 1 40 (nk hK h68)) (ay (vz 2) (ag (bX 0) bP)))))))))))) (ae 0 (zd hK hL1 h))
   ·exact bQ 1 (nu 22 [iI v33,.bool (decide (v33>0)),.bool true,.sl (lm am v4),iI v33,iI (ab (v33-1)),.cptr (am (gD v4 ((ab (v33-1))))),.cptr (List.drop 0 (am (gD v4 ((ab (v33-1)))))),iI ((gD v4 ((ab (v33-1)))).Kind),.bool (((gD v4 ((ab (v33-1)))).Kind) != 2),.bool (((gD v4 ((ab (v33-1)))).Kind) != 2),.bool false,.tup [],.tup [],.tup [],.tup [],.tup [],.tup [],.tup [],.tup [],.bool false]) [] [] [bZ Tryz.prog 120 Tryz.f112 (pn 3914) 21] (ay (vz 2) (ag (cu 0 24 (e:=(decide (v33>0))) (b:=true) h64) (ay (vz 3) (bC (bi am am h65 (cn) ((fun _=>rfl))) (ay (vz 4) (ag (cu 0 33 (e:=(((gD v4 ((ab (v33-1)))).Kind) != 2)) (b:=false) h66) (ag (ax 0 1) (ag (ax 0 1) (ag (ax 0 1) (ag (ax 0 1) (ag (ax 0 1) (ag (ax 0 1) (ag (ax 0 1) (ag (ax 0 1) (ay [.v 0 1] (ag (bX 0) bP)))))))))))))))) (ae 0 (zd hK hL1 h))
  ·exact bQ 1 (nu 22 [iI v33,.bool (decide (v33>0)),.bool false,.tup [],.tup [],.tup [],.tup [],.tup [],.tup [],.tup [],.bool false,.bool false,.tup [],.tup [],.tup [],.tup [],.tup [],.tup [],.tup [],.tup [],.bool false]) [] [] [bZ Tryz.prog 120 Tryz.f112 (pn 3914) 21] (ay (vz 2) (ag (cu 0 24 (e:=(decide (v33>0))) (b:=false) h64) (ag (ax 0 1) (ag (ax 0 1) (ag (ax 0 1) (ag (ax 0 1) (ag (ax 0 1) (ag (ax 0 1) (ag (ax 0 1) (ay (vz 2) (ag (ax 0 1) (ag (ax 0 1) (ag (ax 0 1) (ag (ax 0 1) (ag (ax 0 1) (ag (ax 0 1) (ag (ax 0 1) (ag (ax 0 1) (ay [.v 0 1] (ag (bX 0) bP)))))))))))))))))))) (ae 0 (zd hK hL1 h))
 ·refine ah 17 h62 (aL 8 (gb 117 ?_));cases h;exact dL
theorem P3(hK:ao K)(m:Nat):lK M w0 r v2 v4 m (w9 K n v2 v4 m):=by
 induction m with
 | zero=>intro v33 v34 v35 h;cases h
 | succ m ih=>intro v33 v34 v35 h;have h:uX K n v2 v4 (w9 K n v2 v4 m) v33 v34 v35=some r:=h;exact bB (Ov hK ih h)
theorem Q7(hK:ao K)(h:Cb K n v1 v2 v3=some r):f8 Tryz.prog 112 [.sl (lm aR v1),.fno 113 [.cptr (bW v2),.ptr 1 0]] [(1,[.ref 9])] 9 ⟨3,1,lm (ba .i64) v3⟩ [9,1,1000001] (fun v s=>v=.sl (lm aI r.1)∧cj s.o [(1,[.ref 9])]∧look 9 s.r=some ⟨3,1,lm (ba .i64) r.2⟩):=by
 refine jO (c:=cat Tryz.f112 (pn 1)) Tryz.func112 (by kernel_rfl) _ Tryz.ntmps112 (of_decide_eq_true (by kernel_rfl)) fun M w0=>(bd ⟨[(0,.sl (lm aR v1)),(1,.fno 113 [.cptr (bW v2),.ptr 1 0])],[(1,[.ref 9])],[(9,⟨3,1,lm (ba .i64) v3⟩)],[9,1,1000001]⟩ ?_);unfold Cb at h;refine aC 6 7 3 (aj 1 ?_);obtain⟨v4,h1,h⟩:=bind_some h;exact fU 1013 (yQ hK h1) (fS 400003) (ac (gd 26 0 7 6 (bJ [1,5,6,7] [1] [9,1013] (gb 1013 (gh 117 6 165 62 (ae 0 (cg (p:=pn 122) n (P3 hK n h))))))))
end
noncomputable section
variable[GS](M:Nat→Prop)(w0:aE)(r:(List au)×Int×(List Int))(v1:List aa)(v2:Int)(v3:List Int)(v4:List aD)(v35 v36:Int)(v37:List Int)(v38:List au)(v40:Bool)(v46:Int)(v48:Bool)(v50 v51:Int)(v52:List Int)(v53:au)(m1 m2:Nat)(L1:Int→Int→(List Int)→(List au)→Option ((List au)×Int×(List Int)))(L2:Int→Option ((List au)×Int×(List Int)))
abbrev sH:Cx:=⟨Tryz.prog,120,M,w0⟩
abbrev sg:=bodyPost Tryz.prog Tryz.f112 (bA M w0 (fun v s=>v=.sl (lm aI r.1)∧cj s.o [(1,[iI r.2.1]),(2,[.ref 9])]∧look 9 s.r=some ⟨3,1,lm (ba .i64) r.2.2⟩))
abbrev qC(ks:List aq)(s:AS):=VE (sH M w0) (sg M w0 r) ks .normal s
abbrev d6(n:Nat):aq:=.c (cat Tryz.f112 (pn n))
abbrev Bx:List aq:=[.b 0,d6 31]
abbrev iu:List aq:=kl (sH M w0) (sg M w0 r) Bx (cat Tryz.f112 (pn 244)) m1::Bx
abbrev Az:List aq:=.b 3::d6 4009823 :: .b 2::d6 31327 :: .b 1::iu M w0 r m1
abbrev FR:List aq:=kl (sH M w0) (sg M w0 r) (Az M w0 r m1) (cat Tryz.f112 (pn 16039288)) m2::(Az M w0 r m1)
def Rd:AS:=⟨[(1,.fno 114 [.ptr 1 0,.ptr 2 0]),(5,.sl (lm am v4)),(6,.ref 117),(8,.ptr 8 0),(9,.bool v40),(10,.ptr 10 0),(11,iI v50)],[(1,[iI v51]),(2,[.ref 9]),(8,am (gD v4 v35)),(10,aI v53)],[(9,⟨3,1,lm (ba .i64) v52⟩),(117,⟨165,62,lm aI v38⟩)],[1,2,8,10,9,117,1000001,1,1000002,2]⟩
def O7:AS:=⟨[(1,.fno 114 [.ptr 1 0,.ptr 2 0]),(5,.sl (lm am v4)),(6,.ref 117),(7,iI v35),(8,.ptr 8 0),(9,.bool v40),(10,.ptr 10 0),(11,iI v46),(81,.bool v48)],[(1,[iI v36]),(2,[.ref 9]),(8,am (gD v4 v35)),(10,List.set (aI cv) 61 (.nils))],[(9,⟨3,1,lm (ba .i64) v37⟩),(117,⟨165,62,lm aI v38⟩)],[1,2,8,10,9,117,1000001,1,1000002,2]⟩
def Dg:AS:=⟨[(1,.fno 114 [.ptr 1 0,.ptr 2 0]),(5,.sl (lm am v4)),(6,.ref 117),(7,iI v35),(8,.ptr 8 0),(9,.bool v40),(10,.ptr 10 0),(11,iI v46)],[(1,[iI v36]),(2,[.ref 9]),(8,am (gD v4 v35)),(10,List.set (aI cv) 61 (.nils))],[(9,⟨3,1,lm (ba .i64) v37⟩),(117,⟨165,62,lm aI v38⟩)],[1,2,8,10,9,117,1000001,1,1000002,2]⟩
def SZ:AS:=⟨[(1,.fno 114 [.ptr 1 0,.ptr 2 0]),(5,.sl (lm am v4)),(6,.ref 117),(7,iI v35),(8,.ptr 8 0),(9,.bool v40)],[(1,[iI v36]),(2,[.ref 9]),(8,am (gD v4 v35))],[(9,⟨3,1,lm (ba .i64) v37⟩),(117,⟨165,62,lm aI v38⟩)],[1,2,8,9,117,1000001,1,1000002,2]⟩
def Fk:AS:=⟨[(1,.fno 114 [.ptr 1 0,.ptr 2 0]),(5,.sl (lm am v4)),(6,.ref 117),(7,iI v35)],[(1,[iI v36]),(2,[.ref 9])],[(9,⟨3,1,lm (ba .i64) v37⟩),(117,⟨165,62,lm aI v38⟩)],[1,2,9,117,1000001,1,1000002,2]⟩
abbrev mR:Prop:=∀{v35:Int} {v36:Int} {v37:(List Int)} {v38:(List au)},L1 v35 v36 v37 v38=some r→LP (sH M w0) (sg M w0 r) Bx (cat Tryz.f112 (pn 244)) m1 (Fk v4 v35 v36 v37 v38)
abbrev xZ:Prop:=∀{v46:Int},L2 v46=some r→LP (sH M w0) (sg M w0 r) (Az M w0 r m1) (cat Tryz.f112 (pn 16039288)) m2 (Dg v4 v35 v36 v37 v38 v40 v46)
variable{M w0 r v1 v2 v3 v4 v35 v36 v37 v38 v40 v46 v48 v50 v51 v52 v53 m1 m2 L1 L2}{K:Kn}{n:Nat}
theorem Ct(hK:ao K)(hL1:mR M w0 r v4 m1 L1)(h:rV K n v4 v35 v38 v40 L1 v50 v51 v52 v53=some r):qC M w0 r (.b 2::d6 31327 :: .b 1::iu M w0 r m1) (Rd v4 v35 v38 v40 v50 v51 v52 v53):=by
 unfold rV at h;refine eV 2 3 2 (bJ [1,5,6,8,9,10,11] [1,2,8,10] [9,117] (bQ 3 (nu 100 [.ptr 8 4,.cptr (av ((gD v4 v35).Box)),.cptr (av ((gD v4 v35).Box)),.cptr (List.drop 1 (av ((gD v4 v35).Box))),iI (((gD v4 v35).Box).Node),.ptr 8 4,.cptr (av ((gD v4 v35).Box)),.cptr (av ((gD v4 v35).Box)),.cptr (List.drop 2 (av ((gD v4 v35).Box))),.agg (aV (((gD v4 v35).Box).Style)),.bool v40,.ptr 10 0,.ptr 10 2,.ptr 10 59]) [] [] [bZ Tryz.prog 120 Tryz.f112 (pn 62654) 12,bZ Tryz.prog 120 Tryz.f112 (pn 62654) 14,bZ Tryz.prog 120 Tryz.f112 (pn 62654) 16] (ay [.v 0 1,.v 0 1,.v 0 1,.v 0 1,.v 0 1,.v 0 2,.v 0 2,.v 0 2,.v 0 2,.v 0 2,.v 0 3,.v 0 1] (ag (bX 0) (ay [.v 1 1] (ag (bX 1) (ay [.v 2 1] (ag (bX 2) bP)))))) ?_));obtain⟨v54,h94,h⟩:=ci h;obtain⟨v55,h95,h⟩:=ci h;refine bR (ks':=d6 125310::d6 125311 :: .b 1::iu M w0 r m1) 1 ⟨[(1,.fno 114 [.ptr 1 0,.ptr 2 0]),(5,.sl (lm am v4)),(6,.ref 117),(10,.ptr 10 0),(11,iI v50)],[(1,[iI v51]),(2,[.ref 9]),(10,aI ({ v53 with Node:=v54,Style:=v55,Glued:=v40 }:au))],[(9,⟨3,1,lm (ba .i64) v52⟩),(117,⟨165,62,lm aI v38⟩)],[1,2,10,9,117,1000001,1,1000002,2]⟩ ?_ (by subst h95;subst h94;kernel_rfl)
 refine aj 3 ?_;obtain⟨h96,h⟩:=aF h;exact az (cy 117 117 165 62 aI (rfl) (fu) h96) (ac (ae 2 (bz (hL1 h))))
theorem vB(hK:ao K)(hL1:mR M w0 r v4 m1 L1)(hL2:xZ M w0 r v4 v35 v36 v37 v38 v40 m1 m2 L2)(h:pK K n v4 v35 v36 v37 v38 v40 v46 L1 L2 v48=some r):qC M w0 r (d6 64157153::d6 32078577::FR M w0 r m1 m2) (O7 v4 v35 v36 v37 v38 v40 v46 v48):=by
 unfold pK at h;obtain⟨h91,h⟩|⟨h91,h⟩:=ak h
 ·exact ah 81 h91 (ae 5 (bz (hL2 h)))
 ·refine ah 81 h91 (bK (ks':=d6 4009823 :: .b 2::d6 31327 :: .b 1::iu M w0 r m1) 5 (aj 3 ?_));obtain⟨h92,h⟩:=aF h;refine az (gW am v4 v35 v46 206 (.tmp 84) (some (.tmp 85)) (some (.tmp 86)) 87 (e:=210) (sz:=5) (by kernel_rfl) (by kernel_rfl) (by kernel_rfl) (by kernel_rfl) (by kernel_rfl) (by kernel_rfl) (cn) (fun k hk=>by subst hk;kernel_rfl) h92) ?_;obtain⟨v49,h93,h⟩:=bind_some h;exact aS (AO hK h93) (ac (ae 0 (Ct hK hL1 h)))
theorem U6(hK:ao K)(hL1:mR M w0 r v4 m1 L1)(hL2:xZ M w0 r v4 v35 v36 v37 v38 v40 m1 m2 L2)(h:ul K n v4 v35 v36 v37 v38 v40 L1 L2 v46=some r):qC M w0 r (d6 16039288::FR M w0 r m1 m2) (Dg v4 v35 v36 v37 v38 v40 v46):=by
 unfold ul at h;refine bN 4 5 3 2 (bJ [1,5,6,7,8,9,10,11] [1,2,8,10] [9,117] ?_);obtain⟨h83,h⟩|⟨h83,h⟩:=ak h
 ·obtain⟨h84,h⟩:=aF h;obtain⟨h85,h⟩|⟨h85,h⟩:=ak h
  ·obtain⟨h86,h⟩:=aF h;obtain⟨h87,h⟩|⟨h87,h⟩:=ak h
   ·obtain⟨h88,h⟩:=aF h;obtain⟨h89,h⟩:=aF h;obtain⟨v47,h90,h⟩:=bind_some h;exact bQ 0 (nu 47 [iI v46,.sl (lm am v4),iI (v4.length:Int),.bool (decide (v46<(v4.length:Int))),.bool true,.sl (lm am v4),iI v46,.cptr (am (gD v4 v46)),.cptr (List.drop 0 (am (gD v4 v46))),iI ((gD v4 v46).Kind),.bool (((gD v4 v46).Kind) == 1),.bool (((gD v4 v46).Kind) == 1),.bool true,.sl (lm am v4),iI v46,.cptr (am (gD v4 v46)),.cptr (List.drop 1 (am (gD v4 v46))),iI ((gD v4 v46).Of),.ptr 8 1,iI ((gD v4 v35).Of),.bool (((gD v4 v46).Of) == ((gD v4 v35).Of)),.bool (((gD v4 v46).Of) == ((gD v4 v35).Of)),.bool true,.sl (lm am v4),iI v46,iI (ab (v46-1)),.cptr (am (gD v4 ((ab (v46-1))))),.agg (am (gD v4 ((ab (v46-1))))),.sl (lm am v4),iI v46,.cptr (am (gD v4 v46)),.agg (am (gD v4 v46)),.bool v47,.bool (!v47),.bool (!v47)]) [] [] [] (ay (vz 2) (bC (bu am v4) (ay [.v 0 1] (ag (cu 0 51 (e:=(decide (v46<(v4.length:Int)))) (b:=true) h83) (ay (vz 2) (bC (bi am am h84 (cn) ((fun _=>rfl))) (ay (vz 4) (ag (cu 0 59 (e:=(((gD v4 v46).Kind) == 1)) (b:=true) h85) (ay (vz 2) (bC (bi am am h86 (cn) ((fun _=>rfl))) (ay (vz 6) (ag (cu 0 69 (e:=(((gD v4 v46).Of) == ((gD v4 v35).Of))) (b:=true) h87) (ay (vz 3) (bC (bi am am h88 (cn) ((fun _=>rfl))) (ay (vz 3) (bC (bi am am h89 (cn) ((fun _=>rfl))) (ay [.v 0 1] (ag (cD 0 1 79 (nk hK h90)) (ay (vz 2) bP))))))))))))))))))) (ae 0 (vB hK hL1 hL2 h))
   ·exact bQ 0 (nu 47 [iI v46,.sl (lm am v4),iI (v4.length:Int),.bool (decide (v46<(v4.length:Int))),.bool true,.sl (lm am v4),iI v46,.cptr (am (gD v4 v46)),.cptr (List.drop 0 (am (gD v4 v46))),iI ((gD v4 v46).Kind),.bool (((gD v4 v46).Kind) == 1),.bool (((gD v4 v46).Kind) == 1),.bool true,.sl (lm am v4),iI v46,.cptr (am (gD v4 v46)),.cptr (List.drop 1 (am (gD v4 v46))),iI ((gD v4 v46).Of),.ptr 8 1,iI ((gD v4 v35).Of),.bool (((gD v4 v46).Of) == ((gD v4 v35).Of)),.bool (((gD v4 v46).Of) == ((gD v4 v35).Of)),.bool false,.tup [],.tup [],.tup [],.tup [],.tup [],.tup [],.tup [],.tup [],.tup [],.tup [],.tup [],.bool false]) [] [] [] (ay (vz 2) (bC (bu am v4) (ay [.v 0 1] (ag (cu 0 51 (e:=(decide (v46<(v4.length:Int)))) (b:=true) h83) (ay (vz 2) (bC (bi am am h84 (cn) ((fun _=>rfl))) (ay (vz 4) (ag (cu 0 59 (e:=(((gD v4 v46).Kind) == 1)) (b:=true) h85) (ay (vz 2) (bC (bi am am h86 (cn) ((fun _=>rfl))) (ay (vz 6) (ag (cu 0 69 (e:=(((gD v4 v46).Of) == ((gD v4 v35).Of))) (b:=false) h87) (ag (ax 0 1) (ag (ax 0 1) (ag (ax 0 1) (ag (ax 0 1) (ag (ax 0 1) (ag (ax 0 1) (ag (ax 0 1) (ag (ax 0 1) (ag (ax 0 1) (ag (ax 0 1) (ag (ax 0 1) (ay [.v 0 1] bP)))))))))))))))))))))))) (ae 0 (vB hK hL1 hL2 h))
  ·exact bQ 0 (nu 47 [iI v46,.sl (lm am v4),iI (v4.length:Int),.bool (decide (v46<(v4.length:Int))),.bool true,.sl (lm am v4),iI v46,.cptr (am (gD v4 v46)),.cptr (List.drop 0 (am (gD v4 v46))),iI ((gD v4 v46).Kind),.bool (((gD v4 v46).Kind) == 1),.bool (((gD v4 v46).Kind) == 1),.bool false,.tup [],.tup [],.tup [],.tup [],.tup [],.tup [],.tup [],.tup [],.bool false,.bool false,.tup [],.tup [],.tup [],.tup [],.tup [],.tup [],.tup [],.tup [],.tup [],.tup [],.tup [],.bool false]) [] [] [] (ay (vz 2) (bC (bu am v4) (ay [.v 0 1] (ag (cu 0 51 (e:=(decide (v46<(v4.length:Int)))) (b:=true) h83) (ay (vz 2) (bC (bi am am h84 (cn) ((fun _=>rfl))) (ay (vz 4) (ag (cu 0 59 (e:=(((gD v4 v46).Kind) == 1)) (b:=false) h85) (ag (ax 0 1) (ag (ax 0 1) (ag (ax 0 1) (ag (ax 0 1) (ag (ax 0 1) (ag (ax 0 1) (ag (ax 0 1) (ag (ax 0 1) (ay (vz 2) (ag (ax 0 1) (ag (ax 0 1) (ag (ax 0 1) (ag (ax 0 1) (ag (ax 0 1) (ag (ax 0 1) (ag (ax 0 1) (ag (ax 0 1) (ag (ax 0 1) (ag (ax 0 1) (ag (ax 0 1) (ay [.v 0 1] bP))))))))))))))))))))))))))))) (ae 0 (vB hK hL1 hL2 h))
 ·exact bQ 0 (nu 47 [iI v46,.sl (lm am v4),iI (v4.length:Int),.bool (decide (v46<(v4.length:Int))),.bool false,.tup [],.tup [],.tup [],.tup [],.tup [],.tup [],.bool false,.bool false,.tup [],.tup [],.tup [],.tup [],.tup [],.tup [],.tup [],.tup [],.bool false,.bool false,.tup [],.tup [],.tup [],.tup [],.tup [],.tup [],.tup [],.tup [],.tup [],.tup [],.tup [],.bool false]) [] [] [] (ay (vz 2) (bC (bu am v4) (ay [.v 0 1] (ag (cu 0 51 (e:=(decide (v46<(v4.length:Int)))) (b:=false) h83) (ag (ax 0 1) (ag (ax 0 1) (ag (ax 0 1) (ag (ax 0 1) (ag (ax 0 1) (ag (ax 0 1) (ay (vz 2) (ag (ax 0 1) (ag (ax 0 1) (ag (ax 0 1) (ag (ax 0 1) (ag (ax 0 1) (ag (ax 0 1) (ag (ax 0 1) (ag (ax 0 1) (ay (vz 2) (ag (ax 0 1) (ag (ax 0 1) (ag (ax 0 1) (ag (ax 0 1) (ag (ax 0 1) (ag (ax 0 1) (ag (ax 0 1) (ag (ax 0 1) (ag (ax 0 1) (ag (ax 0 1) (ag (ax 0 1) (ay [.v 0 1] bP)))))))))))))))))))))))))))))))) (ae 0 (vB hK hL1 hL2 h))
theorem R6(hK:ao K)(hL1:mR M w0 r v4 m1 L1)(m:Nat):xZ M w0 r v4 v35 v36 v37 v38 v40 m1 m (vk K n v4 v35 v36 v37 v38 v40 L1 m):=by
 induction m with
 | zero=>intro v46 h;cases h
 | succ m ih=>intro v46 h;have h:ul K n v4 v35 v36 v37 v38 v40 L1 (vk K n v4 v35 v36 v37 v38 v40 L1 m) v46=some r:=h;exact bB (U6 hK hL1 ih h)
theorem zi(hK:ao K)(hL1:mR M w0 r v4 m1 L1)(h:rr K n v4 v35 v36 v37 v38 L1 v40=some r):qC M w0 r (d6 3915 :: .b 1::iu M w0 r m1) (SZ v4 v35 v36 v37 v38 v40):=by
 unfold rr at h;obtain⟨v41,h69,h⟩:=ci h;refine bR (ks':=d6 250613 :: .b 2::d6 31327 :: .b 1::iu M w0 r m1) 10 ⟨[(1,.fno 114 [.ptr 1 0,.ptr 2 0]),(5,.sl (lm am v4)),(6,.ref 117),(7,iI v35),(8,.ptr 8 0),(9,.bool v40),(10,.ptr 10 0),(11,iI (ab (v35+1))),(46,iI ((gD v4 v35).Kind)),(89,.bool v41)],[(1,[iI v36]),(2,[.ref 9]),(8,am (gD v4 v35)),(10,List.set (aI cv) 61 (.nils))],[(9,⟨3,1,lm (ba .i64) v37⟩),(117,⟨165,62,lm aI v38⟩)],[1,2,8,10,9,117,1000001,1,1000002,2]⟩ ?_ (by subst h69;kernel_rfl);obtain⟨h70,h⟩|⟨h70,h⟩:=ak h
 ·exact ah 89 h70 (bK (ks':=.b 2::d6 31327 :: .b 1::iu M w0 r m1) 2 (jF 10 (ae 0 (Ct hK hL1 h))))
 ·refine ah 89 h70 ?_;obtain⟨v42,h71,h⟩:=ci h;refine bR (ks':=d6 1002455 :: .b 2::d6 31327 :: .b 1::iu M w0 r m1) 3 ⟨[(1,.fno 114 [.ptr 1 0,.ptr 2 0]),(5,.sl (lm am v4)),(6,.ref 117),(7,iI v35),(8,.ptr 8 0),(9,.bool v40),(10,.ptr 10 0),(11,iI (ab (v35+1))),(92,.bool v42)],[(1,[iI v36]),(2,[.ref 9]),(8,am (gD v4 v35)),(10,List.set (aI cv) 61 (.nils))],[(9,⟨3,1,lm (ba .i64) v37⟩),(117,⟨165,62,lm aI v38⟩)],[1,2,8,10,9,117,1000001,1,1000002,2]⟩ ?_ (by subst h71;kernel_rfl);obtain⟨h72,h⟩|⟨h72,h⟩:=ak h
  ·refine ah 92 h72 (bh 2 1 (aj 5 ?_));obtain⟨v43,h73,h⟩:=bind_some h;exact gE 9 9 [(1,1),(2,2)] (VL hK h73) (ac (ae 0 (Ct hK hL1 h)))
  ·exact ah 92 h72 (ae 3 (cg (p:=pn 8019644) n (R6 hK hL1 n h)))
theorem TU(hK:ao K)(hL1:mR M w0 r v4 m1 L1)(h:wF K n v4 L1 v35 v36 v37 v38=some r):qC M w0 r (d6 244::iu M w0 r m1) (Fk v4 v35 v36 v37 v38):=by
 unfold wF at h;refine bN 4 5 3 2 (aj 2 (az (bu am v4) (ac ?_)));obtain⟨h62,h⟩|⟨h62,h⟩:=ak h
 ·refine ah 17 h62 (bK (ks':=d6 1956::d6 1957 :: .b 1::iu M w0 r m1) 4 (aj 2 ?_));obtain⟨h63,h⟩:=aF h;refine az (bi am am h63 (cn) ((fun _=>rfl))) (ac (aC 2 3 1 (bJ [1,5,6,7,8] [1,2,8] [9,117] ?_)));obtain⟨h64,h⟩|⟨h64,h⟩:=ak h
  ·obtain⟨h65,h⟩:=aF h;obtain⟨h66,h⟩|⟨h66,h⟩:=ak h
   ·obtain⟨h67,h⟩:=aF h;obtain⟨v39,h68,h⟩:=bind_some h;exact bQ 1 (nu 22 [iI v35,.bool (decide (v35>0)),.bool true,.sl (lm am v4),iI v35,iI (ab (v35-1)),.cptr (am (gD v4 ((ab (v35-1))))),.cptr (List.drop 0 (am (gD v4 ((ab (v35-1)))))),iI ((gD v4 ((ab (v35-1)))).Kind),.bool (((gD v4 ((ab (v35-1)))).Kind) != 2),.bool (((gD v4 ((ab (v35-1)))).Kind) != 2),.bool true,.sl (lm am v4),iI v35,iI (ab (v35-1)),.cptr (am (gD v4 ((ab (v35-1))))),.agg (am (gD v4 ((ab (v35-1))))),.agg (am (gD v4 v35)),.bool v39,.bool (!v39),.bool (!v39)]) [] [] [bZ Tryz.prog 120 Tryz.f112 (pn 3914) 21] (ay (vz 2) (ag (cu 0 24 (e:=(decide (v35>0))) (b:=true) h64) (ay (vz 3) (bC (bi am am h65 (cn) ((fun _=>rfl))) (ay (vz 4) (ag (cu 0 33 (e:=(((gD v4 ((ab (v35-1)))).Kind) != 2)) (b:=true) h66) (ay (vz 3) (bC (bi am am h67 (cn) ((fun _=>rfl))) (ay (vz 2) (ag (cD 0 1 40 (nk hK h68)) (ay (vz 2) (ag (bX 0) bP)))))))))))) (ae 0 (zi hK hL1 h))
   ·exact bQ 1 (nu 22 [iI v35,.bool (decide (v35>0)),.bool true,.sl (lm am v4),iI v35,iI (ab (v35-1)),.cptr (am (gD v4 ((ab (v35-1))))),.cptr (List.drop 0 (am (gD v4 ((ab (v35-1)))))),iI ((gD v4 ((ab (v35-1)))).Kind),.bool (((gD v4 ((ab (v35-1)))).Kind) != 2),.bool (((gD v4 ((ab (v35-1)))).Kind) != 2),.bool false,.tup [],.tup [],.tup [],.tup [],.tup [],.tup [],.tup [],.tup [],.bool false]) [] [] [bZ Tryz.prog 120 Tryz.f112 (pn 3914) 21] (ay (vz 2) (ag (cu 0 24 (e:=(decide (v35>0))) (b:=true) h64) (ay (vz 3) (bC (bi am am h65 (cn) ((fun _=>rfl))) (ay (vz 4) (ag (cu 0 33 (e:=(((gD v4 ((ab (v35-1)))).Kind) != 2)) (b:=false) h66) (ag (ax 0 1) (ag (ax 0 1) (ag (ax 0 1) (ag (ax 0 1) (ag (ax 0 1) (ag (ax 0 1) (ag (ax 0 1) (ag (ax 0 1) (ay [.v 0 1] (ag (bX 0) bP)))))))))))))))) (ae 0 (zi hK hL1 h))
  ·exact bQ 1 (nu 22 [iI v35,.bool (decide (v35>0)),.bool false,.tup [],.tup [],.tup [],.tup [],.tup [],.tup [],.tup [],.bool false,.bool false,.tup [],.tup [],.tup [],.tup [],.tup [],.tup [],.tup [],.tup [],.bool false]) [] [] [bZ Tryz.prog 120 Tryz.f112 (pn 3914) 21] (ay (vz 2) (ag (cu 0 24 (e:=(decide (v35>0))) (b:=false) h64) (ag (ax 0 1) (ag (ax 0 1) (ag (ax 0 1) (ag (ax 0 1) (ag (ax 0 1) (ag (ax 0 1) (ag (ax 0 1) (ay (vz 2) (ag (ax 0 1) (ag (ax 0 1) (ag (ax 0 1) (ag (ax 0 1) (ag (ax 0 1) (ag (ax 0 1) (ag (ax 0 1) (ag (ax 0 1) (ay [.v 0 1] (ag (bX 0) bP)))))))))))))))))))) (ae 0 (zi hK hL1 h))
 ·refine ah 17 h62 (aL 8 (gb 117 ?_));cases h;exact dL
theorem Oc(hK:ao K)(m:Nat):mR M w0 r v4 m (tS K n v4 m):=by
 induction m with
 | zero=>intro v35 v36 v37 v38 h;cases h
 | succ m ih=>intro v35 v36 v37 v38 h;have h:wF K n v4 (tS K n v4 m) v35 v36 v37 v38=some r:=h;exact bB (TU hK ih h)
theorem VM(hK:ao K)(h:Ad K n v1 v2 v3=some r):f8 Tryz.prog 112 [.sl (lm aR v1),.fno 114 [.ptr 1 0,.ptr 2 0]] [(1,[iI v2]),(2,[.ref 9])] 9 ⟨3,1,lm (ba .i64) v3⟩ [9,1,2,1000001,1000002] (fun v s=>v=.sl (lm aI r.1)∧cj s.o [(1,[iI r.2.1]),(2,[.ref 9])]∧look 9 s.r=some ⟨3,1,lm (ba .i64) r.2.2⟩):=by
 refine jO (c:=cat Tryz.f112 (pn 1)) Tryz.func112 (by kernel_rfl) _ Tryz.ntmps112 (of_decide_eq_true (by kernel_rfl)) fun M w0=>(bd ⟨[(0,.sl (lm aR v1)),(1,.fno 114 [.ptr 1 0,.ptr 2 0])],[(1,[iI v2]),(2,[.ref 9])],[(9,⟨3,1,lm (ba .i64) v3⟩)],[9,1,2,1000001,1000002]⟩ ?_);unfold Ad at h;refine aC 6 7 3 (aj 1 ?_);obtain⟨v4,h1,h⟩:=bind_some h;exact fU 1013 (yQ hK h1) (fS 400003) (ac (gd 26 0 7 6 (bJ [1,5,6,7] [1,2] [9,1013] (gb 1013 (gh 117 6 165 62 (ae 0 (cg (p:=pn 122) n (Oc hK n h))))))))
end
end Go.Proofs.YtocgkfoifehcbaaGreat

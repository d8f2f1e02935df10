/- The runs of the functions that TableHeights reaches do what their plain forms say, part 1. Made by a program. -/
import Derived.Test.YtolhpahjgddjkaaChGk
import Derived.Test.YtolhpahjgddjkaaChP0
namespace Go.Proofs.Ytolhpahjgddjkaa
open Go.RowKit
set_option maxRecDepth 20000
set_option linter.all false
set_option linter.unusedVariables false
set_option linter.unusedSimpArgs false
def p34_0:=pth 0 1110100
def p34_1:=pth 0 111010010
def p34_2:=pth 0 111010011
def p34_3:=pth 0 111010011000
def p34_4:=pth 0 111010011001
def p34_5:=pth 0 1110100111
def p34_6:=pth 0 11100
def p34_7:=pth 0 11101
def p34_8:=pth 0 111010
noncomputable section
abbrev cx34 (M:Nat→Prop) (w0:Base):Cx:=⟨Try.prog,17,M,w0⟩
abbrev q34 (M:Nat→Prop) (w0:Base) (r:Int):=bodyPost Try.prog Try.f34 (RetQ M w0 (fun v _=>v=iI r))
abbrev bI (p:List Nat):Kont:=.c (cat Try.f34 p)
abbrev k34_1 (M:Nat→Prop) (w0:Base) (r:Int) (m1:Nat):Kont:=kl (cx34 M w0) (q34 M w0 r) [.b 0,bI [1,1,1]] (cat Try.f34 p34_0) m1
def s34_l1 (v1:List Int) (v2 v3:Int):AS:=⟨[(3,iI v2),(6,.sl (lm (eInt .i64) v1)),(7,iI (v1.length:Int)),(8,iI v3)],[],[],[]⟩
abbrev H34_1 (M:Nat→Prop) (w0:Base) (r:Int) (v1:List Int) (m1:Nat) (L1:Int→Int→Option Int):Prop:=∀ {v2 v3:Int},L1 v2 v3=some r→LP (cx34 M w0) (q34 M w0 r) [.b 0,bI [1,1,1]] (cat Try.f34 p34_0) m1 (s34_l1 v1 v2 v3)
variable {K:Kn} {n:Nat} {M:Nat→Prop} {w0:Base} {r:Int} {v1:List Int} {v2 v3:Int} {m1:Nat} {L1:Int→Int→Option Int}
theorem kN (hK:KnOk K) (hL1:H34_1 M w0 r v1 m1 L1) (h:fl K n v1 L1 v2 v3=some r):VE (cx34 M w0) (q34 M w0 r) [bI p34_0,k34_1 M w0 r m1,.b 0,bI [1,1,1]] .normal (s34_l1 v1 v2 v3):=by
  unfold fl at h
  refine ac (ks':=[bI p34_1,bI p34_2,k34_1 M w0 r m1,.b 0,bI [1,1,1]]) 3 ?_
  rcases am h with ⟨h3,h⟩ | ⟨h3,h⟩
  ·
   refine ah 9 h3 (ac (ks':=[bI p34_3,bI p34_4,.b 1,bI p34_5,k34_1 M w0 r m1,.b 0,bI [1,1,1]]) 5 (ai 0 ?_))
   obtain ⟨h4,h⟩:=aj h
   exact ak (aY (eInt .i64) (eInt .i64) h4 (fun _=>rfl) (fun _=>rfl)) (af (ae 3 (aN (hL1 h))))
  ·
   refine ah 9 h3 (aD 8 ?_)
   cases h
   exact aQ
theorem jX (hK:KnOk K) (m:Nat):H34_1 M w0 r v1 m (eC K n v1 m):=by
  induction m with
 | zero=>intro v2 v3 h; cases h
 | succ m ih=>intro v2 v3 h; have h:fl K n v1 (eC K n v1 m) v2 v3=some r:=h; exact aM (kN hK ih h)
theorem g_table_sum_ok (hK:KnOk K) (h:fi K n v1=some r):ACalls Try.prog 34 [.sl (lm (eInt .i64) v1)] (fun v _=>v=iI r):=by
  refine aU (cat Try.f34 []) Try.func34 Try.ntmps34 fun M w0=>(aP ⟨[(0,.sl (lm (eInt .i64) v1))],[],[],[]⟩ ?_)
  unfold fi at h
  exact ac (ks':=[bI p34_6,bI p34_7,bI [1,1,1]]) 6 (ai 1 (ak (aF (eInt .i64) v1) (af (ae 1 (aL (p:=p34_8) n (jX hK n h))))))
end
def bS:=pth 5 1
def p16_1:=pth 0 111110100
def c7:=pth 0 111110100111
def p16_3:=pth 0 11111010010
def p16_4:=pth 0 11111010011
def p16_5:=pth 0 11111010011000
def p16_6:=pth 0 11111010011001
def p16_7:=pth 0 111110100110010
def p16_8:=pth 0 111110100110011
def p16_9:=pth 0 1111101001100110
def p16_10:=pth 0 1111101001100111
def p16_11:=pth 0 111110100110011101
def p16_12:=pth 0 11111010011001111
def p16_13:=pth 0 11111010011001110100
def p16_14:=pth 0 11111010011001110101
def p16_15:=pth 0 11110
def p16_16:=pth 0 11111
def p16_17:=pth 0 1111100
def p16_18:=pth 0 1111101
def p16_19:=pth 0 11111010
noncomputable section
abbrev cx16 (M:Nat→Prop) (w0:Base):Cx:=⟨Try.prog,72,M,w0⟩
abbrev q16 (M:Nat→Prop) (w0:Base) (r:List Int):=bodyPost Try.prog Try.f16 (RetQ M w0 (fun v s=>v = .ref 17∧look 17 s.r=some ⟨3,1,lm (eInt .i64) r⟩))
abbrev aG (p:List Nat):Kont:=.c (cat Try.f16 p)
abbrev cw (M:Nat→Prop) (w0:Base) (r:List Int) (m1:Nat):Kont:=kl (cx16 M w0) (q16 M w0 r) [.b 0,aG bS] (cat Try.f16 p16_1) m1
def s16_j1 (v1:List aa) (v2 v5:List Int) (v10:Int) (v15:List Int):AS:=⟨[(0,.sl (lm ag v1)),(1,.sl (lm (eInt .i64) v2)),(7,.ref 17),(23,.ref 1023),(24,iI (v5.length:Int)),(25,iI v10)],[],[(17,⟨3,1,lm (eInt .i64) v15⟩),(1023,⟨3,1,lm (eInt .i64) v5⟩)],[17,1023]⟩
def s16_l2 (v1:List aa) (v2 v5:List Int) (v10:Int) (v11:List Int):AS:=⟨[(0,.sl (lm ag v1)),(1,.sl (lm (eInt .i64) v2)),(7,.ref 17),(23,.ref 1023),(24,iI (v5.length:Int)),(25,iI v10)],[],[(17,⟨3,1,lm (eInt .i64) v11⟩),(1023,⟨3,1,lm (eInt .i64) v5⟩)],[17,1023]⟩
abbrev H16_1 (M:Nat→Prop) (w0:Base) (r:List Int) (v1:List aa) (v2 v5:List Int) (m1:Nat) (L1:Int→(List Int)→Option (List Int)):Prop:=∀ {v10:Int} {v11:List Int},L1 v10 v11=some r→LP (cx16 M w0) (q16 M w0 r) [.b 0,aG bS] (cat Try.f16 p16_1) m1 (s16_l2 v1 v2 v5 v10 v11)
variable {K:Kn} {n:Nat} {M:Nat→Prop} {w0:Base} {r:List Int} {v1:List aa} {v2:List Int} {v3:Int} {v5:List Int} {v10:Int} {v11 v15:List Int} {m1:Nat} {L1:Int→(List Int)→Option (List Int)}
theorem i7 (hK:KnOk K) (hL1:H16_1 M w0 r v1 v2 v5 m1 L1) (h:dC K n v1 v2 v5 v10 L1 v15=some r):VE (cx16 M w0) (q16 M w0 r) [aG c7,cw M w0 r m1,.b 0,aG bS] .normal (s16_j1 v1 v2 v5 v10 v15):=by
  unfold dC at h
  exact ae 1 (aN (hL1 h))
theorem lk (hK:KnOk K) (hL1:H16_1 M w0 r v1 v2 v5 m1 L1) (h:eD K n v1 v2 v5 L1 v10 v11=some r):VE (cx16 M w0) (q16 M w0 r) [aG p16_1,cw M w0 r m1,.b 0,aG bS] .normal (s16_l2 v1 v2 v5 v10 v11):=by
  unfold eD at h
  refine ac (ks':=[aG p16_3,aG p16_4,cw M w0 r m1,.b 0,aG bS]) 3 ?_
  rcases am h with ⟨h20,h⟩ | ⟨h20,h⟩
  ·
   refine ah 26 h20 (ac (ks':=[aG p16_5,aG p16_6,.b 1,aG c7,cw M w0 r m1,.b 0,aG bS]) 5 (ai 0 ?_))
   obtain ⟨h21,h⟩:=aj h
   refine ak (ba 1023 1 (eInt .i64) h21) (ak (aJ 3 0 (eInt .i64) (eInt .i64) (aw h21).2 (fun _=>rfl)) (af (ac (ks':=[aG p16_7,aG p16_8,.b 1,aG c7,cw M w0 r m1,.b 0,aG bS]) 1 (bk [0,1,7,10,23,24,25] [] [17,1023] ?_))))
   obtain ⟨h22,h⟩:=aj h
   obtain ⟨h23,h⟩:=aj h
   obtain ⟨v12,h24,h⟩:=bind_some h
   refine bf 2 (nu 29 [.sl (lm ag v1),iI (gD v5 v10),.cptr (ag (gD v1 ((gD v5 v10)))),.agg (ag (gD v1 ((gD v5 v10)))),.sl (lm (eInt .i64) v2),iI (gD v5 v10),.cptr ([iI (gD v2 ((gD v5 v10)))]),iI (gD v2 ((gD v5 v10))),iI v12]++nu 11 [.ptr 11 0]) [(11,ag gV)] [] [stp Try.prog 72 Try.f16 p16_7 10,stp Try.prog 72 Try.f16 p16_7 11] (az (vz 2) (d_v (aY ag ag h22 (ci) (fun _=>rfl)) (az [.v 0 1,.v 0 2,.v 0 2] (av (k_v (lo:=0) (k:=2) (br ⟨(by kernel_rfl),(bD (aY (eInt .i64) (eInt .i64) h23 (fun _=>rfl) (fun _=>rfl)) (by kernel_rfl))⟩ (br ⟨(by kernel_rfl),(bD (aY (eInt .i64) (eInt .i64) h23 (fun _=>rfl) (fun _=>rfl)) (by kernel_rfl))⟩ cE))) (az [.v 0 2] (av (e_c 0 1 37 (eH hK h24)) (av (e_a 0 1 30 11 (ag gV)) (av (e_d 0) (av (e_d 1) bi))))))))) ?_
   obtain ⟨v13,h25,h⟩:=bind_some h
   have h25:=Option.some.inj h25
   refine aV (ks':=[aG p16_9,aG p16_10,.b 1,aG c7,cw M w0 r m1,.b 0,aG bS]) 1 ⟨[(0,.sl (lm ag v1)),(1,.sl (lm (eInt .i64) v2)),(7,.ref 17),(11,.ptr 11 0),(12,iI v12),(23,.ref 1023),(24,iI (v5.length:Int)),(25,iI v10)],[(11,ag v13)],[(17,⟨3,1,lm (eInt .i64) v11⟩),(1023,⟨3,1,lm (eInt .i64) v5⟩)],[11,17,1023]⟩ ?_ (by subst h25; kernel_rfl)
   refine ai 8 ?_
   obtain ⟨h26,h⟩:=aj h
   refine ak (gR (eInt .i64) v11 v13.Row (w64 (v13.Row+v13.Rows)) 33 (.tmp 38) (some (.tmp 40)) (some (.tmp 45)) 46 (id:=17) (e:=3) (sz:=1) (et:=3) (by kernel_rfl) (by kernel_rfl) (by kernel_rfl) (by kernel_rfl) (by kernel_rfl) (by kernel_rfl) (by kernel_rfl) (fun k hk=>by subst hk; kernel_rfl) h26) (af (ac (ks':=[aG p16_11,aG p16_12,.b 1,aG c7,cw M w0 r m1,.b 0,aG bS]) 3 ?_))
   rcases am h with ⟨h27,h⟩ | ⟨h27,h⟩
   ·
    refine ah 49 h27 (ac (ks':=[aG p16_13,aG p16_14,aG p16_12,.b 1,aG c7,cw M w0 r m1,.b 0,aG bS]) 2 (ai 2 ?_))
    obtain ⟨h28,h⟩:=aj h
    refine ak (y_ixv 17 1 (off:=(v13.Row).toNat) h28) ?_
    obtain ⟨h29,h⟩:=aj h
    refine ak (aJ 3 0 (eInt .i64) (eInt .i64) (of_decide_eq_true h29) (fun _=>rfl)) (aB 6 2 ?_)
    obtain ⟨h30,h⟩:=aj h
    exact ak (y_ixv 17 1 (off:=(v13.Row).toNat) h30) (ak (bd 17 3 1 0 (eInt .i64) (eInt .i64) (max (List.getD v11 ((v13.Row).toNat+(0:Int).toNat) default) v12) (of_decide_eq_true h29) (fun _=>rfl)) (af (ae 3 (i7 hK hL1 h))))
   ·
    refine ah 49 h27 (ac (ks':=[aG p16_12,.b 1,aG c7,cw M w0 r m1,.b 0,aG bS]) 2 (bk [0,1,7,11,12,13,23,24,25] [11] [17,1023] ?_))
    obtain ⟨h31,h⟩:=aj h
    obtain ⟨h32,h⟩:=aj h
    obtain ⟨v14,h33,h⟩:=bind_some h
    obtain ⟨h34,h⟩:=aj h
    obtain ⟨h35,h⟩:=aj h
    exact bf 1 (nu 57 [.sref 17 1 ((v13.Row).toNat) (((w64 (v13.Row+v13.Rows))).toNat - (v13.Row).toNat),.ptr 11 2,iI v13.Rows,iI (w64 (v13.Rows - 1)),.eptr 17 1 ((v13.Row).toNat+((w64 (v13.Rows - 1))).toNat) 0,iI (List.getD v11 ((v13.Row).toNat+((w64 (v13.Rows - 1))).toNat) default),iI v12,.sref 17 1 ((v13.Row).toNat) (((w64 (v13.Row+v13.Rows))).toNat - (v13.Row).toNat),iI v14,iI (w64 (v12 - v14)),iI (max (w64 (v12 - v14)) 0),iI (w64 ((List.getD v11 ((v13.Row).toNat+((w64 (v13.Rows - 1))).toNat) default)+(max (w64 (v12 - v14)) 0))),.eptr 17 1 ((v13.Row).toNat+((w64 (v13.Rows - 1))).toNat) 0]) [] [] [strS 17 ⟨3,1,lm (eInt .i64) (List.set v11 ((v13.Row).toNat+((w64 (v13.Rows - 1))).toNat) (w64 ((List.getD v11 ((v13.Row).toNat+((w64 (v13.Rows - 1))).toNat) default)+(max (w64 (v12 - v14)) 0))))⟩] (az (vz 4) (d_v (y_ixv 17 1 (off:=(v13.Row).toNat) h31) (d_v (aJ 3 0 (eInt .i64) (eInt .i64) (of_decide_eq_true h32) (fun _=>rfl)) (az (vz 2) (av (e_x 0 65 (g_table_sum_ok hK h33) ((by kernel_rfl:callArgsLx _ _=some (34,[.sl (List.take (((w64 (v13.Row+v13.Rows))).toNat - (v13.Row).toNat) (List.drop ((v13.Row).toNat) (lm (eInt .i64) v11)))],[.sref 17 1 ((v13.Row).toNat) (((w64 (v13.Row+v13.Rows))).toNat - (v13.Row).toNat)])).trans (by simp only [lx_take]:some (34,([.sl (List.take (((w64 (v13.Row+v13.Rows))).toNat - (v13.Row).toNat) (List.drop ((v13.Row).toNat) (lm (eInt .i64) v11)))]:List AV),([.sref 17 1 ((v13.Row).toNat) (((w64 (v13.Row+v13.Rows))).toNat - (v13.Row).toNat)]:List AV))=some (34,[.sl (lm (eInt .i64) (List.take (((w64 (v13.Row+v13.Rows))).toNat - (v13.Row).toNat) (List.drop ((v13.Row).toNat) v11)))],[.sref 17 1 ((v13.Row).toNat) (((w64 (v13.Row+v13.Rows))).toNat - (v13.Row).toNat)]))) (srOk_of (q:=[(((v13.Row).toNat)+(((w64 (v13.Row+v13.Rows))).toNat - (v13.Row).toNat),(lm (eInt .i64) v11).length)]) (by kernel_rfl) (And.intro (sr_of (eInt .i64) (L:=v11) (off:=(v13.Row).toNat) (m:=(((w64 (v13.Row+v13.Rows))).toNat - (v13.Row).toNat)) h34) trivial))) (az (vz 3) (d_v (y_ixv 17 1 (off:=(v13.Row).toNat) h35) (av (e_s (m:=0) (bd 17 3 1 0 (eInt .i64) (eInt .i64) (w64 ((List.getD v11 ((v13.Row).toNat+((w64 (v13.Rows - 1))).toNat) default)+(max (w64 (v12 - v14)) 0))) (of_decide_eq_true h32) (fun _=>rfl))) bi)))))))) (ae 1 (i7 hK hL1 h))
  ·
   refine ah 26 h20 (aD 8 ?_)
   cases h
   exact ct
theorem j4 (hK:KnOk K) (m:Nat):H16_1 M w0 r v1 v2 v5 m (eu K n v1 v2 v5 m):=by
  induction m with
 | zero=>intro v10 v11 h; cases h
 | succ m ih=>intro v10 v11 h; have h:eD K n v1 v2 v5 (eu K n v1 v2 v5 m) v10 v11=some r:=h; exact aM (lk hK ih h)
theorem j3 (hK:KnOk K) (h:fz K n v1 v2 v3=some r):ACalls Try.prog 16 [.sl (lm ag v1),.sl (lm (eInt .i64) v2),iI v3] (fun v s=>v = .ref 17∧look 17 s.r=some ⟨3,1,lm (eInt .i64) r⟩):=by
  refine aU (cat Try.f16 []) Try.func16 Try.ntmps16 fun M w0=>(aP ⟨[(0,.sl (lm ag v1)),(1,.sl (lm (eInt .i64) v2)),(2,iI v3)],[],[],[]⟩ ?_)
  unfold fz at h
  refine ac (ks':=[aG [1,1,0],aG [1,1,1]]) 5 (ai 1 ?_)
  obtain ⟨h1,h⟩:=aj h
  refine cz (eInt .i64) (0:Int) 33 (.tmp 16) (.tmp 16) 17 (e:=3) (sz:=1) (zc:=[iI 0]) (kd:=.i64) (kd':=.i64) h1 (af ?_)
  obtain ⟨v4,h2,h⟩:=bind_some h
  have h2:=Option.some.inj h2
  refine aV (ks':=[aG p16_15,aG p16_16]) 1 ⟨[(0,.sl (lm ag v1)),(1,.sl (lm (eInt .i64) v2)),(5,.ptr 5 0),(7,.ref 17)],[(5,[iI (max v3 0)])],[(17,⟨3,1,lm (eInt .i64) v4⟩)],[5,17]⟩ ?_ (by subst h2; kernel_rfl)
  refine ai 0 (ot_fo 5 5 ([iI (max v3 0)]) (ot_mf 31 #[(.tmp 5)] [.cptr ([iI (max v3 0)])] (af (ac (ks':=[aG p16_17,aG p16_18,aG bS]) 2 (ai 2 (ak (aF (eInt .i64) v2) (aB 4 1 ?_)))))))
  obtain ⟨v5,h3,h⟩:=bind_some h
  exact ot_co 1023 (kD hK h3) (dv 50) (ak (aF (eInt .i64) v5) (af (ae 1 (aL (p:=p16_19) n (j4 hK n h)))))
end
noncomputable section
variable {K:Kn} {n:Nat} {M:Nat→Prop} {w0:Base} {r v1:Int} 
theorem g_ref20_size_ok (hK:KnOk K) (h:fV K n v1=some r):ACalls Try.prog 29 [iI v1] (fun v _=>v=iI r):=by
  refine aU (cat Try.f29 []) Try.func29 Try.ntmps29 fun M w0=>(aP ⟨[(0,iI v1)],[],[],[]⟩ ?_)
  unfold fV at h
  refine aD 5 ?_
  cases h
  exact aQ
end
noncomputable section
abbrev cx35 (M:Nat→Prop) (w0:Base):Cx:=⟨Try.prog,25,M,w0⟩
abbrev q35 (M:Nat→Prop) (w0:Base) (r:Bool):=bodyPost Try.prog Try.f35 (RetQ M w0 (fun v _=>v = .bool r))
def s35_j1 (v4:Bool):AS:=⟨[(6,.bool v4)],[],[],[]⟩
variable {K:Kn} {n:Nat} {M:Nat→Prop} {w0:Base} {r:Bool} {v1 v2 v3:Int} {v4:Bool} 
abbrev cF35 (p:List Nat):Kont:=.c (cat Try.f35 p)
theorem gh (hK:KnOk K) (h:cW K n v4=some r):VE (cx35 M w0) (q35 M w0 r) [cF35 [1,1]] .normal (s35_j1 v4):=by
  unfold cW at h
  refine aD 1 ?_
  cases h
  exact aQ
theorem kI (hK:KnOk K) (h:eV K n v1 v2 v3=some r):ACalls Try.prog 35 [iI v1,iI v2,iI v3] (fun v _=>v = .bool r):=by
  refine aU (cat Try.f35 []) Try.func35 Try.ntmps35 fun M w0=>(aP ⟨[(0,iI v1),(1,iI v2),(2,iI v3)],[],[],[]⟩ ?_)
  unfold eV at h
  refine ac (ks':=[cF35 [1,0],cF35 [1,1]]) 3 (ai 3 ?_)
  rcases am h with ⟨h1,h⟩ | ⟨h1,h⟩
  ·
   refine ay 9 h1 (aB 7 4 ?_)
   rcases am h with ⟨h2,h⟩ | ⟨h2,h⟩
   ·
    refine ay 13 h2 (aB 12 5 ?_)
    rcases am h with ⟨h3,h⟩ | ⟨h3,h⟩
    ·
     exact ay 18 h3 (af (ae 0 (gh hK h)))
    ·
     exact ay 18 h3 (af (ae 0 (gh hK h)))
   ·
    exact ay 13 h2 (af (ae 0 (gh hK h)))
  ·
   exact ay 9 h1 (af (ae 0 (gh hK h)))
end
def p17_0:=pth 0 1110100
def bw:=pth 0 111010011
def p17_2:=pth 0 1110100100100
def dz:=pth 0 11101001001001001111
def b8:=pth 0 111010010010011
def p17_5:=pth 0 11101001001001001110100
def p17_6:=pth 0 1110100100100100111010001
def p17_7:=pth 0 111010010010010011101001
def p17_8:=pth 0 11101001001001001110100100
def p17_9:=pth 0 1110100100100100111010011
def p17_10:=pth 0 1110100100100100101
def p17_11:=pth 0 111010010010010011
def p17_12:=pth 0 1110100100100100110
def p17_13:=pth 0 1110100100100100111
def p17_14:=pth 0 1110100100100100111010
def p17_15:=pth 0 111010010010001
def p17_16:=pth 0 11101001001001
def p17_17:=pth 0 11101001001001000
def p17_18:=pth 0 11101001001001001
def p17_19:=pth 0 1110100100100100100
def p17_20:=pth 0 111010010010000
def p17_21:=pth 0 111010000
def p17_22:=pth 0 111010001
def p17_23:=pth 0 11101001
def p17_24:=pth 0 111010010010
def p17_25:=pth 0 111010
noncomputable section
abbrev bP (M:Nat→Prop) (w0:Base):Cx:=⟨Try.prog,96,M,w0⟩
abbrev q17 (M:Nat→Prop) (w0:Base) (r:List Int):=bodyPost Try.prog Try.f17 (RetQ M w0 (fun v s=>v = .ref 13∧look 13 s.r=some ⟨3,1,lm (eInt .i64) r⟩))
abbrev ap (p:List Nat):Kont:=.c (cat Try.f17 p)
abbrev bj (M:Nat→Prop) (w0:Base) (r:List Int) (m1:Nat):Kont:=kl (bP M w0) (q17 M w0 r) [.b 0,ap [1,1,1]] (cat Try.f17 p17_0) m1
abbrev bG (M:Nat→Prop) (w0:Base) (r:List Int) (m1 m2:Nat):Kont:=kl (bP M w0) (q17 M w0 r) [.b 2,.b 1,ap bw,bj M w0 r m1,.b 0,ap [1,1,1]] (cat Try.f17 p17_2) m2
abbrev k17_3 (M:Nat→Prop) (w0:Base) (r:List Int) (m2 m1 m3:Nat):Kont:=kl (bP M w0) (q17 M w0 r) [.b 4,ap dz,.b 3,ap b8,bG M w0 r m1 m2,.b 2,.b 1,ap bw,bj M w0 r m1,.b 0,ap [1,1,1]] (cat Try.f17 p17_5) m3
def s17_j4 (v1:List aa) (v2:List Int) (v25 v36:Int) (v46:List Int):AS:=⟨[(0,.sl (lm ag v1)),(1,.sl (lm (eInt .i64) v2)),(7,.ref 13),(8,iI v25),(9,iI v36)],[],[(13,⟨3,1,lm (eInt .i64) v46⟩)],[13]⟩
def s17_l3 (v1:List aa) (v2:List Int) (v25 v36:Int) (v37:List Int) (v43 v44:Int):AS:=⟨[(0,.sl (lm ag v1)),(1,.sl (lm (eInt .i64) v2)),(7,.ref 13),(8,iI v25),(9,iI v36),(10,.ptr 10 0),(11,iI v43),(12,iI v44)],[(10,ag (gD v1 v36))],[(13,⟨3,1,lm (eInt .i64) v37⟩)],[10,13]⟩
def s17_j2 (v1:List aa) (v2:List Int) (v25 v36:Int) (v37:List Int) (v40:Bool):AS:=⟨[(0,.sl (lm ag v1)),(1,.sl (lm (eInt .i64) v2)),(7,.ref 13),(8,iI v25),(9,iI v36),(10,.ptr 10 0),(61,.bool v40)],[(10,ag (gD v1 v36))],[(13,⟨3,1,lm (eInt .i64) v37⟩)],[10,13]⟩
def s17_j1 (v1:List aa) (v2:List Int) (v25 v36:Int) (v37:List Int) (v38:Bool):AS:=⟨[(0,.sl (lm ag v1)),(1,.sl (lm (eInt .i64) v2)),(7,.ref 13),(8,iI v25),(9,iI v36),(31,.bool v38)],[],[(13,⟨3,1,lm (eInt .i64) v37⟩)],[13]⟩
def s17_l5 (v1:List aa) (v2:List Int) (v25 v36:Int) (v37:List Int):AS:=⟨[(0,.sl (lm ag v1)),(1,.sl (lm (eInt .i64) v2)),(7,.ref 13),(8,iI v25),(9,iI v36)],[],[(13,⟨3,1,lm (eInt .i64) v37⟩)],[13]⟩
def s17_l6 (v1:List aa) (v2:List Int) (v25:Int) (v26:List Int):AS:=⟨[(0,.sl (lm ag v1)),(1,.sl (lm (eInt .i64) v2)),(7,.ref 13),(8,iI v25)],[],[(13,⟨3,1,lm (eInt .i64) v26⟩)],[13]⟩
abbrev co (M:Nat→Prop) (w0:Base) (r:List Int) (v1:List aa) (v2:List Int) (m1:Nat) (L1:Int→(List Int)→Option (List Int)):Prop:=∀ {v25:Int} {v26:List Int},L1 v25 v26=some r→LP (bP M w0) (q17 M w0 r) [.b 0,ap [1,1,1]] (cat Try.f17 p17_0) m1 (s17_l6 v1 v2 v25 v26)
abbrev dp (M:Nat→Prop) (w0:Base) (r:List Int) (v1:List aa) (v2:List Int) (v25:Int) (m1 m2:Nat) (L2:Int→(List Int)→Option (List Int)):Prop:=∀ {v36:Int} {v37:List Int},L2 v36 v37=some r→LP (bP M w0) (q17 M w0 r) [.b 2,.b 1,ap bw,bj M w0 r m1,.b 0,ap [1,1,1]] (cat Try.f17 p17_2) m2 (s17_l5 v1 v2 v25 v36 v37)
abbrev H17_3 (M:Nat→Prop) (w0:Base) (r:List Int) (v1:List aa) (v2:List Int) (v25 v36:Int) (v37:List Int) (m2 m1 m3:Nat) (L3:Int→Int→Option (List Int)):Prop:=∀ {v43 v44:Int},L3 v43 v44=some r→LP (bP M w0) (q17 M w0 r) [.b 4,ap dz,.b 3,ap b8,bG M w0 r m1 m2,.b 2,.b 1,ap bw,bj M w0 r m1,.b 0,ap [1,1,1]] (cat Try.f17 p17_5) m3 (s17_l3 v1 v2 v25 v36 v37 v43 v44)
variable {K:Kn} {n:Nat} {M:Nat→Prop} {w0:Base} {r:List Int} {v1:List aa} {v2 v3:List Int} {v25:Int} {v26:List Int} {v36:Int} {v37:List Int} {v38 v40:Bool} {v43 v44:Int} {v46:List Int} {m1:Nat} {L1:Int→(List Int)→Option (List Int)} {m2:Nat} {L2:Int→(List Int)→Option (List Int)} {m3:Nat} {L3:Int→Int→Option (List Int)}
theorem iY (hK:KnOk K) (hL1:co M w0 r v1 v2 m1 L1) (hL2:dp M w0 r v1 v2 v25 m1 m2 L2) (h:dE K n v1 v2 v25 v36 L1 L2 v46=some r):VE (bP M w0) (q17 M w0 r) [ap b8,bG M w0 r m1 m2,.b 2,.b 1,ap bw,bj M w0 r m1,.b 0,ap [1,1,1]] .normal (s17_j4 v1 v2 v25 v36 v46):=by
  unfold dE at h
  exact ae 1 (aN (hL2 h))
theorem kQ (hK:KnOk K) (hL1:co M w0 r v1 v2 m1 L1) (hL2:dp M w0 r v1 v2 v25 m1 m2 L2) (hL3:H17_3 M w0 r v1 v2 v25 v36 v37 m2 m1 m3 L3) (h:fc K n v1 v2 v25 v36 v37 L1 L2 L3 v43 v44=some r):VE (bP M w0) (q17 M w0 r) [ap p17_5,k17_3 M w0 r m2 m1 m3,.b 4,ap dz,.b 3,ap b8,bG M w0 r m1 m2,.b 2,.b 1,ap bw,bj M w0 r m1,.b 0,ap [1,1,1]] .normal (s17_l3 v1 v2 v25 v36 v37 v43 v44):=by
  unfold fc at h
  obtain ⟨v45,h72,h⟩:=bind_some h
  have h72:=Option.some.inj h72
  refine aV (ks':=[ap p17_6,ap p17_7,k17_3 M w0 r m2 m1 m3,.b 4,ap dz,.b 3,ap b8,bG M w0 r m1 m2,.b 2,.b 1,ap bw,bj M w0 r m1,.b 0,ap [1,1,1]]) 3 ⟨[(0,.sl (lm ag v1)),(1,.sl (lm (eInt .i64) v2)),(7,.ref 13),(8,iI v25),(9,iI v36),(10,.ptr 10 0),(11,iI v43),(12,iI v44),(74,.bool v45)],[(10,ag (gD v1 v36))],[(13,⟨3,1,lm (eInt .i64) v37⟩)],[10,13]⟩ ?_ (by subst h72; kernel_rfl)
  rcases am h with ⟨h73,h⟩ | ⟨h73,h⟩
  ·
   refine ah 74 h73 (ac (ks':=[ap p17_8,.b 5,ap p17_9,k17_3 M w0 r m2 m1 m3,.b 4,ap dz,.b 3,ap b8,bG M w0 r m1 m2,.b 2,.b 1,ap bw,bj M w0 r m1,.b 0,ap [1,1,1]]) 4 (ai 3 ?_))
   obtain ⟨h74,h⟩:=aj h
   exact ak (ba 13 1 (eInt .i64) h74) (ak (aJ 3 0 (eInt .i64) (eInt .i64) (aw h74).2 (fun _=>rfl)) (af (ae 2 (aN (hL3 h)))))
  ·
   refine ah 74 h73 (ac (ks':=[ap dz,.b 3,ap b8,bG M w0 r m1 m2,.b 2,.b 1,ap bw,bj M w0 r m1,.b 0,ap [1,1,1]]) 5 (ai 6 ?_))
   obtain ⟨h75,h⟩:=aj h
   refine ak (ba 13 1 (eInt .i64) h75) (ak (aJ 3 0 (eInt .i64) (eInt .i64) (aw h75).2 (fun _=>rfl)) (aB 11 3 ?_))
   obtain ⟨h76,h⟩:=aj h
   exact ak (ba 13 1 (eInt .i64) h76) (ak (bd 13 3 1 0 (eInt .i64) (eInt .i64) (w64 ((gD v37 ((w64 ((w64 (((gD v1 v36).Row)+v25)) - 1))))+(max v43 0))) (aw h76).2 (fun _=>rfl)) (af (ae 1 (iY hK hL1 hL2 h))))
theorem kX (hK:KnOk K) (hL1:co M w0 r v1 v2 m1 L1) (hL2:dp M w0 r v1 v2 v25 m1 m2 L2) (m:Nat):H17_3 M w0 r v1 v2 v25 v36 v37 m2 m1 m (d9 K n v1 v2 v25 v36 v37 L1 L2 m):=by
  induction m with
 | zero=>intro v43 v44 h; cases h
 | succ m ih=>intro v43 v44 h; have h:fc K n v1 v2 v25 v36 v37 L1 L2 (d9 K n v1 v2 v25 v36 v37 L1 L2 m) v43 v44=some r:=h; exact aM (kQ hK hL1 hL2 ih h)
theorem gQ (hK:KnOk K) (hL1:co M w0 r v1 v2 m1 L1) (hL2:dp M w0 r v1 v2 v25 m1 m2 L2) (h:cj K n v1 v2 v25 v36 v37 L1 L2 v40=some r):VE (bP M w0) (q17 M w0 r) [ap p17_10,ap p17_11,.b 3,ap b8,bG M w0 r m1 m2,.b 2,.b 1,ap bw,bj M w0 r m1,.b 0,ap [1,1,1]] .normal (s17_j2 v1 v2 v25 v36 v37 v40):=by
  unfold cj at h
  rcases am h with ⟨h66,h⟩ | ⟨h66,h⟩
  ·
   exact ah 61 h66 (ae 4 (iY hK hL1 hL2 h))
  ·
   refine ah 61 h66 (ac (ks':=[ap p17_12,ap p17_13,.b 3,ap b8,bG M w0 r m1 m2,.b 2,.b 1,ap bw,bj M w0 r m1,.b 0,ap [1,1,1]]) 3 (ai 2 ?_))
   obtain ⟨h67,h⟩:=aj h
   refine ak (aY (eInt .i64) (eInt .i64) h67 (fun _=>rfl) (fun _=>rfl)) (aB 4 1 ?_)
   obtain ⟨v41,h68,h⟩:=bind_some h
   exact bn (g_ref20_size_ok hK h68) (af (ae 4 (aL (p:=p17_14) n (kX hK hL1 hL2 n h))))
theorem jf (hK:KnOk K) (hL1:co M w0 r v1 v2 m1 L1) (hL2:dp M w0 r v1 v2 v25 m1 m2 L2) (h:dj K n v1 v2 v25 v36 v37 L1 L2 v38=some r):VE (bP M w0) (q17 M w0 r) [ap p17_15,ap p17_16,bG M w0 r m1 m2,.b 2,.b 1,ap bw,bj M w0 r m1,.b 0,ap [1,1,1]] .normal (s17_j1 v1 v2 v25 v36 v37 v38):=by
  unfold dj at h
  rcases am h with ⟨h60,h⟩ | ⟨h60,h⟩
  ·
   refine ah 31 h60 (ac (ks':=[ap p17_17,ap p17_18,.b 3,ap b8,bG M w0 r m1 m2,.b 2,.b 1,ap bw,bj M w0 r m1,.b 0,ap [1,1,1]]) 5 (ai 2 ?_))
   obtain ⟨h61,h⟩:=aj h
   refine ak (aY ag ag h61 (ci) (fun _=>rfl)) (af (ac (ks':=[ap p17_19,ap p17_10,ap p17_11,.b 3,ap b8,bG M w0 r m1 m2,.b 2,.b 1,ap bw,bj M w0 r m1,.b 0,ap [1,1,1]]) 2 (ai 5 ?_)))
   rcases am h with ⟨h62,h⟩ | ⟨h62,h⟩
   ·
    exact ay 42 h62 (af (ae 0 (gQ hK hL1 hL2 h)))
   ·
    refine ay 42 h62 (aB 10 5 ?_)
    rcases am h with ⟨h63,h⟩ | ⟨h63,h⟩
    ·
     exact ay 47 h63 (af (ae 0 (gQ hK hL1 hL2 h)))
    ·
     refine ay 47 h63 (aB 15 5 ?_)
     rcases am h with ⟨h64,h⟩ | ⟨h64,h⟩
     ·
      exact ay 52 h64 (af (ae 0 (gQ hK hL1 hL2 h)))
     ·
      refine ay 52 h64 (aB 20 5 (ak (aF (eInt .i64) v37) ?_))
      obtain ⟨v39,h65,h⟩:=bind_some h
      exact bn (kI hK h65) (af (ae 0 (gQ hK hL1 hL2 h)))
  ·
   exact ah 31 h60 (ae 7 (aN (hL1 h)))
theorem li (hK:KnOk K) (hL1:co M w0 r v1 v2 m1 L1) (hL2:dp M w0 r v1 v2 v25 m1 m2 L2) (h:fp K n v1 v2 v25 L1 L2 v36 v37=some r):VE (bP M w0) (q17 M w0 r) [ap p17_2,bG M w0 r m1 m2,.b 2,.b 1,ap bw,bj M w0 r m1,.b 0,ap [1,1,1]] .normal (s17_l5 v1 v2 v25 v36 v37):=by
  unfold fp at h
  refine ac (ks':=[ap p17_20,ap p17_15,ap p17_16,bG M w0 r m1 m2,.b 2,.b 1,ap bw,bj M w0 r m1,.b 0,ap [1,1,1]]) 2 (ai 2 (ak (aF ag v1) (aB 5 2 ?_)))
  rcases am h with ⟨h59,h⟩ | ⟨h59,h⟩
  ·
   exact ay 26 h59 (aB 7 2 (ak (aF (eInt .i64) v2) (af (ae 0 (jf hK hL1 hL2 h)))))
  ·
   exact ay 26 h59 (af (ae 0 (jf hK hL1 hL2 h)))
theorem jJ (hK:KnOk K) (hL1:co M w0 r v1 v2 m1 L1) (m:Nat):dp M w0 r v1 v2 v25 m1 m (cm K n v1 v2 v25 L1 m):=by
  induction m with
 | zero=>intro v36 v37 h; cases h
 | succ m ih=>intro v36 v37 h; have h:fp K n v1 v2 v25 L1 (cm K n v1 v2 v25 L1 m) v36 v37=some r:=h; exact aM (li hK hL1 ih h)
theorem jE (hK:KnOk K) (hL1:co M w0 r v1 v2 m1 L1) (h:eZ K n v1 v2 L1 v25 v26=some r):VE (bP M w0) (q17 M w0 r) [ap p17_0,bj M w0 r m1,.b 0,ap [1,1,1]] .normal (s17_l6 v1 v2 v25 v26):=by
  unfold eZ at h
  refine ac (ks':=[ap p17_21,ap p17_22,ap p17_23,bj M w0 r m1,.b 0,ap [1,1,1]]) 2 (ai 2 (ak (aF (eInt .i64) v26) (af ?_)))
  rcases am h with ⟨h40,h⟩ | ⟨h40,h⟩
  ·
   exact ah 19 h40 (ae 7 (aL (p:=p17_24) n (jJ hK hL1 n h)))
  ·
   refine ah 19 h40 (aD 8 ?_)
   cases h
   exact ct
theorem ld (hK:KnOk K) (m:Nat):co M w0 r v1 v2 m (da K n v1 v2 m):=by
  induction m with
 | zero=>intro v25 v26 h; cases h
 | succ m ih=>intro v25 v26 h; have h:eZ K n v1 v2 (da K n v1 v2 m) v25 v26=some r:=h; exact aM (jE hK ih h)
theorem jW (hK:KnOk K) (h:fj K n v1 v2 v3=some r):ACalls Try.prog 17 [.sl (lm ag v1),.sl (lm (eInt .i64) v2),.sl (lm (eInt .i64) v3)] (fun v s=>v = .ref 13∧look 13 s.r=some ⟨3,1,lm (eInt .i64) r⟩):=by
  refine aU (cat Try.f17 []) Try.func17 Try.ntmps17 fun M w0=>(aP ⟨[(0,.sl (lm ag v1)),(1,.sl (lm (eInt .i64) v2)),(2,.sl (lm (eInt .i64) v3))],[],[],[]⟩ ?_)
  unfold fj at h
  refine ac (ks':=[ap [1,0],ap [1,1]]) 3 (ai 0 (ot_bs 33 13 (e:=3) (sz:=1) (aB 2 1 ?_)))
  obtain ⟨h1,h⟩:=aj h
  exact ak (y_app 15 13 3 1 (eInt .i64) (rfl) (fun _=>rfl) h1) (af (ae 4 (aL (p:=p17_25) n (ld hK n h))))
end
def bm:=pth 7 1
def p5_1:=pth 6 10100
def du:=pth 6 1
def p5_3:=pth 5 10100
def p5_4:=pth 6 1010011001111
def bV:=pth 6 10100111
def p5_6:=pth 6 1010011001110100
def p5_7:=pth 6 101001100111010010
def p5_8:=pth 6 101001100111010011
def p5_9:=pth 6 101001100111010011000
def p5_10:=pth 6 101001100111010011001
def p5_11:=pth 6 1010011001110100111
def p5_12:=pth 6 10100110011110
def p5_13:=pth 6 10100110011111
def p5_14:=pth 6 101001100101
def p5_15:=pth 6 10100110011
def p5_16:=pth 6 10100110011100
def p5_17:=pth 6 10100110011101
def p5_18:=pth 6 101001100111010
def p5_19:=pth 6 1010010
def p5_20:=pth 6 1010011
def p5_21:=pth 6 1010011000
def p5_22:=pth 6 1010011001
def p5_23:=pth 6 101001100100
def p5_24:=pth 5 1010010
def p5_25:=pth 5 1010011
def p5_26:=pth 5 10100110010
def p5_27:=pth 5 10100110011
def p5_28:=pth 5 10100111
def p5_29:=pth 6 100
def p5_30:=pth 6 101
def p5_31:=pth 6 1010
def p5_32:=pth 0 11100
def p5_33:=pth 0 11101
def p5_34:=pth 0 11110
def p5_35:=pth 0 11111
def p5_36:=pth 0 1111100
def p5_37:=pth 0 1111101
def p5_38:=pth 5 1
def p5_39:=pth 5 100
def p5_40:=pth 5 101
def p5_41:=pth 5 1010
noncomputable section
abbrev cx5 (M:Nat→Prop) (w0:Base):Cx:=⟨Try.prog,118,M,w0⟩
abbrev q5 (M:Nat→Prop) (w0:Base) (r:Bool):=bodyPost Try.prog Try.f5 (RetQ M w0 (fun v _=>v = .bool r))
abbrev cF5 (p:List Nat):Kont:=.c (cat Try.f5 p)
abbrev bJ (M:Nat→Prop) (w0:Base) (r:Bool) (m2:Nat):Kont:=kl (cx5 M w0) (q5 M w0 r) [.b 2,cF5 bm] (cat Try.f5 p5_1) m2
abbrev k5_1 (M:Nat→Prop) (w0:Base) (r:Bool) (m1:Nat):Kont:=kl (cx5 M w0) (q5 M w0 r) [.b 0,cF5 du] (cat Try.f5 p5_3) m1
abbrev k5_3 (M:Nat→Prop) (w0:Base) (r:Bool) (m2 m3:Nat):Kont:=kl (cx5 M w0) (q5 M w0 r) [.b 4,cF5 p5_4,.b 3,cF5 bV,bJ M w0 r m2,.b 2,cF5 bm] (cat Try.f5 p5_6) m3
def s5_j4 (v1:List aa) (v2 v7:List Int) (v30:Int):AS:=⟨[(1,.sl (lm (eInt .i64) v2)),(7,.sl (lm (eInt .i64) v7)),(51,.sl (lm ag v1)),(52,iI (v1.length:Int)),(53,iI v30)],[],[],[]⟩
def s5_l3 (v1:List aa) (v2 v7:List Int) (v30 v35:Int) (v36:List Int) (v37 v38:Int):AS:=⟨[(1,.sl (lm (eInt .i64) v2)),(7,.sl (lm (eInt .i64) v7)),(10,iI v30),(12,iI v35),(51,.sl (lm ag v1)),(52,iI (v1.length:Int)),(53,iI v30),(100,.sl (lm (eInt .i64) v36)),(101,iI v37),(102,iI v38)],[],[],[]⟩
def s5_j2 (v1:List aa) (v2 v7:List Int) (v30:Int) (v31:Bool):AS:=⟨[(1,.sl (lm (eInt .i64) v2)),(7,.sl (lm (eInt .i64) v7)),(10,iI v30),(11,.ptr 11 0),(51,.sl (lm ag v1)),(52,iI (v1.length:Int)),(53,iI v30),(91,.bool v31)],[(11,ag (gD v1 v30))],[],[11]⟩
def s5_l5 (v1:List aa) (v2 v7:List Int) (v30:Int):AS:=⟨[(1,.sl (lm (eInt .i64) v2)),(7,.sl (lm (eInt .i64) v7)),(51,.sl (lm ag v1)),(52,iI (v1.length:Int)),(53,iI v30)],[],[],[]⟩
def s5_l1 (v1:List aa) (v2 v7 v8:List Int) (v10:Int):AS:=⟨[(0,.sl (lm ag v1)),(1,.sl (lm (eInt .i64) v2)),(7,.ref 24),(8,.ref 30),(37,iI (v7.length:Int)),(38,iI v10)],[],[(24,⟨3,1,lm (eInt .i64) v7⟩),(30,⟨3,1,lm (eInt .i64) v8⟩)],[24,30]⟩
abbrev H5_1 (M:Nat→Prop) (w0:Base) (r:Bool) (v1:List aa) (v2 v7 v8:List Int) (m1:Nat) (L1:Int→Option Bool):Prop:=∀ {v10:Int},L1 v10=some r→LP (cx5 M w0) (q5 M w0 r) [.b 0,cF5 du] (cat Try.f5 p5_3) m1 (s5_l1 v1 v2 v7 v8 v10)
abbrev H5_2 (M:Nat→Prop) (w0:Base) (r:Bool) (v1:List aa) (v2 v7:List Int) (m2:Nat) (L2:Int→Option Bool):Prop:=∀ {v30:Int},L2 v30=some r→LP (cx5 M w0) (q5 M w0 r) [.b 2,cF5 bm] (cat Try.f5 p5_1) m2 (s5_l5 v1 v2 v7 v30)
abbrev H5_3 (M:Nat→Prop) (w0:Base) (r:Bool) (v1:List aa) (v2 v7:List Int) (v30:Int) (m2 m3:Nat) (L3:Int→(List Int)→Int→Int→Option Bool):Prop:=∀ {v35:Int} {v36:List Int} {v37 v38:Int},L3 v35 v36 v37 v38=some r→LP (cx5 M w0) (q5 M w0 r) [.b 4,cF5 p5_4,.b 3,cF5 bV,bJ M w0 r m2,.b 2,cF5 bm] (cat Try.f5 p5_6) m3 (s5_l3 v1 v2 v7 v30 v35 v36 v37 v38)
variable {K:Kn} {n:Nat} {M:Nat→Prop} {w0:Base} {r:Bool} {v1:List aa} {v2:List Int} {v3:Int} {v7 v8:List Int} {v10 v30:Int} {v31:Bool} {v35:Int} {v36:List Int} {v37 v38:Int} {m1:Nat} {L1:Int→Option Bool} {m2:Nat} {L2:Int→Option Bool} {m3:Nat} {L3:Int→(List Int)→Int→Int→Option Bool}
theorem jo (hK:KnOk K) (hL2:H5_2 M w0 r v1 v2 v7 m2 L2) (h:ew K n v1 v2 v7 v30 L2=some r):VE (cx5 M w0) (q5 M w0 r) [cF5 bV,bJ M w0 r m2,.b 2,cF5 bm] .normal (s5_j4 v1 v2 v7 v30):=by
  unfold ew at h
  exact ae 1 (aN (hL2 h))
theorem lq (hK:KnOk K) (hL2:H5_2 M w0 r v1 v2 v7 m2 L2) (hL3:H5_3 M w0 r v1 v2 v7 v30 m2 m3 L3) (h:fC K n v1 v2 v7 v30 L2 L3 v35 v36 v37 v38=some r):VE (cx5 M w0) (q5 M w0 r) [cF5 p5_6,k5_3 M w0 r m2 m3,.b 4,cF5 p5_4,.b 3,cF5 bV,bJ M w0 r m2,.b 2,cF5 bm] .normal (s5_l3 v1 v2 v7 v30 v35 v36 v37 v38):=by
  unfold fC at h
  refine ac (ks':=[cF5 p5_7,cF5 p5_8,k5_3 M w0 r m2 m3,.b 4,cF5 p5_4,.b 3,cF5 bV,bJ M w0 r m2,.b 2,cF5 bm]) 3 ?_
  rcases am h with ⟨h73,h⟩ | ⟨h73,h⟩
  ·
   refine ah 103 h73 (ac (ks':=[cF5 p5_9,cF5 p5_10,.b 5,cF5 p5_11,k5_3 M w0 r m2 m3,.b 4,cF5 p5_4,.b 3,cF5 bV,bJ M w0 r m2,.b 2,cF5 bm]) 5 (ai 0 ?_))
   obtain ⟨h74,h⟩:=aj h
   exact ak (aY (eInt .i64) (eInt .i64) h74 (fun _=>rfl) (fun _=>rfl)) (af (ae 3 (aN (hL3 h))))
  ·
   refine ah 103 h73 (ac (ks':=[cF5 p5_12,cF5 p5_13,.b 3,cF5 bV,bJ M w0 r m2,.b 2,cF5 bm]) 6 (ai 3 ?_))
   obtain ⟨h75,h⟩:=aj h
   refine ak (aY (eInt .i64) (eInt .i64) h75 (fun _=>rfl) (fun _=>rfl)) (aB 5 1 ?_)
   obtain ⟨v39,h76,h⟩:=bind_some h
   refine bn (kk hK h76) (af ?_)
   rcases am h with ⟨h77,h⟩ | ⟨h77,h⟩
   ·
    refine ah 116 h77 (aD 9 ?_)
    cases h
    exact aQ
   ·
    exact ah 116 h77 (ae 3 (jo hK hL2 h))
theorem jU (hK:KnOk K) (hL2:H5_2 M w0 r v1 v2 v7 m2 L2) (m:Nat):H5_3 M w0 r v1 v2 v7 v30 m2 m (dX K n v1 v2 v7 v30 L2 m):=by
  induction m with
 | zero=>intro v35 v36 v37 v38 h; cases h
 | succ m ih=>intro v35 v36 v37 v38 h; have h:fC K n v1 v2 v7 v30 L2 (dX K n v1 v2 v7 v30 L2 m) v35 v36 v37 v38=some r:=h; exact aM (lq hK hL2 ih h)
theorem d7 (hK:KnOk K) (hL2:H5_2 M w0 r v1 v2 v7 m2 L2) (h:bX K n v1 v2 v7 v30 L2 v31=some r):VE (cx5 M w0) (q5 M w0 r) [cF5 p5_14,cF5 p5_15,.b 3,cF5 bV,bJ M w0 r m2,.b 2,cF5 bm] .normal (s5_j2 v1 v2 v7 v30 v31):=by
  unfold bX at h
  rcases am h with ⟨h66,h⟩ | ⟨h66,h⟩
  ·
   exact ah 91 h66 (ae 4 (jo hK hL2 h))
  ·
   refine ah 91 h66 (ac (ks':=[cF5 p5_16,cF5 p5_17,cF5 p5_4,.b 3,cF5 bV,bJ M w0 r m2,.b 2,cF5 bm]) 6 (ai 8 ?_))
   obtain ⟨h67,h⟩:=aj h
   exact ak (iQ (eInt .i64) v7 ((gD v1 v30).Row) (w64 (((gD v1 v30).Row)+((gD v1 v30).Rows))) 33 (.tmp 92) (some (.tmp 94)) (some (.tmp 99)) 100 (e:=3) (sz:=1) (by kernel_rfl) (by kernel_rfl) (by kernel_rfl) (by kernel_rfl) (by kernel_rfl) (by kernel_rfl) (fun _=>rfl) (fun k hk=>by subst hk; kernel_rfl) h67) (ak (aF (eInt .i64) (List.drop (((gD v1 v30).Row)).toNat (List.take ((w64 (((gD v1 v30).Row)+((gD v1 v30).Rows)))).toNat v7))) (af (ae 1 (aL (p:=p5_18) n (jU hK hL2 n h)))))
theorem kf (hK:KnOk K) (hL2:H5_2 M w0 r v1 v2 v7 m2 L2) (h:fg K n v1 v2 v7 L2 v30=some r):VE (cx5 M w0) (q5 M w0 r) [cF5 p5_1,bJ M w0 r m2,.b 2,cF5 bm] .normal (s5_l5 v1 v2 v7 v30):=by
  unfold fg at h
  refine ac (ks':=[cF5 p5_19,cF5 p5_20,bJ M w0 r m2,.b 2,cF5 bm]) 3 ?_
  rcases am h with ⟨h59,h⟩ | ⟨h59,h⟩
  ·
   refine ah 54 h59 (ac (ks':=[cF5 p5_21,cF5 p5_22,.b 3,cF5 bV,bJ M w0 r m2,.b 2,cF5 bm]) 5 (ai 1 ?_))
   obtain ⟨h60,h⟩:=aj h
   refine ak (aY ag ag h60 (ci) (fun _=>rfl)) (af (ac (ks':=[cF5 p5_23,cF5 p5_14,cF5 p5_15,.b 3,cF5 bV,bJ M w0 r m2,.b 2,cF5 bm]) 2 (ai 2 (ak (aF (eInt .i64) v2) (aB 5 2 ?_)))))
   rcases am h with ⟨h61,h⟩ | ⟨h61,h⟩
   ·
    exact ay 62 h61 (af (ae 0 (d7 hK hL2 h)))
   ·
    refine ay 62 h61 (aB 10 5 ?_)
    rcases am h with ⟨h62,h⟩ | ⟨h62,h⟩
    ·
     exact ay 67 h62 (af (ae 0 (d7 hK hL2 h)))
    ·
     refine ay 67 h62 (aB 15 5 ?_)
     rcases am h with ⟨h63,h⟩ | ⟨h63,h⟩
     ·
      exact ay 72 h63 (af (ae 0 (d7 hK hL2 h)))
     ·
      refine ay 72 h63 (aB 20 5 ?_)
      rcases am h with ⟨h64,h⟩ | ⟨h64,h⟩
      ·
       exact ay 77 h64 (af (ae 0 (d7 hK hL2 h)))
      ·
       refine ay 77 h64 (aB 25 5 ?_)
       rcases am h with ⟨h65,h⟩ | ⟨h65,h⟩
       ·
        exact ay 82 h65 (af (ae 0 (d7 hK hL2 h)))
       ·
        exact ay 82 h65 (aB 31 6 (ak (aF (eInt .i64) v7) (af (ae 0 (d7 hK hL2 h)))))
  ·
   refine ah 54 h59 (aD 8 ?_)
   cases h
   exact aQ
theorem lc (hK:KnOk K) (m:Nat):H5_2 M w0 r v1 v2 v7 m (cH K n v1 v2 v7 m):=by
  induction m with
 | zero=>intro v30 h; cases h
 | succ m ih=>intro v30 h; have h:fg K n v1 v2 v7 (cH K n v1 v2 v7 m) v30=some r:=h; exact aM (kf hK ih h)
theorem jH (hK:KnOk K) (hL1:H5_1 M w0 r v1 v2 v7 v8 m1 L1) (h:fD K n v1 v2 v7 v8 L1 v10=some r):VE (cx5 M w0) (q5 M w0 r) [cF5 p5_3,k5_1 M w0 r m1,.b 0,cF5 du] .normal (s5_l1 v1 v2 v7 v8 v10):=by
  unfold fD at h
  refine ac (ks':=[cF5 p5_24,cF5 p5_25,k5_1 M w0 r m1,.b 0,cF5 du]) 3 ?_
  rcases am h with ⟨h16,h⟩ | ⟨h16,h⟩
  ·
   refine ah 39 h16 (ac (ks':=[cF5 p5_26,cF5 p5_27,.b 1,cF5 p5_28,k5_1 M w0 r m1,.b 0,cF5 du]) 7 (bk [0,1,7,8,9,37,38] [] [24,30] ?_))
   obtain ⟨h17,h⟩:=aj h
   obtain ⟨h18,h⟩:=aj h
   refine bf 0 (nu 41 [.ref 24,iI v10,.eptr 24 1 (v10.toNat) 0,iI (gD v7 v10),.ref 30,iI v10,.eptr 30 1 (v10.toNat) 0,iI (gD v8 v10),.bool ((gD v7 v10) != (gD v8 v10))]) [] [] [] (az (vz 2) (d_v (aH 24 1 (eInt .i64) (L:=v7) h17) (d_v (aJ 3 0 (eInt .i64) (eInt .i64) (aw h17).2 (fun _=>rfl)) (az (vz 2) (d_v (aH 30 1 (eInt .i64) (L:=v8) h18) (d_v (aJ 3 0 (eInt .i64) (eInt .i64) (aw h18).2 (fun _=>rfl)) (az [.v 0 1] bi))))))) ?_
   obtain ⟨v11,h19,h⟩:=bind_some h
   have h19:=Option.some.inj h19
   refine aV (ks':=[cF5 p5_27,.b 1,cF5 p5_28,k5_1 M w0 r m1,.b 0,cF5 du]) 0 ⟨[(0,.sl (lm ag v1)),(1,.sl (lm (eInt .i64) v2)),(7,.ref 24),(8,.ref 30),(37,iI (v7.length:Int)),(38,iI v10),(49,.bool v11)],[],[(24,⟨3,1,lm (eInt .i64) v7⟩),(30,⟨3,1,lm (eInt .i64) v8⟩)],[24,30]⟩ ?_ (by subst h19; kernel_rfl)
   rcases am h with ⟨h20,h⟩ | ⟨h20,h⟩
   ·
    refine ah 49 h20 (aD 9 ?_)
    cases h
    exact aQ
   ·
    exact ah 49 h20 (ae 4 (aN (hL1 h)))
  ·
   exact ah 39 h16 (ac (ks':=[cF5 p5_29,cF5 p5_30,cF5 bm]) 7 (ai 1 (ak (aF ag v1) (af (ac (ks':=[cF5 p5_31,.b 2,cF5 bm]) 1 (ve_f 24 (ae 0 (aL (p:=p5_31) n (lc hK n h)))))))))
theorem jx (hK:KnOk K) (m:Nat):H5_1 M w0 r v1 v2 v7 v8 m (dA K n v1 v2 v7 v8 m):=by
  induction m with
 | zero=>intro v10 h; cases h
 | succ m ih=>intro v10 h; have h:fD K n v1 v2 v7 v8 (dA K n v1 v2 v7 v8 m) v10=some r:=h; exact aM (jH hK ih h)
theorem kS (hK:KnOk K) (h:gu K n v1 v2 v3=some r):ACalls Try.prog 5 [.sl (lm ag v1),.sl (lm (eInt .i64) v2),iI v3] (fun v _=>v = .bool r):=by
  refine aU (cat Try.f5 []) Try.func5 Try.ntmps5 fun M w0=>(aP ⟨[(0,.sl (lm ag v1)),(1,.sl (lm (eInt .i64) v2)),(2,iI v3)],[],[],[]⟩ ?_)
  unfold gu at h
  refine ac (ks':=[cF5 [1,0,0],cF5 [1,0,1],cF5 [1,1]]) 4 (ai 0 ?_)
  obtain ⟨v4,h1,h⟩:=bind_some h
  refine bn (g_law20_fit_ok hK h1) (af ?_)
  rcases am h with ⟨h2,h⟩ | ⟨h2,h⟩
  ·
   refine ah 16 h2 (aD 5 ?_)
   cases h
   exact aQ
  ·
   refine ah 16 h2 (ac (ks':=[cF5 p5_32,cF5 p5_33,cF5 [1,1,1]]) 4 (ai 2 ?_))
   obtain ⟨v5,h3,h⟩:=bind_some h
   refine bn (g_law20_few_ok hK h3) (af ?_)
   rcases am h with ⟨h4,h⟩ | ⟨h4,h⟩
   ·
    refine ah 20 h4 (aD 5 ?_)
    cases h
    exact aQ
   ·
    refine ah 20 h4 (ac (ks':=[cF5 p5_34,cF5 p5_35]) 3 (bk [0,1,2] [] [] ?_))
    obtain ⟨v7,h7,h⟩:=bind_some h
    obtain ⟨h8,h⟩:=aj h
    obtain ⟨v8,h9,h⟩:=bind_some h
    refine bf 2 (nu 21 [.sl (lm ag v1),.sl (lm (eInt .i64) v2),iI v3,.ref 24,.sl (lm ag v1),.sl (lm (eInt .i64) v2),iI v3,iI (max v3 0),.sl (lm (eInt .i64) (List.replicate ((max v3 0)).toNat (0:Int))),.ref 30]) [] [(24,⟨3,1,lm (eInt .i64) v7⟩),(30,⟨3,1,lm (eInt .i64) v8⟩)] [stp Try.prog 118 Try.f5 p5_34 10,stp Try.prog 118 Try.f5 p5_34 11] (az (vz 3) (av (e_o 0 1 24 (j3 hK h7) (dv 17)) (az [.v 0 2,.v 0 2,.v 0 2,.v 0 2] (av (k_v (lo:=0) (k:=2) (br ⟨(by kernel_rfl),(bD (y_mkf (eInt .i64) (0:Int) 33 (.tmp 28) (.tmp 28) 3 1 8 (max v3 0) .i64 .i64 [iI 0] h8) (by kernel_rfl))⟩ (br ⟨(by kernel_rfl),(bD (y_mkf (eInt .i64) (0:Int) 33 (.tmp 28) (.tmp 28) 3 1 8 (max v3 0) .i64 .i64 [iI 0] h8) (by kernel_rfl))⟩ cE))) (av (e_o 0 1 30 (jW hK h9) (dv 13)) (av (e_d 0) (av (e_d 1) bi))))))) (ac (ks':=[cF5 p5_36,cF5 p5_37,cF5 p5_38]) 2 (ai 1 (ak (aF (eInt .i64) v7) (aB 3 1 (ak (aF (eInt .i64) v8) (af ?_))))))
    rcases am h with ⟨h10,h⟩ | ⟨h10,h⟩
    ·
     refine ah 35 h10 (aD 5 ?_)
     cases h
     exact aQ
    ·
     exact ah 35 h10 (ac (ks':=[cF5 p5_39,cF5 p5_40,cF5 du]) 4 (ai 1 (ak (aF (eInt .i64) v7) (af (ae 1 (aL (p:=p5_41) n (jx hK n h)))))))
end
noncomputable section
variable {K:Kn} {n:Nat} {M:Nat→Prop} {w0:Base} {r:Int} {v1:aa} 
theorem kE (hK:KnOk K) (h:iB K n v1=some r):ACalls Try.prog 33 [.agg (ag v1)] (fun v _=>v=iI r):=by
  refine aU (cat Try.f33 []) Try.func33 Try.ntmps33 fun M w0=>(aP ⟨[(0,.agg (ag v1))],[],[],[]⟩ ?_)
  unfold iB at h
  refine aD 5 ?_
  cases h
  exact aQ
end
noncomputable section
variable {K:Kn} {n:Nat} {M:Nat→Prop} {w0:Base} {r:Bool} {v1:Int} 
theorem kp (hK:KnOk K) (h:gY K n v1=some r):ACalls Try.prog 62 [iI v1] (fun v _=>v = .bool r):=by
  refine aU (cat Try.f62 []) Try.func62 Try.ntmps62 fun M w0=>(aP ⟨[(0,iI v1)],[],[],[]⟩ ?_)
  unfold gY at h
  refine aD 5 ?_
  cases h
  exact aQ
end
end Go.Proofs.Ytolhpahjgddjkaa

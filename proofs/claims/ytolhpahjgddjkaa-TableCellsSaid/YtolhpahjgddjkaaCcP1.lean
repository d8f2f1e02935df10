/- The runs of the functions that TableCells reaches do what their plain forms say, part 1. Made by a program. -/
import Derived.Test.YtolhpahjgddjkaaCcGk
import Derived.Test.YtolhpahjgddjkaaCcP0
namespace Go.Proofs.Ytolhpahjgddjkaa
open Go.RowKit
set_option maxRecDepth 20000
set_option linter.all false
set_option linter.unusedVariables false
set_option linter.unusedSimpArgs false
def p21_0:=pth 0 1110100
def fM:=pth 0 111010011
def p21_2:=pth 0 1110100100101
def p21_3:=pth 0 111010010011
def p21_4:=pth 0 111010010010100
def p21_5:=pth 0 111010010010101
def p21_6:=pth 0 11101001001110
def p21_7:=pth 0 11101001001111
def p21_8:=pth 0 111010010011110
def p21_9:=pth 0 111010010011111
def p21_10:=pth 0 1110100100111110
def p21_11:=pth 0 1110100100111111
def p21_12:=pth 0 111010010011111100
def p21_13:=pth 0 111010010011111101
def p21_14:=pth 0 11101001001111111
def p21_15:=pth 0 111010000
def p21_16:=pth 0 111010001
def p21_17:=pth 0 11101001
def p21_18:=pth 0 11101001000
def p21_19:=pth 0 11101001001
def p21_20:=pth 0 1110100100100
def p21_21:=pth 0 111010
noncomputable section
abbrev cx21 (M:Nat→Prop) (w0:Base):Cx:=⟨Try.prog,111,M,w0⟩
abbrev q21 (M:Nat→Prop) (w0:Base) (r:ab):=bodyPost Try.prog Try.f21 (RetQ M w0 (fun v s=>v = .agg (List.set (aF ({ r with Kids:=[] }:ab)) 58 (.ref 440003))∧look 440003 s.r=some ⟨55,59,lm ax r.Kids⟩))
abbrev bK (p:List Nat):Kont:=.c (cat Try.f21 p)
abbrev eK (M:Nat→Prop) (w0:Base) (r:ab) (m1:Nat):Kont:=kl (cx21 M w0) (q21 M w0 r) [.b 0,bK [1,1,1]] (cat Try.f21 p21_0) m1
def s21_j2 (v1:List bN) (v6:Int) (v11:List (ab×Option (List ab))):AS:=⟨[(0,.sl (lm bV v1)),(2,.ptr 2 0),(3,.ptr 3 0),(4,iI v6)],[(2,List.set (aF cf) 58 (.nils)),(3,List.set (aF ({ cf with Kind:=7,Node:=10,Style:=(gD v1 (0:Int)).Style }:ab)) 58 (.ref 500003))],[(500003,⟨55,59,lm (encN ax 58 55 59 ax) v11⟩)],[2,3,500003]⟩
def s21_j1 (v1:List bN) (v6:Int) (v7:List (ab×Option (List ab))) (v8:Bool):AS:=⟨[(0,.sl (lm bV v1)),(2,.ptr 2 0),(3,.ptr 3 0),(4,iI v6),(5,.ptr 5 0),(32,.bool v8)],[(2,List.set (aF cf) 58 (.nils)),(3,List.set (aF ({ cf with Kind:=7,Node:=10,Style:=(gD v1 (0:Int)).Style }:ab)) 58 (.ref 500003)),(5,bV (gD v1 v6))],[(500003,⟨55,59,lm (encN ax 58 55 59 ax) v7⟩)],[2,3,5,500003]⟩
def s21_l3 (v1:List bN) (v6:Int) (v7:List (ab×Option (List ab))):AS:=⟨[(0,.sl (lm bV v1)),(2,.ptr 2 0),(3,.ptr 3 0),(4,iI v6)],[(2,List.set (aF cf) 58 (.nils)),(3,List.set (aF ({ cf with Kind:=7,Node:=10,Style:=(gD v1 (0:Int)).Style }:ab)) 58 (.ref 500003))],[(500003,⟨55,59,lm (encN ax 58 55 59 ax) v7⟩)],[2,3,500003]⟩
abbrev H21_1 (M:Nat→Prop) (w0:Base) (r:ab) (v1:List bN) (m1:Nat) (L1:Int→(List (ab×Option (List ab)))→Option ab):Prop:=∀ {v6:Int} {v7:(List (ab×Option (List ab)))},L1 v6 v7=some r→LP (cx21 M w0) (q21 M w0 r) [.b 0,bK [1,1,1]] (cat Try.f21 p21_0) m1 (s21_l3 v1 v6 v7)
variable {K:Kn} {n:Nat} {M:Nat→Prop} {w0:Base} {r:ab} {v1:List bN} {v6:Int} {v7:List (ab×Option (List ab))} {v8:Bool} {v11:List (ab×Option (List ab))} {m1:Nat} {L1:Int→(List (ab×Option (List ab)))→Option ab}
theorem sd (hK:KnOk K) (hL1:H21_1 M w0 r v1 m1 L1) (h:jK K n v1 v6 L1 v11=some r):VE (cx21 M w0) (q21 M w0 r) [bK fM,eK M w0 r m1,.b 0,bK [1,1,1]] .normal (s21_j2 v1 v6 v11):=by
  unfold jK at h
  exact ah 1 (aY (hL1 h))
theorem ub (hK:KnOk K) (hL1:H21_1 M w0 r v1 m1 L1) (h:gS K n v1 v6 v7 L1 v8=some r):VE (cx21 M w0) (q21 M w0 r) [bK p21_2,bK p21_3,.b 1,bK fM,eK M w0 r m1,.b 0,bK [1,1,1]] .normal (s21_j1 v1 v6 v7 v8):=by
  unfold gS at h
  rcases au h with ⟨h23,h⟩ | ⟨h23,h⟩
  ·
   refine ak 32 h23 (ac (ks':=[bK p21_4,bK p21_5,bK p21_3,.b 1,bK fM,eK M w0 r m1,.b 0,bK [1,1,1]]) 2 (ve_mark (ai 8 ?_)))
   obtain ⟨h24,h⟩:=av h
   exact aq (y_apN 41 500003 55 59 58 55 59 ax aF ax ({ cf with Kind:=8,Node:=(w64 (10+v6)),Style:=(gD v1 v6).Style }:ab) (.nils) b8 co h24) (ot_grow 500003 55 59 58 55 59 ax aF ax v7 ({ cf with Kind:=8,Node:=(w64 (10+v6)),Style:=(gD v1 v6).Style }:ab) b8 co (ag (ah 3 (sd hK hL1 h))))
  ·
   refine ak 32 h23 (ac (ks':=[bK p21_6,bK p21_7,.b 1,bK fM,eK M w0 r m1,.b 0,bK [1,1,1]]) 5 (ai 6 (aq (fc ax ([({ cf with Kind:=3,Style:=(gD v1 v6).Style,Text:=(gD v1 v6).Text }:ab)]:List ab) (new:=[aF ({ cf with Kind:=3,Style:=(gD v1 v6).Style,Text:=(gD v1 v6).Text }:ab)]) (by simp only [List.map_cons,List.map_nil,b8])) ?_)))
   obtain ⟨h25,h⟩:=av h
   refine aq (y_apn 50 55 59 ax (rfl) (co) h25) (ag (ac (ks':=[bK p21_8,bK p21_9,.b 1,bK fM,eK M w0 r m1,.b 0,bK [1,1,1]]) 1 (ai 2 (aq (aZ (encN ax 58 55 59 ax) v7) (ag (ac (ks':=[bK p21_10,bK p21_11,.b 1,bK fM,eK M w0 r m1,.b 0,bK [1,1,1]]) 1 (bt [0,2,3,4,5,6,7] [2,3,5] [50,500003] ?_)))))))
   refine ve_two ?_ ?_
   ·
    have h:=mX rfl h
    obtain ⟨h26,h⟩:=av h
    obtain ⟨v9,h27,h⟩:=bind_some h
    refine ac (ks':=[bK p21_12,bK p21_13,.b 1,bK fM,eK M w0 r m1,.b 0,bK [1,1,1]]) 2 (bt [0,2,3,4,5,6,7,56] [2,3,5] [50,500003] ?_)
    refine pT 500003 430056 56 3 58 55 59 58 55 59 ax ax v7 ((w64 ((v7.length:Int) - 1))).toNat v9 (.bool true) (aI h26).2 h27 co (fun x5=>?_)
    obtain ⟨h28,h⟩:=av h
    refine ve_tl 22 0 [(57,.ptr 3 58),(58,.ref 500003),(59,iI (w64 ((v7.length:Int) - 1))),(60,.eptr 500003 59 (((w64 ((v7.length:Int) - 1))).toNat) 0),(61,.eptr 500003 59 (((w64 ((v7.length:Int) - 1))).toNat) 58),(62,.ref 430056),(63,iI v6),(64,iI (w64 (10+v6))),(65,.ptr 5 5),(66,.agg (aO ((gD v1 v6).Style))),(67,.ptr 5 3),(68,.int .u8 ((gD v1 v6).Rows)),(69,.int .u8 (Int.tmod ((gD v1 v6).Rows) 4)),(70,iI (w64 (Int.tmod ((gD v1 v6).Rows) 4))),(71,.ptr 5 4),(72,.int .u8 ((gD v1 v6).Cols)),(73,.int .u8 (Int.tmod ((gD v1 v6).Cols) 4)),(74,iI (w64 (Int.tmod ((gD v1 v6).Cols) 4))),(75,.ref 50),(76,.agg (List.set (aF (⟨9,(w64 (10+v6)),(gD v1 v6).Style,⟨#[]⟩,(w64 (Int.tmod ((gD v1 v6).Rows) 4)),(w64 (Int.tmod ((gD v1 v6).Cols) 4)),[]⟩:ab)) 58 (.ref 50))),(77,iI (v9.length:Int)),(78,.sl (lm ax [cf]))] [] [] [] (az (vz 3) (d_v (gf 500003 59 ((w64 ((v7.length:Int) - 1))).toNat 58 (encN ax 58 55 59 ax) (.vv x5) (L:=v7) (i:=(w64 ((v7.length:Int) - 1))) (by simpa only [List.length_set] using h28)) (az [.v 0 1] (aj (e_y 0 62 56 430056 (b:=⟨55,59,lm ax v9⟩) (y_ldV 53 500003 59 58 55 59 ax aF ax x5 (L:=v7) (j:=((w64 ((v7.length:Int) - 1))).toNat) (aI h28).2 b8)) (az (vz 14) (d_v (aZ ax v9) (d_v (fc ax ([cf]:List ab) (new:=[aF cf]) (by simp only [List.map_cons,List.map_nil,b8])) (d_nz)))))))) ?_
    obtain ⟨h29,h⟩:=av h
    refine aq (cE 79 430056 55 59 ax (rfl) (co) h29) ?_
    obtain ⟨h30,h⟩:=av h
    refine aq (gf 500003 59 ((w64 ((v7.length:Int) - 1))).toNat 58 (encN ax 58 55 59 ax) (.vv x5) (L:=v7) (i:=(w64 ((v7.length:Int) - 1))) h30) (aV 25 1 ?_)
    refine pb 430056 56 (c0:=.any) (gF 79 0 (by kernel_rfl)) (fun x6=>?_)
    refine pj 79 56 (tid:=430056) (x:=x6) (c:=.ref 430056) (aq (y_stV 500003 55 59 58 55 59 ax ax (.vv x5) x6 (L:=v7) (j:=((w64 ((v7.length:Int) - 1))).toNat) (aI h30).2 co) (ot_frv 79 56 (tid:=430056) (x:=x6) (b:=⟨55,59,lm ax (v9++[cf])⟩) (ag (ai 0 ?_))))
    obtain ⟨h31,h⟩:=av h
    exact aq (bM 430056 59 ax h31) (dV 50 (aq (cq 430056 55 59 0 ax aF (⟨9,(w64 (10+v6)),(gD v1 v6).Style,⟨#[]⟩,(w64 (Int.tmod ((gD v1 v6).Rows) 4)),(w64 (Int.tmod ((gD v1 v6).Cols) 4)),[({ cf with Kind:=3,Style:=(gD v1 v6).Style,Text:=(gD v1 v6).Text }:ab)]⟩:ab) (aI h31).2 (b8)) (qK 500003 430056 56 3 58 55 59 58 55 59 ax ax v7 ((w64 ((v7.length:Int) - 1))).toNat (List.set (v9++[cf]) ((v9.length:Int)).toNat (⟨9,(w64 (10+v6)),(gD v1 v6).Style,⟨#[]⟩,(w64 (Int.tmod ((gD v1 v6).Rows) 4)),(w64 (Int.tmod ((gD v1 v6).Cols) 4)),[({ cf with Kind:=3,Style:=(gD v1 v6).Style,Text:=(gD v1 v6).Text }:ab)]⟩:ab)) x6 (aI h30).2 co (ag (ah 1 (sd hK hL1 h))))))
   ·
    have h:=nB h
    obtain ⟨h32,h⟩:=av h
    obtain ⟨v10,h33,h⟩:=bind_some h
    refine ac (ks':=[bK p21_14,.b 1,bK fM,eK M w0 r m1,.b 0,bK [1,1,1]]) 1 (bt [0,2,3,4,5,6,7,56] [2,3,5] [50,500003] ?_)
    refine pT 500003 430056 56 3 58 55 59 58 55 59 ax ax v7 ((w64 ((v7.length:Int) - 1))).toNat v10 (.bool false) (aI h32).2 h33 co (fun x7=>?_)
    refine iJ 50 ?_
    obtain ⟨h35,h⟩:=av h
    obtain ⟨h36,h⟩:=av h
    refine ve_tl 25 1 [(83,.ptr 3 58),(84,.ref 500003),(85,iI (w64 ((v7.length:Int) - 1))),(86,.ptr 3 58),(87,.ref 500003),(88,iI (w64 ((v7.length:Int) - 1))),(89,.eptr 500003 59 (((w64 ((v7.length:Int) - 1))).toNat) 0),(90,.eptr 500003 59 (((w64 ((v7.length:Int) - 1))).toNat) 58),(91,.ref 430056),(92,iI v6),(93,iI (w64 (10+v6))),(94,.ptr 5 5),(95,.agg (aO ((gD v1 v6).Style))),(96,.ptr 5 3),(97,.int .u8 ((gD v1 v6).Rows)),(98,.int .u8 (Int.tmod ((gD v1 v6).Rows) 4)),(99,iI (w64 (Int.tmod ((gD v1 v6).Rows) 4))),(100,.ptr 5 4),(101,.int .u8 ((gD v1 v6).Cols)),(102,.int .u8 (Int.tmod ((gD v1 v6).Cols) 4)),(103,iI (w64 (Int.tmod ((gD v1 v6).Cols) 4))),(104,.sl (lm ax [({ cf with Kind:=3,Style:=(gD v1 v6).Style,Text:=(gD v1 v6).Text }:ab)])),(105,.agg (aF (⟨9,(w64 (10+v6)),(gD v1 v6).Style,⟨#[]⟩,(w64 (Int.tmod ((gD v1 v6).Rows) 4)),(w64 (Int.tmod ((gD v1 v6).Cols) 4)),[({ cf with Kind:=3,Style:=(gD v1 v6).Style,Text:=(gD v1 v6).Text }:ab)]⟩:ab))),(106,.sl (lm ax [(⟨9,(w64 (10+v6)),(gD v1 v6).Style,⟨#[]⟩,(w64 (Int.tmod ((gD v1 v6).Rows) 4)),(w64 (Int.tmod ((gD v1 v6).Cols) 4)),[({ cf with Kind:=3,Style:=(gD v1 v6).Style,Text:=(gD v1 v6).Text }:ab)]⟩:ab)]))] [] [] [appS 107 430056 ⟨55,59,lm ax (v10++[(⟨9,(w64 (10+v6)),(gD v1 v6).Style,⟨#[]⟩,(w64 (Int.tmod ((gD v1 v6).Rows) 4)),(w64 (Int.tmod ((gD v1 v6).Cols) 4)),[({ cf with Kind:=3,Style:=(gD v1 v6).Style,Text:=(gD v1 v6).Text }:ab)]⟩:ab)])⟩] (az [.v 0 2,.v 0 2,.v 0 2,.v 0 2,.v 0 2,.v 0 2] (aj (k_v (lo:=0) (k:=2) (bW ⟨(by kernel_rfl),(cc (gf 500003 59 ((w64 ((v7.length:Int) - 1))).toNat 58 (encN ax 58 55 59 ax) (.vv x7) (L:=v7) (i:=(w64 ((v7.length:Int) - 1))) (by simpa only [List.length_set] using h35)) (by kernel_rfl))⟩ (bW ⟨(by kernel_rfl),(cc (gf 500003 59 ((w64 ((v7.length:Int) - 1))).toNat 58 (encN ax 58 55 59 ax) (.vv x7) (L:=v7) (i:=(w64 ((v7.length:Int) - 1))) (by simpa only [List.length_set] using h35)) (by kernel_rfl))⟩ dd))) (az [.v 0 2] (aj (e_y 0 91 56 430056 (b:=⟨55,59,lm ax v10⟩) (y_ldV 53 500003 59 58 55 59 ax aF ax x7 (L:=v7) (j:=((w64 ((v7.length:Int) - 1))).toNat) (aI h35).2 b8)) (az [.v 0 2,.v 0 2,.v 0 2,.v 0 2,.v 0 2,.v 0 2,.v 0 2,.v 0 2,.v 0 2,.v 0 2,.v 0 2,.v 0 2,.v 0 2,.v 0 2] (d_v (fc ax ([(⟨9,(w64 (10+v6)),(gD v1 v6).Style,⟨#[]⟩,(w64 (Int.tmod ((gD v1 v6).Rows) 4)),(w64 (Int.tmod ((gD v1 v6).Cols) 4)),[({ cf with Kind:=3,Style:=(gD v1 v6).Style,Text:=(gD v1 v6).Text }:ab)]⟩:ab)]:List ab) (new:=[aF (⟨9,(w64 (10+v6)),(gD v1 v6).Style,⟨#[]⟩,(w64 (Int.tmod ((gD v1 v6).Rows) 4)),(w64 (Int.tmod ((gD v1 v6).Cols) 4)),[({ cf with Kind:=3,Style:=(gD v1 v6).Style,Text:=(gD v1 v6).Text }:ab)]⟩:ab)]) (by simp only [List.map_cons,List.map_nil,b8])) (aj (e_s (m:=0) (cE 107 430056 55 59 ax (rfl) (co) h36)) (d_nz)))))))) ?_
    obtain ⟨h37,h⟩:=av h
    refine aq (gf 500003 59 ((w64 ((v7.length:Int) - 1))).toNat 58 (encN ax 58 55 59 ax) (.vv x7) (L:=v7) (i:=(w64 ((v7.length:Int) - 1))) h37) (aV 27 1 ?_)
    refine pb 430056 56 (c0:=.any) (gF 107 0 (by kernel_rfl)) (fun x8=>?_)
    exact pj 107 56 (tid:=430056) (x:=x8) (c:=.ref 430056) (aq (y_stV 500003 55 59 58 55 59 ax ax (.vv x7) x8 (L:=v7) (j:=((w64 ((v7.length:Int) - 1))).toNat) (aI h37).2 co) (ot_frv 107 56 (tid:=430056) (x:=x8) (b:=⟨55,59,lm ax (v10++[(⟨9,(w64 (10+v6)),(gD v1 v6).Style,⟨#[]⟩,(w64 (Int.tmod ((gD v1 v6).Rows) 4)),(w64 (Int.tmod ((gD v1 v6).Cols) 4)),[({ cf with Kind:=3,Style:=(gD v1 v6).Style,Text:=(gD v1 v6).Text }:ab)]⟩:ab)])⟩) (qK 500003 430056 56 3 58 55 59 58 55 59 ax ax v7 ((w64 ((v7.length:Int) - 1))).toNat (v10++[(⟨9,(w64 (10+v6)),(gD v1 v6).Style,⟨#[]⟩,(w64 (Int.tmod ((gD v1 v6).Rows) 4)),(w64 (Int.tmod ((gD v1 v6).Cols) 4)),[({ cf with Kind:=3,Style:=(gD v1 v6).Style,Text:=(gD v1 v6).Text }:ab)]⟩:ab)]) x8 (aI h37).2 co (ag (ah 1 (sd hK hL1 h))))))
theorem uH (hK:KnOk K) (hL1:H21_1 M w0 r v1 m1 L1) (h:oX K n v1 L1 v6 v7=some r):VE (cx21 M w0) (q21 M w0 r) [bK p21_0,eK M w0 r m1,.b 0,bK [1,1,1]] .normal (s21_l3 v1 v6 v7):=by
  unfold oX at h
  refine ac (ks':=[bK p21_15,bK p21_16,bK p21_17,eK M w0 r m1,.b 0,bK [1,1,1]]) 2 (ai 2 (aq (aZ bV v1) (ag ?_)))
  rcases au h with ⟨h20,h⟩ | ⟨h20,h⟩
  ·
   refine ak 16 h20 (ac (ks':=[bK p21_18,bK p21_19,.b 1,bK fM,eK M w0 r m1,.b 0,bK [1,1,1]]) 5 (ai 2 ?_))
   obtain ⟨h21,h⟩:=av h
   refine aq (bL bV bV h21 (qR) (fun _=>rfl)) (ag (ac (ks':=[bK p21_20,bK p21_2,bK p21_3,.b 1,bK fM,eK M w0 r m1,.b 0,bK [1,1,1]]) 2 (ai 5 ?_)))
   rcases au h with ⟨h22,h⟩ | ⟨h22,h⟩
   ·
    exact aL 27 h22 (ag (ah 0 (ub hK hL1 h)))
   ·
    exact aL 27 h22 (aV 7 2 (aq (aZ (encN ax 58 55 59 ax) v7) (ag (ah 0 (ub hK hL1 h)))))
  ·
   refine ak 16 h20 ?_
   obtain ⟨h38,h⟩:=av h
   refine aQ 8 (ve_sealN 500003 440003 55 59 58 55 59 ax ax v7 uTBoxtreeBox vU TBoxtreeBox_uos wg h38 ?_)
   cases h
   exact cO
theorem uE (hK:KnOk K) (m:Nat):H21_1 M w0 r v1 m (gk K n v1 m):=by
  induction m with
 | zero=>intro v6 v7 h; cases h
 | succ m ih=>intro v6 v7 h; have h:oX K n v1 (gk K n v1 m) v6 v7=some r:=h; exact aW (uH hK ih h)
theorem g_ref20_Tree_ok (hK:KnOk K) (h:md K n v1=some r):ACalls Try.prog 21 [.sl (lm bV v1)] (fun v s=>v = .agg (List.set (aF ({ r with Kids:=[] }:ab)) 58 (.ref 440003))∧look 440003 s.r=some ⟨55,59,lm ax r.Kids⟩):=by
  refine bo (cat Try.f21 []) Try.func21 Try.ntmps21 fun M w0=>(bg ⟨[(0,.sl (lm bV v1))],[],[],[]⟩ ?_)
  unfold md at h
  refine ac (ks':=[bK [1,0],bK [1,1]]) 3 (ai 1 ?_)
  obtain ⟨h1,h⟩:=av h
  exact aq (bL bV bV h1 (qR) (fun _=>rfl)) (ag (ac (ks':=[bK p21_21,.b 0,bK [1,1,1]]) 4 (bt [0,2,3,4] [2,3] [] (ve_wo 500003 3 58 55 59 (ah 0 (bz (p:=p21_21) n (uE hK n h)))))))
end
noncomputable section
abbrev cx31 (M:Nat→Prop) (w0:Base):Cx:=⟨Try.prog,17,M,w0⟩
abbrev q31 (M:Nat→Prop) (w0:Base) (r:Bool):=bodyPost Try.prog Try.f31 (RetQ M w0 (fun v _=>v = .bool r))
def s31_j1 (v3:Bool):AS:=⟨[(3,.bool v3)],[],[],[]⟩
variable {K:Kn} {n:Nat} {M:Nat→Prop} {w0:Base} {r:Bool} {v1:ae} {v2:Int} {v3:Bool} 
abbrev cF31 (p:List Nat):Kont:=.c (cat Try.f31 p)
theorem uf (hK:KnOk K) (h:pB K n v3=some r):VE (cx31 M w0) (q31 M w0 r) [cF31 [1,1]] .normal (s31_j1 v3):=by
  unfold pB at h
  refine aQ 1 ?_
  cases h
  exact bF
theorem vN (hK:KnOk K) (h:pt K n v1 v2=some r):ACalls Try.prog 31 [.agg (aC v1),.cptr ([iI v2])] (fun v _=>v = .bool r):=by
  refine bo (cat Try.f31 []) Try.func31 Try.ntmps31 fun M w0=>(bg ⟨[(0,.agg (aC v1)),(1,.cptr ([iI v2]))],[],[],[]⟩ ?_)
  unfold pt at h
  refine ac (ks':=[cF31 [1,0],cF31 [1,1]]) 3 (ai 5 ?_)
  rcases au h with ⟨h1,h⟩ | ⟨h1,h⟩
  ·
   exact aL 8 h1 (ag (ah 0 (uf hK h)))
  ·
   exact aL 8 h1 (ag (ah 0 (uf hK h)))
end
noncomputable section
variable {K:Kn} {n:Nat} {M:Nat→Prop} {w0:Base} {r v1 v2:Int} {v3:Fv} {v4:List ae} 
abbrev cF65 (p:List Nat):Kont:=.c (cat Try.f65 p)
theorem xa (hK:KnOk K) (h:ng K n v1 v2 v3 v4=some r):ACalls Try.prog 65 [iI v1,iI v2,.cptr ([.fn v3.id v3.caps]),.cptr ([.sl (lm aC v4)])] (fun v _=>v=iI r):=by
  refine bo (cat Try.f65 []) Try.func65 Try.ntmps65 fun M w0=>(bg ⟨[(0,iI v1),(1,iI v2),(2,.cptr ([.fn v3.id v3.caps])),(3,.cptr ([.sl (lm aC v4)]))],[],[],[]⟩ ?_)
  unfold ng at h
  refine ac (ks':=[cF65 [1,0],cF65 [1,1]]) 3 (bt [0,1,2,3] [] [] ?_)
  obtain ⟨h1,h⟩:=av h
  obtain ⟨v5,h2,h⟩:=bind_some h
  obtain ⟨h3,h⟩:=av h
  obtain ⟨v6,h4,h⟩:=bind_some h
  obtain ⟨v7,h5,h⟩:=bind_some h
  refine bE 1 (nu 7 [.fn v3.id v3.caps,.sl (lm aC v4),iI v1,.cptr (aC (gD v4 v1)),.agg (aC (gD v4 v1)),iI v5,.fn v3.id v3.caps,.sl (lm aC v4),iI v2,.cptr (aC (gD v4 v2)),.agg (aC (gD v4 v2)),iI v6,iI v7]) [] [] [stp Try.prog 20 Try.f65 [1,0] 13] (az (vz 3) (d_v (bL aC aC h1 (fx) (fun _=>rfl)) (az [.v 0 1] (aj (e_c 0 1 12 (hK.fW h2).2 (hK.fW h2).1) (az (vz 3) (d_v (bL aC aC h3 (fx) (fun _=>rfl)) (az [.v 0 1] (aj (e_c 0 1 18 (hK.fW h4).2 (hK.fW h4).1) (aj (e_c 0 1 19 (sV hK h5)) (aj (e_d 0) bC)))))))))) (aQ 1 ?_)
  cases h
  exact bF
end
def p32_0:=pth 0 1110100
def p32_1:=pth 0 1110100111
def p32_2:=pth 0 1110100110011
def p32_3:=pth 0 11101001100110
def p32_4:=pth 0 111010010
def p32_5:=pth 0 111010011
def p32_6:=pth 0 111010011000
def p32_7:=pth 0 111010011001
def p32_8:=pth 0 1110100110010
def p32_9:=pth 0 11110
def p32_10:=pth 0 11111
def p32_11:=pth 0 11100
def p32_12:=pth 0 11101
def p32_13:=pth 0 111010
noncomputable section
abbrev cx32 (M:Nat→Prop) (w0:Base):Cx:=⟨Try.prog,56,M,w0⟩
abbrev q32 (M:Nat→Prop) (w0:Base) (r:List Int):=bodyPost Try.prog Try.f32 (RetQ M w0 (fun v s=>v = .ref 50∧look 50 s.r=some ⟨3,1,lm (eInt .i64) r⟩))
abbrev cr (p:List Nat):Kont:=.c (cat Try.f32 p)
abbrev jC (M:Nat→Prop) (w0:Base) (r:List Int) (m1:Nat):Kont:=kl (cx32 M w0) (q32 M w0 r) [.b 0,cr [1,1,1]] (cat Try.f32 p32_0) m1
def s32_j2 (v1:List ae) (v2:Int) (v3 v4:Fv) (v11:Int) (v15:List Int):AS:=⟨[(1,iI v2),(2,.fn v3.id v3.caps),(4,.ptr 4 0),(7,.ptr 7 0),(9,.ref 50),(12,.sl (lm aC v1)),(13,iI (v1.length:Int)),(14,iI v11)],[(4,[.sl (lm aC v1)]),(7,[.fn v4.id v4.caps])],[(50,⟨3,1,lm (eInt .i64) v15⟩)],[4,7,50]⟩
def s32_j1 (v1:List ae) (v2:Int) (v3 v4:Fv) (v11:Int) (v12:List Int) (v14:Bool):AS:=⟨[(1,iI v2),(2,.fn v3.id v3.caps),(4,.ptr 4 0),(7,.ptr 7 0),(9,.ref 50),(10,iI v11),(12,.sl (lm aC v1)),(13,iI (v1.length:Int)),(14,iI v11),(46,.bool v14)],[(4,[.sl (lm aC v1)]),(7,[.fn v4.id v4.caps])],[(50,⟨3,1,lm (eInt .i64) v12⟩)],[4,7,50]⟩
def s32_l3 (v1:List ae) (v2:Int) (v3 v4:Fv) (v11:Int) (v12:List Int):AS:=⟨[(1,iI v2),(2,.fn v3.id v3.caps),(4,.ptr 4 0),(7,.ptr 7 0),(9,.ref 50),(12,.sl (lm aC v1)),(13,iI (v1.length:Int)),(14,iI v11)],[(4,[.sl (lm aC v1)]),(7,[.fn v4.id v4.caps])],[(50,⟨3,1,lm (eInt .i64) v12⟩)],[4,7,50]⟩
abbrev H32_1 (M:Nat→Prop) (w0:Base) (r:List Int) (v1:List ae) (v2:Int) (v3 v4:Fv) (m1:Nat) (L1:Int→(List Int)→Option (List Int)):Prop:=∀ {v11:Int} {v12:(List Int)},L1 v11 v12=some r→LP (cx32 M w0) (q32 M w0 r) [.b 0,cr [1,1,1]] (cat Try.f32 p32_0) m1 (s32_l3 v1 v2 v3 v4 v11 v12)
variable {K:Kn} {n:Nat} {M:Nat→Prop} {w0:Base} {r:List Int} {v1:List ae} {v2:Int} {v3 v4:Fv} {v11:Int} {v12:List Int} {v14:Bool} {v15:List Int} {m1:Nat} {L1:Int→(List Int)→Option (List Int)}
theorem tH (hK:KnOk K) (hL1:H32_1 M w0 r v1 v2 v3 v4 m1 L1) (h:kf K n v1 v2 v3 v4 v11 L1 v15=some r):VE (cx32 M w0) (q32 M w0 r) [.b 1,cr p32_1,jC M w0 r m1,.b 0,cr [1,1,1]] .normal (s32_j2 v1 v2 v3 v4 v11 v15):=by
  unfold kf at h
  exact ah 2 (aY (hL1 h))
theorem lL (hK:KnOk K) (hL1:H32_1 M w0 r v1 v2 v3 v4 m1 L1) (h:fw K n v1 v2 v3 v4 v11 v12 L1 v14=some r):VE (cx32 M w0) (q32 M w0 r) [cr p32_2,.b 1,cr p32_1,jC M w0 r m1,.b 0,cr [1,1,1]] .normal (s32_j1 v1 v2 v3 v4 v11 v12 v14):=by
  unfold fw at h
  rcases au h with ⟨h29,h⟩ | ⟨h29,h⟩
  ·
   refine ak 46 h29 (ac (ks':=[cr p32_3,.b 1,cr p32_1,jC M w0 r m1,.b 0,cr [1,1,1]]) 1 (ai 3 ?_))
   obtain ⟨h30,h⟩:=av h
   exact aq (cE 50 50 3 1 (eInt .i64) (rfl) (fun _=>rfl) h30) (ag (ah 0 (tH hK hL1 h)))
  ·
   exact ak 46 h29 (ah 2 (tH hK hL1 h))
theorem wv (hK:KnOk K) (hL1:H32_1 M w0 r v1 v2 v3 v4 m1 L1) (h:oG K n v1 v2 v3 v4 L1 v11 v12=some r):VE (cx32 M w0) (q32 M w0 r) [cr p32_0,jC M w0 r m1,.b 0,cr [1,1,1]] .normal (s32_l3 v1 v2 v3 v4 v11 v12):=by
  unfold oG at h
  refine ac (ks':=[cr p32_4,cr p32_5,jC M w0 r m1,.b 0,cr [1,1,1]]) 3 ?_
  rcases au h with ⟨h21,h⟩ | ⟨h21,h⟩
  ·
   refine ak 15 h21 (ac (ks':=[cr p32_6,cr p32_7,.b 1,cr p32_1,jC M w0 r m1,.b 0,cr [1,1,1]]) 5 (ai 1 ?_))
   obtain ⟨h22,h⟩:=av h
   refine aq (bL aC aC h22 (fx) (fun _=>rfl)) (ag (ac (ks':=[cr p32_8,cr p32_2,.b 1,cr p32_1,jC M w0 r m1,.b 0,cr [1,1,1]]) 1 (ai 4 ?_)))
   rcases au h with ⟨h23,h⟩ | ⟨h23,h⟩
   ·
    refine aL 22 h23 (aV 9 5 ?_)
    rcases au h with ⟨h24,h⟩ | ⟨h24,h⟩
    ·
     refine aL 27 h24 (aV 14 5 ?_)
     rcases au h with ⟨h25,h⟩ | ⟨h25,h⟩
     ·
      refine aL 32 h25 (aV 19 5 ?_)
      rcases au h with ⟨h26,h⟩ | ⟨h26,h⟩
      ·
       refine aL 37 h26 (aV 24 5 ?_)
       rcases au h with ⟨h27,h⟩ | ⟨h27,h⟩
       ·
        refine aL 42 h27 (aV 26 2 ?_)
        obtain ⟨v13,h28,h⟩:=bind_some h
        exact i8 (hK.l4 h28) (ag (ah 0 (lL hK hL1 h)))
       ·
        exact aL 42 h27 (ag (ah 0 (lL hK hL1 h)))
      ·
       exact aL 37 h26 (ag (ah 0 (lL hK hL1 h)))
     ·
      exact aL 32 h25 (ag (ah 0 (lL hK hL1 h)))
    ·
     exact aL 27 h24 (ag (ah 0 (lL hK hL1 h)))
   ·
    exact aL 22 h23 (ag (ah 0 (lL hK hL1 h)))
  ·
   refine ak 15 h21 (ac (ks':=[cr p32_9,cr p32_10]) 6 (ai 1 (ot_fo 7 7 ([.fn v4.id v4.caps]) (ot_fo 4 4 ([.sl (lm aC v1)]) (ot_mf 65 #[(.tmp 7),(.tmp 4)] [.cptr ([.fn v4.id v4.caps]),.cptr ([.sl (lm aC v1)])] ?_)))))
   obtain ⟨v16,h31,h⟩:=bind_some h
   refine eh 50 0 (te hK h31) (ag (aQ 3 ?_))
   cases h
   exact cO
theorem vw (hK:KnOk K) (m:Nat):H32_1 M w0 r v1 v2 v3 v4 m (jR K n v1 v2 v3 v4 m):=by
  induction m with
 | zero=>intro v11 v12 h; cases h
 | succ m ih=>intro v11 v12 h; have h:oG K n v1 v2 v3 v4 (jR K n v1 v2 v3 v4 m) v11 v12=some r:=h; exact aW (wv hK ih h)
theorem uw (hK:KnOk K) (h:kG K n v1 v2 v3 v4=some r):ACalls Try.prog 32 [.sl (lm aC v1),iI v2,.fn v3.id v3.caps,.fn v4.id v4.caps] (fun v s=>v = .ref 50∧look 50 s.r=some ⟨3,1,lm (eInt .i64) r⟩):=by
  refine bo (cat Try.f32 []) Try.func32 Try.ntmps32 fun M w0=>(bg ⟨[(0,.sl (lm aC v1)),(1,iI v2),(2,.fn v3.id v3.caps),(3,.fn v4.id v4.caps)],[],[],[]⟩ ?_)
  unfold kG at h
  exact ac (ks':=[cr p32_11,cr p32_12,cr [1,1,1]]) 6 (ai 1 (aq (aZ aC v1) (ag (ac (ks':=[cr p32_13,.b 0,cr [1,1,1]]) 1 (bt [1,2,4,7,9,12,13,14] [4,7] [] (dF 50 9 3 1 (ah 0 (bz (p:=p32_13) n (vw hK n h)))))))))
end
def p34_0:=pth 0 1110100
def p34_1:=pth 0 111010010
def p34_2:=pth 0 111010011
def p34_3:=pth 0 111010011000
def p34_4:=pth 0 111010011001
def p34_5:=pth 0 1110100111
def p34_6:=pth 0 11100
def p34_7:=pth 0 11101
def p34_8:=pth 0 111010
noncomputable section
abbrev cx34 (M:Nat→Prop) (w0:Base):Cx:=⟨Try.prog,17,M,w0⟩
abbrev q34 (M:Nat→Prop) (w0:Base) (r:Int):=bodyPost Try.prog Try.f34 (RetQ M w0 (fun v _=>v=iI r))
abbrev dX (p:List Nat):Kont:=.c (cat Try.f34 p)
abbrev k34_1 (M:Nat→Prop) (w0:Base) (r:Int) (m1:Nat):Kont:=kl (cx34 M w0) (q34 M w0 r) [.b 0,dX [1,1,1]] (cat Try.f34 p34_0) m1
def s34_l1 (v1:List Int) (v2 v3:Int):AS:=⟨[(3,iI v2),(6,.sl (lm (eInt .i64) v1)),(7,iI (v1.length:Int)),(8,iI v3)],[],[],[]⟩
abbrev H34_1 (M:Nat→Prop) (w0:Base) (r:Int) (v1:List Int) (m1:Nat) (L1:Int→Int→Option Int):Prop:=∀ {v2:Int} {v3:Int},L1 v2 v3=some r→LP (cx34 M w0) (q34 M w0 r) [.b 0,dX [1,1,1]] (cat Try.f34 p34_0) m1 (s34_l1 v1 v2 v3)
variable {K:Kn} {n:Nat} {M:Nat→Prop} {w0:Base} {r:Int} {v1:List Int} {v2 v3:Int} {m1:Nat} {L1:Int→Int→Option Int}
theorem wy (hK:KnOk K) (hL1:H34_1 M w0 r v1 m1 L1) (h:ni K n v1 L1 v2 v3=some r):VE (cx34 M w0) (q34 M w0 r) [dX p34_0,k34_1 M w0 r m1,.b 0,dX [1,1,1]] .normal (s34_l1 v1 v2 v3):=by
  unfold ni at h
  refine ac (ks':=[dX p34_1,dX p34_2,k34_1 M w0 r m1,.b 0,dX [1,1,1]]) 3 ?_
  rcases au h with ⟨h3,h⟩ | ⟨h3,h⟩
  ·
   refine ak 9 h3 (ac (ks':=[dX p34_3,dX p34_4,.b 1,dX p34_5,k34_1 M w0 r m1,.b 0,dX [1,1,1]]) 5 (ai 0 ?_))
   obtain ⟨h4,h⟩:=av h
   exact aq (bL (eInt .i64) (eInt .i64) h4 (fun _=>rfl) (fun _=>rfl)) (ag (ah 3 (aY (hL1 h))))
  ·
   refine ak 9 h3 (aQ 8 ?_)
   cases h
   exact bF
theorem uC (hK:KnOk K) (m:Nat):H34_1 M w0 r v1 m (li K n v1 m):=by
  induction m with
 | zero=>intro v2 v3 h; cases h
 | succ m ih=>intro v2 v3 h; have h:ni K n v1 (li K n v1 m) v2 v3=some r:=h; exact aW (wy hK ih h)
theorem pO (hK:KnOk K) (h:fN K n v1=some r):ACalls Try.prog 34 [.sl (lm (eInt .i64) v1)] (fun v _=>v=iI r):=by
  refine bo (cat Try.f34 []) Try.func34 Try.ntmps34 fun M w0=>(bg ⟨[(0,.sl (lm (eInt .i64) v1))],[],[],[]⟩ ?_)
  unfold fN at h
  exact ac (ks':=[dX p34_6,dX p34_7,dX [1,1,1]]) 6 (ai 1 (aq (aZ (eInt .i64) v1) (ag (ah 1 (bz (p:=p34_8) n (uC hK n h))))))
end
def eW:=pth 5 1
def p16_1:=pth 0 111110100
def i9:=pth 0 111110100111
def p16_3:=pth 0 11111010010
def p16_4:=pth 0 11111010011
def p16_5:=pth 0 11111010011000
def p16_6:=pth 0 11111010011001
def p16_7:=pth 0 111110100110010
def p16_8:=pth 0 111110100110011
def p16_9:=pth 0 1111101001100110
def p16_10:=pth 0 1111101001100111
def p16_11:=pth 0 111110100110011101
def p16_12:=pth 0 11111010011001111
def p16_13:=pth 0 11111010011001110100
def p16_14:=pth 0 11111010011001110101
def p16_15:=pth 0 11110
def p16_16:=pth 0 11111
def p16_17:=pth 0 1111100
def p16_18:=pth 0 1111101
def p16_19:=pth 0 11111010
noncomputable section
abbrev cx16 (M:Nat→Prop) (w0:Base):Cx:=⟨Try.prog,72,M,w0⟩
abbrev q16 (M:Nat→Prop) (w0:Base) (r:List Int):=bodyPost Try.prog Try.f16 (RetQ M w0 (fun v s=>v = .ref 17∧look 17 s.r=some ⟨3,1,lm (eInt .i64) r⟩))
abbrev bU (p:List Nat):Kont:=.c (cat Try.f16 p)
abbrev gH (M:Nat→Prop) (w0:Base) (r:List Int) (m1:Nat):Kont:=kl (cx16 M w0) (q16 M w0 r) [.b 0,bU eW] (cat Try.f16 p16_1) m1
def s16_j1 (v1:List ae) (v2 v5:List Int) (v10:Int) (v15:List Int):AS:=⟨[(0,.sl (lm aC v1)),(1,.sl (lm (eInt .i64) v2)),(7,.ref 17),(23,.ref 1023),(24,iI (v5.length:Int)),(25,iI v10)],[],[(17,⟨3,1,lm (eInt .i64) v15⟩),(1023,⟨3,1,lm (eInt .i64) v5⟩)],[17,1023]⟩
def s16_l2 (v1:List ae) (v2 v5:List Int) (v10:Int) (v11:List Int):AS:=⟨[(0,.sl (lm aC v1)),(1,.sl (lm (eInt .i64) v2)),(7,.ref 17),(23,.ref 1023),(24,iI (v5.length:Int)),(25,iI v10)],[],[(17,⟨3,1,lm (eInt .i64) v11⟩),(1023,⟨3,1,lm (eInt .i64) v5⟩)],[17,1023]⟩
abbrev H16_1 (M:Nat→Prop) (w0:Base) (r:List Int) (v1:List ae) (v2 v5:List Int) (m1:Nat) (L1:Int→(List Int)→Option (List Int)):Prop:=∀ {v10:Int} {v11:(List Int)},L1 v10 v11=some r→LP (cx16 M w0) (q16 M w0 r) [.b 0,bU eW] (cat Try.f16 p16_1) m1 (s16_l2 v1 v2 v5 v10 v11)
variable {K:Kn} {n:Nat} {M:Nat→Prop} {w0:Base} {r:List Int} {v1:List ae} {v2:List Int} {v3:Int} {v5:List Int} {v10:Int} {v11 v15:List Int} {m1:Nat} {L1:Int→(List Int)→Option (List Int)}
theorem ug (hK:KnOk K) (hL1:H16_1 M w0 r v1 v2 v5 m1 L1) (h:kX K n v1 v2 v5 v10 L1 v15=some r):VE (cx16 M w0) (q16 M w0 r) [bU i9,gH M w0 r m1,.b 0,bU eW] .normal (s16_j1 v1 v2 v5 v10 v15):=by
  unfold kX at h
  exact ah 1 (aY (hL1 h))
theorem u9 (hK:KnOk K) (hL1:H16_1 M w0 r v1 v2 v5 m1 L1) (h:nO K n v1 v2 v5 L1 v10 v11=some r):VE (cx16 M w0) (q16 M w0 r) [bU p16_1,gH M w0 r m1,.b 0,bU eW] .normal (s16_l2 v1 v2 v5 v10 v11):=by
  unfold nO at h
  refine ac (ks':=[bU p16_3,bU p16_4,gH M w0 r m1,.b 0,bU eW]) 3 ?_
  rcases au h with ⟨h20,h⟩ | ⟨h20,h⟩
  ·
   refine ak 26 h20 (ac (ks':=[bU p16_5,bU p16_6,.b 1,bU i9,gH M w0 r m1,.b 0,bU eW]) 5 (ai 0 ?_))
   obtain ⟨h21,h⟩:=av h
   refine aq (bM 1023 1 (eInt .i64) h21) (aq (bj 3 0 (eInt .i64) (eInt .i64) (aI h21).2 (fun _=>rfl)) (ag (ac (ks':=[bU p16_7,bU p16_8,.b 1,bU i9,gH M w0 r m1,.b 0,bU eW]) 1 (bt [0,1,7,10,23,24,25] [] [17,1023] ?_))))
   obtain ⟨h22,h⟩:=av h
   obtain ⟨h23,h⟩:=av h
   obtain ⟨v12,h24,h⟩:=bind_some h
   refine bE 2 (nu 29 [.sl (lm aC v1),iI (gD v5 v10),.cptr (aC (gD v1 ((gD v5 v10)))),.agg (aC (gD v1 ((gD v5 v10)))),.sl (lm (eInt .i64) v2),iI (gD v5 v10),.cptr ([iI (gD v2 ((gD v5 v10)))]),iI (gD v2 ((gD v5 v10))),iI v12]++nu 11 [.ptr 11 0]) [(11,aC o7)] [] [stp Try.prog 72 Try.f16 p16_7 10,stp Try.prog 72 Try.f16 p16_7 11] (az (vz 2) (d_v (bL aC aC h22 (fx) (fun _=>rfl)) (az [.v 0 1,.v 0 2,.v 0 2] (aj (k_v (lo:=0) (k:=2) (bW ⟨(by kernel_rfl),(cc (bL (eInt .i64) (eInt .i64) h23 (fun _=>rfl) (fun _=>rfl)) (by kernel_rfl))⟩ (bW ⟨(by kernel_rfl),(cc (bL (eInt .i64) (eInt .i64) h23 (fun _=>rfl) (fun _=>rfl)) (by kernel_rfl))⟩ dd))) (az [.v 0 2] (aj (e_c 0 1 37 (iu hK h24)) (aj (e_a 0 1 30 11 (aC o7)) (aj (e_d 0) (aj (e_d 1) bC))))))))) ?_
   obtain ⟨v13,h25,h⟩:=bind_some h
   have h25:=Option.some.inj h25
   refine bq (ks':=[bU p16_9,bU p16_10,.b 1,bU i9,gH M w0 r m1,.b 0,bU eW]) 1 ⟨[(0,.sl (lm aC v1)),(1,.sl (lm (eInt .i64) v2)),(7,.ref 17),(11,.ptr 11 0),(12,iI v12),(23,.ref 1023),(24,iI (v5.length:Int)),(25,iI v10)],[(11,aC v13)],[(17,⟨3,1,lm (eInt .i64) v11⟩),(1023,⟨3,1,lm (eInt .i64) v5⟩)],[11,17,1023]⟩ ?_ (by subst h25; kernel_rfl)
   refine ai 8 ?_
   obtain ⟨h26,h⟩:=av h
   refine aq (qB (eInt .i64) v11 v13.Row (w64 (v13.Row+v13.Rows)) 33 (.tmp 38) (some (.tmp 40)) (some (.tmp 45)) 46 (id:=17) (e:=3) (sz:=1) (et:=3) (by kernel_rfl) (by kernel_rfl) (by kernel_rfl) (by kernel_rfl) (by kernel_rfl) (by kernel_rfl) (by kernel_rfl) (fun k hk=>by subst hk; kernel_rfl) h26) (ag (ac (ks':=[bU p16_11,bU p16_12,.b 1,bU i9,gH M w0 r m1,.b 0,bU eW]) 3 ?_))
   rcases au h with ⟨h27,h⟩ | ⟨h27,h⟩
   ·
    refine ak 49 h27 (ac (ks':=[bU p16_13,bU p16_14,bU p16_12,.b 1,bU i9,gH M w0 r m1,.b 0,bU eW]) 2 (ai 2 ?_))
    obtain ⟨h28,h⟩:=av h
    refine aq (gO 17 1 (off:=(v13.Row).toNat) h28) ?_
    obtain ⟨h29,h⟩:=av h
    refine aq (bj 3 0 (eInt .i64) (eInt .i64) (of_decide_eq_true h29) (fun _=>rfl)) (aV 6 2 ?_)
    obtain ⟨h30,h⟩:=av h
    exact aq (gO 17 1 (off:=(v13.Row).toNat) h30) (aq (cq 17 3 1 0 (eInt .i64) (eInt .i64) (max (List.getD v11 ((v13.Row).toNat+(0:Int).toNat) default) v12) (of_decide_eq_true h29) (fun _=>rfl)) (ag (ah 3 (ug hK hL1 h))))
   ·
    refine ak 49 h27 (ac (ks':=[bU p16_12,.b 1,bU i9,gH M w0 r m1,.b 0,bU eW]) 2 (bt [0,1,7,11,12,13,23,24,25] [11] [17,1023] ?_))
    obtain ⟨h31,h⟩:=av h
    obtain ⟨h32,h⟩:=av h
    obtain ⟨v14,h33,h⟩:=bind_some h
    obtain ⟨h34,h⟩:=av h
    obtain ⟨h35,h⟩:=av h
    exact bE 1 (nu 57 [.sref 17 1 ((v13.Row).toNat) (((w64 (v13.Row+v13.Rows))).toNat - (v13.Row).toNat),.ptr 11 2,iI v13.Rows,iI (w64 (v13.Rows - 1)),.eptr 17 1 ((v13.Row).toNat+((w64 (v13.Rows - 1))).toNat) 0,iI (List.getD v11 ((v13.Row).toNat+((w64 (v13.Rows - 1))).toNat) default),iI v12,.sref 17 1 ((v13.Row).toNat) (((w64 (v13.Row+v13.Rows))).toNat - (v13.Row).toNat),iI v14,iI (w64 (v12 - v14)),iI (max (w64 (v12 - v14)) 0),iI (w64 ((List.getD v11 ((v13.Row).toNat+((w64 (v13.Rows - 1))).toNat) default)+(max (w64 (v12 - v14)) 0))),.eptr 17 1 ((v13.Row).toNat+((w64 (v13.Rows - 1))).toNat) 0]) [] [] [strS 17 ⟨3,1,lm (eInt .i64) (List.set v11 ((v13.Row).toNat+((w64 (v13.Rows - 1))).toNat) (w64 ((List.getD v11 ((v13.Row).toNat+((w64 (v13.Rows - 1))).toNat) default)+(max (w64 (v12 - v14)) 0))))⟩] (az (vz 4) (d_v (gO 17 1 (off:=(v13.Row).toNat) h31) (d_v (bj 3 0 (eInt .i64) (eInt .i64) (of_decide_eq_true h32) (fun _=>rfl)) (az (vz 2) (aj (e_x 0 65 (pO hK h33) ((by kernel_rfl:callArgsLx _ _=some (34,[.sl (List.take (((w64 (v13.Row+v13.Rows))).toNat - (v13.Row).toNat) (List.drop ((v13.Row).toNat) (lm (eInt .i64) v11)))],[.sref 17 1 ((v13.Row).toNat) (((w64 (v13.Row+v13.Rows))).toNat - (v13.Row).toNat)])).trans (by simp only [lx_take]:some (34,([.sl (List.take (((w64 (v13.Row+v13.Rows))).toNat - (v13.Row).toNat) (List.drop ((v13.Row).toNat) (lm (eInt .i64) v11)))]:List AV),([.sref 17 1 ((v13.Row).toNat) (((w64 (v13.Row+v13.Rows))).toNat - (v13.Row).toNat)]:List AV))=some (34,[.sl (lm (eInt .i64) (List.take (((w64 (v13.Row+v13.Rows))).toNat - (v13.Row).toNat) (List.drop ((v13.Row).toNat) v11)))],[.sref 17 1 ((v13.Row).toNat) (((w64 (v13.Row+v13.Rows))).toNat - (v13.Row).toNat)]))) (pm (q:=[(((v13.Row).toNat)+(((w64 (v13.Row+v13.Rows))).toNat - (v13.Row).toNat),(lm (eInt .i64) v11).length)]) (by kernel_rfl) (And.intro (sr_of (eInt .i64) (L:=v11) (off:=(v13.Row).toNat) (m:=(((w64 (v13.Row+v13.Rows))).toNat - (v13.Row).toNat)) h34) trivial))) (az (vz 3) (d_v (gO 17 1 (off:=(v13.Row).toNat) h35) (aj (e_s (m:=0) (cq 17 3 1 0 (eInt .i64) (eInt .i64) (w64 ((List.getD v11 ((v13.Row).toNat+((w64 (v13.Rows - 1))).toNat) default)+(max (w64 (v12 - v14)) 0))) (of_decide_eq_true h32) (fun _=>rfl))) bC)))))))) (ah 1 (ug hK hL1 h))
  ·
   refine ak 26 h20 (aQ 8 ?_)
   cases h
   exact cO
theorem vR (hK:KnOk K) (m:Nat):H16_1 M w0 r v1 v2 v5 m (lI K n v1 v2 v5 m):=by
  induction m with
 | zero=>intro v10 v11 h; cases h
 | succ m ih=>intro v10 v11 h; have h:nO K n v1 v2 v5 (lI K n v1 v2 v5 m) v10 v11=some r:=h; exact aW (u9 hK ih h)
theorem vE (hK:KnOk K) (h:m8 K n v1 v2 v3=some r):ACalls Try.prog 16 [.sl (lm aC v1),.sl (lm (eInt .i64) v2),iI v3] (fun v s=>v = .ref 17∧look 17 s.r=some ⟨3,1,lm (eInt .i64) r⟩):=by
  refine bo (cat Try.f16 []) Try.func16 Try.ntmps16 fun M w0=>(bg ⟨[(0,.sl (lm aC v1)),(1,.sl (lm (eInt .i64) v2)),(2,iI v3)],[],[],[]⟩ ?_)
  unfold m8 at h
  refine ac (ks':=[bU [1,1,0],bU [1,1,1]]) 5 (ai 1 ?_)
  obtain ⟨h1,h⟩:=av h
  refine fV (eInt .i64) (0:Int) 33 (.tmp 16) (.tmp 16) 17 (e:=3) (sz:=1) (zc:=[iI 0]) (kd:=.i64) (kd':=.i64) h1 (ag ?_)
  obtain ⟨v4,h2,h⟩:=bind_some h
  have h2:=Option.some.inj h2
  refine bq (ks':=[bU p16_15,bU p16_16]) 1 ⟨[(0,.sl (lm aC v1)),(1,.sl (lm (eInt .i64) v2)),(5,.ptr 5 0),(7,.ref 17)],[(5,[iI (max v3 0)])],[(17,⟨3,1,lm (eInt .i64) v4⟩)],[5,17]⟩ ?_ (by subst h2; kernel_rfl)
  refine ai 0 (ot_fo 5 5 ([iI (max v3 0)]) (ot_mf 31 #[(.tmp 5)] [.cptr ([iI (max v3 0)])] (ag (ac (ks':=[bU p16_17,bU p16_18,bU eW]) 2 (ai 2 (aq (aZ (eInt .i64) v2) (aV 4 1 ?_)))))))
  obtain ⟨v5,h3,h⟩:=bind_some h
  exact cZ 1023 (uw hK h3) (dQ 50) (aq (aZ (eInt .i64) v5) (ag (ah 1 (bz (p:=p16_19) n (vR hK n h)))))
end
noncomputable section
abbrev cx36 (M:Nat→Prop) (w0:Base):Cx:=⟨Try.prog,17,M,w0⟩
abbrev q36 (M:Nat→Prop) (w0:Base) (r:Bool):=bodyPost Try.prog Try.f36 (RetQ M w0 (fun v _=>v = .bool r))
def s36_j1 (v3:Bool):AS:=⟨[(3,.bool v3)],[],[],[]⟩
variable {K:Kn} {n:Nat} {M:Nat→Prop} {w0:Base} {r:Bool} {v1:ae} {v2:Int} {v3:Bool} 
abbrev cF36 (p:List Nat):Kont:=.c (cat Try.f36 p)
theorem sH (hK:KnOk K) (h:nl K n v3=some r):VE (cx36 M w0) (q36 M w0 r) [cF36 [1,1]] .normal (s36_j1 v3):=by
  unfold nl at h
  refine aQ 1 ?_
  cases h
  exact bF
theorem vb (hK:KnOk K) (h:o6 K n v1 v2=some r):ACalls Try.prog 36 [.agg (aC v1),.cptr ([iI v2])] (fun v _=>v = .bool r):=by
  refine bo (cat Try.f36 []) Try.func36 Try.ntmps36 fun M w0=>(bg ⟨[(0,.agg (aC v1)),(1,.cptr ([iI v2]))],[],[],[]⟩ ?_)
  unfold o6 at h
  refine ac (ks':=[cF36 [1,0],cF36 [1,1]]) 3 (ai 5 ?_)
  rcases au h with ⟨h1,h⟩ | ⟨h1,h⟩
  ·
   exact aL 8 h1 (ag (ah 0 (sH hK h)))
  ·
   exact aL 8 h1 (ag (ah 0 (sH hK h)))
end
def lH:=pth 6 1
def p18_1:=pth 5 10100
def bT:=pth 5 1
def p18_3:=pth 0 111110100
def ce:=pth 0 111110100111
def p18_5:=pth 0 111110100110011111111100
def gY:=pth 0 111110100110011111111
def p18_7:=pth 0 11111010011001111111010100
def ir:=pth 0 11111010011001111111
def p18_9:=pth 0 1111101001100111111010100
def jT:=pth 0 1111101001100111111
def p18_11:=pth 0 1111101001100111110100
def p18_12:=pth 0 11111010011001111111110010
def p18_13:=pth 0 11111010011001111111110011
def p18_14:=pth 0 11111010011001111111110011001
def p18_15:=pth 0 111110100110011111111100111
def p18_16:=pth 0 1111101001100111111110
def p18_17:=pth 0 1111101001100111111111
def p18_18:=pth 0 11111010011001111111110
def p18_19:=pth 0 1111101001100111111101010010
def p18_20:=pth 0 1111101001100111111101010011
def p18_21:=pth 0 1111101001100111111101010011000
def p18_22:=pth 0 1111101001100111111101010011001
def p18_23:=pth 0 11111010011001111111010100111
def p18_24:=pth 0 1111101001100111111101
def p18_25:=pth 0 111110100110011111110100
def p18_26:=pth 0 111110100110011111110101
def p18_27:=pth 0 1111101001100111111101010
def p18_28:=pth 0 111110100110011111101010010
def p18_29:=pth 0 111110100110011111101010011
def p18_30:=pth 0 111110100110011111101010011000
def p18_31:=pth 0 111110100110011111101010011001
def p18_32:=pth 0 1111101001100111111010100111
def p18_33:=pth 0 111110100110011111010010
def p18_34:=pth 0 111110100110011111010011
def p18_35:=pth 0 111110100110011111010011000
def p18_36:=pth 0 111110100110011111010011001
def p18_37:=pth 0 1111101001100111110100111
def p18_38:=pth 0 1111101001100111110100110010
def p18_39:=pth 0 1111101001100111110100110011
def p18_40:=pth 0 111110100110011111101
def p18_41:=pth 0 11111010011001111110100
def p18_42:=pth 0 11111010011001111110101
def p18_43:=pth 0 111110100110011111101010
def p18_44:=pth 5 1010010
def p18_45:=pth 5 1010011
def p18_46:=pth 5 1010011001
def p18_47:=pth 5 10100111
def p18_48:=pth 0 11111010010
def p18_49:=pth 0 11111010011
def p18_50:=pth 0 11111010011000
def p18_51:=pth 0 11111010011001
def p18_52:=pth 0 111110100110010
def p18_53:=pth 0 111110100110011
def p18_54:=pth 0 1111101001100110
def p18_55:=pth 0 1111101001100111
def p18_56:=pth 0 111110100110011101
def p18_57:=pth 0 11111010011001111
def p18_58:=pth 0 11111010011001110100
def p18_59:=pth 0 11111010011001110101
def p18_60:=pth 0 111110100110011110
def p18_61:=pth 0 111110100110011111
def p18_62:=pth 0 11111010011001111100
def p18_63:=pth 0 11111010011001111101
def p18_64:=pth 0 111110100110011111010
def p18_65:=pth 5 100
def p18_66:=pth 5 101
def p18_67:=pth 5 1010
def p18_68:=pth 0 11110
def p18_69:=pth 0 11111
def p18_70:=pth 0 1111100
def p18_71:=pth 0 1111101
def p18_72:=pth 0 11111010
noncomputable section
abbrev cX (M:Nat→Prop) (w0:Base):Cx:=⟨Try.prog,204,M,w0⟩
abbrev q18 (M:Nat→Prop) (w0:Base) (r:List am):=bodyPost Try.prog Try.f18 (RetQ M w0 (fun v s=>v = .ref 27∧look 27 s.r=some ⟨36,2,lm aM r⟩))
abbrev aA (p:List Nat):Kont:=.c (cat Try.f18 p)
abbrev k18_6 (M:Nat→Prop) (w0:Base) (r:List am) (m6:Nat):Kont:=kl (cX M w0) (q18 M w0 r) [.b 10,aA lH] (cat Try.f18 p18_1) m6
abbrev bZ (M:Nat→Prop) (w0:Base) (r:List am) (m1:Nat):Kont:=kl (cX M w0) (q18 M w0 r) [.b 0,aA bT] (cat Try.f18 p18_3) m1
abbrev k18_5 (M:Nat→Prop) (w0:Base) (r:List am) (m1 m5:Nat):Kont:=kl (cX M w0) (q18 M w0 r) [.b 8,.b 1,aA ce,bZ M w0 r m1,.b 0,aA bT] (cat Try.f18 p18_5) m5
abbrev k18_4 (M:Nat→Prop) (w0:Base) (r:List am) (m1 m4:Nat):Kont:=kl (cX M w0) (q18 M w0 r) [.b 6,aA gY,.b 1,aA ce,bZ M w0 r m1,.b 0,aA bT] (cat Try.f18 p18_7) m4
abbrev k18_3 (M:Nat→Prop) (w0:Base) (r:List am) (m1 m3:Nat):Kont:=kl (cX M w0) (q18 M w0 r) [.b 4,aA ir,.b 1,aA ce,bZ M w0 r m1,.b 0,aA bT] (cat Try.f18 p18_9) m3
abbrev k18_2 (M:Nat→Prop) (w0:Base) (r:List am) (m1 m2:Nat):Kont:=kl (cX M w0) (q18 M w0 r) [.b 2,aA jT,.b 1,aA ce,bZ M w0 r m1,.b 0,aA bT] (cat Try.f18 p18_11) m2
def s18_j7 (v1:List ae) (v2:List am) (v5:List Int) (v33:Int) (v61:List am):AS:=⟨[(0,.sl (lm aC v1)),(1,.sl (lm aM v2)),(7,.ref 27),(33,.ref 1033),(34,iI (v5.length:Int)),(35,iI v33)],[],[(27,⟨36,2,lm aM v61⟩),(1033,⟨3,1,lm (eInt .i64) v5⟩)],[27,1033]⟩
def s18_l6 (v1:List ae) (v2:List am) (v5:List Int) (v33:Int) (v37:ae) (v51 v55:List Int) (v58 v59:Int) (v60:List am):AS:=⟨[(0,.sl (lm aC v1)),(1,.sl (lm aM v2)),(7,.ref 27),(13,.sref 27 2 ((v37.Col).toNat) (((w64 (v37.Col+v37.Cols))).toNat - (v37.Col).toNat)),(14,.ref 87),(15,.ref 90),(33,.ref 1033),(34,iI (v5.length:Int)),(35,iI v33),(164,iI v58),(165,iI v59)],[],[(27,⟨36,2,lm aM v60⟩),(87,⟨3,1,lm (eInt .i64) v51⟩),(90,⟨3,1,lm (eInt .i64) v55⟩),(1033,⟨3,1,lm (eInt .i64) v5⟩)],[27,87,90,1033]⟩
def s18_j5 (v1:List ae) (v2:List am) (v5:List Int) (v33:Int) (v34:List am) (v37:ae) (v51 v55:List Int):AS:=⟨[(0,.sl (lm aC v1)),(1,.sl (lm aM v2)),(7,.ref 27),(13,.sref 27 2 ((v37.Col).toNat) (((w64 (v37.Col+v37.Cols))).toNat - (v37.Col).toNat)),(14,.ref 87),(15,.ref 90),(33,.ref 1033),(34,iI (v5.length:Int)),(35,iI v33)],[],[(27,⟨36,2,lm aM v34⟩),(87,⟨3,1,lm (eInt .i64) v51⟩),(90,⟨3,1,lm (eInt .i64) v55⟩),(1033,⟨3,1,lm (eInt .i64) v5⟩)],[27,87,90,1033]⟩
def s18_l4 (v1:List ae) (v2:List am) (v5:List Int) (v33:Int) (v34:List am) (v37:ae) (v51 v52:List Int) (v53:Int) (v54:List Int):AS:=⟨[(0,.sl (lm aC v1)),(1,.sl (lm aM v2)),(7,.ref 27),(13,.sref 27 2 ((v37.Col).toNat) (((w64 (v37.Col+v37.Cols))).toNat - (v37.Col).toNat)),(14,.ref 87),(15,.ref 90),(33,.ref 1033),(34,iI (v5.length:Int)),(35,iI v33),(148,.ref 1148),(149,iI (v52.length:Int)),(150,iI v53)],[],[(27,⟨36,2,lm aM v34⟩),(87,⟨3,1,lm (eInt .i64) v51⟩),(90,⟨3,1,lm (eInt .i64) v54⟩),(1033,⟨3,1,lm (eInt .i64) v5⟩),(1148,⟨3,1,lm (eInt .i64) v52⟩)],[27,87,90,1033,1148]⟩
def s18_j3 (v1:List ae) (v2:List am) (v5:List Int) (v33:Int) (v34:List am) (v37:ae) (v43 v44:Int) (v46 v51:List Int):AS:=⟨[(0,.sl (lm aC v1)),(1,.sl (lm aM v2)),(7,.ref 27),(12,.ptr 12 0),(13,.sref 27 2 ((v37.Col).toNat) (((w64 (v37.Col+v37.Cols))).toNat - (v37.Col).toNat)),(14,.ref 87),(15,.ref 90),(33,.ref 1033),(34,iI (v5.length:Int)),(35,iI v33)],[(12,aM (⟨v43,v44⟩:am))],[(27,⟨36,2,lm aM v34⟩),(87,⟨3,1,lm (eInt .i64) v51⟩),(90,⟨3,1,lm (eInt .i64) v46⟩),(1033,⟨3,1,lm (eInt .i64) v5⟩)],[12,27,87,90,1033]⟩
def s18_l2 (v1:List ae) (v2:List am) (v5:List Int) (v33:Int) (v34:List am) (v37:ae) (v43 v44:Int) (v46 v48:List Int) (v49:Int) (v50:List Int):AS:=⟨[(0,.sl (lm aC v1)),(1,.sl (lm aM v2)),(7,.ref 27),(12,.ptr 12 0),(13,.sref 27 2 ((v37.Col).toNat) (((w64 (v37.Col+v37.Cols))).toNat - (v37.Col).toNat)),(14,.ref 87),(15,.ref 90),(33,.ref 1033),(34,iI (v5.length:Int)),(35,iI v33),(127,.ref 1127),(128,iI (v48.length:Int)),(129,iI v49)],[(12,aM (⟨v43,v44⟩:am))],[(27,⟨36,2,lm aM v34⟩),(87,⟨3,1,lm (eInt .i64) v50⟩),(90,⟨3,1,lm (eInt .i64) v46⟩),(1033,⟨3,1,lm (eInt .i64) v5⟩),(1127,⟨3,1,lm (eInt .i64) v48⟩)],[12,27,87,90,1033,1127]⟩
def s18_l1 (v1:List ae) (v2:List am) (v5:List Int) (v33:Int) (v34:List am) (v37:ae) (v41 v42 v43 v44:Int) (v45 v46:List Int):AS:=⟨[(0,.sl (lm aC v1)),(1,.sl (lm aM v2)),(7,.ref 27),(12,.ptr 12 0),(13,.sref 27 2 ((v37.Col).toNat) (((w64 (v37.Col+v37.Cols))).toNat - (v37.Col).toNat)),(14,.ref 87),(15,.ref 90),(33,.ref 1033),(34,iI (v5.length:Int)),(35,iI v33),(91,.sref 27 2 ((v37.Col).toNat) (((w64 (v37.Col+v37.Cols))).toNat - (v37.Col).toNat)),(92,iI v41),(93,iI v42)],[(12,aM (⟨v43,v44⟩:am))],[(27,⟨36,2,lm aM v34⟩),(87,⟨3,1,lm (eInt .i64) v45⟩),(90,⟨3,1,lm (eInt .i64) v46⟩),(1033,⟨3,1,lm (eInt .i64) v5⟩)],[12,27,87,90,1033]⟩
def s18_l9 (v34:List am) (v62:Int) (v63:List am):AS:=⟨[(7,.ref 27),(183,iI (v34.length:Int)),(184,iI v62)],[],[(27,⟨36,2,lm aM v63⟩)],[27]⟩
def s18_l8 (v1:List ae) (v2:List am) (v5:List Int) (v33:Int) (v34:List am):AS:=⟨[(0,.sl (lm aC v1)),(1,.sl (lm aM v2)),(7,.ref 27),(33,.ref 1033),(34,iI (v5.length:Int)),(35,iI v33)],[],[(27,⟨36,2,lm aM v34⟩),(1033,⟨3,1,lm (eInt .i64) v5⟩)],[27,1033]⟩
abbrev eE (M:Nat→Prop) (w0:Base) (r:List am) (v1:List ae) (v2:List am) (v5:List Int) (m1:Nat) (L1:Int→(List am)→Option (List am)):Prop:=∀ {v33:Int} {v34:(List am)},L1 v33 v34=some r→LP (cX M w0) (q18 M w0 r) [.b 0,aA bT] (cat Try.f18 p18_3) m1 (s18_l8 v1 v2 v5 v33 v34)
abbrev H18_2 (M:Nat→Prop) (w0:Base) (r:List am) (v1:List ae) (v2:List am) (v5:List Int) (v33:Int) (v34:List am) (v37:ae) (m1 m2:Nat) (L2:Int→Int→Int→Int→(List Int)→(List Int)→Option (List am)):Prop:=∀ {v41:Int} {v42:Int} {v43:Int} {v44:Int} {v45:(List Int)} {v46:(List Int)},L2 v41 v42 v43 v44 v45 v46=some r→LP (cX M w0) (q18 M w0 r) [.b 2,aA jT,.b 1,aA ce,bZ M w0 r m1,.b 0,aA bT] (cat Try.f18 p18_11) m2 (s18_l1 v1 v2 v5 v33 v34 v37 v41 v42 v43 v44 v45 v46)
abbrev H18_3 (M:Nat→Prop) (w0:Base) (r:List am) (v1:List ae) (v2:List am) (v5:List Int) (v33:Int) (v34:List am) (v37:ae) (v43 v44:Int) (v46 v48:List Int) (m1 m3:Nat) (L3:Int→(List Int)→Option (List am)):Prop:=∀ {v49:Int} {v50:(List Int)},L3 v49 v50=some r→LP (cX M w0) (q18 M w0 r) [.b 4,aA ir,.b 1,aA ce,bZ M w0 r m1,.b 0,aA bT] (cat Try.f18 p18_9) m3 (s18_l2 v1 v2 v5 v33 v34 v37 v43 v44 v46 v48 v49 v50)
abbrev H18_4 (M:Nat→Prop) (w0:Base) (r:List am) (v1:List ae) (v2:List am) (v5:List Int) (v33:Int) (v34:List am) (v37:ae) (v51 v52:List Int) (m1 m4:Nat) (L4:Int→(List Int)→Option (List am)):Prop:=∀ {v53:Int} {v54:(List Int)},L4 v53 v54=some r→LP (cX M w0) (q18 M w0 r) [.b 6,aA gY,.b 1,aA ce,bZ M w0 r m1,.b 0,aA bT] (cat Try.f18 p18_7) m4 (s18_l4 v1 v2 v5 v33 v34 v37 v51 v52 v53 v54)
abbrev H18_5 (M:Nat→Prop) (w0:Base) (r:List am) (v1:List ae) (v2:List am) (v5:List Int) (v33:Int) (v37:ae) (v51 v55:List Int) (m1 m5:Nat) (L5:Int→Int→(List am)→Option (List am)):Prop:=∀ {v58:Int} {v59:Int} {v60:(List am)},L5 v58 v59 v60=some r→LP (cX M w0) (q18 M w0 r) [.b 8,.b 1,aA ce,bZ M w0 r m1,.b 0,aA bT] (cat Try.f18 p18_5) m5 (s18_l6 v1 v2 v5 v33 v37 v51 v55 v58 v59 v60)
abbrev H18_6 (M:Nat→Prop) (w0:Base) (r v34:List am) (m6:Nat) (L6:Int→(List am)→Option (List am)):Prop:=∀ {v62:Int} {v63:(List am)},L6 v62 v63=some r→LP (cX M w0) (q18 M w0 r) [.b 10,aA lH] (cat Try.f18 p18_1) m6 (s18_l9 v34 v62 v63)
variable {K:Kn} {n:Nat} {M:Nat→Prop} {w0:Base} {r:List am} {v1:List ae} {v2:List am} {v3:Int} {v5:List Int} {v33:Int} {v34:List am} {v37:ae} {v41 v42 v43 v44:Int} {v45 v46 v48:List Int} {v49:Int} {v50 v51 v52:List Int} {v53:Int} {v54 v55:List Int} {v58 v59:Int} {v60 v61:List am} {v62:Int} {v63:List am} {m1:Nat} {L1:Int→(List am)→Option (List am)} {m2:Nat} {L2:Int→Int→Int→Int→(List Int)→(List Int)→Option (List am)} {m3:Nat} {L3:Int→(List Int)→Option (List am)} {m4:Nat} {L4:Int→(List Int)→Option (List am)} {m5:Nat} {L5:Int→Int→(List am)→Option (List am)} {m6:Nat} {L6:Int→(List am)→Option (List am)}
theorem tQ (hK:KnOk K) (hL1:eE M w0 r v1 v2 v5 m1 L1) (h:nE K n v1 v2 v5 v33 L1 v61=some r):VE (cX M w0) (q18 M w0 r) [aA ce,bZ M w0 r m1,.b 0,aA bT] .normal (s18_j7 v1 v2 v5 v33 v61):=by
  unfold nE at h
  exact ah 1 (aY (hL1 h))
theorem vZ (hK:KnOk K) (hL1:eE M w0 r v1 v2 v5 m1 L1) (hL5:H18_5 M w0 r v1 v2 v5 v33 v37 v51 v55 m1 m5 L5) (h:o4 K n v1 v2 v5 v33 v37 v51 v55 L1 L5 v58 v59 v60=some r):VE (cX M w0) (q18 M w0 r) [aA p18_5,k18_5 M w0 r m1 m5,.b 8,.b 1,aA ce,bZ M w0 r m1,.b 0,aA bT] .normal (s18_l6 v1 v2 v5 v33 v37 v51 v55 v58 v59 v60):=by
  unfold o4 at h
  refine ac (ks':=[aA p18_12,aA p18_13,k18_5 M w0 r m1 m5,.b 8,.b 1,aA ce,bZ M w0 r m1,.b 0,aA bT]) 3 ?_
  rcases au h with ⟨h123,h⟩ | ⟨h123,h⟩
  ·
   refine ak 166 h123 (ac (ks':=[aA p18_14,.b 9,aA p18_15,k18_5 M w0 r m1 m5,.b 8,.b 1,aA ce,bZ M w0 r m1,.b 0,aA bT]) 6 (bt [0,1,7,13,14,15,22,33,34,35,164,165] [] [27,87,90,1033] ?_))
   obtain ⟨h124,h⟩:=av h
   obtain ⟨h125,h⟩:=av h
   obtain ⟨h126,h⟩:=av h
   obtain ⟨h127,h⟩:=av h
   exact bE 1 (nu 168 [.sref 27 2 ((v37.Col).toNat) (((w64 (v37.Col+v37.Cols))).toNat - (v37.Col).toNat),iI v59,.ref 87,iI v59,.eptr 87 1 (v59.toNat) 0,iI (gD v51 v59),.ref 90,iI v59,.eptr 90 1 (v59.toNat) 0,iI (gD v55 v59),.agg (aM (⟨(gD v51 v59),(gD v55 v59)⟩:am)),.eptr 27 2 ((v37.Col).toNat+v59.toNat) 0]) [] [] [strS 27 ⟨36,2,lm aM (List.set v60 ((v37.Col).toNat+v59.toNat) (⟨(gD v51 v59),(gD v55 v59)⟩:am))⟩] (az (vz 4) (d_v (bv 87 1 (eInt .i64) (L:=v51) h124) (d_v (bj 3 0 (eInt .i64) (eInt .i64) (aI h124).2 (fun _=>rfl)) (az (vz 2) (d_v (bv 90 1 (eInt .i64) (L:=v55) h125) (d_v (bj 3 0 (eInt .i64) (eInt .i64) (aI h125).2 (fun _=>rfl)) (az [.v 0 1] (d_v (gO 27 2 (off:=(v37.Col).toNat) h126) (aj (e_s (m:=0) (cq 27 36 2 0 aM aM (⟨(gD v51 v59),(gD v55 v59)⟩:am) (of_decide_eq_true h127) (fun _=>rfl))) bC))))))))) (ah 2 (aY (hL5 h)))
  ·
   exact ak 166 h123 (ah 6 (tQ hK hL1 h))
theorem vp (hK:KnOk K) (hL1:eE M w0 r v1 v2 v5 m1 L1) (m:Nat):H18_5 M w0 r v1 v2 v5 v33 v37 v51 v55 m1 m (jV K n v1 v2 v5 v33 v37 v51 v55 L1 m):=by
  induction m with
 | zero=>intro v58 v59 v60 h; cases h
 | succ m ih=>intro v58 v59 v60 h; have h:o4 K n v1 v2 v5 v33 v37 v51 v55 L1 (jV K n v1 v2 v5 v33 v37 v51 v55 L1 m) v58 v59 v60=some r:=h; exact aW (vZ hK hL1 ih h)
theorem sT (hK:KnOk K) (hL1:eE M w0 r v1 v2 v5 m1 L1) (h:jz K n v1 v2 v5 v33 v34 v37 v51 L1 v55=some r):VE (cX M w0) (q18 M w0 r) [aA gY,.b 1,aA ce,bZ M w0 r m1,.b 0,aA bT] .normal (s18_j5 v1 v2 v5 v33 v34 v37 v51 v55):=by
  unfold jz at h
  exact ac (ks':=[aA p18_16,aA p18_17,.b 1,aA ce,bZ M w0 r m1,.b 0,aA bT]) 1 (ai 1 (aq (y_lnv (m:=(((w64 (v37.Col+v37.Cols))).toNat - (v37.Col).toNat))) (ag (ah 1 (bz (p:=p18_18) n (vp hK hL1 n h))))))
theorem uZ (hK:KnOk K) (hL1:eE M w0 r v1 v2 v5 m1 L1) (hL4:H18_4 M w0 r v1 v2 v5 v33 v34 v37 v51 v52 m1 m4 L4) (h:oc K n v1 v2 v5 v33 v34 v37 v51 v52 L1 L4 v53 v54=some r):VE (cX M w0) (q18 M w0 r) [aA p18_7,k18_4 M w0 r m1 m4,.b 6,aA gY,.b 1,aA ce,bZ M w0 r m1,.b 0,aA bT] .normal (s18_l4 v1 v2 v5 v33 v34 v37 v51 v52 v53 v54):=by
  unfold oc at h
  refine ac (ks':=[aA p18_19,aA p18_20,k18_4 M w0 r m1 m4,.b 6,aA gY,.b 1,aA ce,bZ M w0 r m1,.b 0,aA bT]) 3 ?_
  rcases au h with ⟨h112,h⟩ | ⟨h112,h⟩
  ·
   refine ak 151 h112 (ac (ks':=[aA p18_21,aA p18_22,.b 7,aA p18_23,k18_4 M w0 r m1 m4,.b 6,aA gY,.b 1,aA ce,bZ M w0 r m1,.b 0,aA bT]) 5 (ai 1 ?_))
   obtain ⟨h113,h⟩:=av h
   refine aq (bM 1148 1 (eInt .i64) h113) (aq (bj 3 0 (eInt .i64) (eInt .i64) (aI h113).2 (fun _=>rfl)) (ag (ai 2 ?_)))
   obtain ⟨h114,h⟩:=av h
   refine aq (bM 90 1 (eInt .i64) h114) (aq (bj 3 0 (eInt .i64) (eInt .i64) (aI h114).2 (fun _=>rfl)) (aV 6 2 ?_))
   obtain ⟨h115,h⟩:=av h
   exact aq (bM 90 1 (eInt .i64) h115) (aq (cq 90 3 1 0 (eInt .i64) (eInt .i64) (w64 ((gD v54 v53)+(gD v52 v53))) (aI h115).2 (fun _=>rfl)) (ag (ah 2 (aY (hL4 h)))))
  ·
   exact ak 151 h112 (ah 5 (sT hK hL1 h))
theorem uz (hK:KnOk K) (hL1:eE M w0 r v1 v2 v5 m1 L1) (m:Nat):H18_4 M w0 r v1 v2 v5 v33 v34 v37 v51 v52 m1 m (jX K n v1 v2 v5 v33 v34 v37 v51 v52 L1 m):=by
  induction m with
 | zero=>intro v53 v54 h; cases h
 | succ m ih=>intro v53 v54 h; have h:oc K n v1 v2 v5 v33 v34 v37 v51 v52 L1 (jX K n v1 v2 v5 v33 v34 v37 v51 v52 L1 m) v53 v54=some r:=h; exact aW (uZ hK hL1 ih h)
theorem sZ (hK:KnOk K) (hL1:eE M w0 r v1 v2 v5 m1 L1) (h:iy K n v1 v2 v5 v33 v34 v37 v43 v44 v46 L1 v51=some r):VE (cX M w0) (q18 M w0 r) [aA ir,.b 1,aA ce,bZ M w0 r m1,.b 0,aA bT] .normal (s18_j3 v1 v2 v5 v33 v34 v37 v43 v44 v46 v51):=by
  unfold iy at h
  refine ac (ks':=[aA p18_24,aA gY,.b 1,aA ce,bZ M w0 r m1,.b 0,aA bT]) 3 ?_
  rcases au h with ⟨h106,h⟩ | ⟨h106,h⟩
  ·
   refine ak 144 h106 (ac (ks':=[aA p18_25,aA p18_26,aA gY,.b 1,aA ce,bZ M w0 r m1,.b 0,aA bT]) 2 (ai 3 ?_))
   obtain ⟨v52,h107,h⟩:=bind_some h
   exact ot_lxo 1148 (sA hK h107) (pX _ _ (sc_int _)) (by kernel_rfl:callArgsLx _ _=some (28,[iI v44,.sl (lm (eInt .i64) v51)],[iI v44,.ref 87])) (pm (q:=[]) (by kernel_rfl) trivial) (aq (aZ (eInt .i64) v52) (ag (ah 1 (bz (p:=p18_27) n (uz hK hL1 n h)))))
  ·
   exact ak 144 h106 (ah 2 (sT hK hL1 h))
theorem vt (hK:KnOk K) (hL1:eE M w0 r v1 v2 v5 m1 L1) (hL3:H18_3 M w0 r v1 v2 v5 v33 v34 v37 v43 v44 v46 v48 m1 m3 L3) (h:oa K n v1 v2 v5 v33 v34 v37 v43 v44 v46 v48 L1 L3 v49 v50=some r):VE (cX M w0) (q18 M w0 r) [aA p18_9,k18_3 M w0 r m1 m3,.b 4,aA ir,.b 1,aA ce,bZ M w0 r m1,.b 0,aA bT] .normal (s18_l2 v1 v2 v5 v33 v34 v37 v43 v44 v46 v48 v49 v50):=by
  unfold oa at h
  refine ac (ks':=[aA p18_28,aA p18_29,k18_3 M w0 r m1 m3,.b 4,aA ir,.b 1,aA ce,bZ M w0 r m1,.b 0,aA bT]) 3 ?_
  rcases au h with ⟨h102,h⟩ | ⟨h102,h⟩
  ·
   refine ak 130 h102 (ac (ks':=[aA p18_30,aA p18_31,.b 5,aA p18_32,k18_3 M w0 r m1 m3,.b 4,aA ir,.b 1,aA ce,bZ M w0 r m1,.b 0,aA bT]) 5 (ai 1 ?_))
   obtain ⟨h103,h⟩:=av h
   refine aq (bM 1127 1 (eInt .i64) h103) (aq (bj 3 0 (eInt .i64) (eInt .i64) (aI h103).2 (fun _=>rfl)) (ag (ai 2 ?_)))
   obtain ⟨h104,h⟩:=av h
   refine aq (bM 87 1 (eInt .i64) h104) (aq (bj 3 0 (eInt .i64) (eInt .i64) (aI h104).2 (fun _=>rfl)) (aV 6 2 ?_))
   obtain ⟨h105,h⟩:=av h
   exact aq (bM 87 1 (eInt .i64) h105) (aq (cq 87 3 1 0 (eInt .i64) (eInt .i64) (w64 ((gD v50 v49)+(gD v48 v49))) (aI h105).2 (fun _=>rfl)) (ag (ah 2 (aY (hL3 h)))))
  ·
   exact ak 130 h102 (ah 5 (sZ hK hL1 h))
theorem wF (hK:KnOk K) (hL1:eE M w0 r v1 v2 v5 m1 L1) (m:Nat):H18_3 M w0 r v1 v2 v5 v33 v34 v37 v43 v44 v46 v48 m1 m (mG K n v1 v2 v5 v33 v34 v37 v43 v44 v46 v48 L1 m):=by
  induction m with
 | zero=>intro v49 v50 h; cases h
 | succ m ih=>intro v49 v50 h; have h:oa K n v1 v2 v5 v33 v34 v37 v43 v44 v46 v48 L1 (mG K n v1 v2 v5 v33 v34 v37 v43 v44 v46 v48 L1 m) v49 v50=some r:=h; exact aW (vt hK hL1 ih h)
theorem wH (hK:KnOk K) (hL1:eE M w0 r v1 v2 v5 m1 L1) (hL2:H18_2 M w0 r v1 v2 v5 v33 v34 v37 m1 m2 L2) (h:po K n v1 v2 v5 v33 v34 v37 L1 L2 v41 v42 v43 v44 v45 v46=some r):VE (cX M w0) (q18 M w0 r) [aA p18_11,k18_2 M w0 r m1 m2,.b 2,aA jT,.b 1,aA ce,bZ M w0 r m1,.b 0,aA bT] .normal (s18_l1 v1 v2 v5 v33 v34 v37 v41 v42 v43 v44 v45 v46):=by
  unfold po at h
  refine ac (ks':=[aA p18_33,aA p18_34,k18_2 M w0 r m1 m2,.b 2,aA jT,.b 1,aA ce,bZ M w0 r m1,.b 0,aA bT]) 3 ?_
  rcases au h with ⟨h90,h⟩ | ⟨h90,h⟩
  ·
   refine ak 94 h90 (ac (ks':=[aA p18_35,aA p18_36,.b 3,aA p18_37,k18_2 M w0 r m1 m2,.b 2,aA jT,.b 1,aA ce,bZ M w0 r m1,.b 0,aA bT]) 5 (ai 1 ?_))
   obtain ⟨h91,h⟩:=av h
   refine aq (gO 27 2 (off:=(v37.Col).toNat) h91) ?_
   obtain ⟨h92,h⟩:=av h
   refine aq (bj 36 0 aM aM (of_decide_eq_true h92) (fun _=>rfl)) (ag ?_)
   obtain ⟨v47,h93,h⟩:=bind_some h
   have h93:=Option.some.inj h93
   refine bq (ks':=[aA p18_38,aA p18_39,.b 3,aA p18_37,k18_2 M w0 r m1 m2,.b 2,aA jT,.b 1,aA ce,bZ M w0 r m1,.b 0,aA bT]) 1 ⟨[(0,.sl (lm aC v1)),(1,.sl (lm aM v2)),(7,.ref 27),(12,.ptr 12 0),(13,.sref 27 2 ((v37.Col).toNat) (((w64 (v37.Col+v37.Cols))).toNat - (v37.Col).toNat)),(14,.ref 87),(15,.ref 90),(16,iI v42),(17,.ptr 17 0),(33,.ref 1033),(34,iI (v5.length:Int)),(35,iI v33),(91,.sref 27 2 ((v37.Col).toNat) (((w64 (v37.Col+v37.Cols))).toNat - (v37.Col).toNat)),(92,iI v41),(93,iI v42)],[(12,aM (⟨v43,v44⟩:am)),(17,aM v47)],[(27,⟨36,2,lm aM v34⟩),(87,⟨3,1,lm (eInt .i64) v45⟩),(90,⟨3,1,lm (eInt .i64) v46⟩),(1033,⟨3,1,lm (eInt .i64) v5⟩)],[12,17,27,87,90,1033]⟩ ?_ (by subst h93; kernel_rfl)
   obtain ⟨h94,h⟩:=av h
   obtain ⟨h95,h⟩:=av h
   exact bE 2 (nu 98 [.ref 87,iI v42,.ref 90,iI v42,.ptr 17 0,iI v47.Least,.ptr 17 1,iI v47.Most,.eptr 87 1 (v42.toNat) 0,.eptr 90 1 (v42.toNat) 0]) [] [] [strS 87 ⟨3,1,lm (eInt .i64) (List.set v45 v42.toNat v47.Least)⟩,strS 90 ⟨3,1,lm (eInt .i64) (List.set v46 v42.toNat v47.Most)⟩] (az [.v 0 1,.v 0 1,.v 0 2,.v 0 2,.v 0 1,.v 0 1,.v 0 2,.v 0 2] (d_v (bv 87 1 (eInt .i64) (L:=v45) h94) (aj (e_s (m:=0) (cq 87 3 1 0 (eInt .i64) (eInt .i64) v47.Least (aI h94).2 (fun _=>rfl))) (aj (e_v (lo:=1) (bv 90 1 (eInt .i64) (L:=v46) h95)) (aj (e_s (m:=1) (cq 90 3 1 0 (eInt .i64) (eInt .i64) v47.Most (aI h95).2 (fun _=>rfl))) bC))))) (ah 5 (aY (hL2 h)))
  ·
   refine ak 94 h90 (ac (ks':=[aA p18_40,aA ir,.b 1,aA ce,bZ M w0 r m1,.b 0,aA bT]) 8 ?_)
   rcases au h with ⟨h96,h⟩ | ⟨h96,h⟩
   ·
    refine ak 123 h96 (ac (ks':=[aA p18_41,aA p18_42,aA ir,.b 1,aA ce,bZ M w0 r m1,.b 0,aA bT]) 2 (ai 3 ?_))
    obtain ⟨v48,h97,h⟩:=bind_some h
    exact ot_lxo 1127 (sA hK h97) (pX _ _ (sc_int _)) (by kernel_rfl:callArgsLx _ _=some (28,[iI v43,.sl (lm (eInt .i64) v46)],[iI v43,.ref 90])) (pm (q:=[]) (by kernel_rfl) trivial) (aq (aZ (eInt .i64) v48) (ag (ah 1 (bz (p:=p18_43) n (wF hK hL1 n h)))))
   ·
    exact ak 123 h96 (ah 2 (sZ hK hL1 h))
theorem wz (hK:KnOk K) (hL1:eE M w0 r v1 v2 v5 m1 L1) (m:Nat):H18_2 M w0 r v1 v2 v5 v33 v34 v37 m1 m (lT K n v1 v2 v5 v33 v34 v37 L1 m):=by
  induction m with
 | zero=>intro v41 v42 v43 v44 v45 v46 h; cases h
 | succ m ih=>intro v41 v42 v43 v44 v45 v46 h; have h:po K n v1 v2 v5 v33 v34 v37 L1 (lT K n v1 v2 v5 v33 v34 v37 L1 m) v41 v42 v43 v44 v45 v46=some r:=h; exact aW (wH hK hL1 ih h)
theorem uW (hK:KnOk K) (hL6:H18_6 M w0 r v34 m6 L6) (h:oL K n v34 L6 v62 v63=some r):VE (cX M w0) (q18 M w0 r) [aA p18_1,k18_6 M w0 r m6,.b 10,aA lH] .normal (s18_l9 v34 v62 v63):=by
  unfold oL at h
  refine ac (ks':=[aA p18_44,aA p18_45,k18_6 M w0 r m6,.b 10,aA lH]) 3 ?_
  rcases au h with ⟨h132,h⟩ | ⟨h132,h⟩
  ·
   refine ak 185 h132 (ac (ks':=[aA p18_46,.b 11,aA p18_47,k18_6 M w0 r m6,.b 10,aA lH]) 6 (bt [7,23,183,184] [] [27] ?_))
   obtain ⟨h133,h⟩:=av h
   obtain ⟨h134,h⟩:=av h
   obtain ⟨h135,h⟩:=av h
   exact bE 1 (nu 187 [.ref 27,iI v62,.ref 27,iI v62,.eptr 27 2 (v62.toNat) 0,.eptr 27 2 (v62.toNat) 1,iI ((gD v63 v62).Most),.ref 27,iI v62,.eptr 27 2 (v62.toNat) 0,.eptr 27 2 (v62.toNat) 0,iI ((gD v63 v62).Least),iI (max ((gD v63 v62).Most) ((gD v63 v62).Least)),.eptr 27 2 (v62.toNat) 0,.eptr 27 2 (v62.toNat) 1]) [] [] [strS 27 ⟨36,2,lm aM (List.set v63 v62.toNat ({ (gD v63 v62) with Most:=(max ((gD v63 v62).Most) ((gD v63 v62).Least)) }:am))⟩] (az (vz 4) (d_v (bv 27 2 aM (L:=v63) h133) (az [.v 0 1] (d_v (bj 3 1 aM aM (aI h135).2 (fun _=>rfl)) (az (vz 2) (d_v (bv 27 2 aM (L:=v63) h134) (az [.v 0 1] (d_v (bj 3 0 aM aM (aI h135).2 (fun _=>rfl)) (az [.v 0 1] (aj (k_v (lo:=0) (k:=2) (bW ⟨(by kernel_rfl),(cc (bv 27 2 aM (L:=v63) h135) (by kernel_rfl))⟩ (bW ⟨(by kernel_rfl),(cc (bv 27 2 aM (L:=(List.set v63 v62.toNat ({ (gD v63 v62) with Most:=(max ((gD v63 v62).Most) ((gD v63 v62).Least)) }:am))) h135) (by kernel_rfl))⟩ dd))) (az [.v 0 1] (aj (e_s (m:=0) (cq 27 36 2 1 aM aM ({ (gD v63 v62) with Most:=(max ((gD v63 v62).Most) ((gD v63 v62).Least)) }:am) (aI h135).2 (fun _=>rfl))) bC)))))))))))) (ah 2 (aY (hL6 h)))
  ·
   refine ak 185 h132 (aQ 8 ?_)
   cases h
   exact cO
theorem wE (hK:KnOk K) (m:Nat):H18_6 M w0 r v34 m (kT K n v34 m):=by
  induction m with
 | zero=>intro v62 v63 h; cases h
 | succ m ih=>intro v62 v63 h; have h:oL K n v34 (kT K n v34 m) v62 v63=some r:=h; exact aW (uW hK ih h)
theorem w5 (hK:KnOk K) (hL1:eE M w0 r v1 v2 v5 m1 L1) (h:pa K n v1 v2 v5 L1 v33 v34=some r):VE (cX M w0) (q18 M w0 r) [aA p18_3,bZ M w0 r m1,.b 0,aA bT] .normal (s18_l8 v1 v2 v5 v33 v34):=by
  unfold pa at h
  refine ac (ks':=[aA p18_48,aA p18_49,bZ M w0 r m1,.b 0,aA bT]) 3 ?_
  rcases au h with ⟨h66,h⟩ | ⟨h66,h⟩
  ·
   refine ak 36 h66 (ac (ks':=[aA p18_50,aA p18_51,.b 1,aA ce,bZ M w0 r m1,.b 0,aA bT]) 5 (ai 0 ?_))
   obtain ⟨h67,h⟩:=av h
   refine aq (bM 1033 1 (eInt .i64) h67) (aq (bj 3 0 (eInt .i64) (eInt .i64) (aI h67).2 (fun _=>rfl)) (ag (ac (ks':=[aA p18_52,aA p18_53,.b 1,aA ce,bZ M w0 r m1,.b 0,aA bT]) 1 (bt [0,1,7,10,33,34,35] [] [27,1033] ?_))))
   obtain ⟨h68,h⟩:=av h
   obtain ⟨h69,h⟩:=av h
   obtain ⟨v35,h70,h⟩:=bind_some h
   obtain ⟨h71,h⟩:=av h
   obtain ⟨v36,h72,h⟩:=bind_some h
   refine bE 2 (nu 39 [.sl (lm aC v1),iI (gD v5 v33),.cptr (aC (gD v1 ((gD v5 v33)))),.agg (aC (gD v1 ((gD v5 v33)))),.sl (lm aM v2),iI (gD v5 v33),.cptr (aM (gD v2 ((gD v5 v33)))),.cptr (List.drop 0 (aM (gD v2 ((gD v5 v33))))),iI ((gD v2 ((gD v5 v33))).Least),iI v35,.sl (lm aM v2),iI (gD v5 v33),.cptr (aM (gD v2 ((gD v5 v33)))),.cptr (List.drop 1 (aM (gD v2 ((gD v5 v33))))),iI ((gD v2 ((gD v5 v33))).Most),iI v36,.agg (aM (⟨v35,v36⟩:am))]++nu 11 [.ptr 11 0,.ptr 12 0]) [(11,aC o7),(12,aM ix)] [] [stp Try.prog 204 Try.f18 p18_52 19,stp Try.prog 204 Try.f18 p18_52 20] (az (vz 2) (d_v (bL aC aC h68 (fx) (fun _=>rfl)) (az [.v 0 1,.v 0 2,.v 0 2] (aj (k_v (lo:=0) (k:=2) (bW ⟨(by kernel_rfl),(cc (bL aM aM h69 (iY) (fun _=>rfl)) (by kernel_rfl))⟩ (bW ⟨(by kernel_rfl),(cc (bL aM aM h69 (iY) (fun _=>rfl)) (by kernel_rfl))⟩ dd))) (az [.v 0 2,.v 0 2] (aj (e_c 0 2 48 (iu hK h70)) (az [.v 0 2,.v 0 2] (aj (k_v (lo:=0) (k:=2) (bW ⟨(by kernel_rfl),(cc (bL aM aM h71 (iY) (fun _=>rfl)) (by kernel_rfl))⟩ (bW ⟨(by kernel_rfl),(cc (bL aM aM h71 (iY) (fun _=>rfl)) (by kernel_rfl))⟩ dd))) (az [.v 0 2,.v 0 2] (aj (e_c 0 1 54 (iu hK h72)) (az [.v 0 2] (aj (e_a 0 1 30 11 (aC o7)) (aj (e_a 0 1 36 12 (aM ix)) (aj (e_d 0) (aj (e_d 1) bC))))))))))))))) ?_
   obtain ⟨v37,h73,h⟩:=bind_some h
   have h73:=Option.some.inj h73
   refine bq (ks':=[aA p18_54,aA p18_55,.b 1,aA ce,bZ M w0 r m1,.b 0,aA bT]) 1 ⟨[(0,.sl (lm aC v1)),(1,.sl (lm aM v2)),(7,.ref 27),(11,.ptr 11 0),(12,.ptr 12 0),(33,.ref 1033),(34,iI (v5.length:Int)),(35,iI v33)],[(11,aC v37),(12,aM (⟨v35,v36⟩:am))],[(27,⟨36,2,lm aM v34⟩),(1033,⟨3,1,lm (eInt .i64) v5⟩)],[11,12,27,1033]⟩ ?_ (by subst h73; kernel_rfl)
   refine ai 8 ?_
   obtain ⟨h74,h⟩:=av h
   refine aq (qB aM v34 v37.Col (w64 (v37.Col+v37.Cols)) 32 (.tmp 56) (some (.tmp 58)) (some (.tmp 63)) 64 (id:=27) (e:=36) (sz:=2) (et:=36) (by kernel_rfl) (by kernel_rfl) (by kernel_rfl) (by kernel_rfl) (by kernel_rfl) (by kernel_rfl) (by kernel_rfl) (fun k hk=>by subst hk; kernel_rfl) h74) (ag (ac (ks':=[aA p18_56,aA p18_57,.b 1,aA ce,bZ M w0 r m1,.b 0,aA bT]) 3 ?_))
   rcases au h with ⟨h75,h⟩ | ⟨h75,h⟩
   ·
    refine ak 67 h75 (ac (ks':=[aA p18_58,aA p18_59,aA p18_57,.b 1,aA ce,bZ M w0 r m1,.b 0,aA bT]) 2 (bt [0,1,7,12,13,33,34,35] [12] [27,1033] ?_))
    obtain ⟨h76,h⟩:=av h
    obtain ⟨h77,h⟩:=av h
    obtain ⟨h78,h⟩:=av h
    obtain ⟨h79,h⟩:=av h
    exact bE 1 (nu 68 [.sref 27 2 ((v37.Col).toNat) (((w64 (v37.Col+v37.Cols))).toNat - (v37.Col).toNat),.sref 27 2 ((v37.Col).toNat) (((w64 (v37.Col+v37.Cols))).toNat - (v37.Col).toNat),.eptr 27 2 ((v37.Col).toNat+(0:Int).toNat) 0,.eptr 27 2 ((v37.Col).toNat+(0:Int).toNat) 0,iI ((List.getD v34 ((v37.Col).toNat+(0:Int).toNat) default).Least),.ptr 12 0,iI v35,iI (max ((List.getD v34 ((v37.Col).toNat+(0:Int).toNat) default).Least) v35),.sref 27 2 ((v37.Col).toNat) (((w64 (v37.Col+v37.Cols))).toNat - (v37.Col).toNat),.eptr 27 2 ((v37.Col).toNat+(0:Int).toNat) 0,.eptr 27 2 ((v37.Col).toNat+(0:Int).toNat) 1,iI ((List.getD v34 ((v37.Col).toNat+(0:Int).toNat) default).Most),.ptr 12 1,iI v36,iI (max ((List.getD v34 ((v37.Col).toNat+(0:Int).toNat) default).Most) v36),.agg (aM (⟨(max ((List.getD v34 ((v37.Col).toNat+(0:Int).toNat) default).Least) v35),(max ((List.getD v34 ((v37.Col).toNat+(0:Int).toNat) default).Most) v36)⟩:am)),.eptr 27 2 ((v37.Col).toNat+(0:Int).toNat) 0]) [] [] [strS 27 ⟨36,2,lm aM (List.set v34 ((v37.Col).toNat+(0:Int).toNat) (⟨(max ((List.getD v34 ((v37.Col).toNat+(0:Int).toNat) default).Least) v35),(max ((List.getD v34 ((v37.Col).toNat+(0:Int).toNat) default).Most) v36)⟩:am))⟩] (az (vz 2) (d_v (gO 27 2 (off:=(v37.Col).toNat) h76) (az [.v 0 1] (d_v (bj 3 0 aM aM (of_decide_eq_true h77) (fun _=>rfl)) (az (vz 4) (d_v (gO 27 2 (off:=(v37.Col).toNat) h78) (az [.v 0 1] (d_v (bj 3 1 aM aM (of_decide_eq_true h77) (fun _=>rfl)) (az (vz 4) (d_v (gO 27 2 (off:=(v37.Col).toNat) h79) (aj (e_s (m:=0) (cq 27 36 2 0 aM aM (⟨(max ((List.getD v34 ((v37.Col).toNat+(0:Int).toNat) default).Least) v35),(max ((List.getD v34 ((v37.Col).toNat+(0:Int).toNat) default).Most) v36)⟩:am) (of_decide_eq_true h77) (fun _=>rfl))) bC))))))))))) (ah 3 (tQ hK hL1 h))
   ·
    refine ak 67 h75 (ac (ks':=[aA p18_60,aA p18_61,.b 1,aA ce,bZ M w0 r m1,.b 0,aA bT]) 3 (bt [0,1,7,11,12,13,33,34,35] [11,12] [27,1033] ?_))
    obtain ⟨h80,h⟩:=av h
    obtain ⟨h81,h⟩:=av h
    exact bE 2 (nu 85 [.ptr 11 3,iI v37.Cols,.ref 87,.ptr 11 3,iI v37.Cols,.ref 90]) [] [(87,⟨3,1,lm (eInt .i64) (List.replicate (v37.Cols).toNat (0:Int))⟩),(90,⟨3,1,lm (eInt .i64) (List.replicate (v37.Cols).toNat (0:Int))⟩)] [stp Try.prog 204 Try.f18 p18_60 6,stp Try.prog 204 Try.f18 p18_60 7] (az (vz 2) (aj (e_m (eInt .i64) (0:Int) 0 1 33 (.tmp 86) (.tmp 86) 87 3 1 8 v37.Cols .i64 .i64 [iI 0] h80) (az [.v 0 2,.v 0 2] (aj (e_m (eInt .i64) (0:Int) 0 2 33 (.tmp 89) (.tmp 89) 90 3 1 8 v37.Cols .i64 .i64 [iI 0] h81) (aj (e_d 0) (aj (e_d 1) bC)))))) (ac (ks':=[aA p18_62,aA p18_63,aA jT,.b 1,aA ce,bZ M w0 r m1,.b 0,aA bT]) 2 (ai 1 (aq (y_lnv (m:=(((w64 (v37.Col+v37.Cols))).toNat - (v37.Col).toNat))) (ag (ah 1 (bz (p:=p18_64) n (wz hK hL1 n h)))))))
  ·
   exact ak 36 h66 (ac (ks':=[aA p18_65,aA p18_66,aA lH]) 7 (ai 1 (aq (aZ aM v34) (ag (ah 1 (bz (p:=p18_67) n (wE hK n h)))))))
theorem uO (hK:KnOk K) (m:Nat):eE M w0 r v1 v2 v5 m (jk K n v1 v2 v5 m):=by
  induction m with
 | zero=>intro v33 v34 h; cases h
 | succ m ih=>intro v33 v34 h; have h:pa K n v1 v2 v5 (jk K n v1 v2 v5 m) v33 v34=some r:=h; exact aW (w5 hK ih h)
theorem uB (hK:KnOk K) (h:mw K n v1 v2 v3=some r):ACalls Try.prog 18 [.sl (lm aC v1),.sl (lm aM v2),iI v3] (fun v s=>v = .ref 27∧look 27 s.r=some ⟨36,2,lm aM r⟩):=by
  refine bo (cat Try.f18 []) Try.func18 Try.ntmps18 fun M w0=>(bg ⟨[(0,.sl (lm aC v1)),(1,.sl (lm aM v2)),(2,iI v3)],[],[],[]⟩ ?_)
  unfold mw at h
  refine ac (ks':=[aA [1,1,0],aA [1,1,1]]) 5 (ai 1 ?_)
  obtain ⟨h1,h⟩:=av h
  refine fV aM (ix:am) 32 (.tmp 26) (.tmp 26) 27 (e:=36) (sz:=2) (zc:=aM ix) (kd:=.i64) (kd':=.i64) h1 (ag ?_)
  obtain ⟨v4,h2,h⟩:=bind_some h
  have h2:=Option.some.inj h2
  refine bq (ks':=[aA p18_68,aA p18_69]) 1 ⟨[(0,.sl (lm aC v1)),(1,.sl (lm aM v2)),(5,.ptr 5 0),(7,.ref 27)],[(5,[iI (max v3 0)])],[(27,⟨36,2,lm aM v4⟩)],[5,27]⟩ ?_ (by subst h2; kernel_rfl)
  refine ai 0 (ot_fo 5 5 ([iI (max v3 0)]) (ot_mf 36 #[(.tmp 5)] [.cptr ([iI (max v3 0)])] (ag (ac (ks':=[aA p18_70,aA p18_71,aA bT]) 2 (ai 2 (aq (aZ aM v2) (aV 4 1 ?_)))))))
  obtain ⟨v5,h3,h⟩:=bind_some h
  exact cZ 1033 (uw hK h3) (dQ 50) (aq (aZ (eInt .i64) v5) (ag (ah 1 (bz (p:=p18_72) n (uO hK n h)))))
end
def p67_0:=pth 0 1110100
def p67_1:=pth 0 1110100111
def p67_2:=pth 0 111010010
def p67_3:=pth 0 111010011
def p67_4:=pth 0 111010011000
def p67_5:=pth 0 111010011001
def p67_6:=pth 0 1110100110011
def p67_7:=pth 0 11101001100110
def p67_8:=pth 0 11100
def p67_9:=pth 0 11101
def p67_10:=pth 0 111010
noncomputable section
abbrev cx67 (M:Nat→Prop) (w0:Base):Cx:=⟨Try.prog,25,M,w0⟩
abbrev q67 (M:Nat→Prop) (w0:Base) (r:List ab):=bodyPost Try.prog Try.f67 (RetQ M w0 (fun v s=>v = .ref 22∧look 22 s.r=some ⟨55,59,lm ax r⟩))
abbrev cI (p:List Nat):Kont:=.c (cat Try.f67 p)
abbrev ku (M:Nat→Prop) (w0:Base) (r:List ab) (m1:Nat):Kont:=kl (cx67 M w0) (q67 M w0 r) [.b 0,cI [1,1,1]] (cat Try.f67 p67_0) m1
def s67_j1 (v1:ab) (v2 v9:Int) (v12:List ab):AS:=⟨[(1,iI v2),(5,.ref 22),(9,.sl (lm ax v1.Kids)),(10,iI (v1.Kids.length:Int)),(11,iI v9)],[],[(22,⟨55,59,lm ax v12⟩)],[22]⟩
def s67_l2 (v1:ab) (v2 v9:Int) (v10:List ab):AS:=⟨[(1,iI v2),(5,.ref 22),(9,.sl (lm ax v1.Kids)),(10,iI (v1.Kids.length:Int)),(11,iI v9)],[],[(22,⟨55,59,lm ax v10⟩)],[22]⟩
abbrev H67_1 (M:Nat→Prop) (w0:Base) (r:List ab) (v1:ab) (v2:Int) (m1:Nat) (L1:Int→(List ab)→Option (List ab)):Prop:=∀ {v9:Int} {v10:(List ab)},L1 v9 v10=some r→LP (cx67 M w0) (q67 M w0 r) [.b 0,cI [1,1,1]] (cat Try.f67 p67_0) m1 (s67_l2 v1 v2 v9 v10)
variable {K:Kn} {n:Nat} {M:Nat→Prop} {w0:Base} {r:List ab} {v1:ab} {v2 v9:Int} {v10 v12:List ab} {m1:Nat} {L1:Int→(List ab)→Option (List ab)}
theorem tW (hK:KnOk K) (hL1:H67_1 M w0 r v1 v2 m1 L1) (h:lW K n v1 v2 v9 L1 v12=some r):VE (cx67 M w0) (q67 M w0 r) [.b 1,cI p67_1,ku M w0 r m1,.b 0,cI [1,1,1]] .normal (s67_j1 v1 v2 v9 v12):=by
  unfold lW at h
  exact ah 2 (aY (hL1 h))
theorem wB (hK:KnOk K) (hL1:H67_1 M w0 r v1 v2 m1 L1) (h:oz K n v1 v2 L1 v9 v10=some r):VE (cx67 M w0) (q67 M w0 r) [cI p67_0,ku M w0 r m1,.b 0,cI [1,1,1]] .normal (s67_l2 v1 v2 v9 v10):=by
  unfold oz at h
  refine ac (ks':=[cI p67_2,cI p67_3,ku M w0 r m1,.b 0,cI [1,1,1]]) 3 ?_
  rcases au h with ⟨h13,h⟩ | ⟨h13,h⟩
  ·
   refine ak 12 h13 (ac (ks':=[cI p67_4,cI p67_5,.b 1,cI p67_1,ku M w0 r m1,.b 0,cI [1,1,1]]) 5 (ai 0 ?_))
   obtain ⟨h14,h⟩:=av h
   refine aq (bL ax aF h14 (co) (b8)) (ag ?_)
   obtain ⟨v11,h15,h⟩:=bind_some h
   have h15:=Option.some.inj h15
   refine bq (ks':=[cI p67_6,.b 1,cI p67_1,ku M w0 r m1,.b 0,cI [1,1,1]]) 2 ⟨[(1,iI v2),(5,.ref 22),(7,.ptr 7 0),(9,.sl (lm ax v1.Kids)),(10,iI (v1.Kids.length:Int)),(11,iI v9),(18,.bool v11)],[(7,aF (gD v1.Kids v9))],[(22,⟨55,59,lm ax v10⟩)],[7,22]⟩ ?_ (by subst h15; kernel_rfl)
   rcases au h with ⟨h16,h⟩ | ⟨h16,h⟩
   ·
    refine ak 18 h16 (ac (ks':=[cI p67_7,.b 1,cI p67_1,ku M w0 r m1,.b 0,cI [1,1,1]]) 1 (ai 2 (aq (fc ax ([(gD v1.Kids v9)]:List ab) (new:=[aF (gD v1.Kids v9)]) (by simp only [List.map_cons,List.map_nil,b8])) ?_)))
    obtain ⟨h17,h⟩:=av h
    exact aq (cE 22 22 55 59 ax (rfl) (co) h17) (ag (ah 0 (tW hK hL1 h)))
   ·
    exact ak 18 h16 (ah 2 (tW hK hL1 h))
  ·
   refine ak 12 h13 (aQ 8 ?_)
   cases h
   exact cO
theorem wb (hK:KnOk K) (m:Nat):H67_1 M w0 r v1 v2 m (lp K n v1 v2 m):=by
  induction m with
 | zero=>intro v9 v10 h; cases h
 | succ m ih=>intro v9 v10 h; have h:oz K n v1 v2 (lp K n v1 v2 m) v9 v10=some r:=h; exact aW (wB hK ih h)
theorem td (hK:KnOk K) (h:oO K n v1 v2=some r):ACalls Try.prog 67 [.agg (aF v1),iI v2] (fun v s=>v = .ref 22∧look 22 s.r=some ⟨55,59,lm ax r⟩):=by
  refine bo (cat Try.f67 []) Try.func67 Try.ntmps67 fun M w0=>(bg ⟨[(0,.agg (aF v1)),(1,iI v2)],[],[],[]⟩ ?_)
  unfold oO at h
  exact ac (ks':=[cI p67_8,cI p67_9,cI [1,1,1]]) 6 (ai 2 (aq (aZ ax v1.Kids) (ag (ac (ks':=[cI p67_10,.b 0,cI [1,1,1]]) 1 (bt [1,5,9,10,11] [] [] (dF 22 5 55 59 (ah 0 (bz (p:=p67_10) n (wb hK n h)))))))))
end
noncomputable section
variable {K:Kn} {n:Nat} {M:Nat→Prop} {w0:Base} {r v1:Int} 
theorem fj (hK:KnOk K) (h:dT K n v1=some r):ACalls Try.prog 70 [iI v1] (fun v _=>v=iI r):=by
  refine bo (cat Try.f70 []) Try.func70 Try.ntmps70 fun M w0=>(bg ⟨[(0,iI v1)],[],[],[]⟩ ?_)
  unfold dT at h
  refine aQ 5 ?_
  cases h
  exact bF
end
def p42_0:=pth 0 1110101
def p42_1:=pth 0 111010111
def p42_2:=pth 0 1110101110
noncomputable section
abbrev cx42 (M:Nat→Prop) (w0:Base):Cx:=⟨Try.prog,25,M,w0⟩
abbrev q42 (M:Nat→Prop) (w0:Base) (r:Int×Bool):=bodyPost Try.prog Try.f42 (RetQ M w0 (fun v _=>v = .tup [iI r.1,.bool r.2]))
def s42_j1 (v4:Int):AS:=⟨[(6,iI v4)],[],[],[]⟩
variable {K:Kn} {n:Nat} {M:Nat→Prop} {w0:Base} {r:Int×Bool} {v1:cn} {v2 v4:Int} 
abbrev jx (p:List Nat):Kont:=.c (cat Try.f42 p)
theorem tA (hK:KnOk K) (h:ld K n v4=some r):VE (cx42 M w0) (q42 M w0 r) [.b 0,jx [1,1,1]] .normal (s42_j1 v4):=by
  unfold ld at h
  refine aQ 4 ?_
  cases h
  exact dW
theorem df (hK:KnOk K) (h:cS K n v1 v2=some r):ACalls Try.prog 42 [.agg (iG v1),iI v2] (fun v _=>v = .tup [iI r.1,.bool r.2]):=by
  refine bo (cat Try.f42 []) Try.func42 Try.ntmps42 fun M w0=>(bg ⟨[(0,.agg (iG v1)),(1,iI v2)],[],[],[]⟩ ?_)
  unfold cS at h
  refine ac (ks':=[jx p42_0,.b 0,jx [1,1,1]]) 10 ?_
  rcases au h with ⟨h1,h⟩ | ⟨h1,h⟩
  ·
   exact ak 11 h1 (ah 2 (tA hK h))
  ·
   refine ak 11 h1 (ac (ks':=[jx p42_1,.b 0,jx [1,1,1]]) 3 ?_)
   rcases au h with ⟨h2,h⟩ | ⟨h2,h⟩
   ·
    refine ak 13 h2 (ac (ks':=[jx p42_2,.b 0,jx [1,1,1]]) 1 (ai 1 ?_))
    obtain ⟨v3,h3,h⟩:=bind_some h
    exact aR (fj hK h3) (ag (ah 0 (tA hK h)))
   ·
    refine ak 13 h2 (aQ 6 ?_)
    cases h
    exact dW
end
def p43_0:=pth 0 111010
def dD:=pth 0 1110100
def p43_2:=pth 0 1110100110010
def p43_3:=pth 0 1110100110011
def eT:=pth 0 1110100111
def p43_5:=pth 0 11101001100110
def p43_6:=pth 0 11101001100111
def p43_7:=pth 0 111010011001110
def p43_8:=pth 0 111010011001111
noncomputable section
abbrev dJ (M:Nat→Prop) (w0:Base):Cx:=⟨Try.prog,52,M,w0⟩
abbrev q43 (M:Nat→Prop) (w0:Base) (r:aS):=bodyPost Try.prog Try.f43 (RetQ M w0 (fun v _=>v = .agg (bI r)))
variable {K:Kn} {n:Nat} {M:Nat→Prop} {w0:Base} {r:aS} {v1:aG} {v2 v3:Int} 
abbrev bi (p:List Nat):Kont:=.c (cat Try.f43 p)
theorem pA (hK:KnOk K) (h:gp K n v1 v2 v3=some r):ACalls Try.prog 43 [.agg (aO v1),iI v2,iI v3] (fun v _=>v = .agg (bI r)):=by
  refine bo (cat Try.f43 []) Try.func43 Try.ntmps43 fun M w0=>(bg ⟨[(0,.agg (aO v1)),(1,iI v2),(2,iI v3)],[],[],[]⟩ ?_)
  unfold gp at h
  refine bq (ks':=[bi p43_0,.b 0,bi [1,1,1]]) 8 ⟨[(1,iI v2),(3,.ptr 3 0),(6,.ptr 6 0),(7,.ptr 7 0),(13,iI 0)],[(3,aO v1),(6,bI fY),(7,bI ({ fY with Content:=v3 }:aS))],[],[3,6,7]⟩ (mL 40 (c:=cat Try.f43 dD) (by kernel_rfl) (aW (ac (ks':=[bi p43_2,bi p43_3,.b 1,bi eT,kl (dJ M w0) (q43 M w0 r) [.b 0,bi [1,1,1]] (cat Try.f43 dD) 39,.b 0,bi [1,1,1]]) 10 (ai 6 ?_))))
  obtain ⟨v4,h1,h⟩:=bind_some h
  refine aR (df hK h1) (ag (ac (ks':=[bi p43_5,bi p43_6,.b 1,bi eT,kl (dJ M w0) (q43 M w0 r) [.b 0,bi [1,1,1]] (cat Try.f43 dD) 39,.b 0,bi [1,1,1]]) 1 (ai 5 ?_)))
  obtain ⟨v5,h2,h⟩:=bind_some h
  refine aR (fj hK h2) (ag (ac (ks':=[bi p43_7,bi p43_8,.b 1,bi eT,kl (dJ M w0) (q43 M w0 r) [.b 0,bi [1,1,1]] (cat Try.f43 dD) 39,.b 0,bi [1,1,1]]) 1 (ai 5 ?_)))
  obtain ⟨v6,h3,h⟩:=bind_some h
  refine aR (df hK h3) (ag (bq (ks':=[kl (dJ M w0) (q43 M w0 r) [.b 0,bi [1,1,1]] (cat Try.f43 dD) 39,.b 0,bi [1,1,1]]) 3 ⟨[(1,iI v2),(3,.ptr 3 0),(6,.ptr 6 0),(7,.ptr 7 0),(13,iI 1)],[(3,aO v1),(6,bI fY),(7,bI (⟨⟨v4.1,0,0,0⟩,⟨v5,0,0,0⟩,⟨(max v6.1 0),0,0,0⟩,v3⟩:aS))],[],[3,6,7]⟩ (aY (aW (ac (ks':=[bi p43_2,bi p43_3,.b 1,bi eT,kl (dJ M w0) (q43 M w0 r) [.b 0,bi [1,1,1]] (cat Try.f43 dD) 38,.b 0,bi [1,1,1]]) 10 (ai 6 ?_))))))
  obtain ⟨v7,h4,h⟩:=bind_some h
  refine aR (df hK h4) (ag (ac (ks':=[bi p43_5,bi p43_6,.b 1,bi eT,kl (dJ M w0) (q43 M w0 r) [.b 0,bi [1,1,1]] (cat Try.f43 dD) 38,.b 0,bi [1,1,1]]) 1 (ai 5 ?_)))
  obtain ⟨v8,h5,h⟩:=bind_some h
  refine aR (fj hK h5) (ag (ac (ks':=[bi p43_7,bi p43_8,.b 1,bi eT,kl (dJ M w0) (q43 M w0 r) [.b 0,bi [1,1,1]] (cat Try.f43 dD) 38,.b 0,bi [1,1,1]]) 1 (ai 5 ?_)))
  obtain ⟨v9,h6,h⟩:=bind_some h
  refine aR (df hK h6) (ag (bq (ks':=[kl (dJ M w0) (q43 M w0 r) [.b 0,bi [1,1,1]] (cat Try.f43 dD) 38,.b 0,bi [1,1,1]]) 3 ⟨[(1,iI v2),(3,.ptr 3 0),(6,.ptr 6 0),(7,.ptr 7 0),(13,iI 2)],[(3,aO v1),(6,bI fY),(7,bI (⟨⟨v4.1,v7.1,0,0⟩,⟨v5,v8,0,0⟩,⟨(max v6.1 0),(max v9.1 0),0,0⟩,v3⟩:aS))],[],[3,6,7]⟩ (aY (aW (ac (ks':=[bi p43_2,bi p43_3,.b 1,bi eT,kl (dJ M w0) (q43 M w0 r) [.b 0,bi [1,1,1]] (cat Try.f43 dD) 37,.b 0,bi [1,1,1]]) 10 (ai 6 ?_))))))
  obtain ⟨v10,h7,h⟩:=bind_some h
  refine aR (df hK h7) (ag (ac (ks':=[bi p43_5,bi p43_6,.b 1,bi eT,kl (dJ M w0) (q43 M w0 r) [.b 0,bi [1,1,1]] (cat Try.f43 dD) 37,.b 0,bi [1,1,1]]) 1 (ai 5 ?_)))
  obtain ⟨v11,h8,h⟩:=bind_some h
  refine aR (fj hK h8) (ag (ac (ks':=[bi p43_7,bi p43_8,.b 1,bi eT,kl (dJ M w0) (q43 M w0 r) [.b 0,bi [1,1,1]] (cat Try.f43 dD) 37,.b 0,bi [1,1,1]]) 1 (ai 5 ?_)))
  obtain ⟨v12,h9,h⟩:=bind_some h
  refine aR (df hK h9) (ag (bq (ks':=[kl (dJ M w0) (q43 M w0 r) [.b 0,bi [1,1,1]] (cat Try.f43 dD) 37,.b 0,bi [1,1,1]]) 3 ⟨[(1,iI v2),(3,.ptr 3 0),(6,.ptr 6 0),(7,.ptr 7 0),(13,iI 3)],[(3,aO v1),(6,bI fY),(7,bI (⟨⟨v4.1,v7.1,v10.1,0⟩,⟨v5,v8,v11,0⟩,⟨(max v6.1 0),(max v9.1 0),(max v12.1 0),0⟩,v3⟩:aS))],[],[3,6,7]⟩ (aY (aW (ac (ks':=[bi p43_2,bi p43_3,.b 1,bi eT,kl (dJ M w0) (q43 M w0 r) [.b 0,bi [1,1,1]] (cat Try.f43 dD) 36,.b 0,bi [1,1,1]]) 10 (ai 6 ?_))))))
  obtain ⟨v13,h10,h⟩:=bind_some h
  refine aR (df hK h10) (ag (ac (ks':=[bi p43_5,bi p43_6,.b 1,bi eT,kl (dJ M w0) (q43 M w0 r) [.b 0,bi [1,1,1]] (cat Try.f43 dD) 36,.b 0,bi [1,1,1]]) 1 (ai 5 ?_)))
  obtain ⟨v14,h11,h⟩:=bind_some h
  refine aR (fj hK h11) (ag (ac (ks':=[bi p43_7,bi p43_8,.b 1,bi eT,kl (dJ M w0) (q43 M w0 r) [.b 0,bi [1,1,1]] (cat Try.f43 dD) 36,.b 0,bi [1,1,1]]) 1 (ai 5 ?_)))
  obtain ⟨v15,h12,h⟩:=bind_some h
  refine aR (df hK h12) (ag (bq (ks':=[kl (dJ M w0) (q43 M w0 r) [.b 0,bi [1,1,1]] (cat Try.f43 dD) 36,.b 0,bi [1,1,1]]) 3 ⟨[(1,iI v2),(3,.ptr 3 0),(6,.ptr 6 0),(7,.ptr 7 0),(13,iI 4)],[(3,aO v1),(6,bI fY),(7,bI (⟨⟨v4.1,v7.1,v10.1,v13.1⟩,⟨v5,v8,v11,v14⟩,⟨(max v6.1 0),(max v9.1 0),(max v12.1 0),(max v15.1 0)⟩,v3⟩:aS))],[],[3,6,7]⟩ (aY (aW (aQ 11 ?_)))))
  cases h
  exact bF
end
noncomputable section
variable {K:Kn} {n:Nat} {M:Nat→Prop} {w0:Base} {r:Int} {v1:aS} 
theorem mC (hK:KnOk K) (h:gv K n v1=some r):ACalls Try.prog 44 [.agg (bI v1)] (fun v _=>v=iI r):=by
  refine bo (cat Try.f44 []) Try.func44 Try.ntmps44 fun M w0=>(bg ⟨[(0,.agg (bI v1))],[],[],[]⟩ ?_)
  unfold gv at h
  refine aQ 5 ?_
  cases h
  exact bF
end
def p45_0:=pth 0 11111
def p45_1:=pth 0 111100
def p45_2:=pth 0 111101
def p45_3:=pth 0 1111011
def p45_4:=pth 0 11100
def p45_5:=pth 0 11101
def p45_6:=pth 0 111011
noncomputable section
abbrev cx45 (M:Nat→Prop) (w0:Base):Cx:=⟨Try.prog,37,M,w0⟩
abbrev q45 (M:Nat→Prop) (w0:Base) (r:Int):=bodyPost Try.prog Try.f45 (RetQ M w0 (fun v _=>v=iI r))
def s45_j2 (v7:Int):AS:=⟨[(2,iI v7)],[],[],[]⟩
def s45_j1 (v1:aG) (v2 v5:Int):AS:=⟨[(1,iI v2),(2,iI v5),(3,.ptr 3 0)],[(3,aO v1)],[],[3]⟩
variable {K:Kn} {n:Nat} {M:Nat→Prop} {w0:Base} {r:Int} {v1:aG} {v2 v3 v5 v7:Int} 
abbrev eV (p:List Nat):Kont:=.c (cat Try.f45 p)
theorem th (hK:KnOk K) (h:nS K n v7=some r):VE (cx45 M w0) (q45 M w0 r) [eV p45_0] .normal (s45_j2 v7):=by
  unfold nS at h
  refine aQ 3 ?_
  cases h
  exact bF
theorem s7 (hK:KnOk K) (h:oh K n v1 v2 v5=some r):VE (cx45 M w0) (q45 M w0 r) [eV [1,1,1]] .normal (s45_j1 v1 v2 v5):=by
  unfold oh at h
  refine ac (ks':=[eV p45_1,eV p45_2,eV p45_0]) 2 (ai 3 ?_)
  obtain ⟨v6,h3,h⟩:=bind_some h
  refine aR (df hK h3) (ag (ac (ks':=[eV p45_3,eV p45_0]) 2 ?_))
  rcases au h with ⟨h4,h⟩ | ⟨h4,h⟩
  ·
   exact ak 32 h4 (ah 2 (th hK h))
  ·
   exact ak 32 h4 (ah 2 (th hK h))
theorem qM (hK:KnOk K) (h:g6 K n v1 v2 v3=some r):ACalls Try.prog 45 [.agg (aO v1),iI v2,iI v3] (fun v _=>v=iI r):=by
  refine bo (cat Try.f45 []) Try.func45 Try.ntmps45 fun M w0=>(bg ⟨[(0,.agg (aO v1)),(1,iI v2),(2,iI v3)],[],[],[]⟩ ?_)
  unfold g6 at h
  refine ac (ks':=[eV p45_4,eV p45_5,eV [1,1,1]]) 6 (ai 3 ?_)
  obtain ⟨v4,h1,h⟩:=bind_some h
  refine aR (df hK h1) (ag (ac (ks':=[eV p45_6,eV [1,1,1]]) 2 ?_))
  rcases au h with ⟨h2,h⟩ | ⟨h2,h⟩
  ·
   exact ak 20 h2 (ah 2 (s7 hK h))
  ·
   exact ak 20 h2 (ah 2 (s7 hK h))
end
def bQ:=pth 0 11110100111
def aK:=pth 0 11111
def bG:=pth 0 11110100
def fk:=pth 0 1111010011000
def fz:=pth 0 1111010011001
def fF:=pth 0 11110100110010
def fa:=pth 0 11110100110011
def fr:=pth 0 111101001100110
def p78_8:=pth 0 111010
def gu:=pth 0 1110100
def iR:=pth 0 111010011001
def p78_11:=pth 0 1110100111
def p78_12:=pth 0 111100
def p78_13:=pth 0 111101
def p78_14:=pth 0 1111010
noncomputable section
abbrev bh (M:Nat→Prop) (w0:Base):Cx:=⟨Try.prog,40,M,w0⟩
abbrev q78 (M:Nat→Prop) (w0:Base) (r:aG):=bodyPost Try.prog Try.f78 (RetQ M w0 (fun v _=>v = .agg (aO r)))
def s78_j11 (v2:Nat) (v13:aG):AS:=⟨[(1,.pp 1 v2 0),(2,.ptr 2 0),(24,.ref 10),(25,iI 11),(26,iI 10)],[(1,aO v13),(2,aO cy)],[(10,⟨133,1,lm eAdr [(v2,6),(v2,10),(v2,12),(v2,14),(v2,22),(v2,16),(v2,24),(v2,18),(v2,26),(v2,20),(v2,28)]⟩)],[1,2,10]⟩
def s78_j10 (v2:Nat) (v12:aG):AS:=⟨[(1,.pp 1 v2 0),(2,.ptr 2 0),(24,.ref 10),(25,iI 11),(26,iI 9)],[(1,aO v12),(2,aO cy)],[(10,⟨133,1,lm eAdr [(v2,6),(v2,10),(v2,12),(v2,14),(v2,22),(v2,16),(v2,24),(v2,18),(v2,26),(v2,20),(v2,28)]⟩)],[1,2,10]⟩
def s78_j9 (v2:Nat) (v11:aG):AS:=⟨[(1,.pp 1 v2 0),(2,.ptr 2 0),(24,.ref 10),(25,iI 11),(26,iI 8)],[(1,aO v11),(2,aO cy)],[(10,⟨133,1,lm eAdr [(v2,6),(v2,10),(v2,12),(v2,14),(v2,22),(v2,16),(v2,24),(v2,18),(v2,26),(v2,20),(v2,28)]⟩)],[1,2,10]⟩
def s78_j8 (v2:Nat) (v10:aG):AS:=⟨[(1,.pp 1 v2 0),(2,.ptr 2 0),(24,.ref 10),(25,iI 11),(26,iI 7)],[(1,aO v10),(2,aO cy)],[(10,⟨133,1,lm eAdr [(v2,6),(v2,10),(v2,12),(v2,14),(v2,22),(v2,16),(v2,24),(v2,18),(v2,26),(v2,20),(v2,28)]⟩)],[1,2,10]⟩
def s78_j7 (v2:Nat) (v9:aG):AS:=⟨[(1,.pp 1 v2 0),(2,.ptr 2 0),(24,.ref 10),(25,iI 11),(26,iI 6)],[(1,aO v9),(2,aO cy)],[(10,⟨133,1,lm eAdr [(v2,6),(v2,10),(v2,12),(v2,14),(v2,22),(v2,16),(v2,24),(v2,18),(v2,26),(v2,20),(v2,28)]⟩)],[1,2,10]⟩
def s78_j6 (v2:Nat) (v8:aG):AS:=⟨[(1,.pp 1 v2 0),(2,.ptr 2 0),(24,.ref 10),(25,iI 11),(26,iI 5)],[(1,aO v8),(2,aO cy)],[(10,⟨133,1,lm eAdr [(v2,6),(v2,10),(v2,12),(v2,14),(v2,22),(v2,16),(v2,24),(v2,18),(v2,26),(v2,20),(v2,28)]⟩)],[1,2,10]⟩
def s78_j5 (v2:Nat) (v7:aG):AS:=⟨[(1,.pp 1 v2 0),(2,.ptr 2 0),(24,.ref 10),(25,iI 11),(26,iI 4)],[(1,aO v7),(2,aO cy)],[(10,⟨133,1,lm eAdr [(v2,6),(v2,10),(v2,12),(v2,14),(v2,22),(v2,16),(v2,24),(v2,18),(v2,26),(v2,20),(v2,28)]⟩)],[1,2,10]⟩
def s78_j4 (v2:Nat) (v6:aG):AS:=⟨[(1,.pp 1 v2 0),(2,.ptr 2 0),(24,.ref 10),(25,iI 11),(26,iI 3)],[(1,aO v6),(2,aO cy)],[(10,⟨133,1,lm eAdr [(v2,6),(v2,10),(v2,12),(v2,14),(v2,22),(v2,16),(v2,24),(v2,18),(v2,26),(v2,20),(v2,28)]⟩)],[1,2,10]⟩
def s78_j3 (v2:Nat) (v5:aG):AS:=⟨[(1,.pp 1 v2 0),(2,.ptr 2 0),(24,.ref 10),(25,iI 11),(26,iI 2)],[(1,aO v5),(2,aO cy)],[(10,⟨133,1,lm eAdr [(v2,6),(v2,10),(v2,12),(v2,14),(v2,22),(v2,16),(v2,24),(v2,18),(v2,26),(v2,20),(v2,28)]⟩)],[1,2,10]⟩
def s78_j2 (v2:Nat) (v4:aG):AS:=⟨[(1,.pp 1 v2 0),(2,.ptr 2 0),(24,.ref 10),(25,iI 11),(26,iI 1)],[(1,aO v4),(2,aO cy)],[(10,⟨133,1,lm eAdr [(v2,6),(v2,10),(v2,12),(v2,14),(v2,22),(v2,16),(v2,24),(v2,18),(v2,26),(v2,20),(v2,28)]⟩)],[1,2,10]⟩
def s78_j1 (v2:Nat) (v3:aG):AS:=⟨[(1,.pp 1 v2 0),(2,.ptr 2 0),(24,.ref 10),(25,iI 11),(26,iI 0)],[(1,aO v3),(2,aO cy)],[(10,⟨133,1,lm eAdr [(v2,6),(v2,10),(v2,12),(v2,14),(v2,22),(v2,16),(v2,24),(v2,18),(v2,26),(v2,20),(v2,28)]⟩)],[1,2,10]⟩
variable {K:Kn} {n:Nat} {M:Nat→Prop} {w0:Base} {r v1:aG} {v2:Nat} {v3 v4 v5 v6 v7 v8 v9 v10 v11 v12 v13:aG} 
abbrev ap (p:List Nat):Kont:=.c (cat Try.f78 p)
theorem uc (hK:KnOk K) (h:nA K n v13=some r):VE (bh M w0) (q78 M w0 r) [.b 3,ap bQ,kl (bh M w0) (q78 M w0 r) [.b 2,ap aK] (cat Try.f78 bG) 29,.b 2,ap aK] .normal (s78_j11 v2 v13):=by
  unfold nA at h
  refine bq (ks':=[kl (bh M w0) (q78 M w0 r) [.b 2,ap aK] (cat Try.f78 bG) 29,.b 2,ap aK]) 2 ⟨[(1,.pp 1 v2 0),(2,.ptr 2 0),(24,.ref 10),(25,iI 11),(26,iI 11)],[(1,aO v13),(2,aO cy)],[(10,⟨133,1,lm eAdr [(v2,6),(v2,10),(v2,12),(v2,14),(v2,22),(v2,16),(v2,24),(v2,18),(v2,26),(v2,20),(v2,28)]⟩)],[1,2,10]⟩ (aY (aW (aQ 11 ?_)))
  cases h
  exact bF
theorem t8 (hK:KnOk K) (h:lf K n v12=some r):VE (bh M w0) (q78 M w0 r) [.b 3,ap bQ,kl (bh M w0) (q78 M w0 r) [.b 2,ap aK] (cat Try.f78 bG) 30,.b 2,ap aK] .normal (s78_j10 v2 v12):=by
  unfold lf at h
  refine bq (ks':=[kl (bh M w0) (q78 M w0 r) [.b 2,ap aK] (cat Try.f78 bG) 30,.b 2,ap aK]) 2 ⟨[(1,.pp 1 v2 0),(2,.ptr 2 0),(24,.ref 10),(25,iI 11),(26,iI 10)],[(1,aO v12),(2,aO cy)],[(10,⟨133,1,lm eAdr [(v2,6),(v2,10),(v2,12),(v2,14),(v2,22),(v2,16),(v2,24),(v2,18),(v2,26),(v2,20),(v2,28)]⟩)],[1,2,10]⟩ (aY (aW (ac (ks':=[ap fk,ap fz,.b 3,ap bQ,kl (bh M w0) (q78 M w0 r) [.b 2,ap aK] (cat Try.f78 bG) 29,.b 2,ap aK]) 8 (ai 0 (aq (bM 10 1 eAdr (L:=([(v2,6),(v2,10),(v2,12),(v2,14),(v2,22),(v2,16),(v2,24),(v2,18),(v2,26),(v2,20),(v2,28)]:List (Nat×Nat))) (i:=(10:Int)) (by kernel_rfl)) (aq (bj 133 0 eAdr eAdr (L:=([(v2,6),(v2,10),(v2,12),(v2,14),(v2,22),(v2,16),(v2,24),(v2,18),(v2,26),(v2,20),(v2,28)]:List (Nat×Nat))) (j:=(10:Int).toNat) (of_decide_eq_true (by kernel_rfl)) (fun _=>rfl)) (ag (ac (ks':=[ap fF,ap fa,.b 3,ap bQ,kl (bh M w0) (q78 M w0 r) [.b 2,ap aK] (cat Try.f78 bG) 29,.b 2,ap aK]) 1 (ai 3 (cV 32 1 1 v2 28 0 (ag ?_)))))))))))
  rcases au h with ⟨h11,h⟩ | ⟨h11,h⟩
  ·
   exact ak 34 h11 (ac (ks':=[ap fr,.b 3,ap bQ,kl (bh M w0) (q78 M w0 r) [.b 2,ap aK] (cat Try.f78 bG) 29,.b 2,ap aK]) 1 (ai 3 (cV 37 1 1 v2 28 0 (ag (ah 0 (uc hK (v2:=v2) h))))))
  ·
   exact ak 34 h11 (ah 2 (uc hK (v2:=v2) h))
theorem un (hK:KnOk K) (h:lU K n v11=some r):VE (bh M w0) (q78 M w0 r) [.b 3,ap bQ,kl (bh M w0) (q78 M w0 r) [.b 2,ap aK] (cat Try.f78 bG) 31,.b 2,ap aK] .normal (s78_j9 v2 v11):=by
  unfold lU at h
  refine bq (ks':=[kl (bh M w0) (q78 M w0 r) [.b 2,ap aK] (cat Try.f78 bG) 31,.b 2,ap aK]) 2 ⟨[(1,.pp 1 v2 0),(2,.ptr 2 0),(24,.ref 10),(25,iI 11),(26,iI 9)],[(1,aO v11),(2,aO cy)],[(10,⟨133,1,lm eAdr [(v2,6),(v2,10),(v2,12),(v2,14),(v2,22),(v2,16),(v2,24),(v2,18),(v2,26),(v2,20),(v2,28)]⟩)],[1,2,10]⟩ (aY (aW (ac (ks':=[ap fk,ap fz,.b 3,ap bQ,kl (bh M w0) (q78 M w0 r) [.b 2,ap aK] (cat Try.f78 bG) 30,.b 2,ap aK]) 8 (ai 0 (aq (bM 10 1 eAdr (L:=([(v2,6),(v2,10),(v2,12),(v2,14),(v2,22),(v2,16),(v2,24),(v2,18),(v2,26),(v2,20),(v2,28)]:List (Nat×Nat))) (i:=(9:Int)) (by kernel_rfl)) (aq (bj 133 0 eAdr eAdr (L:=([(v2,6),(v2,10),(v2,12),(v2,14),(v2,22),(v2,16),(v2,24),(v2,18),(v2,26),(v2,20),(v2,28)]:List (Nat×Nat))) (j:=(9:Int).toNat) (of_decide_eq_true (by kernel_rfl)) (fun _=>rfl)) (ag (ac (ks':=[ap fF,ap fa,.b 3,ap bQ,kl (bh M w0) (q78 M w0 r) [.b 2,ap aK] (cat Try.f78 bG) 30,.b 2,ap aK]) 1 (ai 3 (cV 32 1 1 v2 20 0 (ag ?_)))))))))))
  rcases au h with ⟨h10,h⟩ | ⟨h10,h⟩
  ·
   exact ak 34 h10 (ac (ks':=[ap fr,.b 3,ap bQ,kl (bh M w0) (q78 M w0 r) [.b 2,ap aK] (cat Try.f78 bG) 30,.b 2,ap aK]) 1 (ai 3 (cV 37 1 1 v2 20 0 (ag (ah 0 (t8 hK (v2:=v2) h))))))
  ·
   exact ak 34 h10 (ah 2 (t8 hK (v2:=v2) h))
theorem t9 (hK:KnOk K) (h:mD K n v10=some r):VE (bh M w0) (q78 M w0 r) [.b 3,ap bQ,kl (bh M w0) (q78 M w0 r) [.b 2,ap aK] (cat Try.f78 bG) 32,.b 2,ap aK] .normal (s78_j8 v2 v10):=by
  unfold mD at h
  refine bq (ks':=[kl (bh M w0) (q78 M w0 r) [.b 2,ap aK] (cat Try.f78 bG) 32,.b 2,ap aK]) 2 ⟨[(1,.pp 1 v2 0),(2,.ptr 2 0),(24,.ref 10),(25,iI 11),(26,iI 8)],[(1,aO v10),(2,aO cy)],[(10,⟨133,1,lm eAdr [(v2,6),(v2,10),(v2,12),(v2,14),(v2,22),(v2,16),(v2,24),(v2,18),(v2,26),(v2,20),(v2,28)]⟩)],[1,2,10]⟩ (aY (aW (ac (ks':=[ap fk,ap fz,.b 3,ap bQ,kl (bh M w0) (q78 M w0 r) [.b 2,ap aK] (cat Try.f78 bG) 31,.b 2,ap aK]) 8 (ai 0 (aq (bM 10 1 eAdr (L:=([(v2,6),(v2,10),(v2,12),(v2,14),(v2,22),(v2,16),(v2,24),(v2,18),(v2,26),(v2,20),(v2,28)]:List (Nat×Nat))) (i:=(8:Int)) (by kernel_rfl)) (aq (bj 133 0 eAdr eAdr (L:=([(v2,6),(v2,10),(v2,12),(v2,14),(v2,22),(v2,16),(v2,24),(v2,18),(v2,26),(v2,20),(v2,28)]:List (Nat×Nat))) (j:=(8:Int).toNat) (of_decide_eq_true (by kernel_rfl)) (fun _=>rfl)) (ag (ac (ks':=[ap fF,ap fa,.b 3,ap bQ,kl (bh M w0) (q78 M w0 r) [.b 2,ap aK] (cat Try.f78 bG) 31,.b 2,ap aK]) 1 (ai 3 (cV 32 1 1 v2 26 0 (ag ?_)))))))))))
  rcases au h with ⟨h9,h⟩ | ⟨h9,h⟩
  ·
   exact ak 34 h9 (ac (ks':=[ap fr,.b 3,ap bQ,kl (bh M w0) (q78 M w0 r) [.b 2,ap aK] (cat Try.f78 bG) 31,.b 2,ap aK]) 1 (ai 3 (cV 37 1 1 v2 26 0 (ag (ah 0 (un hK (v2:=v2) h))))))
  ·
   exact ak 34 h9 (ah 2 (un hK (v2:=v2) h))
theorem ut (hK:KnOk K) (h:ml K n v9=some r):VE (bh M w0) (q78 M w0 r) [.b 3,ap bQ,kl (bh M w0) (q78 M w0 r) [.b 2,ap aK] (cat Try.f78 bG) 33,.b 2,ap aK] .normal (s78_j7 v2 v9):=by
  unfold ml at h
  refine bq (ks':=[kl (bh M w0) (q78 M w0 r) [.b 2,ap aK] (cat Try.f78 bG) 33,.b 2,ap aK]) 2 ⟨[(1,.pp 1 v2 0),(2,.ptr 2 0),(24,.ref 10),(25,iI 11),(26,iI 7)],[(1,aO v9),(2,aO cy)],[(10,⟨133,1,lm eAdr [(v2,6),(v2,10),(v2,12),(v2,14),(v2,22),(v2,16),(v2,24),(v2,18),(v2,26),(v2,20),(v2,28)]⟩)],[1,2,10]⟩ (aY (aW (ac (ks':=[ap fk,ap fz,.b 3,ap bQ,kl (bh M w0) (q78 M w0 r) [.b 2,ap aK] (cat Try.f78 bG) 32,.b 2,ap aK]) 8 (ai 0 (aq (bM 10 1 eAdr (L:=([(v2,6),(v2,10),(v2,12),(v2,14),(v2,22),(v2,16),(v2,24),(v2,18),(v2,26),(v2,20),(v2,28)]:List (Nat×Nat))) (i:=(7:Int)) (by kernel_rfl)) (aq (bj 133 0 eAdr eAdr (L:=([(v2,6),(v2,10),(v2,12),(v2,14),(v2,22),(v2,16),(v2,24),(v2,18),(v2,26),(v2,20),(v2,28)]:List (Nat×Nat))) (j:=(7:Int).toNat) (of_decide_eq_true (by kernel_rfl)) (fun _=>rfl)) (ag (ac (ks':=[ap fF,ap fa,.b 3,ap bQ,kl (bh M w0) (q78 M w0 r) [.b 2,ap aK] (cat Try.f78 bG) 32,.b 2,ap aK]) 1 (ai 3 (cV 32 1 1 v2 18 0 (ag ?_)))))))))))
  rcases au h with ⟨h8,h⟩ | ⟨h8,h⟩
  ·
   exact ak 34 h8 (ac (ks':=[ap fr,.b 3,ap bQ,kl (bh M w0) (q78 M w0 r) [.b 2,ap aK] (cat Try.f78 bG) 32,.b 2,ap aK]) 1 (ai 3 (cV 37 1 1 v2 18 0 (ag (ah 0 (t9 hK (v2:=v2) h))))))
  ·
   exact ak 34 h8 (ah 2 (t9 hK (v2:=v2) h))
theorem tD (hK:KnOk K) (h:kV K n v8=some r):VE (bh M w0) (q78 M w0 r) [.b 3,ap bQ,kl (bh M w0) (q78 M w0 r) [.b 2,ap aK] (cat Try.f78 bG) 34,.b 2,ap aK] .normal (s78_j6 v2 v8):=by
  unfold kV at h
  refine bq (ks':=[kl (bh M w0) (q78 M w0 r) [.b 2,ap aK] (cat Try.f78 bG) 34,.b 2,ap aK]) 2 ⟨[(1,.pp 1 v2 0),(2,.ptr 2 0),(24,.ref 10),(25,iI 11),(26,iI 6)],[(1,aO v8),(2,aO cy)],[(10,⟨133,1,lm eAdr [(v2,6),(v2,10),(v2,12),(v2,14),(v2,22),(v2,16),(v2,24),(v2,18),(v2,26),(v2,20),(v2,28)]⟩)],[1,2,10]⟩ (aY (aW (ac (ks':=[ap fk,ap fz,.b 3,ap bQ,kl (bh M w0) (q78 M w0 r) [.b 2,ap aK] (cat Try.f78 bG) 33,.b 2,ap aK]) 8 (ai 0 (aq (bM 10 1 eAdr (L:=([(v2,6),(v2,10),(v2,12),(v2,14),(v2,22),(v2,16),(v2,24),(v2,18),(v2,26),(v2,20),(v2,28)]:List (Nat×Nat))) (i:=(6:Int)) (by kernel_rfl)) (aq (bj 133 0 eAdr eAdr (L:=([(v2,6),(v2,10),(v2,12),(v2,14),(v2,22),(v2,16),(v2,24),(v2,18),(v2,26),(v2,20),(v2,28)]:List (Nat×Nat))) (j:=(6:Int).toNat) (of_decide_eq_true (by kernel_rfl)) (fun _=>rfl)) (ag (ac (ks':=[ap fF,ap fa,.b 3,ap bQ,kl (bh M w0) (q78 M w0 r) [.b 2,ap aK] (cat Try.f78 bG) 33,.b 2,ap aK]) 1 (ai 3 (cV 32 1 1 v2 24 0 (ag ?_)))))))))))
  rcases au h with ⟨h7,h⟩ | ⟨h7,h⟩
  ·
   exact ak 34 h7 (ac (ks':=[ap fr,.b 3,ap bQ,kl (bh M w0) (q78 M w0 r) [.b 2,ap aK] (cat Try.f78 bG) 33,.b 2,ap aK]) 1 (ai 3 (cV 37 1 1 v2 24 0 (ag (ah 0 (ut hK (v2:=v2) h))))))
  ·
   exact ak 34 h7 (ah 2 (ut hK (v2:=v2) h))
theorem sY (hK:KnOk K) (h:lZ K n v7=some r):VE (bh M w0) (q78 M w0 r) [.b 3,ap bQ,kl (bh M w0) (q78 M w0 r) [.b 2,ap aK] (cat Try.f78 bG) 35,.b 2,ap aK] .normal (s78_j5 v2 v7):=by
  unfold lZ at h
  refine bq (ks':=[kl (bh M w0) (q78 M w0 r) [.b 2,ap aK] (cat Try.f78 bG) 35,.b 2,ap aK]) 2 ⟨[(1,.pp 1 v2 0),(2,.ptr 2 0),(24,.ref 10),(25,iI 11),(26,iI 5)],[(1,aO v7),(2,aO cy)],[(10,⟨133,1,lm eAdr [(v2,6),(v2,10),(v2,12),(v2,14),(v2,22),(v2,16),(v2,24),(v2,18),(v2,26),(v2,20),(v2,28)]⟩)],[1,2,10]⟩ (aY (aW (ac (ks':=[ap fk,ap fz,.b 3,ap bQ,kl (bh M w0) (q78 M w0 r) [.b 2,ap aK] (cat Try.f78 bG) 34,.b 2,ap aK]) 8 (ai 0 (aq (bM 10 1 eAdr (L:=([(v2,6),(v2,10),(v2,12),(v2,14),(v2,22),(v2,16),(v2,24),(v2,18),(v2,26),(v2,20),(v2,28)]:List (Nat×Nat))) (i:=(5:Int)) (by kernel_rfl)) (aq (bj 133 0 eAdr eAdr (L:=([(v2,6),(v2,10),(v2,12),(v2,14),(v2,22),(v2,16),(v2,24),(v2,18),(v2,26),(v2,20),(v2,28)]:List (Nat×Nat))) (j:=(5:Int).toNat) (of_decide_eq_true (by kernel_rfl)) (fun _=>rfl)) (ag (ac (ks':=[ap fF,ap fa,.b 3,ap bQ,kl (bh M w0) (q78 M w0 r) [.b 2,ap aK] (cat Try.f78 bG) 34,.b 2,ap aK]) 1 (ai 3 (cV 32 1 1 v2 16 0 (ag ?_)))))))))))
  rcases au h with ⟨h6,h⟩ | ⟨h6,h⟩
  ·
   exact ak 34 h6 (ac (ks':=[ap fr,.b 3,ap bQ,kl (bh M w0) (q78 M w0 r) [.b 2,ap aK] (cat Try.f78 bG) 34,.b 2,ap aK]) 1 (ai 3 (cV 37 1 1 v2 16 0 (ag (ah 0 (tD hK (v2:=v2) h))))))
  ·
   exact ak 34 h6 (ah 2 (tD hK (v2:=v2) h))
theorem t5 (hK:KnOk K) (h:my K n v6=some r):VE (bh M w0) (q78 M w0 r) [.b 3,ap bQ,kl (bh M w0) (q78 M w0 r) [.b 2,ap aK] (cat Try.f78 bG) 36,.b 2,ap aK] .normal (s78_j4 v2 v6):=by
  unfold my at h
  refine bq (ks':=[kl (bh M w0) (q78 M w0 r) [.b 2,ap aK] (cat Try.f78 bG) 36,.b 2,ap aK]) 2 ⟨[(1,.pp 1 v2 0),(2,.ptr 2 0),(24,.ref 10),(25,iI 11),(26,iI 4)],[(1,aO v6),(2,aO cy)],[(10,⟨133,1,lm eAdr [(v2,6),(v2,10),(v2,12),(v2,14),(v2,22),(v2,16),(v2,24),(v2,18),(v2,26),(v2,20),(v2,28)]⟩)],[1,2,10]⟩ (aY (aW (ac (ks':=[ap fk,ap fz,.b 3,ap bQ,kl (bh M w0) (q78 M w0 r) [.b 2,ap aK] (cat Try.f78 bG) 35,.b 2,ap aK]) 8 (ai 0 (aq (bM 10 1 eAdr (L:=([(v2,6),(v2,10),(v2,12),(v2,14),(v2,22),(v2,16),(v2,24),(v2,18),(v2,26),(v2,20),(v2,28)]:List (Nat×Nat))) (i:=(4:Int)) (by kernel_rfl)) (aq (bj 133 0 eAdr eAdr (L:=([(v2,6),(v2,10),(v2,12),(v2,14),(v2,22),(v2,16),(v2,24),(v2,18),(v2,26),(v2,20),(v2,28)]:List (Nat×Nat))) (j:=(4:Int).toNat) (of_decide_eq_true (by kernel_rfl)) (fun _=>rfl)) (ag (ac (ks':=[ap fF,ap fa,.b 3,ap bQ,kl (bh M w0) (q78 M w0 r) [.b 2,ap aK] (cat Try.f78 bG) 35,.b 2,ap aK]) 1 (ai 3 (cV 32 1 1 v2 22 0 (ag ?_)))))))))))
  rcases au h with ⟨h5,h⟩ | ⟨h5,h⟩
  ·
   exact ak 34 h5 (ac (ks':=[ap fr,.b 3,ap bQ,kl (bh M w0) (q78 M w0 r) [.b 2,ap aK] (cat Try.f78 bG) 35,.b 2,ap aK]) 1 (ai 3 (cV 37 1 1 v2 22 0 (ag (ah 0 (sY hK (v2:=v2) h))))))
  ·
   exact ak 34 h5 (ah 2 (sY hK (v2:=v2) h))
theorem tM (hK:KnOk K) (h:mj K n v5=some r):VE (bh M w0) (q78 M w0 r) [.b 3,ap bQ,kl (bh M w0) (q78 M w0 r) [.b 2,ap aK] (cat Try.f78 bG) 37,.b 2,ap aK] .normal (s78_j3 v2 v5):=by
  unfold mj at h
  refine bq (ks':=[kl (bh M w0) (q78 M w0 r) [.b 2,ap aK] (cat Try.f78 bG) 37,.b 2,ap aK]) 2 ⟨[(1,.pp 1 v2 0),(2,.ptr 2 0),(24,.ref 10),(25,iI 11),(26,iI 3)],[(1,aO v5),(2,aO cy)],[(10,⟨133,1,lm eAdr [(v2,6),(v2,10),(v2,12),(v2,14),(v2,22),(v2,16),(v2,24),(v2,18),(v2,26),(v2,20),(v2,28)]⟩)],[1,2,10]⟩ (aY (aW (ac (ks':=[ap fk,ap fz,.b 3,ap bQ,kl (bh M w0) (q78 M w0 r) [.b 2,ap aK] (cat Try.f78 bG) 36,.b 2,ap aK]) 8 (ai 0 (aq (bM 10 1 eAdr (L:=([(v2,6),(v2,10),(v2,12),(v2,14),(v2,22),(v2,16),(v2,24),(v2,18),(v2,26),(v2,20),(v2,28)]:List (Nat×Nat))) (i:=(3:Int)) (by kernel_rfl)) (aq (bj 133 0 eAdr eAdr (L:=([(v2,6),(v2,10),(v2,12),(v2,14),(v2,22),(v2,16),(v2,24),(v2,18),(v2,26),(v2,20),(v2,28)]:List (Nat×Nat))) (j:=(3:Int).toNat) (of_decide_eq_true (by kernel_rfl)) (fun _=>rfl)) (ag (ac (ks':=[ap fF,ap fa,.b 3,ap bQ,kl (bh M w0) (q78 M w0 r) [.b 2,ap aK] (cat Try.f78 bG) 36,.b 2,ap aK]) 1 (ai 3 (cV 32 1 1 v2 14 0 (ag ?_)))))))))))
  rcases au h with ⟨h4,h⟩ | ⟨h4,h⟩
  ·
   exact ak 34 h4 (ac (ks':=[ap fr,.b 3,ap bQ,kl (bh M w0) (q78 M w0 r) [.b 2,ap aK] (cat Try.f78 bG) 36,.b 2,ap aK]) 1 (ai 3 (cV 37 1 1 v2 14 0 (ag (ah 0 (t5 hK (v2:=v2) h))))))
  ·
   exact ak 34 h4 (ah 2 (t5 hK (v2:=v2) h))
theorem sQ (hK:KnOk K) (h:lE K n v4=some r):VE (bh M w0) (q78 M w0 r) [.b 3,ap bQ,kl (bh M w0) (q78 M w0 r) [.b 2,ap aK] (cat Try.f78 bG) 38,.b 2,ap aK] .normal (s78_j2 v2 v4):=by
  unfold lE at h
  refine bq (ks':=[kl (bh M w0) (q78 M w0 r) [.b 2,ap aK] (cat Try.f78 bG) 38,.b 2,ap aK]) 2 ⟨[(1,.pp 1 v2 0),(2,.ptr 2 0),(24,.ref 10),(25,iI 11),(26,iI 2)],[(1,aO v4),(2,aO cy)],[(10,⟨133,1,lm eAdr [(v2,6),(v2,10),(v2,12),(v2,14),(v2,22),(v2,16),(v2,24),(v2,18),(v2,26),(v2,20),(v2,28)]⟩)],[1,2,10]⟩ (aY (aW (ac (ks':=[ap fk,ap fz,.b 3,ap bQ,kl (bh M w0) (q78 M w0 r) [.b 2,ap aK] (cat Try.f78 bG) 37,.b 2,ap aK]) 8 (ai 0 (aq (bM 10 1 eAdr (L:=([(v2,6),(v2,10),(v2,12),(v2,14),(v2,22),(v2,16),(v2,24),(v2,18),(v2,26),(v2,20),(v2,28)]:List (Nat×Nat))) (i:=(2:Int)) (by kernel_rfl)) (aq (bj 133 0 eAdr eAdr (L:=([(v2,6),(v2,10),(v2,12),(v2,14),(v2,22),(v2,16),(v2,24),(v2,18),(v2,26),(v2,20),(v2,28)]:List (Nat×Nat))) (j:=(2:Int).toNat) (of_decide_eq_true (by kernel_rfl)) (fun _=>rfl)) (ag (ac (ks':=[ap fF,ap fa,.b 3,ap bQ,kl (bh M w0) (q78 M w0 r) [.b 2,ap aK] (cat Try.f78 bG) 37,.b 2,ap aK]) 1 (ai 3 (cV 32 1 1 v2 12 0 (ag ?_)))))))))))
  rcases au h with ⟨h3,h⟩ | ⟨h3,h⟩
  ·
   exact ak 34 h3 (ac (ks':=[ap fr,.b 3,ap bQ,kl (bh M w0) (q78 M w0 r) [.b 2,ap aK] (cat Try.f78 bG) 37,.b 2,ap aK]) 1 (ai 3 (cV 37 1 1 v2 12 0 (ag (ah 0 (tM hK (v2:=v2) h))))))
  ·
   exact ak 34 h3 (ah 2 (tM hK (v2:=v2) h))
theorem uo (hK:KnOk K) (h:lv K n v3=some r):VE (bh M w0) (q78 M w0 r) [.b 3,ap bQ,kl (bh M w0) (q78 M w0 r) [.b 2,ap aK] (cat Try.f78 bG) 39,.b 2,ap aK] .normal (s78_j1 v2 v3):=by
  unfold lv at h
  refine bq (ks':=[kl (bh M w0) (q78 M w0 r) [.b 2,ap aK] (cat Try.f78 bG) 39,.b 2,ap aK]) 2 ⟨[(1,.pp 1 v2 0),(2,.ptr 2 0),(24,.ref 10),(25,iI 11),(26,iI 1)],[(1,aO v3),(2,aO cy)],[(10,⟨133,1,lm eAdr [(v2,6),(v2,10),(v2,12),(v2,14),(v2,22),(v2,16),(v2,24),(v2,18),(v2,26),(v2,20),(v2,28)]⟩)],[1,2,10]⟩ (aY (aW (ac (ks':=[ap fk,ap fz,.b 3,ap bQ,kl (bh M w0) (q78 M w0 r) [.b 2,ap aK] (cat Try.f78 bG) 38,.b 2,ap aK]) 8 (ai 0 (aq (bM 10 1 eAdr (L:=([(v2,6),(v2,10),(v2,12),(v2,14),(v2,22),(v2,16),(v2,24),(v2,18),(v2,26),(v2,20),(v2,28)]:List (Nat×Nat))) (i:=(1:Int)) (by kernel_rfl)) (aq (bj 133 0 eAdr eAdr (L:=([(v2,6),(v2,10),(v2,12),(v2,14),(v2,22),(v2,16),(v2,24),(v2,18),(v2,26),(v2,20),(v2,28)]:List (Nat×Nat))) (j:=(1:Int).toNat) (of_decide_eq_true (by kernel_rfl)) (fun _=>rfl)) (ag (ac (ks':=[ap fF,ap fa,.b 3,ap bQ,kl (bh M w0) (q78 M w0 r) [.b 2,ap aK] (cat Try.f78 bG) 38,.b 2,ap aK]) 1 (ai 3 (cV 32 1 1 v2 10 0 (ag ?_)))))))))))
  rcases au h with ⟨h2,h⟩ | ⟨h2,h⟩
  ·
   exact ak 34 h2 (ac (ks':=[ap fr,.b 3,ap bQ,kl (bh M w0) (q78 M w0 r) [.b 2,ap aK] (cat Try.f78 bG) 38,.b 2,ap aK]) 1 (ai 3 (cV 37 1 1 v2 10 0 (ag (ah 0 (sQ hK (v2:=v2) h))))))
  ·
   exact ak 34 h2 (ah 2 (sQ hK (v2:=v2) h))
theorem tX (hK:KnOk K) (h:kx K n v1=some r):ACalls Try.prog 78 [.agg (aO v1)] (fun v _=>v = .agg (aO r)):=by
  refine bo (cat Try.f78 []) Try.func78 Try.ntmps78 fun M w0=>(bg ⟨[(0,.agg (aO v1))],[],[],[]⟩ ?_)
  unfold kx at h
  refine ac (ks':=[ap [1,0],ap [1,1]]) 3 (ve_rev 1 1 0 fun v2=>(ai 3 (ot_bsn 134 3 #[(0,(.tmp 7)),(1,(.tmp 8)),(2,(.tmp 9))] 10 (e:=133) (sz:=1) (l:=lm eAdr [(v2,6),(v2,10),(v2,12)]) (ag (bq (ks':=[ap p78_8,.b 0,ap [1,1,1]]) 4 ⟨[(1,.pp 1 v2 0),(2,.ptr 2 0),(3,.ref 10),(11,iI 0)],[(1,aO v1),(2,aO cy)],[(10,⟨133,1,lm eAdr [(v2,6),(v2,10),(v2,12)]⟩)],[1,2,10]⟩ (mL 40 (c:=cat Try.f78 gu) (by kernel_rfl) (aW (ac (ks':=[ap iR,.b 1,ap p78_11,kl (bh M w0) (q78 M w0 r) [.b 0,ap [1,1,1]] (cat Try.f78 gu) 39,.b 0,ap [1,1,1]]) 9 (bt [1,2,3,4,11] [1,2] [10] (bE 2 (nu 14 [.ref 10,iI 0,.adr v2 14,.adr v2 14,iI 0,.adr v2 22,.adr v2 22,.sl (lm eAdr [(v2,14),(v2,22)])]) [] [] [appS 22 10 ⟨133,1,lm eAdr [(v2,6),(v2,10),(v2,12),(v2,14),(v2,22)]⟩,stp Try.prog 40 Try.f78 iR 9] (az [.v 0 1,.v 0 2,.v 0 2,.v 0 2,.v 0 2,.v 0 2,.v 0 2,.v 0 1] (aj (e_s (m:=0) (cE 22 10 133 1 eAdr (L:=([(v2,6),(v2,10),(v2,12)]:List (Nat×Nat))) (M:=([(v2,14),(v2,22)]:(List (Nat×Nat)))) (bytes:=8) (rfl) (fun _=>rfl) (by kernel_rfl))) (aj (e_d 1) bC))) (bq (ks':=[kl (bh M w0) (q78 M w0 r) [.b 0,ap [1,1,1]] (cat Try.f78 gu) 39,.b 0,ap [1,1,1]]) 2 ⟨[(1,.pp 1 v2 0),(2,.ptr 2 0),(3,.ref 10),(11,iI 1)],[(1,aO v1),(2,aO cy)],[(10,⟨133,1,lm eAdr [(v2,6),(v2,10),(v2,12),(v2,14),(v2,22)]⟩)],[1,2,10]⟩ (aY (aW (ac (ks':=[ap iR,.b 1,ap p78_11,kl (bh M w0) (q78 M w0 r) [.b 0,ap [1,1,1]] (cat Try.f78 gu) 38,.b 0,ap [1,1,1]]) 9 (bt [1,2,3,4,11] [1,2] [10] (bE 2 (nu 14 [.ref 10,iI 1,.adr v2 14,.adr v2 16,iI 1,.adr v2 22,.adr v2 24,.sl (lm eAdr [(v2,16),(v2,24)])]) [] [] [appS 22 10 ⟨133,1,lm eAdr [(v2,6),(v2,10),(v2,12),(v2,14),(v2,22),(v2,16),(v2,24)]⟩,stp Try.prog 40 Try.f78 iR 9] (az [.v 0 1,.v 0 2,.v 0 2,.v 0 2,.v 0 2,.v 0 2,.v 0 2,.v 0 1] (aj (e_s (m:=0) (cE 22 10 133 1 eAdr (L:=([(v2,6),(v2,10),(v2,12),(v2,14),(v2,22)]:List (Nat×Nat))) (M:=([(v2,16),(v2,24)]:(List (Nat×Nat)))) (bytes:=8) (rfl) (fun _=>rfl) (by kernel_rfl))) (aj (e_d 1) bC))) (bq (ks':=[kl (bh M w0) (q78 M w0 r) [.b 0,ap [1,1,1]] (cat Try.f78 gu) 38,.b 0,ap [1,1,1]]) 2 ⟨[(1,.pp 1 v2 0),(2,.ptr 2 0),(3,.ref 10),(11,iI 2)],[(1,aO v1),(2,aO cy)],[(10,⟨133,1,lm eAdr [(v2,6),(v2,10),(v2,12),(v2,14),(v2,22),(v2,16),(v2,24)]⟩)],[1,2,10]⟩ (aY (aW (ac (ks':=[ap iR,.b 1,ap p78_11,kl (bh M w0) (q78 M w0 r) [.b 0,ap [1,1,1]] (cat Try.f78 gu) 37,.b 0,ap [1,1,1]]) 9 (bt [1,2,3,4,11] [1,2] [10] (bE 2 (nu 14 [.ref 10,iI 2,.adr v2 14,.adr v2 18,iI 2,.adr v2 22,.adr v2 26,.sl (lm eAdr [(v2,18),(v2,26)])]) [] [] [appS 22 10 ⟨133,1,lm eAdr [(v2,6),(v2,10),(v2,12),(v2,14),(v2,22),(v2,16),(v2,24),(v2,18),(v2,26)]⟩,stp Try.prog 40 Try.f78 iR 9] (az [.v 0 1,.v 0 2,.v 0 2,.v 0 2,.v 0 2,.v 0 2,.v 0 2,.v 0 1] (aj (e_s (m:=0) (cE 22 10 133 1 eAdr (L:=([(v2,6),(v2,10),(v2,12),(v2,14),(v2,22),(v2,16),(v2,24)]:List (Nat×Nat))) (M:=([(v2,18),(v2,26)]:(List (Nat×Nat)))) (bytes:=8) (rfl) (fun _=>rfl) (by kernel_rfl))) (aj (e_d 1) bC))) (bq (ks':=[kl (bh M w0) (q78 M w0 r) [.b 0,ap [1,1,1]] (cat Try.f78 gu) 37,.b 0,ap [1,1,1]]) 2 ⟨[(1,.pp 1 v2 0),(2,.ptr 2 0),(3,.ref 10),(11,iI 3)],[(1,aO v1),(2,aO cy)],[(10,⟨133,1,lm eAdr [(v2,6),(v2,10),(v2,12),(v2,14),(v2,22),(v2,16),(v2,24),(v2,18),(v2,26)]⟩)],[1,2,10]⟩ ?_)))))))))))))))))))))))
  refine aY (aW (ac (ks':=[ap iR,.b 1,ap p78_11,kl (bh M w0) (q78 M w0 r) [.b 0,ap [1,1,1]] (cat Try.f78 gu) 36,.b 0,ap [1,1,1]]) 9 (bt [1,2,3,4,11] [1,2] [10] (bE 2 (nu 14 [.ref 10,iI 3,.adr v2 14,.adr v2 20,iI 3,.adr v2 22,.adr v2 28,.sl (lm eAdr [(v2,20),(v2,28)])]) [] [] [appS 22 10 ⟨133,1,lm eAdr [(v2,6),(v2,10),(v2,12),(v2,14),(v2,22),(v2,16),(v2,24),(v2,18),(v2,26),(v2,20),(v2,28)]⟩,stp Try.prog 40 Try.f78 iR 9] (az [.v 0 1,.v 0 2,.v 0 2,.v 0 2,.v 0 2,.v 0 2,.v 0 2,.v 0 1] (aj (e_s (m:=0) (cE 22 10 133 1 eAdr (L:=([(v2,6),(v2,10),(v2,12),(v2,14),(v2,22),(v2,16),(v2,24),(v2,18),(v2,26)]:List (Nat×Nat))) (M:=([(v2,20),(v2,28)]:(List (Nat×Nat)))) (bytes:=8) (rfl) (fun _=>rfl) (by kernel_rfl))) (aj (e_d 1) bC))) (bq (ks':=[kl (bh M w0) (q78 M w0 r) [.b 0,ap [1,1,1]] (cat Try.f78 gu) 36,.b 0,ap [1,1,1]]) 2 ⟨[(1,.pp 1 v2 0),(2,.ptr 2 0),(3,.ref 10),(11,iI 4)],[(1,aO v1),(2,aO cy)],[(10,⟨133,1,lm eAdr [(v2,6),(v2,10),(v2,12),(v2,14),(v2,22),(v2,16),(v2,24),(v2,18),(v2,26),(v2,20),(v2,28)]⟩)],[1,2,10]⟩ (aY (aW (ac (ks':=[ap p78_12,ap p78_13,ap aK]) 10 (ai 1 (aq (aZ eAdr ([(v2,6),(v2,10),(v2,12),(v2,14),(v2,22),(v2,16),(v2,24),(v2,18),(v2,26),(v2,20),(v2,28)]:List (Nat×Nat))) (ag (bq (ks':=[ap p78_14,.b 2,ap aK]) 1 ⟨[(1,.pp 1 v2 0),(2,.ptr 2 0),(24,.ref 10),(25,iI 11),(26,iI 0)],[(1,aO v1),(2,aO cy)],[(10,⟨133,1,lm eAdr [(v2,6),(v2,10),(v2,12),(v2,14),(v2,22),(v2,16),(v2,24),(v2,18),(v2,26),(v2,20),(v2,28)]⟩)],[1,2,10]⟩ (mL 40 (c:=cat Try.f78 bG) (by kernel_rfl) (aW (ac (ks':=[ap fk,ap fz,.b 3,ap bQ,kl (bh M w0) (q78 M w0 r) [.b 2,ap aK] (cat Try.f78 bG) 39,.b 2,ap aK]) 8 (ai 0 (aq (bM 10 1 eAdr (L:=([(v2,6),(v2,10),(v2,12),(v2,14),(v2,22),(v2,16),(v2,24),(v2,18),(v2,26),(v2,20),(v2,28)]:List (Nat×Nat))) (i:=(0:Int)) (by kernel_rfl)) (aq (bj 133 0 eAdr eAdr (L:=([(v2,6),(v2,10),(v2,12),(v2,14),(v2,22),(v2,16),(v2,24),(v2,18),(v2,26),(v2,20),(v2,28)]:List (Nat×Nat))) (j:=(0:Int).toNat) (of_decide_eq_true (by kernel_rfl)) (fun _=>rfl)) (ag (ac (ks':=[ap fF,ap fa,.b 3,ap bQ,kl (bh M w0) (q78 M w0 r) [.b 2,ap aK] (cat Try.f78 bG) 39,.b 2,ap aK]) 1 (ai 3 (cV 32 1 1 v2 6 0 (ag ?_)))))))))))))))))))))))
  rcases au h with ⟨h1,h⟩ | ⟨h1,h⟩
  ·
   exact ak 34 h1 (ac (ks':=[ap fr,.b 3,ap bQ,kl (bh M w0) (q78 M w0 r) [.b 2,ap aK] (cat Try.f78 bG) 39,.b 2,ap aK]) 1 (ai 3 (cV 37 1 1 v2 6 0 (ag (ah 0 (uo hK (v2:=v2) h))))))
  ·
   exact ak 34 h1 (ah 2 (uo hK (v2:=v2) h))
end
noncomputable section
abbrev cx93 (M:Nat→Prop) (w0:Base):Cx:=⟨Try.prog,12,M,w0⟩
abbrev q93 (M:Nat→Prop) (w0:Base) (r:Bool):=bodyPost Try.prog Try.f93 (RetQ M w0 (fun v _=>v = .bool r))
def s93_j1 (v2:Bool):AS:=⟨[(2,.bool v2)],[],[],[]⟩
variable {K:Kn} {n:Nat} {M:Nat→Prop} {w0:Base} {r:Bool} {v1:ab} {v2:Bool} 
abbrev cF93 (p:List Nat):Kont:=.c (cat Try.f93 p)
theorem ur (hK:KnOk K) (h:nV K n v2=some r):VE (cx93 M w0) (q93 M w0 r) [cF93 [1,1]] .normal (s93_j1 v2):=by
  unfold nV at h
  refine aQ 1 ?_
  cases h
  exact bF
theorem g_block_Flow_ok (hK:KnOk K) (h:mV K n v1=some r):ACalls Try.prog 93 [.agg (aF v1)] (fun v _=>v = .bool r):=by
  refine bo (cat Try.f93 []) Try.func93 Try.ntmps93 fun M w0=>(bg ⟨[(0,.agg (aF v1))],[],[],[]⟩ ?_)
  unfold mV at h
  refine ac (ks':=[cF93 [1,0],cF93 [1,1]]) 3 (ai 4 ?_)
  rcases au h with ⟨h1,h⟩ | ⟨h1,h⟩
  ·
   exact aL 6 h1 (ag (ah 0 (ur hK h)))
  ·
   exact aL 6 h1 (ag (ah 0 (ur hK h)))
end
def p96_0:=pth 0 110100
def p96_1:=pth 0 11010010
def p96_2:=pth 0 11010011
def p96_3:=pth 0 110100110010
def p96_4:=pth 0 110100110011
def p96_5:=pth 0 110100111
def p96_6:=pth 0 11010
noncomputable section
abbrev cx96 (M:Nat→Prop) (w0:Base):Cx:=⟨Try.prog,19,M,w0⟩
abbrev q96 (M:Nat→Prop) (w0:Base) (r:Int):=bodyPost Try.prog Try.f96 (RetQ M w0 (fun v _=>v=iI r))
abbrev d4 (p:List Nat):Kont:=.c (cat Try.f96 p)
abbrev k96_1 (M:Nat→Prop) (w0:Base) (r:Int) (m1:Nat):Kont:=kl (cx96 M w0) (q96 M w0 r) [.b 0,d4 [1,1]] (cat Try.f96 p96_0) m1
def s96_l1 (v1:List ab) (v2:Fv) (v4:Int):AS:=⟨[(0,.sl (lm ax v1)),(1,.fn v2.id v2.caps),(7,iI (v1.length:Int)),(8,iI v4)],[],[],[]⟩
abbrev H96_1 (M:Nat→Prop) (w0:Base) (r:Int) (v1:List ab) (v2:Fv) (m1:Nat) (L1:Int→Option Int):Prop:=∀ {v4:Int},L1 v4=some r→LP (cx96 M w0) (q96 M w0 r) [.b 0,d4 [1,1]] (cat Try.f96 p96_0) m1 (s96_l1 v1 v2 v4)
variable {K:Kn} {n:Nat} {M:Nat→Prop} {w0:Base} {r:Int} {v1:List ab} {v2:Fv} {v4:Int} {m1:Nat} {L1:Int→Option Int}
theorem xl (hK:KnOk K) (hL1:H96_1 M w0 r v1 v2 m1 L1) (h:mP K n v1 v2 L1 v4=some r):VE (cx96 M w0) (q96 M w0 r) [d4 p96_0,k96_1 M w0 r m1,.b 0,d4 [1,1]] .normal (s96_l1 v1 v2 v4):=by
  unfold mP at h
  refine ac (ks':=[d4 p96_1,d4 p96_2,k96_1 M w0 r m1,.b 0,d4 [1,1]]) 3 ?_
  rcases au h with ⟨h5,h⟩ | ⟨h5,h⟩
  ·
   refine ak 9 h5 (ac (ks':=[d4 p96_3,d4 p96_4,.b 1,d4 p96_5,k96_1 M w0 r m1,.b 0,d4 [1,1]]) 7 (ai 3 ?_))
   obtain ⟨h6,h⟩:=av h
   refine aq (bL ax aF h6 (co) (b8)) (aV 5 1 ?_)
   obtain ⟨v5,h7,h⟩:=bind_some h
   refine i8 (hK.gM h7) (ag ?_)
   rcases au h with ⟨h8,h⟩ | ⟨h8,h⟩
   ·
    refine ak 16 h8 (aQ 9 ?_)
    cases h
    exact bF
   ·
    exact ak 16 h8 (ah 4 (aY (hL1 h)))
  ·
   refine ak 9 h5 (aQ 8 ?_)
   cases h
   exact bF
theorem xF (hK:KnOk K) (m:Nat):H96_1 M w0 r v1 v2 m (jE K n v1 v2 m):=by
  induction m with
 | zero=>intro v4 h; cases h
 | succ m ih=>intro v4 h; have h:mP K n v1 v2 (jE K n v1 v2 m) v4=some r:=h; exact aW (xl hK ih h)
theorem wZ (hK:KnOk K) (h:pR K n v1 v2=some r):ACalls Try.prog 96 [.sl (lm ax v1),.fn v2.id v2.caps] (fun v _=>v=iI r):=by
  refine bo (cat Try.f96 []) Try.func96 Try.ntmps96 fun M w0=>(bg ⟨[(0,.sl (lm ax v1)),(1,.fn v2.id v2.caps)],[],[],[]⟩ ?_)
  unfold pR at h
  exact ac (ks':=[d4 [1,0,0],d4 [1,0,1],d4 [1,1]]) 4 (ai 1 (aq (aZ ax v1) (ag (ah 1 (bz (p:=p96_6) n (xF hK n h))))))
end
noncomputable section
variable {K:Kn} {n:Nat} {M:Nat→Prop} {w0:Base} {r:Bool} {v1:List ab} {v2:Fv} 
abbrev cF94 (p:List Nat):Kont:=.c (cat Try.f94 p)
theorem uR (hK:KnOk K) (h:mz K n v1 v2=some r):ACalls Try.prog 94 [.sl (lm ax v1),.fn v2.id v2.caps] (fun v _=>v = .bool r):=by
  refine bo (cat Try.f94 []) Try.func94 Try.ntmps94 fun M w0=>(bg ⟨[(0,.sl (lm ax v1)),(1,.fn v2.id v2.caps)],[],[],[]⟩ ?_)
  unfold mz at h
  refine ac (ks':=[cF94 [1,0],cF94 [1,1]]) 3 (ai 2 ?_)
  obtain ⟨v3,h1,h⟩:=bind_some h
  refine aR (wZ hK h1) (ag (aQ 1 ?_))
  cases h
  exact bF
end
def p84_0:=pth 0 1110100
def p84_1:=pth 0 1110100111
def p84_2:=pth 0 111010010
def p84_3:=pth 0 111010011
def p84_4:=pth 0 111010011000
def p84_5:=pth 0 111010011001
def p84_6:=pth 0 1110100110010
def p84_7:=pth 0 1110100110011
def p84_8:=pth 0 11101001100110
def p84_9:=pth 0 11110
def p84_10:=pth 0 11111
def p84_11:=pth 0 11100
def p84_12:=pth 0 11101
def p84_13:=pth 0 111010
noncomputable section
abbrev cx84 (M:Nat→Prop) (w0:Base):Cx:=⟨Try.prog,24,M,w0⟩
abbrev q84 (M:Nat→Prop) (w0:Base) (r:(List ab)×Bool):=bodyPost Try.prog Try.f84 (RetQ M w0 (fun v _=>v = .tup [.sl (lm ax r.1),.bool r.2]))
abbrev cF (p:List Nat):Kont:=.c (cat Try.f84 p)
abbrev mi (M:Nat→Prop) (w0:Base) (r:(List ab)×Bool) (m1:Nat):Kont:=kl (cx84 M w0) (q84 M w0 r) [.b 0,cF [1,1,1]] (cat Try.f84 p84_0) m1
def s84_j1 (v1:ab) (v8:Int) (v11:List ab):AS:=⟨[(4,.ref 19),(8,.sl (lm ax v1.Kids)),(9,iI (v1.Kids.length:Int)),(10,iI v8)],[],[(19,⟨55,59,lm ax v11⟩)],[19]⟩
def s84_l2 (v1:ab) (v8:Int) (v9:List ab):AS:=⟨[(4,.ref 19),(8,.sl (lm ax v1.Kids)),(9,iI (v1.Kids.length:Int)),(10,iI v8)],[],[(19,⟨55,59,lm ax v9⟩)],[19]⟩
abbrev H84_1 (M:Nat→Prop) (w0:Base) (r:(List ab)×Bool) (v1:ab) (m1:Nat) (L1:Int→(List ab)→Option ((List ab)×Bool)):Prop:=∀ {v8:Int} {v9:(List ab)},L1 v8 v9=some r→LP (cx84 M w0) (q84 M w0 r) [.b 0,cF [1,1,1]] (cat Try.f84 p84_0) m1 (s84_l2 v1 v8 v9)
variable {K:Kn} {n:Nat} {M:Nat→Prop} {w0:Base} {r:(List ab)×Bool} {v1:ab} {v8:Int} {v9 v11:List ab} {m1:Nat} {L1:Int→(List ab)→Option ((List ab)×Bool)}
theorem tZ (hK:KnOk K) (hL1:H84_1 M w0 r v1 m1 L1) (h:mO K n v1 v8 L1 v11=some r):VE (cx84 M w0) (q84 M w0 r) [.b 1,cF p84_1,mi M w0 r m1,.b 0,cF [1,1,1]] .normal (s84_j1 v1 v8 v11):=by
  unfold mO at h
  exact ah 2 (aY (hL1 h))
theorem xx (hK:KnOk K) (hL1:H84_1 M w0 r v1 m1 L1) (h:oV K n v1 L1 v8 v9=some r):VE (cx84 M w0) (q84 M w0 r) [cF p84_0,mi M w0 r m1,.b 0,cF [1,1,1]] .normal (s84_l2 v1 v8 v9):=by
  unfold oV at h
  refine ac (ks':=[cF p84_2,cF p84_3,mi M w0 r m1,.b 0,cF [1,1,1]]) 3 ?_
  rcases au h with ⟨h13,h⟩ | ⟨h13,h⟩
  ·
   refine ak 11 h13 (ac (ks':=[cF p84_4,cF p84_5,.b 1,cF p84_1,mi M w0 r m1,.b 0,cF [1,1,1]]) 5 (ai 0 ?_))
   obtain ⟨h14,h⟩:=av h
   refine aq (bL ax aF h14 (co) (b8)) (ag (ac (ks':=[cF p84_6,cF p84_7,.b 1,cF p84_1,mi M w0 r m1,.b 0,cF [1,1,1]]) 1 (ai 1 ?_)))
   obtain ⟨v10,h15,h⟩:=bind_some h
   refine aR (g_block_Flow_ok hK h15) (ag ?_)
   rcases au h with ⟨h16,h⟩ | ⟨h16,h⟩
   ·
    refine ak 15 h16 (ac (ks':=[cF p84_8,.b 1,cF p84_1,mi M w0 r m1,.b 0,cF [1,1,1]]) 1 (ai 2 (aq (fc ax ([(gD v1.Kids v8)]:List ab) (new:=[aF (gD v1.Kids v8)]) (by simp only [List.map_cons,List.map_nil,b8])) ?_)))
    obtain ⟨h17,h⟩:=av h
    exact aq (cE 19 19 55 59 ax (rfl) (co) h17) (ag (ah 0 (tZ hK hL1 h)))
   ·
    exact ak 15 h16 (ah 2 (tZ hK hL1 h))
  ·
   refine ak 11 h13 (ac (ks':=[cF p84_9,cF p84_10]) 6 (ai 2 (dV 19 ?_)))
   obtain ⟨v12,h18,h⟩:=bind_some h
   refine aR (uR hK h18) (ag (aQ 1 ?_))
   cases h
   exact dW
theorem xj (hK:KnOk K) (m:Nat):H84_1 M w0 r v1 m (kg K n v1 m):=by
  induction m with
 | zero=>intro v8 v9 h; cases h
 | succ m ih=>intro v8 v9 h; have h:oV K n v1 (kg K n v1 m) v8 v9=some r:=h; exact aW (xx hK ih h)
theorem ue (hK:KnOk K) (h:ly K n v1=some r):ACalls Try.prog 84 [.agg (aF v1)] (fun v _=>v = .tup [.sl (lm ax r.1),.bool r.2]):=by
  refine bo (cat Try.f84 []) Try.func84 Try.ntmps84 fun M w0=>(bg ⟨[(0,.agg (aF v1))],[],[],[]⟩ ?_)
  unfold ly at h
  exact ac (ks':=[cF p84_11,cF p84_12,cF [1,1,1]]) 6 (ai 2 (aq (aZ ax v1.Kids) (ag (ac (ks':=[cF p84_13,.b 0,cF [1,1,1]]) 1 (bt [4,8,9,10] [] [] (dF 19 4 55 59 (ah 0 (bz (p:=p84_13) n (xj hK n h)))))))))
end
def jp:=pth 5 1
def p77_1:=pth 0 111110100
def p77_2:=pth 0 11111010010
def p77_3:=pth 0 11111010011
def p77_4:=pth 0 11111010011000
def p77_5:=pth 0 11111010011001
def p77_6:=pth 0 111110100111
def p77_7:=pth 0 111110100110010
def p77_8:=pth 0 111110100110011
def p77_9:=pth 5 10
def p77_10:=pth 6 1
def p77_11:=pth 0 11011
def p77_12:=pth 0 1101100
def p77_13:=pth 0 1101101
def p77_14:=pth 0 111101
def p77_15:=pth 0 11111
def p77_16:=pth 0 11110100
def p77_17:=pth 0 11110101
def p77_18:=pth 0 111101010
def p77_19:=pth 0 111101011
def p77_20:=pth 0 1111100
def p77_21:=pth 0 1111101
def p77_22:=pth 0 11111010
noncomputable section
abbrev cx77 (M:Nat→Prop) (w0:Base):Cx:=⟨Try.prog,71,M,w0⟩
abbrev q77 (M:Nat→Prop) (w0:Base) (r:Int×Int):=bodyPost Try.prog Try.f77 (RetQ M w0 (fun v _=>v = .tup [iI r.1,iI r.2]))
abbrev bX (p:List Nat):Kont:=.c (cat Try.f77 p)
abbrev k77_1 (M:Nat→Prop) (w0:Base) (r:Int×Int) (m1:Nat):Kont:=kl (cx77 M w0) (q77 M w0 r) [.b 0,bX jp] (cat Try.f77 p77_1) m1
def s77_l1 (v2:bw) (v6:(List ab)×Bool) (v11 v12 v13:Int):AS:=⟨[(3,.ptr 3 0),(4,iI v11),(5,iI v12),(47,.sl (lm ax v6.1)),(48,iI (v6.1.length:Int)),(49,iI v13)],[(3,cj v2)],[],[3]⟩
abbrev H77_1 (M:Nat→Prop) (w0:Base) (r:Int×Int) (v2:bw) (v6:(List ab)×Bool) (m1:Nat) (L1:Int→Int→Int→Option (Int×Int)):Prop:=∀ {v11:Int} {v12:Int} {v13:Int},L1 v11 v12 v13=some r→LP (cx77 M w0) (q77 M w0 r) [.b 0,bX jp] (cat Try.f77 p77_1) m1 (s77_l1 v2 v6 v11 v12 v13)
variable {K:Kn} {n:Nat} {M:Nat→Prop} {w0:Base} {r:Int×Int} {v1:ab} {v2:bw} {v6:(List ab)×Bool} {v11 v12 v13:Int} {m1:Nat} {L1:Int→Int→Int→Option (Int×Int)}
theorem vH (hK:KnOk K) (hL1:H77_1 M w0 r v2 v6 m1 L1) (h:qN K n v2 v6 L1 v11 v12 v13=some r):VE (cx77 M w0) (q77 M w0 r) [bX p77_1,k77_1 M w0 r m1,.b 0,bX jp] .normal (s77_l1 v2 v6 v11 v12 v13):=by
  unfold qN at h
  refine ac (ks':=[bX p77_2,bX p77_3,k77_1 M w0 r m1,.b 0,bX jp]) 3 ?_
  rcases au h with ⟨h13,h⟩ | ⟨h13,h⟩
  ·
   refine ak 50 h13 (ac (ks':=[bX p77_4,bX p77_5,.b 1,bX p77_6,k77_1 M w0 r m1,.b 0,bX jp]) 5 (ai 0 ?_))
   obtain ⟨h14,h⟩:=av h
   refine aq (bL ax aF h14 (co) (b8)) (ag (ac (ks':=[bX p77_7,bX p77_8,.b 1,bX p77_6,k77_1 M w0 r m1,.b 0,bX jp]) 1 (ai 3 ?_)))
   obtain ⟨v14,h15,h⟩:=bind_some h
   exact i8 (hK.qc h15) (ag (ah 3 (aY (hL1 h))))
  ·
   refine ak 50 h13 (ac (ks':=[bX p77_9,bX p77_10]) 6 (ai 1 ?_))
   obtain ⟨v15,h16,h⟩:=bind_some h
   refine aR (fj hK h16) (aV 3 1 ?_)
   obtain ⟨v16,h17,h⟩:=bind_some h
   refine aR (fj hK h17) (ag (aQ 1 ?_))
   cases h
   exact dW
theorem wP (hK:KnOk K) (m:Nat):H77_1 M w0 r v2 v6 m (q8 K n v2 v6 m):=by
  induction m with
 | zero=>intro v11 v12 v13 h; cases h
 | succ m ih=>intro v11 v12 v13 h; have h:qN K n v2 v6 (q8 K n v2 v6 m) v11 v12 v13=some r:=h; exact aW (vH hK ih h)
theorem vg (hK:KnOk K) (h:oe K n v1 v2=some r):ACalls Try.prog 77 [.agg (aF v1),.agg (cj v2)] (fun v _=>v = .tup [iI r.1,iI r.2]):=by
  refine bo (cat Try.f77 []) Try.func77 Try.ntmps77 fun M w0=>(bg ⟨[(0,.agg (aF v1)),(1,.agg (cj v2))],[],[],[]⟩ ?_)
  unfold oe at h
  refine ac (ks':=[bX [1,0,0],bX [1,0,1],bX [1,1]]) 4 (ai 2 ?_)
  obtain ⟨v3,h1,h⟩:=bind_some h
  refine aR (tX hK h1) (aV 4 1 ?_)
  obtain ⟨v4,h2,h⟩:=bind_some h
  refine aR (df hK h2) (ag (ac (ks':=[bX p77_11,bX [1,1]]) 2 ?_))
  rcases au h with ⟨h3,h⟩ | ⟨h3,h⟩
  ·
   refine ak 22 h3 (ac (ks':=[bX p77_12,bX p77_13,bX [1,1]]) 2 (ai 1 ?_))
   obtain ⟨v5,h4,h⟩:=bind_some h
   refine aR (fj hK h4) (ag (aQ 4 ?_))
   cases h
   exact dW
  ·
   refine ak 22 h3 (ac (ks':=[bX [1,1,0],bX [1,1,1]]) 3 (ai 1 ?_))
   obtain ⟨v6,h5,h⟩:=bind_some h
   refine aR (ue hK h5) (ag (ac (ks':=[bX p77_14,bX p77_15]) 3 ?_))
   rcases au h with ⟨h6,h⟩ | ⟨h6,h⟩
   ·
    refine ak 33 h6 (ac (ks':=[bX p77_16,bX p77_17,bX p77_15]) 2 (ai 5 ?_))
    obtain ⟨v7,h7,h⟩:=bind_some h
    refine i8 (hK.nz h7) (ag (ac (ks':=[bX p77_18,bX p77_19,bX p77_15]) 1 (ai 1 ?_)))
    obtain ⟨v8,h8,h⟩:=bind_some h
    refine aR (fj hK h8) (aV 3 1 ?_)
    obtain ⟨v9,h9,h⟩:=bind_some h
    refine aR (fj hK h9) (ag (aQ 2 ?_))
    cases h
    exact dW
   ·
    exact ak 33 h6 (ac (ks':=[bX p77_20,bX p77_21,bX jp]) 4 (ai 1 (aq (aZ ax v6.1) (ag (ah 1 (bz (p:=p77_22) n (wP hK n h)))))))
end
def p68_0:=pth 0 11110
def p68_1:=pth 0 11111
noncomputable section
variable {K:Kn} {n:Nat} {M:Nat→Prop} {w0:Base} {r:Int×Int} {v1:ab} {v2:bw} 
abbrev cF68 (p:List Nat):Kont:=.c (cat Try.f68 p)
theorem uh (hK:KnOk K) (h:kk K n v1 v2=some r):ACalls Try.prog 68 [.agg (aF v1),.agg (cj v2)] (fun v _=>v = .tup [iI r.1,iI r.2]):=by
  refine bo (cat Try.f68 []) Try.func68 Try.ntmps68 fun M w0=>(bg ⟨[(0,.agg (aF v1)),(1,.agg (cj v2))],[],[],[]⟩ ?_)
  unfold kk at h
  refine ac (ks':=[cF68 [1,0],cF68 [1,1]]) 3 (ai 2 ?_)
  obtain ⟨v3,h1,h⟩:=bind_some h
  refine aR (vg hK h1) (ag (ac (ks':=[cF68 [1,1,0],cF68 [1,1,1]]) 1 (ai 2 ?_)))
  obtain ⟨v4,h2,h⟩:=bind_some h
  refine aR (tX hK h2) (ag (ac (ks':=[cF68 p68_0,cF68 p68_1]) 1 (bt [4,5,6] [6] [] ?_)))
  obtain ⟨v5,h3,h⟩:=bind_some h
  obtain ⟨v6,h4,h⟩:=bind_some h
  obtain ⟨v7,h5,h⟩:=bind_some h
  obtain ⟨v8,h6,h⟩:=bind_some h
  obtain ⟨v9,h7,h⟩:=bind_some h
  obtain ⟨v10,h8,h⟩:=bind_some h
  refine bE 2 (nu 16 [.agg (aO v4),.agg (aO v4),iI v3.1,iI v5,.agg (bI v6),iI v7,.agg (aO v4),.agg (aO v4),iI v3.2,iI v8,.agg (bI v9),iI v10]) [] [] [stp Try.prog 28 Try.f68 p68_0 12,stp Try.prog 28 Try.f68 p68_0 13] (az (vz 3) (aj (e_c 0 1 19 (qM hK h3)) (aj (e_c 0 1 20 (pA hK h4)) (aj (e_c 0 1 21 (mC hK h5)) (az [.v 0 2,.v 0 2,.v 0 2] (aj (e_c 0 2 25 (qM hK h6)) (aj (e_c 0 2 26 (pA hK h7)) (aj (e_c 0 1 27 (mC hK h8)) (aj (e_d 0) (aj (e_d 1) bC)))))))))) (aQ 1 ?_)
  cases h
  exact dW
end
noncomputable section
variable {K:Kn} {n:Nat} {M:Nat→Prop} {w0:Base} {r v1:ab} 
theorem uu (hK:KnOk K) (h:l3 K n v1=some r):ACalls Try.prog 69 [.agg (aF v1)] (fun v _=>v = .agg (aF r)):=by
  refine bo (cat Try.f69 []) Try.func69 Try.ntmps69 fun M w0=>(bg ⟨[(0,.agg (aF v1))],[],[],[]⟩ ?_)
  unfold l3 at h
  refine aQ 7 ?_
  cases h
  exact bF
end
end Go.Proofs.Ytolhpahjgddjkaa

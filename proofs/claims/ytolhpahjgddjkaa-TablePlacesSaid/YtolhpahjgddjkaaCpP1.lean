/- The runs of the functions that TablePlaces reaches do what their plain forms say, part 1. Made by a program. -/
import Derived.Test.YtolhpahjgddjkaaCpGk
import Derived.Test.YtolhpahjgddjkaaCpP0
namespace Go.Proofs.Ytolhpahjgddjkaa
open Go.RowKit
set_option maxRecDepth 20000
set_option linter.all false
set_option linter.unusedVariables false
set_option linter.unusedSimpArgs false
def aP:=pth 5 1
def p11_1:=pth 0 111110100
def bf:=pth 0 111110100100111
def ba:=pth 0 11111010011
def p11_4:=pth 0 111110100100110100
def bT:=pth 0 11111010010011010010011
def bC:=pth 0 11111010010011010011
def p11_7:=pth 0 1111101001001101001001000
def dI:=pth 0 11111010010011010010010001011
def p11_9:=pth 0 11111010010011010010010001010100
def p11_10:=pth 0 1111101001001101001001000101010011
def p11_11:=pth 0 1111101001001101001001000101010000
def p11_12:=pth 0 1111101001001101001001000101010001
def p11_13:=pth 0 111110100100110100100100010101001
def p11_14:=pth 0 111110100100110100100100010101001000
def p11_15:=pth 0 111110100100110100100100010101001001
def p11_16:=pth 0 111110100100110100100100010111
def p11_17:=pth 0 111110100100110100100100001
def p11_18:=pth 0 11111010010011010010010001
def p11_19:=pth 0 1111101001001101001001000101010
def p11_20:=pth 0 1111101001001101001001110
def p11_21:=pth 0 1111101001001101001001111
def p11_22:=pth 0 11111010010011010010011110
def p11_23:=pth 0 11111010010011010010011111
def p11_24:=pth 0 1111101001001101001001111111
def p11_25:=pth 0 11111010010011010000
def p11_26:=pth 0 11111010010011010001
def p11_27:=pth 0 1111101001001101001
def p11_28:=pth 0 111110100100110100100100
def p11_29:=pth 0 1111101001001110
def p11_30:=pth 0 1111101001001111
def p11_31:=pth 0 11111010000
def p11_32:=pth 0 11111010001
def p11_33:=pth 0 1111101001
def p11_34:=pth 0 11111010010011010
def p11_35:=pth 0 11111010
noncomputable section
abbrev bI (M:Nat→Prop) (w0:Base):Cx:=⟨Try.prog,97,M,w0⟩
abbrev q11 (M:Nat→Prop) (w0:Base) (r:(List (List aa))×Int):=bodyPost Try.prog Try.f11 (RetQ M w0 (fun v s=>v = .tup [.ref 94,iI r.2]∧look 94 s.r=some ⟨28,1,lm (eSl ab) r.1⟩))
abbrev ah (p:List Nat):Kont:=.c (cat Try.f11 p)
abbrev aY (M:Nat→Prop) (w0:Base) (r:(List (List aa))×Int) (m1:Nat):Kont:=kl (bI M w0) (q11 M w0 r) [.b 0,ah aP] (cat Try.f11 p11_1) m1
abbrev bo (M:Nat→Prop) (w0:Base) (r:(List (List aa))×Int) (m1 m2:Nat):Kont:=kl (bI M w0) (q11 M w0 r) [.b 2,ah bf,.b 1,ah ba,aY M w0 r m1,.b 0,ah aP] (cat Try.f11 p11_4) m2
abbrev cj (M:Nat→Prop) (w0:Base) (r:(List (List aa))×Int) (m2 m1 m3:Nat):Kont:=kl (bI M w0) (q11 M w0 r) [.b 4,ah bT,.b 3,ah bC,bo M w0 r m1 m2,.b 2,ah bf,.b 1,ah ba,aY M w0 r m1,.b 0,ah aP] (cat Try.f11 p11_7) m3
abbrev k11_4 (M:Nat→Prop) (w0:Base) (r:(List (List aa))×Int) (m3 m2 m1 m4:Nat):Kont:=kl (bI M w0) (q11 M w0 r) [.b 6,ah dI,.b 5,cj M w0 r m2 m1 m3,.b 4,ah bT,.b 3,ah bC,bo M w0 r m1 m2,.b 2,ah bf,.b 1,ah ba,aY M w0 r m1,.b 0,ah aP] (cat Try.f11 p11_9) m4
def s11_j1 (v1:List (List (V2 Int))) (v98:Int) (v99:List aa) (v100:List (List aa)) (v143 v145:Int) (v146:List aa) (v155 v160:Int) (v162:Bool):AS:=⟨[(0,.sl (lm (eSl (eV2 (eInt .i64))) v1)),(4,.ref 94),(5,.ref 90),(6,iI v143),(7,iI v98),(8,.ref 87),(9,iI v155),(10,iI v145),(11,.bool v162),(12,iI v160)],[],[(87,⟨30,4,lm ab v146⟩),(90,⟨30,4,lm ab v99⟩),(94,⟨28,1,lm (eSl ab) v100⟩)],[87,90,94]⟩
def s11_j3 (v1:List (List (V2 Int))) (v98:Int) (v99:List aa) (v100:List (List aa)) (v143 v145:Int) (v146:List aa) (v159:Bool) (v163:Int):AS:=⟨[(0,.sl (lm (eSl (eV2 (eInt .i64))) v1)),(4,.ref 94),(5,.ref 90),(6,iI v143),(7,iI v98),(8,.ref 87),(9,iI v163),(10,iI v145),(11,.bool v159)],[],[(87,⟨30,4,lm ab v146⟩),(90,⟨30,4,lm ab v99⟩),(94,⟨28,1,lm (eSl ab) v100⟩)],[87,90,94]⟩
def s11_l2 (v1:List (List (V2 Int))) (v98:Int) (v99:List aa) (v100:List (List aa)) (v143 v145:Int) (v146:List aa) (v155:Int) (v159:Bool) (v160:Int):AS:=⟨[(0,.sl (lm (eSl (eV2 (eInt .i64))) v1)),(4,.ref 94),(5,.ref 90),(6,iI v143),(7,iI v98),(8,.ref 87),(9,iI v155),(10,iI v145),(11,.bool v159),(12,iI v160)],[],[(87,⟨30,4,lm ab v146⟩),(90,⟨30,4,lm ab v99⟩),(94,⟨28,1,lm (eSl ab) v100⟩)],[87,90,94]⟩
def s11_l4 (v1:List (List (V2 Int))) (v98:Int) (v99:List aa) (v100:List (List aa)) (v143 v145:Int) (v146:List aa) (v155:Int) (v156:Bool):AS:=⟨[(0,.sl (lm (eSl (eV2 (eInt .i64))) v1)),(4,.ref 94),(5,.ref 90),(6,iI v143),(7,iI v98),(8,.ref 87),(9,iI v155),(10,iI v145),(11,.bool v156)],[],[(87,⟨30,4,lm ab v146⟩),(90,⟨30,4,lm ab v99⟩),(94,⟨28,1,lm (eSl ab) v100⟩)],[87,90,94]⟩
def s11_l5 (v1:List (List (V2 Int))) (v98:Int) (v99:List aa) (v100:List (List aa)) (v143 v144 v145:Int) (v146:List aa):AS:=⟨[(0,.sl (lm (eSl (eV2 (eInt .i64))) v1)),(4,.ref 94),(5,.ref 90),(6,iI v143),(7,iI v98),(8,.ref 87),(9,iI v144),(10,iI v145)],[],[(87,⟨30,4,lm ab v146⟩),(90,⟨30,4,lm ab v99⟩),(94,⟨28,1,lm (eSl ab) v100⟩)],[87,90,94]⟩
def s11_l6 (v1:List (List (V2 Int))) (v97 v98:Int) (v99:List aa) (v100:List (List aa)):AS:=⟨[(0,.sl (lm (eSl (eV2 (eInt .i64))) v1)),(4,.ref 94),(5,.ref 90),(6,iI v97),(7,iI v98)],[],[(90,⟨30,4,lm ab v99⟩),(94,⟨28,1,lm (eSl ab) v100⟩)],[90,94]⟩
abbrev cb (M:Nat→Prop) (w0:Base) (r:(List (List aa))×Int) (v1:List (List (V2 Int))) (m1:Nat) (L1:Int→Int→(List aa)→(List (List aa))→Option ((List (List aa))×Int)):Prop:=∀ {v97:Int} {v98:Int} {v99:(List aa)} {v100:(List (List aa))},L1 v97 v98 v99 v100=some r→LP (bI M w0) (q11 M w0 r) [.b 0,ah aP] (cat Try.f11 p11_1) m1 (s11_l6 v1 v97 v98 v99 v100)
abbrev cM (M:Nat→Prop) (w0:Base) (r:(List (List aa))×Int) (v1:List (List (V2 Int))) (v98:Int) (v99:List aa) (v100:List (List aa)) (m1 m2:Nat) (L2:Int→Int→Int→(List aa)→Option ((List (List aa))×Int)):Prop:=∀ {v143:Int} {v144:Int} {v145:Int} {v146:(List aa)},L2 v143 v144 v145 v146=some r→LP (bI M w0) (q11 M w0 r) [.b 2,ah bf,.b 1,ah ba,aY M w0 r m1,.b 0,ah aP] (cat Try.f11 p11_4) m2 (s11_l5 v1 v98 v99 v100 v143 v144 v145 v146)
abbrev dV (M:Nat→Prop) (w0:Base) (r:(List (List aa))×Int) (v1:List (List (V2 Int))) (v98:Int) (v99:List aa) (v100:List (List aa)) (v143 v145:Int) (v146:List aa) (m2 m1 m3:Nat) (L3:Int→Bool→Option ((List (List aa))×Int)):Prop:=∀ {v155:Int} {v156:Bool},L3 v155 v156=some r→LP (bI M w0) (q11 M w0 r) [.b 4,ah bT,.b 3,ah bC,bo M w0 r m1 m2,.b 2,ah bf,.b 1,ah ba,aY M w0 r m1,.b 0,ah aP] (cat Try.f11 p11_7) m3 (s11_l4 v1 v98 v99 v100 v143 v145 v146 v155 v156)
abbrev H11_4 (M:Nat→Prop) (w0:Base) (r:(List (List aa))×Int) (v1:List (List (V2 Int))) (v98:Int) (v99:List aa) (v100:List (List aa)) (v143 v145:Int) (v146:List aa) (v155:Int) (m3 m2 m1 m4:Nat) (L4:Bool→Int→Option ((List (List aa))×Int)):Prop:=∀ {v159:Bool} {v160:Int},L4 v159 v160=some r→LP (bI M w0) (q11 M w0 r) [.b 6,ah dI,.b 5,cj M w0 r m2 m1 m3,.b 4,ah bT,.b 3,ah bC,bo M w0 r m1 m2,.b 2,ah bf,.b 1,ah ba,aY M w0 r m1,.b 0,ah aP] (cat Try.f11 p11_9) m4 (s11_l2 v1 v98 v99 v100 v143 v145 v146 v155 v159 v160)
variable {K:Kn} {n:Nat} {M:Nat→Prop} {w0:Base} {r:(List (List aa))×Int} {v1:List (List (V2 Int))} {v97 v98:Int} {v99:List aa} {v100:List (List aa)} {v143 v144 v145:Int} {v146:List aa} {v155:Int} {v156 v159:Bool} {v160:Int} {v162:Bool} {v163:Int} {m1:Nat} {L1:Int→Int→(List aa)→(List (List aa))→Option ((List (List aa))×Int)} {m2:Nat} {L2:Int→Int→Int→(List aa)→Option ((List (List aa))×Int)} {m3:Nat} {L3:Int→Bool→Option ((List (List aa))×Int)} {m4:Nat} {L4:Bool→Int→Option ((List (List aa))×Int)}
theorem ir (hK:KnOk K) (hL1:cb M w0 r v1 m1 L1) (hL2:cM M w0 r v1 v98 v99 v100 m1 m2 L2) (hL3:dV M w0 r v1 v98 v99 v100 v143 v145 v146 m2 m1 m3 L3) (hL4:H11_4 M w0 r v1 v98 v99 v100 v143 v145 v146 v155 m3 m2 m1 m4 L4) (h:d8 K n v1 v98 v99 v100 v143 v145 v146 v155 v160 L1 L2 L3 L4 v162=some r):VE (bI M w0) (q11 M w0 r) [.b 7,ah p11_10,k11_4 M w0 r m3 m2 m1 m4,.b 6,ah dI,.b 5,cj M w0 r m2 m1 m3,.b 4,ah bT,.b 3,ah bC,bo M w0 r m1 m2,.b 2,ah bf,.b 1,ah ba,aY M w0 r m1,.b 0,ah aP] .normal (s11_j1 v1 v98 v99 v100 v143 v145 v146 v155 v160 v162):=by
  unfold d8 at h
  exact aj 2 (aJ (hL4 h))
theorem ik (hK:KnOk K) (hL1:cb M w0 r v1 m1 L1) (hL2:cM M w0 r v1 v98 v99 v100 m1 m2 L2) (hL3:dV M w0 r v1 v98 v99 v100 v143 v145 v146 m2 m1 m3 L3) (h:ep K n v1 v98 v99 v100 v143 v145 v146 v159 L1 L2 L3 v163=some r):VE (bI M w0) (q11 M w0 r) [.b 5,cj M w0 r m2 m1 m3,.b 4,ah bT,.b 3,ah bC,bo M w0 r m1 m2,.b 2,ah bf,.b 1,ah ba,aY M w0 r m1,.b 0,ah aP] .normal (s11_j3 v1 v98 v99 v100 v143 v145 v146 v159 v163):=by
  unfold ep at h
  exact aj 1 (aJ (hL3 h))
theorem iM (hK:KnOk K) (hL1:cb M w0 r v1 m1 L1) (hL2:cM M w0 r v1 v98 v99 v100 m1 m2 L2) (hL3:dV M w0 r v1 v98 v99 v100 v143 v145 v146 m2 m1 m3 L3) (hL4:H11_4 M w0 r v1 v98 v99 v100 v143 v145 v146 v155 m3 m2 m1 m4 L4) (h:eu K n v1 v98 v99 v100 v143 v145 v146 v155 L1 L2 L3 L4 v159 v160=some r):VE (bI M w0) (q11 M w0 r) [ah p11_9,k11_4 M w0 r m3 m2 m1 m4,.b 6,ah dI,.b 5,cj M w0 r m2 m1 m3,.b 4,ah bT,.b 3,ah bC,bo M w0 r m1 m2,.b 2,ah bf,.b 1,ah ba,aY M w0 r m1,.b 0,ah aP] .normal (s11_l2 v1 v98 v99 v100 v143 v145 v146 v155 v159 v160):=by
  unfold eu at h
  refine ag (ks':=[ah p11_11,ah p11_12,ah p11_13,k11_4 M w0 r m3 m2 m1 m4,.b 6,ah dI,.b 5,cj M w0 r m2 m1 m3,.b 4,ah bT,.b 3,ah bC,bo M w0 r m1 m2,.b 2,ah bf,.b 1,ah ba,aY M w0 r m1,.b 0,ah aP]) 2 (ao 2 (ap (aA ab v99) (ak ?_)))
  rcases au h with ⟨h225,h⟩ | ⟨h225,h⟩
  ·
   refine ai 34 h225 (ag (ks':=[ah p11_14,ah p11_15,.b 7,ah p11_10,k11_4 M w0 r m3 m2 m1 m4,.b 6,ah dI,.b 5,cj M w0 r m2 m1 m3,.b 4,ah bT,.b 3,ah bC,bo M w0 r m1 m2,.b 2,ah bf,.b 1,ah ba,aY M w0 r m1,.b 0,ah aP]) 5 (ao 2 ?_))
   obtain ⟨h226,h⟩:=aq h
   refine ap (bd 90 4 ab h226) (ap (aD 30 0 ab ab (ay h226).2 (fun _=>rfl)) (aL 6 2 ?_))
   obtain ⟨v161,h227,h⟩:=bind_some h
   refine bM (jc hK h227) (ak ?_)
   rcases au h with ⟨h228,h⟩ | ⟨h228,h⟩
   ·
    exact ai 43 h228 (aj 2 (ir hK hL1 hL2 hL3 hL4 h))
   ·
    exact ai 43 h228 (aj 2 (ir hK hL1 hL2 hL3 hL4 h))
  ·
   refine ai 34 h225 (ag (ks':=[ah p11_16,.b 5,cj M w0 r m2 m1 m3,.b 4,ah bT,.b 3,ah bC,bo M w0 r m1 m2,.b 2,ah bf,.b 1,ah ba,aY M w0 r m1,.b 0,ah aP]) 7 ?_)
   rcases au h with ⟨h229,h⟩ | ⟨h229,h⟩
   ·
    exact ai 45 h229 (aj 2 (ik hK hL1 hL2 hL3 h))
   ·
    exact ai 45 h229 (aj 2 (ik hK hL1 hL2 hL3 h))
theorem jK (hK:KnOk K) (hL1:cb M w0 r v1 m1 L1) (hL2:cM M w0 r v1 v98 v99 v100 m1 m2 L2) (hL3:dV M w0 r v1 v98 v99 v100 v143 v145 v146 m2 m1 m3 L3) (m:Nat):H11_4 M w0 r v1 v98 v99 v100 v143 v145 v146 v155 m3 m2 m1 m (dQ K n v1 v98 v99 v100 v143 v145 v146 v155 L1 L2 L3 m):=by
  induction m with
 | zero=>intro v159 v160 h; cases h
 | succ m ih=>intro v159 v160 h; have h:eu K n v1 v98 v99 v100 v143 v145 v146 v155 L1 L2 L3 (dQ K n v1 v98 v99 v100 v143 v145 v146 v155 L1 L2 L3 m) v159 v160=some r:=h; exact aK (iM hK hL1 hL2 hL3 ih h)
theorem i8 (hK:KnOk K) (hL1:cb M w0 r v1 m1 L1) (hL2:cM M w0 r v1 v98 v99 v100 m1 m2 L2) (hL3:dV M w0 r v1 v98 v99 v100 v143 v145 v146 m2 m1 m3 L3) (h:dG K n v1 v98 v99 v100 v143 v145 v146 L1 L2 L3 v155 v156=some r):VE (bI M w0) (q11 M w0 r) [ah p11_7,cj M w0 r m2 m1 m3,.b 4,ah bT,.b 3,ah bC,bo M w0 r m1 m2,.b 2,ah bf,.b 1,ah ba,aY M w0 r m1,.b 0,ah aP] .normal (s11_l4 v1 v98 v99 v100 v143 v145 v146 v155 v156):=by
  unfold dG at h
  refine ag (ks':=[ah p11_17,ah p11_18,cj M w0 r m2 m1 m3,.b 4,ah bT,.b 3,ah bC,bo M w0 r m1 m2,.b 2,ah bf,.b 1,ah ba,aY M w0 r m1,.b 0,ah aP]) 3 ?_
  rcases au h with ⟨h220,h⟩ | ⟨h220,h⟩
  ·
   exact ai 30 h220 (aj 9 (aI (p:=p11_19) n (jK hK hL1 hL2 hL3 n h)))
  ·
   refine ai 30 h220 (ag (ks':=[ah p11_20,ah p11_21,.b 3,ah bC,bo M w0 r m1 m2,.b 2,ah bf,.b 1,ah ba,aY M w0 r m1,.b 0,ah aP]) 8 (ao 2 ?_))
   obtain ⟨h230,h⟩:=aq h
   refine ap (aV (eSl (eV2 (eInt .i64))) (eSl (eV2 (eInt .i64))) h230 (fun _=>rfl) (fun _=>rfl)) (aL 5 2 ?_)
   obtain ⟨h231,h⟩:=aq h
   refine ap (aV (eV2 (eInt .i64)) (eV2 (eInt .i64)) (sz:=2) h231 (fun _=>rfl) (fun _=>rfl)) (aL 10 4 (ap (aA (eSl (eV2 (eInt .i64))) v1) (ak ?_)))
   obtain ⟨v164,h232,h⟩:=bind_some h
   have h232:=Option.some.inj h232
   refine aQ (ks':=[ah p11_22,ah p11_23,.b 3,ah bC,bo M w0 r m1 m2,.b 2,ah bf,.b 1,ah ba,aY M w0 r m1,.b 0,ah aP]) 1 ⟨[(0,.sl (lm (eSl (eV2 (eInt .i64))) v1)),(4,.ref 94),(5,.ref 90),(6,iI v143),(7,iI v98),(8,.ref 87),(9,iI v155),(10,iI v145),(13,.ptr 13 0)],[(13,ab (⟨v98,v155,v164,0⟩:aa))],[(87,⟨30,4,lm ab v146⟩),(90,⟨30,4,lm ab v99⟩),(94,⟨28,1,lm (eSl ab) v100⟩)],[13,87,90,94]⟩ ?_ (by subst h232; kernel_rfl)
   refine ao 2 ?_
   obtain ⟨h233,h⟩:=aq h
   refine ap (aV (eSl (eV2 (eInt .i64))) (eSl (eV2 (eInt .i64))) h233 (fun _=>rfl) (fun _=>rfl)) (aL 5 2 ?_)
   obtain ⟨h234,h⟩:=aq h
   refine ap (aV (eV2 (eInt .i64)) (eV2 (eInt .i64)) (sz:=2) h234 (fun _=>rfl) (fun _=>rfl)) (ak ?_)
   obtain ⟨v165,h235,h⟩:=bind_some h
   have h235:=Option.some.inj h235
   obtain ⟨v166,h236,h⟩:=bind_some h
   have h236:=Option.some.inj h236
   obtain ⟨v167,h237,h⟩:=bind_some h
   have h237:=Option.some.inj h237
   refine aQ (ks':=[ah p11_24,.b 3,ah bC,bo M w0 r m1 m2,.b 2,ah bf,.b 1,ah ba,aY M w0 r m1,.b 0,ah aP]) 4 ⟨[(0,.sl (lm (eSl (eV2 (eInt .i64))) v1)),(4,.ref 94),(5,.ref 90),(6,iI v165),(7,iI v98),(8,.ref 87),(9,iI v166),(10,iI v145),(13,.ptr 13 0)],[(13,ab (⟨v98,v155,v164,v167⟩:aa))],[(87,⟨30,4,lm ab v146⟩),(90,⟨30,4,lm ab v99⟩),(94,⟨28,1,lm (eSl ab) v100⟩)],[13,87,90,94]⟩ ?_ (by subst h237; subst h236; subst h235; kernel_rfl)
   refine ao 3 ?_
   obtain ⟨h238,h⟩:=aq h
   exact ap (dU 87 87 30 4 ab (rfl) (bK) h238) (ak (aj 2 (aJ (hL2 h))))
theorem jn (hK:KnOk K) (hL1:cb M w0 r v1 m1 L1) (hL2:cM M w0 r v1 v98 v99 v100 m1 m2 L2) (m:Nat):dV M w0 r v1 v98 v99 v100 v143 v145 v146 m2 m1 m (b5 K n v1 v98 v99 v100 v143 v145 v146 L1 L2 m):=by
  induction m with
 | zero=>intro v155 v156 h; cases h
 | succ m ih=>intro v155 v156 h; have h:dG K n v1 v98 v99 v100 v143 v145 v146 L1 L2 (b5 K n v1 v98 v99 v100 v143 v145 v146 L1 L2 m) v155 v156=some r:=h; exact aK (i8 hK hL1 hL2 ih h)
theorem iU (hK:KnOk K) (hL1:cb M w0 r v1 m1 L1) (hL2:cM M w0 r v1 v98 v99 v100 m1 m2 L2) (h:ed K n v1 v98 v99 v100 L1 L2 v143 v144 v145 v146=some r):VE (bI M w0) (q11 M w0 r) [ah p11_4,bo M w0 r m1 m2,.b 2,ah bf,.b 1,ah ba,aY M w0 r m1,.b 0,ah aP] .normal (s11_l5 v1 v98 v99 v100 v143 v144 v145 v146):=by
  unfold ed at h
  refine ag (ks':=[ah p11_25,ah p11_26,ah p11_27,bo M w0 r m1 m2,.b 2,ah bf,.b 1,ah ba,aY M w0 r m1,.b 0,ah aP]) 2 (ao 3 ?_)
  obtain ⟨h208,h⟩:=aq h
  refine ap (aV (eSl (eV2 (eInt .i64))) (eSl (eV2 (eInt .i64))) h208 (fun _=>rfl) (fun _=>rfl)) (aL 5 1 (ap (aA (eV2 (eInt .i64)) (gD v1 v98)) (ak ?_)))
  obtain ⟨v147,h209,h⟩:=bind_some h
  have h209:=Option.some.inj h209
  refine aQ (ks':=[ah p11_26,ah p11_27,bo M w0 r m1 m2,.b 2,ah bf,.b 1,ah ba,aY M w0 r m1,.b 0,ah aP]) 0 ⟨[(0,.sl (lm (eSl (eV2 (eInt .i64))) v1)),(4,.ref 94),(5,.ref 90),(6,iI v143),(7,iI v98),(8,.ref 87),(9,iI v144),(10,iI v145),(26,.bool v147)],[],[(87,⟨30,4,lm ab v146⟩),(90,⟨30,4,lm ab v99⟩),(94,⟨28,1,lm (eSl ab) v100⟩)],[87,90,94]⟩ ?_ (by subst h209; kernel_rfl)
  rcases au h with ⟨h210,h⟩ | ⟨h210,h⟩
  ·
   exact ai 26 h210 (aj 8 (aI (p:=p11_28) n (jn hK hL1 hL2 n h)))
  ·
   refine ai 26 h210 (ag (ks':=[ah p11_29,ah p11_30,.b 1,ah ba,aY M w0 r m1,.b 0,ah aP]) 6 (ao 2 (ot_f 87 ?_)))
   obtain ⟨h239,h⟩:=aq h
   refine ap (dU 90 90 30 4 ab (rfl) (bK) h239) (ak (ao 3 ?_))
   obtain ⟨h240,h⟩:=aq h
   exact ap (dU 94 94 28 1 (eSl ab) (rfl) (fun _=>rfl) h240) (ak (aj 2 (aJ (hL1 h))))
theorem ji (hK:KnOk K) (hL1:cb M w0 r v1 m1 L1) (m:Nat):cM M w0 r v1 v98 v99 v100 m1 m (cV K n v1 v98 v99 v100 L1 m):=by
  induction m with
 | zero=>intro v143 v144 v145 v146 h; cases h
 | succ m ih=>intro v143 v144 v145 v146 h; have h:ed K n v1 v98 v99 v100 L1 (cV K n v1 v98 v99 v100 L1 m) v143 v144 v145 v146=some r:=h; exact aK (iU hK hL1 ih h)
theorem jV (hK:KnOk K) (hL1:cb M w0 r v1 m1 L1) (h:eo K n v1 L1 v97 v98 v99 v100=some r):VE (bI M w0) (q11 M w0 r) [ah p11_1,aY M w0 r m1,.b 0,ah aP] .normal (s11_l6 v1 v97 v98 v99 v100):=by
  unfold eo at h
  refine ag (ks':=[ah p11_31,ah p11_32,ah p11_33,aY M w0 r m1,.b 0,ah aP]) 2 (ao 2 (ap (aA (eSl (eV2 (eInt .i64))) v1) (ak ?_)))
  rcases au h with ⟨h145,h⟩ | ⟨h145,h⟩
  ·
   exact ai 17 h145 (ag (ks':=[ah p11_34,.b 2,ah bf,.b 1,ah ba,aY M w0 r m1,.b 0,ah aP]) 12 (bG [0,4,5,6,7,8,9,10] [] [90,94] (ve_w 87 8 30 4 (aj 0 (aI (p:=p11_34) n (ji hK hL1 n h))))))
  ·
   refine ai 17 h145 (aG 8 ?_)
   cases h
   exact ci
theorem j0 (hK:KnOk K) (m:Nat):cb M w0 r v1 m (cQ K n v1 m):=by
  induction m with
 | zero=>intro v97 v98 v99 v100 h; cases h
 | succ m ih=>intro v97 v98 v99 v100 h; have h:eo K n v1 (cQ K n v1 m) v97 v98 v99 v100=some r:=h; exact aK (jV hK ih h)
theorem jY (hK:KnOk K) (h:eg K n v1=some r):ACalls Try.prog 11 [.sl (lm (eSl (eV2 (eInt .i64))) v1)] (fun v s=>v = .tup [.ref 94,iI r.2]∧look 94 s.r=some ⟨28,1,lm (eSl ab) r.1⟩):=by
  refine bn (cat Try.f11 []) Try.func11 Try.ntmps11 fun M w0=>(aU ⟨[(0,.sl (lm (eSl (eV2 (eInt .i64))) v1))],[],[],[]⟩ ?_)
  unfold eg at h
  exact ag (ks':=[ah p11_35,.b 0,ah aP]) 12 (bG [0,4,5,6,7] [] [] (ve_w 94 4 28 1 (ve_w 90 5 30 4 (aj 0 (aI (p:=p11_35) n (j0 hK n h))))))
end
def aR:=pth 9 1
def p3_1:=pth 8 10100
def cE:=pth 0 11111
def p3_3:=pth 0 11110100
def br:=pth 8 101001100111
def bi:=pth 8 10100111
def p3_6:=pth 8 101001100110100
def bZ:=pth 8 101001100110100111
def p3_8:=pth 8 101001100110100110011100
def p3_9:=pth 8 101001100110100110011100110011
def p3_10:=pth 8 101001100110100110011100111
def p3_11:=pth 8 10100110011010011001110010
def p3_12:=pth 8 10100110011010011001110011
def p3_13:=pth 8 10100110011010011001110011000
def p3_14:=pth 8 10100110011010011001110011001
def p3_15:=pth 8 101001100110100110011100110010
def p3_16:=pth 8 1010011001101001100101
def p3_17:=pth 8 101001100110100110011
def p3_18:=pth 8 1010011001101001100110
def p3_19:=pth 8 1010011001101001100111
def p3_20:=pth 8 10100110011010011001110
def p3_21:=pth 8 10100110011010010
def p3_22:=pth 8 10100110011010011
def p3_23:=pth 8 10100110011010011000
def p3_24:=pth 8 10100110011010011001
def p3_25:=pth 8 1010011001101001100100
def p3_26:=pth 8 1010010
def p3_27:=pth 8 1010011
def p3_28:=pth 8 1010011000
def p3_29:=pth 8 1010011001
def p3_30:=pth 8 101001100100
def p3_31:=pth 8 101001100101
def p3_32:=pth 8 10100110011
def p3_33:=pth 8 1010011001100
def p3_34:=pth 8 1010011001101
def p3_35:=pth 8 10100110011010
def p3_36:=pth 6 101
def p3_37:=pth 7 1
def p3_38:=pth 8 100
def p3_39:=pth 8 101
def p3_40:=pth 8 1010
def p3_41:=pth 0 1111010010
def p3_42:=pth 0 1111010011
def p3_43:=pth 0 1111010011000
def p3_44:=pth 0 1111010011001
def p3_45:=pth 0 11110100111
def p3_46:=pth 0 11110100110010
def p3_47:=pth 0 11110100110011
def p3_48:=pth 0 111110
def p3_49:=pth 5 1
def p3_50:=pth 5 10
def p3_51:=pth 6 1
def p3_52:=pth 6 100
def p3_53:=pth 0 11100
def p3_54:=pth 0 11101
def p3_55:=pth 0 111100
def p3_56:=pth 0 111101
def p3_57:=pth 0 1111010
noncomputable section
abbrev cx3 (M:Nat→Prop) (w0:Base):Cx:=⟨Try.prog,165,M,w0⟩
abbrev q3 (M:Nat→Prop) (w0:Base) (r:Bool):=bodyPost Try.prog Try.f3 (RetQ M w0 (fun v _=>v = .bool r))
abbrev cF3 (p:List Nat):Kont:=.c (cat Try.f3 p)
abbrev bc (M:Nat→Prop) (w0:Base) (r:Bool) (m2:Nat):Kont:=kl (cx3 M w0) (q3 M w0 r) [.b 2,cF3 aR] (cat Try.f3 p3_1) m2
abbrev k3_1 (M:Nat→Prop) (w0:Base) (r:Bool) (m1:Nat):Kont:=kl (cx3 M w0) (q3 M w0 r) [.b 0,cF3 cE] (cat Try.f3 p3_3) m1
abbrev bQ (M:Nat→Prop) (w0:Base) (r:Bool) (m2 m3:Nat):Kont:=kl (cx3 M w0) (q3 M w0 r) [.b 4,cF3 br,.b 3,cF3 bi,bc M w0 r m2,.b 2,cF3 aR] (cat Try.f3 p3_6) m3
abbrev k3_4 (M:Nat→Prop) (w0:Base) (r:Bool) (m3 m2 m4:Nat):Kont:=kl (cx3 M w0) (q3 M w0 r) [.b 6,.b 5,cF3 bZ,bQ M w0 r m2 m3,.b 4,cF3 br,.b 3,cF3 bi,bc M w0 r m2,.b 2,cF3 aR] (cat Try.f3 p3_8) m4
def s3_j4 (v1:List (List (V2 Int))) (v6 v7:(List (List aa))×Int) (v37:Int) (v38:List aa) (v47 v48:Int) (v49:aa) (v52:Int) (v53:Bool):AS:=⟨[(0,.sl (lm (eSl (eV2 (eInt .i64))) v1)),(6,iI v6.2),(7,.ref 1038),(9,.ref 163),(10,iI v37),(11,.sl (lm ab (gD v6.1 v37))),(13,.ptr 13 0),(51,.ref 1033),(52,iI (v6.1.length:Int)),(53,iI v37),(66,.sl (lm ab (gD v6.1 v37))),(67,iI v47),(68,iI v48),(129,.ref 163),(130,iI (v38.length:Int)),(131,iI v52),(158,.bool v53)],[(13,ab v49)],[(163,⟨30,4,lm ab v38⟩),(1033,⟨28,1,lm (eSl ab) v6.1⟩),(1038,⟨28,1,lm (eSl ab) v7.1⟩)],[13,163,1033,1038]⟩
def s3_l5 (v1:List (List (V2 Int))) (v6 v7:(List (List aa))×Int) (v37:Int) (v38:List aa) (v47 v48:Int) (v49:aa) (v52:Int):AS:=⟨[(0,.sl (lm (eSl (eV2 (eInt .i64))) v1)),(6,iI v6.2),(7,.ref 1038),(9,.ref 163),(10,iI v37),(11,.sl (lm ab (gD v6.1 v37))),(13,.ptr 13 0),(51,.ref 1033),(52,iI (v6.1.length:Int)),(53,iI v37),(66,.sl (lm ab (gD v6.1 v37))),(67,iI v47),(68,iI v48),(129,.ref 163),(130,iI (v38.length:Int)),(131,iI v52)],[(13,ab v49)],[(163,⟨30,4,lm ab v38⟩),(1033,⟨28,1,lm (eSl ab) v6.1⟩),(1038,⟨28,1,lm (eSl ab) v7.1⟩)],[13,163,1033,1038]⟩
def s3_j3 (v1:List (List (V2 Int))) (v6 v7:(List (List aa))×Int) (v37:Int) (v38:List aa) (v47 v48:Int) (v49:aa) (v50:Bool):AS:=⟨[(0,.sl (lm (eSl (eV2 (eInt .i64))) v1)),(6,iI v6.2),(7,.ref 1038),(9,.ref 163),(10,iI v37),(11,.sl (lm ab (gD v6.1 v37))),(13,.ptr 13 0),(51,.ref 1033),(52,iI (v6.1.length:Int)),(53,iI v37),(66,.sl (lm ab (gD v6.1 v37))),(67,iI v47),(68,iI v48),(128,.bool v50)],[(13,ab v49)],[(163,⟨30,4,lm ab v38⟩),(1033,⟨28,1,lm (eSl ab) v6.1⟩),(1038,⟨28,1,lm (eSl ab) v7.1⟩)],[13,163,1033,1038]⟩
def s3_l6 (v1:List (List (V2 Int))) (v6 v7:(List (List aa))×Int) (v37:Int) (v38:List aa) (v47 v48:Int):AS:=⟨[(0,.sl (lm (eSl (eV2 (eInt .i64))) v1)),(6,iI v6.2),(7,.ref 1038),(9,.ref 163),(10,iI v37),(11,.sl (lm ab (gD v6.1 v37))),(51,.ref 1033),(52,iI (v6.1.length:Int)),(53,iI v37),(66,.sl (lm ab (gD v6.1 v37))),(67,iI v47),(68,iI v48)],[],[(163,⟨30,4,lm ab v38⟩),(1033,⟨28,1,lm (eSl ab) v6.1⟩),(1038,⟨28,1,lm (eSl ab) v7.1⟩)],[163,1033,1038]⟩
def s3_l7 (v1:List (List (V2 Int))) (v6 v7:(List (List aa))×Int) (v37:Int) (v38:List aa):AS:=⟨[(0,.sl (lm (eSl (eV2 (eInt .i64))) v1)),(6,iI v6.2),(7,.ref 1038),(9,.ref 163),(51,.ref 1033),(52,iI (v6.1.length:Int)),(53,iI v37)],[],[(163,⟨30,4,lm ab v38⟩),(1033,⟨28,1,lm (eSl ab) v6.1⟩),(1038,⟨28,1,lm (eSl ab) v7.1⟩)],[163,1033,1038]⟩
def s3_j2 (v1:List (List (V2 Int))) (v6 v7:(List (List aa))×Int) (v8:Bool):AS:=⟨[(0,.sl (lm (eSl (eV2 (eInt .i64))) v1)),(5,.ref 1033),(6,iI v6.2),(7,.ref 1038),(50,.bool v8)],[],[(1033,⟨28,1,lm (eSl ab) v6.1⟩),(1038,⟨28,1,lm (eSl ab) v7.1⟩)],[1033,1038]⟩
def s3_l1 (v1:List (List (V2 Int))) (v4:Int):AS:=⟨[(0,.sl (lm (eSl (eV2 (eInt .i64))) v1)),(21,.sl (lm (eSl (eV2 (eInt .i64))) v1)),(22,iI (v1.length:Int)),(23,iI v4)],[],[],[]⟩
abbrev H3_1 (M:Nat→Prop) (w0:Base) (r:Bool) (v1:List (List (V2 Int))) (m1:Nat) (L1:Int→Option Bool):Prop:=∀ {v4:Int},L1 v4=some r→LP (cx3 M w0) (q3 M w0 r) [.b 0,cF3 cE] (cat Try.f3 p3_3) m1 (s3_l1 v1 v4)
abbrev cN (M:Nat→Prop) (w0:Base) (r:Bool) (v1:List (List (V2 Int))) (v6 v7:(List (List aa))×Int) (m2:Nat) (L2:Int→(List aa)→Option Bool):Prop:=∀ {v37:Int} {v38:(List aa)},L2 v37 v38=some r→LP (cx3 M w0) (q3 M w0 r) [.b 2,cF3 aR] (cat Try.f3 p3_1) m2 (s3_l7 v1 v6 v7 v37 v38)
abbrev H3_3 (M:Nat→Prop) (w0:Base) (r:Bool) (v1:List (List (V2 Int))) (v6 v7:(List (List aa))×Int) (v37:Int) (v38:List aa) (m2 m3:Nat) (L3:Int→Int→Option Bool):Prop:=∀ {v47:Int} {v48:Int},L3 v47 v48=some r→LP (cx3 M w0) (q3 M w0 r) [.b 4,cF3 br,.b 3,cF3 bi,bc M w0 r m2,.b 2,cF3 aR] (cat Try.f3 p3_6) m3 (s3_l6 v1 v6 v7 v37 v38 v47 v48)
abbrev H3_4 (M:Nat→Prop) (w0:Base) (r:Bool) (v1:List (List (V2 Int))) (v6 v7:(List (List aa))×Int) (v37:Int) (v38:List aa) (v47 v48:Int) (v49:aa) (m3 m2 m4:Nat) (L4:Int→Option Bool):Prop:=∀ {v52:Int},L4 v52=some r→LP (cx3 M w0) (q3 M w0 r) [.b 6,.b 5,cF3 bZ,bQ M w0 r m2 m3,.b 4,cF3 br,.b 3,cF3 bi,bc M w0 r m2,.b 2,cF3 aR] (cat Try.f3 p3_8) m4 (s3_l5 v1 v6 v7 v37 v38 v47 v48 v49 v52)
variable {K:Kn} {n:Nat} {M:Nat→Prop} {w0:Base} {r:Bool} {v1:List (List (V2 Int))} {v4:Int} {v6 v7:(List (List aa))×Int} {v8:Bool} {v37:Int} {v38:List aa} {v47 v48:Int} {v49:aa} {v50:Bool} {v52:Int} {v53:Bool} {m1:Nat} {L1:Int→Option Bool} {m2:Nat} {L2:Int→(List aa)→Option Bool} {m3:Nat} {L3:Int→Int→Option Bool} {m4:Nat} {L4:Int→Option Bool}
theorem gP (hK:KnOk K) (hL2:cN M w0 r v1 v6 v7 m2 L2) (hL3:H3_3 M w0 r v1 v6 v7 v37 v38 m2 m3 L3) (hL4:H3_4 M w0 r v1 v6 v7 v37 v38 v47 v48 v49 m3 m2 m4 L4) (h:cU K n v1 v6 v7 v37 v38 v47 v48 v49 v52 L2 L3 L4 v53=some r):VE (cx3 M w0) (q3 M w0 r) [cF3 p3_9,.b 7,cF3 p3_10,k3_4 M w0 r m3 m2 m4,.b 6,.b 5,cF3 bZ,bQ M w0 r m2 m3,.b 4,cF3 br,.b 3,cF3 bi,bc M w0 r m2,.b 2,cF3 aR] .normal (s3_j4 v1 v6 v7 v37 v38 v47 v48 v49 v52 v53):=by
  unfold cU at h
  rcases au h with ⟨h151,h⟩ | ⟨h151,h⟩
  ·
   refine ai 158 h151 (aG 18 ?_)
   cases h
   exact aX
  ·
   exact ai 158 h151 (aj 4 (aJ (hL4 h)))
theorem jW (hK:KnOk K) (hL2:cN M w0 r v1 v6 v7 m2 L2) (hL3:H3_3 M w0 r v1 v6 v7 v37 v38 m2 m3 L3) (hL4:H3_4 M w0 r v1 v6 v7 v37 v38 v47 v48 v49 m3 m2 m4 L4) (h:d4 K n v1 v6 v7 v37 v38 v47 v48 v49 L2 L3 L4 v52=some r):VE (cx3 M w0) (q3 M w0 r) [cF3 p3_8,k3_4 M w0 r m3 m2 m4,.b 6,.b 5,cF3 bZ,bQ M w0 r m2 m3,.b 4,cF3 br,.b 3,cF3 bi,bc M w0 r m2,.b 2,cF3 aR] .normal (s3_l5 v1 v6 v7 v37 v38 v47 v48 v49 v52):=by
  unfold d4 at h
  refine ag (ks':=[cF3 p3_11,cF3 p3_12,k3_4 M w0 r m3 m2 m4,.b 6,.b 5,cF3 bZ,bQ M w0 r m2 m3,.b 4,cF3 br,.b 3,cF3 bi,bc M w0 r m2,.b 2,cF3 aR]) 3 ?_
  rcases au h with ⟨h147,h⟩ | ⟨h147,h⟩
  ·
   refine ai 132 h147 (ag (ks':=[cF3 p3_13,cF3 p3_14,.b 7,cF3 p3_10,k3_4 M w0 r m3 m2 m4,.b 6,.b 5,cF3 bZ,bQ M w0 r m2 m3,.b 4,cF3 br,.b 3,cF3 bi,bc M w0 r m2,.b 2,cF3 aR]) 5 (ao 0 ?_))
   obtain ⟨h148,h⟩:=aq h
   refine ap (bd 163 4 ab h148) (ap (aD 30 0 ab ab (ay h148).2 (fun _=>rfl)) (ak (ag (ks':=[cF3 p3_15,cF3 p3_9,.b 7,cF3 p3_10,k3_4 M w0 r m3 m2 m4,.b 6,.b 5,cF3 bZ,bQ M w0 r m2 m3,.b 4,cF3 br,.b 3,cF3 bi,bc M w0 r m2,.b 2,cF3 aR]) 1 (ao 8 ?_))))
   rcases au h with ⟨h149,h⟩ | ⟨h149,h⟩
   ·
    refine aM 142 h149 (aL 15 7 ?_)
    rcases au h with ⟨h150,h⟩ | ⟨h150,h⟩
    ·
     exact aM 149 h150 (ak (aj 0 (gP hK hL2 hL3 hL4 h)))
    ·
     exact aM 149 h150 (ak (aj 0 (gP hK hL2 hL3 hL4 h)))
   ·
    exact aM 142 h149 (ak (aj 0 (gP hK hL2 hL3 hL4 h)))
  ·
   exact ai 132 h147 (aj 7 (aJ (hL3 h)))
theorem jm (hK:KnOk K) (hL2:cN M w0 r v1 v6 v7 m2 L2) (hL3:H3_3 M w0 r v1 v6 v7 v37 v38 m2 m3 L3) (m:Nat):H3_4 M w0 r v1 v6 v7 v37 v38 v47 v48 v49 m3 m2 m (dc K n v1 v6 v7 v37 v38 v47 v48 v49 L2 L3 m):=by
  induction m with
 | zero=>intro v52 h; cases h
 | succ m ih=>intro v52 h; have h:d4 K n v1 v6 v7 v37 v38 v47 v48 v49 L2 L3 (dc K n v1 v6 v7 v37 v38 v47 v48 v49 L2 L3 m) v52=some r:=h; exact aK (jW hK hL2 hL3 ih h)
theorem dv (hK:KnOk K) (hL2:cN M w0 r v1 v6 v7 m2 L2) (hL3:H3_3 M w0 r v1 v6 v7 v37 v38 m2 m3 L3) (h:ch K n v1 v6 v7 v37 v38 v47 v48 v49 L2 L3 v50=some r):VE (cx3 M w0) (q3 M w0 r) [cF3 p3_16,cF3 p3_17,.b 5,cF3 bZ,bQ M w0 r m2 m3,.b 4,cF3 br,.b 3,cF3 bi,bc M w0 r m2,.b 2,cF3 aR] .normal (s3_j3 v1 v6 v7 v37 v38 v47 v48 v49 v50):=by
  unfold ch at h
  rcases au h with ⟨h141,h⟩ | ⟨h141,h⟩
  ·
   refine ai 128 h141 (aG 15 ?_)
   cases h
   exact aX
  ·
   exact ai 128 h141 (ag (ks':=[cF3 p3_18,cF3 p3_19,.b 5,cF3 bZ,bQ M w0 r m2 m3,.b 4,cF3 br,.b 3,cF3 bi,bc M w0 r m2,.b 2,cF3 aR]) 3 (ao 1 (ap (aA ab v38) (ak (aj 1 (aI (p:=p3_20) n (jm hK hL2 hL3 n h)))))))
theorem jJ (hK:KnOk K) (hL2:cN M w0 r v1 v6 v7 m2 L2) (hL3:H3_3 M w0 r v1 v6 v7 v37 v38 m2 m3 L3) (h:ez K n v1 v6 v7 v37 v38 L2 L3 v47 v48=some r):VE (cx3 M w0) (q3 M w0 r) [cF3 p3_6,bQ M w0 r m2 m3,.b 4,cF3 br,.b 3,cF3 bi,bc M w0 r m2,.b 2,cF3 aR] .normal (s3_l6 v1 v6 v7 v37 v38 v47 v48):=by
  unfold ez at h
  refine ag (ks':=[cF3 p3_21,cF3 p3_22,bQ M w0 r m2 m3,.b 4,cF3 br,.b 3,cF3 bi,bc M w0 r m2,.b 2,cF3 aR]) 3 ?_
  rcases au h with ⟨h129,h⟩ | ⟨h129,h⟩
  ·
   refine ai 69 h129 (ag (ks':=[cF3 p3_23,cF3 p3_24,.b 5,cF3 bZ,bQ M w0 r m2 m3,.b 4,cF3 br,.b 3,cF3 bi,bc M w0 r m2,.b 2,cF3 aR]) 5 (ao 1 ?_))
   obtain ⟨h130,h⟩:=aq h
   refine ap (aV ab ab h130 (bK) (fun _=>rfl)) (ak ?_)
   obtain ⟨v49,h131,h⟩:=bind_some h
   have h131:=Option.some.inj h131
   refine aQ (ks':=[cF3 p3_25,cF3 p3_16,cF3 p3_17,.b 5,cF3 bZ,bQ M w0 r m2 m3,.b 4,cF3 br,.b 3,cF3 bi,bc M w0 r m2,.b 2,cF3 aR]) 2 ⟨[(0,.sl (lm (eSl (eV2 (eInt .i64))) v1)),(6,iI v6.2),(7,.ref 1038),(9,.ref 163),(10,iI v37),(11,.sl (lm ab (gD v6.1 v37))),(12,iI v48),(13,.ptr 13 0),(51,.ref 1033),(52,iI (v6.1.length:Int)),(53,iI v37),(66,.sl (lm ab (gD v6.1 v37))),(67,iI v47),(68,iI v48)],[(13,ab v49)],[(163,⟨30,4,lm ab v38⟩),(1033,⟨28,1,lm (eSl ab) v6.1⟩),(1038,⟨28,1,lm (eSl ab) v7.1⟩)],[13,163,1033,1038]⟩ ?_ (by subst h131; kernel_rfl)
   obtain ⟨h132,h⟩:=aq h
   obtain ⟨h133,h⟩:=aq h
   rcases au h with ⟨h134,h⟩ | ⟨h134,h⟩
   ·
    exact bk 0 (nu 73 [.agg (ab v49),.ref 1038,iI v37,.eptr 1038 1 (v37.toNat) 0,.sl (lm ab (gD v7.1 v37)),iI v48,.cptr (ab (gD (gD v7.1 v37) v48)),.agg (ab (gD (gD v7.1 v37) v48)),.bool (!(bw v49 (gD (gD v7.1 v37) v48))),.bool true,.tup [],.tup [],.tup [],.tup [],.bool true,.bool true,.tup [],.tup [],.tup [],.tup [],.tup [],.tup [],.tup [],.tup [],.bool true,.bool true,.tup [],.tup [],.tup [],.tup [],.tup [],.tup [],.tup [],.bool true,.bool true,.tup [],.tup [],.tup [],.tup [],.tup [],.tup [],.tup [],.tup [],.tup [],.tup [],.tup [],.tup [],.tup [],.tup [],.tup [],.tup [],.tup [],.tup [],.tup [],.tup [],.bool true]) [] [] [] (av (vz 3) (d_v (aB 1038 1 (eSl ab) (L:=v7.1) h132) (d_v (aD 28 0 (eSl ab) (eSl ab) (ay h132).2 (fun _=>rfl)) (av [.v 0 1] (d_v (aV ab ab h133 (bK) (fun _=>rfl)) (av (vz 2) (ac (e_b 0 82 (e:=(!(bw v49 (gD (gD v7.1 v37) v48)))) (b:=true) h134) (ac (af 0 1) (ac (af 0 1) (ac (af 0 1) (ac (af 0 1) (av (vz 2) (ac (af 0 1) (ac (af 0 1) (ac (af 0 1) (ac (af 0 1) (ac (af 0 1) (ac (af 0 1) (ac (af 0 1) (ac (af 0 1) (av (vz 2) (ac (af 0 1) (ac (af 0 1) (ac (af 0 1) (ac (af 0 1) (ac (af 0 1) (ac (af 0 1) (ac (af 0 1) (av (vz 2) (ac (af 0 1) (ac (af 0 1) (ac (af 0 1) (ac (af 0 1) (ac (af 0 1) (ac (af 0 1) (ac (af 0 1) (ac (af 0 1) (ac (af 0 1) (ac (af 0 1) (ac (af 0 1) (ac (af 0 1) (ac (af 0 1) (ac (af 0 1) (ac (af 0 1) (ac (af 0 1) (ac (af 0 1) (ac (af 0 1) (ac (af 0 1) (ac (af 0 1) (av [.v 0 1] bh)))))))))))))))))))))))))))))))))))))))))))))))))) (aj 0 (dv hK hL2 hL3 h))
   ·
    rcases au h with ⟨h135,h⟩ | ⟨h135,h⟩
    ·
     exact bk 0 (nu 73 [.agg (ab v49),.ref 1038,iI v37,.eptr 1038 1 (v37.toNat) 0,.sl (lm ab (gD v7.1 v37)),iI v48,.cptr (ab (gD (gD v7.1 v37) v48)),.agg (ab (gD (gD v7.1 v37) v48)),.bool (!(bw v49 (gD (gD v7.1 v37) v48))),.bool false,.ptr 13 0,iI v49.Row,iI v37,.bool (v49.Row != v37),.bool (v49.Row != v37),.bool true,.tup [],.tup [],.tup [],.tup [],.tup [],.tup [],.tup [],.tup [],.bool true,.bool true,.tup [],.tup [],.tup [],.tup [],.tup [],.tup [],.tup [],.bool true,.bool true,.tup [],.tup [],.tup [],.tup [],.tup [],.tup [],.tup [],.tup [],.tup [],.tup [],.tup [],.tup [],.tup [],.tup [],.tup [],.tup [],.tup [],.tup [],.tup [],.tup [],.bool true]) [] [] [] (av (vz 3) (d_v (aB 1038 1 (eSl ab) (L:=v7.1) h132) (d_v (aD 28 0 (eSl ab) (eSl ab) (ay h132).2 (fun _=>rfl)) (av [.v 0 1] (d_v (aV ab ab h133 (bK) (fun _=>rfl)) (av (vz 2) (ac (e_b 0 82 (e:=(!(bw v49 (gD (gD v7.1 v37) v48)))) (b:=false) h134) (av (vz 5) (ac (e_b 0 88 (e:=(v49.Row != v37)) (b:=true) h135) (ac (af 0 1) (ac (af 0 1) (ac (af 0 1) (ac (af 0 1) (ac (af 0 1) (ac (af 0 1) (ac (af 0 1) (ac (af 0 1) (av (vz 2) (ac (af 0 1) (ac (af 0 1) (ac (af 0 1) (ac (af 0 1) (ac (af 0 1) (ac (af 0 1) (ac (af 0 1) (av (vz 2) (ac (af 0 1) (ac (af 0 1) (ac (af 0 1) (ac (af 0 1) (ac (af 0 1) (ac (af 0 1) (ac (af 0 1) (ac (af 0 1) (ac (af 0 1) (ac (af 0 1) (ac (af 0 1) (ac (af 0 1) (ac (af 0 1) (ac (af 0 1) (ac (af 0 1) (ac (af 0 1) (ac (af 0 1) (ac (af 0 1) (ac (af 0 1) (ac (af 0 1) (av [.v 0 1] bh))))))))))))))))))))))))))))))))))))))))))))))) (aj 0 (dv hK hL2 hL3 h))
    ·
     rcases au h with ⟨h136,h⟩ | ⟨h136,h⟩
     ·
      exact bk 0 (nu 73 [.agg (ab v49),.ref 1038,iI v37,.eptr 1038 1 (v37.toNat) 0,.sl (lm ab (gD v7.1 v37)),iI v48,.cptr (ab (gD (gD v7.1 v37) v48)),.agg (ab (gD (gD v7.1 v37) v48)),.bool (!(bw v49 (gD (gD v7.1 v37) v48))),.bool false,.ptr 13 0,iI v49.Row,iI v37,.bool (v49.Row != v37),.bool (v49.Row != v37),.bool false,.ptr 13 0,iI v49.Row,.ptr 13 2,iI v49.Rows,iI (w64 (v49.Row+v49.Rows)),.sl (lm (eSl (eV2 (eInt .i64))) v1),iI (v1.length:Int),.bool (decide ((w64 (v49.Row+v49.Rows))>(v1.length:Int))),.bool (decide ((w64 (v49.Row+v49.Rows))>(v1.length:Int))),.bool true,.tup [],.tup [],.tup [],.tup [],.tup [],.tup [],.tup [],.bool true,.bool true,.tup [],.tup [],.tup [],.tup [],.tup [],.tup [],.tup [],.tup [],.tup [],.tup [],.tup [],.tup [],.tup [],.tup [],.tup [],.tup [],.tup [],.tup [],.tup [],.tup [],.bool true]) [] [] [] (av (vz 3) (d_v (aB 1038 1 (eSl ab) (L:=v7.1) h132) (d_v (aD 28 0 (eSl ab) (eSl ab) (ay h132).2 (fun _=>rfl)) (av [.v 0 1] (d_v (aV ab ab h133 (bK) (fun _=>rfl)) (av (vz 2) (ac (e_b 0 82 (e:=(!(bw v49 (gD (gD v7.1 v37) v48)))) (b:=false) h134) (av (vz 5) (ac (e_b 0 88 (e:=(v49.Row != v37)) (b:=false) h135) (av (vz 6) (d_v (aA (eSl (eV2 (eInt .i64))) v1) (av (vz 2) (ac (e_b 0 98 (e:=(decide ((w64 (v49.Row+v49.Rows))>(v1.length:Int)))) (b:=true) h136) (ac (af 0 1) (ac (af 0 1) (ac (af 0 1) (ac (af 0 1) (ac (af 0 1) (ac (af 0 1) (ac (af 0 1) (av (vz 2) (ac (af 0 1) (ac (af 0 1) (ac (af 0 1) (ac (af 0 1) (ac (af 0 1) (ac (af 0 1) (ac (af 0 1) (ac (af 0 1) (ac (af 0 1) (ac (af 0 1) (ac (af 0 1) (ac (af 0 1) (ac (af 0 1) (ac (af 0 1) (ac (af 0 1) (ac (af 0 1) (ac (af 0 1) (ac (af 0 1) (ac (af 0 1) (ac (af 0 1) (av [.v 0 1] bh)))))))))))))))))))))))))))))))))))))))))) (aj 0 (dv hK hL2 hL3 h))
     ·
      rcases au h with ⟨h137,h⟩ | ⟨h137,h⟩
      ·
       exact bk 0 (nu 73 [.agg (ab v49),.ref 1038,iI v37,.eptr 1038 1 (v37.toNat) 0,.sl (lm ab (gD v7.1 v37)),iI v48,.cptr (ab (gD (gD v7.1 v37) v48)),.agg (ab (gD (gD v7.1 v37) v48)),.bool (!(bw v49 (gD (gD v7.1 v37) v48))),.bool false,.ptr 13 0,iI v49.Row,iI v37,.bool (v49.Row != v37),.bool (v49.Row != v37),.bool false,.ptr 13 0,iI v49.Row,.ptr 13 2,iI v49.Rows,iI (w64 (v49.Row+v49.Rows)),.sl (lm (eSl (eV2 (eInt .i64))) v1),iI (v1.length:Int),.bool (decide ((w64 (v49.Row+v49.Rows))>(v1.length:Int))),.bool (decide ((w64 (v49.Row+v49.Rows))>(v1.length:Int))),.bool false,.ptr 13 1,iI v49.Col,.ptr 13 3,iI v49.Cols,iI (w64 (v49.Col+v49.Cols)),iI v6.2,.bool (decide ((w64 (v49.Col+v49.Cols))>v6.2)),.bool (decide ((w64 (v49.Col+v49.Cols))>v6.2)),.bool true,.tup [],.tup [],.tup [],.tup [],.tup [],.tup [],.tup [],.tup [],.tup [],.tup [],.tup [],.tup [],.tup [],.tup [],.tup [],.tup [],.tup [],.tup [],.tup [],.tup [],.bool true]) [] [] [] (av (vz 3) (d_v (aB 1038 1 (eSl ab) (L:=v7.1) h132) (d_v (aD 28 0 (eSl ab) (eSl ab) (ay h132).2 (fun _=>rfl)) (av [.v 0 1] (d_v (aV ab ab h133 (bK) (fun _=>rfl)) (av (vz 2) (ac (e_b 0 82 (e:=(!(bw v49 (gD (gD v7.1 v37) v48)))) (b:=false) h134) (av (vz 5) (ac (e_b 0 88 (e:=(v49.Row != v37)) (b:=false) h135) (av (vz 6) (d_v (aA (eSl (eV2 (eInt .i64))) v1) (av (vz 2) (ac (e_b 0 98 (e:=(decide ((w64 (v49.Row+v49.Rows))>(v1.length:Int)))) (b:=false) h136) (av (vz 8) (ac (e_b 0 107 (e:=(decide ((w64 (v49.Col+v49.Cols))>v6.2))) (b:=true) h137) (ac (af 0 1) (ac (af 0 1) (ac (af 0 1) (ac (af 0 1) (ac (af 0 1) (ac (af 0 1) (ac (af 0 1) (ac (af 0 1) (ac (af 0 1) (ac (af 0 1) (ac (af 0 1) (ac (af 0 1) (ac (af 0 1) (ac (af 0 1) (ac (af 0 1) (ac (af 0 1) (ac (af 0 1) (ac (af 0 1) (ac (af 0 1) (ac (af 0 1) (av [.v 0 1] bh)))))))))))))))))))))))))))))))))))) (aj 0 (dv hK hL2 hL3 h))
      ·
       rcases au h with ⟨h138,h⟩ | ⟨h138,h⟩
       ·
        obtain ⟨h139,h⟩:=aq h
        obtain ⟨h140,h⟩:=aq h
        exact bk 0 (nu 73 [.agg (ab v49),.ref 1038,iI v37,.eptr 1038 1 (v37.toNat) 0,.sl (lm ab (gD v7.1 v37)),iI v48,.cptr (ab (gD (gD v7.1 v37) v48)),.agg (ab (gD (gD v7.1 v37) v48)),.bool (!(bw v49 (gD (gD v7.1 v37) v48))),.bool false,.ptr 13 0,iI v49.Row,iI v37,.bool (v49.Row != v37),.bool (v49.Row != v37),.bool false,.ptr 13 0,iI v49.Row,.ptr 13 2,iI v49.Rows,iI (w64 (v49.Row+v49.Rows)),.sl (lm (eSl (eV2 (eInt .i64))) v1),iI (v1.length:Int),.bool (decide ((w64 (v49.Row+v49.Rows))>(v1.length:Int))),.bool (decide ((w64 (v49.Row+v49.Rows))>(v1.length:Int))),.bool false,.ptr 13 1,iI v49.Col,.ptr 13 3,iI v49.Cols,iI (w64 (v49.Col+v49.Cols)),iI v6.2,.bool (decide ((w64 (v49.Col+v49.Cols))>v6.2)),.bool (decide ((w64 (v49.Col+v49.Cols))>v6.2)),.bool false,iI v48,.bool (decide (v48>0)),.bool true,.ptr 13 1,iI v49.Col,.sl (lm ab (gD v6.1 v37)),iI v48,iI (w64 (v48 - 1)),.cptr (ab (gD (gD v6.1 v37) ((w64 (v48 - 1))))),.cptr (List.drop 1 (ab (gD (gD v6.1 v37) ((w64 (v48 - 1)))))),iI ((gD (gD v6.1 v37) ((w64 (v48 - 1)))).Col),.sl (lm ab (gD v6.1 v37)),iI v48,iI (w64 (v48 - 1)),.cptr (ab (gD (gD v6.1 v37) ((w64 (v48 - 1))))),.cptr (List.drop 3 (ab (gD (gD v6.1 v37) ((w64 (v48 - 1)))))),iI ((gD (gD v6.1 v37) ((w64 (v48 - 1)))).Cols),iI (w64 (((gD (gD v6.1 v37) ((w64 (v48 - 1)))).Col)+((gD (gD v6.1 v37) ((w64 (v48 - 1)))).Cols))),.bool (decide (v49.Col<(w64 (((gD (gD v6.1 v37) ((w64 (v48 - 1)))).Col)+((gD (gD v6.1 v37) ((w64 (v48 - 1)))).Cols))))),.bool (decide (v49.Col<(w64 (((gD (gD v6.1 v37) ((w64 (v48 - 1)))).Col)+((gD (gD v6.1 v37) ((w64 (v48 - 1)))).Cols))))),.bool (decide (v49.Col<(w64 (((gD (gD v6.1 v37) ((w64 (v48 - 1)))).Col)+((gD (gD v6.1 v37) ((w64 (v48 - 1)))).Cols)))))]) [] [] [] (av (vz 3) (d_v (aB 1038 1 (eSl ab) (L:=v7.1) h132) (d_v (aD 28 0 (eSl ab) (eSl ab) (ay h132).2 (fun _=>rfl)) (av [.v 0 1] (d_v (aV ab ab h133 (bK) (fun _=>rfl)) (av (vz 2) (ac (e_b 0 82 (e:=(!(bw v49 (gD (gD v7.1 v37) v48)))) (b:=false) h134) (av (vz 5) (ac (e_b 0 88 (e:=(v49.Row != v37)) (b:=false) h135) (av (vz 6) (d_v (aA (eSl (eV2 (eInt .i64))) v1) (av (vz 2) (ac (e_b 0 98 (e:=(decide ((w64 (v49.Row+v49.Rows))>(v1.length:Int)))) (b:=false) h136) (av (vz 8) (ac (e_b 0 107 (e:=(decide ((w64 (v49.Col+v49.Cols))>v6.2))) (b:=false) h137) (av (vz 2) (ac (e_b 0 110 (e:=(decide (v48>0))) (b:=true) h138) (av (vz 5) (d_v (aV ab ab h139 (bK) (fun _=>rfl)) (av (vz 5) (d_v (aV ab ab h140 (bK) (fun _=>rfl)) (av (vz 6) bh)))))))))))))))))))))) (aj 0 (dv hK hL2 hL3 h))
       ·
        exact bk 0 (nu 73 [.agg (ab v49),.ref 1038,iI v37,.eptr 1038 1 (v37.toNat) 0,.sl (lm ab (gD v7.1 v37)),iI v48,.cptr (ab (gD (gD v7.1 v37) v48)),.agg (ab (gD (gD v7.1 v37) v48)),.bool (!(bw v49 (gD (gD v7.1 v37) v48))),.bool false,.ptr 13 0,iI v49.Row,iI v37,.bool (v49.Row != v37),.bool (v49.Row != v37),.bool false,.ptr 13 0,iI v49.Row,.ptr 13 2,iI v49.Rows,iI (w64 (v49.Row+v49.Rows)),.sl (lm (eSl (eV2 (eInt .i64))) v1),iI (v1.length:Int),.bool (decide ((w64 (v49.Row+v49.Rows))>(v1.length:Int))),.bool (decide ((w64 (v49.Row+v49.Rows))>(v1.length:Int))),.bool false,.ptr 13 1,iI v49.Col,.ptr 13 3,iI v49.Cols,iI (w64 (v49.Col+v49.Cols)),iI v6.2,.bool (decide ((w64 (v49.Col+v49.Cols))>v6.2)),.bool (decide ((w64 (v49.Col+v49.Cols))>v6.2)),.bool false,iI v48,.bool (decide (v48>0)),.bool false,.tup [],.tup [],.tup [],.tup [],.tup [],.tup [],.tup [],.tup [],.tup [],.tup [],.tup [],.tup [],.tup [],.tup [],.tup [],.tup [],.bool false,.bool false]) [] [] [] (av (vz 3) (d_v (aB 1038 1 (eSl ab) (L:=v7.1) h132) (d_v (aD 28 0 (eSl ab) (eSl ab) (ay h132).2 (fun _=>rfl)) (av [.v 0 1] (d_v (aV ab ab h133 (bK) (fun _=>rfl)) (av (vz 2) (ac (e_b 0 82 (e:=(!(bw v49 (gD (gD v7.1 v37) v48)))) (b:=false) h134) (av (vz 5) (ac (e_b 0 88 (e:=(v49.Row != v37)) (b:=false) h135) (av (vz 6) (d_v (aA (eSl (eV2 (eInt .i64))) v1) (av (vz 2) (ac (e_b 0 98 (e:=(decide ((w64 (v49.Row+v49.Rows))>(v1.length:Int)))) (b:=false) h136) (av (vz 8) (ac (e_b 0 107 (e:=(decide ((w64 (v49.Col+v49.Cols))>v6.2))) (b:=false) h137) (av (vz 2) (ac (e_b 0 110 (e:=(decide (v48>0))) (b:=false) h138) (ac (af 0 1) (ac (af 0 1) (ac (af 0 1) (ac (af 0 1) (ac (af 0 1) (ac (af 0 1) (ac (af 0 1) (ac (af 0 1) (ac (af 0 1) (ac (af 0 1) (ac (af 0 1) (ac (af 0 1) (ac (af 0 1) (ac (af 0 1) (ac (af 0 1) (ac (af 0 1) (av (vz 2) bh)))))))))))))))))))))))))))))))))) (aj 0 (dv hK hL2 hL3 h))
  ·
   refine ai 69 h129 (ag (ks':=[cF3 br,.b 3,cF3 bi,bc M w0 r m2,.b 2,cF3 aR]) 5 (ao 2 ?_))
   obtain ⟨h152,h⟩:=aq h
   exact ap (dU 163 163 30 4 ab (rfl) (bK) h152) (ak (aj 2 (aJ (hL2 h))))
theorem iW (hK:KnOk K) (hL2:cN M w0 r v1 v6 v7 m2 L2) (m:Nat):H3_3 M w0 r v1 v6 v7 v37 v38 m2 m (cL K n v1 v6 v7 v37 v38 L2 m):=by
  induction m with
 | zero=>intro v47 v48 h; cases h
 | succ m ih=>intro v47 v48 h; have h:ez K n v1 v6 v7 v37 v38 L2 (cL K n v1 v6 v7 v37 v38 L2 m) v47 v48=some r:=h; exact aK (jJ hK hL2 ih h)
theorem jC (hK:KnOk K) (hL2:cN M w0 r v1 v6 v7 m2 L2) (h:ey K n v1 v6 v7 L2 v37 v38=some r):VE (cx3 M w0) (q3 M w0 r) [cF3 p3_1,bc M w0 r m2,.b 2,cF3 aR] .normal (s3_l7 v1 v6 v7 v37 v38):=by
  unfold ey at h
  refine ag (ks':=[cF3 p3_26,cF3 p3_27,bc M w0 r m2,.b 2,cF3 aR]) 3 ?_
  rcases au h with ⟨h102,h⟩ | ⟨h102,h⟩
  ·
   refine ai 54 h102 (ag (ks':=[cF3 p3_28,cF3 p3_29,.b 3,cF3 bi,bc M w0 r m2,.b 2,cF3 aR]) 5 (ao 1 ?_))
   obtain ⟨h103,h⟩:=aq h
   refine ap (bd 1033 1 (eSl ab) h103) (ap (aD 28 0 (eSl ab) (eSl ab) (ay h103).2 (fun _=>rfl)) (ak (ag (ks':=[cF3 p3_30,cF3 p3_31,cF3 p3_32,.b 3,cF3 bi,bc M w0 r m2,.b 2,cF3 aR]) 2 (ao 1 (ap (aA ab (gD v6.1 v37)) (aL 4 2 ?_))))))
   obtain ⟨h104,h⟩:=aq h
   refine ap (bd 1038 1 (eSl ab) h104) (ap (aD 28 0 (eSl ab) (eSl ab) (ay h104).2 (fun _=>rfl)) (ap (aA ab (gD v7.1 v37)) (ak ?_)))
   obtain ⟨v39,h105,h⟩:=bind_some h
   have h105:=Option.some.inj h105
   refine aQ (ks':=[cF3 p3_31,cF3 p3_32,.b 3,cF3 bi,bc M w0 r m2,.b 2,cF3 aR]) 0 ⟨[(0,.sl (lm (eSl (eV2 (eInt .i64))) v1)),(6,iI v6.2),(7,.ref 1038),(9,.ref 163),(10,iI v37),(11,.sl (lm ab (gD v6.1 v37))),(51,.ref 1033),(52,iI (v6.1.length:Int)),(53,iI v37),(65,.bool v39)],[],[(163,⟨30,4,lm ab v38⟩),(1033,⟨28,1,lm (eSl ab) v6.1⟩),(1038,⟨28,1,lm (eSl ab) v7.1⟩)],[163,1033,1038]⟩ ?_ (by subst h105; kernel_rfl)
   rcases au h with ⟨h106,h⟩ | ⟨h106,h⟩
   ·
    refine ai 65 h106 (aG 10 ?_)
    cases h
    exact aX
   ·
    exact ai 65 h106 (ag (ks':=[cF3 p3_33,cF3 p3_34,cF3 br,.b 3,cF3 bi,bc M w0 r m2,.b 2,cF3 aR]) 4 (ao 1 (ap (aA ab (gD v6.1 v37)) (ak (aj 1 (aI (p:=p3_35) n (iW hK hL2 n h)))))))
  ·
   refine ai 54 h102 (aG 8 ?_)
   cases h
   exact aX
theorem i9 (hK:KnOk K) (m:Nat):cN M w0 r v1 v6 v7 m (cX K n v1 v6 v7 m):=by
  induction m with
 | zero=>intro v37 v38 h; cases h
 | succ m ih=>intro v37 v38 h; have h:ey K n v1 v6 v7 (cX K n v1 v6 v7 m) v37 v38=some r:=h; exact aK (jC hK ih h)
theorem hI (hK:KnOk K) (h:eA K n v1 v6 v7 v8=some r):VE (cx3 M w0) (q3 M w0 r) [cF3 p3_36,cF3 p3_37] .normal (s3_j2 v1 v6 v7 v8):=by
  unfold eA at h
  rcases au h with ⟨h15,h⟩ | ⟨h15,h⟩
  ·
   refine ai 50 h15 (aG 5 ?_)
   cases h
   exact aX
  ·
   exact ai 50 h15 (ag (ks':=[cF3 p3_38,cF3 p3_39,cF3 aR]) 6 (ao 1 (ap (aA (eSl ab) v6.1) (ak (ag (ks':=[cF3 p3_40,.b 2,cF3 aR]) 1 (bG [0,6,7,9,51,52,53] [] [1033,1038] (ve_w 163 9 30 4 (aj 0 (aI (p:=p3_40) n (i9 hK n h))))))))))
theorem jw (hK:KnOk K) (hL1:H3_1 M w0 r v1 m1 L1) (h:ef K n v1 L1 v4=some r):VE (cx3 M w0) (q3 M w0 r) [cF3 p3_3,k3_1 M w0 r m1,.b 0,cF3 cE] .normal (s3_l1 v1 v4):=by
  unfold ef at h
  refine ag (ks':=[cF3 p3_41,cF3 p3_42,k3_1 M w0 r m1,.b 0,cF3 cE]) 3 ?_
  rcases au h with ⟨h8,h⟩ | ⟨h8,h⟩
  ·
   refine ai 24 h8 (ag (ks':=[cF3 p3_43,cF3 p3_44,.b 1,cF3 p3_45,k3_1 M w0 r m1,.b 0,cF3 cE]) 5 (ao 0 ?_))
   obtain ⟨h9,h⟩:=aq h
   refine ap (aV (eSl (eV2 (eInt .i64))) (eSl (eV2 (eInt .i64))) h9 (fun _=>rfl) (fun _=>rfl)) (ak (ag (ks':=[cF3 p3_46,cF3 p3_47,.b 1,cF3 p3_45,k3_1 M w0 r m1,.b 0,cF3 cE]) 1 (ao 1 (ap (aA (eV2 (eInt .i64)) (gD v1 v4)) (ak ?_)))))
   obtain ⟨v5,h10,h⟩:=bind_some h
   have h10:=Option.some.inj h10
   refine aQ (ks':=[cF3 p3_47,.b 1,cF3 p3_45,k3_1 M w0 r m1,.b 0,cF3 cE]) 0 ⟨[(0,.sl (lm (eSl (eV2 (eInt .i64))) v1)),(21,.sl (lm (eSl (eV2 (eInt .i64))) v1)),(22,iI (v1.length:Int)),(23,iI v4),(29,.bool v5)],[],[],[]⟩ ?_ (by subst h10; kernel_rfl)
   rcases au h with ⟨h11,h⟩ | ⟨h11,h⟩
   ·
    refine ai 29 h11 (aG 9 ?_)
    cases h
    exact aX
   ·
    exact ai 29 h11 (aj 4 (aJ (hL1 h)))
  ·
   refine ai 24 h8 (ag (ks':=[cF3 p3_48,cF3 p3_49]) 6 (ao 1 ?_))
   obtain ⟨v6,h12,h⟩:=bind_some h
   refine dR 1033 (ip hK h12) (one_tup (i:=0) rfl) (ak (ag (ks':=[cF3 p3_50,cF3 p3_51]) 1 (ao 1 ?_)))
   obtain ⟨v7,h13,h⟩:=bind_some h
   refine dR 1038 (jY hK h13) (one_tup (i:=0) rfl) (ak (ag (ks':=[cF3 p3_52,cF3 p3_36,cF3 p3_37]) 2 (ao 4 ?_)))
   rcases au h with ⟨h14,h⟩ | ⟨h14,h⟩
   ·
    exact aM 44 h14 (ak (aj 0 (hI hK h)))
   ·
    exact aM 44 h14 (aL 5 1 (ap (aA (eSl ab) v6.1) (aL 7 1 (ap (aA (eSl ab) v7.1) (ak (aj 0 (hI hK h)))))))
theorem jj (hK:KnOk K) (m:Nat):H3_1 M w0 r v1 m (dH K n v1 m):=by
  induction m with
 | zero=>intro v4 h; cases h
 | succ m ih=>intro v4 h; have h:ef K n v1 (dH K n v1 m) v4=some r:=h; exact aK (jw hK ih h)
theorem jA (hK:KnOk K) (h:fi K n v1=some r):ACalls Try.prog 3 [.sl (lm (eSl (eV2 (eInt .i64))) v1)] (fun v _=>v = .bool r):=by
  refine bn (cat Try.f3 []) Try.func3 Try.ntmps3 fun M w0=>(aU ⟨[(0,.sl (lm (eSl (eV2 (eInt .i64))) v1))],[],[],[]⟩ ?_)
  unfold fi at h
  refine ag (ks':=[cF3 [1,0,0],cF3 [1,0,1],cF3 [1,1]]) 4 (ao 0 ?_)
  obtain ⟨v2,h1,h⟩:=bind_some h
  refine bM (g_law20_fit_ok hK h1) (ak ?_)
  rcases au h with ⟨h2,h⟩ | ⟨h2,h⟩
  ·
   refine ai 17 h2 (aG 5 ?_)
   cases h
   exact aX
  ·
   refine ai 17 h2 (ag (ks':=[cF3 p3_53,cF3 p3_54,cF3 [1,1,1]]) 4 (ao 1 (ap (aA (eSl (eV2 (eInt .i64))) v1) (ak ?_))))
   rcases au h with ⟨h3,h⟩ | ⟨h3,h⟩
   ·
    refine ai 20 h3 (aG 5 ?_)
    cases h
    exact aX
   ·
    exact ai 20 h3 (ag (ks':=[cF3 p3_55,cF3 p3_56,cF3 cE]) 4 (ao 1 (ap (aA (eSl (eV2 (eInt .i64))) v1) (ak (aj 1 (aI (p:=p3_57) n (jj hK n h)))))))
end
noncomputable section
variable {K:Kn} {n:Nat} {M:Nat→Prop} {w0:Base} {r:Bool} {v1:Int} 
theorem jB (hK:KnOk K) (h:gV K n v1=some r):ACalls Try.prog 62 [iI v1] (fun v _=>v = .bool r):=by
  refine bn (cat Try.f62 []) Try.func62 Try.ntmps62 fun M w0=>(aU ⟨[(0,iI v1)],[],[],[]⟩ ?_)
  unfold gV at h
  refine aG 5 ?_
  cases h
  exact aX
end
end Go.Proofs.Ytolhpahjgddjkaa

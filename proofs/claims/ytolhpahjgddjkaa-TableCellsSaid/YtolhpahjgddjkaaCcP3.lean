/- The runs of the functions that TableCells reaches do what their plain forms say, part 3. Made by a program. -/
import Derived.Test.YtolhpahjgddjkaaCcGk
import Derived.Test.YtolhpahjgddjkaaCcP2
namespace Go.Proofs.Ytolhpahjgddjkaa
open Go.RowKit
set_option maxRecDepth 20000
set_option linter.all false
set_option linter.unusedVariables false
set_option linter.unusedSimpArgs false
def dI:=pth 8 1
def p7_1:=pth 7 10100
def fE:=pth 7 10100111
def p7_3:=pth 7 1010011001111100
def p7_4:=pth 7 10100110011111001100101
def p7_5:=pth 7 1010011001111100110011
def p7_6:=pth 7 1010011001111100111
def p7_7:=pth 7 101001100111110010
def p7_8:=pth 7 101001100111110011
def p7_9:=pth 7 101001100111110011000
def p7_10:=pth 7 101001100111110011001
def p7_11:=pth 7 10100110011111001100100
def p7_12:=pth 7 101001100101
def p7_13:=pth 7 10100110011
def p7_14:=pth 7 10100110011110
def p7_15:=pth 7 10100110011111
def p7_16:=pth 7 101001100111110
def p7_17:=pth 7 1010010
def p7_18:=pth 7 1010011
def p7_19:=pth 7 1010011000
def p7_20:=pth 7 1010011001
def p7_21:=pth 7 101001100100
def p7_22:=pth 0 11100
def p7_23:=pth 0 11101
def p7_24:=pth 0 11110
def p7_25:=pth 0 11111
def p7_26:=pth 0 111110
def p7_27:=pth 5 1
def p7_28:=pth 5 100
def p7_29:=pth 5 101
def p7_30:=pth 6 1
def p7_31:=pth 7 100
def p7_32:=pth 7 101
def p7_33:=pth 7 1010
noncomputable section
abbrev cx7 (M:Nat→Prop) (w0:Base):Cx:=⟨Try.prog,126,M,w0⟩
abbrev q7 (M:Nat→Prop) (w0:Base) (r:Bool):=bodyPost Try.prog Try.f7 (RetQ M w0 (fun v _=>v = .bool r))
abbrev cF7 (p:List Nat):Kont:=.c (cat Try.f7 p)
abbrev ef (M:Nat→Prop) (w0:Base) (r:Bool) (m1:Nat):Kont:=kl (cx7 M w0) (q7 M w0 r) [.b 0,cF7 dI] (cat Try.f7 p7_1) m1
abbrev k7_2 (M:Nat→Prop) (w0:Base) (r:Bool) (m1 m2:Nat):Kont:=kl (cx7 M w0) (q7 M w0 r) [.b 2,.b 1,cF7 fE,ef M w0 r m1,.b 0,cF7 dI] (cat Try.f7 p7_3) m2
def s7_j2 (v5:ab) (v8:aa) (v28 v30 v36 v37:Int) (v38:aa) (v39:Bool):AS:=⟨[(5,.ptr 5 0),(7,iI v30),(8,iI v28),(9,.ptr 9 0),(12,.ptr 12 0),(32,.ref 23),(33,iI (v8.Kids.length:Int)),(34,iI v28),(71,.sl (lm ao ((gD v8.Kids v28).Kids))),(72,iI v36),(73,iI v37),(118,.bool v39)],[(5,aF v5),(9,aD (gD v8.Kids v28)),(12,aD v38)],[(23,⟨61,67,lm ao v8.Kids⟩)],[5,9,12,23]⟩
def s7_l3 (v5:ab) (v8:aa) (v28 v30 v35 v36 v37:Int):AS:=⟨[(5,.ptr 5 0),(7,iI v30),(8,iI v28),(9,.ptr 9 0),(10,iI v35),(32,.ref 23),(33,iI (v8.Kids.length:Int)),(34,iI v28),(71,.sl (lm ao ((gD v8.Kids v28).Kids))),(72,iI v36),(73,iI v37)],[(5,aF v5),(9,aD (gD v8.Kids v28))],[(23,⟨61,67,lm ao v8.Kids⟩)],[5,9,23]⟩
def s7_j1 (v5:ab) (v8:aa) (v28:Int) (v29:Bool):AS:=⟨[(5,.ptr 5 0),(8,iI v28),(9,.ptr 9 0),(32,.ref 23),(33,iI (v8.Kids.length:Int)),(34,iI v28),(64,.bool v29)],[(5,aF v5),(9,aD (gD v8.Kids v28))],[(23,⟨61,67,lm ao v8.Kids⟩)],[5,9,23]⟩
def s7_l4 (v5:ab) (v8:aa) (v27 v28:Int):AS:=⟨[(5,.ptr 5 0),(7,iI v27),(32,.ref 23),(33,iI (v8.Kids.length:Int)),(34,iI v28)],[(5,aF v5)],[(23,⟨61,67,lm ao v8.Kids⟩)],[5,23]⟩
abbrev H7_1 (M:Nat→Prop) (w0:Base) (r:Bool) (v5:ab) (v8:aa) (m1:Nat) (L1:Int→Int→Option Bool):Prop:=∀ {v27:Int} {v28:Int},L1 v27 v28=some r→LP (cx7 M w0) (q7 M w0 r) [.b 0,cF7 dI] (cat Try.f7 p7_1) m1 (s7_l4 v5 v8 v27 v28)
abbrev H7_2 (M:Nat→Prop) (w0:Base) (r:Bool) (v5:ab) (v8:aa) (v28 v30:Int) (m1 m2:Nat) (L2:Int→Int→Int→Option Bool):Prop:=∀ {v35:Int} {v36:Int} {v37:Int},L2 v35 v36 v37=some r→LP (cx7 M w0) (q7 M w0 r) [.b 2,.b 1,cF7 fE,ef M w0 r m1,.b 0,cF7 dI] (cat Try.f7 p7_3) m2 (s7_l3 v5 v8 v28 v30 v35 v36 v37)
variable {K:Kn} {n:Nat} {M:Nat→Prop} {w0:Base} {r:Bool} {v1:List bN} {v2:Int} {v5:ab} {v8:aa} {v27 v28:Int} {v29:Bool} {v30 v35 v36 v37:Int} {v38:aa} {v39:Bool} {m1:Nat} {L1:Int→Int→Option Bool} {m2:Nat} {L2:Int→Int→Int→Option Bool}
theorem nP (hK:KnOk K) (hL1:H7_1 M w0 r v5 v8 m1 L1) (hL2:H7_2 M w0 r v5 v8 v28 v30 m1 m2 L2) (h:ib K n v5 v8 v28 v30 v36 v37 v38 L1 L2 v39=some r):VE (cx7 M w0) (q7 M w0 r) [cF7 p7_4,cF7 p7_5,.b 3,cF7 p7_6,k7_2 M w0 r m1 m2,.b 2,.b 1,cF7 fE,ef M w0 r m1,.b 0,cF7 dI] .normal (s7_j2 v5 v8 v28 v30 v36 v37 v38 v39):=by
  unfold ib at h
  rcases au h with ⟨h75,h⟩ | ⟨h75,h⟩
  ·
   refine ak 118 h75 (aQ 14 ?_)
   cases h
   exact bF
  ·
   exact ak 118 h75 (ah 5 (aY (hL2 h)))
theorem xi (hK:KnOk K) (hL1:H7_1 M w0 r v5 v8 m1 L1) (hL2:H7_2 M w0 r v5 v8 v28 v30 m1 m2 L2) (h:oW K n v5 v8 v28 v30 L1 L2 v35 v36 v37=some r):VE (cx7 M w0) (q7 M w0 r) [cF7 p7_3,k7_2 M w0 r m1 m2,.b 2,.b 1,cF7 fE,ef M w0 r m1,.b 0,cF7 dI] .normal (s7_l3 v5 v8 v28 v30 v35 v36 v37):=by
  unfold oW at h
  refine ac (ks':=[cF7 p7_7,cF7 p7_8,k7_2 M w0 r m1 m2,.b 2,.b 1,cF7 fE,ef M w0 r m1,.b 0,cF7 dI]) 3 ?_
  rcases au h with ⟨h66,h⟩ | ⟨h66,h⟩
  ·
   refine ak 74 h66 (ac (ks':=[cF7 p7_9,cF7 p7_10,.b 3,cF7 p7_6,k7_2 M w0 r m1 m2,.b 2,.b 1,cF7 fE,ef M w0 r m1,.b 0,cF7 dI]) 5 (ai 1 ?_))
   obtain ⟨h67,h⟩:=av h
   refine aq (bL ao aD h67 (db) (cm)) (ag ?_)
   obtain ⟨v38,h68,h⟩:=bind_some h
   have h68:=Option.some.inj h68
   refine bq (ks':=[cF7 p7_11,cF7 p7_4,cF7 p7_5,.b 3,cF7 p7_6,k7_2 M w0 r m1 m2,.b 2,.b 1,cF7 fE,ef M w0 r m1,.b 0,cF7 dI]) 2 ⟨[(5,.ptr 5 0),(7,iI v30),(8,iI v28),(9,.ptr 9 0),(10,iI v35),(11,iI v37),(12,.ptr 12 0),(32,.ref 23),(33,iI (v8.Kids.length:Int)),(34,iI v28),(71,.sl (lm ao ((gD v8.Kids v28).Kids))),(72,iI v36),(73,iI v37)],[(5,aF v5),(9,aD (gD v8.Kids v28)),(12,aD v38)],[(23,⟨61,67,lm ao v8.Kids⟩)],[5,9,12,23]⟩ ?_ (by subst h68; kernel_rfl)
   rcases au h with ⟨h69,h⟩ | ⟨h69,h⟩
   ·
    exact bE 0 (nu 78 [.ptr 12 2,iI v38.X,iI v35,.bool (decide (v38.X<v35)),.bool true,.tup [],.tup [],.tup [],.tup [],.tup [],.tup [],.tup [],.tup [],.bool true,.bool true,.tup [],.tup [],.tup [],.bool true,.bool true,.tup [],.tup [],.tup [],.tup [],.tup [],.bool true,.bool true,.tup [],.tup [],.tup [],.tup [],.tup [],.tup [],.tup [],.tup [],.tup [],.tup [],.tup [],.tup [],.tup [],.bool true]) [] [] [] (az (vz 4) (aj (e_b 0 82 (e:=(decide (v38.X<v35))) (b:=true) h69) (aj (aH 0 1) (aj (aH 0 1) (aj (aH 0 1) (aj (aH 0 1) (aj (aH 0 1) (aj (aH 0 1) (aj (aH 0 1) (aj (aH 0 1) (az (vz 2) (aj (aH 0 1) (aj (aH 0 1) (aj (aH 0 1) (az (vz 2) (aj (aH 0 1) (aj (aH 0 1) (aj (aH 0 1) (aj (aH 0 1) (aj (aH 0 1) (az (vz 2) (aj (aH 0 1) (aj (aH 0 1) (aj (aH 0 1) (aj (aH 0 1) (aj (aH 0 1) (aj (aH 0 1) (aj (aH 0 1) (aj (aH 0 1) (aj (aH 0 1) (aj (aH 0 1) (aj (aH 0 1) (aj (aH 0 1) (aj (aH 0 1) (az [.v 0 1] bC))))))))))))))))))))))))))))))))))) (ah 0 (nP hK hL1 hL2 h))
   ·
    rcases au h with ⟨h70,h⟩ | ⟨h70,h⟩
    ·
     exact bE 0 (nu 78 [.ptr 12 2,iI v38.X,iI v35,.bool (decide (v38.X<v35)),.bool false,.ptr 12 2,iI v38.X,.ptr 12 4,iI v38.W,iI (w64 (v38.X+v38.W)),.ptr 9 4,iI ((gD v8.Kids v28).W),.bool (decide ((w64 (v38.X+v38.W))>((gD v8.Kids v28).W))),.bool (decide ((w64 (v38.X+v38.W))>((gD v8.Kids v28).W))),.bool true,.tup [],.tup [],.tup [],.bool true,.bool true,.tup [],.tup [],.tup [],.tup [],.tup [],.bool true,.bool true,.tup [],.tup [],.tup [],.tup [],.tup [],.tup [],.tup [],.tup [],.tup [],.tup [],.tup [],.tup [],.tup [],.bool true]) [] [] [] (az (vz 4) (aj (e_b 0 82 (e:=(decide (v38.X<v35))) (b:=false) h69) (az (vz 9) (aj (e_b 0 92 (e:=(decide ((w64 (v38.X+v38.W))>((gD v8.Kids v28).W)))) (b:=true) h70) (aj (aH 0 1) (aj (aH 0 1) (aj (aH 0 1) (az (vz 2) (aj (aH 0 1) (aj (aH 0 1) (aj (aH 0 1) (aj (aH 0 1) (aj (aH 0 1) (az (vz 2) (aj (aH 0 1) (aj (aH 0 1) (aj (aH 0 1) (aj (aH 0 1) (aj (aH 0 1) (aj (aH 0 1) (aj (aH 0 1) (aj (aH 0 1) (aj (aH 0 1) (aj (aH 0 1) (aj (aH 0 1) (aj (aH 0 1) (aj (aH 0 1) (az [.v 0 1] bC)))))))))))))))))))))))))))) (ah 0 (nP hK hL1 hL2 h))
    ·
     rcases au h with ⟨h71,h⟩ | ⟨h71,h⟩
     ·
      exact bE 0 (nu 78 [.ptr 12 2,iI v38.X,iI v35,.bool (decide (v38.X<v35)),.bool false,.ptr 12 2,iI v38.X,.ptr 12 4,iI v38.W,iI (w64 (v38.X+v38.W)),.ptr 9 4,iI ((gD v8.Kids v28).W),.bool (decide ((w64 (v38.X+v38.W))>((gD v8.Kids v28).W))),.bool (decide ((w64 (v38.X+v38.W))>((gD v8.Kids v28).W))),.bool false,.ptr 12 3,iI v38.Y,.bool (v38.Y != 0),.bool (v38.Y != 0),.bool true,.tup [],.tup [],.tup [],.tup [],.tup [],.bool true,.bool true,.tup [],.tup [],.tup [],.tup [],.tup [],.tup [],.tup [],.tup [],.tup [],.tup [],.tup [],.tup [],.tup [],.bool true]) [] [] [] (az (vz 4) (aj (e_b 0 82 (e:=(decide (v38.X<v35))) (b:=false) h69) (az (vz 9) (aj (e_b 0 92 (e:=(decide ((w64 (v38.X+v38.W))>((gD v8.Kids v28).W)))) (b:=false) h70) (az (vz 4) (aj (e_b 0 97 (e:=(v38.Y != 0)) (b:=true) h71) (aj (aH 0 1) (aj (aH 0 1) (aj (aH 0 1) (aj (aH 0 1) (aj (aH 0 1) (az (vz 2) (aj (aH 0 1) (aj (aH 0 1) (aj (aH 0 1) (aj (aH 0 1) (aj (aH 0 1) (aj (aH 0 1) (aj (aH 0 1) (aj (aH 0 1) (aj (aH 0 1) (aj (aH 0 1) (aj (aH 0 1) (aj (aH 0 1) (aj (aH 0 1) (az [.v 0 1] bC)))))))))))))))))))))))))) (ah 0 (nP hK hL1 hL2 h))
     ·
      rcases au h with ⟨h72,h⟩ | ⟨h72,h⟩
      ·
       exact bE 0 (nu 78 [.ptr 12 2,iI v38.X,iI v35,.bool (decide (v38.X<v35)),.bool false,.ptr 12 2,iI v38.X,.ptr 12 4,iI v38.W,iI (w64 (v38.X+v38.W)),.ptr 9 4,iI ((gD v8.Kids v28).W),.bool (decide ((w64 (v38.X+v38.W))>((gD v8.Kids v28).W))),.bool (decide ((w64 (v38.X+v38.W))>((gD v8.Kids v28).W))),.bool false,.ptr 12 3,iI v38.Y,.bool (v38.Y != 0),.bool (v38.Y != 0),.bool false,.ptr 12 5,iI v38.H,.ptr 9 5,iI ((gD v8.Kids v28).H),.bool (decide (v38.H<((gD v8.Kids v28).H))),.bool (decide (v38.H<((gD v8.Kids v28).H))),.bool true,.tup [],.tup [],.tup [],.tup [],.tup [],.tup [],.tup [],.tup [],.tup [],.tup [],.tup [],.tup [],.tup [],.bool true]) [] [] [] (az (vz 4) (aj (e_b 0 82 (e:=(decide (v38.X<v35))) (b:=false) h69) (az (vz 9) (aj (e_b 0 92 (e:=(decide ((w64 (v38.X+v38.W))>((gD v8.Kids v28).W)))) (b:=false) h70) (az (vz 4) (aj (e_b 0 97 (e:=(v38.Y != 0)) (b:=false) h71) (az (vz 6) (aj (e_b 0 104 (e:=(decide (v38.H<((gD v8.Kids v28).H)))) (b:=true) h72) (aj (aH 0 1) (aj (aH 0 1) (aj (aH 0 1) (aj (aH 0 1) (aj (aH 0 1) (aj (aH 0 1) (aj (aH 0 1) (aj (aH 0 1) (aj (aH 0 1) (aj (aH 0 1) (aj (aH 0 1) (aj (aH 0 1) (aj (aH 0 1) (az [.v 0 1] bC)))))))))))))))))))))) (ah 0 (nP hK hL1 hL2 h))
      ·
       obtain ⟨h73,h⟩:=av h
       obtain ⟨h74,h⟩:=av h
       exact bE 0 (nu 78 [.ptr 12 2,iI v38.X,iI v35,.bool (decide (v38.X<v35)),.bool false,.ptr 12 2,iI v38.X,.ptr 12 4,iI v38.W,iI (w64 (v38.X+v38.W)),.ptr 9 4,iI ((gD v8.Kids v28).W),.bool (decide ((w64 (v38.X+v38.W))>((gD v8.Kids v28).W))),.bool (decide ((w64 (v38.X+v38.W))>((gD v8.Kids v28).W))),.bool false,.ptr 12 3,iI v38.Y,.bool (v38.Y != 0),.bool (v38.Y != 0),.bool false,.ptr 12 5,iI v38.H,.ptr 9 5,iI ((gD v8.Kids v28).H),.bool (decide (v38.H<((gD v8.Kids v28).H))),.bool (decide (v38.H<((gD v8.Kids v28).H))),.bool false,.ptr 12 1,iI v38.Node,.ptr 5 58,.sl (lm ax v5.Kids),iI v28,.cptr (aF (gD v5.Kids v28)),.cptr (List.drop 58 (aF (gD v5.Kids v28))),.sl (lm ax ((gD v5.Kids v28).Kids)),iI v37,.cptr (aF (gD ((gD v5.Kids v28).Kids) v37)),.cptr (List.drop 1 (aF (gD ((gD v5.Kids v28).Kids) v37))),iI ((gD ((gD v5.Kids v28).Kids) v37).Node),.bool (v38.Node != ((gD ((gD v5.Kids v28).Kids) v37).Node)),.bool (v38.Node != ((gD ((gD v5.Kids v28).Kids) v37).Node))]) [] [] [] (az (vz 4) (aj (e_b 0 82 (e:=(decide (v38.X<v35))) (b:=false) h69) (az (vz 9) (aj (e_b 0 92 (e:=(decide ((w64 (v38.X+v38.W))>((gD v8.Kids v28).W)))) (b:=false) h70) (az (vz 4) (aj (e_b 0 97 (e:=(v38.Y != 0)) (b:=false) h71) (az (vz 6) (aj (e_b 0 104 (e:=(decide (v38.H<((gD v8.Kids v28).H)))) (b:=false) h72) (az (vz 5) (d_v (bL ax aF h73 (co) (b8)) (az (vz 3) (d_v (bL ax aF h74 (co) (b8)) (az (vz 4) bC))))))))))))) (ah 0 (nP hK hL1 hL2 h))
  ·
   exact ak 74 h66 (ah 7 (aY (hL1 h)))
theorem xg (hK:KnOk K) (hL1:H7_1 M w0 r v5 v8 m1 L1) (m:Nat):H7_2 M w0 r v5 v8 v28 v30 m1 m (mE K n v5 v8 v28 v30 L1 m):=by
  induction m with
 | zero=>intro v35 v36 v37 h; cases h
 | succ m ih=>intro v35 v36 v37 h; have h:oW K n v5 v8 v28 v30 L1 (mE K n v5 v8 v28 v30 L1 m) v35 v36 v37=some r:=h; exact aW (xi hK hL1 ih h)
theorem pG (hK:KnOk K) (hL1:H7_1 M w0 r v5 v8 m1 L1) (h:gm K n v5 v8 v28 L1 v29=some r):VE (cx7 M w0) (q7 M w0 r) [cF7 p7_12,cF7 p7_13,.b 1,cF7 fE,ef M w0 r m1,.b 0,cF7 dI] .normal (s7_j1 v5 v8 v28 v29):=by
  unfold gm at h
  rcases au h with ⟨h52,h⟩ | ⟨h52,h⟩
  ·
   refine ak 64 h52 (aQ 10 ?_)
   cases h
   exact bF
  ·
   refine ak 64 h52 ?_
   obtain ⟨v30,h53,h⟩:=bind_some h
   have h53:=Option.some.inj h53
   refine bq (ks':=[cF7 p7_14,cF7 p7_15,.b 1,cF7 fE,ef M w0 r m1,.b 0,cF7 dI]) 7 ⟨[(5,.ptr 5 0),(7,iI v30),(8,iI v28),(9,.ptr 9 0),(10,iI 0),(32,.ref 23),(33,iI (v8.Kids.length:Int)),(34,iI v28)],[(5,aF v5),(9,aD (gD v8.Kids v28))],[(23,⟨61,67,lm ao v8.Kids⟩)],[5,9,23]⟩ ?_ (by subst h53; kernel_rfl)
   exact ai 2 (aq (aZ ao ((gD v8.Kids v28).Kids)) (ag (ah 1 (bz (p:=p7_16) n (xg hK hL1 n h)))))
theorem uG (hK:KnOk K) (hL1:H7_1 M w0 r v5 v8 m1 L1) (h:n4 K n v5 v8 L1 v27 v28=some r):VE (cx7 M w0) (q7 M w0 r) [cF7 p7_1,ef M w0 r m1,.b 0,cF7 dI] .normal (s7_l4 v5 v8 v27 v28):=by
  unfold n4 at h
  refine ac (ks':=[cF7 p7_17,cF7 p7_18,ef M w0 r m1,.b 0,cF7 dI]) 3 ?_
  rcases au h with ⟨h44,h⟩ | ⟨h44,h⟩
  ·
   refine ak 35 h44 (ac (ks':=[cF7 p7_19,cF7 p7_20,.b 1,cF7 fE,ef M w0 r m1,.b 0,cF7 dI]) 5 (ai 1 ?_))
   obtain ⟨h45,h⟩:=av h
   refine aq (bM 23 67 ao h45) (aq (bj 61 0 ao aD (aI h45).2 (cm)) (ag (ac (ks':=[cF7 p7_21,cF7 p7_12,cF7 p7_13,.b 1,cF7 fE,ef M w0 r m1,.b 0,cF7 dI]) 2 (bt [5,7,8,9,32,33,34] [5,9] [23] ?_))))
   rcases au h with ⟨h46,h⟩ | ⟨h46,h⟩
   ·
    rcases au h with ⟨h47,h⟩ | ⟨h47,h⟩
    ·
     exact bE 0 (nu 39 [iI v28,.bool (decide (v28>0)),.bool true,.ptr 9 3,iI ((gD v8.Kids v28).Y),iI v27,.bool (((gD v8.Kids v28).Y) != v27),.bool (((gD v8.Kids v28).Y) != v27),.bool true,.tup [],.tup [],.tup [],.tup [],.tup [],.tup [],.tup [],.tup [],.tup [],.tup [],.tup [],.bool true,.bool true,.tup [],.tup [],.tup [],.bool true]) [] [] [] (az (vz 2) (aj (e_b 0 41 (e:=(decide (v28>0))) (b:=true) h46) (az (vz 5) (aj (e_b 0 47 (e:=(((gD v8.Kids v28).Y) != v27)) (b:=true) h47) (aj (aH 0 1) (aj (aH 0 1) (aj (aH 0 1) (aj (aH 0 1) (aj (aH 0 1) (aj (aH 0 1) (aj (aH 0 1) (aj (aH 0 1) (aj (aH 0 1) (aj (aH 0 1) (aj (aH 0 1) (az (vz 2) (aj (aH 0 1) (aj (aH 0 1) (aj (aH 0 1) (az [.v 0 1] bC)))))))))))))))))))) (ah 0 (pG hK hL1 h))
    ·
     obtain ⟨h48,h⟩:=av h
     rcases au h with ⟨h49,h⟩ | ⟨h49,h⟩
     ·
      exact bE 0 (nu 39 [iI v28,.bool (decide (v28>0)),.bool true,.ptr 9 3,iI ((gD v8.Kids v28).Y),iI v27,.bool (((gD v8.Kids v28).Y) != v27),.bool (((gD v8.Kids v28).Y) != v27),.bool false,.ptr 9 66,.sl (lm ao ((gD v8.Kids v28).Kids)),iI (((gD v8.Kids v28).Kids).length:Int),.ptr 5 58,.sl (lm ax v5.Kids),iI v28,.cptr (aF (gD v5.Kids v28)),.cptr (List.drop 58 (aF (gD v5.Kids v28))),.sl (lm ax ((gD v5.Kids v28).Kids)),iI (((gD v5.Kids v28).Kids).length:Int),.bool ((((gD v8.Kids v28).Kids).length:Int) != (((gD v5.Kids v28).Kids).length:Int)),.bool ((((gD v8.Kids v28).Kids).length:Int) != (((gD v5.Kids v28).Kids).length:Int)),.bool true,.tup [],.tup [],.tup [],.bool true]) [] [] [] (az (vz 2) (aj (e_b 0 41 (e:=(decide (v28>0))) (b:=true) h46) (az (vz 5) (aj (e_b 0 47 (e:=(((gD v8.Kids v28).Y) != v27)) (b:=false) h47) (az (vz 2) (d_v (aZ ao ((gD v8.Kids v28).Kids)) (az (vz 3) (d_v (bL ax aF h48 (co) (b8)) (az (vz 2) (d_v (aZ ax ((gD v5.Kids v28).Kids)) (az (vz 2) (aj (e_b 0 60 (e:=((((gD v8.Kids v28).Kids).length:Int) != (((gD v5.Kids v28).Kids).length:Int))) (b:=true) h49) (aj (aH 0 1) (aj (aH 0 1) (aj (aH 0 1) (az [.v 0 1] bC)))))))))))))))) (ah 0 (pG hK hL1 h))
     ·
      exact bE 0 (nu 39 [iI v28,.bool (decide (v28>0)),.bool true,.ptr 9 3,iI ((gD v8.Kids v28).Y),iI v27,.bool (((gD v8.Kids v28).Y) != v27),.bool (((gD v8.Kids v28).Y) != v27),.bool false,.ptr 9 66,.sl (lm ao ((gD v8.Kids v28).Kids)),iI (((gD v8.Kids v28).Kids).length:Int),.ptr 5 58,.sl (lm ax v5.Kids),iI v28,.cptr (aF (gD v5.Kids v28)),.cptr (List.drop 58 (aF (gD v5.Kids v28))),.sl (lm ax ((gD v5.Kids v28).Kids)),iI (((gD v5.Kids v28).Kids).length:Int),.bool ((((gD v8.Kids v28).Kids).length:Int) != (((gD v5.Kids v28).Kids).length:Int)),.bool ((((gD v8.Kids v28).Kids).length:Int) != (((gD v5.Kids v28).Kids).length:Int)),.bool false,.ptr 9 0,iI ((gD v8.Kids v28).Kind),.bool (((gD v8.Kids v28).Kind) != 1),.bool (((gD v8.Kids v28).Kind) != 1)]) [] [] [] (az (vz 2) (aj (e_b 0 41 (e:=(decide (v28>0))) (b:=true) h46) (az (vz 5) (aj (e_b 0 47 (e:=(((gD v8.Kids v28).Y) != v27)) (b:=false) h47) (az (vz 2) (d_v (aZ ao ((gD v8.Kids v28).Kids)) (az (vz 3) (d_v (bL ax aF h48 (co) (b8)) (az (vz 2) (d_v (aZ ax ((gD v5.Kids v28).Kids)) (az (vz 2) (aj (e_b 0 60 (e:=((((gD v8.Kids v28).Kids).length:Int) != (((gD v5.Kids v28).Kids).length:Int))) (b:=false) h49) (az (vz 4) bC))))))))))))) (ah 0 (pG hK hL1 h))
   ·
    obtain ⟨h50,h⟩:=av h
    rcases au h with ⟨h51,h⟩ | ⟨h51,h⟩
    ·
     exact bE 0 (nu 39 [iI v28,.bool (decide (v28>0)),.bool false,.tup [],.tup [],.tup [],.tup [],.bool false,.bool false,.ptr 9 66,.sl (lm ao ((gD v8.Kids v28).Kids)),iI (((gD v8.Kids v28).Kids).length:Int),.ptr 5 58,.sl (lm ax v5.Kids),iI v28,.cptr (aF (gD v5.Kids v28)),.cptr (List.drop 58 (aF (gD v5.Kids v28))),.sl (lm ax ((gD v5.Kids v28).Kids)),iI (((gD v5.Kids v28).Kids).length:Int),.bool ((((gD v8.Kids v28).Kids).length:Int) != (((gD v5.Kids v28).Kids).length:Int)),.bool ((((gD v8.Kids v28).Kids).length:Int) != (((gD v5.Kids v28).Kids).length:Int)),.bool true,.tup [],.tup [],.tup [],.bool true]) [] [] [] (az (vz 2) (aj (e_b 0 41 (e:=(decide (v28>0))) (b:=false) h46) (aj (aH 0 1) (aj (aH 0 1) (aj (aH 0 1) (aj (aH 0 1) (az (vz 4) (d_v (aZ ao ((gD v8.Kids v28).Kids)) (az (vz 3) (d_v (bL ax aF h50 (co) (b8)) (az (vz 2) (d_v (aZ ax ((gD v5.Kids v28).Kids)) (az (vz 2) (aj (e_b 0 60 (e:=((((gD v8.Kids v28).Kids).length:Int) != (((gD v5.Kids v28).Kids).length:Int))) (b:=true) h51) (aj (aH 0 1) (aj (aH 0 1) (aj (aH 0 1) (az [.v 0 1] bC)))))))))))))))))) (ah 0 (pG hK hL1 h))
    ·
     exact bE 0 (nu 39 [iI v28,.bool (decide (v28>0)),.bool false,.tup [],.tup [],.tup [],.tup [],.bool false,.bool false,.ptr 9 66,.sl (lm ao ((gD v8.Kids v28).Kids)),iI (((gD v8.Kids v28).Kids).length:Int),.ptr 5 58,.sl (lm ax v5.Kids),iI v28,.cptr (aF (gD v5.Kids v28)),.cptr (List.drop 58 (aF (gD v5.Kids v28))),.sl (lm ax ((gD v5.Kids v28).Kids)),iI (((gD v5.Kids v28).Kids).length:Int),.bool ((((gD v8.Kids v28).Kids).length:Int) != (((gD v5.Kids v28).Kids).length:Int)),.bool ((((gD v8.Kids v28).Kids).length:Int) != (((gD v5.Kids v28).Kids).length:Int)),.bool false,.ptr 9 0,iI ((gD v8.Kids v28).Kind),.bool (((gD v8.Kids v28).Kind) != 1),.bool (((gD v8.Kids v28).Kind) != 1)]) [] [] [] (az (vz 2) (aj (e_b 0 41 (e:=(decide (v28>0))) (b:=false) h46) (aj (aH 0 1) (aj (aH 0 1) (aj (aH 0 1) (aj (aH 0 1) (az (vz 4) (d_v (aZ ao ((gD v8.Kids v28).Kids)) (az (vz 3) (d_v (bL ax aF h50 (co) (b8)) (az (vz 2) (d_v (aZ ax ((gD v5.Kids v28).Kids)) (az (vz 2) (aj (e_b 0 60 (e:=((((gD v8.Kids v28).Kids).length:Int) != (((gD v5.Kids v28).Kids).length:Int))) (b:=false) h51) (az (vz 4) bC))))))))))))))) (ah 0 (pG hK hL1 h))
  ·
   refine ak 35 h44 (aQ 8 ?_)
   cases h
   exact bF
theorem wo (hK:KnOk K) (m:Nat):H7_1 M w0 r v5 v8 m (gQ K n v5 v8 m):=by
  induction m with
 | zero=>intro v27 v28 h; cases h
 | succ m ih=>intro v27 v28 h; have h:n4 K n v5 v8 (gQ K n v5 v8 m) v27 v28=some r:=h; exact aW (uG hK ih h)
theorem uA (hK:KnOk K) (h:pP K n v1 v2=some r):ACalls Try.prog 7 [.sl (lm bV v1),iI v2] (fun v _=>v = .bool r):=by
  refine bo (cat Try.f7 []) Try.func7 Try.ntmps7 fun M w0=>(bg ⟨[(0,.sl (lm bV v1)),(1,iI v2)],[],[],[]⟩ ?_)
  unfold pP at h
  refine ac (ks':=[cF7 [1,0,0],cF7 [1,0,1],cF7 [1,1]]) 4 (ai 0 ?_)
  obtain ⟨v3,h1,h⟩:=bind_some h
  refine aR (g_law20_fit_ok hK h1) (ag ?_)
  rcases au h with ⟨h2,h⟩ | ⟨h2,h⟩
  ·
   refine ak 14 h2 (aQ 5 ?_)
   cases h
   exact bF
  ·
   refine ak 14 h2 (ac (ks':=[cF7 p7_22,cF7 p7_23,cF7 [1,1,1]]) 4 (ai 1 ?_))
   obtain ⟨v4,h3,h⟩:=bind_some h
   refine aR (g_law20_fits_ok hK h3) (ag ?_)
   rcases au h with ⟨h4,h⟩ | ⟨h4,h⟩
   ·
    refine ak 17 h4 (aQ 5 ?_)
    cases h
    exact bF
   ·
    refine ak 17 h4 (ac (ks':=[cF7 p7_24,cF7 p7_25]) 3 (ai 1 ?_))
    obtain ⟨v5,h5,h⟩:=bind_some h
    refine cZ 1019 (g_ref20_Tree_ok hK h5) (gP (i:=58) (by kernel_rfl)) (ag (ac (ks':=[cF7 p7_26,cF7 p7_27]) 1 (bt [1,5] [5] [1019] (iJ 1019 ?_))))
    obtain ⟨v7,h7,h⟩:=bind_some h
    obtain ⟨v8,h8,h⟩:=bind_some h
    refine bE 1 (nu 20 [.agg (aF v5),iI v2,.agg (cj v7),.agg (List.set (aD ({ v8 with Kids:=[] }:aa)) 66 (.ref 23))]++nu 6 [.ptr 6 0]) [(6,List.set (aD aX) 66 (.nils))] [(23,⟨61,67,lm ao v8.Kids⟩)] [stp Try.prog 126 Try.f7 p7_26 5] (az (vz 2) (aj (e_c 0 1 22 (ro hK h7)) (aj (e_o 0 1 23 (xp hK h8) (gP (i:=66) (by kernel_rfl))) (aj (e_a 0 1 61 6 (List.set (aD aX) 66 (.nils))) (aj (e_d 0) bC))))) (ac (ks':=[cF7 p7_28,cF7 p7_29,cF7 p7_30]) 2 (ai 2 (aq (aZ ao v8.Kids) (aV 5 2 (aq (aZ ax v5.Kids) (ag ?_))))))
    obtain ⟨v9,h9,h⟩:=bind_some h
    have h9:=Option.some.inj h9
    refine bq (ks':=[cF7 p7_29,cF7 p7_30]) 0 ⟨[(5,.ptr 5 0),(6,.ptr 6 0),(30,.bool v9)],[(5,aF v5),(6,List.set (aD ({ v8 with Kids:=[] }:aa)) 66 (.ref 23))],[(23,⟨61,67,lm ao v8.Kids⟩)],[5,6,23]⟩ ?_ (by subst h9; kernel_rfl)
    rcases au h with ⟨h10,h⟩ | ⟨h10,h⟩
    ·
     refine ak 30 h10 (aQ 5 ?_)
     cases h
     exact bF
    ·
     exact ak 30 h10 (ac (ks':=[cF7 p7_31,cF7 p7_32,cF7 dI]) 6 (ai 2 (aq (aZ ao v8.Kids) (ag (ah 1 (bz (p:=p7_33) n (wo hK n h)))))))
end
noncomputable section
variable {K:Kn} {n:Nat} {M:Nat→Prop} {w0:Base} {r:Int} {v1:ae} 
theorem vI (hK:KnOk K) (h:sa K n v1=some r):ACalls Try.prog 33 [.agg (aC v1)] (fun v _=>v=iI r):=by
  refine bo (cat Try.f33 []) Try.func33 Try.ntmps33 fun M w0=>(bg ⟨[(0,.agg (aC v1))],[],[],[]⟩ ?_)
  unfold sa at h
  refine aQ 5 ?_
  cases h
  exact bF
end
noncomputable section
variable {K:Kn} {n:Nat} {M:Nat→Prop} {w0:Base} {r:Int} {v1:ae} 
theorem wW (hK:KnOk K) (h:rJ K n v1=some r):ACalls Try.prog 37 [.agg (aC v1)] (fun v _=>v=iI r):=by
  refine bo (cat Try.f37 []) Try.func37 Try.ntmps37 fun M w0=>(bg ⟨[(0,.agg (aC v1))],[],[],[]⟩ ?_)
  unfold rJ at h
  refine aQ 5 ?_
  cases h
  exact bF
end
def p72_0:=pth 5 1
def p72_1:=pth 5 10
def p72_2:=pth 6 1
def p72_3:=pth 0 11111
def p72_4:=pth 0 111110
def p72_5:=pth 0 11110
noncomputable section
abbrev cx72 (M:Nat→Prop) (w0:Base):Cx:=⟨Try.prog,58,M,w0⟩
abbrev q72 (M:Nat→Prop) (w0:Base) (r:aa):=bodyPost Try.prog Try.f72 (RetQ M w0 (fun v s=>v = .agg (List.set (aD ({ r with Kids:=[] }:aa)) 66 (.ref 1057))∧look 1057 s.r=some ⟨61,67,lm ao r.Kids⟩))
def s72_j2 (v1:ab) (v3:bw) (v4:aS) (v5 v6:Bool):AS:=⟨[(3,.ptr 3 0),(5,.ptr 5 0),(6,.ptr 6 0),(7,.ptr 7 0),(9,.bool v5),(10,.bool v6)],[(3,aF v1),(5,cj v3),(6,List.set (aD aX) 66 (.nils)),(7,bI v4)],[],[3,5,6,7]⟩
def s72_j1 (v1:ab) (v3:bw) (v4:aS) (v5:Bool):AS:=⟨[(3,.ptr 3 0),(5,.ptr 5 0),(6,.ptr 6 0),(7,.ptr 7 0),(8,.bool (v1.Style.Overflow == 0)),(9,.bool v5)],[(3,aF v1),(5,cj v3),(6,List.set (aD aX) 66 (.nils)),(7,bI v4)],[],[3,5,6,7]⟩
variable {K:Kn} {n:Nat} {M:Nat→Prop} {w0:Base} {r:aa} {v1:ab} {v2:Int} {v3:bw} {v4:aS} {v5 v6:Bool} 
abbrev fK (p:List Nat):Kont:=.c (cat Try.f72 p)
theorem qq (hK:KnOk K) (h:mh K n v1 v3 v4 v5 v6=some r):VE (cx72 M w0) (q72 M w0 r) [fK p72_0] .normal (s72_j2 v1 v3 v4 v5 v6):=by
  unfold mh at h
  refine ac (ks':=[fK p72_1,fK p72_2]) 1 (ai 5 ?_)
  obtain ⟨v7,h7,h⟩:=bind_some h
  refine cZ 1057 (tJ hK h7) (gP (i:=66) (by kernel_rfl)) (ag (aQ 1 ?_))
  cases h
  exact cO
theorem sr (hK:KnOk K) (h:nc K n v1 v3 v4 v5=some r):VE (cx72 M w0) (q72 M w0 r) [fK p72_3] .normal (s72_j1 v1 v3 v4 v5):=by
  unfold nc at h
  refine ac (ks':=[fK p72_4,fK p72_0]) 1 (ai 2 ?_)
  rcases au h with ⟨h4,h⟩ | ⟨h4,h⟩
  ·
   refine aL 33 h4 (aV 8 6 ?_)
   rcases au h with ⟨h5,h⟩ | ⟨h5,h⟩
   ·
    refine aL 39 h5 (aV 14 6 ?_)
    rcases au h with ⟨h6,h⟩ | ⟨h6,h⟩
    ·
     exact aL 45 h6 (ag (ah 0 (qq hK h)))
    ·
     exact aL 45 h6 (ag (ah 0 (qq hK h)))
   ·
    exact aL 39 h5 (ag (ah 0 (qq hK h)))
  ·
   exact aL 33 h4 (ag (ah 0 (qq hK h)))
theorem w8 (hK:KnOk K) (h:rP K n v1 v2 v3=some r):ACalls Try.prog 72 [.agg (aF v1),iI v2,.agg (cj v3)] (fun v s=>v = .agg (List.set (aD ({ r with Kids:=[] }:aa)) 66 (.ref 1057))∧look 1057 s.r=some ⟨61,67,lm ao r.Kids⟩):=by
  refine bo (cat Try.f72 []) Try.func72 Try.ntmps72 fun M w0=>(bg ⟨[(0,.agg (aF v1)),(1,iI v2),(2,.agg (cj v3))],[],[],[]⟩ ?_)
  unfold rP at h
  refine ac (ks':=[fK [1,0],fK [1,1]]) 3 (ai 3 ?_)
  obtain ⟨v4,h1,h⟩:=bind_some h
  refine aR (tF hK h1) (ag (ac (ks':=[fK p72_5,fK p72_3]) 3 (ai 2 ?_)))
  rcases au h with ⟨h2,h⟩ | ⟨h2,h⟩
  ·
   refine aL 20 h2 (aV 8 6 ?_)
   rcases au h with ⟨h3,h⟩ | ⟨h3,h⟩
   ·
    exact aL 26 h3 (ag (ah 0 (sr hK h)))
   ·
    exact aL 26 h3 (ag (ah 0 (sr hK h)))
  ·
   exact aL 20 h2 (ag (ah 0 (sr hK h)))
end
noncomputable section
variable {K:Kn} {n:Nat} {M:Nat→Prop} {w0:Base} {r:aa} {v1:ab} {v2:Int} 
abbrev cF53 (p:List Nat):Kont:=.c (cat Try.f53 p)
theorem g_law17_lay_ok (hK:KnOk K) (h:rr K n v1 v2=some r):ACalls Try.prog 53 [.agg (aF v1),iI v2] (fun v s=>v = .agg (List.set (aD ({ r with Kids:=[] }:aa)) 66 (.ref 8))∧look 8 s.r=some ⟨61,67,lm ao r.Kids⟩):=by
  refine bo (cat Try.f53 []) Try.func53 Try.ntmps53 fun M w0=>(bg ⟨[(0,.agg (aF v1)),(1,iI v2)],[],[],[]⟩ ?_)
  unfold rr at h
  refine ac (ks':=[cF53 [1,0],cF53 [1,1]]) 3 (bt [1,2,4] [2,4] [] ?_)
  obtain ⟨v3,h1,h⟩:=bind_some h
  obtain ⟨v4,h2,h⟩:=bind_some h
  refine bE 1 (nu 5 [.agg (aF v1),iI v2,.agg (cj v3),.agg (List.set (aD ({ v4 with Kids:=[] }:aa)) 66 (.ref 8))]) [] [(8,⟨61,67,lm ao v4.Kids⟩)] [stp Try.prog 9 Try.f53 [1,0] 4] (az (vz 2) (aj (e_c 0 1 7 (ro hK h1)) (aj (e_o 0 1 8 (w8 hK h2) (gP (i:=66) (by kernel_rfl))) (aj (e_d 0) bC)))) (aQ 1 ?_)
  cases h
  exact cO
end
noncomputable section
variable {K:Kn} {n:Nat} {M:Nat→Prop} {w0:Base} {r:Int×Int} {v1:ab} 
abbrev cF54 (p:List Nat):Kont:=.c (cat Try.f54 p)
theorem uD (hK:KnOk K) (h:rY K n v1=some r):ACalls Try.prog 54 [.agg (aF v1)] (fun v _=>v = .tup [iI r.1,iI r.2]):=by
  refine bo (cat Try.f54 []) Try.func54 Try.ntmps54 fun M w0=>(bg ⟨[(0,.agg (aF v1))],[],[],[]⟩ ?_)
  unfold rY at h
  refine ac (ks':=[cF54 [1,0],cF54 [1,1]]) 3 (bt [1] [1] [] ?_)
  obtain ⟨v2,h1,h⟩:=bind_some h
  obtain ⟨v3,h2,h⟩:=bind_some h
  refine bE 2 (nu 4 [.agg (aF v1),.agg (cj v2),.tup [iI v3.1,iI v3.2],iI v3.1,iI v3.2]) [] [] [stp Try.prog 9 Try.f54 [1,0] 5,stp Try.prog 9 Try.f54 [1,0] 6] (az [.v 0 1] (aj (e_c 0 1 5 (ro hK h1)) (aj (e_c 0 1 6 (uh hK h2)) (az (vz 2) (aj (e_d 0) (aj (e_d 1) bC)))))) (aQ 1 ?_)
  cases h
  exact dW
end
def gw:=pth 0 11111
def p55_1:=pth 0 11110100
def p55_2:=pth 0 1111010011
def p55_3:=pth 0 1111010000
def p55_4:=pth 0 1111010001
def p55_5:=pth 0 111101001
def p55_6:=pth 0 111101001000
def p55_7:=pth 0 111101001001
def p55_8:=pth 0 11110100100100
def p55_9:=pth 0 11110100100101
def p55_10:=pth 0 1111010
noncomputable section
abbrev cx55 (M:Nat→Prop) (w0:Base):Cx:=⟨Try.prog,42,M,w0⟩
abbrev q55 (M:Nat→Prop) (w0:Base) (r:(List aa)×Int):=bodyPost Try.prog Try.f55 (RetQ M w0 (fun v s=>v = .tup [.ref 35,iI r.2]∧look 35 s.r=some ⟨61,67,lm ao r.1⟩))
abbrev cN (p:List Nat):Kont:=.c (cat Try.f55 p)
abbrev kB (M:Nat→Prop) (w0:Base) (r:(List aa)×Int) (m1:Nat):Kont:=kl (cx55 M w0) (q55 M w0 r) [.b 0,cN gw] (cat Try.f55 p55_1) m1
def s55_j1 (v1:List ab) (v2:aG) (v3 v11 v14:Int) (v15:List aa):AS:=⟨[(0,.sl (lm ax v1)),(2,iI v3),(4,.ptr 4 0),(8,.ref 35),(9,iI v14),(10,iI v11)],[(4,aO v2)],[(35,⟨61,67,lm ao v15⟩)],[4,35]⟩
def s55_l2 (v1:List ab) (v2:aG) (v3 v10 v11:Int) (v12:List aa):AS:=⟨[(0,.sl (lm ax v1)),(2,iI v3),(4,.ptr 4 0),(8,.ref 35),(9,iI v10),(10,iI v11)],[(4,aO v2)],[(35,⟨61,67,lm ao v12⟩)],[4,35]⟩
abbrev H55_1 (M:Nat→Prop) (w0:Base) (r:(List aa)×Int) (v1:List ab) (v2:aG) (v3:Int) (m1:Nat) (L1:Int→Int→(List aa)→Option ((List aa)×Int)):Prop:=∀ {v10:Int} {v11:Int} {v12:(List aa)},L1 v10 v11 v12=some r→LP (cx55 M w0) (q55 M w0 r) [.b 0,cN gw] (cat Try.f55 p55_1) m1 (s55_l2 v1 v2 v3 v10 v11 v12)
variable {K:Kn} {n:Nat} {M:Nat→Prop} {w0:Base} {r:(List aa)×Int} {v1:List ab} {v2:aG} {v3 v10 v11:Int} {v12:List aa} {v14:Int} {v15:List aa} {m1:Nat} {L1:Int→Int→(List aa)→Option ((List aa)×Int)}
theorem sN (hK:KnOk K) (hL1:H55_1 M w0 r v1 v2 v3 m1 L1) (h:ox K n v1 v2 v3 v11 L1 v14 v15=some r):VE (cx55 M w0) (q55 M w0 r) [.b 1,cN p55_2,kB M w0 r m1,.b 0,cN gw] .normal (s55_j1 v1 v2 v3 v11 v14 v15):=by
  unfold ox at h
  exact ah 2 (aY (hL1 h))
theorem vh (hK:KnOk K) (hL1:H55_1 M w0 r v1 v2 v3 m1 L1) (h:mW K n v1 v2 v3 L1 v10 v11 v12=some r):VE (cx55 M w0) (q55 M w0 r) [cN p55_1,kB M w0 r m1,.b 0,cN gw] .normal (s55_l2 v1 v2 v3 v10 v11 v12):=by
  unfold mW at h
  refine ac (ks':=[cN p55_3,cN p55_4,cN p55_5,kB M w0 r m1,.b 0,cN gw]) 2 (ai 2 (aq (aZ ax v1) (ag ?_)))
  rcases au h with ⟨h13,h⟩ | ⟨h13,h⟩
  ·
   refine ak 14 h13 (ac (ks':=[cN p55_6,cN p55_7,.b 1,cN p55_2,kB M w0 r m1,.b 0,cN gw]) 5 (ai 2 ?_))
   obtain ⟨h14,h⟩:=av h
   refine aq (bL ax aF h14 (co) (b8)) (ag ?_)
   obtain ⟨v13,h15,h⟩:=bind_some h
   have h15:=Option.some.inj h15
   refine bq (ks':=[cN p55_7,.b 1,cN p55_2,kB M w0 r m1,.b 0,cN gw]) 0 ⟨[(0,.sl (lm ax v1)),(2,iI v3),(4,.ptr 4 0),(8,.ref 35),(9,iI v10),(10,iI v11),(22,.bool v13)],[(4,aO v2)],[(35,⟨61,67,lm ao v12⟩)],[4,35]⟩ ?_ (by subst h15; kernel_rfl)
   rcases au h with ⟨h16,h⟩ | ⟨h16,h⟩
   ·
    refine ak 22 h16 (ac (ks':=[cN p55_8,cN p55_9,.b 1,cN p55_2,kB M w0 r m1,.b 0,cN gw]) 2 (bt [0,2,4,8,9,10] [4] [35] ?_))
    obtain ⟨h17,h⟩:=av h
    obtain ⟨h18,h⟩:=av h
    exact bE 2 (nu 23 [.ref 35,iI v10,iI v3,.ptr 4 38,iI v2.LineHeight,.sl (lm ax v1),iI v11,.cptr (aF (gD v1 v11)),.cptr (List.drop 55 (aF (gD v1 v11))),.str ((gD v1 v11).Text),.agg (List.set (aD ({ aX with Kind:=2,Y:=v10,W:=v3,H:=v2.LineHeight,Text:=(gD v1 v11).Text }:aa)) 66 (.nils)),.sl (lm ao [({ aX with Kind:=2,Y:=v10,W:=v3,H:=v2.LineHeight,Text:=(gD v1 v11).Text }:aa)])]) [] [] [appS 35 35 ⟨61,67,lm ao (v12++[({ aX with Kind:=2,Y:=v10,W:=v3,H:=v2.LineHeight,Text:=(gD v1 v11).Text }:aa)])⟩,stp Try.prog 42 Try.f55 p55_8 13] (az [.v 0 1,.v 0 2,.v 0 2,.v 0 2,.v 0 2,.v 0 2,.v 0 2] (aj (k_v (lo:=0) (k:=2) (bW ⟨(by kernel_rfl),(cc (bL ax aF h17 (co) (b8)) (by kernel_rfl))⟩ (bW ⟨(by kernel_rfl),(cc (bL ax aF h17 (co) (b8)) (by kernel_rfl))⟩ dd))) (az [.v 0 2,.v 0 2,.v 0 2] (d_v (fc ao ([({ aX with Kind:=2,Y:=v10,W:=v3,H:=v2.LineHeight,Text:=(gD v1 v11).Text }:aa)]:List aa) (new:=[aD ({ aX with Kind:=2,Y:=v10,W:=v3,H:=v2.LineHeight,Text:=(gD v1 v11).Text }:aa)]) (by simp only [List.map_cons,List.map_nil,cm])) (aj (e_s (m:=0) (cE 35 35 61 67 ao (rfl) (db) h18)) (aj (e_d 1) bC)))))) (ah 1 (sN hK hL1 h))
   ·
    exact ak 22 h16 (ah 2 (sN hK hL1 h))
  ·
   refine ak 14 h13 (aQ 8 ?_)
   cases h
   exact eI
theorem uX (hK:KnOk K) (m:Nat):H55_1 M w0 r v1 v2 v3 m (lP K n v1 v2 v3 m):=by
  induction m with
 | zero=>intro v10 v11 v12 h; cases h
 | succ m ih=>intro v10 v11 v12 h; have h:mW K n v1 v2 v3 (lP K n v1 v2 v3 m) v10 v11 v12=some r:=h; exact aW (vh hK ih h)
theorem uY (hK:KnOk K) (h:pM K n v1 v2 v3=some r):ACalls Try.prog 55 [.sl (lm ax v1),.agg (aO v2),iI v3] (fun v s=>v = .tup [.ref 35,iI r.2]∧look 35 s.r=some ⟨61,67,lm ao r.1⟩):=by
  refine bo (cat Try.f55 []) Try.func55 Try.ntmps55 fun M w0=>(bg ⟨[(0,.sl (lm ax v1)),(1,.agg (aO v2)),(2,iI v3)],[],[],[]⟩ ?_)
  unfold pM at h
  exact ac (ks':=[cN p55_10,.b 0,cN gw]) 10 (bt [0,2,4,8,9,10] [4] [] (dF 35 8 61 67 (ah 0 (bz (p:=p55_10) n (uX hK n h)))))
end
def p56_0:=pth 0 11111
def p56_1:=pth 0 11110100
def p56_2:=pth 0 1111010000
def p56_3:=pth 0 1111010001
def p56_4:=pth 0 111101001
def p56_5:=pth 0 111101001000
def p56_6:=pth 0 111101001001
def p56_7:=pth 0 1111010011
def p56_8:=pth 0 1111010
noncomputable section
abbrev cx56 (M:Nat→Prop) (w0:Base):Cx:=⟨Try.prog,31,M,w0⟩
abbrev q56 (M:Nat→Prop) (w0:Base) (r:Int×Int):=bodyPost Try.prog Try.f56 (RetQ M w0 (fun v _=>v = .tup [iI r.1,iI r.2]))
abbrev eS (p:List Nat):Kont:=.c (cat Try.f56 p)
abbrev k56_1 (M:Nat→Prop) (w0:Base) (r:Int×Int) (m1:Nat):Kont:=kl (cx56 M w0) (q56 M w0 r) [.b 0,eS p56_0] (cat Try.f56 p56_1) m1
def s56_l1 (v1:List ab) (v3 v4 v5:Int):AS:=⟨[(0,.sl (lm ax v1)),(6,iI v3),(7,iI v4),(8,iI v5)],[],[],[]⟩
abbrev H56_1 (M:Nat→Prop) (w0:Base) (r:Int×Int) (v1:List ab) (m1:Nat) (L1:Int→Int→Int→Option (Int×Int)):Prop:=∀ {v3:Int} {v4:Int} {v5:Int},L1 v3 v4 v5=some r→LP (cx56 M w0) (q56 M w0 r) [.b 0,eS p56_0] (cat Try.f56 p56_1) m1 (s56_l1 v1 v3 v4 v5)
variable {K:Kn} {n:Nat} {M:Nat→Prop} {w0:Base} {r:Int×Int} {v1:List ab} {v2:aG} {v3 v4 v5:Int} {m1:Nat} {L1:Int→Int→Int→Option (Int×Int)}
theorem wx (hK:KnOk K) (hL1:H56_1 M w0 r v1 m1 L1) (h:nN K n v1 L1 v3 v4 v5=some r):VE (cx56 M w0) (q56 M w0 r) [eS p56_1,k56_1 M w0 r m1,.b 0,eS p56_0] .normal (s56_l1 v1 v3 v4 v5):=by
  unfold nN at h
  refine ac (ks':=[eS p56_2,eS p56_3,eS p56_4,k56_1 M w0 r m1,.b 0,eS p56_0]) 2 (ai 2 (aq (aZ ax v1) (ag ?_)))
  rcases au h with ⟨h3,h⟩ | ⟨h3,h⟩
  ·
   refine ak 13 h3 (ac (ks':=[eS p56_5,eS p56_6,.b 1,eS p56_7,k56_1 M w0 r m1,.b 0,eS p56_0]) 5 (ai 2 ?_))
   obtain ⟨h4,h⟩:=av h
   exact aq (bL ax aF h4 (co) (b8)) (ag (ah 5 (aY (hL1 h))))
  ·
   refine ak 13 h3 (aQ 8 ?_)
   cases h
   exact dW
theorem wU (hK:KnOk K) (m:Nat):H56_1 M w0 r v1 m (j0 K n v1 m):=by
  induction m with
 | zero=>intro v3 v4 v5 h; cases h
 | succ m ih=>intro v3 v4 v5 h; have h:nN K n v1 (j0 K n v1 m) v3 v4 v5=some r:=h; exact aW (wx hK ih h)
theorem wY (hK:KnOk K) (h:qA K n v1 v2=some r):ACalls Try.prog 56 [.sl (lm ax v1),.agg (aO v2)] (fun v _=>v = .tup [iI r.1,iI r.2]):=by
  refine bo (cat Try.f56 []) Try.func56 Try.ntmps56 fun M w0=>(bg ⟨[(0,.sl (lm ax v1)),(1,.agg (aO v2))],[],[],[]⟩ ?_)
  unfold qA at h
  exact ah 10 (bz (p:=p56_8) n (wU hK n h))
end
noncomputable section
variable {K:Kn} {n:Nat} {M:Nat→Prop} {w0:Base} {r:Bool} {v1:Int} 
theorem uJ (hK:KnOk K) (h:rt K n v1=some r):ACalls Try.prog 62 [iI v1] (fun v _=>v = .bool r):=by
  refine bo (cat Try.f62 []) Try.func62 Try.ntmps62 fun M w0=>(bg ⟨[(0,iI v1)],[],[],[]⟩ ?_)
  unfold rt at h
  refine aQ 5 ?_
  cases h
  exact bF
end
end Go.Proofs.Ytolhpahjgddjkaa

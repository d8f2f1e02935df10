/- The runs of the functions that TableWidths reaches do what their plain forms say, part 1. Made by a program. -/
import Derived.Test.YtolhpahjgddjkaaGreatCwGk
import Derived.Test.YtolhpahjgddjkaaGreatCwP0
namespace Go.Proofs.YtolhpahjgddjkaaGreat
open Go.RowKit
set_option maxRecDepth 20000
set_option linter.all false
set_option linter.unusedVariables false
set_option linter.unusedSimpArgs false
noncomputable section
variable(M:Nat→Prop)(w0:aJ)(r v1:aE)(v2:Nat)(v3 v4 v5 v6 v7 v8 v9 v10 v11 v12 v13:aE)  
abbrev eM(n:Nat):ao:=.c (cat Tryz.f76 (pn n))
abbrev Dh:Cx:=⟨Tryz.prog,40,M,w0⟩
abbrev ER:=bodyPost Tryz.prog Tryz.f76 (bX M w0 (fun v _=>v=.agg (aD r)))
abbrev jx(ks:List ao)(s:AS):=VE (Dh M w0) (ER M w0 r) ks .normal s
def Vk:AS:=⟨[(1,.pp 1 v2 0),(2,.ptr 2 0),(24,.ref 10),(25,iI 11),(26,iI 10)],[(1,aD v13),(2,aD cn)],[(10,⟨103,1,lm aM [(v2,6),(v2,10),(v2,12),(v2,14),(v2,22),(v2,16),(v2,24),(v2,18),(v2,26),(v2,20),(v2,28)]⟩)],[1,2,10]⟩
def Q8:AS:=⟨[(1,.pp 1 v2 0),(2,.ptr 2 0),(24,.ref 10),(25,iI 11),(26,iI 9)],[(1,aD v12),(2,aD cn)],[(10,⟨103,1,lm aM [(v2,6),(v2,10),(v2,12),(v2,14),(v2,22),(v2,16),(v2,24),(v2,18),(v2,26),(v2,20),(v2,28)]⟩)],[1,2,10]⟩
def Ul:AS:=⟨[(1,.pp 1 v2 0),(2,.ptr 2 0),(24,.ref 10),(25,iI 11),(26,iI 8)],[(1,aD v11),(2,aD cn)],[(10,⟨103,1,lm aM [(v2,6),(v2,10),(v2,12),(v2,14),(v2,22),(v2,16),(v2,24),(v2,18),(v2,26),(v2,20),(v2,28)]⟩)],[1,2,10]⟩
def YA:AS:=⟨[(1,.pp 1 v2 0),(2,.ptr 2 0),(24,.ref 10),(25,iI 11),(26,iI 7)],[(1,aD v10),(2,aD cn)],[(10,⟨103,1,lm aM [(v2,6),(v2,10),(v2,12),(v2,14),(v2,22),(v2,16),(v2,24),(v2,18),(v2,26),(v2,20),(v2,28)]⟩)],[1,2,10]⟩
def Qv:AS:=⟨[(1,.pp 1 v2 0),(2,.ptr 2 0),(24,.ref 10),(25,iI 11),(26,iI 6)],[(1,aD v9),(2,aD cn)],[(10,⟨103,1,lm aM [(v2,6),(v2,10),(v2,12),(v2,14),(v2,22),(v2,16),(v2,24),(v2,18),(v2,26),(v2,20),(v2,28)]⟩)],[1,2,10]⟩
def aaj:AS:=⟨[(1,.pp 1 v2 0),(2,.ptr 2 0),(24,.ref 10),(25,iI 11),(26,iI 5)],[(1,aD v8),(2,aD cn)],[(10,⟨103,1,lm aM [(v2,6),(v2,10),(v2,12),(v2,14),(v2,22),(v2,16),(v2,24),(v2,18),(v2,26),(v2,20),(v2,28)]⟩)],[1,2,10]⟩
def WK:AS:=⟨[(1,.pp 1 v2 0),(2,.ptr 2 0),(24,.ref 10),(25,iI 11),(26,iI 4)],[(1,aD v7),(2,aD cn)],[(10,⟨103,1,lm aM [(v2,6),(v2,10),(v2,12),(v2,14),(v2,22),(v2,16),(v2,24),(v2,18),(v2,26),(v2,20),(v2,28)]⟩)],[1,2,10]⟩
def XY:AS:=⟨[(1,.pp 1 v2 0),(2,.ptr 2 0),(24,.ref 10),(25,iI 11),(26,iI 3)],[(1,aD v6),(2,aD cn)],[(10,⟨103,1,lm aM [(v2,6),(v2,10),(v2,12),(v2,14),(v2,22),(v2,16),(v2,24),(v2,18),(v2,26),(v2,20),(v2,28)]⟩)],[1,2,10]⟩
def abU:AS:=⟨[(1,.pp 1 v2 0),(2,.ptr 2 0),(24,.ref 10),(25,iI 11),(26,iI 2)],[(1,aD v5),(2,aD cn)],[(10,⟨103,1,lm aM [(v2,6),(v2,10),(v2,12),(v2,14),(v2,22),(v2,16),(v2,24),(v2,18),(v2,26),(v2,20),(v2,28)]⟩)],[1,2,10]⟩
def ack:AS:=⟨[(1,.pp 1 v2 0),(2,.ptr 2 0),(24,.ref 10),(25,iI 11),(26,iI 1)],[(1,aD v4),(2,aD cn)],[(10,⟨103,1,lm aM [(v2,6),(v2,10),(v2,12),(v2,14),(v2,22),(v2,16),(v2,24),(v2,18),(v2,26),(v2,20),(v2,28)]⟩)],[1,2,10]⟩
def Vz:AS:=⟨[(1,.pp 1 v2 0),(2,.ptr 2 0),(24,.ref 10),(25,iI 11),(26,iI 0)],[(1,aD v3),(2,aD cn)],[(10,⟨103,1,lm aM [(v2,6),(v2,10),(v2,12),(v2,14),(v2,22),(v2,16),(v2,24),(v2,18),(v2,26),(v2,20),(v2,28)]⟩)],[1,2,10]⟩
abbrev fc(m:Nat):List ao:=kl (Dh M w0) (ER M w0 r) [.b 2,eM 31] (cat Tryz.f76 (pn 244)) m::[.b 2,eM 31]
abbrev uU(m:Nat):List ao:=kl (Dh M w0) (ER M w0 r) [.b 0,eM 15] (cat Tryz.f76 (pn 116)) m::[.b 0,eM 15]
variable{M w0 r v1 v2 v3 v4 v5 v6 v7 v8 v9 v10 v11 v12 v13}{K:Kn}{n:Nat}
theorem PQ(hK:am K)(h:wX K n v13=some r):jx M w0 r (.b 3::eM 1959::fc M w0 r 29) (Vk v2 v13):=by
 unfold wX at h;refine bq (ks':=fc M w0 r 29) 2 ⟨[(1,.pp 1 v2 0),(2,.ptr 2 0),(24,.ref 10),(25,iI 11),(26,iI 11)],[(1,aD v13),(2,aD cn)],[(10,⟨103,1,lm aM [(v2,6),(v2,10),(v2,12),(v2,14),(v2,22),(v2,16),(v2,24),(v2,18),(v2,26),(v2,20),(v2,28)]⟩)],[1,2,10]⟩ (bd (aU (aW 11 ?_)));cases h;exact bW
theorem KZ(hK:am K)(h:qC K n v12=some r):jx M w0 r (.b 3::eM 1959::fc M w0 r 30) (Q8 v2 v12):=by
 unfold qC at h;refine bq (ks':=fc M w0 r 30) 2 ⟨[(1,.pp 1 v2 0),(2,.ptr 2 0),(24,.ref 10),(25,iI 11),(26,iI 10)],[(1,aD v12),(2,aD cn)],[(10,⟨103,1,lm aM [(v2,6),(v2,10),(v2,12),(v2,14),(v2,22),(v2,16),(v2,24),(v2,18),(v2,26),(v2,20),(v2,28)]⟩)],[1,2,10]⟩ (bd (aU (dK 56 57 3 15 8 (ai 0 (ap (bZ 10 1 aM (L:=([(v2,6),(v2,10),(v2,12),(v2,14),(v2,22),(v2,16),(v2,24),(v2,18),(v2,26),(v2,20),(v2,28)]:List (Nat×Nat))) (i:=(10:Int)) (by kernel_rfl)) (ap (bE 103 0 aM aM (L:=([(v2,6),(v2,10),(v2,12),(v2,14),(v2,22),(v2,16),(v2,24),(v2,18),(v2,26),(v2,20),(v2,28)]:List (Nat×Nat))) (j:=(10:Int).toNat) (of_decide_eq_true (by kernel_rfl)) (fun _=>rfl)) (ae (ax 2 3 1 (ai 3 (cZ 32 1 1 v2 28 0 (ae ?_)))))))))));obtain⟨h11,h⟩|⟨h11,h⟩:=av h
 ·exact ak 34 h11 (ce 2 1 (ai 3 (cZ 37 1 1 v2 28 0 (ae (aj 0 (PQ hK (v2:=v2) h))))))
 ·exact ak 34 h11 (aj 2 (PQ hK (v2:=v2) h))
theorem OE(hK:am K)(h:qS K n v11=some r):jx M w0 r (.b 3::eM 1959::fc M w0 r 31) (Ul v2 v11):=by
 unfold qS at h;refine bq (ks':=fc M w0 r 31) 2 ⟨[(1,.pp 1 v2 0),(2,.ptr 2 0),(24,.ref 10),(25,iI 11),(26,iI 9)],[(1,aD v11),(2,aD cn)],[(10,⟨103,1,lm aM [(v2,6),(v2,10),(v2,12),(v2,14),(v2,22),(v2,16),(v2,24),(v2,18),(v2,26),(v2,20),(v2,28)]⟩)],[1,2,10]⟩ (bd (aU (dK 56 57 3 15 8 (ai 0 (ap (bZ 10 1 aM (L:=([(v2,6),(v2,10),(v2,12),(v2,14),(v2,22),(v2,16),(v2,24),(v2,18),(v2,26),(v2,20),(v2,28)]:List (Nat×Nat))) (i:=(9:Int)) (by kernel_rfl)) (ap (bE 103 0 aM aM (L:=([(v2,6),(v2,10),(v2,12),(v2,14),(v2,22),(v2,16),(v2,24),(v2,18),(v2,26),(v2,20),(v2,28)]:List (Nat×Nat))) (j:=(9:Int).toNat) (of_decide_eq_true (by kernel_rfl)) (fun _=>rfl)) (ae (ax 2 3 1 (ai 3 (cZ 32 1 1 v2 20 0 (ae ?_)))))))))));obtain⟨h10,h⟩|⟨h10,h⟩:=av h
 ·exact ak 34 h10 (ce 2 1 (ai 3 (cZ 37 1 1 v2 20 0 (ae (aj 0 (KZ hK (v2:=v2) h))))))
 ·exact ak 34 h10 (aj 2 (KZ hK (v2:=v2) h))
theorem KQ(hK:am K)(h:sU K n v10=some r):jx M w0 r (.b 3::eM 1959::fc M w0 r 32) (YA v2 v10):=by
 unfold sU at h;refine bq (ks':=fc M w0 r 32) 2 ⟨[(1,.pp 1 v2 0),(2,.ptr 2 0),(24,.ref 10),(25,iI 11),(26,iI 8)],[(1,aD v10),(2,aD cn)],[(10,⟨103,1,lm aM [(v2,6),(v2,10),(v2,12),(v2,14),(v2,22),(v2,16),(v2,24),(v2,18),(v2,26),(v2,20),(v2,28)]⟩)],[1,2,10]⟩ (bd (aU (dK 56 57 3 15 8 (ai 0 (ap (bZ 10 1 aM (L:=([(v2,6),(v2,10),(v2,12),(v2,14),(v2,22),(v2,16),(v2,24),(v2,18),(v2,26),(v2,20),(v2,28)]:List (Nat×Nat))) (i:=(8:Int)) (by kernel_rfl)) (ap (bE 103 0 aM aM (L:=([(v2,6),(v2,10),(v2,12),(v2,14),(v2,22),(v2,16),(v2,24),(v2,18),(v2,26),(v2,20),(v2,28)]:List (Nat×Nat))) (j:=(8:Int).toNat) (of_decide_eq_true (by kernel_rfl)) (fun _=>rfl)) (ae (ax 2 3 1 (ai 3 (cZ 32 1 1 v2 26 0 (ae ?_)))))))))));obtain⟨h9,h⟩|⟨h9,h⟩:=av h
 ·exact ak 34 h9 (ce 2 1 (ai 3 (cZ 37 1 1 v2 26 0 (ae (aj 0 (OE hK (v2:=v2) h))))))
 ·exact ak 34 h9 (aj 2 (OE hK (v2:=v2) h))
theorem MY(hK:am K)(h:rq K n v9=some r):jx M w0 r (.b 3::eM 1959::fc M w0 r 33) (Qv v2 v9):=by
 unfold rq at h;refine bq (ks':=fc M w0 r 33) 2 ⟨[(1,.pp 1 v2 0),(2,.ptr 2 0),(24,.ref 10),(25,iI 11),(26,iI 7)],[(1,aD v9),(2,aD cn)],[(10,⟨103,1,lm aM [(v2,6),(v2,10),(v2,12),(v2,14),(v2,22),(v2,16),(v2,24),(v2,18),(v2,26),(v2,20),(v2,28)]⟩)],[1,2,10]⟩ (bd (aU (dK 56 57 3 15 8 (ai 0 (ap (bZ 10 1 aM (L:=([(v2,6),(v2,10),(v2,12),(v2,14),(v2,22),(v2,16),(v2,24),(v2,18),(v2,26),(v2,20),(v2,28)]:List (Nat×Nat))) (i:=(7:Int)) (by kernel_rfl)) (ap (bE 103 0 aM aM (L:=([(v2,6),(v2,10),(v2,12),(v2,14),(v2,22),(v2,16),(v2,24),(v2,18),(v2,26),(v2,20),(v2,28)]:List (Nat×Nat))) (j:=(7:Int).toNat) (of_decide_eq_true (by kernel_rfl)) (fun _=>rfl)) (ae (ax 2 3 1 (ai 3 (cZ 32 1 1 v2 18 0 (ae ?_)))))))))));obtain⟨h8,h⟩|⟨h8,h⟩:=av h
 ·exact ak 34 h8 (ce 2 1 (ai 3 (cZ 37 1 1 v2 18 0 (ae (aj 0 (KQ hK (v2:=v2) h))))))
 ·exact ak 34 h8 (aj 2 (KQ hK (v2:=v2) h))
theorem Je(hK:am K)(h:tp K n v8=some r):jx M w0 r (.b 3::eM 1959::fc M w0 r 34) (aaj v2 v8):=by
 unfold tp at h;refine bq (ks':=fc M w0 r 34) 2 ⟨[(1,.pp 1 v2 0),(2,.ptr 2 0),(24,.ref 10),(25,iI 11),(26,iI 6)],[(1,aD v8),(2,aD cn)],[(10,⟨103,1,lm aM [(v2,6),(v2,10),(v2,12),(v2,14),(v2,22),(v2,16),(v2,24),(v2,18),(v2,26),(v2,20),(v2,28)]⟩)],[1,2,10]⟩ (bd (aU (dK 56 57 3 15 8 (ai 0 (ap (bZ 10 1 aM (L:=([(v2,6),(v2,10),(v2,12),(v2,14),(v2,22),(v2,16),(v2,24),(v2,18),(v2,26),(v2,20),(v2,28)]:List (Nat×Nat))) (i:=(6:Int)) (by kernel_rfl)) (ap (bE 103 0 aM aM (L:=([(v2,6),(v2,10),(v2,12),(v2,14),(v2,22),(v2,16),(v2,24),(v2,18),(v2,26),(v2,20),(v2,28)]:List (Nat×Nat))) (j:=(6:Int).toNat) (of_decide_eq_true (by kernel_rfl)) (fun _=>rfl)) (ae (ax 2 3 1 (ai 3 (cZ 32 1 1 v2 24 0 (ae ?_)))))))))));obtain⟨h7,h⟩|⟨h7,h⟩:=av h
 ·exact ak 34 h7 (ce 2 1 (ai 3 (cZ 37 1 1 v2 24 0 (ae (aj 0 (MY hK (v2:=v2) h))))))
 ·exact ak 34 h7 (aj 2 (MY hK (v2:=v2) h))
theorem N4(hK:am K)(h:td K n v7=some r):jx M w0 r (.b 3::eM 1959::fc M w0 r 35) (WK v2 v7):=by
 unfold td at h;refine bq (ks':=fc M w0 r 35) 2 ⟨[(1,.pp 1 v2 0),(2,.ptr 2 0),(24,.ref 10),(25,iI 11),(26,iI 5)],[(1,aD v7),(2,aD cn)],[(10,⟨103,1,lm aM [(v2,6),(v2,10),(v2,12),(v2,14),(v2,22),(v2,16),(v2,24),(v2,18),(v2,26),(v2,20),(v2,28)]⟩)],[1,2,10]⟩ (bd (aU (dK 56 57 3 15 8 (ai 0 (ap (bZ 10 1 aM (L:=([(v2,6),(v2,10),(v2,12),(v2,14),(v2,22),(v2,16),(v2,24),(v2,18),(v2,26),(v2,20),(v2,28)]:List (Nat×Nat))) (i:=(5:Int)) (by kernel_rfl)) (ap (bE 103 0 aM aM (L:=([(v2,6),(v2,10),(v2,12),(v2,14),(v2,22),(v2,16),(v2,24),(v2,18),(v2,26),(v2,20),(v2,28)]:List (Nat×Nat))) (j:=(5:Int).toNat) (of_decide_eq_true (by kernel_rfl)) (fun _=>rfl)) (ae (ax 2 3 1 (ai 3 (cZ 32 1 1 v2 16 0 (ae ?_)))))))))));obtain⟨h6,h⟩|⟨h6,h⟩:=av h
 ·exact ak 34 h6 (ce 2 1 (ai 3 (cZ 37 1 1 v2 16 0 (ae (aj 0 (Je hK (v2:=v2) h))))))
 ·exact ak 34 h6 (aj 2 (Je hK (v2:=v2) h))
theorem ME(hK:am K)(h:s8 K n v6=some r):jx M w0 r (.b 3::eM 1959::fc M w0 r 36) (XY v2 v6):=by
 unfold s8 at h;refine bq (ks':=fc M w0 r 36) 2 ⟨[(1,.pp 1 v2 0),(2,.ptr 2 0),(24,.ref 10),(25,iI 11),(26,iI 4)],[(1,aD v6),(2,aD cn)],[(10,⟨103,1,lm aM [(v2,6),(v2,10),(v2,12),(v2,14),(v2,22),(v2,16),(v2,24),(v2,18),(v2,26),(v2,20),(v2,28)]⟩)],[1,2,10]⟩ (bd (aU (dK 56 57 3 15 8 (ai 0 (ap (bZ 10 1 aM (L:=([(v2,6),(v2,10),(v2,12),(v2,14),(v2,22),(v2,16),(v2,24),(v2,18),(v2,26),(v2,20),(v2,28)]:List (Nat×Nat))) (i:=(4:Int)) (by kernel_rfl)) (ap (bE 103 0 aM aM (L:=([(v2,6),(v2,10),(v2,12),(v2,14),(v2,22),(v2,16),(v2,24),(v2,18),(v2,26),(v2,20),(v2,28)]:List (Nat×Nat))) (j:=(4:Int).toNat) (of_decide_eq_true (by kernel_rfl)) (fun _=>rfl)) (ae (ax 2 3 1 (ai 3 (cZ 32 1 1 v2 22 0 (ae ?_)))))))))));obtain⟨h5,h⟩|⟨h5,h⟩:=av h
 ·exact ak 34 h5 (ce 2 1 (ai 3 (cZ 37 1 1 v2 22 0 (ae (aj 0 (N4 hK (v2:=v2) h))))))
 ·exact ak 34 h5 (aj 2 (N4 hK (v2:=v2) h))
theorem Pa(hK:am K)(h:sv K n v5=some r):jx M w0 r (.b 3::eM 1959::fc M w0 r 37) (abU v2 v5):=by
 unfold sv at h;refine bq (ks':=fc M w0 r 37) 2 ⟨[(1,.pp 1 v2 0),(2,.ptr 2 0),(24,.ref 10),(25,iI 11),(26,iI 3)],[(1,aD v5),(2,aD cn)],[(10,⟨103,1,lm aM [(v2,6),(v2,10),(v2,12),(v2,14),(v2,22),(v2,16),(v2,24),(v2,18),(v2,26),(v2,20),(v2,28)]⟩)],[1,2,10]⟩ (bd (aU (dK 56 57 3 15 8 (ai 0 (ap (bZ 10 1 aM (L:=([(v2,6),(v2,10),(v2,12),(v2,14),(v2,22),(v2,16),(v2,24),(v2,18),(v2,26),(v2,20),(v2,28)]:List (Nat×Nat))) (i:=(3:Int)) (by kernel_rfl)) (ap (bE 103 0 aM aM (L:=([(v2,6),(v2,10),(v2,12),(v2,14),(v2,22),(v2,16),(v2,24),(v2,18),(v2,26),(v2,20),(v2,28)]:List (Nat×Nat))) (j:=(3:Int).toNat) (of_decide_eq_true (by kernel_rfl)) (fun _=>rfl)) (ae (ax 2 3 1 (ai 3 (cZ 32 1 1 v2 14 0 (ae ?_)))))))))));obtain⟨h4,h⟩|⟨h4,h⟩:=av h
 ·exact ak 34 h4 (ce 2 1 (ai 3 (cZ 37 1 1 v2 14 0 (ae (aj 0 (ME hK (v2:=v2) h))))))
 ·exact ak 34 h4 (aj 2 (ME hK (v2:=v2) h))
theorem Mt(hK:am K)(h:rZ K n v4=some r):jx M w0 r (.b 3::eM 1959::fc M w0 r 38) (ack v2 v4):=by
 unfold rZ at h;refine bq (ks':=fc M w0 r 38) 2 ⟨[(1,.pp 1 v2 0),(2,.ptr 2 0),(24,.ref 10),(25,iI 11),(26,iI 2)],[(1,aD v4),(2,aD cn)],[(10,⟨103,1,lm aM [(v2,6),(v2,10),(v2,12),(v2,14),(v2,22),(v2,16),(v2,24),(v2,18),(v2,26),(v2,20),(v2,28)]⟩)],[1,2,10]⟩ (bd (aU (dK 56 57 3 15 8 (ai 0 (ap (bZ 10 1 aM (L:=([(v2,6),(v2,10),(v2,12),(v2,14),(v2,22),(v2,16),(v2,24),(v2,18),(v2,26),(v2,20),(v2,28)]:List (Nat×Nat))) (i:=(2:Int)) (by kernel_rfl)) (ap (bE 103 0 aM aM (L:=([(v2,6),(v2,10),(v2,12),(v2,14),(v2,22),(v2,16),(v2,24),(v2,18),(v2,26),(v2,20),(v2,28)]:List (Nat×Nat))) (j:=(2:Int).toNat) (of_decide_eq_true (by kernel_rfl)) (fun _=>rfl)) (ae (ax 2 3 1 (ai 3 (cZ 32 1 1 v2 12 0 (ae ?_)))))))))));obtain⟨h3,h⟩|⟨h3,h⟩:=av h
 ·exact ak 34 h3 (ce 2 1 (ai 3 (cZ 37 1 1 v2 12 0 (ae (aj 0 (Pa hK (v2:=v2) h))))))
 ·exact ak 34 h3 (aj 2 (Pa hK (v2:=v2) h))
theorem Ob(hK:am K)(h:qZ K n v3=some r):jx M w0 r (.b 3::eM 1959::fc M w0 r 39) (Vz v2 v3):=by
 unfold qZ at h;refine bq (ks':=fc M w0 r 39) 2 ⟨[(1,.pp 1 v2 0),(2,.ptr 2 0),(24,.ref 10),(25,iI 11),(26,iI 1)],[(1,aD v3),(2,aD cn)],[(10,⟨103,1,lm aM [(v2,6),(v2,10),(v2,12),(v2,14),(v2,22),(v2,16),(v2,24),(v2,18),(v2,26),(v2,20),(v2,28)]⟩)],[1,2,10]⟩ (bd (aU (dK 56 57 3 15 8 (ai 0 (ap (bZ 10 1 aM (L:=([(v2,6),(v2,10),(v2,12),(v2,14),(v2,22),(v2,16),(v2,24),(v2,18),(v2,26),(v2,20),(v2,28)]:List (Nat×Nat))) (i:=(1:Int)) (by kernel_rfl)) (ap (bE 103 0 aM aM (L:=([(v2,6),(v2,10),(v2,12),(v2,14),(v2,22),(v2,16),(v2,24),(v2,18),(v2,26),(v2,20),(v2,28)]:List (Nat×Nat))) (j:=(1:Int).toNat) (of_decide_eq_true (by kernel_rfl)) (fun _=>rfl)) (ae (ax 2 3 1 (ai 3 (cZ 32 1 1 v2 10 0 (ae ?_)))))))))));obtain⟨h2,h⟩|⟨h2,h⟩:=av h
 ·exact ak 34 h2 (ce 2 1 (ai 3 (cZ 37 1 1 v2 10 0 (ae (aj 0 (Mt hK (v2:=v2) h))))))
 ·exact ak 34 h2 (aj 2 (Mt hK (v2:=v2) h))
theorem Oo(hK:am K)(h:sD K n v1=some r):aQ Tryz.prog 76 [.agg (aD v1)] (fun v _=>v=.agg (aD r)):=by
 refine bF (cat Tryz.f76 (pn 1)) Tryz.func76 Tryz.ntmps76 fun M w0=>(bx ⟨[(0,.agg (aD v1))],[],[],[]⟩ ?_);unfold sD at h;refine ax 6 7 3 (Mv 1 1 0 fun v2=>(ai 3 (JX 104 3 #[(0,(.tmp 7)),(1,(.tmp 8)),(2,(.tmp 9))] 10 (e:=103) (sz:=1) (l:=lm aM [(v2,6),(v2,10),(v2,12)]) (ae (bq (ks':=[eM 58,.b 0,eM 15]) 4 ⟨[(1,.pp 1 v2 0),(2,.ptr 2 0),(3,.ref 10),(11,iI 0)],[(1,aD v1),(2,aD cn)],[(10,⟨103,1,lm aM [(v2,6),(v2,10),(v2,12)]⟩)],[1,2,10]⟩ (kz 40 (c:=cat Tryz.f76 [1,1,0,1,0,0]) (by kernel_rfl) (aU (df (ks':=eM 3737 :: .b 1::eM 935::uU M w0 r 39) 9 (bI [1,2,3,4,11] [1,2] [10] (co 2 (nu 14 [.ref 10,iI 0,.adr v2 14,.adr v2 14,iI 0,.adr v2 22,.adr v2 22,.sl (lm aM [(v2,14),(v2,22)])]) [] [] [fZ 22 10 ⟨103,1,lm aM [(v2,6),(v2,10),(v2,12),(v2,14),(v2,22)]⟩,cw Tryz.prog 40 Tryz.f76 (pn 3737) 9] (aF [.v 0 1,.v 0 2,.v 0 2,.v 0 2,.v 0 2,.v 0 2,.v 0 2,.v 0 1] (aC (c7 (m:=0) (c6 22 10 103 1 aM (L:=([(v2,6),(v2,10),(v2,12)]:List (Nat×Nat))) (M:=([(v2,14),(v2,22)]:(List (Nat×Nat)))) (bytes:=8) (rfl) (fun _=>rfl) (by kernel_rfl))) (aC (cG 1) cp))) (bq (ks':=uU M w0 r 39) 2 ⟨[(1,.pp 1 v2 0),(2,.ptr 2 0),(3,.ref 10),(11,iI 1)],[(1,aD v1),(2,aD cn)],[(10,⟨103,1,lm aM [(v2,6),(v2,10),(v2,12),(v2,14),(v2,22)]⟩)],[1,2,10]⟩ (bd (aU (gx 57 1 15 9 (bI [1,2,3,4,11] [1,2] [10] (co 2 (nu 14 [.ref 10,iI 1,.adr v2 14,.adr v2 16,iI 1,.adr v2 22,.adr v2 24,.sl (lm aM [(v2,16),(v2,24)])]) [] [] [fZ 22 10 ⟨103,1,lm aM [(v2,6),(v2,10),(v2,12),(v2,14),(v2,22),(v2,16),(v2,24)]⟩,cw Tryz.prog 40 Tryz.f76 (pn 3737) 9] (aF [.v 0 1,.v 0 2,.v 0 2,.v 0 2,.v 0 2,.v 0 2,.v 0 2,.v 0 1] (aC (c7 (m:=0) (c6 22 10 103 1 aM (L:=([(v2,6),(v2,10),(v2,12),(v2,14),(v2,22)]:List (Nat×Nat))) (M:=([(v2,16),(v2,24)]:(List (Nat×Nat)))) (bytes:=8) (rfl) (fun _=>rfl) (by kernel_rfl))) (aC (cG 1) cp))) (bq (ks':=uU M w0 r 38) 2 ⟨[(1,.pp 1 v2 0),(2,.ptr 2 0),(3,.ref 10),(11,iI 2)],[(1,aD v1),(2,aD cn)],[(10,⟨103,1,lm aM [(v2,6),(v2,10),(v2,12),(v2,14),(v2,22),(v2,16),(v2,24)]⟩)],[1,2,10]⟩ (bd (aU (gx 57 1 15 9 (bI [1,2,3,4,11] [1,2] [10] (co 2 (nu 14 [.ref 10,iI 2,.adr v2 14,.adr v2 18,iI 2,.adr v2 22,.adr v2 26,.sl (lm aM [(v2,18),(v2,26)])]) [] [] [fZ 22 10 ⟨103,1,lm aM [(v2,6),(v2,10),(v2,12),(v2,14),(v2,22),(v2,16),(v2,24),(v2,18),(v2,26)]⟩,cw Tryz.prog 40 Tryz.f76 (pn 3737) 9] (aF [.v 0 1,.v 0 2,.v 0 2,.v 0 2,.v 0 2,.v 0 2,.v 0 2,.v 0 1] (aC (c7 (m:=0) (c6 22 10 103 1 aM (L:=([(v2,6),(v2,10),(v2,12),(v2,14),(v2,22),(v2,16),(v2,24)]:List (Nat×Nat))) (M:=([(v2,18),(v2,26)]:(List (Nat×Nat)))) (bytes:=8) (rfl) (fun _=>rfl) (by kernel_rfl))) (aC (cG 1) cp))) (bq (ks':=uU M w0 r 37) 2 ⟨[(1,.pp 1 v2 0),(2,.ptr 2 0),(3,.ref 10),(11,iI 3)],[(1,aD v1),(2,aD cn)],[(10,⟨103,1,lm aM [(v2,6),(v2,10),(v2,12),(v2,14),(v2,22),(v2,16),(v2,24),(v2,18),(v2,26)]⟩)],[1,2,10]⟩ ?_)))))))))))))))))))))))
 refine bd (aU (gx 57 1 15 9 (bI [1,2,3,4,11] [1,2] [10] (co 2 (nu 14 [.ref 10,iI 3,.adr v2 14,.adr v2 20,iI 3,.adr v2 22,.adr v2 28,.sl (lm aM [(v2,20),(v2,28)])]) [] [] [fZ 22 10 ⟨103,1,lm aM [(v2,6),(v2,10),(v2,12),(v2,14),(v2,22),(v2,16),(v2,24),(v2,18),(v2,26),(v2,20),(v2,28)]⟩,cw Tryz.prog 40 Tryz.f76 (pn 3737) 9] (aF [.v 0 1,.v 0 2,.v 0 2,.v 0 2,.v 0 2,.v 0 2,.v 0 2,.v 0 1] (aC (c7 (m:=0) (c6 22 10 103 1 aM (L:=([(v2,6),(v2,10),(v2,12),(v2,14),(v2,22),(v2,16),(v2,24),(v2,18),(v2,26)]:List (Nat×Nat))) (M:=([(v2,20),(v2,28)]:(List (Nat×Nat)))) (bytes:=8) (rfl) (fun _=>rfl) (by kernel_rfl))) (aC (cG 1) cp))) (bq (ks':=uU M w0 r 36) 2 ⟨[(1,.pp 1 v2 0),(2,.ptr 2 0),(3,.ref 10),(11,iI 4)],[(1,aD v1),(2,aD cn)],[(10,⟨103,1,lm aM [(v2,6),(v2,10),(v2,12),(v2,14),(v2,22),(v2,16),(v2,24),(v2,18),(v2,26),(v2,20),(v2,28)]⟩)],[1,2,10]⟩ (bd (aU (Js 4 5 3 10 (ai 1 (ap (bK aM ([(v2,6),(v2,10),(v2,12),(v2,14),(v2,22),(v2,16),(v2,24),(v2,18),(v2,26),(v2,20),(v2,28)]:List (Nat×Nat))) (ae (bq (ks':=[eM 122,.b 2,eM 31]) 1 ⟨[(1,.pp 1 v2 0),(2,.ptr 2 0),(24,.ref 10),(25,iI 11),(26,iI 0)],[(1,aD v1),(2,aD cn)],[(10,⟨103,1,lm aM [(v2,6),(v2,10),(v2,12),(v2,14),(v2,22),(v2,16),(v2,24),(v2,18),(v2,26),(v2,20),(v2,28)]⟩)],[1,2,10]⟩ (kz 40 (c:=cat Tryz.f76 [1,1,1,0,1,0,0]) (by kernel_rfl) (aU (df (ks':=eM 7832::eM 7833 :: .b 3::eM 1959::fc M w0 r 39) 8 (ai 0 (ap (bZ 10 1 aM (L:=([(v2,6),(v2,10),(v2,12),(v2,14),(v2,22),(v2,16),(v2,24),(v2,18),(v2,26),(v2,20),(v2,28)]:List (Nat×Nat))) (i:=(0:Int)) (by kernel_rfl)) (ap (bE 103 0 aM aM (L:=([(v2,6),(v2,10),(v2,12),(v2,14),(v2,22),(v2,16),(v2,24),(v2,18),(v2,26),(v2,20),(v2,28)]:List (Nat×Nat))) (j:=(0:Int).toNat) (of_decide_eq_true (by kernel_rfl)) (fun _=>rfl)) (ae (ax 2 3 1 (ai 3 (cZ 32 1 1 v2 6 0 (ae ?_)))))))))))))))))))))))
 obtain⟨h1,h⟩|⟨h1,h⟩:=av h
 ·exact ak 34 h1 (ce 2 1 (ai 3 (cZ 37 1 1 v2 6 0 (ae (aj 0 (Ob hK (v2:=v2) h))))))
 ·exact ak 34 h1 (aj 2 (Ob hK (v2:=v2) h))
end
noncomputable section
variable(M:Nat→Prop)(w0:aJ)(r:Bool)(v1:ac)(v2:Bool)  
abbrev Ub(n:Nat):ao:=.c (cat Tryz.f105 (pn n))
abbrev adi:Cx:=⟨Tryz.prog,12,M,w0⟩
abbrev adm:=bodyPost Tryz.prog Tryz.f105 (bX M w0 (fun v _=>v=.bool r))
abbrev aca(ks:List ao)(s:AS):=VE (adi M w0) (adm M w0 r) ks .normal s
def YP:AS:=⟨[(2,.bool v2)],[],[],[]⟩
variable{M w0 r v1 v2}{K:Kn}{n:Nat}
theorem KL(hK:am K)(h:uI K n v2=some r):aca M w0 r [Ub 7] (YP v2):=by
 unfold uI at h;refine aW 1 ?_;cases h;exact bW
theorem Zv(hK:am K)(h:ur K n v1=some r):aQ Tryz.prog 105 [.agg (aI v1)] (fun v _=>v=.bool r):=by
 refine bF (cat Tryz.f105 (pn 1)) Tryz.func105 Tryz.ntmps105 fun M w0=>(bx ⟨[(0,.agg (aI v1))],[],[],[]⟩ ?_);unfold ur at h;refine ax 6 7 3 (ai 4 ?_);obtain⟨h1,h⟩|⟨h1,h⟩:=av h
 ·exact aY 6 h1 (ae (aj 0 (KL hK h)))
 ·exact aY 6 h1 (ae (aj 0 (KL hK h)))
end
noncomputable section
variable(M:Nat→Prop)(w0:aJ)(r:Int)(v1:List ac)(v2:Fv)(v4:Int)(m1:Nat)(L1:Int→Option Int)
abbrev Co:Cx:=⟨Tryz.prog,19,M,w0⟩
abbrev FW:=bodyPost Tryz.prog Tryz.f108 (bX M w0 (fun v _=>v=iI r))
abbrev Sw(ks:List ao)(s:AS):=VE (Co M w0) (FW M w0 r) ks .normal s
abbrev JM(n:Nat):ao:=.c (cat Tryz.f108 (pn n))
abbrev Ef:List ao:=[.b 0,JM 7]
abbrev Tj:List ao:=kl (Co M w0) (FW M w0 r) Ef (cat Tryz.f108 (pn 52)) m1::Ef
def Ky:AS:=⟨[(0,.sl (lm az v1)),(1,.fn v2.id v2.aN),(7,iI (v1.length:Int)),(8,iI v4)],[],[],[]⟩
abbrev Kg:Prop:=∀{v4:Int},L1 v4=some r→LP (Co M w0) (FW M w0 r) Ef (cat Tryz.f108 (pn 52)) m1 (Ky v1 v2 v4)
variable{M w0 r v1 v2 v4 m1 L1}{K:Kn}{n:Nat}
theorem TV(hK:am K)(hL1:Kg M w0 r v1 v2 m1 L1)(h:yi K n v1 v2 L1 v4=some r):Sw M w0 r (JM 52::Tj M w0 r m1) (Ky v1 v2 v4):=by
 unfold yi at h;refine ax 6 7 3 ?_;obtain⟨h5,h⟩|⟨h5,h⟩:=av h
 ·refine ak 9 h5 (cF 18 19 1 3 7 (ai 3 ?_));obtain⟨h6,h⟩:=aw h;refine ap (cc az aI h6 (dw) (cS)) (br 5 1 ?_);obtain⟨v5,h7,h⟩:=bind_some h;refine oy (hK.kT h7) (ae ?_);obtain⟨h8,h⟩|⟨h8,h⟩:=av h
  ·refine ak 16 h8 (aW 9 ?_);cases h;exact bW
  ·exact ak 16 h8 (aj 4 (bd (hL1 h)))
 ·refine ak 9 h5 (aW 8 ?_);cases h;exact bW
theorem Th(hK:am K)(m:Nat):Kg M w0 r v1 v2 m (oF K n v1 v2 m):=by
 induction m with
 | zero=>intro v4 h;cases h
 | succ m ih=>intro v4 h;have h:yi K n v1 v2 (oF K n v1 v2 m) v4=some r:=h;exact aU (TV hK ih h)
theorem TO(hK:am K)(h:AE K n v1 v2=some r):aQ Tryz.prog 108 [.sl (lm az v1),.fn v2.id v2.aN] (fun v _=>v=iI r):=by
 refine bF (cat Tryz.f108 (pn 1)) Tryz.func108 Tryz.ntmps108 fun M w0=>(bx ⟨[(0,.sl (lm az v1)),(1,.fn v2.id v2.aN)],[],[],[]⟩ ?_);unfold AE at h;exact cm 12 13 7 4 (ai 1 (ap (bK az v1) (ae (aj 1 (bP (p:=pn 26) n (Th hK n h))))))
end
noncomputable section
variable(M:Nat→Prop)(w0:aJ)(r:Bool)(v1:List ac)(v2:Fv)  
variable{M w0 r v1 v2}{K:Kn}{n:Nat}
theorem abL(hK:am K)(h:sG K n v1 v2=some r):aQ Tryz.prog 106 [.sl (lm az v1),.fn v2.id v2.aN] (fun v _=>v=.bool r):=by
 refine bF (cat Tryz.f106 (pn 1)) Tryz.func106 Tryz.ntmps106 fun M w0=>(bx ⟨[(0,.sl (lm az v1)),(1,.fn v2.id v2.aN)],[],[],[]⟩ ?_);unfold sG at h;refine ax 6 7 3 (ai 2 ?_);obtain⟨v3,h1,h⟩:=bind_some h;refine aK (TO hK h1) (ae (aW 1 ?_));cases h;exact bW
end
noncomputable section
variable(M:Nat→Prop)(w0:aJ)(r:(List ac)×Bool)(v1:ac)(v8:Int)(v9 v11:(List ac))(m1:Nat)(L1:Int→(List ac)→Option ((List ac)×Bool))
abbrev EQ:Cx:=⟨Tryz.prog,24,M,w0⟩
abbrev FT:=bodyPost Tryz.prog Tryz.f91 (bX M w0 (fun v _=>v=.tup [.sl (lm az r.1),.bool r.2]))
abbrev HW(ks:List ao)(s:AS):=VE (EQ M w0) (FT M w0 r) ks .normal s
abbrev F1(n:Nat):ao:=.c (cat Tryz.f91 (pn n))
abbrev DA:List ao:=[.b 0,F1 15]
abbrev Lw:List ao:=kl (EQ M w0) (FT M w0 r) DA (cat Tryz.f91 (pn 116)) m1::DA
def Xa:AS:=⟨[(4,.ref 19),(8,.sl (lm az v1.Kids)),(9,iI (v1.Kids.length:Int)),(10,iI v8)],[],[(19,⟨33,59,lm az v11⟩)],[19]⟩
def Jq:AS:=⟨[(4,.ref 19),(8,.sl (lm az v1.Kids)),(9,iI (v1.Kids.length:Int)),(10,iI v8)],[],[(19,⟨33,59,lm az v9⟩)],[19]⟩
abbrev GJ:Prop:=∀{v8:Int} {v9:(List ac)},L1 v8 v9=some r→LP (EQ M w0) (FT M w0 r) DA (cat Tryz.f91 (pn 116)) m1 (Jq v1 v8 v9)
variable{M w0 r v1 v8 v9 v11 m1 L1}{K:Kn}{n:Nat}
theorem Kp(hK:am K)(hL1:GJ M w0 r v1 m1 L1)(h:xf K n v1 v8 L1 v11=some r):HW M w0 r (.b 1::F1 935::Lw M w0 r m1) (Xa v1 v8 v11):=by
 unfold xf at h;exact aj 2 (bd (hL1 h))
theorem YM(hK:am K)(hL1:GJ M w0 r v1 m1 L1)(h:wy K n v1 L1 v8 v9=some r):HW M w0 r (F1 116::Lw M w0 r m1) (Jq v1 v8 v9):=by
 unfold wy at h;refine ax 6 7 3 ?_;obtain⟨h13,h⟩|⟨h13,h⟩:=av h
 ·refine ak 11 h13 (cF 8 9 1 3 5 (ai 0 ?_));obtain⟨h14,h⟩:=aw h;refine ap (cc az aI h14 (dw) (cS)) (ae (ax 2 3 1 (ai 1 ?_)));obtain⟨v10,h15,h⟩:=bind_some h;refine aK (Zv hK h15) (ae ?_);obtain⟨h16,h⟩|⟨h16,h⟩:=av h
  ·refine ak 15 h16 (ce 2 1 (ai 2 (ap (gV az ([(gD v1.Kids v8)]:List ac) (new:=[aI (gD v1.Kids v8)]) (by simp only[List.map_cons,List.map_nil,cS])) ?_)));obtain⟨h17,h⟩:=aw h;exact ap (c6 19 19 33 59 az (rfl) (dw) h17) (ae (aj 0 (Kp hK hL1 h)))
  ·exact ak 15 h16 (aj 2 (Kp hK hL1 h))
 ·refine ak 11 h13 (eG 2 3 6 (ai 2 (eO 19 ?_)));obtain⟨v12,h18,h⟩:=bind_some h;refine aK (abL hK h18) (ae (aW 1 ?_));cases h;exact eu
theorem Zo(hK:am K)(m:Nat):GJ M w0 r v1 m (sA K n v1 m):=by
 induction m with
 | zero=>intro v8 v9 h;cases h
 | succ m ih=>intro v8 v9 h;have h:wy K n v1 (sA K n v1 m) v8 v9=some r:=h;exact aU (YM hK ih h)
theorem LA(hK:am K)(h:qE K n v1=some r):aQ Tryz.prog 91 [.agg (aI v1)] (fun v _=>v=.tup [.sl (lm az r.1),.bool r.2]):=by
 refine bF (cat Tryz.f91 (pn 1)) Tryz.func91 Tryz.ntmps91 fun M w0=>(bx ⟨[(0,.agg (aI v1))],[],[],[]⟩ ?_);unfold qE at h;exact cm 28 29 15 6 (ai 2 (ap (bK az v1.Kids) (ae (ip 2 0 1 (bI [4,8,9,10] [] [] (eJ 19 4 33 59 (aj 0 (bP (p:=pn 58) n (Zo hK n h)))))))))
end
noncomputable section
variable(M:Nat→Prop)(w0:aJ)(r:Int×Int)(v1:ac)(v2:c8)(v6:(List ac)×Bool)(v11 v12 v13:Int)(m1:Nat)(L1:Int→Int→Int→Option (Int×Int))
abbrev Gs:Cx:=⟨Tryz.prog,71,M,w0⟩
abbrev E5:=bodyPost Tryz.prog Tryz.f75 (bX M w0 (fun v _=>v=.tup [iI r.1,iI r.2]))
abbrev Xg(ks:List ao)(s:AS):=VE (Gs M w0) (E5 M w0 r) ks .normal s
abbrev Nk(n:Nat):ao:=.c (cat Tryz.f75 (pn n))
abbrev CW:List ao:=[.b 0,Nk 63]
abbrev UP:List ao:=kl (Gs M w0) (E5 M w0 r) CW (cat Tryz.f75 (pn 500)) m1::CW
def Lo:AS:=⟨[(3,.ptr 3 0),(4,iI v11),(5,iI v12),(47,.sl (lm az v6.1)),(48,iI (v6.1.length:Int)),(49,iI v13)],[(3,dC v2)],[],[3]⟩
abbrev MU:Prop:=∀{v11:Int} {v12:Int} {v13:Int},L1 v11 v12 v13=some r→LP (Gs M w0) (E5 M w0 r) CW (cat Tryz.f75 (pn 500)) m1 (Lo v2 v6 v11 v12 v13)
variable{M w0 r v1 v2 v6 v11 v12 v13 m1 L1}{K:Kn}{n:Nat}
theorem TE(hK:am K)(hL1:MU M w0 r v2 v6 m1 L1)(h:zE K n v2 v6 L1 v11 v12 v13=some r):Xg M w0 r (Nk 500::UP M w0 r m1) (Lo v2 v6 v11 v12 v13):=by
 unfold zE at h;refine ax 6 7 3 ?_;obtain⟨h13,h⟩|⟨h13,h⟩:=av h
 ·refine ak 50 h13 (cF 8 9 1 3 5 (ai 0 ?_));obtain⟨h14,h⟩:=aw h;refine ap (cc az aI h14 (dw) (cS)) (ae (ax 2 3 1 (ai 3 ?_)));obtain⟨v14,h15,h⟩:=bind_some h;exact oy (hK.yV h15) (ae (aj 3 (bd (hL1 h))))
 ·refine ak 50 h13 (eG 2 3 6 (ai 1 ?_));obtain⟨v15,h16,h⟩:=bind_some h;refine aK (jw hK h16) (br 3 1 ?_);obtain⟨v16,h17,h⟩:=bind_some h;refine aK (jw hK h17) (ae (aW 1 ?_));cases h;exact eu
theorem adg(hK:am K)(m:Nat):MU M w0 r v2 v6 m (ze K n v2 v6 m):=by
 induction m with
 | zero=>intro v11 v12 v13 h;cases h
 | succ m ih=>intro v11 v12 v13 h;have h:zE K n v2 v6 (ze K n v2 v6 m) v11 v12 v13=some r:=h;exact aU (TE hK ih h)
theorem Sd(hK:am K)(h:wL K n v1 v2=some r):aQ Tryz.prog 75 [.agg (aI v1),.agg (dC v2)] (fun v _=>v=.tup [iI r.1,iI r.2]):=by
 refine bF (cat Tryz.f75 (pn 1)) Tryz.func75 Tryz.ntmps75 fun M w0=>(bx ⟨[(0,.agg (aI v1)),(1,.agg (dC v2))],[],[],[]⟩ ?_);unfold wL at h;refine cm 12 13 7 4 (ai 2 ?_);obtain⟨v3,h1,h⟩:=bind_some h;refine aK (Oo hK h1) (br 4 1 ?_);obtain⟨v4,h2,h⟩:=bind_some h;refine aK (fS hK h2) (ae (ce 3 2 ?_));obtain⟨h3,h⟩|⟨h3,h⟩:=av h
 ·refine ak 22 h3 (ax 4 5 2 (ai 1 ?_));obtain⟨v5,h4,h⟩:=bind_some h;refine aK (jw hK h4) (ae (aW 4 ?_));cases h;exact eu
 ·refine ak 22 h3 (fu 2 3 3 (ai 1 ?_));obtain⟨v6,h5,h⟩:=bind_some h;refine aK (LA hK h5) (ae (ax 5 3 3 ?_));obtain⟨h6,h⟩|⟨h6,h⟩:=av h
  ·refine ak 33 h6 (ax 4 5 2 (ai 5 ?_));obtain⟨v7,h7,h⟩:=bind_some h;refine oy (hK.yn h7) (ae (ax 2 3 1 (ai 1 ?_)));obtain⟨v8,h8,h⟩:=bind_some h;refine aK (jw hK h8) (br 3 1 ?_);obtain⟨v9,h9,h⟩:=bind_some h;refine aK (jw hK h9) (ae (aW 2 ?_));cases h;exact eu
  ·exact ak 33 h6 (py 4 5 3 4 (ai 1 (ap (bK az v6.1) (ae (aj 1 (bP (p:=pn 250) n (adg hK n h)))))))
end
noncomputable section
variable(M:Nat→Prop)(w0:aJ)(r:Int×Int)(v1:ac)(v2:c8)  
variable{M w0 r v1 v2}{K:Kn}{n:Nat}
theorem Oe(hK:am K)(h:ql K n v1 v2=some r):aQ Tryz.prog 48 [.agg (aI v1),.agg (dC v2)] (fun v _=>v=.tup [iI r.1,iI r.2]):=by
 refine bF (cat Tryz.f48 (pn 1)) Tryz.func48 Tryz.ntmps48 fun M w0=>(bx ⟨[(0,.agg (aI v1)),(1,.agg (dC v2))],[],[],[]⟩ ?_);unfold ql at h;refine ax 6 7 3 (ai 2 ?_);obtain⟨v3,h1,h⟩:=bind_some h;refine aK (Sd hK h1) (ae (ax 2 3 1 (ai 2 ?_)));obtain⟨v4,h2,h⟩:=bind_some h;refine aK (Oo hK h2) (ae (ax 2 3 1 (bI [4,5,6] [6] [] ?_)));obtain⟨v5,h3,h⟩:=bind_some h;obtain⟨v6,h4,h⟩:=bind_some h;obtain⟨v7,h5,h⟩:=bind_some h;obtain⟨v8,h6,h⟩:=bind_some h;obtain⟨v9,h7,h⟩:=bind_some h;obtain⟨v10,h8,h⟩:=bind_some h;refine co 2 (nu 16 [.agg (aD v4),.agg (aD v4),iI v3.1,iI v5,.agg (b9 v6),iI v7,.agg (aD v4),.agg (aD v4),iI v3.2,iI v8,.agg (b9 v9),iI v10]) [] [] [cw Tryz.prog 28 Tryz.f48 (pn 30) 12,cw Tryz.prog 28 Tryz.f48 (pn 30) 13] (aF (vz 3) (aC (cM 0 1 19 (tx hK h3)) (aC (cM 0 1 20 (sL hK h4)) (aC (cM 0 1 21 (ns hK h5)) (aF [.v 0 2,.v 0 2,.v 0 2] (aC (cM 0 2 25 (tx hK h6)) (aC (cM 0 2 26 (sL hK h7)) (aC (cM 0 1 27 (ns hK h8)) (aC (cG 0) (aC (cG 1) cp)))))))))) (aW 1 ?_)
 cases h;exact eu
end
noncomputable section
variable(M:Nat→Prop)(w0:aJ)(r v1:ac)  
variable{M w0 r v1}{K:Kn}{n:Nat}
theorem ID(hK:am K)(h:qg K n v1=some r):aQ Tryz.prog 49 [.agg (aI v1)] (fun v _=>v=.agg (aI r)):=by
 refine bF (cat Tryz.f49 (pn 1)) Tryz.func49 Tryz.ntmps49 fun M w0=>(bx ⟨[(0,.agg (aI v1))],[],[],[]⟩ ?_);unfold qg at h;refine aW 7 ?_;cases h;exact bW
end
noncomputable section
variable(M:Nat→Prop)(w0:aJ)(r:Int)(v1 v2:Int)(v3:Fv)(v4:List ah)  
variable{M w0 r v1 v2 v3 v4}{K:Kn}{n:Nat}
theorem abP(hK:am K)(h:xz K n v1 v2 v3 v4=some r):aQ Tryz.prog 86 [iI v1,iI v2,.cptr ([.fn v3.id v3.aN]),.cptr ([.sl (lm aA v4)])] (fun v _=>v=iI r):=by
 refine bF (cat Tryz.f86 (pn 1)) Tryz.func86 Tryz.ntmps86 fun M w0=>(bx ⟨[(0,iI v1),(1,iI v2),(2,.cptr ([.fn v3.id v3.aN])),(3,.cptr ([.sl (lm aA v4)]))],[],[],[]⟩ ?_);unfold xz at h;refine ax 6 7 3 (bI [0,1,2,3] [] [] ?_);obtain⟨h1,h⟩:=aw h;obtain⟨v5,h2,h⟩:=bind_some h;obtain⟨h3,h⟩:=aw h;obtain⟨v6,h4,h⟩:=bind_some h;obtain⟨v7,h5,h⟩:=bind_some h;refine co 1 (nu 7 [.fn v3.id v3.aN,.sl (lm aA v4),iI v1,.cptr (aA (gD v4 v1)),.agg (aA (gD v4 v1)),iI v5,.fn v3.id v3.aN,.sl (lm aA v4),iI v2,.cptr (aA (gD v4 v2)),.agg (aA (gD v4 v2)),iI v6,iI v7]) [] [] [cw Tryz.prog 20 Tryz.f86 (pn 6) 13] (aF (vz 3) (bt (cc aA aA h1 (gO) (fun _=>rfl)) (aF [.v 0 1] (aC (cM 0 1 12 (hK.kE h2).2 (hK.kE h2).1) (aF (vz 3) (bt (cc aA aA h3 (gO) (fun _=>rfl)) (aF [.v 0 1] (aC (cM 0 1 18 (hK.kE h4).2 (hK.kE h4).1) (aC (cM 0 1 19 (JS hK h5)) (aC (cG 0) cp)))))))))) (aW 1 ?_);cases h;exact bW
end
noncomputable section
variable(M:Nat→Prop)(w0:aJ)(r:List Int)(v1:List ah)(v2:Int)(v3 v4:Fv)(v11:Int)(v12:List Int)(v14:Bool)(v15:List Int)(m1:Nat)(L1:Int→(List Int)→Option (List Int))
abbrev GU:Cx:=⟨Tryz.prog,56,M,w0⟩
abbrev FQ:=bodyPost Tryz.prog Tryz.f66 (bX M w0 (fun v s=>v=.ref 50∧look 50 s.r=some ⟨3,1,lm (ab .i64) r⟩))
abbrev Dy(ks:List ao)(s:AS):=VE (GU M w0) (FQ M w0 r) ks .normal s
abbrev uv(n:Nat):ao:=.c (cat Tryz.f66 (pn n))
abbrev BU:List ao:=[.b 0,uv 15]
abbrev Ft:List ao:=kl (GU M w0) (FQ M w0 r) BU (cat Tryz.f66 (pn 116)) m1::BU
def SW:AS:=⟨[(1,iI v2),(2,.fn v3.id v3.aN),(4,.ptr 4 0),(7,.ptr 7 0),(9,.ref 50),(12,.sl (lm aA v1)),(13,iI (v1.length:Int)),(14,iI v11)],[(4,[.sl (lm aA v1)]),(7,[.fn v4.id v4.aN])],[(50,⟨3,1,lm (ab .i64) v15⟩)],[4,7,50]⟩
def Qr:AS:=⟨[(1,iI v2),(2,.fn v3.id v3.aN),(4,.ptr 4 0),(7,.ptr 7 0),(9,.ref 50),(10,iI v11),(12,.sl (lm aA v1)),(13,iI (v1.length:Int)),(14,iI v11),(46,.bool v14)],[(4,[.sl (lm aA v1)]),(7,[.fn v4.id v4.aN])],[(50,⟨3,1,lm (ab .i64) v12⟩)],[4,7,50]⟩
def Nc:AS:=⟨[(1,iI v2),(2,.fn v3.id v3.aN),(4,.ptr 4 0),(7,.ptr 7 0),(9,.ref 50),(12,.sl (lm aA v1)),(13,iI (v1.length:Int)),(14,iI v11)],[(4,[.sl (lm aA v1)]),(7,[.fn v4.id v4.aN])],[(50,⟨3,1,lm (ab .i64) v12⟩)],[4,7,50]⟩
abbrev yI:Prop:=∀{v11:Int} {v12:(List Int)},L1 v11 v12=some r→LP (GU M w0) (FQ M w0 r) BU (cat Tryz.f66 (pn 116)) m1 (Nc v1 v2 v3 v4 v11 v12)
variable{M w0 r v1 v2 v3 v4 v11 v12 v14 v15 m1 L1}{K:Kn}{n:Nat}
theorem PL(hK:am K)(hL1:yI M w0 r v1 v2 v3 v4 m1 L1)(h:qH K n v1 v2 v3 v4 v11 L1 v15=some r):Dy M w0 r (.b 1::uv 935::Ft M w0 r m1) (SW v1 v2 v3 v4 v11 v15):=by
 unfold qH at h;exact aj 2 (bd (hL1 h))
theorem pO(hK:am K)(hL1:yI M w0 r v1 v2 v3 v4 m1 L1)(h:jI K n v1 v2 v3 v4 v11 v12 L1 v14=some r):Dy M w0 r (uv 7475 :: .b 1::uv 935::Ft M w0 r m1) (Qr v1 v2 v3 v4 v11 v12 v14):=by
 unfold jI at h;obtain⟨h29,h⟩|⟨h29,h⟩:=av h
 ·refine ak 46 h29 (ce 2 1 (ai 3 ?_));obtain⟨h30,h⟩:=aw h;exact ap (c6 50 50 3 1 (ab .i64) (rfl) (fun _=>rfl) h30) (ae (aj 0 (PL hK hL1 h)))
 ·exact ak 46 h29 (aj 2 (PL hK hL1 h))
theorem QN(hK:am K)(hL1:yI M w0 r v1 v2 v3 v4 m1 L1)(h:xi K n v1 v2 v3 v4 L1 v11 v12=some r):Dy M w0 r (uv 116::Ft M w0 r m1) (Nc v1 v2 v3 v4 v11 v12):=by
 unfold xi at h;refine ax 6 7 3 ?_;obtain⟨h21,h⟩|⟨h21,h⟩:=av h
 ·refine ak 15 h21 (cF 8 9 1 3 5 (ai 1 ?_));obtain⟨h22,h⟩:=aw h;refine ap (cc aA aA h22 (gO) (fun _=>rfl)) (ae (ax 2 3 1 (ai 4 ?_)));obtain⟨h23,h⟩|⟨h23,h⟩:=av h
  ·refine aY 22 h23 (br 9 5 ?_);obtain⟨h24,h⟩|⟨h24,h⟩:=av h
   ·refine aY 27 h24 (br 14 5 ?_);obtain⟨h25,h⟩|⟨h25,h⟩:=av h
    ·refine aY 32 h25 (br 19 5 ?_);obtain⟨h26,h⟩|⟨h26,h⟩:=av h
     ·refine aY 37 h26 (br 24 5 ?_);obtain⟨h27,h⟩|⟨h27,h⟩:=av h
      ·refine aY 42 h27 (br 26 2 ?_);obtain⟨v13,h28,h⟩:=bind_some h;exact oy (hK.tm h28) (ae (aj 0 (pO hK hL1 h)))
      ·exact aY 42 h27 (ae (aj 0 (pO hK hL1 h)))
     ·exact aY 37 h26 (ae (aj 0 (pO hK hL1 h)))
    ·exact aY 32 h25 (ae (aj 0 (pO hK hL1 h)))
   ·exact aY 27 h24 (ae (aj 0 (pO hK hL1 h)))
  ·exact aY 22 h23 (ae (aj 0 (pO hK hL1 h)))
 ·refine ak 15 h21 (eG 2 3 6 (ai 1 (uX 7 7 ([.fn v4.id v4.aN]) (uX 4 4 ([.sl (lm aA v1)]) (Bn 86 #[(.tmp 7),(.tmp 4)] [.cptr ([.fn v4.id v4.aN]),.cptr ([.sl (lm aA v1)])] ?_)))));obtain⟨v16,h31,h⟩:=bind_some h;refine iu 50 0 (Im hK h31) (ae (aW 3 ?_));cases h;exact d9
theorem Wy(hK:am K)(m:Nat):yI M w0 r v1 v2 v3 v4 m (pt K n v1 v2 v3 v4 m):=by
 induction m with
 | zero=>intro v11 v12 h;cases h
 | succ m ih=>intro v11 v12 h;have h:xi K n v1 v2 v3 v4 (pt K n v1 v2 v3 v4 m) v11 v12=some r:=h;exact aU (QN hK ih h)
theorem My(hK:am K)(h:qR K n v1 v2 v3 v4=some r):aQ Tryz.prog 66 [.sl (lm aA v1),iI v2,.fn v3.id v3.aN,.fn v4.id v4.aN] (fun v s=>v=.ref 50∧look 50 s.r=some ⟨3,1,lm (ab .i64) r⟩):=by
 refine bF (cat Tryz.f66 (pn 1)) Tryz.func66 Tryz.ntmps66 fun M w0=>(bx ⟨[(0,.sl (lm aA v1)),(1,iI v2),(2,.fn v3.id v3.aN),(3,.fn v4.id v4.aN)],[],[],[]⟩ ?_);unfold qR at h;exact cm 28 29 15 6 (ai 1 (ap (bK aA v1) (ae (ip 2 0 1 (bI [1,2,4,7,9,12,13,14] [4,7] [] (eJ 50 9 3 1 (aj 0 (bP (p:=pn 58) n (Wy hK n h)))))))))
end
noncomputable section
variable(M:Nat→Prop)(w0:aJ)(r:Bool)(v1:ah)(v2:Int)(v3:Bool)  
abbrev ac4(n:Nat):ao:=.c (cat Tryz.f77 (pn n))
abbrev X6:Cx:=⟨Tryz.prog,17,M,w0⟩
abbrev q77:=bodyPost Tryz.prog Tryz.f77 (bX M w0 (fun v _=>v=.bool r))
abbrev ac7(ks:List ao)(s:AS):=VE (X6 M w0) (q77 M w0 r) ks .normal s
def Ye:AS:=⟨[(3,.bool v3)],[],[],[]⟩
variable{M w0 r v1 v2 v3}{K:Kn}{n:Nat}
theorem IU(hK:am K)(h:uT K n v3=some r):ac7 M w0 r [ac4 7] (Ye v3):=by
 unfold uT at h;refine aW 1 ?_;cases h;exact bW
theorem aai(hK:am K)(h:yf K n v1 v2=some r):aQ Tryz.prog 77 [.agg (aA v1),.cptr ([iI v2])] (fun v _=>v=.bool r):=by
 refine bF (cat Tryz.f77 (pn 1)) Tryz.func77 Tryz.ntmps77 fun M w0=>(bx ⟨[(0,.agg (aA v1)),(1,.cptr ([iI v2]))],[],[],[]⟩ ?_);unfold yf at h;refine ax 6 7 3 (ai 5 ?_);obtain⟨h1,h⟩|⟨h1,h⟩:=av h
 ·exact aY 8 h1 (ae (aj 0 (IU hK h)))
 ·exact aY 8 h1 (ae (aj 0 (IU hK h)))
end
noncomputable section
variable(M:Nat→Prop)(w0:aJ)(r:List aq)(v1:List ah)(v2:List aq)(v3:Int)(v5:List Int)(v33:Int)(v34:List aq)(v37:ah)(v41 v42 v43 v44:Int)(v45 v46 v48:(List Int))(v49:Int)(v50 v51 v52:(List Int))(v53:Int)(v54 v55:(List Int))(v58 v59:Int)(v60 v61:(List aq))(v62:Int)(v63:List aq)(m1 m2 m3 m4 m5 m6:Nat)(L1:Int→(List aq)→Option (List aq))(L2:Int→Int→Int→Int→(List Int)→(List Int)→Option (List aq))(L3 L4:Int→(List Int)→Option (List aq))(L5:Int→Int→(List aq)→Option (List aq))(L6:Int→(List aq)→Option (List aq))
abbrev iP:Cx:=⟨Tryz.prog,204,M,w0⟩
abbrev iT:=bodyPost Tryz.prog Tryz.f50 (bX M w0 (fun v s=>v=.ref 27∧look 27 s.r=some ⟨50,2,lm aL r⟩))
abbrev lu(ks:List ao)(s:AS):=VE (iP M w0) (iT M w0 r) ks .normal s
abbrev d7(n:Nat):ao:=.c (cat Tryz.f50 (pn n))
abbrev Fy:List ao:=[.b 10,d7 127]
abbrev aam:List ao:=kl (iP M w0) (iT M w0 r) Fy (cat Tryz.f50 (pn 1012)) m6::Fy
abbrev E9:List ao:=[.b 0,d7 63]
abbrev lM:List ao:=kl (iP M w0) (iT M w0 r) E9 (cat Tryz.f50 (pn 500)) m1::E9
abbrev CU:List ao:=.b 8 :: .b 1::d7 4007::lM M w0 r m1
abbrev VP:List ao:=kl (iP M w0) (iT M w0 r) (CU M w0 r m1) (cat Tryz.f50 (pn 16410620)) m5::(CU M w0 r m1)
abbrev ET:List ao:=.b 6::d7 2051327 :: .b 1::d7 4007::lM M w0 r m1
abbrev R8:List ao:=kl (iP M w0) (iT M w0 r) (ET M w0 r m1) (cat Tryz.f50 (pn 65642452)) m4::(ET M w0 r m1)
abbrev D6:List ao:=.b 4::d7 1025663 :: .b 1::d7 4007::lM M w0 r m1
abbrev XE:List ao:=kl (iP M w0) (iT M w0 r) (D6 M w0 r m1) (cat Tryz.f50 (pn 32821204)) m3::(D6 M w0 r m1)
abbrev Gp:List ao:=.b 2::d7 512831 :: .b 1::d7 4007::lM M w0 r m1
abbrev L8:List ao:=kl (iP M w0) (iT M w0 r) (Gp M w0 r m1) (cat Tryz.f50 (pn 4102644)) m2::(Gp M w0 r m1)
def aaH:AS:=⟨[(0,.sl (lm aA v1)),(1,.sl (lm aL v2)),(7,.ref 27),(33,.ref 1033),(34,iI (v5.length:Int)),(35,iI v33)],[],[(27,⟨50,2,lm aL v61⟩),(1033,⟨3,1,lm (ab .i64) v5⟩)],[27,1033]⟩
def MP:AS:=⟨[(0,.sl (lm aA v1)),(1,.sl (lm aL v2)),(7,.ref 27),(13,.sref 27 2 ((v37.Col).toNat) (((aa (v37.Col+v37.Cols))).toNat-(v37.Col).toNat)),(14,.ref 87),(15,.ref 90),(33,.ref 1033),(34,iI (v5.length:Int)),(35,iI v33),(164,iI v58),(165,iI v59)],[],[(27,⟨50,2,lm aL v60⟩),(87,⟨3,1,lm (ab .i64) v51⟩),(90,⟨3,1,lm (ab .i64) v55⟩),(1033,⟨3,1,lm (ab .i64) v5⟩)],[27,87,90,1033]⟩
def Yn:AS:=⟨[(0,.sl (lm aA v1)),(1,.sl (lm aL v2)),(7,.ref 27),(13,.sref 27 2 ((v37.Col).toNat) (((aa (v37.Col+v37.Cols))).toNat-(v37.Col).toNat)),(14,.ref 87),(15,.ref 90),(33,.ref 1033),(34,iI (v5.length:Int)),(35,iI v33)],[],[(27,⟨50,2,lm aL v34⟩),(87,⟨3,1,lm (ab .i64) v51⟩),(90,⟨3,1,lm (ab .i64) v55⟩),(1033,⟨3,1,lm (ab .i64) v5⟩)],[27,87,90,1033]⟩
def M8:AS:=⟨[(0,.sl (lm aA v1)),(1,.sl (lm aL v2)),(7,.ref 27),(13,.sref 27 2 ((v37.Col).toNat) (((aa (v37.Col+v37.Cols))).toNat-(v37.Col).toNat)),(14,.ref 87),(15,.ref 90),(33,.ref 1033),(34,iI (v5.length:Int)),(35,iI v33),(148,.ref 1148),(149,iI (v52.length:Int)),(150,iI v53)],[],[(27,⟨50,2,lm aL v34⟩),(87,⟨3,1,lm (ab .i64) v51⟩),(90,⟨3,1,lm (ab .i64) v54⟩),(1033,⟨3,1,lm (ab .i64) v5⟩),(1148,⟨3,1,lm (ab .i64) v52⟩)],[27,87,90,1033,1148]⟩
def Zr:AS:=⟨[(0,.sl (lm aA v1)),(1,.sl (lm aL v2)),(7,.ref 27),(12,.ptr 12 0),(13,.sref 27 2 ((v37.Col).toNat) (((aa (v37.Col+v37.Cols))).toNat-(v37.Col).toNat)),(14,.ref 87),(15,.ref 90),(33,.ref 1033),(34,iI (v5.length:Int)),(35,iI v33)],[(12,aL (⟨v43,v44⟩:aq))],[(27,⟨50,2,lm aL v34⟩),(87,⟨3,1,lm (ab .i64) v51⟩),(90,⟨3,1,lm (ab .i64) v46⟩),(1033,⟨3,1,lm (ab .i64) v5⟩)],[12,27,87,90,1033]⟩
def Kd:AS:=⟨[(0,.sl (lm aA v1)),(1,.sl (lm aL v2)),(7,.ref 27),(12,.ptr 12 0),(13,.sref 27 2 ((v37.Col).toNat) (((aa (v37.Col+v37.Cols))).toNat-(v37.Col).toNat)),(14,.ref 87),(15,.ref 90),(33,.ref 1033),(34,iI (v5.length:Int)),(35,iI v33),(127,.ref 1127),(128,iI (v48.length:Int)),(129,iI v49)],[(12,aL (⟨v43,v44⟩:aq))],[(27,⟨50,2,lm aL v34⟩),(87,⟨3,1,lm (ab .i64) v50⟩),(90,⟨3,1,lm (ab .i64) v46⟩),(1033,⟨3,1,lm (ab .i64) v5⟩),(1127,⟨3,1,lm (ab .i64) v48⟩)],[12,27,87,90,1033,1127]⟩
def JD:AS:=⟨[(0,.sl (lm aA v1)),(1,.sl (lm aL v2)),(7,.ref 27),(12,.ptr 12 0),(13,.sref 27 2 ((v37.Col).toNat) (((aa (v37.Col+v37.Cols))).toNat-(v37.Col).toNat)),(14,.ref 87),(15,.ref 90),(33,.ref 1033),(34,iI (v5.length:Int)),(35,iI v33),(91,.sref 27 2 ((v37.Col).toNat) (((aa (v37.Col+v37.Cols))).toNat-(v37.Col).toNat)),(92,iI v41),(93,iI v42)],[(12,aL (⟨v43,v44⟩:aq))],[(27,⟨50,2,lm aL v34⟩),(87,⟨3,1,lm (ab .i64) v45⟩),(90,⟨3,1,lm (ab .i64) v46⟩),(1033,⟨3,1,lm (ab .i64) v5⟩)],[12,27,87,90,1033]⟩
def Jw:AS:=⟨[(7,.ref 27),(183,iI (v34.length:Int)),(184,iI v62)],[],[(27,⟨50,2,lm aL v63⟩)],[27]⟩
def Lt:AS:=⟨[(0,.sl (lm aA v1)),(1,.sl (lm aL v2)),(7,.ref 27),(33,.ref 1033),(34,iI (v5.length:Int)),(35,iI v33)],[],[(27,⟨50,2,lm aL v34⟩),(1033,⟨3,1,lm (ab .i64) v5⟩)],[27,1033]⟩
abbrev iw:Prop:=∀{v33:Int} {v34:(List aq)},L1 v33 v34=some r→LP (iP M w0) (iT M w0 r) E9 (cat Tryz.f50 (pn 500)) m1 (Lt v1 v2 v5 v33 v34)
abbrev NW:Prop:=∀{v41:Int} {v42:Int} {v43:Int} {v44:Int} {v45:(List Int)} {v46:(List Int)},L2 v41 v42 v43 v44 v45 v46=some r→LP (iP M w0) (iT M w0 r) (Gp M w0 r m1) (cat Tryz.f50 (pn 4102644)) m2 (JD v1 v2 v5 v33 v34 v37 v41 v42 v43 v44 v45 v46)
abbrev Lg:Prop:=∀{v49:Int} {v50:(List Int)},L3 v49 v50=some r→LP (iP M w0) (iT M w0 r) (D6 M w0 r m1) (cat Tryz.f50 (pn 32821204)) m3 (Kd v1 v2 v5 v33 v34 v37 v43 v44 v46 v48 v49 v50)
abbrev Mq:Prop:=∀{v53:Int} {v54:(List Int)},L4 v53 v54=some r→LP (iP M w0) (iT M w0 r) (ET M w0 r m1) (cat Tryz.f50 (pn 65642452)) m4 (M8 v1 v2 v5 v33 v34 v37 v51 v52 v53 v54)
abbrev Pn:Prop:=∀{v58:Int} {v59:Int} {v60:(List aq)},L5 v58 v59 v60=some r→LP (iP M w0) (iT M w0 r) (CU M w0 r m1) (cat Tryz.f50 (pn 16410620)) m5 (MP v1 v2 v5 v33 v37 v51 v55 v58 v59 v60)
abbrev Me:Prop:=∀{v62:Int} {v63:(List aq)},L6 v62 v63=some r→LP (iP M w0) (iT M w0 r) Fy (cat Tryz.f50 (pn 1012)) m6 (Jw v34 v62 v63)
variable{M w0 r v1 v2 v3 v5 v33 v34 v37 v41 v42 v43 v44 v45 v46 v48 v49 v50 v51 v52 v53 v54 v55 v58 v59 v60 v61 v62 v63 m1 m2 m3 m4 m5 m6 L1 L2 L3 L4 L5 L6}{K:Kn}{n:Nat}
theorem Ll(hK:am K)(hL1:iw M w0 r v1 v2 v5 m1 L1)(h:vZ K n v1 v2 v5 v33 L1 v61=some r):lu M w0 r (d7 4007::lM M w0 r m1) (aaH v1 v2 v5 v33 v61):=by
 unfold vZ at h;exact aj 1 (bd (hL1 h))
theorem ado(hK:am K)(hL1:iw M w0 r v1 v2 v5 m1 L1)(hL5:Pn M w0 r v1 v2 v5 v33 v37 v51 v55 m1 m5 L5)(h:vj K n v1 v2 v5 v33 v37 v51 v55 L1 L5 v58 v59 v60=some r):lu M w0 r (d7 16410620::VP M w0 r m1 m5) (MP v1 v2 v5 v33 v37 v51 v55 v58 v59 v60):=by
 unfold vj at h;refine ax 6 7 3 ?_;obtain⟨h123,h⟩|⟨h123,h⟩:=av h
 ·refine ak 166 h123 (iv 9 9 3 6 (bI [0,1,7,13,14,15,22,33,34,35,164,165] [] [27,87,90,1033] ?_));obtain⟨h124,h⟩:=aw h;obtain⟨h125,h⟩:=aw h;obtain⟨h126,h⟩:=aw h;obtain⟨h127,h⟩:=aw h;exact co 1 (nu 168 [.sref 27 2 ((v37.Col).toNat) (((aa (v37.Col+v37.Cols))).toNat-(v37.Col).toNat),iI v59,.ref 87,iI v59,.eptr 87 1 (v59.toNat) 0,iI (gD v51 v59),.ref 90,iI v59,.eptr 90 1 (v59.toNat) 0,iI (gD v55 v59),.agg (aL (⟨(gD v51 v59),(gD v55 v59)⟩:aq)),.eptr 27 2 ((v37.Col).toNat+v59.toNat) 0]) [] [] [cD 27 ⟨50,2,lm aL (List.set v60 ((v37.Col).toNat+v59.toNat) (⟨(gD v51 v59),(gD v55 v59)⟩:aq))⟩] (aF (vz 4) (bt (bT 87 1 (ab .i64) (L:=v51) h124) (bt (bE 3 0 (ab .i64) (ab .i64) (aR h124).2 (fun _=>rfl)) (aF (vz 2) (bt (bT 90 1 (ab .i64) (L:=v55) h125) (bt (bE 3 0 (ab .i64) (ab .i64) (aR h125).2 (fun _=>rfl)) (aF [.v 0 1] (bt (lW 27 2 (off:=(v37.Col).toNat) h126) (aC (c7 (m:=0) (du 27 50 2 0 aL aL (⟨(gD v51 v59),(gD v55 v59)⟩:aq) (of_decide_eq_true h127) (fun _=>rfl))) cp))))))))) (aj 2 (bd (hL5 h)))
 ·exact ak 166 h123 (aj 6 (Ll hK hL1 h))
theorem Xo(hK:am K)(hL1:iw M w0 r v1 v2 v5 m1 L1)(m:Nat):Pn M w0 r v1 v2 v5 v33 v37 v51 v55 m1 m (rL K n v1 v2 v5 v33 v37 v51 v55 L1 m):=by
 induction m with
 | zero=>intro v58 v59 v60 h;cases h
 | succ m ih=>intro v58 v59 v60 h;have h:vj K n v1 v2 v5 v33 v37 v51 v55 L1 (rL K n v1 v2 v5 v33 v37 v51 v55 L1 m) v58 v59 v60=some r:=h;exact aU (ado hK hL1 ih h)
theorem I4(hK:am K)(hL1:iw M w0 r v1 v2 v5 m1 L1)(h:ph K n v1 v2 v5 v33 v34 v37 v51 L1 v55=some r):lu M w0 r (d7 2051327 :: .b 1::d7 4007::lM M w0 r m1) (Yn v1 v2 v5 v33 v34 v37 v51 v55):=by
 unfold ph at h;exact ax 2 3 1 (ai 1 (ap (P2 (m:=(((aa (v37.Col+v37.Cols))).toNat-(v37.Col).toNat))) (ae (aj 1 (bP (p:=pn 8205310) n (Xo hK hL1 n h))))))
theorem Qt(hK:am K)(hL1:iw M w0 r v1 v2 v5 m1 L1)(hL4:Mq M w0 r v1 v2 v5 v33 v34 v37 v51 v52 m1 m4 L4)(h:xy K n v1 v2 v5 v33 v34 v37 v51 v52 L1 L4 v53 v54=some r):lu M w0 r (d7 65642452::R8 M w0 r m1 m4) (M8 v1 v2 v5 v33 v34 v37 v51 v52 v53 v54):=by
 unfold xy at h;refine ax 6 7 3 ?_;obtain⟨h112,h⟩|⟨h112,h⟩:=av h
 ·refine ak 151 h112 (cF 8 9 7 3 5 (ai 1 ?_));obtain⟨h113,h⟩:=aw h;refine ap (bZ 1148 1 (ab .i64) h113) (ap (bE 3 0 (ab .i64) (ab .i64) (aR h113).2 (fun _=>rfl)) (ae (ai 2 ?_)));obtain⟨h114,h⟩:=aw h;refine ap (bZ 90 1 (ab .i64) h114) (ap (bE 3 0 (ab .i64) (ab .i64) (aR h114).2 (fun _=>rfl)) (br 6 2 ?_));obtain⟨h115,h⟩:=aw h;exact ap (bZ 90 1 (ab .i64) h115) (ap (du 90 3 1 0 (ab .i64) (ab .i64) (aa ((gD v54 v53)+(gD v52 v53))) (aR h115).2 (fun _=>rfl)) (ae (aj 2 (bd (hL4 h)))))
 ·exact ak 151 h112 (aj 5 (I4 hK hL1 h))
theorem VA(hK:am K)(hL1:iw M w0 r v1 v2 v5 m1 L1)(m:Nat):Mq M w0 r v1 v2 v5 v33 v34 v37 v51 v52 m1 m (pG K n v1 v2 v5 v33 v34 v37 v51 v52 L1 m):=by
 induction m with
 | zero=>intro v53 v54 h;cases h
 | succ m ih=>intro v53 v54 h;have h:xy K n v1 v2 v5 v33 v34 v37 v51 v52 L1 (pG K n v1 v2 v5 v33 v34 v37 v51 v52 L1 m) v53 v54=some r:=h;exact aU (Qt hK hL1 ih h)
theorem HU(hK:am K)(hL1:iw M w0 r v1 v2 v5 m1 L1)(h:ng K n v1 v2 v5 v33 v34 v37 v43 v44 v46 L1 v51=some r):lu M w0 r (d7 1025663 :: .b 1::d7 4007::lM M w0 r m1) (Zr v1 v2 v5 v33 v34 v37 v43 v44 v46 v51):=by
 unfold ng at h;refine ax 5 3 3 ?_;obtain⟨h106,h⟩|⟨h106,h⟩:=av h
 ·refine ak 144 h106 (ax 4 5 2 (ai 3 ?_));obtain⟨v52,h107,h⟩:=bind_some h;exact zX 1148 (EJ hK h107) (nk _ _ (l8 _)) (by kernel_rfl:je _ _=some (45,[iI v44,.sl (lm (ab .i64) v51)],[iI v44,.ref 87])) (vF (q:=[]) (by kernel_rfl) trivial) (ap (bK (ab .i64) v52) (ae (aj 1 (bP (p:=pn 32821226) n (VA hK hL1 n h)))))
 ·exact ak 144 h106 (aj 2 (I4 hK hL1 h))
theorem XA(hK:am K)(hL1:iw M w0 r v1 v2 v5 m1 L1)(hL3:Lg M w0 r v1 v2 v5 v33 v34 v37 v43 v44 v46 v48 m1 m3 L3)(h:vx K n v1 v2 v5 v33 v34 v37 v43 v44 v46 v48 L1 L3 v49 v50=some r):lu M w0 r (d7 32821204::XE M w0 r m1 m3) (Kd v1 v2 v5 v33 v34 v37 v43 v44 v46 v48 v49 v50):=by
 unfold vx at h;refine ax 6 7 3 ?_;obtain⟨h102,h⟩|⟨h102,h⟩:=av h
 ·refine ak 130 h102 (cF 8 9 5 3 5 (ai 1 ?_));obtain⟨h103,h⟩:=aw h;refine ap (bZ 1127 1 (ab .i64) h103) (ap (bE 3 0 (ab .i64) (ab .i64) (aR h103).2 (fun _=>rfl)) (ae (ai 2 ?_)));obtain⟨h104,h⟩:=aw h;refine ap (bZ 87 1 (ab .i64) h104) (ap (bE 3 0 (ab .i64) (ab .i64) (aR h104).2 (fun _=>rfl)) (br 6 2 ?_));obtain⟨h105,h⟩:=aw h;exact ap (bZ 87 1 (ab .i64) h105) (ap (du 87 3 1 0 (ab .i64) (ab .i64) (aa ((gD v50 v49)+(gD v48 v49))) (aR h105).2 (fun _=>rfl)) (ae (aj 2 (bd (hL3 h)))))
 ·exact ak 130 h102 (aj 5 (HU hK hL1 h))
theorem VM(hK:am K)(hL1:iw M w0 r v1 v2 v5 m1 L1)(m:Nat):Lg M w0 r v1 v2 v5 v33 v34 v37 v43 v44 v46 v48 m1 m (qk K n v1 v2 v5 v33 v34 v37 v43 v44 v46 v48 L1 m):=by
 induction m with
 | zero=>intro v49 v50 h;cases h
 | succ m ih=>intro v49 v50 h;have h:vx K n v1 v2 v5 v33 v34 v37 v43 v44 v46 v48 L1 (qk K n v1 v2 v5 v33 v34 v37 v43 v44 v46 v48 L1 m) v49 v50=some r:=h;exact aU (XA hK hL1 ih h)
theorem acV(hK:am K)(hL1:iw M w0 r v1 v2 v5 m1 L1)(hL2:NW M w0 r v1 v2 v5 v33 v34 v37 m1 m2 L2)(h:xK K n v1 v2 v5 v33 v34 v37 L1 L2 v41 v42 v43 v44 v45 v46=some r):lu M w0 r (d7 4102644::L8 M w0 r m1 m2) (JD v1 v2 v5 v33 v34 v37 v41 v42 v43 v44 v45 v46):=by
 unfold xK at h;refine ax 6 7 3 ?_;obtain⟨h90,h⟩|⟨h90,h⟩:=av h
 ·refine ak 94 h90 (cF 8 9 3 3 5 (ai 1 ?_));obtain⟨h91,h⟩:=aw h;refine ap (lW 27 2 (off:=(v37.Col).toNat) h91) ?_;obtain⟨h92,h⟩:=aw h;refine ap (bE 50 0 aL aL (of_decide_eq_true h92) (fun _=>rfl)) (ae ?_);obtain⟨v47,h93,h⟩:=cf h;refine bq (ks':=d7 262569266::d7 262569267 :: .b 3::d7 32821159::L8 M w0 r m1 m2) 1 ⟨[(0,.sl (lm aA v1)),(1,.sl (lm aL v2)),(7,.ref 27),(12,.ptr 12 0),(13,.sref 27 2 ((v37.Col).toNat) (((aa (v37.Col+v37.Cols))).toNat-(v37.Col).toNat)),(14,.ref 87),(15,.ref 90),(16,iI v42),(17,.ptr 17 0),(33,.ref 1033),(34,iI (v5.length:Int)),(35,iI v33),(91,.sref 27 2 ((v37.Col).toNat) (((aa (v37.Col+v37.Cols))).toNat-(v37.Col).toNat)),(92,iI v41),(93,iI v42)],[(12,aL (⟨v43,v44⟩:aq)),(17,aL v47)],[(27,⟨50,2,lm aL v34⟩),(87,⟨3,1,lm (ab .i64) v45⟩),(90,⟨3,1,lm (ab .i64) v46⟩),(1033,⟨3,1,lm (ab .i64) v5⟩)],[12,17,27,87,90,1033]⟩ ?_ (by subst h93;kernel_rfl);obtain⟨h94,h⟩:=aw h
  obtain⟨h95,h⟩:=aw h;exact co 2 (nu 98 [.ref 87,iI v42,.ref 90,iI v42,.ptr 17 0,iI v47.Least,.ptr 17 1,iI v47.Most,.eptr 87 1 (v42.toNat) 0,.eptr 90 1 (v42.toNat) 0]) [] [] [cD 87 ⟨3,1,lm (ab .i64) (List.set v45 v42.toNat v47.Least)⟩,cD 90 ⟨3,1,lm (ab .i64) (List.set v46 v42.toNat v47.Most)⟩] (aF [.v 0 1,.v 0 1,.v 0 2,.v 0 2,.v 0 1,.v 0 1,.v 0 2,.v 0 2] (bt (bT 87 1 (ab .i64) (L:=v45) h94) (aC (c7 (m:=0) (du 87 3 1 0 (ab .i64) (ab .i64) v47.Least (aR h94).2 (fun _=>rfl))) (aC (nc (lo:=1) (bT 90 1 (ab .i64) (L:=v46) h95)) (aC (c7 (m:=1) (du 90 3 1 0 (ab .i64) (ab .i64) v47.Most (aR h95).2 (fun _=>rfl))) cp))))) (aj 5 (bd (hL2 h)))
 ·refine ak 94 h90 (eG 5 3 8 ?_);obtain⟨h96,h⟩|⟨h96,h⟩:=av h
  ·refine ak 123 h96 (ax 4 5 2 (ai 3 ?_));obtain⟨v48,h97,h⟩:=bind_some h;exact zX 1127 (EJ hK h97) (nk _ _ (l8 _)) (by kernel_rfl:je _ _=some (45,[iI v43,.sl (lm (ab .i64) v46)],[iI v43,.ref 90])) (vF (q:=[]) (by kernel_rfl) trivial) (ap (bK (ab .i64) v48) (ae (aj 1 (bP (p:=pn 16410602) n (VM hK hL1 n h)))))
  ·exact ak 123 h96 (aj 2 (HU hK hL1 h))
theorem abu(hK:am K)(hL1:iw M w0 r v1 v2 v5 m1 L1)(m:Nat):NW M w0 r v1 v2 v5 v33 v34 v37 m1 m (pQ K n v1 v2 v5 v33 v34 v37 L1 m):=by
 induction m with
 | zero=>intro v41 v42 v43 v44 v45 v46 h;cases h
 | succ m ih=>intro v41 v42 v43 v44 v45 v46 h;have h:xK K n v1 v2 v5 v33 v34 v37 L1 (pQ K n v1 v2 v5 v33 v34 v37 L1 m) v41 v42 v43 v44 v45 v46=some r:=h;exact aU (acV hK hL1 ih h)
theorem Z5(hK:am K)(hL6:Me M w0 r v34 m6 L6)(h:wF K n v34 L6 v62 v63=some r):lu M w0 r (d7 1012::aam M w0 r m6) (Jw v34 v62 v63):=by
 unfold wF at h;refine ax 6 7 3 ?_;obtain⟨h132,h⟩|⟨h132,h⟩:=av h
 ·refine ak 185 h132 (iv 9 11 3 6 (bI [7,23,183,184] [] [27] ?_));obtain⟨h133,h⟩:=aw h;obtain⟨h134,h⟩:=aw h;obtain⟨h135,h⟩:=aw h;exact co 1 (nu 187 [.ref 27,iI v62,.ref 27,iI v62,.eptr 27 2 (v62.toNat) 0,.eptr 27 2 (v62.toNat) 1,iI ((gD v63 v62).Most),.ref 27,iI v62,.eptr 27 2 (v62.toNat) 0,.eptr 27 2 (v62.toNat) 0,iI ((gD v63 v62).Least),iI (max ((gD v63 v62).Most) ((gD v63 v62).Least)),.eptr 27 2 (v62.toNat) 0,.eptr 27 2 (v62.toNat) 1]) [] [] [cD 27 ⟨50,2,lm aL (List.set v63 v62.toNat ({ (gD v63 v62)with Most:=(max ((gD v63 v62).Most) ((gD v63 v62).Least)) }:aq))⟩] (aF (vz 4) (bt (bT 27 2 aL (L:=v63) h133) (aF [.v 0 1] (bt (bE 3 1 aL aL (aR h135).2 (fun _=>rfl)) (aF (vz 2) (bt (bT 27 2 aL (L:=v63) h134) (aF [.v 0 1] (bt (bE 3 0 aL aL (aR h135).2 (fun _=>rfl)) (aF [.v 0 1] (aC (d4 (lo:=0) (k:=2) (cy ⟨(by kernel_rfl),(cE (bT 27 2 aL (L:=v63) h135) (by kernel_rfl))⟩ (cy ⟨(by kernel_rfl),(cE (bT 27 2 aL (L:=(List.set v63 v62.toNat ({ (gD v63 v62)with Most:=(max ((gD v63 v62).Most) ((gD v63 v62).Least)) }:aq))) h135) (by kernel_rfl))⟩ d8))) (aF [.v 0 1] (aC (c7 (m:=0) (du 27 50 2 1 aL aL ({ (gD v63 v62)with Most:=(max ((gD v63 v62).Most) ((gD v63 v62).Least)) }:aq) (aR h135).2 (fun _=>rfl))) cp)))))))))))) (aj 2 (bd (hL6 h)))
 ·refine ak 185 h132 (aW 8 ?_);cases h;exact d9
theorem T4(hK:am K)(m:Nat):Me M w0 r v34 m (sV K n v34 m):=by
 induction m with
 | zero=>intro v62 v63 h;cases h
 | succ m ih=>intro v62 v63 h;have h:wF K n v34 (sV K n v34 m) v62 v63=some r:=h;exact aU (Z5 hK ih h)
theorem Sj(hK:am K)(hL1:iw M w0 r v1 v2 v5 m1 L1)(h:vc K n v1 v2 v5 L1 v33 v34=some r):lu M w0 r (d7 500::lM M w0 r m1) (Lt v1 v2 v5 v33 v34):=by
 unfold vc at h;refine ax 6 7 3 ?_;obtain⟨h66,h⟩|⟨h66,h⟩:=av h
 ·refine ak 36 h66 (cF 8 9 1 3 5 (ai 0 ?_));obtain⟨h67,h⟩:=aw h;refine ap (bZ 1033 1 (ab .i64) h67) (ap (bE 3 0 (ab .i64) (ab .i64) (aR h67).2 (fun _=>rfl)) (ae (ax 2 3 1 (bI [0,1,7,10,33,34,35] [] [27,1033] ?_))));obtain⟨h68,h⟩:=aw h;obtain⟨h69,h⟩:=aw h;obtain⟨v35,h70,h⟩:=bind_some h;obtain⟨h71,h⟩:=aw h;obtain⟨v36,h72,h⟩:=bind_some h;refine co 2 (nu 39 [.sl (lm aA v1),iI (gD v5 v33),.cptr (aA (gD v1 ((gD v5 v33)))),.agg (aA (gD v1 ((gD v5 v33)))),.sl (lm aL v2),iI (gD v5 v33),.cptr (aL (gD v2 ((gD v5 v33)))),.cptr (List.drop 0 (aL (gD v2 ((gD v5 v33))))),iI ((gD v2 ((gD v5 v33))).Least),iI v35,.sl (lm aL v2),iI (gD v5 v33),.cptr (aL (gD v2 ((gD v5 v33)))),.cptr (List.drop 1 (aL (gD v2 ((gD v5 v33))))),iI ((gD v2 ((gD v5 v33))).Most),iI v36,.agg (aL (⟨v35,v36⟩:aq))]++nu 11 [.ptr 11 0,.ptr 12 0]) [(11,aA wR),(12,aL iM)] [] [cw Tryz.prog 204 Tryz.f50 (pn 32050) 19,cw Tryz.prog 204 Tryz.f50 (pn 32050) 20] (aF (vz 2) (bt (cc aA aA h68 (gO) (fun _=>rfl)) (aF [.v 0 1,.v 0 2,.v 0 2] (aC (d4 (lo:=0) (k:=2) (cy ⟨(by kernel_rfl),(cE (cc aL aL h69 (gy) (fun _=>rfl)) (by kernel_rfl))⟩ (cy ⟨(by kernel_rfl),(cE (cc aL aL h69 (gy) (fun _=>rfl)) (by kernel_rfl))⟩ d8))) (aF [.v 0 2,.v 0 2] (aC (cM 0 2 48 (mo hK h70)) (aF [.v 0 2,.v 0 2] (aC (d4 (lo:=0) (k:=2) (cy ⟨(by kernel_rfl),(cE (cc aL aL h71 (gy) (fun _=>rfl)) (by kernel_rfl))⟩ (cy ⟨(by kernel_rfl),(cE (cc aL aL h71 (gy) (fun _=>rfl)) (by kernel_rfl))⟩ d8))) (aF [.v 0 2,.v 0 2] (aC (cM 0 1 54 (mo hK h72)) (aF [.v 0 2] (aC (Ak 0 1 67 11 (aA wR)) (aC (Ak 0 1 50 12 (aL iM)) (aC (cG 0) (aC (cG 1) cp))))))))))))))) ?_
  obtain⟨v37,h73,h⟩:=cf h;refine bq (ks':=d7 64102::d7 64103 :: .b 1::d7 4007::lM M w0 r m1) 1 ⟨[(0,.sl (lm aA v1)),(1,.sl (lm aL v2)),(7,.ref 27),(11,.ptr 11 0),(12,.ptr 12 0),(33,.ref 1033),(34,iI (v5.length:Int)),(35,iI v33)],[(11,aA v37),(12,aL (⟨v35,v36⟩:aq))],[(27,⟨50,2,lm aL v34⟩),(1033,⟨3,1,lm (ab .i64) v5⟩)],[11,12,27,1033]⟩ ?_ (by subst h73;kernel_rfl);refine ai 8 ?_;obtain⟨h74,h⟩:=aw h;refine ap (za aL v34 v37.Col (aa (v37.Col+v37.Cols)) 45 (.tmp 56) (some (.tmp 58)) (some (.tmp 63)) 64 (id:=27) (e:=50) (sz:=2) (et:=50) (by kernel_rfl) (by kernel_rfl) (by kernel_rfl) (by kernel_rfl) (by kernel_rfl) (by kernel_rfl) (by kernel_rfl) (fun k hk=>by subst hk;kernel_rfl) h74) (ae (ax 5 3 3 ?_));obtain⟨h75,h⟩|⟨h75,h⟩:=av h
  ·refine ak 67 h75 (ax 4 5 2 (bI [0,1,7,12,13,33,34,35] [12] [27,1033] ?_));obtain⟨h76,h⟩:=aw h;obtain⟨h77,h⟩:=aw h;obtain⟨h78,h⟩:=aw h;obtain⟨h79,h⟩:=aw h;exact co 1 (nu 68 [.sref 27 2 ((v37.Col).toNat) (((aa (v37.Col+v37.Cols))).toNat-(v37.Col).toNat),.sref 27 2 ((v37.Col).toNat) (((aa (v37.Col+v37.Cols))).toNat-(v37.Col).toNat),.eptr 27 2 ((v37.Col).toNat+(0:Int).toNat) 0,.eptr 27 2 ((v37.Col).toNat+(0:Int).toNat) 0,iI ((List.getD v34 ((v37.Col).toNat+(0:Int).toNat) default).Least),.ptr 12 0,iI v35,iI (max ((List.getD v34 ((v37.Col).toNat+(0:Int).toNat) default).Least) v35),.sref 27 2 ((v37.Col).toNat) (((aa (v37.Col+v37.Cols))).toNat-(v37.Col).toNat),.eptr 27 2 ((v37.Col).toNat+(0:Int).toNat) 0,.eptr 27 2 ((v37.Col).toNat+(0:Int).toNat) 1,iI ((List.getD v34 ((v37.Col).toNat+(0:Int).toNat) default).Most),.ptr 12 1,iI v36,iI (max ((List.getD v34 ((v37.Col).toNat+(0:Int).toNat) default).Most) v36),.agg (aL (⟨(max ((List.getD v34 ((v37.Col).toNat+(0:Int).toNat) default).Least) v35),(max ((List.getD v34 ((v37.Col).toNat+(0:Int).toNat) default).Most) v36)⟩:aq)),.eptr 27 2 ((v37.Col).toNat+(0:Int).toNat) 0]) [] [] [cD 27 ⟨50,2,lm aL (List.set v34 ((v37.Col).toNat+(0:Int).toNat) (⟨(max ((List.getD v34 ((v37.Col).toNat+(0:Int).toNat) default).Least) v35),(max ((List.getD v34 ((v37.Col).toNat+(0:Int).toNat) default).Most) v36)⟩:aq))⟩] (aF (vz 2) (bt (lW 27 2 (off:=(v37.Col).toNat) h76) (aF [.v 0 1] (bt (bE 3 0 aL aL (of_decide_eq_true h77) (fun _=>rfl)) (aF (vz 4) (bt (lW 27 2 (off:=(v37.Col).toNat) h78) (aF [.v 0 1] (bt (bE 3 1 aL aL (of_decide_eq_true h77) (fun _=>rfl)) (aF (vz 4) (bt (lW 27 2 (off:=(v37.Col).toNat) h79) (aC (c7 (m:=0) (du 27 50 2 0 aL aL (⟨(max ((List.getD v34 ((v37.Col).toNat+(0:Int).toNat) default).Least) v35),(max ((List.getD v34 ((v37.Col).toNat+(0:Int).toNat) default).Most) v36)⟩:aq) (of_decide_eq_true h77) (fun _=>rfl))) cp))))))))))) (aj 3 (Ll hK hL1 h))
  ·refine ak 67 h75 (fu 2 3 3 (bI [0,1,7,11,12,13,33,34,35] [11,12] [27,1033] ?_));obtain⟨h80,h⟩:=aw h;obtain⟨h81,h⟩:=aw h;exact co 2 (nu 85 [.ptr 11 3,iI v37.Cols,.ref 87,.ptr 11 3,iI v37.Cols,.ref 90]) [] [(87,⟨3,1,lm (ab .i64) (List.replicate (v37.Cols).toNat (0:Int))⟩),(90,⟨3,1,lm (ab .i64) (List.replicate (v37.Cols).toNat (0:Int))⟩)] [cw Tryz.prog 204 Tryz.f50 (pn 256414) 6,cw Tryz.prog 204 Tryz.f50 (pn 256414) 7] (aF (vz 2) (aC (Ls (ab .i64) (0:Int) 0 1 64 (.tmp 86) (.tmp 86) 87 3 1 8 v37.Cols .i64 .i64 [iI 0] h80) (aF [.v 0 2,.v 0 2] (aC (Ls (ab .i64) (0:Int) 0 2 64 (.tmp 89) (.tmp 89) 90 3 1 8 v37.Cols .i64 .i64 [iI 0] h81) (aC (cG 0) (aC (cG 1) cp)))))) (cm 4 5 3 2 (ai 1 (ap (P2 (m:=(((aa (v37.Col+v37.Cols))).toNat-(v37.Col).toNat))) (ae (aj 1 (bP (p:=pn 2051322) n (abu hK hL1 n h)))))))
 ·exact ak 36 h66 (rX 4 5 3 7 (ai 1 (ap (bK aL v34) (ae (aj 1 (bP (p:=pn 506) n (T4 hK n h)))))))
theorem aau(hK:am K)(m:Nat):iw M w0 r v1 v2 v5 m (nT K n v1 v2 v5 m):=by
 induction m with
 | zero=>intro v33 v34 h;cases h
 | succ m ih=>intro v33 v34 h;have h:vc K n v1 v2 v5 (nT K n v1 v2 v5 m) v33 v34=some r:=h;exact aU (Sj hK ih h)
theorem Zw(hK:am K)(h:qj K n v1 v2 v3=some r):aQ Tryz.prog 50 [.sl (lm aA v1),.sl (lm aL v2),iI v3] (fun v s=>v=.ref 27∧look 27 s.r=some ⟨50,2,lm aL r⟩):=by
 refine bF (cat Tryz.f50 (pn 1)) Tryz.func50 Tryz.ntmps50 fun M w0=>(bx ⟨[(0,.sl (lm aA v1)),(1,.sl (lm aL v2)),(2,iI v3)],[],[],[]⟩ ?_);unfold qj at h;refine ax 14 15 5 (ai 1 ?_);obtain⟨h1,h⟩:=aw h;refine ii aL (iM:aq) 45 (.tmp 26) (.tmp 26) 27 (e:=50) (sz:=2) (zc:=aL iM) (kd:=.i64) (kd':=.i64) h1 (ae ?_);obtain⟨v4,h2,h⟩:=cf h;refine bq (ks':=[d7 30,d7 31]) 1 ⟨[(0,.sl (lm aA v1)),(1,.sl (lm aL v2)),(5,.ptr 5 0),(7,.ref 27)],[(5,[iI (max v3 0)])],[(27,⟨50,2,lm aL v4⟩)],[5,27]⟩ ?_ (by subst h2;kernel_rfl);refine ai 0 (uX 5 5 ([iI (max v3 0)]) (Bn 77 #[(.tmp 5)] [.cptr ([iI (max v3 0)])] (ae (cm 4 5 3 2 (ai 2 (ap (bK aL v2) (br 4 1 ?_)))))));obtain⟨v5,h3,h⟩:=bind_some h;exact d5 1033 (My hK h3) (fQ 50) (ap (bK (ab .i64) v5) (ae (aj 1 (bP (p:=pn 250) n (aau hK n h)))))
end
noncomputable section
variable(M:Nat→Prop)(w0:aJ)(r:cT)(v1:ac)(v2:c8)(v3:List ac)(v16:Int)(v17:List ac)(v18:List (List (V2 Int)))(v19:List ac)(v21:Int)(v22:List (V2 Int))(v23:List ac)(v25:(List (List ah))×Int)(v26:Int)(v27:List ah)(v32:Int)(v33:List aq)(m1 m2 m3 m4:Nat)(L1:Int→(List ac)→(List (List (V2 Int)))→Option cT)(L2:Int→(List (V2 Int))→(List ac)→Option cT)(L3:Int→(List ah)→Option cT)(L4:Int→(List aq)→Option cT)
abbrev ld:Cx:=⟨Tryz.prog,103,M,w0⟩
abbrev lJ:=bodyPost Tryz.prog Tryz.f15 (bX M w0 (fun v s=>v=.agg (List.set (fU ({ r with rows:=[] }:cT)) 0 (.ref 1022))∧look 1022 s.r=some ⟨33,59,lm az r.rows⟩))
abbrev Bx(ks:List ao)(s:AS):=VE (ld M w0) (lJ M w0 r) ks .normal s
abbrev iz(n:Nat):ao:=.c (cat Tryz.f15 (pn n))
abbrev F3:List ao:=[.b 6,iz 511]
abbrev Rv:List ao:=kl (ld M w0) (lJ M w0 r) F3 (cat Tryz.f15 (pn 4084)) m4::F3
abbrev Fm:List ao:=[.b 4,iz 255]
abbrev aaF:List ao:=kl (ld M w0) (lJ M w0 r) Fm (cat Tryz.f15 (pn 2036)) m3::Fm
abbrev Ed:List ao:=[.b 0,iz 31]
abbrev D7:List ao:=kl (ld M w0) (lJ M w0 r) Ed (cat Tryz.f15 (pn 244)) m1::Ed
abbrev EE:List ao:=.b 2::iz 31335 :: .b 1::iz 1959::D7 M w0 r m1
abbrev Lh:List ao:=kl (ld M w0) (lJ M w0 r) (EE M w0 r m1) (cat Tryz.f15 (pn 250676)) m2::(EE M w0 r m1)
def M9:AS:=⟨[(3,.ptr 3 0),(4,.ptr 4 0),(5,.ptr 5 0),(6,.ref 56),(9,.ref 45),(25,.ref 1022),(26,iI (v3.length:Int)),(27,iI v16),(32,.ref 1032),(33,iI (v19.length:Int)),(34,iI v21)],[(3,dC v2),(4,List.set (List.set (List.set (List.set (fU jG) 0 (.nils)) 1 (.nils)) 2 (.nils)) 3 (.nils)),(5,List.set (List.set (List.set (List.set (fU jG) 0 (.ref 1022)) 1 (.ref 50)) 2 (.nils)) 3 (.nils))],[(45,⟨61,2,lm (bL (ab .i64)) v22⟩),(50,⟨33,59,lm az v23⟩),(56,⟨62,1,lm (bu (bL (ab .i64))) v18⟩),(1022,⟨33,59,lm az v3⟩),(1032,⟨33,59,lm az v19⟩)],[3,4,5,45,50,56,1022,1032]⟩
def IG:AS:=⟨[(3,.ptr 3 0),(4,.ptr 4 0),(5,.ptr 5 0),(13,iI v25.2),(14,.ref 94),(76,.ref 50),(77,iI (v17.length:Int)),(78,iI v32)],[(3,dC v2),(4,List.set (List.set (List.set (List.set (fU jG) 0 (.nils)) 1 (.nils)) 2 (.nils)) 3 (.nils)),(5,List.set (List.set (List.set (List.set (fU jG) 0 (.ref 1022)) 1 (.ref 50)) 2 (.ref 72)) 3 (.nils))],[(50,⟨33,59,lm az v17⟩),(72,⟨67,4,lm aA v27⟩),(94,⟨50,2,lm aL v33⟩),(1022,⟨33,59,lm az v3⟩)],[3,4,5,50,72,94,1022]⟩
def Md:AS:=⟨[(3,.ptr 3 0),(4,.ptr 4 0),(5,.ptr 5 0),(13,iI v25.2),(14,.nils),(63,.ref 1060),(64,iI (v25.1.length:Int)),(65,iI v26)],[(3,dC v2),(4,List.set (List.set (List.set (List.set (fU jG) 0 (.nils)) 1 (.nils)) 2 (.nils)) 3 (.nils)),(5,List.set (List.set (List.set (List.set (fU jG) 0 (.ref 1022)) 1 (.ref 50)) 2 (.ref 72)) 3 (.nils))],[(50,⟨33,59,lm az v17⟩),(72,⟨67,4,lm aA v27⟩),(1022,⟨33,59,lm az v3⟩),(1060,⟨44,1,lm (bu aA) v25.1⟩)],[3,4,5,50,72,1022,1060]⟩
def MW:AS:=⟨[(3,.ptr 3 0),(4,.ptr 4 0),(5,.ptr 5 0),(6,.ref 56),(25,.ref 1022),(26,iI (v3.length:Int)),(27,iI v16)],[(3,dC v2),(4,List.set (List.set (List.set (List.set (fU jG) 0 (.nils)) 1 (.nils)) 2 (.nils)) 3 (.nils)),(5,List.set (List.set (List.set (List.set (fU jG) 0 (.ref 1022)) 1 (.ref 50)) 2 (.nils)) 3 (.nils))],[(50,⟨33,59,lm az v17⟩),(56,⟨62,1,lm (bu (bL (ab .i64))) v18⟩),(1022,⟨33,59,lm az v3⟩)],[3,4,5,50,56,1022]⟩
abbrev zp:Prop:=∀{v16:Int} {v17:(List ac)} {v18:(List (List (V2 Int)))},L1 v16 v17 v18=some r→LP (ld M w0) (lJ M w0 r) Ed (cat Tryz.f15 (pn 244)) m1 (MW v2 v3 v16 v17 v18)
abbrev J2:Prop:=∀{v21:Int} {v22:(List (V2 Int))} {v23:(List ac)},L2 v21 v22 v23=some r→LP (ld M w0) (lJ M w0 r) (EE M w0 r m1) (cat Tryz.f15 (pn 250676)) m2 (M9 v2 v3 v16 v18 v19 v21 v22 v23)
abbrev Ju:Prop:=∀{v26:Int} {v27:(List ah)},L3 v26 v27=some r→LP (ld M w0) (lJ M w0 r) Fm (cat Tryz.f15 (pn 2036)) m3 (Md v2 v3 v17 v25 v26 v27)
abbrev Pk:Prop:=∀{v32:Int} {v33:(List aq)},L4 v32 v33=some r→LP (ld M w0) (lJ M w0 r) F3 (cat Tryz.f15 (pn 4084)) m4 (IG v2 v3 v17 v25 v27 v32 v33)
variable{M w0 r v1 v2 v3 v16 v17 v18 v19 v21 v22 v23 v25 v26 v27 v32 v33 m1 m2 m3 m4 L1 L2 L3 L4}{K:Kn}{n:Nat}
theorem VZ(hK:am K)(hL1:zp M w0 r v2 v3 m1 L1)(hL2:J2 M w0 r v2 v3 v16 v18 v19 m1 m2 L2)(h:vm K n v2 v3 v16 v18 v19 L1 L2 v21 v22 v23=some r):Bx M w0 r (iz 250676::Lh M w0 r m1 m2) (M9 v2 v3 v16 v18 v19 v21 v22 v23):=by
 unfold vm at h;refine ax 6 7 3 ?_;obtain⟨h50,h⟩|⟨h50,h⟩:=av h
 ·refine ak 35 h50 (cF 8 9 3 3 5 (ai 0 ?_));obtain⟨h51,h⟩:=aw h;refine ap (bZ 1032 59 az h51) (ap (bE 33 0 az aI (aR h51).2 (cS)) (ae (ax 2 3 1 (ai 7 ?_))));obtain⟨h52,h⟩:=aw h;refine ap (c6 45 45 61 2 (bL (ab .i64)) (rfl) (fun _=>rfl) h52) (ae ?_);obtain⟨v24,h53,h⟩:=cf h;refine bq (ks':=iz 16043315 :: .b 3::iz 2005415::Lh M w0 r m1 m2) 0 ⟨[(3,.ptr 3 0),(4,.ptr 4 0),(5,.ptr 5 0),(6,.ref 56),(9,.ref 45),(11,.ptr 11 0),(25,.ref 1022),(26,iI (v3.length:Int)),(27,iI v16),(32,.ref 1032),(33,iI (v19.length:Int)),(34,iI v21)],[(3,dC v2),(4,List.set (List.set (List.set (List.set (fU jG) 0 (.nils)) 1 (.nils)) 2 (.nils)) 3 (.nils)),(5,List.set (List.set (List.set (List.set (fU jG) 0 (.ref 1022)) 1 (.ref 50)) 2 (.nils)) 3 (.nils)),(11,aI (gD v19 v21))],[(45,⟨61,2,lm (bL (ab .i64)) v24⟩),(50,⟨33,59,lm az v23⟩),(56,⟨62,1,lm (bu (bL (ab .i64))) v18⟩),(1022,⟨33,59,lm az v3⟩),(1032,⟨33,59,lm az v19⟩)],[3,4,5,11,45,50,56,1022,1032]⟩ ?_ (by subst h53;kernel_rfl)
  refine ai 3 (ap (gV az ([(gD v19 v21)]:List ac) (new:=[aI (gD v19 v21)]) (by simp only[List.map_cons,List.map_nil,cS])) ?_);obtain⟨h54,h⟩:=aw h;exact ap (c6 50 50 33 59 az (rfl) (dw) h54) (ae (aj 2 (bd (hL2 h))))
 ·refine ak 35 h50 (df (ks':=iz 31335 :: .b 1::iz 1959::D7 M w0 r m1) 5 (ai 2 (eO 45 (br 3 1 ?_))));obtain⟨h55,h⟩:=aw h;exact ap (c6 56 56 62 1 (bu (bL (ab .i64))) (rfl) (fun _=>rfl) h55) (ae (aj 2 (bd (hL1 h))))
theorem Va(hK:am K)(hL1:zp M w0 r v2 v3 m1 L1)(m:Nat):J2 M w0 r v2 v3 v16 v18 v19 m1 m (nS K n v2 v3 v16 v18 v19 L1 m):=by
 induction m with
 | zero=>intro v21 v22 v23 h;cases h
 | succ m ih=>intro v21 v22 v23 h;have h:vm K n v2 v3 v16 v18 v19 L1 (nS K n v2 v3 v16 v18 v19 L1 m) v21 v22 v23=some r:=h;exact aU (VZ hK hL1 ih h)
theorem Wi(hK:am K)(hL4:Pk M w0 r v2 v3 v17 v25 v27 m4 L4)(h:vu K n v2 v3 v17 v25 v27 L4 v32 v33=some r):Bx M w0 r (iz 4084::Rv M w0 r m4) (IG v2 v3 v17 v25 v27 v32 v33):=by
 unfold vu at h;refine ax 6 7 3 ?_;obtain⟨h76,h⟩|⟨h76,h⟩:=av h
 ·refine ak 79 h76 (cF 8 9 7 3 5 (ai 0 ?_));obtain⟨h77,h⟩:=aw h;refine ap (bZ 50 59 az h77) (ap (bE 33 0 az aI (aR h77).2 (cS)) (ae (ax 2 3 1 (bI [3,4,5,13,14,18,76,77,78] [3,4,5,18] [50,72,94,1022] ?_))));obtain⟨v34,h78,h⟩:=bind_some h;obtain⟨v35,h79,h⟩:=bind_some h;refine co 2 (nu 83 [.agg (aI (gD v17 v32)),.agg (aI v34),.agg (dC v2),.tup [iI v35.1,iI v35.2]]++nu 82 [.tup [iI v35.1,iI v35.2]]++nu 87 [iI v35.1,iI v35.2]) [] [] [cw Tryz.prog 103 Tryz.f15 (pn 261426) 7,cw Tryz.prog 103 Tryz.f15 (pn 261426) 8] (aF [.v 0 1] (aC (cM 0 1 84 (ID hK h78)) (aF [.v 0 1] (aC (cM 0 1 86 (Oe hK h79)) (aF [.v 0 1,.v 0 1,.v 0 2] (aC (cG 0) (aC (cG 1) cp))))))) (ai 5 ?_);obtain⟨h80,h⟩:=aw h;exact ap (c6 94 94 50 2 aL (rfl) (gy) h80) (ae (aj 2 (bd (hL4 h))))
 ·refine ak 79 h76 (eG 2 3 6 (ai 4 (eO 72 (eO 94 ?_))));obtain⟨v36,h81,h⟩:=bind_some h;refine d5 1100 (Zw hK h81) (fQ 27) (ae (aW 3 (ku 50 (ku 1100 ?_))));cases h;exact d9
theorem abW(hK:am K)(m:Nat):Pk M w0 r v2 v3 v17 v25 v27 m (mH K n v2 v3 v17 v25 v27 m):=by
 induction m with
 | zero=>intro v32 v33 h;cases h
 | succ m ih=>intro v32 v33 h;have h:vu K n v2 v3 v17 v25 v27 (mH K n v2 v3 v17 v25 v27 m) v32 v33=some r:=h;exact aU (Wi hK ih h)
theorem UH(hK:am K)(hL3:Ju M w0 r v2 v3 v17 v25 m3 L3)(h:wA K n v2 v3 v17 v25 L3 v26 v27=some r):Bx M w0 r (iz 2036::aaF M w0 r m3) (Md v2 v3 v17 v25 v26 v27):=by
 unfold wA at h;refine ax 6 7 3 ?_;obtain⟨h63,h⟩|⟨h63,h⟩:=av h
 ·refine ak 66 h63 (cF 8 9 5 3 5 (ai 0 ?_));obtain⟨h64,h⟩:=aw h;refine ap (bZ 1060 1 (bu aA) h64) (ap (bE 44 0 (bu aA) (bu aA) (aR h64).2 (fun _=>rfl)) (ae (ai 3 ?_)));obtain⟨h65,h⟩:=aw h;exact ap (c6 72 72 67 4 aA (rfl) (gO) h65) (ae (aj 2 (bd (hL3 h))))
 ·exact ak 66 h63 (rX 4 5 3 7 (ai 2 (ap (bK az v17) (ae (ip 2 6 1 (bI [3,4,5,13,14,76,77,78] [3,4,5] [50,72,1022] (eJ 94 14 50 2 (aj 0 (bP (p:=pn 2042) n (abW hK n h))))))))))
theorem U4(hK:am K)(m:Nat):Ju M w0 r v2 v3 v17 v25 m (mD K n v2 v3 v17 v25 m):=by
 induction m with
 | zero=>intro v26 v27 h;cases h
 | succ m ih=>intro v26 v27 h;have h:wA K n v2 v3 v17 v25 (mD K n v2 v3 v17 v25 m) v26 v27=some r:=h;exact aU (UH hK ih h)
theorem ZB(hK:am K)(hL1:zp M w0 r v2 v3 m1 L1)(h:uJ K n v2 v3 L1 v16 v17 v18=some r):Bx M w0 r (iz 244::D7 M w0 r m1) (MW v2 v3 v16 v17 v18):=by
 unfold uJ at h;refine ax 6 7 3 ?_;obtain⟨h38,h⟩|⟨h38,h⟩:=av h
 ·refine ak 28 h38 (cF 8 9 1 3 5 (ai 0 ?_));obtain⟨h39,h⟩:=aw h;refine ap (bZ 1022 59 az h39) (ap (bE 33 0 az aI (aR h39).2 (cS)) (ae (cm 12 13 7 4 (ai 1 ?_))));obtain⟨v19,h40,h⟩:=bind_some h;exact d5 1032 (I5 hK h40) (fQ 22) (ap (bK az v19) (ae (ip 2 2 1 (bI [3,4,5,6,9,25,26,27,32,33,34] [3,4,5] [50,56,1022,1032] (eJ 45 9 61 2 (aj 0 (bP (p:=pn 125338) n (Va hK hL1 n h))))))))
 ·refine ak 28 h38 (eG 2 3 6 (ai 1 (eO 56 ?_)));obtain⟨v25,h56,h⟩:=bind_some h;exact d5 1060 (N2 hK h56) (A7 (i:=0) rfl) (ae (cm 12 13 7 4 (ai 1 (ap (bK (bu aA) v25.1) (ae (ip 2 4 1 (bI [3,4,5,13,14,63,64,65] [3,4,5] [50,1022,1060] (oX 72 5 2 67 4 (aj 0 (bP (p:=pn 1018) n (U4 hK n h)))))))))))
theorem RM(hK:am K)(m:Nat):zp M w0 r v2 v3 m (kM K n v2 v3 m):=by
 induction m with
 | zero=>intro v16 v17 v18 h;cases h
 | succ m ih=>intro v16 v17 v18 h;have h:uJ K n v2 v3 (kM K n v2 v3 m) v16 v17 v18=some r:=h;exact aU (ZB hK ih h)
theorem Nn(hK:am K)(h:ry K n v1 v2=some r):aQ Tryz.prog 15 [.agg (aI v1),.agg (dC v2)] (fun v s=>v=.agg (List.set (fU ({ r with rows:=[] }:cT)) 0 (.ref 1022))∧look 1022 s.r=some ⟨33,59,lm az r.rows⟩):=by
 refine bF (cat Tryz.f15 (pn 1)) Tryz.func15 Tryz.ntmps15 fun M w0=>(bx ⟨[(0,.agg (aI v1)),(1,.agg (dC v2))],[],[],[]⟩ ?_);unfold ry at h;refine ax 6 7 3 (ai 1 ?_);obtain⟨v3,h1,h⟩:=bind_some h;exact d5 1022 (I5 hK h1) (fQ 22) (ae (cm 12 13 7 4 (ai 2 (ap (bK az v3) (ae (ip 2 0 1 (bI [3,4,5,6,25,26,27] [3,4,5] [1022] (eJ 56 6 62 1 (oX 50 5 1 33 59 (aj 0 (bP (p:=pn 122) n (RM hK n h))))))))))))
end
noncomputable section
variable(M:Nat→Prop)(w0:aJ)(r:Int×Int)(v1:cT)(v3 v4 v5:Int)(m1:Nat)(L1:Int→Int→Int→Option (Int×Int))
abbrev EM:Cx:=⟨Tryz.prog,24,M,w0⟩
abbrev BL:=bodyPost Tryz.prog Tryz.f16 (bX M w0 (fun v _=>v=.tup [iI r.1,iI r.2]))
abbrev Zu(ks:List ao)(s:AS):=VE (EM M w0) (BL M w0 r) ks .normal s
abbrev Pw(n:Nat):ao:=.c (cat Tryz.f16 (pn n))
abbrev EW:List ao:=[.b 0,Pw 7]
abbrev RJ:List ao:=kl (EM M w0) (BL M w0 r) EW (cat Tryz.f16 (pn 52)) m1::EW
def Nf:AS:=⟨[(2,iI v3),(3,iI v4),(7,.sl (lm aL v1.columns)),(8,iI (v1.columns.length:Int)),(9,iI v5)],[],[],[]⟩
abbrev Mu:Prop:=∀{v3:Int} {v4:Int} {v5:Int},L1 v3 v4 v5=some r→LP (EM M w0) (BL M w0 r) EW (cat Tryz.f16 (pn 52)) m1 (Nf v1 v3 v4 v5)
variable{M w0 r v1 v3 v4 v5 m1 L1}{K:Kn}{n:Nat}
theorem ZA(hK:am K)(hL1:Mu M w0 r v1 m1 L1)(h:tW K n v1 L1 v3 v4 v5=some r):Zu M w0 r (Pw 52::RJ M w0 r m1) (Nf v1 v3 v4 v5):=by
 unfold tW at h;refine ax 6 7 3 ?_;obtain⟨h4,h⟩|⟨h4,h⟩:=av h
 ·refine ak 10 h4 (cF 8 9 1 3 5 (ai 0 ?_));obtain⟨h5,h⟩:=aw h;exact ap (cc aL aL h5 (gy) (fun _=>rfl)) (ae (aj 5 (bd (hL1 h))))
 ·refine ak 10 h4 (aW 8 ?_);cases h;exact eu
theorem Te(hK:am K)(m:Nat):Mu M w0 r v1 m (sR K n v1 m):=by
 induction m with
 | zero=>intro v3 v4 v5 h;cases h
 | succ m ih=>intro v3 v4 v5 h;have h:tW K n v1 (sR K n v1 m) v3 v4 v5=some r:=h;exact aU (ZA hK ih h)
theorem Lz(hK:am K)(h:uk K n v1=some r):aQ Tryz.prog 16 [.agg (fU v1)] (fun v _=>v=.tup [iI r.1,iI r.2]):=by
 refine bF (cat Tryz.f16 (pn 1)) Tryz.func16 Tryz.ntmps16 fun M w0=>(bx ⟨[(0,.agg (fU v1))],[],[],[]⟩ ?_);unfold uk at h;exact cm 12 13 7 4 (ai 2 (ap (bK aL v1.columns) (ae (aj 1 (bP (p:=pn 26) n (Te hK n h))))))
end
noncomputable section
variable(M:Nat→Prop)(w0:aJ)(r v1:aE)(v2:Nat)(v3 v4 v5 v6 v7 v8 v9 v10 v11 v12 v13:aE)  
abbrev eS(n:Nat):ao:=.c (cat Tryz.f17 (pn n))
abbrev DH:Cx:=⟨Tryz.prog,40,M,w0⟩
abbrev Dz:=bodyPost Tryz.prog Tryz.f17 (bX M w0 (fun v _=>v=.agg (aD r)))
abbrev jP(ks:List ao)(s:AS):=VE (DH M w0) (Dz M w0 r) ks .normal s
def Ug:AS:=⟨[(1,.pp 1 v2 0),(2,.ptr 2 0),(24,.ref 10),(25,iI 11),(26,iI 10)],[(1,aD v13),(2,aD cn)],[(10,⟨103,1,lm aM [(v2,6),(v2,10),(v2,12),(v2,14),(v2,22),(v2,16),(v2,24),(v2,18),(v2,26),(v2,20),(v2,28)]⟩)],[1,2,10]⟩
def acG:AS:=⟨[(1,.pp 1 v2 0),(2,.ptr 2 0),(24,.ref 10),(25,iI 11),(26,iI 9)],[(1,aD v12),(2,aD cn)],[(10,⟨103,1,lm aM [(v2,6),(v2,10),(v2,12),(v2,14),(v2,22),(v2,16),(v2,24),(v2,18),(v2,26),(v2,20),(v2,28)]⟩)],[1,2,10]⟩
def Xn:AS:=⟨[(1,.pp 1 v2 0),(2,.ptr 2 0),(24,.ref 10),(25,iI 11),(26,iI 8)],[(1,aD v11),(2,aD cn)],[(10,⟨103,1,lm aM [(v2,6),(v2,10),(v2,12),(v2,14),(v2,22),(v2,16),(v2,24),(v2,18),(v2,26),(v2,20),(v2,28)]⟩)],[1,2,10]⟩
def YE:AS:=⟨[(1,.pp 1 v2 0),(2,.ptr 2 0),(24,.ref 10),(25,iI 11),(26,iI 7)],[(1,aD v10),(2,aD cn)],[(10,⟨103,1,lm aM [(v2,6),(v2,10),(v2,12),(v2,14),(v2,22),(v2,16),(v2,24),(v2,18),(v2,26),(v2,20),(v2,28)]⟩)],[1,2,10]⟩
def QQ:AS:=⟨[(1,.pp 1 v2 0),(2,.ptr 2 0),(24,.ref 10),(25,iI 11),(26,iI 6)],[(1,aD v9),(2,aD cn)],[(10,⟨103,1,lm aM [(v2,6),(v2,10),(v2,12),(v2,14),(v2,22),(v2,16),(v2,24),(v2,18),(v2,26),(v2,20),(v2,28)]⟩)],[1,2,10]⟩
def Zb:AS:=⟨[(1,.pp 1 v2 0),(2,.ptr 2 0),(24,.ref 10),(25,iI 11),(26,iI 5)],[(1,aD v8),(2,aD cn)],[(10,⟨103,1,lm aM [(v2,6),(v2,10),(v2,12),(v2,14),(v2,22),(v2,16),(v2,24),(v2,18),(v2,26),(v2,20),(v2,28)]⟩)],[1,2,10]⟩
def To:AS:=⟨[(1,.pp 1 v2 0),(2,.ptr 2 0),(24,.ref 10),(25,iI 11),(26,iI 4)],[(1,aD v7),(2,aD cn)],[(10,⟨103,1,lm aM [(v2,6),(v2,10),(v2,12),(v2,14),(v2,22),(v2,16),(v2,24),(v2,18),(v2,26),(v2,20),(v2,28)]⟩)],[1,2,10]⟩
def ZZ:AS:=⟨[(1,.pp 1 v2 0),(2,.ptr 2 0),(24,.ref 10),(25,iI 11),(26,iI 3)],[(1,aD v6),(2,aD cn)],[(10,⟨103,1,lm aM [(v2,6),(v2,10),(v2,12),(v2,14),(v2,22),(v2,16),(v2,24),(v2,18),(v2,26),(v2,20),(v2,28)]⟩)],[1,2,10]⟩
def abg:AS:=⟨[(1,.pp 1 v2 0),(2,.ptr 2 0),(24,.ref 10),(25,iI 11),(26,iI 2)],[(1,aD v5),(2,aD cn)],[(10,⟨103,1,lm aM [(v2,6),(v2,10),(v2,12),(v2,14),(v2,22),(v2,16),(v2,24),(v2,18),(v2,26),(v2,20),(v2,28)]⟩)],[1,2,10]⟩
def aas:AS:=⟨[(1,.pp 1 v2 0),(2,.ptr 2 0),(24,.ref 10),(25,iI 11),(26,iI 1)],[(1,aD v4),(2,aD cn)],[(10,⟨103,1,lm aM [(v2,6),(v2,10),(v2,12),(v2,14),(v2,22),(v2,16),(v2,24),(v2,18),(v2,26),(v2,20),(v2,28)]⟩)],[1,2,10]⟩
def Zn:AS:=⟨[(1,.pp 1 v2 0),(2,.ptr 2 0),(24,.ref 10),(25,iI 11),(26,iI 0)],[(1,aD v3),(2,aD cn)],[(10,⟨103,1,lm aM [(v2,6),(v2,10),(v2,12),(v2,14),(v2,22),(v2,16),(v2,24),(v2,18),(v2,26),(v2,20),(v2,28)]⟩)],[1,2,10]⟩
abbrev eY(m:Nat):List ao:=kl (DH M w0) (Dz M w0 r) [.b 2,eS 31] (cat Tryz.f17 (pn 244)) m::[.b 2,eS 31]
abbrev un(m:Nat):List ao:=kl (DH M w0) (Dz M w0 r) [.b 0,eS 15] (cat Tryz.f17 (pn 116)) m::[.b 0,eS 15]
variable{M w0 r v1 v2 v3 v4 v5 v6 v7 v8 v9 v10 v11 v12 v13}{K:Kn}{n:Nat}
theorem JT(hK:am K)(h:uW K n v13=some r):jP M w0 r (.b 3::eS 1959::eY M w0 r 29) (Ug v2 v13):=by
 unfold uW at h;refine bq (ks':=eY M w0 r 29) 2 ⟨[(1,.pp 1 v2 0),(2,.ptr 2 0),(24,.ref 10),(25,iI 11),(26,iI 11)],[(1,aD v13),(2,aD cn)],[(10,⟨103,1,lm aM [(v2,6),(v2,10),(v2,12),(v2,14),(v2,22),(v2,16),(v2,24),(v2,18),(v2,26),(v2,20),(v2,28)]⟩)],[1,2,10]⟩ (bd (aU (aW 11 ?_)));cases h;exact bW
theorem HV(hK:am K)(h:sn K n v12=some r):jP M w0 r (.b 3::eS 1959::eY M w0 r 30) (acG v2 v12):=by
 unfold sn at h;refine bq (ks':=eY M w0 r 30) 2 ⟨[(1,.pp 1 v2 0),(2,.ptr 2 0),(24,.ref 10),(25,iI 11),(26,iI 10)],[(1,aD v12),(2,aD cn)],[(10,⟨103,1,lm aM [(v2,6),(v2,10),(v2,12),(v2,14),(v2,22),(v2,16),(v2,24),(v2,18),(v2,26),(v2,20),(v2,28)]⟩)],[1,2,10]⟩ (bd (aU (dK 56 57 3 15 8 (ai 0 (ap (bZ 10 1 aM (L:=([(v2,6),(v2,10),(v2,12),(v2,14),(v2,22),(v2,16),(v2,24),(v2,18),(v2,26),(v2,20),(v2,28)]:List (Nat×Nat))) (i:=(10:Int)) (by kernel_rfl)) (ap (bE 103 0 aM aM (L:=([(v2,6),(v2,10),(v2,12),(v2,14),(v2,22),(v2,16),(v2,24),(v2,18),(v2,26),(v2,20),(v2,28)]:List (Nat×Nat))) (j:=(10:Int).toNat) (of_decide_eq_true (by kernel_rfl)) (fun _=>rfl)) (ae (ax 2 3 1 (ai 3 (cZ 32 1 1 v2 28 0 (ae ?_)))))))))));obtain⟨h11,h⟩|⟨h11,h⟩:=av h
 ·exact ak 34 h11 (ce 2 1 (ai 3 (cZ 37 1 1 v2 28 0 (ae (aj 0 (JT hK (v2:=v2) h))))))
 ·exact ak 34 h11 (aj 2 (JT hK (v2:=v2) h))
theorem J5(hK:am K)(h:rU K n v11=some r):jP M w0 r (.b 3::eS 1959::eY M w0 r 31) (Xn v2 v11):=by
 unfold rU at h;refine bq (ks':=eY M w0 r 31) 2 ⟨[(1,.pp 1 v2 0),(2,.ptr 2 0),(24,.ref 10),(25,iI 11),(26,iI 9)],[(1,aD v11),(2,aD cn)],[(10,⟨103,1,lm aM [(v2,6),(v2,10),(v2,12),(v2,14),(v2,22),(v2,16),(v2,24),(v2,18),(v2,26),(v2,20),(v2,28)]⟩)],[1,2,10]⟩ (bd (aU (dK 56 57 3 15 8 (ai 0 (ap (bZ 10 1 aM (L:=([(v2,6),(v2,10),(v2,12),(v2,14),(v2,22),(v2,16),(v2,24),(v2,18),(v2,26),(v2,20),(v2,28)]:List (Nat×Nat))) (i:=(9:Int)) (by kernel_rfl)) (ap (bE 103 0 aM aM (L:=([(v2,6),(v2,10),(v2,12),(v2,14),(v2,22),(v2,16),(v2,24),(v2,18),(v2,26),(v2,20),(v2,28)]:List (Nat×Nat))) (j:=(9:Int).toNat) (of_decide_eq_true (by kernel_rfl)) (fun _=>rfl)) (ae (ax 2 3 1 (ai 3 (cZ 32 1 1 v2 20 0 (ae ?_)))))))))));obtain⟨h10,h⟩|⟨h10,h⟩:=av h
 ·exact ak 34 h10 (ce 2 1 (ai 3 (cZ 37 1 1 v2 20 0 (ae (aj 0 (HV hK (v2:=v2) h))))))
 ·exact ak 34 h10 (aj 2 (HV hK (v2:=v2) h))
theorem LH(hK:am K)(h:tf K n v10=some r):jP M w0 r (.b 3::eS 1959::eY M w0 r 32) (YE v2 v10):=by
 unfold tf at h;refine bq (ks':=eY M w0 r 32) 2 ⟨[(1,.pp 1 v2 0),(2,.ptr 2 0),(24,.ref 10),(25,iI 11),(26,iI 8)],[(1,aD v10),(2,aD cn)],[(10,⟨103,1,lm aM [(v2,6),(v2,10),(v2,12),(v2,14),(v2,22),(v2,16),(v2,24),(v2,18),(v2,26),(v2,20),(v2,28)]⟩)],[1,2,10]⟩ (bd (aU (dK 56 57 3 15 8 (ai 0 (ap (bZ 10 1 aM (L:=([(v2,6),(v2,10),(v2,12),(v2,14),(v2,22),(v2,16),(v2,24),(v2,18),(v2,26),(v2,20),(v2,28)]:List (Nat×Nat))) (i:=(8:Int)) (by kernel_rfl)) (ap (bE 103 0 aM aM (L:=([(v2,6),(v2,10),(v2,12),(v2,14),(v2,22),(v2,16),(v2,24),(v2,18),(v2,26),(v2,20),(v2,28)]:List (Nat×Nat))) (j:=(8:Int).toNat) (of_decide_eq_true (by kernel_rfl)) (fun _=>rfl)) (ae (ax 2 3 1 (ai 3 (cZ 32 1 1 v2 26 0 (ae ?_)))))))))));obtain⟨h9,h⟩|⟨h9,h⟩:=av h
 ·exact ak 34 h9 (ce 2 1 (ai 3 (cZ 37 1 1 v2 26 0 (ae (aj 0 (J5 hK (v2:=v2) h))))))
 ·exact ak 34 h9 (aj 2 (J5 hK (v2:=v2) h))
theorem LD(hK:am K)(h:sE K n v9=some r):jP M w0 r (.b 3::eS 1959::eY M w0 r 33) (QQ v2 v9):=by
 unfold sE at h;refine bq (ks':=eY M w0 r 33) 2 ⟨[(1,.pp 1 v2 0),(2,.ptr 2 0),(24,.ref 10),(25,iI 11),(26,iI 7)],[(1,aD v9),(2,aD cn)],[(10,⟨103,1,lm aM [(v2,6),(v2,10),(v2,12),(v2,14),(v2,22),(v2,16),(v2,24),(v2,18),(v2,26),(v2,20),(v2,28)]⟩)],[1,2,10]⟩ (bd (aU (dK 56 57 3 15 8 (ai 0 (ap (bZ 10 1 aM (L:=([(v2,6),(v2,10),(v2,12),(v2,14),(v2,22),(v2,16),(v2,24),(v2,18),(v2,26),(v2,20),(v2,28)]:List (Nat×Nat))) (i:=(7:Int)) (by kernel_rfl)) (ap (bE 103 0 aM aM (L:=([(v2,6),(v2,10),(v2,12),(v2,14),(v2,22),(v2,16),(v2,24),(v2,18),(v2,26),(v2,20),(v2,28)]:List (Nat×Nat))) (j:=(7:Int).toNat) (of_decide_eq_true (by kernel_rfl)) (fun _=>rfl)) (ae (ax 2 3 1 (ai 3 (cZ 32 1 1 v2 18 0 (ae ?_)))))))))));obtain⟨h8,h⟩|⟨h8,h⟩:=av h
 ·exact ak 34 h8 (ce 2 1 (ai 3 (cZ 37 1 1 v2 18 0 (ae (aj 0 (LH hK (v2:=v2) h))))))
 ·exact ak 34 h8 (aj 2 (LH hK (v2:=v2) h))
theorem JG(hK:am K)(h:qX K n v8=some r):jP M w0 r (.b 3::eS 1959::eY M w0 r 34) (Zb v2 v8):=by
 unfold qX at h;refine bq (ks':=eY M w0 r 34) 2 ⟨[(1,.pp 1 v2 0),(2,.ptr 2 0),(24,.ref 10),(25,iI 11),(26,iI 6)],[(1,aD v8),(2,aD cn)],[(10,⟨103,1,lm aM [(v2,6),(v2,10),(v2,12),(v2,14),(v2,22),(v2,16),(v2,24),(v2,18),(v2,26),(v2,20),(v2,28)]⟩)],[1,2,10]⟩ (bd (aU (dK 56 57 3 15 8 (ai 0 (ap (bZ 10 1 aM (L:=([(v2,6),(v2,10),(v2,12),(v2,14),(v2,22),(v2,16),(v2,24),(v2,18),(v2,26),(v2,20),(v2,28)]:List (Nat×Nat))) (i:=(6:Int)) (by kernel_rfl)) (ap (bE 103 0 aM aM (L:=([(v2,6),(v2,10),(v2,12),(v2,14),(v2,22),(v2,16),(v2,24),(v2,18),(v2,26),(v2,20),(v2,28)]:List (Nat×Nat))) (j:=(6:Int).toNat) (of_decide_eq_true (by kernel_rfl)) (fun _=>rfl)) (ae (ax 2 3 1 (ai 3 (cZ 32 1 1 v2 24 0 (ae ?_)))))))))));obtain⟨h7,h⟩|⟨h7,h⟩:=av h
 ·exact ak 34 h7 (ce 2 1 (ai 3 (cZ 37 1 1 v2 24 0 (ae (aj 0 (LD hK (v2:=v2) h))))))
 ·exact ak 34 h7 (aj 2 (LD hK (v2:=v2) h))
theorem LZ(hK:am K)(h:qu K n v7=some r):jP M w0 r (.b 3::eS 1959::eY M w0 r 35) (To v2 v7):=by
 unfold qu at h;refine bq (ks':=eY M w0 r 35) 2 ⟨[(1,.pp 1 v2 0),(2,.ptr 2 0),(24,.ref 10),(25,iI 11),(26,iI 5)],[(1,aD v7),(2,aD cn)],[(10,⟨103,1,lm aM [(v2,6),(v2,10),(v2,12),(v2,14),(v2,22),(v2,16),(v2,24),(v2,18),(v2,26),(v2,20),(v2,28)]⟩)],[1,2,10]⟩ (bd (aU (dK 56 57 3 15 8 (ai 0 (ap (bZ 10 1 aM (L:=([(v2,6),(v2,10),(v2,12),(v2,14),(v2,22),(v2,16),(v2,24),(v2,18),(v2,26),(v2,20),(v2,28)]:List (Nat×Nat))) (i:=(5:Int)) (by kernel_rfl)) (ap (bE 103 0 aM aM (L:=([(v2,6),(v2,10),(v2,12),(v2,14),(v2,22),(v2,16),(v2,24),(v2,18),(v2,26),(v2,20),(v2,28)]:List (Nat×Nat))) (j:=(5:Int).toNat) (of_decide_eq_true (by kernel_rfl)) (fun _=>rfl)) (ae (ax 2 3 1 (ai 3 (cZ 32 1 1 v2 16 0 (ae ?_)))))))))));obtain⟨h6,h⟩|⟨h6,h⟩:=av h
 ·exact ak 34 h6 (ce 2 1 (ai 3 (cZ 37 1 1 v2 16 0 (ae (aj 0 (JG hK (v2:=v2) h))))))
 ·exact ak 34 h6 (aj 2 (JG hK (v2:=v2) h))
theorem I0(hK:am K)(h:ta K n v6=some r):jP M w0 r (.b 3::eS 1959::eY M w0 r 36) (ZZ v2 v6):=by
 unfold ta at h;refine bq (ks':=eY M w0 r 36) 2 ⟨[(1,.pp 1 v2 0),(2,.ptr 2 0),(24,.ref 10),(25,iI 11),(26,iI 4)],[(1,aD v6),(2,aD cn)],[(10,⟨103,1,lm aM [(v2,6),(v2,10),(v2,12),(v2,14),(v2,22),(v2,16),(v2,24),(v2,18),(v2,26),(v2,20),(v2,28)]⟩)],[1,2,10]⟩ (bd (aU (dK 56 57 3 15 8 (ai 0 (ap (bZ 10 1 aM (L:=([(v2,6),(v2,10),(v2,12),(v2,14),(v2,22),(v2,16),(v2,24),(v2,18),(v2,26),(v2,20),(v2,28)]:List (Nat×Nat))) (i:=(4:Int)) (by kernel_rfl)) (ap (bE 103 0 aM aM (L:=([(v2,6),(v2,10),(v2,12),(v2,14),(v2,22),(v2,16),(v2,24),(v2,18),(v2,26),(v2,20),(v2,28)]:List (Nat×Nat))) (j:=(4:Int).toNat) (of_decide_eq_true (by kernel_rfl)) (fun _=>rfl)) (ae (ax 2 3 1 (ai 3 (cZ 32 1 1 v2 22 0 (ae ?_)))))))))));obtain⟨h5,h⟩|⟨h5,h⟩:=av h
 ·exact ak 34 h5 (ce 2 1 (ai 3 (cZ 37 1 1 v2 22 0 (ae (aj 0 (LZ hK (v2:=v2) h))))))
 ·exact ak 34 h5 (aj 2 (LZ hK (v2:=v2) h))
theorem Pp(hK:am K)(h:pU K n v5=some r):jP M w0 r (.b 3::eS 1959::eY M w0 r 37) (abg v2 v5):=by
 unfold pU at h;refine bq (ks':=eY M w0 r 37) 2 ⟨[(1,.pp 1 v2 0),(2,.ptr 2 0),(24,.ref 10),(25,iI 11),(26,iI 3)],[(1,aD v5),(2,aD cn)],[(10,⟨103,1,lm aM [(v2,6),(v2,10),(v2,12),(v2,14),(v2,22),(v2,16),(v2,24),(v2,18),(v2,26),(v2,20),(v2,28)]⟩)],[1,2,10]⟩ (bd (aU (dK 56 57 3 15 8 (ai 0 (ap (bZ 10 1 aM (L:=([(v2,6),(v2,10),(v2,12),(v2,14),(v2,22),(v2,16),(v2,24),(v2,18),(v2,26),(v2,20),(v2,28)]:List (Nat×Nat))) (i:=(3:Int)) (by kernel_rfl)) (ap (bE 103 0 aM aM (L:=([(v2,6),(v2,10),(v2,12),(v2,14),(v2,22),(v2,16),(v2,24),(v2,18),(v2,26),(v2,20),(v2,28)]:List (Nat×Nat))) (j:=(3:Int).toNat) (of_decide_eq_true (by kernel_rfl)) (fun _=>rfl)) (ae (ax 2 3 1 (ai 3 (cZ 32 1 1 v2 14 0 (ae ?_)))))))))));obtain⟨h4,h⟩|⟨h4,h⟩:=av h
 ·exact ak 34 h4 (ce 2 1 (ai 3 (cZ 37 1 1 v2 14 0 (ae (aj 0 (I0 hK (v2:=v2) h))))))
 ·exact ak 34 h4 (aj 2 (I0 hK (v2:=v2) h))
theorem HL(hK:am K)(h:rp K n v4=some r):jP M w0 r (.b 3::eS 1959::eY M w0 r 38) (aas v2 v4):=by
 unfold rp at h;refine bq (ks':=eY M w0 r 38) 2 ⟨[(1,.pp 1 v2 0),(2,.ptr 2 0),(24,.ref 10),(25,iI 11),(26,iI 2)],[(1,aD v4),(2,aD cn)],[(10,⟨103,1,lm aM [(v2,6),(v2,10),(v2,12),(v2,14),(v2,22),(v2,16),(v2,24),(v2,18),(v2,26),(v2,20),(v2,28)]⟩)],[1,2,10]⟩ (bd (aU (dK 56 57 3 15 8 (ai 0 (ap (bZ 10 1 aM (L:=([(v2,6),(v2,10),(v2,12),(v2,14),(v2,22),(v2,16),(v2,24),(v2,18),(v2,26),(v2,20),(v2,28)]:List (Nat×Nat))) (i:=(2:Int)) (by kernel_rfl)) (ap (bE 103 0 aM aM (L:=([(v2,6),(v2,10),(v2,12),(v2,14),(v2,22),(v2,16),(v2,24),(v2,18),(v2,26),(v2,20),(v2,28)]:List (Nat×Nat))) (j:=(2:Int).toNat) (of_decide_eq_true (by kernel_rfl)) (fun _=>rfl)) (ae (ax 2 3 1 (ai 3 (cZ 32 1 1 v2 12 0 (ae ?_)))))))))));obtain⟨h3,h⟩|⟨h3,h⟩:=av h
 ·exact ak 34 h3 (ce 2 1 (ai 3 (cZ 37 1 1 v2 12 0 (ae (aj 0 (Pp hK (v2:=v2) h))))))
 ·exact ak 34 h3 (aj 2 (Pp hK (v2:=v2) h))
theorem Mh(hK:am K)(h:rg K n v3=some r):jP M w0 r (.b 3::eS 1959::eY M w0 r 39) (Zn v2 v3):=by
 unfold rg at h;refine bq (ks':=eY M w0 r 39) 2 ⟨[(1,.pp 1 v2 0),(2,.ptr 2 0),(24,.ref 10),(25,iI 11),(26,iI 1)],[(1,aD v3),(2,aD cn)],[(10,⟨103,1,lm aM [(v2,6),(v2,10),(v2,12),(v2,14),(v2,22),(v2,16),(v2,24),(v2,18),(v2,26),(v2,20),(v2,28)]⟩)],[1,2,10]⟩ (bd (aU (dK 56 57 3 15 8 (ai 0 (ap (bZ 10 1 aM (L:=([(v2,6),(v2,10),(v2,12),(v2,14),(v2,22),(v2,16),(v2,24),(v2,18),(v2,26),(v2,20),(v2,28)]:List (Nat×Nat))) (i:=(1:Int)) (by kernel_rfl)) (ap (bE 103 0 aM aM (L:=([(v2,6),(v2,10),(v2,12),(v2,14),(v2,22),(v2,16),(v2,24),(v2,18),(v2,26),(v2,20),(v2,28)]:List (Nat×Nat))) (j:=(1:Int).toNat) (of_decide_eq_true (by kernel_rfl)) (fun _=>rfl)) (ae (ax 2 3 1 (ai 3 (cZ 32 1 1 v2 10 0 (ae ?_)))))))))));obtain⟨h2,h⟩|⟨h2,h⟩:=av h
 ·exact ak 34 h2 (ce 2 1 (ai 3 (cZ 37 1 1 v2 10 0 (ae (aj 0 (HL hK (v2:=v2) h))))))
 ·exact ak 34 h2 (aj 2 (HL hK (v2:=v2) h))
theorem abE(hK:am K)(h:tD K n v1=some r):aQ Tryz.prog 17 [.agg (aD v1)] (fun v _=>v=.agg (aD r)):=by
 refine bF (cat Tryz.f17 (pn 1)) Tryz.func17 Tryz.ntmps17 fun M w0=>(bx ⟨[(0,.agg (aD v1))],[],[],[]⟩ ?_);unfold tD at h;refine ax 6 7 3 (Mv 1 1 0 fun v2=>(ai 3 (JX 104 3 #[(0,(.tmp 7)),(1,(.tmp 8)),(2,(.tmp 9))] 10 (e:=103) (sz:=1) (l:=lm aM [(v2,6),(v2,10),(v2,12)]) (ae (bq (ks':=[eS 58,.b 0,eS 15]) 4 ⟨[(1,.pp 1 v2 0),(2,.ptr 2 0),(3,.ref 10),(11,iI 0)],[(1,aD v1),(2,aD cn)],[(10,⟨103,1,lm aM [(v2,6),(v2,10),(v2,12)]⟩)],[1,2,10]⟩ (kz 40 (c:=cat Tryz.f17 [1,1,0,1,0,0]) (by kernel_rfl) (aU (df (ks':=eS 3737 :: .b 1::eS 935::un M w0 r 39) 9 (bI [1,2,3,4,11] [1,2] [10] (co 2 (nu 14 [.ref 10,iI 0,.adr v2 14,.adr v2 14,iI 0,.adr v2 22,.adr v2 22,.sl (lm aM [(v2,14),(v2,22)])]) [] [] [fZ 22 10 ⟨103,1,lm aM [(v2,6),(v2,10),(v2,12),(v2,14),(v2,22)]⟩,cw Tryz.prog 40 Tryz.f17 (pn 3737) 9] (aF [.v 0 1,.v 0 2,.v 0 2,.v 0 2,.v 0 2,.v 0 2,.v 0 2,.v 0 1] (aC (c7 (m:=0) (c6 22 10 103 1 aM (L:=([(v2,6),(v2,10),(v2,12)]:List (Nat×Nat))) (M:=([(v2,14),(v2,22)]:(List (Nat×Nat)))) (bytes:=8) (rfl) (fun _=>rfl) (by kernel_rfl))) (aC (cG 1) cp))) (bq (ks':=un M w0 r 39) 2 ⟨[(1,.pp 1 v2 0),(2,.ptr 2 0),(3,.ref 10),(11,iI 1)],[(1,aD v1),(2,aD cn)],[(10,⟨103,1,lm aM [(v2,6),(v2,10),(v2,12),(v2,14),(v2,22)]⟩)],[1,2,10]⟩ (bd (aU (gx 57 1 15 9 (bI [1,2,3,4,11] [1,2] [10] (co 2 (nu 14 [.ref 10,iI 1,.adr v2 14,.adr v2 16,iI 1,.adr v2 22,.adr v2 24,.sl (lm aM [(v2,16),(v2,24)])]) [] [] [fZ 22 10 ⟨103,1,lm aM [(v2,6),(v2,10),(v2,12),(v2,14),(v2,22),(v2,16),(v2,24)]⟩,cw Tryz.prog 40 Tryz.f17 (pn 3737) 9] (aF [.v 0 1,.v 0 2,.v 0 2,.v 0 2,.v 0 2,.v 0 2,.v 0 2,.v 0 1] (aC (c7 (m:=0) (c6 22 10 103 1 aM (L:=([(v2,6),(v2,10),(v2,12),(v2,14),(v2,22)]:List (Nat×Nat))) (M:=([(v2,16),(v2,24)]:(List (Nat×Nat)))) (bytes:=8) (rfl) (fun _=>rfl) (by kernel_rfl))) (aC (cG 1) cp))) (bq (ks':=un M w0 r 38) 2 ⟨[(1,.pp 1 v2 0),(2,.ptr 2 0),(3,.ref 10),(11,iI 2)],[(1,aD v1),(2,aD cn)],[(10,⟨103,1,lm aM [(v2,6),(v2,10),(v2,12),(v2,14),(v2,22),(v2,16),(v2,24)]⟩)],[1,2,10]⟩ (bd (aU (gx 57 1 15 9 (bI [1,2,3,4,11] [1,2] [10] (co 2 (nu 14 [.ref 10,iI 2,.adr v2 14,.adr v2 18,iI 2,.adr v2 22,.adr v2 26,.sl (lm aM [(v2,18),(v2,26)])]) [] [] [fZ 22 10 ⟨103,1,lm aM [(v2,6),(v2,10),(v2,12),(v2,14),(v2,22),(v2,16),(v2,24),(v2,18),(v2,26)]⟩,cw Tryz.prog 40 Tryz.f17 (pn 3737) 9] (aF [.v 0 1,.v 0 2,.v 0 2,.v 0 2,.v 0 2,.v 0 2,.v 0 2,.v 0 1] (aC (c7 (m:=0) (c6 22 10 103 1 aM (L:=([(v2,6),(v2,10),(v2,12),(v2,14),(v2,22),(v2,16),(v2,24)]:List (Nat×Nat))) (M:=([(v2,18),(v2,26)]:(List (Nat×Nat)))) (bytes:=8) (rfl) (fun _=>rfl) (by kernel_rfl))) (aC (cG 1) cp))) (bq (ks':=un M w0 r 37) 2 ⟨[(1,.pp 1 v2 0),(2,.ptr 2 0),(3,.ref 10),(11,iI 3)],[(1,aD v1),(2,aD cn)],[(10,⟨103,1,lm aM [(v2,6),(v2,10),(v2,12),(v2,14),(v2,22),(v2,16),(v2,24),(v2,18),(v2,26)]⟩)],[1,2,10]⟩ ?_)))))))))))))))))))))))
 refine bd (aU (gx 57 1 15 9 (bI [1,2,3,4,11] [1,2] [10] (co 2 (nu 14 [.ref 10,iI 3,.adr v2 14,.adr v2 20,iI 3,.adr v2 22,.adr v2 28,.sl (lm aM [(v2,20),(v2,28)])]) [] [] [fZ 22 10 ⟨103,1,lm aM [(v2,6),(v2,10),(v2,12),(v2,14),(v2,22),(v2,16),(v2,24),(v2,18),(v2,26),(v2,20),(v2,28)]⟩,cw Tryz.prog 40 Tryz.f17 (pn 3737) 9] (aF [.v 0 1,.v 0 2,.v 0 2,.v 0 2,.v 0 2,.v 0 2,.v 0 2,.v 0 1] (aC (c7 (m:=0) (c6 22 10 103 1 aM (L:=([(v2,6),(v2,10),(v2,12),(v2,14),(v2,22),(v2,16),(v2,24),(v2,18),(v2,26)]:List (Nat×Nat))) (M:=([(v2,20),(v2,28)]:(List (Nat×Nat)))) (bytes:=8) (rfl) (fun _=>rfl) (by kernel_rfl))) (aC (cG 1) cp))) (bq (ks':=un M w0 r 36) 2 ⟨[(1,.pp 1 v2 0),(2,.ptr 2 0),(3,.ref 10),(11,iI 4)],[(1,aD v1),(2,aD cn)],[(10,⟨103,1,lm aM [(v2,6),(v2,10),(v2,12),(v2,14),(v2,22),(v2,16),(v2,24),(v2,18),(v2,26),(v2,20),(v2,28)]⟩)],[1,2,10]⟩ (bd (aU (Js 4 5 3 10 (ai 1 (ap (bK aM ([(v2,6),(v2,10),(v2,12),(v2,14),(v2,22),(v2,16),(v2,24),(v2,18),(v2,26),(v2,20),(v2,28)]:List (Nat×Nat))) (ae (bq (ks':=[eS 122,.b 2,eS 31]) 1 ⟨[(1,.pp 1 v2 0),(2,.ptr 2 0),(24,.ref 10),(25,iI 11),(26,iI 0)],[(1,aD v1),(2,aD cn)],[(10,⟨103,1,lm aM [(v2,6),(v2,10),(v2,12),(v2,14),(v2,22),(v2,16),(v2,24),(v2,18),(v2,26),(v2,20),(v2,28)]⟩)],[1,2,10]⟩ (kz 40 (c:=cat Tryz.f17 [1,1,1,0,1,0,0]) (by kernel_rfl) (aU (df (ks':=eS 7832::eS 7833 :: .b 3::eS 1959::eY M w0 r 39) 8 (ai 0 (ap (bZ 10 1 aM (L:=([(v2,6),(v2,10),(v2,12),(v2,14),(v2,22),(v2,16),(v2,24),(v2,18),(v2,26),(v2,20),(v2,28)]:List (Nat×Nat))) (i:=(0:Int)) (by kernel_rfl)) (ap (bE 103 0 aM aM (L:=([(v2,6),(v2,10),(v2,12),(v2,14),(v2,22),(v2,16),(v2,24),(v2,18),(v2,26),(v2,20),(v2,28)]:List (Nat×Nat))) (j:=(0:Int).toNat) (of_decide_eq_true (by kernel_rfl)) (fun _=>rfl)) (ae (ax 2 3 1 (ai 3 (cZ 32 1 1 v2 6 0 (ae ?_)))))))))))))))))))))))
 obtain⟨h1,h⟩|⟨h1,h⟩:=av h
 ·exact ak 34 h1 (ce 2 1 (ai 3 (cZ 37 1 1 v2 6 0 (ae (aj 0 (Mh hK (v2:=v2) h))))))
 ·exact ak 34 h1 (aj 2 (Mh hK (v2:=v2) h))
end
noncomputable section
variable(M:Nat→Prop)(w0:aJ)(r:Int×Bool)(v1:ch)  
variable{M w0 r v1}{K:Kn}{n:Nat}
theorem yF(hK:am K)(h:kH K n v1=some r):aQ Tryz.prog 18 [.agg (gJ v1)] (fun v _=>v=.tup [iI r.1,.bool r.2]):=by
 refine bF (cat Tryz.f18 (pn 1)) Tryz.func18 Tryz.ntmps18 fun M w0=>(bx ⟨[(0,.agg (gJ v1))],[],[],[]⟩ ?_);unfold kH at h;refine ax 13 7 5 ?_;obtain⟨h1,h⟩|⟨h1,h⟩:=av h
 ·refine ak 8 h1 (aW 5 ?_);cases h;exact eu
 ·refine ak 8 h1 (fu 2 3 3 (ai 1 ?_));obtain⟨v2,h2,h⟩:=bind_some h;refine aK (fS hK h2) (ae (aW 3 ?_));cases h;exact eu
end
noncomputable section
variable(M:Nat→Prop)(w0:aJ)(r v1:Int)(v2:aE)(v3:Int)  
variable{M w0 r v1 v2 v3}{K:Kn}{n:Nat}
theorem Lp(hK:am K)(h:qN K n v1 v2 v3=some r):aQ Tryz.prog 19 [iI v1,.cptr (aD v2),.cptr ([iI v3])] (fun v _=>v=iI r):=by
 refine bF (cat Tryz.f19 (pn 1)) Tryz.func19 Tryz.ntmps19 fun M w0=>(bx ⟨[(0,iI v1),(1,.cptr (aD v2)),(2,.cptr ([iI v3]))],[],[],[]⟩ ?_);unfold qN at h;refine ax 6 7 3 (bI [0,1,2] [] [] ?_);obtain⟨v4,h1,h⟩:=bind_some h;obtain⟨v5,h2,h⟩:=bind_some h;obtain⟨v6,h3,h⟩:=bind_some h;refine co 1 (nu 5 [.agg (aD v2),.agg (aD v2),iI v1,iI v4,iI v3,iI (max v4 v3),.agg (b9 v5),iI v6]) [] [] [cw Tryz.prog 13 Tryz.f19 (pn 6) 8] (aF (vz 3) (aC (cM 0 1 8 (tx hK h1)) (aF (vz 2) (aC (cM 0 1 11 (sL hK h2)) (aC (cM 0 1 12 (ns hK h3)) (aC (cG 0) cp)))))) (aW 1 ?_);cases h;exact bW
end
noncomputable section
variable(M:Nat→Prop)(w0:aJ)(r:Int×Int)(v1:ac)(v2:c8)(v4:Int×Int)(v5:aE)(v6:Int×Bool)(v7 v8:Int)  
abbrev We(n:Nat):ao:=.c (cat Tryz.f7 (pn n))
abbrev VB:Cx:=⟨Tryz.prog,42,M,w0⟩
abbrev q7:=bodyPost Tryz.prog Tryz.f7 (bX M w0 (fun v _=>v=.tup [iI r.1,iI r.2]))
abbrev S6(ks:List ao)(s:AS):=VE (VB M w0) (q7 M w0 r) ks .normal s
def Xs:AS:=⟨[(4,.ptr 4 0),(6,.ptr 6 0),(7,iI v7),(8,iI v8),(28,iI v6.1),(29,.bool v6.2)],[(4,[iI v4.1]),(6,aD v5)],[],[4,6]⟩
variable{M w0 r v1 v2 v4 v5 v6 v7 v8}{K:Kn}{n:Nat}
theorem IE(hK:am K)(h:vH K n v4 v5 v6 v7 v8=some r):S6 M w0 r [We 63] (Xs v4 v5 v6 v7 v8):=by
 unfold vH at h;refine ax 2 3 1 (ai 0 ?_);refine pg 6 28 (c0:=iI v6.1) (JV 6 (off:=0) (by kernel_rfl)) (fun x1=>?_);refine pg 4 29 (c0:=.bool v6.2) (JV 4 (off:=0) (by kernel_rfl)) (fun x2=>?_);refine YC 19 #[(.tmp 6),(.tmp 4)] [28,29] [x1,x2] ?_ (by kernel_rfl);refine ae (ax 2 3 1 (ai 2 ?_));obtain⟨v9,h6,h⟩:=bind_some h;refine H8 [(28,6),(29,4)] (xs:=[x1,x2]) (l:=[.cptr (aD v5),.cptr ([iI v4.1])]) (al:=[iI v7]) (Lp hK h6) ?_ (by kernel_rfl) (by kernel_rfl);refine br 5 2 ?_;obtain⟨v10,h7,h⟩:=bind_some h;refine H8 [(28,6),(29,4)] (xs:=[x1,x2]) (l:=[.cptr (aD v5),.cptr ([iI v4.1])]) (al:=[iI v8]) (Lp hK h7) ?_ (by kernel_rfl) (by kernel_rfl);refine ae (aW 1 ?_);cases h;exact eu
theorem abQ(hK:am K)(h:xw K n v1 v2=some r):aQ Tryz.prog 7 [.agg (aI v1),.agg (dC v2)] (fun v _=>v=.tup [iI r.1,iI r.2]):=by
 refine bF (cat Tryz.f7 (pn 1)) Tryz.func7 Tryz.ntmps7 fun M w0=>(bx ⟨[(0,.agg (aI v1)),(1,.agg (dC v2))],[],[],[]⟩ ?_);unfold xw at h;refine ax 6 7 3 (ai 2 ?_);obtain⟨v3,h1,h⟩:=bind_some h;refine d5 1015 (Nn hK h1) (jB (i:=0) (by kernel_rfl)) (eO 1015 ?_);obtain⟨v4,h2,h⟩:=bind_some h;refine aK (Lz hK h2) (ae (ax 2 3 1 (ai 2 ?_)));obtain⟨v5,h3,h⟩:=bind_some h;refine aK (abE hK h3) (ae (cm 12 13 7 4 (ai 2 ?_)));obtain⟨v6,h4,h⟩:=bind_some h;refine aK (yF hK h4) (ae (ce 3 2 ?_));obtain⟨h5,h⟩|⟨h5,h⟩:=av h
 ·exact ak 30 h5 (aj 4 (IE hK h))
 ·exact ak 30 h5 (aj 2 (IE hK h))
end
noncomputable section
variable(M:Nat→Prop)(w0:aJ)(r:c8)   
variable{M w0 r }{K:Kn}{n:Nat}
theorem Ad(hK:am K)(h:mJ K n=some r):aQ Tryz.prog 8 [] (fun v _=>v=.agg (dC r)):=by
 refine bF (cat Tryz.f8 (pn 1)) Tryz.func8 Tryz.ntmps8 fun M w0=>(bx ⟨[],[],[],[]⟩ ?_);unfold mJ at h;refine aW 5 ?_;cases h;exact bW
end
noncomputable section
variable(M:Nat→Prop)(w0:aJ)(r:Bool)(v1:ah)(v2 v3:Int)(v4:Bool)  
abbrev aaO(n:Nat):ao:=.c (cat Tryz.f59 (pn n))
abbrev Ru:Cx:=⟨Tryz.prog,35,M,w0⟩
abbrev q59:=bodyPost Tryz.prog Tryz.f59 (bX M w0 (fun v _=>v=.bool r))
abbrev Sx(ks:List ao)(s:AS):=VE (Ru M w0) (q59 M w0 r) ks .normal s
def QJ:AS:=⟨[(6,.bool v4)],[],[],[]⟩
variable{M w0 r v1 v2 v3 v4}{K:Kn}{n:Nat}
theorem zb(hK:am K)(h:nP K n v4=some r):Sx M w0 r [aaO 7] (QJ v4):=by
 unfold nP at h;refine aW 1 ?_;cases h;exact bW
theorem ada(hK:am K)(h:xG K n v1 v2 v3=some r):aQ Tryz.prog 59 [.agg (aA v1),iI v2,iI v3] (fun v _=>v=.bool r):=by
 refine bF (cat Tryz.f59 (pn 1)) Tryz.func59 Tryz.ntmps59 fun M w0=>(bx ⟨[(0,.agg (aA v1)),(1,iI v2),(2,iI v3)],[],[],[]⟩ ?_);unfold xG at h;refine ax 6 7 3 (ai 5 ?_);obtain⟨h1,h⟩|⟨h1,h⟩:=av h
 ·refine aY 11 h1 (br 14 9 ?_);obtain⟨h2,h⟩|⟨h2,h⟩:=av h
  ·refine aY 20 h2 (br 20 6 ?_);obtain⟨h3,h⟩|⟨h3,h⟩:=av h
   ·exact aY 26 h3 (ae (aj 0 (zb hK h)))
   ·exact aY 26 h3 (ae (aj 0 (zb hK h)))
  ·exact aY 20 h2 (ae (aj 0 (zb hK h)))
 ·exact aY 11 h1 (ae (aj 0 (zb hK h)))
end
noncomputable section
variable(M:Nat→Prop)(w0:aJ)(r:(List (List ah))×Int)(v1:List (List (V2 Int)))(v97 v98:Int)(v99:List ah)(v100:List (List ah))(v143 v144 v145:Int)(v146:List ah)(v155:Int)(v156 v159:Bool)(v160:Int)(v162:Bool)(v163:Int)(m1 m2 m3 m4:Nat)(L1:Int→Int→(List ah)→(List (List ah))→Option ((List (List ah))×Int))(L2:Int→Int→Int→(List ah)→Option ((List (List ah))×Int))(L3:Int→Bool→Option ((List (List ah))×Int))(L4:Bool→Int→Option ((List (List ah))×Int))
abbrev ly:Cx:=⟨Tryz.prog,97,M,w0⟩
abbrev kV:=bodyPost Tryz.prog Tryz.f30 (bX M w0 (fun v s=>v=.tup [.ref 94,iI r.2]∧look 94 s.r=some ⟨44,1,lm (bu aA) r.1⟩))
abbrev rN(ks:List ao)(s:AS):=VE (ly M w0) (kV M w0 r) ks .normal s
abbrev fl(n:Nat):ao:=.c (cat Tryz.f30 (pn n))
abbrev D1:List ao:=[.b 0,fl 63]
abbrev Fu:List ao:=kl (ly M w0) (kV M w0 r) D1 (cat Tryz.f30 (pn 500)) m1::D1
abbrev DX:List ao:=.b 2::fl 32039 :: .b 1::fl 2003::Fu M w0 r m1
abbrev uf:List ao:=kl (ly M w0) (kV M w0 r) (DX M w0 r m1) (cat Tryz.f30 (pn 256308)) m2::(DX M w0 r m1)
abbrev CS:List ao:=.b 4::fl 8201875 :: .b 3::fl 1025235::uf M w0 r m1 m2
abbrev zW:List ao:=kl (ly M w0) (kV M w0 r) (CS M w0 r m1 m2) (cat Tryz.f30 (pn 32807496)) m3::(CS M w0 r m1 m2)
abbrev El:List ao:=.b 6::fl 524919947 :: .b 5::zW M w0 r m1 m2 m3
abbrev JA:List ao:=kl (ly M w0) (kV M w0 r) (El M w0 r m1 m2 m3) (cat Tryz.f30 (pn 4199359572)) m4::(El M w0 r m1 m2 m3)
def aa8:AS:=⟨[(0,.sl (lm (bu (bL (ab .i64))) v1)),(4,.ref 94),(5,.ref 90),(6,iI v143),(7,iI v98),(8,.ref 87),(9,iI v155),(10,iI v145),(11,.bool v162),(12,iI v160)],[],[(87,⟨67,4,lm aA v146⟩),(90,⟨67,4,lm aA v99⟩),(94,⟨44,1,lm (bu aA) v100⟩)],[87,90,94]⟩
def Qa:AS:=⟨[(0,.sl (lm (bu (bL (ab .i64))) v1)),(4,.ref 94),(5,.ref 90),(6,iI v143),(7,iI v98),(8,.ref 87),(9,iI v163),(10,iI v145),(11,.bool v159)],[],[(87,⟨67,4,lm aA v146⟩),(90,⟨67,4,lm aA v99⟩),(94,⟨44,1,lm (bu aA) v100⟩)],[87,90,94]⟩
def K4:AS:=⟨[(0,.sl (lm (bu (bL (ab .i64))) v1)),(4,.ref 94),(5,.ref 90),(6,iI v143),(7,iI v98),(8,.ref 87),(9,iI v155),(10,iI v145),(11,.bool v159),(12,iI v160)],[],[(87,⟨67,4,lm aA v146⟩),(90,⟨67,4,lm aA v99⟩),(94,⟨44,1,lm (bu aA) v100⟩)],[87,90,94]⟩
def P3:AS:=⟨[(0,.sl (lm (bu (bL (ab .i64))) v1)),(4,.ref 94),(5,.ref 90),(6,iI v143),(7,iI v98),(8,.ref 87),(9,iI v155),(10,iI v145),(11,.bool v156)],[],[(87,⟨67,4,lm aA v146⟩),(90,⟨67,4,lm aA v99⟩),(94,⟨44,1,lm (bu aA) v100⟩)],[87,90,94]⟩
def Kk:AS:=⟨[(0,.sl (lm (bu (bL (ab .i64))) v1)),(4,.ref 94),(5,.ref 90),(6,iI v143),(7,iI v98),(8,.ref 87),(9,iI v144),(10,iI v145)],[],[(87,⟨67,4,lm aA v146⟩),(90,⟨67,4,lm aA v99⟩),(94,⟨44,1,lm (bu aA) v100⟩)],[87,90,94]⟩
def HI:AS:=⟨[(0,.sl (lm (bu (bL (ab .i64))) v1)),(4,.ref 94),(5,.ref 90),(6,iI v97),(7,iI v98)],[],[(90,⟨67,4,lm aA v99⟩),(94,⟨44,1,lm (bu aA) v100⟩)],[90,94]⟩
abbrev ky:Prop:=∀{v97:Int} {v98:Int} {v99:(List ah)} {v100:(List (List ah))},L1 v97 v98 v99 v100=some r→LP (ly M w0) (kV M w0 r) D1 (cat Tryz.f30 (pn 500)) m1 (HI v1 v97 v98 v99 v100)
abbrev mI:Prop:=∀{v143:Int} {v144:Int} {v145:Int} {v146:(List ah)},L2 v143 v144 v145 v146=some r→LP (ly M w0) (kV M w0 r) (DX M w0 r m1) (cat Tryz.f30 (pn 256308)) m2 (Kk v1 v98 v99 v100 v143 v144 v145 v146)
abbrev qT:Prop:=∀{v155:Int} {v156:Bool},L3 v155 v156=some r→LP (ly M w0) (kV M w0 r) (CS M w0 r m1 m2) (cat Tryz.f30 (pn 32807496)) m3 (P3 v1 v98 v99 v100 v143 v145 v146 v155 v156)
abbrev Fb:Prop:=∀{v159:Bool} {v160:Int},L4 v159 v160=some r→LP (ly M w0) (kV M w0 r) (El M w0 r m1 m2 m3) (cat Tryz.f30 (pn 4199359572)) m4 (K4 v1 v98 v99 v100 v143 v145 v146 v155 v159 v160)
variable{M w0 r v1 v97 v98 v99 v100 v143 v144 v145 v146 v155 v156 v159 v160 v162 v163 m1 m2 m3 m4 L1 L2 L3 L4}{K:Kn}{n:Nat}
theorem G8(hK:am K)(hL1:ky M w0 r v1 m1 L1)(hL2:mI M w0 r v1 v98 v99 v100 m1 m2 L2)(hL3:qT M w0 r v1 v98 v99 v100 v143 v145 v146 m1 m2 m3 L3)(hL4:Fb M w0 r v1 v98 v99 v100 v143 v145 v146 v155 m1 m2 m3 m4 L4)(h:wT K n v1 v98 v99 v100 v143 v145 v146 v155 v160 L1 L2 L3 L4 v162=some r):rN M w0 r (.b 7::fl 16797438291::JA M w0 r m1 m2 m3 m4) (aa8 v1 v98 v99 v100 v143 v145 v146 v155 v160 v162):=by
 unfold wT at h;exact aj 2 (bd (hL4 h))
theorem Ko(hK:am K)(hL1:ky M w0 r v1 m1 L1)(hL2:mI M w0 r v1 v98 v99 v100 m1 m2 L2)(hL3:qT M w0 r v1 v98 v99 v100 v143 v145 v146 m1 m2 m3 L3)(h:we K n v1 v98 v99 v100 v143 v145 v146 v159 L1 L2 L3 v163=some r):rN M w0 r (.b 5::zW M w0 r m1 m2 m3) (Qa v1 v98 v99 v100 v143 v145 v146 v159 v163):=by
 unfold we at h;exact aj 1 (bd (hL3 h))
theorem WB(hK:am K)(hL1:ky M w0 r v1 m1 L1)(hL2:mI M w0 r v1 v98 v99 v100 m1 m2 L2)(hL3:qT M w0 r v1 v98 v99 v100 v143 v145 v146 m1 m2 m3 L3)(hL4:Fb M w0 r v1 v98 v99 v100 v143 v145 v146 v155 m1 m2 m3 m4 L4)(h:vN K n v1 v98 v99 v100 v143 v145 v146 v155 L1 L2 L3 L4 v159 v160=some r):rN M w0 r (fl 4199359572::JA M w0 r m1 m2 m3 m4) (K4 v1 v98 v99 v100 v143 v145 v146 v155 v159 v160):=by
 unfold vN at h;refine cm 4 5 3 2 (ai 2 (ap (bK aA v99) (ae ?_)));obtain⟨h225,h⟩|⟨h225,h⟩:=av h
 ·refine ak 34 h225 (cF 8 9 7 3 5 (ai 2 ?_));obtain⟨h226,h⟩:=aw h;refine ap (bZ 90 4 aA h226) (ap (bE 67 0 aA aA (aR h226).2 (fun _=>rfl)) (br 6 2 ?_));obtain⟨v161,h227,h⟩:=bind_some h;refine aK (ada hK h227) (ae ?_);obtain⟨h228,h⟩|⟨h228,h⟩:=av h
  ·exact ak 43 h228 (aj 2 (G8 hK hL1 hL2 hL3 hL4 h))
  ·exact ak 43 h228 (aj 2 (G8 hK hL1 hL2 hL3 hL4 h))
 ·refine ak 34 h225 (df (ks':=fl 1049839895 :: .b 5::zW M w0 r m1 m2 m3) 7 ?_);obtain⟨h229,h⟩|⟨h229,h⟩:=av h
  ·exact ak 45 h229 (aj 2 (Ko hK hL1 hL2 hL3 h))
  ·exact ak 45 h229 (aj 2 (Ko hK hL1 hL2 hL3 h))
theorem VQ(hK:am K)(hL1:ky M w0 r v1 m1 L1)(hL2:mI M w0 r v1 v98 v99 v100 m1 m2 L2)(hL3:qT M w0 r v1 v98 v99 v100 v143 v145 v146 m1 m2 m3 L3)(m:Nat):Fb M w0 r v1 v98 v99 v100 v143 v145 v146 v155 m1 m2 m3 m (sr K n v1 v98 v99 v100 v143 v145 v146 v155 L1 L2 L3 m):=by
 induction m with
 | zero=>intro v159 v160 h;cases h
 | succ m ih=>intro v159 v160 h;have h:vN K n v1 v98 v99 v100 v143 v145 v146 v155 L1 L2 L3 (sr K n v1 v98 v99 v100 v143 v145 v146 v155 L1 L2 L3 m) v159 v160=some r:=h;exact aU (WB hK hL1 hL2 hL3 ih h)
theorem adC(hK:am K)(hL1:ky M w0 r v1 m1 L1)(hL2:mI M w0 r v1 v98 v99 v100 m1 m2 L2)(hL3:qT M w0 r v1 v98 v99 v100 v143 v145 v146 m1 m2 m3 L3)(h:pI K n v1 v98 v99 v100 v143 v145 v146 L1 L2 L3 v155 v156=some r):rN M w0 r (fl 32807496::zW M w0 r m1 m2 m3) (P3 v1 v98 v99 v100 v143 v145 v146 v155 v156):=by
 unfold pI at h;refine ax 5 3 3 ?_;obtain⟨h220,h⟩|⟨h220,h⟩:=av h
 ·exact ak 30 h220 (aj 9 (bP (p:=pn 2099679786) n (VQ hK hL1 hL2 hL3 n h)))
 ·refine ak 30 h220 (eG 6 7 8 (ai 2 ?_));obtain⟨h230,h⟩:=aw h;refine ap (cc (bu (bL (ab .i64))) (bu (bL (ab .i64))) h230 (fun _=>rfl) (fun _=>rfl)) (br 5 2 ?_);obtain⟨h231,h⟩:=aw h;refine ap (cc (bL (ab .i64)) (bL (ab .i64)) (sz:=2) h231 (fun _=>rfl) (fun _=>rfl)) (br 10 4 (ap (bK (bu (bL (ab .i64))) v1) (ae ?_)));obtain⟨v164,h232,h⟩:=cf h;refine bq (ks':=fl 65615006::fl 65615007 :: .b 3::fl 1025235::uf M w0 r m1 m2) 1 ⟨[(0,.sl (lm (bu (bL (ab .i64))) v1)),(4,.ref 94),(5,.ref 90),(6,iI v143),(7,iI v98),(8,.ref 87),(9,iI v155),(10,iI v145),(13,.ptr 13 0)],[(13,aA (⟨v98,v155,v164,0⟩:ah))],[(87,⟨67,4,lm aA v146⟩),(90,⟨67,4,lm aA v99⟩),(94,⟨44,1,lm (bu aA) v100⟩)],[13,87,90,94]⟩ ?_ (by subst h232;kernel_rfl);refine ai 2 ?_;obtain⟨h233,h⟩:=aw h;refine ap (cc (bu (bL (ab .i64))) (bu (bL (ab .i64))) h233 (fun _=>rfl) (fun _=>rfl)) (br 5 2 ?_);obtain⟨h234,h⟩:=aw h;refine ap (cc (bL (ab .i64)) (bL (ab .i64)) (sz:=2) h234 (fun _=>rfl) (fun _=>rfl)) (ae ?_)
  obtain⟨v165,h235,h⟩:=cf h;obtain⟨v166,h236,h⟩:=cf h;obtain⟨v167,h237,h⟩:=cf h;refine bq (ks':=fl 262460031 :: .b 3::fl 1025235::uf M w0 r m1 m2) 4 ⟨[(0,.sl (lm (bu (bL (ab .i64))) v1)),(4,.ref 94),(5,.ref 90),(6,iI v165),(7,iI v98),(8,.ref 87),(9,iI v166),(10,iI v145),(13,.ptr 13 0)],[(13,aA (⟨v98,v155,v164,v167⟩:ah))],[(87,⟨67,4,lm aA v146⟩),(90,⟨67,4,lm aA v99⟩),(94,⟨44,1,lm (bu aA) v100⟩)],[13,87,90,94]⟩ ?_ (by subst h237;subst h236;subst h235;kernel_rfl);refine ai 3 ?_;obtain⟨h238,h⟩:=aw h;exact ap (c6 87 87 67 4 aA (rfl) (gO) h238) (ae (aj 2 (bd (hL2 h))))
theorem YZ(hK:am K)(hL1:ky M w0 r v1 m1 L1)(hL2:mI M w0 r v1 v98 v99 v100 m1 m2 L2)(m:Nat):qT M w0 r v1 v98 v99 v100 v143 v145 v146 m1 m2 m (jJ K n v1 v98 v99 v100 v143 v145 v146 L1 L2 m):=by
 induction m with
 | zero=>intro v155 v156 h;cases h
 | succ m ih=>intro v155 v156 h;have h:pI K n v1 v98 v99 v100 v143 v145 v146 L1 L2 (jJ K n v1 v98 v99 v100 v143 v145 v146 L1 L2 m) v155 v156=some r:=h;exact aU (adC hK hL1 hL2 ih h)
theorem Yl(hK:am K)(hL1:ky M w0 r v1 m1 L1)(hL2:mI M w0 r v1 v98 v99 v100 m1 m2 L2)(h:wC K n v1 v98 v99 v100 L1 L2 v143 v144 v145 v146=some r):rN M w0 r (fl 256308::uf M w0 r m1 m2) (Kk v1 v98 v99 v100 v143 v144 v145 v146):=by
 unfold wC at h;refine cm 4 5 3 2 (ai 3 ?_);obtain⟨h208,h⟩:=aw h;refine ap (cc (bu (bL (ab .i64))) (bu (bL (ab .i64))) h208 (fun _=>rfl) (fun _=>rfl)) (br 5 1 (ap (bK (bL (ab .i64)) (gD v1 v98)) (ae ?_)));obtain⟨v147,h209,h⟩:=cf h;refine bq (ks':=fl 1025233::fl 512617::uf M w0 r m1 m2) 0 ⟨[(0,.sl (lm (bu (bL (ab .i64))) v1)),(4,.ref 94),(5,.ref 90),(6,iI v143),(7,iI v98),(8,.ref 87),(9,iI v144),(10,iI v145),(26,.bool v147)],[],[(87,⟨67,4,lm aA v146⟩),(90,⟨67,4,lm aA v99⟩),(94,⟨44,1,lm (bu aA) v100⟩)],[87,90,94]⟩ ?_ (by subst h209;kernel_rfl);obtain⟨h210,h⟩|⟨h210,h⟩:=av h
 ·exact ak 26 h210 (aj 8 (bP (p:=pn 16403748) n (YZ hK hL1 hL2 n h)))
 ·refine ak 26 h210 (eG 2 3 6 (ai 2 (eO 87 ?_)));obtain⟨h239,h⟩:=aw h;refine ap (c6 90 90 67 4 aA (rfl) (gO) h239) (ae (ai 3 ?_));obtain⟨h240,h⟩:=aw h;exact ap (c6 94 94 44 1 (bu aA) (rfl) (fun _=>rfl) h240) (ae (aj 2 (bd (hL1 h))))
theorem Sl(hK:am K)(hL1:ky M w0 r v1 m1 L1)(m:Nat):mI M w0 r v1 v98 v99 v100 m1 m (n7 K n v1 v98 v99 v100 L1 m):=by
 induction m with
 | zero=>intro v143 v144 v145 v146 h;cases h
 | succ m ih=>intro v143 v144 v145 v146 h;have h:wC K n v1 v98 v99 v100 L1 (n7 K n v1 v98 v99 v100 L1 m) v143 v144 v145 v146=some r:=h;exact aU (Yl hK hL1 ih h)
theorem XJ(hK:am K)(hL1:ky M w0 r v1 m1 L1)(h:wU K n v1 L1 v97 v98 v99 v100=some r):rN M w0 r (fl 500::Fu M w0 r m1) (HI v1 v97 v98 v99 v100):=by
 unfold wU at h;refine cm 4 5 3 2 (ai 2 (ap (bK (bu (bL (ab .i64))) v1) (ae ?_)));obtain⟨h145,h⟩|⟨h145,h⟩:=av h
 ·exact ak 17 h145 (df (ks':=fl 128154 :: .b 2::fl 32039 :: .b 1::fl 2003::Fu M w0 r m1) 12 (bI [0,4,5,6,7,8,9,10] [] [90,94] (eJ 87 8 67 4 (aj 0 (bP (p:=pn 128154) n (Sl hK hL1 n h))))))
 ·refine ak 17 h145 (aW 8 ?_);cases h;exact gz
theorem aao(hK:am K)(m:Nat):ky M w0 r v1 m (nI K n v1 m):=by
 induction m with
 | zero=>intro v97 v98 v99 v100 h;cases h
 | succ m ih=>intro v97 v98 v99 v100 h;have h:wU K n v1 (nI K n v1 m) v97 v98 v99 v100=some r:=h;exact aU (XJ hK ih h)
theorem ab0(hK:am K)(h:sY K n v1=some r):aQ Tryz.prog 30 [.sl (lm (bu (bL (ab .i64))) v1)] (fun v s=>v=.tup [.ref 94,iI r.2]∧look 94 s.r=some ⟨44,1,lm (bu aA) r.1⟩):=by
 refine bF (cat Tryz.f30 (pn 1)) Tryz.func30 Tryz.ntmps30 fun M w0=>(bx ⟨[(0,.sl (lm (bu (bL (ab .i64))) v1))],[],[],[]⟩ ?_);unfold sY at h;exact gx 250 0 63 12 (bI [0,4,5,6,7] [] [] (eJ 94 4 44 1 (eJ 90 5 67 4 (aj 0 (bP (p:=pn 250) n (aao hK n h))))))
end
noncomputable section
variable(M:Nat→Prop)(w0:aJ)(r v1:ch)  
variable{M w0 r v1}{K:Kn}{n:Nat}
theorem jD(hK:am K)(h:gH K n v1=some r):aQ Tryz.prog 80 [.agg (gJ v1)] (fun v _=>v=.agg (gJ r)):=by
 refine bF (cat Tryz.f80 (pn 1)) Tryz.func80 Tryz.ntmps80 fun M w0=>(bx ⟨[(0,.agg (gJ v1))],[],[],[]⟩ ?_);unfold gH at h;refine ax 13 7 5 ?_;obtain⟨h1,h⟩|⟨h1,h⟩:=av h
 ·refine ak 5 h1 (aW 5 ?_);cases h;exact bW
 ·refine ak 5 h1 (aW 5 ?_);cases h;exact bW
end
noncomputable section
variable(M:Nat→Prop)(w0:aJ)(r v1:aE)  
abbrev oJ(n:Nat):ao:=.c (cat Tryz.f53 (pn n))
abbrev Zp:Cx:=⟨Tryz.prog,37,M,w0⟩
abbrev Vq:=bodyPost Tryz.prog Tryz.f53 (bX M w0 (fun v _=>v=.agg (aD r)))
abbrev wQ(m:Nat):List ao:=kl (Zp M w0) (Vq M w0 r) [.b 0,oJ 7] (cat Tryz.f53 (pn 52)) m::[.b 0,oJ 7]
variable{M w0 r v1}{K:Kn}{n:Nat}
theorem Hp(hK:am K)(h:tq K n v1=some r):aQ Tryz.prog 53 [.agg (aD v1)] (fun v _=>v=.agg (aD r)):=by
 refine bF (cat Tryz.f53 (pn 1)) Tryz.func53 Tryz.ntmps53 fun M w0=>(bx ⟨[(0,.agg (aD v1))],[],[],[]⟩ ?_);unfold tq at h;refine bq (ks':=[oJ 26,.b 0,oJ 7]) 6 ⟨[(1,.ptr 1 0),(2,.ptr 2 0),(3,iI 0)],[(1,aD v1),(2,aD cn)],[],[1,2]⟩ (kz 40 (c:=cat Tryz.f53 [1,0,1,0,0]) (by kernel_rfl) (aU (df (ks':=oJ 840::oJ 841 :: .b 1::oJ 211::wQ M w0 r 39) 8 (ai 5 ?_))));obtain⟨v2,h1,h⟩:=bind_some h;refine aK (jD hK h1) (ae (ai 5 ?_));obtain⟨v3,h2,h⟩:=bind_some h;refine aK (jD hK h2) (ae (bq (ks':=wQ M w0 r 39) 2 ⟨[(1,.ptr 1 0),(2,.ptr 2 0),(3,iI 1)],[(1,aD ({ v1 with Margin:=⟨v2,v1.Margin.a1,v1.Margin.a2,v1.Margin.a3⟩,Padding:=⟨v3,v1.Padding.a1,v1.Padding.a2,v1.Padding.a3⟩ }:aE)),(2,aD cn)],[],[1,2]⟩ (bd (aU (dK 24 25 1 7 8 (ai 5 ?_))))));obtain⟨v4,h3,h⟩:=bind_some h;refine aK (jD hK h3) (ae (ai 5 ?_));obtain⟨v5,h4,h⟩:=bind_some h;refine aK (jD hK h4) (ae (bq (ks':=wQ M w0 r 38) 2 ⟨[(1,.ptr 1 0),(2,.ptr 2 0),(3,iI 2)],[(1,aD ({ v1 with Margin:=⟨v2,v4,v1.Margin.a2,v1.Margin.a3⟩,Padding:=⟨v3,v5,v1.Padding.a2,v1.Padding.a3⟩ }:aE)),(2,aD cn)],[],[1,2]⟩ (bd (aU (dK 24 25 1 7 8 (ai 5 ?_))))))
 obtain⟨v6,h5,h⟩:=bind_some h;refine aK (jD hK h5) (ae (ai 5 ?_));obtain⟨v7,h6,h⟩:=bind_some h;refine aK (jD hK h6) (ae (bq (ks':=wQ M w0 r 37) 2 ⟨[(1,.ptr 1 0),(2,.ptr 2 0),(3,iI 3)],[(1,aD ({ v1 with Margin:=⟨v2,v4,v6,v1.Margin.a3⟩,Padding:=⟨v3,v5,v7,v1.Padding.a3⟩ }:aE)),(2,aD cn)],[],[1,2]⟩ (bd (aU (dK 24 25 1 7 8 (ai 5 ?_))))));obtain⟨v8,h7,h⟩:=bind_some h;refine aK (jD hK h7) (ae (ai 5 ?_));obtain⟨v9,h8,h⟩:=bind_some h;refine aK (jD hK h8) (ae (bq (ks':=wQ M w0 r 36) 2 ⟨[(1,.ptr 1 0),(2,.ptr 2 0),(3,iI 4)],[(1,aD ({ v1 with Margin:=⟨v2,v4,v6,v8⟩,Padding:=⟨v3,v5,v7,v9⟩ }:aE)),(2,aD cn)],[],[1,2]⟩ (bd (aU (YY 2 3 9 (ai 2 ?_))))));obtain⟨v10,h9,h⟩:=bind_some h;refine aK (jD hK h9) (ae (ax 2 3 1 (ai 2 ?_)));obtain⟨v11,h10,h⟩:=bind_some h;refine aK (jD hK h10) (ae (ax 2 3 1 (ai 2 ?_)));obtain⟨v12,h11,h⟩:=bind_some h;refine aK (jD hK h11) (ae (aW 3 ?_));cases h;exact bW
end
noncomputable section
variable(M:Nat→Prop)(w0:aJ)(r v1:Int)  
variable{M w0 r v1}{K:Kn}{n:Nat}
theorem jy(hK:am K)(h:gQ K n v1=some r):aQ Tryz.prog 54 [iI v1] (fun v _=>v=iI r):=by
 refine bF (cat Tryz.f54 (pn 1)) Tryz.func54 Tryz.ntmps54 fun M w0=>(bx ⟨[(0,iI v1)],[],[],[]⟩ ?_);unfold gQ at h;refine aW 5 ?_;cases h;exact bW
end
noncomputable section
variable(M:Nat→Prop)(w0:aJ)(r v1:Int)  
variable{M w0 r v1}{K:Kn}{n:Nat}
theorem C7(hK:am K)(h:my K n v1=some r):aQ Tryz.prog 81 [iI v1] (fun v _=>v=iI r):=by
 refine bF (cat Tryz.f81 (pn 1)) Tryz.func81 Tryz.ntmps81 fun M w0=>(bx ⟨[(0,iI v1)],[],[],[]⟩ ?_);unfold my at h;refine aW 5 ?_;cases h;exact bW
end
noncomputable section
variable(M:Nat→Prop)(w0:aJ)(r:Int×Bool)(v1:ch)  
variable{M w0 r v1}{K:Kn}{n:Nat}
theorem X9(hK:am K)(h:vL K n v1=some r):aQ Tryz.prog 55 [.agg (gJ v1)] (fun v _=>v=.tup [iI r.1,.bool r.2]):=by
 refine bF (cat Tryz.f55 (pn 1)) Tryz.func55 Tryz.ntmps55 fun M w0=>(bx ⟨[(0,.agg (gJ v1))],[],[],[]⟩ ?_);unfold vL at h;refine ax 13 7 5 ?_;obtain⟨h1,h⟩|⟨h1,h⟩:=av h
 ·refine ak 6 h1 (aW 5 ?_);cases h;exact eu
 ·refine ak 6 h1 (fu 2 3 3 (ai 2 ?_));obtain⟨v2,h2,h⟩:=bind_some h;refine aK (C7 hK h2) (ae (aW 1 ?_));cases h;exact eu
end
noncomputable section
variable(M:Nat→Prop)(w0:aJ)(r:Int)(v1:bO)  
variable{M w0 r v1}{K:Kn}{n:Nat}
theorem Lu(hK:am K)(h:xm K n v1=some r):aQ Tryz.prog 56 [.agg (b9 v1)] (fun v _=>v=iI r):=by
 refine bF (cat Tryz.f56 (pn 1)) Tryz.func56 Tryz.ntmps56 fun M w0=>(bx ⟨[(0,.agg (b9 v1))],[],[],[]⟩ ?_);unfold xm at h;refine aW 5 ?_;cases h;exact bW
end
noncomputable section
variable(M:Nat→Prop)(w0:aJ)(r:Int×Bool)(v1:ch)(v2:Int)  
variable{M w0 r v1 v2}{K:Kn}{n:Nat}
theorem kv(hK:am K)(h:ik K n v1 v2=some r):aQ Tryz.prog 82 [.agg (gJ v1),iI v2] (fun v _=>v=.tup [iI r.1,.bool r.2]):=by
 refine bF (cat Tryz.f82 (pn 1)) Tryz.func82 Tryz.ntmps82 fun M w0=>(bx ⟨[(0,.agg (gJ v1)),(1,iI v2)],[],[],[]⟩ ?_);unfold ik at h;refine gx 53 0 7 8 ?_;obtain⟨h1,h⟩|⟨h1,h⟩:=av h
 ·refine ak 8 h1 (ax 4 5 2 (ai 2 ?_));obtain⟨v3,h2,h⟩:=bind_some h;refine aK (C7 hK h2) (ae (aW 3 ?_));cases h;exact eu
 ·refine ak 8 h1 (ce 7 3 ?_);obtain⟨h3,h⟩|⟨h3,h⟩:=av h
  ·refine ak 13 h3 (ax 4 5 2 (bI [1,2] [2] [] ?_));obtain⟨v4,h4,h⟩:=bind_some h;obtain⟨v5,h5,h⟩:=bind_some h;refine co 2 (nu 15 [iI v2,iI v4,.ptr 2 1,iI v1.Value,iI (max v1.Value (-1000000)),iI (min (max v1.Value (-1000000)) 1000000),iI (aa (v4*(min (max v1.Value (-1000000)) 1000000))),iI (aa (Int.tdiv (aa (v4*(min (max v1.Value (-1000000)) 1000000))) 10000)),iI v5]) [] [] [cw Tryz.prog 24 Tryz.f82 (pn 860) 9,cw Tryz.prog 24 Tryz.f82 (pn 860) 10] (aF [.v 0 1] (aC (cM 0 1 16 (jy hK h4)) (aF (vz 6) (aC (cM 0 1 23 (C7 hK h5)) (aC (cG 0) (aC (cG 1) cp)))))) (aW 3 ?_);cases h;exact eu
  ·refine ak 13 h3 (aW 6 ?_);cases h;exact eu
end
noncomputable section
variable(M:Nat→Prop)(w0:aJ)(r:bO)(v1:aE)(v2 v3:Int)  
abbrev o4(n:Nat):ao:=.c (cat Tryz.f57 (pn n))
abbrev Sn:Cx:=⟨Tryz.prog,55,M,w0⟩
abbrev VW:=bodyPost Tryz.prog Tryz.f57 (bX M w0 (fun v _=>v=.agg (b9 r)))
abbrev uF(m:Nat):List ao:=kl (Sn M w0) (VW M w0 r) [.b 0,o4 15] (cat Tryz.f57 (pn 116)) m::[.b 0,o4 15]
variable{M w0 r v1 v2 v3}{K:Kn}{n:Nat}
theorem Mr(hK:am K)(h:sC K n v1 v2 v3=some r):aQ Tryz.prog 57 [.agg (aD v1),iI v2,iI v3] (fun v _=>v=.agg (b9 r)):=by
 refine bF (cat Tryz.f57 (pn 1)) Tryz.func57 Tryz.ntmps57 fun M w0=>(bx ⟨[(0,.agg (aD v1)),(1,iI v2),(2,iI v3)],[],[],[]⟩ ?_);unfold sC at h;refine bq (ks':=[o4 58,.b 0,o4 15]) 8 ⟨[(1,iI v2),(3,.ptr 3 0),(6,.ptr 6 0),(7,.ptr 7 0),(8,iI 0)],[(3,aD v1),(6,b9 gv),(7,b9 ({ gv with Content:=v3 }:bO))],[],[3,6,7]⟩ (kz 40 (c:=cat Tryz.f57 [1,1,0,1,0,0]) (by kernel_rfl) (aU (df (ks':=o4 1864::o4 1865 :: .b 1::o4 467::uF M w0 r 39) 8 (ai 5 ?_))));obtain⟨v4,h1,h⟩:=bind_some h;refine aK (kv hK h1) (ae (ax 2 3 1 (ai 5 ?_)));obtain⟨v5,h2,h⟩:=bind_some h;refine aK (kv hK h2) (ae (ce 7 4 (ai 5 ?_)));obtain⟨v6,h3,h⟩:=bind_some h;refine aK (jy hK h3) (ae (bq (ks':=uF M w0 r 39) 2 ⟨[(1,iI v2),(3,.ptr 3 0),(6,.ptr 6 0),(7,.ptr 7 0),(8,iI 1)],[(3,aD v1),(6,b9 gv),(7,b9 (⟨⟨v4.1,0,0,0⟩,⟨v6,0,0,0⟩,⟨(max v5.1 0),0,0,0⟩,v3⟩:bO))],[],[3,6,7]⟩ (bd (aU (dK 24 25 1 7 8 (ai 5 ?_))))));obtain⟨v7,h4,h⟩:=bind_some h
 refine aK (kv hK h4) (ae (ax 2 3 1 (ai 5 ?_)));obtain⟨v8,h5,h⟩:=bind_some h;refine aK (kv hK h5) (ae (ce 7 4 (ai 5 ?_)));obtain⟨v9,h6,h⟩:=bind_some h;refine aK (jy hK h6) (ae (bq (ks':=uF M w0 r 38) 2 ⟨[(1,iI v2),(3,.ptr 3 0),(6,.ptr 6 0),(7,.ptr 7 0),(8,iI 2)],[(3,aD v1),(6,b9 gv),(7,b9 (⟨⟨v4.1,v7.1,0,0⟩,⟨v6,v9,0,0⟩,⟨(max v5.1 0),(max v8.1 0),0,0⟩,v3⟩:bO))],[],[3,6,7]⟩ (bd (aU (dK 24 25 1 7 8 (ai 5 ?_))))));obtain⟨v10,h7,h⟩:=bind_some h;refine aK (kv hK h7) (ae (ax 2 3 1 (ai 5 ?_)));obtain⟨v11,h8,h⟩:=bind_some h;refine aK (kv hK h8) (ae (ce 7 4 (ai 5 ?_)));obtain⟨v12,h9,h⟩:=bind_some h;refine aK (jy hK h9) (ae (bq (ks':=uF M w0 r 37) 2 ⟨[(1,iI v2),(3,.ptr 3 0),(6,.ptr 6 0),(7,.ptr 7 0),(8,iI 3)],[(3,aD v1),(6,b9 gv),(7,b9 (⟨⟨v4.1,v7.1,v10.1,0⟩,⟨v6,v9,v12,0⟩,⟨(max v5.1 0),(max v8.1 0),(max v11.1 0),0⟩,v3⟩:bO))],[],[3,6,7]⟩ (bd (aU (dK 24 25 1 7 8 (ai 5 ?_))))));obtain⟨v13,h10,h⟩:=bind_some h
 refine aK (kv hK h10) (ae (ax 2 3 1 (ai 5 ?_)));obtain⟨v14,h11,h⟩:=bind_some h;refine aK (kv hK h11) (ae (ce 7 4 (ai 5 ?_)));obtain⟨v15,h12,h⟩:=bind_some h;refine aK (jy hK h12) (ae (bq (ks':=uF M w0 r 36) 2 ⟨[(1,iI v2),(3,.ptr 3 0),(6,.ptr 6 0),(7,.ptr 7 0),(8,iI 4)],[(3,aD v1),(6,b9 gv),(7,b9 (⟨⟨v4.1,v7.1,v10.1,v13.1⟩,⟨v6,v9,v12,v15⟩,⟨(max v5.1 0),(max v8.1 0),(max v11.1 0),(max v14.1 0)⟩,v3⟩:bO))],[],[3,6,7]⟩ (bd (aU (aW 11 ?_)))));cases h;exact bW
end
noncomputable section
variable(M:Nat→Prop)(w0:aJ)(r:Int)(v1:aE)(v2 v3 v5 v7:Int)  
abbrev PW(n:Nat):ao:=.c (cat Tryz.f58 (pn n))
abbrev RI:Cx:=⟨Tryz.prog,37,M,w0⟩
abbrev q58:=bodyPost Tryz.prog Tryz.f58 (bX M w0 (fun v _=>v=iI r))
abbrev Jh(ks:List ao)(s:AS):=VE (RI M w0) (q58 M w0 r) ks .normal s
def ZC:AS:=⟨[(7,iI v7)],[],[],[]⟩
def YD:AS:=⟨[(1,iI v2),(3,.ptr 3 0),(7,iI v5)],[(3,aD v1)],[],[3]⟩
variable{M w0 r v1 v2 v3 v5 v7}{K:Kn}{n:Nat}
theorem Pd(hK:am K)(h:wz K n v7=some r):Jh M w0 r [PW 127] (ZC v7):=by
 unfold wz at h;refine aW 3 ?_;cases h;exact bW
theorem Is(hK:am K)(h:xL K n v1 v2 v5=some r):Jh M w0 r [PW 31] (YD v1 v2 v5):=by
 unfold xL at h;refine ax 2 3 1 (ai 3 ?_);obtain⟨v6,h3,h⟩:=bind_some h;refine aK (kv hK h3) (ae (ax 5 3 3 ?_));obtain⟨h4,h⟩|⟨h4,h⟩:=av h
 ·exact ak 32 h4 (aj 2 (Pd hK h))
 ·exact ak 32 h4 (aj 2 (Pd hK h))
theorem Kf(hK:am K)(h:pK K n v1 v2 v3=some r):aQ Tryz.prog 58 [.agg (aD v1),iI v2,iI v3] (fun v _=>v=iI r):=by
 refine bF (cat Tryz.f58 (pn 1)) Tryz.func58 Tryz.ntmps58 fun M w0=>(bx ⟨[(0,.agg (aD v1)),(1,iI v2),(2,iI v3)],[],[],[]⟩ ?_);unfold pK at h;refine ax 14 15 5 (ai 3 ?_);obtain⟨v4,h1,h⟩:=bind_some h;refine aK (kv hK h1) (ae (ax 5 3 3 ?_));obtain⟨h2,h⟩|⟨h2,h⟩:=av h
 ·exact ak 20 h2 (aj 2 (Is hK h))
 ·exact ak 20 h2 (aj 2 (Is hK h))
end
noncomputable section
variable(M:Nat→Prop)(w0:aJ)(r:Int×Int)(v1:aE)(v2 v3:Int)(v4:aE)(v8 v9:Int)  
abbrev ZE(n:Nat):ao:=.c (cat Tryz.f28 (pn n))
abbrev aag:Cx:=⟨Tryz.prog,39,M,w0⟩
abbrev XF:=bodyPost Tryz.prog Tryz.f28 (bX M w0 (fun v _=>v=.tup [iI r.1,iI r.2]))
abbrev Rc(ks:List ao)(s:AS):=VE (aag M w0) (XF M w0 r) ks .normal s
def Yk:AS:=⟨[(1,iI v8),(2,iI v9),(3,.ptr 3 0)],[(3,aD v4)],[],[3]⟩
variable{M w0 r v1 v2 v3 v4 v8 v9}{K:Kn}{n:Nat}
theorem IQ(hK:am K)(h:rt K n v4 v8 v9=some r):Rc M w0 r [ZE 127] (Yk v4 v8 v9):=by
 unfold rt at h;refine ax 2 3 1 (ai 1 ?_);obtain⟨v10,h6,h⟩:=bind_some h;refine aK (Mr hK h6) ?_;obtain⟨v11,h7,h⟩:=bind_some h;refine aK (Lu hK h7) (ae (ax 2 3 1 (bI [1,2,3,10] [3] [] ?_)));obtain⟨v12,h8,h⟩:=bind_some h;obtain⟨v13,h9,h⟩:=bind_some h;refine co 2 (nu 29 [.agg (aD v4),iI v8,iI v12,iI v11,iI (aa (v12+v11)),.agg (aD v4),iI v9,iI v13,iI v11,iI (aa (v13+v11))]) [] [] [cw Tryz.prog 39 Tryz.f28 (pn 510) 10,cw Tryz.prog 39 Tryz.f28 (pn 510) 11] (aF (vz 2) (aC (cM 0 1 31 (Kf hK h8)) (aF [.v 0 1,.v 0 1,.v 0 2,.v 0 2] (aC (cM 0 1 36 (Kf hK h9)) (aF [.v 0 2,.v 0 2] (aC (cG 0) (aC (cG 1) cp))))))) (aW 1 ?_);cases h;exact eu
theorem KS(hK:am K)(h:sN K n v1 v2 v3=some r):aQ Tryz.prog 28 [.agg (aD v1),iI v2,iI v3] (fun v _=>v=.tup [iI r.1,iI r.2]):=by
 refine bF (cat Tryz.f28 (pn 1)) Tryz.func28 Tryz.ntmps28 fun M w0=>(bx ⟨[(0,.agg (aD v1)),(1,iI v2),(2,iI v3)],[],[],[]⟩ ?_);unfold sN at h;refine ax 6 7 3 (ai 1 ?_);obtain⟨v4,h1,h⟩:=bind_some h;refine aK (Hp hK h1) (ae (ax 2 3 1 (ai 1 ?_)));obtain⟨v5,h2,h⟩:=bind_some h;refine aK (jy hK h2) (ae (ax 2 3 1 (ai 1 ?_)));obtain⟨v6,h3,h⟩:=bind_some h;refine aK (jy hK h3) (ae (ax 2 3 1 (ai 2 ?_)));obtain⟨v7,h4,h⟩:=bind_some h;refine aK (X9 hK h4) (ae (ax 5 3 3 ?_));obtain⟨h5,h⟩|⟨h5,h⟩:=av h
 ·exact ak 23 h5 (aj 4 (IQ hK h))
 ·exact ak 23 h5 (aj 2 (IQ hK h))
end
noncomputable section
variable(M:Nat→Prop)(w0:aJ)(r:Int×Int)(v1:List ac)(v2:aE)(v3 v4 v5:Int)(m1:Nat)(L1:Int→Int→Int→Option (Int×Int))
abbrev DZ:Cx:=⟨Tryz.prog,31,M,w0⟩
abbrev BT:=bodyPost Tryz.prog Tryz.f26 (bX M w0 (fun v _=>v=.tup [iI r.1,iI r.2]))
abbrev UI(ks:List ao)(s:AS):=VE (DZ M w0) (BT M w0 r) ks .normal s
abbrev O4(n:Nat):ao:=.c (cat Tryz.f26 (pn n))
abbrev Fs:List ao:=[.b 0,O4 31]
abbrev ZS:List ao:=kl (DZ M w0) (BT M w0 r) Fs (cat Tryz.f26 (pn 244)) m1::Fs
def Km:AS:=⟨[(0,.sl (lm az v1)),(6,iI v3),(7,iI v4),(8,iI v5)],[],[],[]⟩
abbrev Ir:Prop:=∀{v3:Int} {v4:Int} {v5:Int},L1 v3 v4 v5=some r→LP (DZ M w0) (BT M w0 r) Fs (cat Tryz.f26 (pn 244)) m1 (Km v1 v3 v4 v5)
variable{M w0 r v1 v2 v3 v4 v5 m1 L1}{K:Kn}{n:Nat}
theorem ac6(hK:am K)(hL1:Ir M w0 r v1 m1 L1)(h:tX K n v1 L1 v3 v4 v5=some r):UI M w0 r (O4 244::ZS M w0 r m1) (Km v1 v3 v4 v5):=by
 unfold tX at h;refine cm 4 5 3 2 (ai 2 (ap (bK az v1) (ae ?_)));obtain⟨h3,h⟩|⟨h3,h⟩:=av h
 ·refine ak 13 h3 (cF 8 9 1 3 5 (ai 2 ?_));obtain⟨h4,h⟩:=aw h;exact ap (cc az aI h4 (dw) (cS)) (ae (aj 5 (bd (hL1 h))))
 ·refine ak 13 h3 (aW 8 ?_);cases h;exact eu
theorem XG(hK:am K)(m:Nat):Ir M w0 r v1 m (sH K n v1 m):=by
 induction m with
 | zero=>intro v3 v4 v5 h;cases h
 | succ m ih=>intro v3 v4 v5 h;have h:tX K n v1 (sH K n v1 m) v3 v4 v5=some r:=h;exact aU (ac6 hK ih h)
theorem K5(hK:am K)(h:uN K n v1 v2=some r):aQ Tryz.prog 26 [.sl (lm az v1),.agg (aD v2)] (fun v _=>v=.tup [iI r.1,iI r.2]):=by
 refine bF (cat Tryz.f26 (pn 1)) Tryz.func26 Tryz.ntmps26 fun M w0=>(bx ⟨[(0,.sl (lm az v1)),(1,.agg (aD v2))],[],[],[]⟩ ?_);unfold uN at h;exact aj 10 (bP (p:=pn 122) n (XG hK n h))
end
noncomputable section
variable(M:Nat→Prop)(w0:aJ)(r:Bool)(v1:ac)(v2:Bool)  
abbrev ZR(n:Nat):ao:=.c (cat Tryz.f99 (pn n))
abbrev XI:Cx:=⟨Tryz.prog,12,M,w0⟩
abbrev S7:=bodyPost Tryz.prog Tryz.f99 (bX M w0 (fun v _=>v=.bool r))
abbrev Se(ks:List ao)(s:AS):=VE (XI M w0) (S7 M w0 r) ks .normal s
def Sz:AS:=⟨[(2,.bool v2)],[],[],[]⟩
variable{M w0 r v1 v2}{K:Kn}{n:Nat}
theorem KT(hK:am K)(h:yp K n v2=some r):Se M w0 r [ZR 7] (Sz v2):=by
 unfold yp at h;refine aW 1 ?_;cases h;exact bW
theorem ZK(hK:am K)(h:tu K n v1=some r):aQ Tryz.prog 99 [.agg (aI v1)] (fun v _=>v=.bool r):=by
 refine bF (cat Tryz.f99 (pn 1)) Tryz.func99 Tryz.ntmps99 fun M w0=>(bx ⟨[(0,.agg (aI v1))],[],[],[]⟩ ?_);unfold tu at h;refine ax 6 7 3 (ai 4 ?_);obtain⟨h1,h⟩|⟨h1,h⟩:=av h
 ·exact aY 6 h1 (ae (aj 0 (KT hK h)))
 ·exact aY 6 h1 (ae (aj 0 (KT hK h)))
end
noncomputable section
variable(M:Nat→Prop)(w0:aJ)(r:List ac)(v1:ac)(v8:Int)(v9 v11:(List ac))(m1:Nat)(L1:Int→(List ac)→Option (List ac))
abbrev Dk:Cx:=⟨Tryz.prog,27,M,w0⟩
abbrev GW:=bodyPost Tryz.prog Tryz.f83 (bX M w0 (fun v s=>v=.ref 25∧look 25 s.r=some ⟨33,59,lm az r⟩))
abbrev KG(ks:List ao)(s:AS):=VE (Dk M w0) (GW M w0 r) ks .normal s
abbrev G0(n:Nat):ao:=.c (cat Tryz.f83 (pn n))
abbrev Cn:List ao:=[.b 0,G0 15]
abbrev Np:List ao:=kl (Dk M w0) (GW M w0 r) Cn (cat Tryz.f83 (pn 116)) m1::Cn
def Z2:AS:=⟨[(1,.ptr 1 0),(3,.ref 25),(4,iI v8)],[(1,aI v1)],[(25,⟨33,59,lm az v11⟩)],[1,25]⟩
def Mi:AS:=⟨[(1,.ptr 1 0),(3,.ref 25),(4,iI v8)],[(1,aI v1)],[(25,⟨33,59,lm az v9⟩)],[1,25]⟩
abbrev Gu:Prop:=∀{v8:Int} {v9:(List ac)},L1 v8 v9=some r→LP (Dk M w0) (GW M w0 r) Cn (cat Tryz.f83 (pn 116)) m1 (Mi v1 v8 v9)
variable{M w0 r v1 v8 v9 v11 m1 L1}{K:Kn}{n:Nat}
theorem IC(hK:am K)(hL1:Gu M w0 r v1 m1 L1)(h:xh K n v1 v8 L1 v11=some r):KG M w0 r (.b 1::G0 467::Np M w0 r m1) (Z2 v1 v8 v11):=by
 unfold xh at h;exact aj 2 (bd (hL1 h))
theorem Y5(hK:am K)(hL1:Gu M w0 r v1 m1 L1)(h:vr K n v1 L1 v8 v9=some r):KG M w0 r (G0 116::Np M w0 r m1) (Mi v1 v8 v9):=by
 unfold vr at h;refine cm 4 5 3 2 (ai 3 (ap (bK az v1.Kids) (ae ?_)));obtain⟨h15,h⟩|⟨h15,h⟩:=av h
 ·refine ak 9 h15 (cF 8 9 1 3 5 (ai 3 ?_));obtain⟨h16,h⟩:=aw h;refine ap (cc az aI h16 (dw) (cS)) (br 5 1 ?_);obtain⟨v10,h17,h⟩:=bind_some h;refine aK (ZK hK h17) (ae ?_);obtain⟨h18,h⟩|⟨h18,h⟩:=av h
  ·refine ak 17 h18 (ce 2 1 (ai 4 ?_));obtain⟨h19,h⟩:=aw h;refine ap (cc az aI h19 (dw) (cS)) (br 6 1 (ap (gV az ([(gD v1.Kids v8)]:List ac) (new:=[aI (gD v1.Kids v8)]) (by simp only[List.map_cons,List.map_nil,cS])) ?_));obtain⟨h20,h⟩:=aw h;exact ap (c6 25 25 33 59 az (rfl) (dw) h20) (ae (aj 0 (IC hK hL1 h)))
  ·exact ak 17 h18 (aj 2 (IC hK hL1 h))
 ·refine ak 9 h15 (aW 8 ?_);cases h;exact d9
theorem SE(hK:am K)(m:Nat):Gu M w0 r v1 m (rT K n v1 m):=by
 induction m with
 | zero=>intro v8 v9 h;cases h
 | succ m ih=>intro v8 v9 h;have h:vr K n v1 (rT K n v1 m) v8 v9=some r:=h;exact aU (Y5 hK ih h)
theorem J3(hK:am K)(h:xg K n v1=some r):aQ Tryz.prog 83 [.agg (aI v1)] (fun v s=>v=.ref 25∧look 25 s.r=some ⟨33,59,lm az r⟩):=by
 refine bF (cat Tryz.f83 (pn 1)) Tryz.func83 Tryz.ntmps83 fun M w0=>(bx ⟨[(0,.agg (aI v1))],[],[],[]⟩ ?_);unfold xg at h;exact gx 58 0 15 8 (bI [1,3,4] [1] [] (eJ 25 3 33 59 (aj 0 (bP (p:=pn 58) n (SE hK n h)))))
end
noncomputable section
variable(M:Nat→Prop)(w0:aJ)(r:Bool)(v1:ac)(v2:List ac)(v4:Int)(m1:Nat)(L1:Int→Option Bool)
abbrev Ct:Cx:=⟨Tryz.prog,19,M,w0⟩
abbrev Eg:=bodyPost Tryz.prog Tryz.f84 (bX M w0 (fun v _=>v=.bool r))
abbrev Uh(ks:List ao)(s:AS):=VE (Ct M w0) (Eg M w0 r) ks .normal s
abbrev AW(n:Nat):ao:=.c (cat Tryz.f84 (pn n))
abbrev CB:List ao:=[.b 0,AW 15]
abbrev JI:List ao:=kl (Ct M w0) (Eg M w0 r) CB (cat Tryz.f84 (pn 116)) m1::CB
def Pm:AS:=⟨[(3,.ref 1006),(4,iI v4)],[],[(1006,⟨33,59,lm az v2⟩)],[1006]⟩
abbrev M7:Prop:=∀{v4:Int},L1 v4=some r→LP (Ct M w0) (Eg M w0 r) CB (cat Tryz.f84 (pn 116)) m1 (Pm v2 v4)
variable{M w0 r v1 v2 v4 m1 L1}{K:Kn}{n:Nat}
theorem W0(hK:am K)(hL1:M7 M w0 r v2 m1 L1)(h:wd K n v2 L1 v4=some r):Uh M w0 r (AW 116::JI M w0 r m1) (Pm v2 v4):=by
 unfold wd at h;refine cm 4 5 3 2 (ai 2 (ap (bK az v2) (ae ?_)));obtain⟨h6,h⟩|⟨h6,h⟩:=av h
 ·refine ak 10 h6 (cF 8 9 1 3 5 (ai 2 ?_));obtain⟨h7,h⟩:=aw h;refine ap (bZ 1006 59 az h7) (br 4 1 (ap (bE 3 0 az aI (aR h7).2 (cS)) (ae ?_)));obtain⟨v5,h8,h⟩:=cf h;refine bq (ks':=AW 1865 :: .b 1::AW 467::JI M w0 r m1) 0 ⟨[(3,.ref 1006),(4,iI v4),(18,.bool v5)],[],[(1006,⟨33,59,lm az v2⟩)],[1006]⟩ ?_ (by subst h8;kernel_rfl);obtain⟨h9,h⟩|⟨h9,h⟩:=av h
  ·refine ak 18 h9 (aW 9 ?_);cases h;exact bW
  ·exact ak 18 h9 (aj 4 (bd (hL1 h)))
 ·refine ak 10 h6 (aW 8 ?_);cases h;exact bW
theorem acu(hK:am K)(m:Nat):M7 M w0 r v2 m (qI K n v2 m):=by
 induction m with
 | zero=>intro v4 h;cases h
 | succ m ih=>intro v4 h;have h:wd K n v2 (qI K n v2 m) v4=some r:=h;exact aU (W0 hK ih h)
theorem aac(hK:am K)(h:tB K n v1=some r):aQ Tryz.prog 84 [.agg (aI v1)] (fun v _=>v=.bool r):=by
 refine bF (cat Tryz.f84 (pn 1)) Tryz.func84 Tryz.ntmps84 fun M w0=>(bx ⟨[(0,.agg (aI v1))],[],[],[]⟩ ?_);unfold tB at h;refine ax 6 7 3 (ai 1 ?_);obtain⟨v2,h1,h⟩:=bind_some h;exact d5 1006 (J3 hK h1) (fQ 25) (ae (aj 4 (bP (p:=pn 58) n (acu hK n h))))
end
noncomputable section
variable(M:Nat→Prop)(w0:aJ)(r:Int×Int)(v1:ac)(v2:List ac)(v8 v9 v10:Int)(m1:Nat)(L1:Int→Int→Int→Option (Int×Int))
abbrev DK:Cx:=⟨Tryz.prog,52,M,w0⟩
abbrev FM:=bodyPost Tryz.prog Tryz.f60 (bX M w0 (fun v _=>v=.tup [iI r.1,iI r.2]))
abbrev P9(ks:List ao)(s:AS):=VE (DK M w0) (FM M w0 r) ks .normal s
abbrev MJ(n:Nat):ao:=.c (cat Tryz.f60 (pn n))
abbrev Fh:List ao:=[.b 0,MJ 127]
abbrev RO:List ao:=kl (DK M w0) (FM M w0 r) Fh (cat Tryz.f60 (pn 1012)) m1::Fh
def Le:AS:=⟨[(4,.ref 1013),(7,iI v8),(8,iI v9),(9,iI v10)],[],[(1013,⟨33,59,lm az v2⟩)],[1013]⟩
abbrev Ld:Prop:=∀{v8:Int} {v9:Int} {v10:Int},L1 v8 v9 v10=some r→LP (DK M w0) (FM M w0 r) Fh (cat Tryz.f60 (pn 1012)) m1 (Le v2 v8 v9 v10)
variable{M w0 r v1 v2 v8 v9 v10 m1 L1}{K:Kn}{n:Nat}
theorem adH(hK:am K)(hL1:Ld M w0 r v2 m1 L1)(h:Av K n v2 L1 v8 v9 v10=some r):P9 M w0 r (MJ 1012::RO M w0 r m1) (Le v2 v8 v9 v10):=by
 unfold Av at h;refine cm 4 5 3 2 (ai 2 (ap (bK az v2) (ae ?_)));obtain⟨h10,h⟩|⟨h10,h⟩:=av h
 ·refine ak 31 h10 (cF 8 9 1 3 5 (ai 2 ?_));obtain⟨h11,h⟩:=aw h;refine ap (bZ 1013 59 az h11) (ap (bE 33 0 az aI (aR h11).2 (cS)) ?_);obtain⟨v11,h12,h⟩:=bind_some h;exact aK (hK.zQ h12) (ae (aj 5 (bd (hL1 h))))
 ·refine ak 31 h10 (eG 2 3 6 (ai 1 ?_));obtain⟨v12,h13,h⟩:=bind_some h;refine aK (jy hK h13) (br 3 1 ?_);obtain⟨v13,h14,h⟩:=bind_some h;refine aK (jy hK h14) (ae (aW 1 ?_));cases h;exact eu
theorem R5(hK:am K)(m:Nat):Ld M w0 r v2 m (AU K n v2 m):=by
 induction m with
 | zero=>intro v8 v9 v10 h;cases h
 | succ m ih=>intro v8 v9 v10 h;have h:Av K n v2 (AU K n v2 m) v8 v9 v10=some r:=h;exact aU (adH hK ih h)
theorem RG(hK:am K)(h:yE K n v1=some r):aQ Tryz.prog 60 [.agg (aI v1)] (fun v _=>v=.tup [iI r.1,iI r.2]):=by
 refine bF (cat Tryz.f60 (pn 1)) Tryz.func60 Tryz.ntmps60 fun M w0=>(bx ⟨[(0,.agg (aI v1))],[],[],[]⟩ ?_);unfold yE at h;refine ax 6 7 3 (ai 1 ?_);obtain⟨v2,h1,h⟩:=bind_some h;refine d5 1013 (J3 hK h1) (fQ 25) (ae (cm 4 5 3 2 (ai 1 ?_)));obtain⟨v3,h2,h⟩:=bind_some h;refine aK (aac hK h2) (ae ?_);obtain⟨h3,h⟩|⟨h3,h⟩:=av h
 ·refine ak 16 h3 (ax 4 5 2 (ai 3 (eO 1013 ?_)));obtain⟨v4,h4,h⟩:=bind_some h;refine aK (K5 hK h4) (ae (ax 2 3 1 (ai 1 ?_)));obtain⟨v5,h5,h⟩:=bind_some h;refine aK (jy hK h5) (br 3 1 ?_);obtain⟨v6,h6,h⟩:=bind_some h;refine aK (jy hK h6) (ae (aW 2 ?_));cases h;exact eu
 ·exact ak 16 h3 (aj 10 (bP (p:=pn 506) n (R5 hK n h)))
end
noncomputable section
variable(M:Nat→Prop)(w0:aJ)(r:Int×Int)(v1:ac)  
variable{M w0 r v1}{K:Kn}{n:Nat}
theorem OP(hK:am K)(h:tn K n v1=some r):aQ Tryz.prog 31 [.agg (aI v1)] (fun v _=>v=.tup [iI r.1,iI r.2]):=by
 refine bF (cat Tryz.f31 (pn 1)) Tryz.func31 Tryz.ntmps31 fun M w0=>(bx ⟨[(0,.agg (aI v1))],[],[],[]⟩ ?_);unfold tn at h;refine ax 6 7 3 (ai 1 ?_);obtain⟨v2,h1,h⟩:=bind_some h;refine aK (RG hK h1) (ae (ax 2 3 1 (ai 4 ?_)));obtain⟨v3,h2,h⟩:=bind_some h;refine aK (KS hK h2) (ae (aW 1 ?_));cases h;exact eu
end
end Go.Proofs.YtolhpahjgddjkaaGreat

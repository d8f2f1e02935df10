/- The runs of the functions that RelayoutChanged reaches do what their plain forms say, part 2. Made by a program. -/
import Derived.Test.YtocgkfoifehcbaaGreatRcGk
import Derived.Test.YtocgkfoifehcbaaGreatRcP1
namespace Go.Proofs.YtocgkfoifehcbaaGreat
open Go.RowKit
set_option maxRecDepth 20000
set_option linter.all false
set_option linter.unusedVariables false
set_option linter.unusedSimpArgs false
noncomputable section
variable[GS](M:Nat→Prop)(w0:aB)(r v1:aX)(v2:Nat)(v3 v4 v5 v6 v7 v8 v9 v10 v11 v12 v13:aX)  
abbrev dn(n:Nat):ao:=.c (cat Tryz.f108 (pn n))
abbrev B6:Cx:=⟨Tryz.prog,40,M,w0⟩
abbrev AH:=bodyPost Tryz.prog Tryz.f108 (bC M w0 (fun v _=>v=.agg (aE r)))
abbrev gS(ks:List ao)(s:AS):=VE (B6 M w0) (AH M w0 r) ks .normal s
def XQ:AS:=⟨[(1,.pp 1 v2 0),(2,.ptr 2 0),(24,.ref 10),(25,iI 11),(26,iI 10)],[(1,aE v13),(2,aE cg)],[(10,⟨201,1,lm aV [(v2,6),(v2,10),(v2,12),(v2,14),(v2,22),(v2,16),(v2,24),(v2,18),(v2,26),(v2,20),(v2,28)]⟩)],[1,2,10]⟩
def UA:AS:=⟨[(1,.pp 1 v2 0),(2,.ptr 2 0),(24,.ref 10),(25,iI 11),(26,iI 9)],[(1,aE v12),(2,aE cg)],[(10,⟨201,1,lm aV [(v2,6),(v2,10),(v2,12),(v2,14),(v2,22),(v2,16),(v2,24),(v2,18),(v2,26),(v2,20),(v2,28)]⟩)],[1,2,10]⟩
def WW:AS:=⟨[(1,.pp 1 v2 0),(2,.ptr 2 0),(24,.ref 10),(25,iI 11),(26,iI 8)],[(1,aE v11),(2,aE cg)],[(10,⟨201,1,lm aV [(v2,6),(v2,10),(v2,12),(v2,14),(v2,22),(v2,16),(v2,24),(v2,18),(v2,26),(v2,20),(v2,28)]⟩)],[1,2,10]⟩
def SQ:AS:=⟨[(1,.pp 1 v2 0),(2,.ptr 2 0),(24,.ref 10),(25,iI 11),(26,iI 7)],[(1,aE v10),(2,aE cg)],[(10,⟨201,1,lm aV [(v2,6),(v2,10),(v2,12),(v2,14),(v2,22),(v2,16),(v2,24),(v2,18),(v2,26),(v2,20),(v2,28)]⟩)],[1,2,10]⟩
def RO:AS:=⟨[(1,.pp 1 v2 0),(2,.ptr 2 0),(24,.ref 10),(25,iI 11),(26,iI 6)],[(1,aE v9),(2,aE cg)],[(10,⟨201,1,lm aV [(v2,6),(v2,10),(v2,12),(v2,14),(v2,22),(v2,16),(v2,24),(v2,18),(v2,26),(v2,20),(v2,28)]⟩)],[1,2,10]⟩
def P5:AS:=⟨[(1,.pp 1 v2 0),(2,.ptr 2 0),(24,.ref 10),(25,iI 11),(26,iI 5)],[(1,aE v8),(2,aE cg)],[(10,⟨201,1,lm aV [(v2,6),(v2,10),(v2,12),(v2,14),(v2,22),(v2,16),(v2,24),(v2,18),(v2,26),(v2,20),(v2,28)]⟩)],[1,2,10]⟩
def UK:AS:=⟨[(1,.pp 1 v2 0),(2,.ptr 2 0),(24,.ref 10),(25,iI 11),(26,iI 4)],[(1,aE v7),(2,aE cg)],[(10,⟨201,1,lm aV [(v2,6),(v2,10),(v2,12),(v2,14),(v2,22),(v2,16),(v2,24),(v2,18),(v2,26),(v2,20),(v2,28)]⟩)],[1,2,10]⟩
def Q8:AS:=⟨[(1,.pp 1 v2 0),(2,.ptr 2 0),(24,.ref 10),(25,iI 11),(26,iI 3)],[(1,aE v6),(2,aE cg)],[(10,⟨201,1,lm aV [(v2,6),(v2,10),(v2,12),(v2,14),(v2,22),(v2,16),(v2,24),(v2,18),(v2,26),(v2,20),(v2,28)]⟩)],[1,2,10]⟩
def XN:AS:=⟨[(1,.pp 1 v2 0),(2,.ptr 2 0),(24,.ref 10),(25,iI 11),(26,iI 2)],[(1,aE v5),(2,aE cg)],[(10,⟨201,1,lm aV [(v2,6),(v2,10),(v2,12),(v2,14),(v2,22),(v2,16),(v2,24),(v2,18),(v2,26),(v2,20),(v2,28)]⟩)],[1,2,10]⟩
def VS:AS:=⟨[(1,.pp 1 v2 0),(2,.ptr 2 0),(24,.ref 10),(25,iI 11),(26,iI 1)],[(1,aE v4),(2,aE cg)],[(10,⟨201,1,lm aV [(v2,6),(v2,10),(v2,12),(v2,14),(v2,22),(v2,16),(v2,24),(v2,18),(v2,26),(v2,20),(v2,28)]⟩)],[1,2,10]⟩
def ZD:AS:=⟨[(1,.pp 1 v2 0),(2,.ptr 2 0),(24,.ref 10),(25,iI 11),(26,iI 0)],[(1,aE v3),(2,aE cg)],[(10,⟨201,1,lm aV [(v2,6),(v2,10),(v2,12),(v2,14),(v2,22),(v2,16),(v2,24),(v2,18),(v2,26),(v2,20),(v2,28)]⟩)],[1,2,10]⟩
abbrev dJ(m:Nat):List ao:=kl (B6 M w0) (AH M w0 r) [.b 2,dn 31] (cat Tryz.f108 (pn 244)) m::[.b 2,dn 31]
abbrev qC(m:Nat):List ao:=kl (B6 M w0) (AH M w0 r) [.b 0,dn 15] (cat Tryz.f108 (pn 116)) m::[.b 0,dn 15]
variable{M w0 r v1 v2 v3 v4 v5 v6 v7 v8 v9 v10 v11 v12 v13}{K:Kn}{n:Nat}
theorem H6(hK:ak K)(h:tI K n v13=some r):gS M w0 r (.b 3::dn 1959::dJ M w0 r 29) (XQ v2 v13):=by
 unfold tI at h;refine bm (ks':=dJ M w0 r 29) 2 ⟨[(1,.pp 1 v2 0),(2,.ptr 2 0),(24,.ref 10),(25,iI 11),(26,iI 11)],[(1,aE v13),(2,aE cg)],[(10,⟨201,1,lm aV [(v2,6),(v2,10),(v2,12),(v2,14),(v2,22),(v2,16),(v2,24),(v2,18),(v2,26),(v2,20),(v2,28)]⟩)],[1,2,10]⟩ (bc (aZ (aJ 11 ?_)));cases h;exact bp
theorem Lt(hK:ak K)(h:vt K n v12=some r):gS M w0 r (.b 3::dn 1959::dJ M w0 r 30) (UA v2 v12):=by
 unfold vt at h;refine bm (ks':=dJ M w0 r 30) 2 ⟨[(1,.pp 1 v2 0),(2,.ptr 2 0),(24,.ref 10),(25,iI 11),(26,iI 10)],[(1,aE v12),(2,aE cg)],[(10,⟨201,1,lm aV [(v2,6),(v2,10),(v2,12),(v2,14),(v2,22),(v2,16),(v2,24),(v2,18),(v2,26),(v2,20),(v2,28)]⟩)],[1,2,10]⟩ (bc (aZ (cU 56 57 3 15 8 (ai 0 (au (ca 10 1 aV (L:=([(v2,6),(v2,10),(v2,12),(v2,14),(v2,22),(v2,16),(v2,24),(v2,18),(v2,26),(v2,20),(v2,28)]:List (Nat×Nat))) (i:=(10:Int)) (by kernel_rfl)) (au (br 201 0 aV aV (L:=([(v2,6),(v2,10),(v2,12),(v2,14),(v2,22),(v2,16),(v2,24),(v2,18),(v2,26),(v2,20),(v2,28)]:List (Nat×Nat))) (j:=(10:Int).toNat) (of_decide_eq_true (by kernel_rfl)) ((fun _=>rfl))) (ab (av 2 3 1 (ai 3 (cF 32 1 1 v2 28 0 (ab ?_)))))))))));obtain⟨h11,h⟩|⟨h11,h⟩:=am h
 ·exact ae 34 h11 (bd 2 1 (ai 3 (cF 37 1 1 v2 28 0 (ab (ac 0 (H6 hK (v2:=v2) h))))))
 ·exact ae 34 h11 (ac 2 (H6 hK (v2:=v2) h))
theorem Hk(hK:ak K)(h:yz K n v11=some r):gS M w0 r (.b 3::dn 1959::dJ M w0 r 31) (WW v2 v11):=by
 unfold yz at h;refine bm (ks':=dJ M w0 r 31) 2 ⟨[(1,.pp 1 v2 0),(2,.ptr 2 0),(24,.ref 10),(25,iI 11),(26,iI 9)],[(1,aE v11),(2,aE cg)],[(10,⟨201,1,lm aV [(v2,6),(v2,10),(v2,12),(v2,14),(v2,22),(v2,16),(v2,24),(v2,18),(v2,26),(v2,20),(v2,28)]⟩)],[1,2,10]⟩ (bc (aZ (cU 56 57 3 15 8 (ai 0 (au (ca 10 1 aV (L:=([(v2,6),(v2,10),(v2,12),(v2,14),(v2,22),(v2,16),(v2,24),(v2,18),(v2,26),(v2,20),(v2,28)]:List (Nat×Nat))) (i:=(9:Int)) (by kernel_rfl)) (au (br 201 0 aV aV (L:=([(v2,6),(v2,10),(v2,12),(v2,14),(v2,22),(v2,16),(v2,24),(v2,18),(v2,26),(v2,20),(v2,28)]:List (Nat×Nat))) (j:=(9:Int).toNat) (of_decide_eq_true (by kernel_rfl)) ((fun _=>rfl))) (ab (av 2 3 1 (ai 3 (cF 32 1 1 v2 20 0 (ab ?_)))))))))));obtain⟨h10,h⟩|⟨h10,h⟩:=am h
 ·exact ae 34 h10 (bd 2 1 (ai 3 (cF 37 1 1 v2 20 0 (ab (ac 0 (Lt hK (v2:=v2) h))))))
 ·exact ae 34 h10 (ac 2 (Lt hK (v2:=v2) h))
theorem MM(hK:ak K)(h:rJ K n v10=some r):gS M w0 r (.b 3::dn 1959::dJ M w0 r 32) (SQ v2 v10):=by
 unfold rJ at h;refine bm (ks':=dJ M w0 r 32) 2 ⟨[(1,.pp 1 v2 0),(2,.ptr 2 0),(24,.ref 10),(25,iI 11),(26,iI 8)],[(1,aE v10),(2,aE cg)],[(10,⟨201,1,lm aV [(v2,6),(v2,10),(v2,12),(v2,14),(v2,22),(v2,16),(v2,24),(v2,18),(v2,26),(v2,20),(v2,28)]⟩)],[1,2,10]⟩ (bc (aZ (cU 56 57 3 15 8 (ai 0 (au (ca 10 1 aV (L:=([(v2,6),(v2,10),(v2,12),(v2,14),(v2,22),(v2,16),(v2,24),(v2,18),(v2,26),(v2,20),(v2,28)]:List (Nat×Nat))) (i:=(8:Int)) (by kernel_rfl)) (au (br 201 0 aV aV (L:=([(v2,6),(v2,10),(v2,12),(v2,14),(v2,22),(v2,16),(v2,24),(v2,18),(v2,26),(v2,20),(v2,28)]:List (Nat×Nat))) (j:=(8:Int).toNat) (of_decide_eq_true (by kernel_rfl)) ((fun _=>rfl))) (ab (av 2 3 1 (ai 3 (cF 32 1 1 v2 26 0 (ab ?_)))))))))));obtain⟨h9,h⟩|⟨h9,h⟩:=am h
 ·exact ae 34 h9 (bd 2 1 (ai 3 (cF 37 1 1 v2 26 0 (ab (ac 0 (Hk hK (v2:=v2) h))))))
 ·exact ae 34 h9 (ac 2 (Hk hK (v2:=v2) h))
theorem GW(hK:ak K)(h:tW K n v9=some r):gS M w0 r (.b 3::dn 1959::dJ M w0 r 33) (RO v2 v9):=by
 unfold tW at h;refine bm (ks':=dJ M w0 r 33) 2 ⟨[(1,.pp 1 v2 0),(2,.ptr 2 0),(24,.ref 10),(25,iI 11),(26,iI 7)],[(1,aE v9),(2,aE cg)],[(10,⟨201,1,lm aV [(v2,6),(v2,10),(v2,12),(v2,14),(v2,22),(v2,16),(v2,24),(v2,18),(v2,26),(v2,20),(v2,28)]⟩)],[1,2,10]⟩ (bc (aZ (cU 56 57 3 15 8 (ai 0 (au (ca 10 1 aV (L:=([(v2,6),(v2,10),(v2,12),(v2,14),(v2,22),(v2,16),(v2,24),(v2,18),(v2,26),(v2,20),(v2,28)]:List (Nat×Nat))) (i:=(7:Int)) (by kernel_rfl)) (au (br 201 0 aV aV (L:=([(v2,6),(v2,10),(v2,12),(v2,14),(v2,22),(v2,16),(v2,24),(v2,18),(v2,26),(v2,20),(v2,28)]:List (Nat×Nat))) (j:=(7:Int).toNat) (of_decide_eq_true (by kernel_rfl)) ((fun _=>rfl))) (ab (av 2 3 1 (ai 3 (cF 32 1 1 v2 18 0 (ab ?_)))))))))));obtain⟨h8,h⟩|⟨h8,h⟩:=am h
 ·exact ae 34 h8 (bd 2 1 (ai 3 (cF 37 1 1 v2 18 0 (ab (ac 0 (MM hK (v2:=v2) h))))))
 ·exact ae 34 h8 (ac 2 (MM hK (v2:=v2) h))
theorem JB(hK:ak K)(h:ri K n v8=some r):gS M w0 r (.b 3::dn 1959::dJ M w0 r 34) (P5 v2 v8):=by
 unfold ri at h;refine bm (ks':=dJ M w0 r 34) 2 ⟨[(1,.pp 1 v2 0),(2,.ptr 2 0),(24,.ref 10),(25,iI 11),(26,iI 6)],[(1,aE v8),(2,aE cg)],[(10,⟨201,1,lm aV [(v2,6),(v2,10),(v2,12),(v2,14),(v2,22),(v2,16),(v2,24),(v2,18),(v2,26),(v2,20),(v2,28)]⟩)],[1,2,10]⟩ (bc (aZ (cU 56 57 3 15 8 (ai 0 (au (ca 10 1 aV (L:=([(v2,6),(v2,10),(v2,12),(v2,14),(v2,22),(v2,16),(v2,24),(v2,18),(v2,26),(v2,20),(v2,28)]:List (Nat×Nat))) (i:=(6:Int)) (by kernel_rfl)) (au (br 201 0 aV aV (L:=([(v2,6),(v2,10),(v2,12),(v2,14),(v2,22),(v2,16),(v2,24),(v2,18),(v2,26),(v2,20),(v2,28)]:List (Nat×Nat))) (j:=(6:Int).toNat) (of_decide_eq_true (by kernel_rfl)) ((fun _=>rfl))) (ab (av 2 3 1 (ai 3 (cF 32 1 1 v2 24 0 (ab ?_)))))))))));obtain⟨h7,h⟩|⟨h7,h⟩:=am h
 ·exact ae 34 h7 (bd 2 1 (ai 3 (cF 37 1 1 v2 24 0 (ab (ac 0 (GW hK (v2:=v2) h))))))
 ·exact ae 34 h7 (ac 2 (GW hK (v2:=v2) h))
theorem H5(hK:ak K)(h:sr K n v7=some r):gS M w0 r (.b 3::dn 1959::dJ M w0 r 35) (UK v2 v7):=by
 unfold sr at h;refine bm (ks':=dJ M w0 r 35) 2 ⟨[(1,.pp 1 v2 0),(2,.ptr 2 0),(24,.ref 10),(25,iI 11),(26,iI 5)],[(1,aE v7),(2,aE cg)],[(10,⟨201,1,lm aV [(v2,6),(v2,10),(v2,12),(v2,14),(v2,22),(v2,16),(v2,24),(v2,18),(v2,26),(v2,20),(v2,28)]⟩)],[1,2,10]⟩ (bc (aZ (cU 56 57 3 15 8 (ai 0 (au (ca 10 1 aV (L:=([(v2,6),(v2,10),(v2,12),(v2,14),(v2,22),(v2,16),(v2,24),(v2,18),(v2,26),(v2,20),(v2,28)]:List (Nat×Nat))) (i:=(5:Int)) (by kernel_rfl)) (au (br 201 0 aV aV (L:=([(v2,6),(v2,10),(v2,12),(v2,14),(v2,22),(v2,16),(v2,24),(v2,18),(v2,26),(v2,20),(v2,28)]:List (Nat×Nat))) (j:=(5:Int).toNat) (of_decide_eq_true (by kernel_rfl)) ((fun _=>rfl))) (ab (av 2 3 1 (ai 3 (cF 32 1 1 v2 16 0 (ab ?_)))))))))));obtain⟨h6,h⟩|⟨h6,h⟩:=am h
 ·exact ae 34 h6 (bd 2 1 (ai 3 (cF 37 1 1 v2 16 0 (ab (ac 0 (JB hK (v2:=v2) h))))))
 ·exact ae 34 h6 (ac 2 (JB hK (v2:=v2) h))
theorem Hq(hK:ak K)(h:tf K n v6=some r):gS M w0 r (.b 3::dn 1959::dJ M w0 r 36) (Q8 v2 v6):=by
 unfold tf at h;refine bm (ks':=dJ M w0 r 36) 2 ⟨[(1,.pp 1 v2 0),(2,.ptr 2 0),(24,.ref 10),(25,iI 11),(26,iI 4)],[(1,aE v6),(2,aE cg)],[(10,⟨201,1,lm aV [(v2,6),(v2,10),(v2,12),(v2,14),(v2,22),(v2,16),(v2,24),(v2,18),(v2,26),(v2,20),(v2,28)]⟩)],[1,2,10]⟩ (bc (aZ (cU 56 57 3 15 8 (ai 0 (au (ca 10 1 aV (L:=([(v2,6),(v2,10),(v2,12),(v2,14),(v2,22),(v2,16),(v2,24),(v2,18),(v2,26),(v2,20),(v2,28)]:List (Nat×Nat))) (i:=(4:Int)) (by kernel_rfl)) (au (br 201 0 aV aV (L:=([(v2,6),(v2,10),(v2,12),(v2,14),(v2,22),(v2,16),(v2,24),(v2,18),(v2,26),(v2,20),(v2,28)]:List (Nat×Nat))) (j:=(4:Int).toNat) (of_decide_eq_true (by kernel_rfl)) ((fun _=>rfl))) (ab (av 2 3 1 (ai 3 (cF 32 1 1 v2 22 0 (ab ?_)))))))))));obtain⟨h5,h⟩|⟨h5,h⟩:=am h
 ·exact ae 34 h5 (bd 2 1 (ai 3 (cF 37 1 1 v2 22 0 (ab (ac 0 (H5 hK (v2:=v2) h))))))
 ·exact ae 34 h5 (ac 2 (H5 hK (v2:=v2) h))
theorem Ik(hK:ak K)(h:wS K n v5=some r):gS M w0 r (.b 3::dn 1959::dJ M w0 r 37) (XN v2 v5):=by
 unfold wS at h;refine bm (ks':=dJ M w0 r 37) 2 ⟨[(1,.pp 1 v2 0),(2,.ptr 2 0),(24,.ref 10),(25,iI 11),(26,iI 3)],[(1,aE v5),(2,aE cg)],[(10,⟨201,1,lm aV [(v2,6),(v2,10),(v2,12),(v2,14),(v2,22),(v2,16),(v2,24),(v2,18),(v2,26),(v2,20),(v2,28)]⟩)],[1,2,10]⟩ (bc (aZ (cU 56 57 3 15 8 (ai 0 (au (ca 10 1 aV (L:=([(v2,6),(v2,10),(v2,12),(v2,14),(v2,22),(v2,16),(v2,24),(v2,18),(v2,26),(v2,20),(v2,28)]:List (Nat×Nat))) (i:=(3:Int)) (by kernel_rfl)) (au (br 201 0 aV aV (L:=([(v2,6),(v2,10),(v2,12),(v2,14),(v2,22),(v2,16),(v2,24),(v2,18),(v2,26),(v2,20),(v2,28)]:List (Nat×Nat))) (j:=(3:Int).toNat) (of_decide_eq_true (by kernel_rfl)) ((fun _=>rfl))) (ab (av 2 3 1 (ai 3 (cF 32 1 1 v2 14 0 (ab ?_)))))))))));obtain⟨h4,h⟩|⟨h4,h⟩:=am h
 ·exact ae 34 h4 (bd 2 1 (ai 3 (cF 37 1 1 v2 14 0 (ab (ac 0 (Hq hK (v2:=v2) h))))))
 ·exact ae 34 h4 (ac 2 (Hq hK (v2:=v2) h))
theorem Oc(hK:ak K)(h:rH K n v4=some r):gS M w0 r (.b 3::dn 1959::dJ M w0 r 38) (VS v2 v4):=by
 unfold rH at h;refine bm (ks':=dJ M w0 r 38) 2 ⟨[(1,.pp 1 v2 0),(2,.ptr 2 0),(24,.ref 10),(25,iI 11),(26,iI 2)],[(1,aE v4),(2,aE cg)],[(10,⟨201,1,lm aV [(v2,6),(v2,10),(v2,12),(v2,14),(v2,22),(v2,16),(v2,24),(v2,18),(v2,26),(v2,20),(v2,28)]⟩)],[1,2,10]⟩ (bc (aZ (cU 56 57 3 15 8 (ai 0 (au (ca 10 1 aV (L:=([(v2,6),(v2,10),(v2,12),(v2,14),(v2,22),(v2,16),(v2,24),(v2,18),(v2,26),(v2,20),(v2,28)]:List (Nat×Nat))) (i:=(2:Int)) (by kernel_rfl)) (au (br 201 0 aV aV (L:=([(v2,6),(v2,10),(v2,12),(v2,14),(v2,22),(v2,16),(v2,24),(v2,18),(v2,26),(v2,20),(v2,28)]:List (Nat×Nat))) (j:=(2:Int).toNat) (of_decide_eq_true (by kernel_rfl)) ((fun _=>rfl))) (ab (av 2 3 1 (ai 3 (cF 32 1 1 v2 12 0 (ab ?_)))))))))));obtain⟨h3,h⟩|⟨h3,h⟩:=am h
 ·exact ae 34 h3 (bd 2 1 (ai 3 (cF 37 1 1 v2 12 0 (ab (ac 0 (Ik hK (v2:=v2) h))))))
 ·exact ae 34 h3 (ac 2 (Ik hK (v2:=v2) h))
theorem HE(hK:ak K)(h:y2 K n v3=some r):gS M w0 r (.b 3::dn 1959::dJ M w0 r 39) (ZD v2 v3):=by
 unfold y2 at h;refine bm (ks':=dJ M w0 r 39) 2 ⟨[(1,.pp 1 v2 0),(2,.ptr 2 0),(24,.ref 10),(25,iI 11),(26,iI 1)],[(1,aE v3),(2,aE cg)],[(10,⟨201,1,lm aV [(v2,6),(v2,10),(v2,12),(v2,14),(v2,22),(v2,16),(v2,24),(v2,18),(v2,26),(v2,20),(v2,28)]⟩)],[1,2,10]⟩ (bc (aZ (cU 56 57 3 15 8 (ai 0 (au (ca 10 1 aV (L:=([(v2,6),(v2,10),(v2,12),(v2,14),(v2,22),(v2,16),(v2,24),(v2,18),(v2,26),(v2,20),(v2,28)]:List (Nat×Nat))) (i:=(1:Int)) (by kernel_rfl)) (au (br 201 0 aV aV (L:=([(v2,6),(v2,10),(v2,12),(v2,14),(v2,22),(v2,16),(v2,24),(v2,18),(v2,26),(v2,20),(v2,28)]:List (Nat×Nat))) (j:=(1:Int).toNat) (of_decide_eq_true (by kernel_rfl)) ((fun _=>rfl))) (ab (av 2 3 1 (ai 3 (cF 32 1 1 v2 10 0 (ab ?_)))))))))));obtain⟨h2,h⟩|⟨h2,h⟩:=am h
 ·exact ae 34 h2 (bd 2 1 (ai 3 (cF 37 1 1 v2 10 0 (ab (ac 0 (Oc hK (v2:=v2) h))))))
 ·exact ae 34 h2 (ac 2 (Oc hK (v2:=v2) h))
theorem K9(hK:ak K)(h:vg K n v1=some r):aW Tryz.prog 108 [.agg (aE v1)] (fun v _=>v=.agg (aE r)):=by
 refine bB (cat Tryz.f108 (pn 1)) Tryz.func108 Tryz.ntmps108 fun M w0=>(ba ⟨[(0,.agg (aE v1))],[],[],[]⟩ ?_);unfold vg at h;refine av 6 7 3 (Mv 1 1 0 fun v2=>(ai 3 (JU 202 3 #[(0,(.tmp 7)),(1,(.tmp 8)),(2,(.tmp 9))] 10 (e:=201) (sz:=1) (l:=lm aV [(v2,6),(v2,10),(v2,12)]) (ab (bm (ks':=[dn 58,.b 0,dn 15]) 4 ⟨[(1,.pp 1 v2 0),(2,.ptr 2 0),(3,.ref 10),(11,iI 0)],[(1,aE v1),(2,aE cg)],[(10,⟨201,1,lm aV [(v2,6),(v2,10),(v2,12)]⟩)],[1,2,10]⟩ (jw 40 (c:=cat Tryz.f108 [1,1,0,1,0,0]) (by kernel_rfl) (aZ (bM (ks':=dn 3737 :: .b 1::dn 935::qC M w0 r 39) 9 (bA [1,2,3,4,11] [1,2] [10] (bw 2 (nu 14 [.ref 10,iI 0,.adr v2 14,.adr v2 14,iI 0,.adr v2 22,.adr v2 22,.sl (lm aV [(v2,14),(v2,22)])]) [] [] [eb 22 10 ⟨201,1,lm aV [(v2,6),(v2,10),(v2,12),(v2,14),(v2,22)]⟩,bS Tryz.prog 40 Tryz.f108 (pn 3737) 9] (aq [.v 0 1,.v 0 2,.v 0 2,.v 0 2,.v 0 2,.v 0 2,.v 0 2,.v 0 1] (ag (cy (m:=0) (cc 22 10 201 1 aV (L:=([(v2,6),(v2,10),(v2,12)]:List (Nat×Nat))) (M:=([(v2,14),(v2,22)]:(List (Nat×Nat)))) (bytes:=8) (rfl) (fun _=>rfl) (by kernel_rfl))) (ag (bU 1) bz))) (bm (ks':=qC M w0 r 39) 2 ⟨[(1,.pp 1 v2 0),(2,.ptr 2 0),(3,.ref 10),(11,iI 1)],[(1,aE v1),(2,aE cg)],[(10,⟨201,1,lm aV [(v2,6),(v2,10),(v2,12),(v2,14),(v2,22)]⟩)],[1,2,10]⟩ (bc (aZ (eU 57 1 15 9 (bA [1,2,3,4,11] [1,2] [10] (bw 2 (nu 14 [.ref 10,iI 1,.adr v2 14,.adr v2 16,iI 1,.adr v2 22,.adr v2 24,.sl (lm aV [(v2,16),(v2,24)])]) [] [] [eb 22 10 ⟨201,1,lm aV [(v2,6),(v2,10),(v2,12),(v2,14),(v2,22),(v2,16),(v2,24)]⟩,bS Tryz.prog 40 Tryz.f108 (pn 3737) 9] (aq [.v 0 1,.v 0 2,.v 0 2,.v 0 2,.v 0 2,.v 0 2,.v 0 2,.v 0 1] (ag (cy (m:=0) (cc 22 10 201 1 aV (L:=([(v2,6),(v2,10),(v2,12),(v2,14),(v2,22)]:List (Nat×Nat))) (M:=([(v2,16),(v2,24)]:(List (Nat×Nat)))) (bytes:=8) (rfl) (fun _=>rfl) (by kernel_rfl))) (ag (bU 1) bz))) (bm (ks':=qC M w0 r 38) 2 ⟨[(1,.pp 1 v2 0),(2,.ptr 2 0),(3,.ref 10),(11,iI 2)],[(1,aE v1),(2,aE cg)],[(10,⟨201,1,lm aV [(v2,6),(v2,10),(v2,12),(v2,14),(v2,22),(v2,16),(v2,24)]⟩)],[1,2,10]⟩ (bc (aZ (eU 57 1 15 9 (bA [1,2,3,4,11] [1,2] [10] (bw 2 (nu 14 [.ref 10,iI 2,.adr v2 14,.adr v2 18,iI 2,.adr v2 22,.adr v2 26,.sl (lm aV [(v2,18),(v2,26)])]) [] [] [eb 22 10 ⟨201,1,lm aV [(v2,6),(v2,10),(v2,12),(v2,14),(v2,22),(v2,16),(v2,24),(v2,18),(v2,26)]⟩,bS Tryz.prog 40 Tryz.f108 (pn 3737) 9] (aq [.v 0 1,.v 0 2,.v 0 2,.v 0 2,.v 0 2,.v 0 2,.v 0 2,.v 0 1] (ag (cy (m:=0) (cc 22 10 201 1 aV (L:=([(v2,6),(v2,10),(v2,12),(v2,14),(v2,22),(v2,16),(v2,24)]:List (Nat×Nat))) (M:=([(v2,18),(v2,26)]:(List (Nat×Nat)))) (bytes:=8) (rfl) (fun _=>rfl) (by kernel_rfl))) (ag (bU 1) bz))) (bm (ks':=qC M w0 r 37) 2 ⟨[(1,.pp 1 v2 0),(2,.ptr 2 0),(3,.ref 10),(11,iI 3)],[(1,aE v1),(2,aE cg)],[(10,⟨201,1,lm aV [(v2,6),(v2,10),(v2,12),(v2,14),(v2,22),(v2,16),(v2,24),(v2,18),(v2,26)]⟩)],[1,2,10]⟩ ?_)))))))))))))))))))))))
 refine bc (aZ (eU 57 1 15 9 (bA [1,2,3,4,11] [1,2] [10] (bw 2 (nu 14 [.ref 10,iI 3,.adr v2 14,.adr v2 20,iI 3,.adr v2 22,.adr v2 28,.sl (lm aV [(v2,20),(v2,28)])]) [] [] [eb 22 10 ⟨201,1,lm aV [(v2,6),(v2,10),(v2,12),(v2,14),(v2,22),(v2,16),(v2,24),(v2,18),(v2,26),(v2,20),(v2,28)]⟩,bS Tryz.prog 40 Tryz.f108 (pn 3737) 9] (aq [.v 0 1,.v 0 2,.v 0 2,.v 0 2,.v 0 2,.v 0 2,.v 0 2,.v 0 1] (ag (cy (m:=0) (cc 22 10 201 1 aV (L:=([(v2,6),(v2,10),(v2,12),(v2,14),(v2,22),(v2,16),(v2,24),(v2,18),(v2,26)]:List (Nat×Nat))) (M:=([(v2,20),(v2,28)]:(List (Nat×Nat)))) (bytes:=8) (rfl) (fun _=>rfl) (by kernel_rfl))) (ag (bU 1) bz))) (bm (ks':=qC M w0 r 36) 2 ⟨[(1,.pp 1 v2 0),(2,.ptr 2 0),(3,.ref 10),(11,iI 4)],[(1,aE v1),(2,aE cg)],[(10,⟨201,1,lm aV [(v2,6),(v2,10),(v2,12),(v2,14),(v2,22),(v2,16),(v2,24),(v2,18),(v2,26),(v2,20),(v2,28)]⟩)],[1,2,10]⟩ (bc (aZ (KL 4 5 3 10 (ai 1 (au (bj aV ([(v2,6),(v2,10),(v2,12),(v2,14),(v2,22),(v2,16),(v2,24),(v2,18),(v2,26),(v2,20),(v2,28)]:List (Nat×Nat))) (ab (bm (ks':=[dn 122,.b 2,dn 31]) 1 ⟨[(1,.pp 1 v2 0),(2,.ptr 2 0),(24,.ref 10),(25,iI 11),(26,iI 0)],[(1,aE v1),(2,aE cg)],[(10,⟨201,1,lm aV [(v2,6),(v2,10),(v2,12),(v2,14),(v2,22),(v2,16),(v2,24),(v2,18),(v2,26),(v2,20),(v2,28)]⟩)],[1,2,10]⟩ (jw 40 (c:=cat Tryz.f108 [1,1,1,0,1,0,0]) (by kernel_rfl) (aZ (bM (ks':=dn 7832::dn 7833 :: .b 3::dn 1959::dJ M w0 r 39) 8 (ai 0 (au (ca 10 1 aV (L:=([(v2,6),(v2,10),(v2,12),(v2,14),(v2,22),(v2,16),(v2,24),(v2,18),(v2,26),(v2,20),(v2,28)]:List (Nat×Nat))) (i:=(0:Int)) (by kernel_rfl)) (au (br 201 0 aV aV (L:=([(v2,6),(v2,10),(v2,12),(v2,14),(v2,22),(v2,16),(v2,24),(v2,18),(v2,26),(v2,20),(v2,28)]:List (Nat×Nat))) (j:=(0:Int).toNat) (of_decide_eq_true (by kernel_rfl)) ((fun _=>rfl))) (ab (av 2 3 1 (ai 3 (cF 32 1 1 v2 6 0 (ab ?_)))))))))))))))))))))))
 obtain⟨h1,h⟩|⟨h1,h⟩:=am h
 ·exact ae 34 h1 (bd 2 1 (ai 3 (cF 37 1 1 v2 6 0 (ab (ac 0 (HE hK (v2:=v2) h))))))
 ·exact ae 34 h1 (ac 2 (HE hK (v2:=v2) h))
end
noncomputable section
variable[GS](M:Nat→Prop)(w0:aB)(r:Int×Int)(v1:ah)(v2:bH)(v6:(List ah)×Bool)(v11 v12 v13:Int)(m1:Nat)(L1:Int→Int→Int→Option (Int×Int))
abbrev Bb:Cx:=⟨Tryz.prog,71,M,w0⟩
abbrev CN:=bodyPost Tryz.prog Tryz.f107 (bC M w0 (fun v _=>v=.tup [iI r.1,iI r.2]))
abbrev Xh(ks:List ao)(s:AS):=VE (Bb M w0) (CN M w0 r) ks .normal s
abbrev Nu(n:Nat):ao:=.c (cat Tryz.f107 (pn n))
abbrev Bp:List ao:=[.b 0,Nu 63]
abbrev T3:List ao:=kl (Bb M w0) (CN M w0 r) Bp (cat Tryz.f107 (pn 500)) m1::Bp
def La:AS:=⟨[(3,.ptr 3 0),(4,iI v11),(5,iI v12),(47,.sl (lm aF v6.1)),(48,iI (v6.1.length:Int)),(49,iI v13)],[(3,bG v2)],[],[3]⟩
abbrev IH:Prop:=∀{v11:Int} {v12:Int} {v13:Int},L1 v11 v12 v13=some r→LP (Bb M w0) (CN M w0 r) Bp (cat Tryz.f107 (pn 500)) m1 (La v2 v6 v11 v12 v13)
variable{M w0 r v1 v2 v6 v11 v12 v13 m1 L1}{K:Kn}{n:Nat}
theorem Qy(hK:ak K)(hL1:IH M w0 r v2 v6 m1 L1)(h:xh K n v2 v6 L1 v11 v12 v13=some r):Xh M w0 r (Nu 500::T3 M w0 r m1) (La v2 v6 v11 v12 v13):=by
 unfold xh at h;refine av 6 7 3 ?_;obtain⟨h13,h⟩|⟨h13,h⟩:=am h
 ·refine ae 50 h13 (cr 8 9 1 3 5 (ai 0 ?_));obtain⟨h14,h⟩:=ax h;refine au (bu aF ap h14 (dE) (cX)) (ab (av 2 3 1 (ai 3 ?_)));obtain⟨v14,h15,h⟩:=bind_some h;exact hF (hK.ii h15) (ab (ac 3 (bc (hL1 h))))
 ·refine ae 50 h13 (eI 2 3 6 (ai 1 ?_));obtain⟨v15,h16,h⟩:=bind_some h;refine aP (gg hK h16) (aO 3 1 ?_);obtain⟨v16,h17,h⟩:=bind_some h;refine aP (gg hK h17) (ab (aJ 1 ?_));cases h;exact fL
theorem WI(hK:ak K)(m:Nat):IH M w0 r v2 v6 m (rX K n v2 v6 m):=by
 induction m with
 | zero=>intro v11 v12 v13 h;cases h
 | succ m ih=>intro v11 v12 v13 h;have h:xh K n v2 v6 (rX K n v2 v6 m) v11 v12 v13=some r:=h;exact aZ (Qy hK ih h)
theorem Mo(hK:ak K)(h:xj K n v1 v2=some r):aW Tryz.prog 107 [.agg (ap v1),.agg (bG v2)] (fun v _=>v=.tup [iI r.1,iI r.2]):=by
 refine bB (cat Tryz.f107 (pn 1)) Tryz.func107 Tryz.ntmps107 fun M w0=>(ba ⟨[(0,.agg (ap v1)),(1,.agg (bG v2))],[],[],[]⟩ ?_);unfold xj at h;refine bN 12 13 7 4 (ai 2 ?_);obtain⟨v3,h1,h⟩:=bind_some h;refine aP (K9 hK h1) (aO 4 1 ?_);obtain⟨v4,h2,h⟩:=bind_some h;refine aP (di hK h2) (ab (bd 3 2 ?_));obtain⟨h3,h⟩|⟨h3,h⟩:=am h
 ·refine ae 22 h3 (av 4 5 2 (ai 1 ?_));obtain⟨v5,h4,h⟩:=bind_some h;refine aP (gg hK h4) (ab (aJ 4 ?_));cases h;exact fL
 ·refine ae 22 h3 (dQ 2 3 3 (ai 1 ?_));obtain⟨v6,h5,h⟩:=bind_some h;refine aP (HP hK h5) (ab (av 5 3 3 ?_));obtain⟨h6,h⟩|⟨h6,h⟩:=am h
  ·refine ae 33 h6 (av 4 5 2 (ai 5 ?_));obtain⟨v7,h7,h⟩:=bind_some h;refine hF (hK.xg h7) (ab (av 2 3 1 (ai 1 ?_)));obtain⟨v8,h8,h⟩:=bind_some h;refine aP (gg hK h8) (aO 3 1 ?_);obtain⟨v9,h9,h⟩:=bind_some h;refine aP (gg hK h9) (ab (aJ 2 ?_));cases h;exact fL
  ·exact ae 33 h6 (ju 4 5 3 4 (ai 1 (au (bj aF v6.1) (ab (ac 1 (bK (p:=pn 250) n (WI hK n h)))))))
end
noncomputable section
variable[GS](M:Nat→Prop)(w0:aB)(r:Int×Int)(v1:ah)(v2:bH)  
variable{M w0 r v1 v2}{K:Kn}{n:Nat}
theorem XA(hK:ak K)(h:Cf K n v1 v2=some r):aW Tryz.prog 51 [.agg (ap v1),.agg (bG v2)] (fun v _=>v=.tup [iI r.1,iI r.2]):=by
 refine bB (cat Tryz.f51 (pn 1)) Tryz.func51 Tryz.ntmps51 fun M w0=>(ba ⟨[(0,.agg (ap v1)),(1,.agg (bG v2))],[],[],[]⟩ ?_);unfold Cf at h;refine av 6 7 3 (ai 2 ?_);obtain⟨v3,h1,h⟩:=bind_some h;refine aP (Mo hK h1) (ab (av 2 3 1 (ai 2 ?_)));obtain⟨v4,h2,h⟩:=bind_some h;refine aP (K9 hK h2) (ab (av 2 3 1 (bA [4,5,6] [6] [] ?_)));obtain⟨v5,h3,h⟩:=bind_some h;obtain⟨v6,h4,h⟩:=bind_some h;obtain⟨v7,h5,h⟩:=bind_some h;obtain⟨v8,h6,h⟩:=bind_some h;obtain⟨v9,h7,h⟩:=bind_some h;obtain⟨v10,h8,h⟩:=bind_some h;refine bw 2 (nu 16 [.agg (aE v4),.agg (aE v4),iI v3.1,iI v5,.agg (cb v6),iI v7,.agg (aE v4),.agg (aE v4),iI v3.2,iI v8,.agg (cb v9),iI v10]) [] [] [bS Tryz.prog 28 Tryz.f51 (pn 30) 12,bS Tryz.prog 28 Tryz.f51 (pn 30) 13] (aq (vz 3) (ag (bL 0 1 19 (oW hK h3)) (ag (bL 0 1 20 (iJ hK h4)) (ag (bL 0 1 21 (jN hK h5)) (aq [.v 0 2,.v 0 2,.v 0 2] (ag (bL 0 2 25 (oW hK h6)) (ag (bL 0 2 26 (iJ hK h7)) (ag (bL 0 1 27 (jN hK h8)) (ag (bU 0) (ag (bU 1) bz)))))))))) (aJ 1 ?_)
 cases h;exact fL
end
noncomputable section
variable[GS](M:Nat→Prop)(w0:aB)(r:Int×Int)(v1:ah)(v2:bH)  
abbrev GM(n:Nat):ao:=.c (cat Tryz.f48 (pn n))
variable{M w0 r v1 v2}{K:Kn}{n:Nat}
theorem W6(hK:ak K)(h:E9 K n v1 v2=some r):aW Tryz.prog 48 [.agg (ap v1),.cptr (bG v2)] (fun v _=>v=.tup [iI r.1,iI r.2]):=by
 refine bB (cat Tryz.f48 (pn 1)) Tryz.func48 Tryz.ntmps48 fun M w0=>(ba ⟨[(0,.agg (ap v1)),(1,.cptr (bG v2))],[],[],[]⟩ ?_);unfold E9 at h;refine eU 53 0 7 8 ?_;obtain⟨h1,h⟩|⟨h1,h⟩:=am h
 ·refine ae 7 h1 (av 4 5 2 (ai 2 ?_));obtain⟨v3,h2,h⟩:=bind_some h;refine aP (ZA hK h2) (ab (aJ 3 ?_));cases h;exact fL
 ·refine ae 7 h1 (bd 7 3 ?_);obtain⟨h3,h⟩|⟨h3,h⟩:=am h
  ·refine ae 14 h3 ?_;cases h
  ·refine ae 14 h3 (bM (ks':=[GM 14,GM 15]) 4 (ai 2 ?_));obtain⟨v4,h4,h⟩:=bind_some h;refine aP (XA hK h4) (ab (aJ 1 ?_));cases h;exact fL
end
noncomputable section
variable[GS](M:Nat→Prop)(w0:aB)(r:List bh)(v1:bh)(v2:List bh)(v3 v4 v5 v6:Bool)(v7:bh)  
abbrev fQ(n:Nat):ao:=.c (cat Tryz.f176 (pn n))
abbrev Vt:Cx:=⟨Tryz.prog,72,M,w0⟩
abbrev SK:=bodyPost Tryz.prog Tryz.f176 (bC M w0 (fun v s=>v=.ref 9∧bW s.o []∧look 9 s.r=some ⟨210,5,lm aw r⟩))
abbrev qr(ks:List ao)(s:AS):=VE (Vt M w0) (SK M w0 r) ks .normal s
def Yk:AS:=⟨[(0,.ref 9),(3,.ptr 3 0)],[(3,aw v7)],[(9,⟨210,5,lm aw v2⟩)],[3,9]⟩
def OX:AS:=⟨[(0,.ref 9),(3,.ptr 3 0),(64,.bool v6)],[(3,aw v1)],[(9,⟨210,5,lm aw v2⟩)],[3,9]⟩
def W0:AS:=⟨[(0,.ref 9),(3,.ptr 3 0),(5,.bool (v1.Box.Style.WhiteSpace == 2)),(32,.bool v5)],[(3,aw v1)],[(9,⟨210,5,lm aw v2⟩)],[3,9]⟩
def Zl:AS:=⟨[(0,.ref 9),(3,.ptr 3 0),(5,.bool (v1.Box.Style.WhiteSpace == 2)),(24,.bool v4)],[(3,aw v1)],[(9,⟨210,5,lm aw v2⟩)],[3,9]⟩
def Up:AS:=⟨[(0,.ref 9),(3,.ptr 3 0),(5,.bool (v1.Box.Style.WhiteSpace == 2)),(19,.bool v3)],[(3,aw v1)],[(9,⟨210,5,lm aw v2⟩)],[3,9]⟩
variable{M w0 r v1 v2 v3 v4 v5 v6 v7}{K:Kn}{n:Nat}
theorem BK(hK:ak K)(h:pe K n v2 v7=some r):qr M w0 r [.b 1,fQ 31] (Yk v2 v7):=by
 unfold pe at h;refine dQ 6 7 4 (ai 3 ?_);obtain⟨h16,h⟩:=ax h;refine au (cc 71 9 210 5 aw (rfl) (cB) h16) (ab (aJ 1 ?_));cases h;exact dD
theorem Bn(hK:ak K)(h:nO K n v1 v2 v6=some r):qr M w0 r [fQ 15609,fQ 7805,.b 1,fQ 31] (OX v1 v2 v6):=by
 unfold nO at h;obtain⟨h15,h⟩|⟨h15,h⟩:=am h
 ·refine ae 64 h15 (aJ 7 ?_);cases h;exact dD
 ·exact ae 64 h15 (ac 3 (BK hK h))
theorem Hu(hK:ak K)(h:re K n v1 v2 v5=some r):qr M w0 r [fQ 487,.b 1,fQ 31] (W0 v1 v2 v5):=by
 unfold re at h;obtain⟨h9,h⟩|⟨h9,h⟩:=am h
 ·refine ae 32 h9 (aJ 6 ?_);cases h;exact dD
 ·refine ae 32 h9 (bd 7 3 ?_);obtain⟨h10,h⟩|⟨h10,h⟩:=am h
  ·refine ae 40 h10 (bN 8 9 5 3 (ai 1 (au (bj aw v2) (aO 4 2 ?_))));obtain⟨h11,h⟩|⟨h11,h⟩:=am h
   ·exact aC 46 h11 (ab (ac 0 (Bn hK h)))
   ·refine aC 46 h11 (aO 6 2 (au (bj aw v2) (aO 8 1 ?_)));obtain⟨h12,h⟩:=ax h;refine au (ca 9 5 aw h12) (aO 10 1 (au (br 4 3 aw aw (bf h12).2 ((fun _=>rfl))) (aO 13 2 ?_)));obtain⟨h13,h⟩|⟨h13,h⟩:=am h
    ·exact aC 55 h13 (ab (ac 0 (Bn hK h)))
    ·refine aC 55 h13 (aO 15 2 (au (bj aw v2) (aO 17 1 ?_)));obtain⟨h14,h⟩:=ax h;exact au (ca 9 5 aw h14) (aO 19 1 (au (br 3 0 aw aw (bf h14).2 ((fun _=>rfl))) (ab (ac 0 (Bn hK h)))))
  ·exact ae 40 h10 (ac 2 (BK hK h))
theorem Oa(hK:ak K)(h:wX K n v1 v2 v4=some r):qr M w0 r [fQ 121,.b 1,fQ 31] (Zl v1 v2 v4):=by
 unfold wX at h;obtain⟨h7,h⟩|⟨h7,h⟩:=am h
 ·exact ae 24 h7 (ac 2 (BK hK h))
 ·refine ae 24 h7 (av 6 7 2 (ai 2 ?_));obtain⟨h8,h⟩|⟨h8,h⟩:=am h
  ·exact aC 34 h8 (ab (ac 0 (Hu hK h)))
  ·exact aC 34 h8 (ab (ac 0 (Hu hK h)))
theorem u0(hK:ak K)(h:lY K n v1 v2 v3=some r):qr M w0 r [fQ 117,.b 0,fQ 15] (Up v1 v2 v3):=by
 unfold lY at h;obtain⟨h4,h⟩|⟨h4,h⟩:=am h
 ·refine ae 19 h4 (bM (ks':=[fQ 120,fQ 121,.b 1,fQ 31]) 6 (ai 2 ?_));obtain⟨h6,h⟩|⟨h6,h⟩:=am h
  ·exact aC 26 h6 (ab (ac 0 (Oa hK h)))
  ·exact aC 26 h6 (ab (ac 0 (Oa hK h)))
 ·refine ae 19 h4 (av 6 7 2 (ai 3 ?_));obtain⟨h5,h⟩:=ax h;refine au (cc 18 9 210 5 aw (rfl) (cB) h5) (ab (aJ 3 ?_));cases h;exact dD
theorem YR(hK:ak K)(h:Aa K n v1 v2=some r):ex Tryz.prog 176 [.ref 9,.agg (aw v1)] [] 9 ⟨210,5,lm aw v2⟩ [9] (fun v s=>v=.ref 9∧bW s.o []∧look 9 s.r=some ⟨210,5,lm aw r⟩):=by
 refine gA (c:=cat Tryz.f176 (pn 1)) Tryz.func176 (by kernel_rfl) _ Tryz.ntmps176 (of_decide_eq_true (by kernel_rfl)) fun M w0=>(ba ⟨[(0,.ref 9),(1,.agg (aw v1))],[],[(9,⟨210,5,lm aw v2⟩)],[9]⟩ ?_);unfold Aa at h;refine cU 233 117 0 15 11 ?_;obtain⟨h1,h⟩|⟨h1,h⟩:=am h
 ·exact ae 19 h1 (ac 2 (u0 hK h))
 ·refine ae 19 h1 (bd 7 3 ?_);obtain⟨h2,h⟩|⟨h2,h⟩:=am h
  ·exact ae 19 h2 (ac 2 (u0 hK h))
  ·refine ae 19 h2 (bd 7 3 ?_);obtain⟨h3,h⟩|⟨h3,h⟩:=am h
   ·exact ae 19 h3 (ac 2 (u0 hK h))
   ·exact ae 19 h3 (ac 2 (u0 hK h))
end
noncomputable section
variable[GS](M:Nat→Prop)(w0:aB)(r:Int×(List bh))(v1:List ah)(v2:Int)(v3:List bh)(v10:Nat)(v23 v24:Int)(v25:List bh)(v32 v36:Nat)(v37:List bh)(v41:Int)(v42:List bh)(v43:Int)(v44:List bh)(m1 m2:Nat)(L1:Int→Int→(List bh)→Option (Int×(List bh)))(L2:Nat→(List bh)→Option (Int×(List bh)))
abbrev pI:Cx:=⟨Tryz.prog,69,M,w0⟩
abbrev pT:=bodyPost Tryz.prog Tryz.f175 (bC M w0 (fun v s=>v=.tup []∧bW s.o [(1,[iI r.1]),(2,[.fno 175 [.ptr 1 0,.ptr 2 0,.ptr 3 0]]),(3,[.ref 9])]∧look 9 s.r=some ⟨210,5,lm aw r.2⟩))
abbrev wV(ks:List ao)(s:AS):=VE (pI M w0) (pT M w0 r) ks .normal s
abbrev fy(n:Nat):ao:=.c (cat Tryz.f175 (pn n))
abbrev Co:List ao:=[.b 0]
abbrev jD:List ao:=kl (pI M w0) (pT M w0 r) Co (cat Tryz.f175 (pn 12)) m1::Co
abbrev Af:List ao:=.b 3 :: .b 2 :: .b 1::fy 103::jD M w0 r m1
abbrev M1:List ao:=kl (pI M w0) (pT M w0 r) (Af M w0 r m1) (cat Tryz.f175 (pn 26867700)) m2::(Af M w0 r m1)
def PC:AS:=⟨[(0,.sl (lm aF v1)),(1,.ptr 1 0),(2,.ptr 2 0),(3,.ptr 3 0),(10,iI (v1.length:Int)),(11,iI v23)],[(1,[iI v43]),(2,[.fno 175 [.ptr 1 0,.ptr 2 0,.ptr 3 0]]),(3,[.ref 9])],[(9,⟨210,5,lm aw v44⟩)],[1,2,3,9,1000001,1,1000002,2,1000003,3]⟩
def XR:AS:=⟨[(0,.sl (lm aF v1)),(1,.ptr 1 0),(2,.ptr 2 0),(3,.ptr 3 0),(10,iI (v1.length:Int)),(11,iI v23)],[(1,[iI v41]),(2,[.fno 175 [.ptr 1 0,.ptr 2 0,.ptr 3 0]]),(3,[.ref 9])],[(9,⟨210,5,lm aw v42⟩)],[1,2,3,9,1000001,1,1000002,2,1000003,3]⟩
def Kk:AS:=⟨[(0,.sl (lm aF v1)),(1,.ptr 1 0),(2,.ptr 2 0),(3,.ptr 3 0),(6,.cptr (ap (gD v1 v23))),(10,iI (v1.length:Int)),(11,iI v23),(58,.sit 320058 v32 ((gD v1 v23).Text) v36)],[(1,[iI (aa (v24+1))]),(2,[.fno 175 [.ptr 1 0,.ptr 2 0,.ptr 3 0]]),(3,[.ref 9])],[(9,⟨210,5,lm aw v37⟩)],[1,2,3,9,320058,1000001,1,1000002,2,1000003,3]⟩
def Hc:AS:=⟨[(0,.sl (lm aF v1)),(1,.ptr 1 0),(2,.ptr 2 0),(3,.ptr 3 0),(10,iI (v1.length:Int)),(11,iI v23)],[(1,[iI v24]),(2,[.fno 175 [.ptr 1 0,.ptr 2 0,.ptr 3 0]]),(3,[.ref 9])],[(9,⟨210,5,lm aw v25⟩)],[1,2,3,9,1000001,1,1000002,2,1000003,3]⟩
abbrev lS:Prop:=∀{v23:Int} {v24:Int} {v25:(List bh)},L1 v23 v24 v25=some r→LP (pI M w0) (pT M w0 r) Co (cat Tryz.f175 (pn 12)) m1 (Hc v1 v23 v24 v25)
abbrev Lm:Prop:=∀{v36:Nat} {v37:(List bh)},L2 v36 v37=some r→LP (pI M w0) (pT M w0 r) (Af M w0 r m1) (cat Tryz.f175 (pn 26867700)) m2 (Kk v1 v23 v24 v32 v36 v37)
variable{M w0 r v1 v2 v3 v10 v23 v24 v25 v32 v36 v37 v41 v42 v43 v44 m1 m2 L1 L2}{K:Kn}{n:Nat}
theorem JR(hK:ak K)(hL1:lS M w0 r v1 m1 L1)(h:qW K n v1 v23 L1 v43 v44=some r):wV M w0 r (fy 103::jD M w0 r m1) (PC v1 v23 v43 v44):=by
 unfold qW at h;exact ac 1 (bc (hL1 h))
theorem nP(hK:ak K)(hL1:lS M w0 r v1 m1 L1)(h:kt K n v1 v23 L1 v41 v42=some r):wV M w0 r (.b 2 :: .b 1::fy 103::jD M w0 r m1) (XR v1 v23 v41 v42):=by
 unfold kt at h;exact ac 2 (JR hK hL1 h)
theorem Qa(hK:ak K)(hv32:w0.w.heap.size≤v32)(hL1:lS M w0 r v1 m1 L1)(hL2:Lm M w0 r v1 v23 v24 v32 m1 m2 L2)(h:sD K n v1 v23 v24 L1 L2 v36 v37=some r):wV M w0 r (fy 26867700::M1 M w0 r m1 m2) (Kk v1 v23 v24 v32 v36 v37):=by
 unfold sD at h;refine av 2 3 1 (ai 0 ?_);obtain⟨h43,h⟩|⟨h43,h⟩:=am h
 ·refine DX 58 (id:=320058) (g:=v32) h43 hv32 (ab ?_);obtain⟨v38,h44,h⟩:=bF h;obtain⟨v39,h45,h⟩:=bF h;refine bm (ks':=fy 429883213 :: .b 4::M1 M w0 r m1 m2) 6 ⟨[(0,.sl (lm aF v1)),(1,.ptr 1 0),(2,.ptr 2 0),(3,.ptr 3 0),(6,.cptr (ap (gD v1 v23))),(8,.int .i32 v38),(10,iI (v1.length:Int)),(11,iI v23),(58,.sit 320058 v32 ((gD v1 v23).Text) v39)],[(1,[iI (aa (v24+1))]),(2,[.fno 175 [.ptr 1 0,.ptr 2 0,.ptr 3 0]]),(3,[.ref 9])],[(9,⟨210,5,lm aw v37⟩)],[1,2,3,9,320058,1000001,1,1000002,2,1000003,3]⟩ ?_ (by subst h45;subst h44;kernel_rfl);refine ai 5 ?_;obtain⟨v40,h46,h⟩:=bind_some h;exact fp 9 9 [] (YR hK h46) (ab (ac 1 (bc (hL2 h))))
 ·exact FK 58 (id:=320058) (g:=v32) h43 (ab (ac 6 (nP hK hL1 h)))
theorem OP(hK:ak K)(hv32:w0.w.heap.size≤v32)(hL1:lS M w0 r v1 m1 L1)(m:Nat):Lm M w0 r v1 v23 v24 v32 m1 m (wZ K n v1 v23 v24 L1 m):=by
 induction m with
 | zero=>intro v36 v37 h;cases h
 | succ m ih=>intro v36 v37 h;have h:sD K n v1 v23 v24 L1 (wZ K n v1 v23 v24 L1 m) v36 v37=some r:=h;exact aZ (Qa hK hv32 hL1 ih h)
theorem QY(hK:ak K)(hL1:lS M w0 r v1 m1 L1)(h:vR K n v1 L1 v23 v24 v25=some r):wV M w0 r (fy 12::jD M w0 r m1) (Hc v1 v23 v24 v25):=by
 unfold vR at h;refine av 6 7 3 ?_;obtain⟨h24,h⟩|⟨h24,h⟩:=am h
 ·refine ae 12 h24 (cr 18 19 1 3 7 (ai 2 ?_));obtain⟨h25,h⟩:=ax h;refine au (bu aF ap h25 (dE) (cX)) (ab (bN 4 5 3 2 (ai 3 ?_)));obtain⟨v26,h26,h⟩:=bind_some h;refine aP (CI hK h26) (ab ?_);obtain⟨h27,h⟩|⟨h27,h⟩:=am h
  ·exact ae 21 h27 (ac 4 (JR hK hL1 h))
  ·refine ae 21 h27 ?_;obtain⟨v27,h28,h⟩:=bF h;refine bm (ks':=fy 26237 :: .b 2 :: .b 1::fy 103::jD M w0 r m1) 9 ⟨[(0,.sl (lm aF v1)),(1,.ptr 1 0),(2,.ptr 2 0),(3,.ptr 3 0),(6,.cptr (ap (gD v1 v23))),(10,iI (v1.length:Int)),(11,iI v23),(27,iI ((gD v1 v23).Kind)),(28,.bool v27)],[(1,[iI (aa (v24+1))]),(2,[.fno 175 [.ptr 1 0,.ptr 2 0,.ptr 3 0]]),(3,[.ref 9])],[(9,⟨210,5,lm aw v25⟩)],[1,2,3,9,1000001,1,1000002,2,1000003,3]⟩ ?_ (by subst h28;kernel_rfl);obtain⟨h29,h⟩|⟨h29,h⟩:=am h
   ·refine ae 28 h29 (bd 2 1 (bA [0,1,2,3,6,10,11] [1,2,3] [9] (U5 5 0 [(30,.fno 175 [.ptr 1 0,.ptr 2 0,.ptr 3 0]),(31,.cptr (ap (gD v1 v23))),(32,.cptr (ap (gD v1 v23))),(33,.cptr (List.drop 58 (ap (gD v1 v23)))),(34,.sl (lm aF ((gD v1 v23).Kids)))] [] [] [] (aq (vz 5) (lR)) ?_)));obtain⟨v28,h30,h⟩:=bind_some h;exact fp 9 9 [(1,1),(2,2),(3,3)] (hK.tZ h30) (ab (ac 0 (nP hK hL1 h)))
   ·refine ae 28 h29 ?_;obtain⟨v29,h31,h⟩:=bF h;refine bm (ks':=fy 104951 :: .b 2 :: .b 1::fy 103::jD M w0 r m1) 3 ⟨[(0,.sl (lm aF v1)),(1,.ptr 1 0),(2,.ptr 2 0),(3,.ptr 3 0),(6,.cptr (ap (gD v1 v23))),(10,iI (v1.length:Int)),(11,iI v23),(27,iI ((gD v1 v23).Kind)),(36,.bool v29)],[(1,[iI (aa (v24+1))]),(2,[.fno 175 [.ptr 1 0,.ptr 2 0,.ptr 3 0]]),(3,[.ref 9])],[(9,⟨210,5,lm aw v25⟩)],[1,2,3,9,1000001,1,1000002,2,1000003,3]⟩ ?_ (by subst h31;kernel_rfl);obtain⟨h32,h⟩|⟨h32,h⟩:=am h
    ·refine ae 36 h32 (bd 2 1 (ai 5 ?_));obtain⟨h33,h⟩:=ax h;exact au (cc 43 9 210 5 aw (rfl) (cB) h33) (ab (ac 0 (nP hK hL1 h)))
    ·refine ae 36 h32 ?_;obtain⟨v30,h34,h⟩:=bF h;refine bm (ks':=fy 419807 :: .b 2 :: .b 1::fy 103::jD M w0 r m1) 3 ⟨[(0,.sl (lm aF v1)),(1,.ptr 1 0),(2,.ptr 2 0),(3,.ptr 3 0),(6,.cptr (ap (gD v1 v23))),(10,iI (v1.length:Int)),(11,iI v23),(27,iI ((gD v1 v23).Kind)),(44,.bool v30)],[(1,[iI (aa (v24+1))]),(2,[.fno 175 [.ptr 1 0,.ptr 2 0,.ptr 3 0]]),(3,[.ref 9])],[(9,⟨210,5,lm aw v25⟩)],[1,2,3,9,1000001,1,1000002,2,1000003,3]⟩ ?_ (by subst h34;kernel_rfl);obtain⟨h35,h⟩|⟨h35,h⟩:=am h
     ·refine ae 44 h35 (bd 2 1 (ai 5 ?_));obtain⟨h36,h⟩:=ax h;exact au (cc 51 9 210 5 aw (rfl) (cB) h36) (ab (ac 0 (nP hK hL1 h)))
     ·refine ae 44 h35 ?_;obtain⟨v31,h37,h⟩:=bF h;refine bm (ks':=fy 1679231 :: .b 2 :: .b 1::fy 103::jD M w0 r m1) 3 ⟨[(0,.sl (lm aF v1)),(1,.ptr 1 0),(2,.ptr 2 0),(3,.ptr 3 0),(6,.cptr (ap (gD v1 v23))),(10,iI (v1.length:Int)),(11,iI v23),(52,.bool v31)],[(1,[iI (aa (v24+1))]),(2,[.fno 175 [.ptr 1 0,.ptr 2 0,.ptr 3 0]]),(3,[.ref 9])],[(9,⟨210,5,lm aw v25⟩)],[1,2,3,9,1000001,1,1000002,2,1000003,3]⟩ ?_ (by subst h37;kernel_rfl);obtain⟨h38,h⟩|⟨h38,h⟩:=am h
      ·exact ae 52 h38 (av 4 5 2 (ai 4 (Dh 320058 (b:=((gD v1 v23).Text)) fun v32 hv32=>(ab (ac 1 (bK (p:=pn 13433850) n (OP hK (v32:=v32) hv32 hL1 n h)))))))
      ·exact ae 52 h38 (ac 2 (nP hK hL1 h))
 ·refine ae 12 h24 (bM (ks':=[]) 5 (im ?_));cases h;exact j4
theorem YT(hK:ak K)(m:Nat):lS M w0 r v1 m (tT K n v1 m):=by
 induction m with
 | zero=>intro v23 v24 v25 h;cases h
 | succ m ih=>intro v23 v24 v25 h;have h:vR K n v1 (tT K n v1 m) v23 v24 v25=some r:=h;exact aZ (QY hK ih h)
theorem IM(hK:ak K)(h:uf K n v1 v2 v3=some r):ex Tryz.prog 175 [.sl (lm aF v1),.ptr 1 0,.ptr 2 0,.ptr 3 0] [(1,[iI v2]),(2,[.fno 175 [.ptr 1 0,.ptr 2 0,.ptr 3 0]]),(3,[.ref 9])] 9 ⟨210,5,lm aw v3⟩ [9,1,2,3,1000001,1000002,1000003] (fun v s=>v=.tup []∧bW s.o [(1,[iI r.1]),(2,[.fno 175 [.ptr 1 0,.ptr 2 0,.ptr 3 0]]),(3,[.ref 9])]∧look 9 s.r=some ⟨210,5,lm aw r.2⟩):=by
 refine gA (c:=cat Tryz.f175 (pn 1)) Tryz.func175 (by kernel_rfl) _ Tryz.ntmps175 (of_decide_eq_true (by kernel_rfl)) fun M w0=>(ba ⟨[(0,.sl (lm aF v1)),(1,.ptr 1 0),(2,.ptr 2 0),(3,.ptr 3 0)],[(1,[iI v2]),(2,[.fno 175 [.ptr 1 0,.ptr 2 0,.ptr 3 0]]),(3,[.ref 9])],[(9,⟨210,5,lm aw v3⟩)],[9,1,2,3,1000001,1000002,1000003]⟩ ?_);unfold uf at h;exact av 2 3 1 (ai 1 (au (bj aF v1) (ab (ac 1 (bK (p:=pn 6) n (YT hK n h))))))
end
noncomputable section
variable[GS](M:Nat→Prop)(w0:aB)(r:List bh)(v1:List ah)  
variable{M w0 r v1}{K:Kn}{n:Nat}
theorem DH(hK:ak K)(h:oN K n v1=some r):aW Tryz.prog 154 [.sl (lm aF v1)] (fun v s=>v=.ref 400003∧look 400003 s.r=some ⟨210,5,lm aw r⟩):=by
 refine bB (cat Tryz.f154 (pn 1)) Tryz.func154 Tryz.ntmps154 fun M w0=>(ba ⟨[(0,.sl (lm aF v1))],[],[],[]⟩ ?_);unfold oN at h;refine av 62 63 9 (ai 0 (jY 175 #[(.tmp 4),(.tmp 5),(.tmp 3)] [.ptr 4 0,.ptr 5 0,.ptr 3 0] (ab (av 2 3 1 (ai 2 (yM 400003 3 0 210 5 ?_))))));obtain⟨v2,h1,h⟩:=bind_some h;refine fp 400003 9 [(4,1),(5,2),(3,3)] (IM hK h1) (ab (aJ 3 ?_));cases h;exact dk
end
noncomputable section
variable[GS](M:Nat→Prop)(w0:aB)(r:Bool)(v1:bh)(v2:Bool)  
abbrev Xf(n:Nat):ao:=.c (cat Tryz.f177 (pn n))
abbrev Xq:Cx:=⟨Tryz.prog,24,M,w0⟩
abbrev XL:=bodyPost Tryz.prog Tryz.f177 (bC M w0 (fun v _=>v=.bool r))
abbrev RB(ks:List ao)(s:AS):=VE (Xq M w0) (XL M w0 r) ks .normal s
def Wo:AS:=⟨[(2,.bool v2)],[],[],[]⟩
variable{M w0 r v1 v2}{K:Kn}{n:Nat}
theorem CJ(hK:ak K)(h:pF K n v2=some r):RB M w0 r [Xf 7] (Wo v2):=by
 unfold pF at h;refine aJ 1 ?_;cases h;exact bp
theorem qn(hK:ak K)(h:kB K n v1=some r):aW Tryz.prog 177 [.agg (aw v1)] (fun v _=>v=.bool r):=by
 refine bB (cat Tryz.f177 (pn 1)) Tryz.func177 Tryz.ntmps177 fun M w0=>(ba ⟨[(0,.agg (aw v1))],[],[],[]⟩ ?_);unfold kB at h;refine av 6 7 3 (ai 4 ?_);obtain⟨h1,h⟩|⟨h1,h⟩:=am h
 ·refine aC 6 h1 (aO 13 9 ?_);obtain⟨h2,h⟩|⟨h2,h⟩:=am h
  ·exact aC 15 h2 (ab (ac 0 (CJ hK h)))
  ·exact aC 15 h2 (ab (ac 0 (CJ hK h)))
 ·exact aC 6 h1 (ab (ac 0 (CJ hK h)))
end
noncomputable section
variable[GS](M:Nat→Prop)(w0:aB)(r v1:Int)(v2 v3 v4 v5 v6:Bool)  
abbrev eO(n:Nat):ao:=.c (cat Tryz.f188 (pn n))
abbrev YV:Cx:=⟨Tryz.prog,73,M,w0⟩
abbrev Y2:=bodyPost Tryz.prog Tryz.f188 (bC M w0 (fun v _=>v=iI r))
abbrev n4(ks:List ao)(s:AS):=VE (YV M w0) (Y2 M w0 r) ks .normal s
def ZE:AS:=⟨[(72,.bool v6)],[],[],[]⟩
def Re:AS:=⟨[(0,.int .i32 v1),(60,.bool v5)],[],[],[]⟩
def Za:AS:=⟨[(0,.int .i32 v1),(29,.int .i32 v1),(44,.bool v4)],[],[],[]⟩
def SM:AS:=⟨[(0,.int .i32 v1),(29,.int .i32 v1),(30,.bool v3)],[],[],[]⟩
def SW:AS:=⟨[(0,.int .i32 v1),(3,.bool v2)],[],[],[]⟩
variable{M w0 r v1 v2 v3 v4 v5 v6}{K:Kn}{n:Nat}
theorem J3(hK:ak K)(h:tC K n v6=some r):n4 M w0 r [eO 61,eO 31] (ZE v6):=by
 unfold tC at h;obtain⟨h44,h⟩|⟨h44,h⟩:=am h
 ·refine ae 72 h44 (aJ 5 ?_);cases h;exact bp
 ·refine ae 72 h44 (aJ 5 ?_);cases h;exact bp
theorem mV(hK:ak K)(h:jB K n v1 v5=some r):n4 M w0 r [eO 1887,.b 1,eO 15] (Re v1 v5):=by
 unfold jB at h;obtain⟨h42,h⟩|⟨h42,h⟩:=am h
 ·refine ae 60 h42 (aJ 6 ?_);cases h;exact bp
 ·refine ae 60 h42 (bM (ks':=[eO 60,eO 61,eO 31]) 5 (ai 3 ?_));obtain⟨h43,h⟩|⟨h43,h⟩:=am h
  ·exact aC 69 h43 (ab (ac 0 (J3 hK h)))
  ·exact aC 69 h43 (ab (ac 0 (J3 hK h)))
theorem fv(hK:ak K)(h:eE K n v1 v4=some r):n4 M w0 r [eO 471,.b 1,eO 15] (Za v1 v4):=by
 unfold eE at h;obtain⟨h36,h⟩|⟨h36,h⟩:=am h
 ·refine ae 44 h36 (aJ 6 ?_);cases h;exact bp
 ·refine ae 44 h36 (av 13 7 4 ?_);obtain⟨h37,h⟩|⟨h37,h⟩:=am h
  ·exact ae 60 h37 (ac 2 (mV hK h))
  ·refine ae 60 h37 (bd 7 3 ?_);obtain⟨h38,h⟩|⟨h38,h⟩:=am h
   ·exact ae 60 h38 (ac 2 (mV hK h))
   ·refine ae 60 h38 (bd 7 3 ?_);obtain⟨h39,h⟩|⟨h39,h⟩:=am h
    ·exact ae 60 h39 (ac 2 (mV hK h))
    ·refine ae 60 h39 (bd 7 3 ?_);obtain⟨h40,h⟩|⟨h40,h⟩:=am h
     ·exact ae 60 h40 (ac 2 (mV hK h))
     ·refine ae 60 h40 (bd 7 3 ?_);obtain⟨h41,h⟩|⟨h41,h⟩:=am h
      ·exact ae 60 h41 (ac 2 (mV hK h))
      ·exact ae 60 h41 (ac 2 (mV hK h))
theorem fO(hK:ak K)(h:ft K n v1 v3=some r):n4 M w0 r [eO 117,.b 1,eO 15] (SM v1 v3):=by
 unfold ft at h;obtain⟨h21,h⟩|⟨h21,h⟩:=am h
 ·refine ae 30 h21 (aJ 6 ?_);cases h;exact bp
 ·refine ae 30 h21 (av 13 7 4 ?_);obtain⟨h22,h⟩|⟨h22,h⟩:=am h
  ·exact ae 44 h22 (ac 2 (fv hK h))
  ·refine ae 44 h22 (bd 7 3 ?_);obtain⟨h23,h⟩|⟨h23,h⟩:=am h
   ·exact ae 44 h23 (ac 2 (fv hK h))
   ·refine ae 44 h23 (bd 7 3 ?_);obtain⟨h24,h⟩|⟨h24,h⟩:=am h
    ·exact ae 44 h24 (ac 2 (fv hK h))
    ·refine ae 44 h24 (bd 7 3 ?_);obtain⟨h25,h⟩|⟨h25,h⟩:=am h
     ·exact ae 44 h25 (ac 2 (fv hK h))
     ·refine ae 44 h25 (bd 7 3 ?_);obtain⟨h26,h⟩|⟨h26,h⟩:=am h
      ·exact ae 44 h26 (ac 2 (fv hK h))
      ·refine ae 44 h26 (bd 7 3 ?_);obtain⟨h27,h⟩|⟨h27,h⟩:=am h
       ·exact ae 44 h27 (ac 2 (fv hK h))
       ·refine ae 44 h27 (bd 7 3 ?_);obtain⟨h28,h⟩|⟨h28,h⟩:=am h
        ·exact ae 44 h28 (ac 2 (fv hK h))
        ·refine ae 44 h28 (bd 7 3 ?_);obtain⟨h29,h⟩|⟨h29,h⟩:=am h
         ·exact ae 44 h29 (ac 2 (fv hK h))
         ·refine ae 44 h29 (bd 7 3 ?_);obtain⟨h30,h⟩|⟨h30,h⟩:=am h
          ·exact ae 44 h30 (ac 2 (fv hK h))
          ·refine ae 44 h30 (bd 7 3 ?_);obtain⟨h31,h⟩|⟨h31,h⟩:=am h
           ·exact ae 44 h31 (ac 2 (fv hK h))
           ·refine ae 44 h31 (bd 7 3 ?_);obtain⟨h32,h⟩|⟨h32,h⟩:=am h
            ·exact ae 44 h32 (ac 2 (fv hK h))
            ·refine ae 44 h32 (bd 7 3 ?_);obtain⟨h33,h⟩|⟨h33,h⟩:=am h
             ·exact ae 44 h33 (ac 2 (fv hK h))
             ·refine ae 44 h33 (bd 7 3 ?_);obtain⟨h34,h⟩|⟨h34,h⟩:=am h
              ·exact ae 44 h34 (ac 2 (fv hK h))
              ·refine ae 44 h34 (bd 7 3 ?_);obtain⟨h35,h⟩|⟨h35,h⟩:=am h
               ·exact ae 44 h35 (ac 2 (fv hK h))
               ·exact ae 44 h35 (ac 2 (fv hK h))
theorem kQ(hK:ak K)(h:iT K n v1 v2=some r):n4 M w0 r [eO 25,.b 0,eO 7] (SW v1 v2):=by
 unfold iT at h;obtain⟨h7,h⟩|⟨h7,h⟩:=am h
 ·refine ae 3 h7 (aJ 6 ?_);cases h;exact bp
 ·refine ae 3 h7 (bd 7 3 ?_);obtain⟨h8,h⟩|⟨h8,h⟩:=am h
  ·refine ae 26 h8 (aJ 6 ?_);cases h;exact bp
  ·refine ae 26 h8 (bM (ks':=[eO 233,eO 117,.b 1,eO 15]) 10 ?_);obtain⟨h9,h⟩|⟨h9,h⟩:=am h
   ·exact ae 30 h9 (ac 2 (fO hK h))
   ·refine ae 30 h9 (bd 7 3 ?_);obtain⟨h10,h⟩|⟨h10,h⟩:=am h
    ·exact ae 30 h10 (ac 2 (fO hK h))
    ·refine ae 30 h10 (bd 7 3 ?_);obtain⟨h11,h⟩|⟨h11,h⟩:=am h
     ·exact ae 30 h11 (ac 2 (fO hK h))
     ·refine ae 30 h11 (bd 7 3 ?_);obtain⟨h12,h⟩|⟨h12,h⟩:=am h
      ·exact ae 30 h12 (ac 2 (fO hK h))
      ·refine ae 30 h12 (bd 7 3 ?_);obtain⟨h13,h⟩|⟨h13,h⟩:=am h
       ·exact ae 30 h13 (ac 2 (fO hK h))
       ·refine ae 30 h13 (bd 7 3 ?_);obtain⟨h14,h⟩|⟨h14,h⟩:=am h
        ·exact ae 30 h14 (ac 2 (fO hK h))
        ·refine ae 30 h14 (bd 7 3 ?_);obtain⟨h15,h⟩|⟨h15,h⟩:=am h
         ·exact ae 30 h15 (ac 2 (fO hK h))
         ·refine ae 30 h15 (bd 7 3 ?_);obtain⟨h16,h⟩|⟨h16,h⟩:=am h
          ·exact ae 30 h16 (ac 2 (fO hK h))
          ·refine ae 30 h16 (bd 7 3 ?_);obtain⟨h17,h⟩|⟨h17,h⟩:=am h
           ·exact ae 30 h17 (ac 2 (fO hK h))
           ·refine ae 30 h17 (bd 7 3 ?_);obtain⟨h18,h⟩|⟨h18,h⟩:=am h
            ·exact ae 30 h18 (ac 2 (fO hK h))
            ·refine ae 30 h18 (bd 7 3 ?_);obtain⟨h19,h⟩|⟨h19,h⟩:=am h
             ·exact ae 30 h19 (ac 2 (fO hK h))
             ·refine ae 30 h19 (bd 7 3 ?_);obtain⟨h20,h⟩|⟨h20,h⟩:=am h
              ·exact ae 30 h20 (ac 2 (fO hK h))
              ·exact ae 30 h20 (ac 2 (fO hK h))
theorem Mp(hK:ak K)(h:yq K n v1=some r):aW Tryz.prog 188 [.int .i32 v1] (fun v _=>v=iI r):=by
 refine bB (cat Tryz.f188 (pn 1)) Tryz.func188 Tryz.ntmps188 fun M w0=>(ba ⟨[(0,.int .i32 v1)],[],[],[]⟩ ?_);unfold yq at h;refine cU 24 25 0 7 5 (ai 3 ?_);obtain⟨h1,h⟩|⟨h1,h⟩:=am h
 ·exact aC 6 h1 (ab (ac 0 (kQ hK h)))
 ·refine aC 6 h1 (aO 7 4 ?_);obtain⟨h2,h⟩|⟨h2,h⟩:=am h
  ·exact aC 10 h2 (ab (ac 0 (kQ hK h)))
  ·refine aC 10 h2 (aO 10 3 ?_);obtain⟨h3,h⟩|⟨h3,h⟩:=am h
   ·refine aC 13 h3 (aO 15 5 ?_);obtain⟨h4,h⟩|⟨h4,h⟩:=am h
    ·exact aC 18 h4 (ab (ac 0 (kQ hK h)))
    ·refine aC 18 h4 (aO 18 3 ?_);obtain⟨h5,h⟩|⟨h5,h⟩:=am h
     ·exact aC 21 h5 (ab (ac 0 (kQ hK h)))
     ·exact aC 21 h5 (ab (ac 0 (kQ hK h)))
   ·refine aC 13 h3 (aO 18 8 ?_);obtain⟨h6,h⟩|⟨h6,h⟩:=am h
    ·exact aC 21 h6 (ab (ac 0 (kQ hK h)))
    ·exact aC 21 h6 (ab (ac 0 (kQ hK h)))
end
noncomputable section
variable[GS](M:Nat→Prop)(w0:aB)(r:Bool)(v1:Int)(v2:Bool)  
abbrev Hp(n:Nat):ao:=.c (cat Tryz.f193 (pn n))
abbrev Pe:Cx:=⟨Tryz.prog,9,M,w0⟩
abbrev TJ:=bodyPost Tryz.prog Tryz.f193 (bC M w0 (fun v _=>v=.bool r))
abbrev SZ(ks:List ao)(s:AS):=VE (Pe M w0) (TJ M w0 r) ks .normal s
def PD:AS:=⟨[(4,.bool v2)],[],[],[]⟩
variable{M w0 r v1 v2}{K:Kn}{n:Nat}
theorem ry(hK:ak K)(h:mO K n v2=some r):SZ M w0 r [Hp 53,.b 0,Hp 7] (PD v2):=by
 unfold mO at h;obtain⟨h4,h⟩|⟨h4,h⟩:=am h
 ·refine ae 4 h4 (aJ 6 ?_);cases h;exact bp
 ·refine ae 4 h4 (aJ 6 ?_);cases h;exact bp
theorem MD(hK:ak K)(h:rg K n v1=some r):aW Tryz.prog 193 [.int .i32 v1] (fun v _=>v=.bool r):=by
 refine bB (cat Tryz.f193 (pn 1)) Tryz.func193 Tryz.ntmps193 fun M w0=>(ba ⟨[(0,.int .i32 v1)],[],[],[]⟩ ?_);unfold rg at h;refine cU 105 53 0 7 9 ?_;obtain⟨h1,h⟩|⟨h1,h⟩:=am h
 ·exact ae 4 h1 (ac 2 (ry hK h))
 ·refine ae 4 h1 (bd 7 3 ?_);obtain⟨h2,h⟩|⟨h2,h⟩:=am h
  ·exact ae 4 h2 (ac 2 (ry hK h))
  ·refine ae 4 h2 (bd 7 3 ?_);obtain⟨h3,h⟩|⟨h3,h⟩:=am h
   ·exact ae 4 h3 (ac 2 (ry hK h))
   ·exact ae 4 h3 (ac 2 (ry hK h))
end
noncomputable section
variable[GS](M:Nat→Prop)(w0:aB)(r:Bool)(v1 v2:Int)(v5 v7 v8:Bool)  
abbrev kv(n:Nat):ao:=.c (cat Tryz.f186 (pn n))
abbrev QR:Cx:=⟨Tryz.prog,29,M,w0⟩
abbrev Xg:=bodyPost Tryz.prog Tryz.f186 (bC M w0 (fun v _=>v=.bool r))
abbrev zu(ks:List ao)(s:AS):=VE (QR M w0) (Xg M w0 r) ks .normal s
def SR:AS:=⟨[(4,.bool v8)],[],[],[]⟩
def Q5:AS:=⟨[(0,.int .i32 v1),(1,.int .i32 v2),(16,.bool v7)],[],[],[]⟩
def Z0:AS:=⟨[(0,.int .i32 v1),(1,.int .i32 v2),(5,.bool v5)],[],[],[]⟩
variable{M w0 r v1 v2 v5 v7 v8}{K:Kn}{n:Nat}
theorem F2(hK:ak K)(h:rT K n v8=some r):zu M w0 r [kv 15] (SR v8):=by
 unfold rT at h;refine aJ 1 ?_;cases h;exact bp
theorem Nf(hK:ak K)(h:yI K n v1 v2 v7=some r):zu M w0 r [kv 415,.b 0,kv 7] (Q5 v1 v2 v7):=by
 unfold yI at h;obtain⟨h8,h⟩|⟨h8,h⟩:=am h
 ·refine ae 16 h8 (aJ 6 ?_);cases h;exact bp
 ·refine ae 16 h8 (bM (ks':=[kv 14,kv 15]) 4 (ai 3 ?_));obtain⟨h9,h⟩|⟨h9,h⟩:=am h
  ·exact aC 25 h9 (ab (ac 0 (F2 hK h)))
  ·exact aC 25 h9 (ab (ac 0 (F2 hK h)))
theorem Gy(hK:ak K)(h:uk K n v1 v2 v5=some r):zu M w0 r [kv 25,.b 0,kv 7] (Z0 v1 v2 v5):=by
 unfold uk at h;obtain⟨h4,h⟩|⟨h4,h⟩:=am h
 ·refine ae 5 h4 (aJ 6 ?_);cases h;exact bp
 ·refine ae 5 h4 (av 6 7 2 (ai 1 ?_));obtain⟨v6,h5,h⟩:=bind_some h;refine aP (MD hK h5) (ab ?_);obtain⟨h6,h⟩|⟨h6,h⟩:=am h
  ·refine ae 13 h6 (aJ 6 ?_);cases h;exact bp
  ·refine ae 13 h6 (av 6 7 2 (ai 3 ?_));obtain⟨h7,h⟩|⟨h7,h⟩:=am h
   ·exact aC 19 h7 (ab (ac 0 (Nf hK h)))
   ·exact aC 19 h7 (ab (ac 0 (Nf hK h)))
theorem aab(hK:ak K)(h:Ep K n v1 v2=some r):aW Tryz.prog 186 [.int .i32 v1,.int .i32 v2] (fun v _=>v=.bool r):=by
 refine bB (cat Tryz.f186 (pn 1)) Tryz.func186 Tryz.ntmps186 fun M w0=>(ba ⟨[(0,.int .i32 v1),(1,.int .i32 v2)],[],[],[]⟩ ?_);unfold Ep at h;refine cU 24 25 0 7 5 (ai 1 ?_);obtain⟨v3,h1,h⟩:=bind_some h;refine aP (MD hK h1) (aO 3 1 ?_);obtain⟨h2,h⟩|⟨h2,h⟩:=am h
 ·exact aC 8 h2 (ab (ac 0 (Gy hK h)))
 ·refine aC 8 h2 (aO 4 1 ?_);obtain⟨v4,h3,h⟩:=bind_some h;exact aP (Mp hK h3) (ab (ac 0 (Gy hK h)))
end
noncomputable section
variable[GS](M:Nat→Prop)(w0:aB)(r:List Int)(v1:ByteArray)(v2:Nat)(v9:Int)(v10:Nat)(v11:List Int)(v13:Bool)(v14:List Int)(m1:Nat)(L1:Int→Nat→(List Int)→Option (List Int))
abbrev Cv:Cx:=⟨Tryz.prog,26,M,w0⟩
abbrev Bw:=bodyPost Tryz.prog Tryz.f178 (bC M w0 (fun v s=>v=.ref 23∧look 23 s.r=some ⟨3,1,lm (af .i64) r⟩))
abbrev DJ(ks:List ao)(s:AS):=VE (Cv M w0) (Bw M w0 r) ks .normal s
abbrev jL(n:Nat):ao:=.c (cat Tryz.f178 (pn n))
abbrev FL:List ao:=[.b 0,jL 31]
abbrev sM:List ao:=kl (Cv M w0) (Bw M w0 r) FL (cat Tryz.f178 (pn 244)) m1::FL
def OS:AS:=⟨[(3,.ref 23),(6,.int .i32 ((Utf8.decode v1 v10).1:Int)),(8,.sit 320008 v2 v1 (v10+(Utf8.decode v1 v10).2))],[],[(23,⟨3,1,lm (af .i64) v14⟩)],[23,320008]⟩
def Wj:AS:=⟨[(3,.ref 23),(5,iI ((v10:Nat):Int)),(6,.int .i32 ((Utf8.decode v1 v10).1:Int)),(8,.sit 320008 v2 v1 (v10+(Utf8.decode v1 v10).2)),(19,.bool v13)],[],[(23,⟨3,1,lm (af .i64) v11⟩)],[23,320008]⟩
def NR:AS:=⟨[(3,.ref 23),(4,.int .i32 v9),(8,.sit 320008 v2 v1 v10)],[],[(23,⟨3,1,lm (af .i64) v11⟩)],[23,320008]⟩
abbrev wa:Prop:=∀{v9:Int} {v10:Nat} {v11:(List Int)},L1 v9 v10 v11=some r→LP (Cv M w0) (Bw M w0 r) FL (cat Tryz.f178 (pn 244)) m1 (NR v1 v2 v9 v10 v11)
variable{M w0 r v1 v2 v9 v10 v11 v13 v14 m1 L1}{K:Kn}{n:Nat}
theorem Lh(hK:ak K)(hv2:w0.w.heap.size≤v2)(hL1:wa M w0 r v1 v2 m1 L1)(h:tD K n v1 v10 L1 v14=some r):DJ M w0 r (jL 7835 :: .b 1::sM M w0 r m1) (OS v1 v2 v10 v14):=by
 unfold tD at h;exact ac 2 (bc (hL1 h))
theorem Lx(hK:ak K)(hv2:w0.w.heap.size≤v2)(hL1:wa M w0 r v1 v2 m1 L1)(h:rj K n v1 v10 v11 L1 v13=some r):DJ M w0 r (jL 15669::jL 7835 :: .b 1::sM M w0 r m1) (Wj v1 v2 v10 v11 v13):=by
 unfold rj at h;obtain⟨h14,h⟩|⟨h14,h⟩:=am h
 ·refine ae 19 h14 (bd 2 1 (ai 3 ?_));obtain⟨h15,h⟩:=ax h;exact au (cc 23 23 3 1 (af .i64) (rfl) ((fun _=>rfl)) h15) (ab (ac 0 (Lh hK (v2:=v2) hv2 hL1 h)))
 ·exact ae 19 h14 (ac 2 (Lh hK (v2:=v2) hv2 hL1 h))
theorem Wd(hK:ak K)(hv2:w0.w.heap.size≤v2)(hL1:wa M w0 r v1 v2 m1 L1)(h:vp K n v1 L1 v9 v10 v11=some r):DJ M w0 r (jL 244::sM M w0 r m1) (NR v1 v2 v9 v10 v11):=by
 unfold vp at h;refine av 2 3 1 (ai 0 ?_);obtain⟨h11,h⟩|⟨h11,h⟩:=am h
 ·refine DX 8 (id:=320008) (g:=v2) h11 hv2 (ab (bM (ks':=jL 15668::jL 15669::jL 7835 :: .b 1::sM M w0 r m1) 8 (ai 3 ?_)));obtain⟨h12,h⟩|⟨h12,h⟩:=am h
  ·refine aC 15 h12 (aO 5 2 ?_);obtain⟨v12,h13,h⟩:=bind_some h;exact aP (aab hK h13) (ab (ac 0 (Lx hK (v2:=v2) hv2 hL1 h)))
  ·exact aC 15 h12 (ab (ac 0 (Lx hK (v2:=v2) hv2 hL1 h)))
 ·refine FK 8 (id:=320008) (g:=v2) h11 (ab (aJ 9 ?_));cases h;exact dk
theorem aaf(hK:ak K)(hv2:w0.w.heap.size≤v2)(m:Nat):wa M w0 r v1 v2 m (yn K n v1 m):=by
 induction m with
 | zero=>intro v9 v10 v11 h;cases h
 | succ m ih=>intro v9 v10 v11 h;have h:vp K n v1 (yn K n v1 m) v9 v10 v11=some r:=h;exact aZ (Wd hK hv2 ih h)
theorem Wv(hK:ak K)(h:Ap K n v1=some r):aW Tryz.prog 178 [.str v1] (fun v s=>v=.ref 23∧look 23 s.r=some ⟨3,1,lm (af .i64) r⟩):=by
 refine bB (cat Tryz.f178 (pn 1)) Tryz.func178 Tryz.ntmps178 fun M w0=>(ba ⟨[(0,.str v1)],[],[],[]⟩ ?_);unfold Ap at h;exact bN 60 61 31 8 (ai 1 (Dh 320008 (b:=v1) fun v2 hv2=>(ab (eW 2 0 1 (bA [3,4,8] [] [] (dw 23 3 3 1 (ac 0 (bK (p:=pn 122) n (aaf hK (v2:=v2) hv2 n h)))))))))
end
noncomputable section
variable[GS](M:Nat→Prop)(w0:aB)(r:Bool)(v1 v2:bh)(v3 v7 v10:Bool)  
abbrev nA(n:Nat):ao:=.c (cat Tryz.f155 (pn n))
abbrev U9:Cx:=⟨Tryz.prog,61,M,w0⟩
abbrev Zq:=bodyPost Tryz.prog Tryz.f155 (bC M w0 (fun v _=>v=.bool r))
abbrev AL(ks:List ao)(s:AS):=VE (U9 M w0) (Zq M w0 r) ks .normal s
def Q4:AS:=⟨[(4,.bool v7)],[],[],[]⟩
def S7:AS:=⟨[(2,.ptr 2 0),(3,.ptr 3 0),(51,.bool v10)],[(2,aw v1),(3,aw v2)],[],[2,3]⟩
def Qq:AS:=⟨[(2,.ptr 2 0),(3,.ptr 3 0),(12,.bool v3)],[(2,aw v1),(3,aw v2)],[],[2,3]⟩
variable{M w0 r v1 v2 v3 v7 v10}{K:Kn}{n:Nat}
theorem ov(hK:ak K)(h:lH K n v7=some r):AL M w0 r [nA 53,nA 7] (Q4 v7):=by
 unfold lH at h;refine aJ 2 ?_;cases h;exact bp
theorem nU(hK:ak K)(h:kM K n v1 v2 v10=some r):AL M w0 r [nA 29,nA 15] (S7 v1 v2 v10):=by
 unfold kM at h;obtain⟨h16,h⟩|⟨h16,h⟩:=am h
 ·refine ae 51 h16 (aJ 5 ?_);cases h;exact bp
 ·refine ae 51 h16 (dQ 2 3 3 (ai 6 ?_));obtain⟨v11,h17,h⟩:=bind_some h;refine dI 1058 (Wv hK h17) (dt 23) (au (bj (af .i64) v11) (ab (aJ 1 ?_)));cases h;exact bp
theorem H4(hK:ak K)(h:tK K n v1 v2 v3=some r):AL M w0 r [nA 13,nA 7] (Qq v1 v2 v3):=by
 unfold tK at h;obtain⟨h2,h⟩|⟨h2,h⟩:=am h
 ·refine ae 12 h2 (av 4 5 2 (ai 4 ?_));obtain⟨h3,h⟩|⟨h3,h⟩:=am h
  ·refine aC 16 h3 (aO 12 8 ?_);obtain⟨h4,h⟩|⟨h4,h⟩:=am h
   ·exact aC 24 h4 (ab (ac 0 (ov hK h)))
   ·refine aC 24 h4 (aO 13 1 ?_);obtain⟨v4,h5,h⟩:=bind_some h;exact aP (qn hK h5) (ab (ac 0 (ov hK h)))
  ·refine aC 16 h3 (aO 5 1 ?_);obtain⟨v5,h6,h⟩:=bind_some h;refine aP (qn hK h6) (aO 8 2 ?_);obtain⟨h7,h⟩|⟨h7,h⟩:=am h
   ·refine aC 20 h7 (aO 12 4 ?_);obtain⟨h8,h⟩|⟨h8,h⟩:=am h
    ·exact aC 24 h8 (ab (ac 0 (ov hK h)))
    ·refine aC 24 h8 (aO 13 1 ?_);obtain⟨v6,h9,h⟩:=bind_some h;exact aP (qn hK h9) (ab (ac 0 (ov hK h)))
   ·exact aC 20 h7 (ab (ac 0 (ov hK h)))
 ·refine ae 12 h2 (ju 4 5 3 4 (ai 4 ?_));obtain⟨h10,h⟩|⟨h10,h⟩:=am h
  ·exact aC 32 h10 (ab (ac 0 (nU hK h)))
  ·refine aC 32 h10 (aO 9 5 ?_);obtain⟨h11,h⟩|⟨h11,h⟩:=am h
   ·exact aC 37 h11 (ab (ac 0 (nU hK h)))
   ·refine aC 37 h11 (aO 10 1 ?_);obtain⟨v8,h12,h⟩:=bind_some h;refine aP (qn hK h12) (aO 14 3 ?_);obtain⟨h13,h⟩|⟨h13,h⟩:=am h
    ·exact aC 42 h13 (ab (ac 0 (nU hK h)))
    ·refine aC 42 h13 (aO 18 4 ?_);obtain⟨h14,h⟩|⟨h14,h⟩:=am h
     ·refine aC 46 h14 (aO 19 1 ?_);obtain⟨v9,h15,h⟩:=bind_some h;exact aP (qn hK h15) (ab (ac 0 (nU hK h)))
     ·exact aC 46 h14 (ab (ac 0 (nU hK h)))
theorem mH(hK:ak K)(h:jv K n v1 v2=some r):aW Tryz.prog 155 [.agg (aw v1),.agg (aw v2)] (fun v _=>v=.bool r):=by
 refine bB (cat Tryz.f155 (pn 1)) Tryz.func155 Tryz.ntmps155 fun M w0=>(ba ⟨[(0,.agg (aw v1)),(1,.agg (aw v2))],[],[],[]⟩ ?_);unfold jv at h;refine bN 12 13 7 4 (ai 4 ?_);obtain⟨h1,h⟩|⟨h1,h⟩:=am h
 ·exact aC 8 h1 (ab (ac 0 (H4 hK h)))
 ·exact aC 8 h1 (ab (ac 0 (H4 hK h)))
end
noncomputable section
variable[GS](M:Nat→Prop)(w0:aB)(r v1:Int)  
variable{M w0 r v1}{K:Kn}{n:Nat}
theorem rx(hK:ak K)(h:l6 K n v1=some r):aW Tryz.prog 174 [iI v1] (fun v _=>v=iI r):=by
 refine bB (cat Tryz.f174 (pn 1)) Tryz.func174 Tryz.ntmps174 fun M w0=>(ba ⟨[(0,iI v1)],[],[],[]⟩ ?_);unfold l6 at h;refine aJ 5 ?_;cases h;exact bp
end
noncomputable section
variable[GS](M:Nat→Prop)(w0:aB)(r v1:Int)  
variable{M w0 r v1}{K:Kn}{n:Nat}
theorem Nl(hK:ak K)(h:sV K n v1=some r):aW Tryz.prog 152 [iI v1] (fun v _=>v=iI r):=by
 refine bB (cat Tryz.f152 (pn 1)) Tryz.func152 Tryz.ntmps152 fun M w0=>(ba ⟨[(0,iI v1)],[],[],[]⟩ ?_);unfold sV at h;refine av 6 7 3 (ai 1 ?_);obtain⟨v2,h1,h⟩:=bind_some h;refine aP (rx hK h1) (ab (aJ 1 ?_));cases h;exact bp
end
noncomputable section
variable[GS](M:Nat→Prop)(w0:aB)(r v1:Int)  
variable{M w0 r v1}{K:Kn}{n:Nat}
theorem GO(hK:ak K)(h:tk K n v1=some r):aW Tryz.prog 153 [iI v1] (fun v _=>v=iI r):=by
 refine bB (cat Tryz.f153 (pn 1)) Tryz.func153 Tryz.ntmps153 fun M w0=>(ba ⟨[(0,iI v1)],[],[],[]⟩ ?_);unfold tk at h;refine av 6 7 3 (ai 1 ?_);obtain⟨v2,h1,h⟩:=bind_some h;refine aP (rx hK h1) (aO 3 1 ?_);obtain⟨v3,h2,h⟩:=bind_some h;refine aP (rx hK h2) (ab (aJ 1 ?_));cases h;exact bp
end
noncomputable section
variable[GS](M:Nat→Prop)(w0:aB)(r:Int×Int)(v1:aX)  
variable{M w0 r v1}{K:Kn}{n:Nat}
theorem FC(hK:ak K)(h:oE K n v1=some r):aW Tryz.prog 148 [.agg (aE v1)] (fun v _=>v=.tup [iI r.1,iI r.2]):=by
 refine bB (cat Tryz.f148 (pn 1)) Tryz.func148 Tryz.ntmps148 fun M w0=>(ba ⟨[(0,.agg (aE v1))],[],[],[]⟩ ?_);unfold oE at h;refine av 14 15 5 (bA [1,4] [1] [] ?_);obtain⟨v2,h1,h⟩:=bind_some h;obtain⟨v3,h2,h⟩:=bind_some h;refine bw 1 (nu 8 [.ptr 1 37,iI v1.FontSize,iI v2,iI (max v1.LineHeight 0),.ptr 1 37,iI v1.FontSize,iI v3,iI (aa ((max v1.LineHeight 0)-v3)),iI ((aa ((max v1.LineHeight 0)-v3)) / 2),iI (aa (v2+((aa ((max v1.LineHeight 0)-v3)) / 2)))]) [] [] [bS Tryz.prog 22 Tryz.f148 (pn 14) 10] (aq (vz 2) (ag (bL 0 1 10 (Nl hK h1)) (aq (vz 3) (ag (bL 0 1 14 (GO hK h2)) (aq (vz 3) (ag (bU 0) bz)))))) (aJ 3 ?_);cases h;exact fL
end
noncomputable section
variable[GS](M:Nat→Prop)(w0:aB)(r:List Int)(v1:Int)(v2:List Int)(v3 v4:Bool)  
abbrev LH(n:Nat):ao:=.c (cat Tryz.f194 (pn n))
abbrev ZW:Cx:=⟨Tryz.prog,78,M,w0⟩
abbrev aan:=bodyPost Tryz.prog Tryz.f194 (bC M w0 (fun v s=>v=.ref 9∧bW s.o []∧look 9 s.r=some ⟨5,1,lm (af .u8) r⟩))
abbrev Gr(ks:List ao)(s:AS):=VE (ZW M w0) (aan M w0 r) ks .normal s
def YA:AS:=⟨[(0,.ref 9),(1,.int .i32 v1),(50,.bool v4)],[],[(9,⟨5,1,lm (af .u8) v2⟩)],[9]⟩
def OC:AS:=⟨[(0,.ref 9),(1,.int .i32 v1),(5,.int .u32 (IntKind.wrap .u32 v1)),(25,.bool v3)],[],[(9,⟨5,1,lm (af .u8) v2⟩)],[9]⟩
variable{M w0 r v1 v2 v3 v4}{K:Kn}{n:Nat}
theorem LA(hK:ak K)(h:rU K n v1 v2 v4=some r):Gr M w0 r [LH 479,.b 0] (YA v1 v2 v4):=by
 unfold rU at h;obtain⟨h8,h⟩|⟨h8,h⟩:=am h
 ·refine ae 50 h8 (av 4 5 2 (ai 20 ?_));obtain⟨h9,h⟩:=ax h;refine au (cc 77 9 5 1 (af .u8) (rfl) ((fun _=>rfl)) h9) (ab (aJ 2 ?_));cases h;exact dD
 ·refine ae 50 h8 (av 6 7 2 (ai 2 ?_));obtain⟨h10,h⟩:=ax h;refine au (cc 10 9 5 1 (af .u8) (rfl) ((fun _=>rfl)) h10) (ab (aJ 2 ?_));cases h;exact dD
theorem CD(hK:ak K)(h:nY K n v1 v2 v3=some r):Gr M w0 r [LH 119,.b 0] (OC v1 v2 v3):=by
 unfold nY at h;obtain⟨h5,h⟩|⟨h5,h⟩:=am h
 ·refine ae 25 h5 (av 4 5 2 (ai 15 ?_));obtain⟨h6,h⟩:=ax h;refine au (cc 49 9 5 1 (af .u8) (rfl) ((fun _=>rfl)) h6) (ab (aJ 2 ?_));cases h;exact dD
 ·refine ae 25 h5 (av 6 7 2 (ai 3 ?_));obtain⟨h7,h⟩|⟨h7,h⟩:=am h
  ·exact aC 53 h7 (ab (ac 0 (LA hK h)))
  ·exact aC 53 h7 (ab (ac 0 (LA hK h)))
theorem Ro(hK:ak K)(h:Dw K n v1 v2=some r):ex Tryz.prog 194 [.ref 9,.int .i32 v1] [] 9 ⟨5,1,lm (af .u8) v2⟩ [9] (fun v s=>v=.ref 9∧bW s.o []∧look 9 s.r=some ⟨5,1,lm (af .u8) r⟩):=by
 refine gA (c:=cat Tryz.f194 (pn 1)) Tryz.func194 (by kernel_rfl) _ Tryz.ntmps194 (of_decide_eq_true (by kernel_rfl)) fun M w0=>(ba ⟨[(0,.ref 9),(1,.int .i32 v1)],[],[(9,⟨5,1,lm (af .u8) v2⟩)],[9]⟩ ?_);unfold Dw at h;refine eW 29 0 7 ?_;obtain⟨h1,h⟩|⟨h1,h⟩:=am h
 ·refine ae 11 h1 (av 4 5 2 (ai 10 ?_));obtain⟨h2,h⟩:=ax h;refine au (cc 24 9 5 1 (af .u8) (rfl) ((fun _=>rfl)) h2) (ab (aJ 2 ?_));cases h;exact dD
 ·refine ae 11 h1 (av 13 7 4 ?_);obtain⟨h3,h⟩|⟨h3,h⟩:=am h
  ·exact ae 25 h3 (ac 2 (CD hK h))
  ·refine ae 25 h3 (bd 3 1 (ai 3 ?_));obtain⟨h4,h⟩|⟨h4,h⟩:=am h
   ·exact aC 30 h4 (ab (ac 0 (CD hK h)))
   ·exact aC 30 h4 (ab (ac 0 (CD hK h)))
end
noncomputable section
variable[GS](M:Nat→Prop)(w0:aB)(r:List Int)(v1:Int)(v2:List Int)  
variable{M w0 r v1 v2}{K:Kn}{n:Nat}
theorem K0(hK:ak K)(h:ra K n v1 v2=some r):ex Tryz.prog 187 [.ref 9,.int .i32 v1] [] 9 ⟨5,1,lm (af .u8) v2⟩ [9] (fun v s=>v=.ref 9∧bW s.o []∧look 9 s.r=some ⟨5,1,lm (af .u8) r⟩):=by
 refine gA (c:=cat Tryz.f187 (pn 1)) Tryz.func187 (by kernel_rfl) _ Tryz.ntmps187 (of_decide_eq_true (by kernel_rfl)) fun M w0=>(ba ⟨[(0,.ref 9),(1,.int .i32 v1)],[],[(9,⟨5,1,lm (af .u8) v2⟩)],[9]⟩ ?_);unfold ra at h;refine av 13 7 5 ?_;obtain⟨h1,h⟩|⟨h1,h⟩:=am h
 ·refine ae 7 h1 (av 4 5 2 (ai 4 ?_));obtain⟨h2,h⟩:=ax h;refine au (cc 12 9 5 1 (af .u8) (rfl) ((fun _=>rfl)) h2) (ab (aJ 2 ?_));cases h;exact dD
 ·refine ae 7 h1 (dQ 2 3 3 (ai 2 ?_));obtain⟨v3,h3,h⟩:=bind_some h;refine fp 9 9 [] (Ro hK h3) (ab (aJ 1 ?_));cases h;exact dD
end
noncomputable section
variable[GS](M:Nat→Prop)(w0:aB)(r:Int×Unit×(List Int))(v1:Int)(v2:Bool)(v3:List Int)  
variable{M w0 r v1 v2 v3}{K:Kn}{n:Nat}
theorem Lj(hK:ak K)(h:yc K n v1 v2 v3=some r):ex Tryz.prog 179 [.ptr 450119 0,.int .i32 v1] [(450119,[(pY v2 450119),.ref 9])] 9 ⟨5,1,lm (af .u8) v3⟩ [9,450119,1450119] (fun v s=>v=.tup [iI r.1,.vv .nilIface]∧bW s.o [(450119,[.ptr 450119 0,.ref 9])]∧look 9 s.r=some ⟨5,1,lm (af .u8) r.2.2⟩):=by
 refine gA (c:=cat Tryz.f179 (pn 1)) Tryz.func179 (by kernel_rfl) _ Tryz.ntmps179 (of_decide_eq_true (by kernel_rfl)) fun M w0=>(ba ⟨[(0,.ptr 450119 0),(1,.int .i32 v1)],[(450119,[(pY v2 450119),.ref 9])],[(9,⟨5,1,lm (af .u8) v3⟩)],[9,450119,1450119]⟩ ?_);unfold yc at h;refine av 6 7 3 (ai 1 ?_);rcases am h with⟨h1,gh1⟩|⟨h1,gh1⟩
 ·subst h1;have h:=gh1;refine Kc 450119 (b:=true) (c1:=.ref 9) (ab (av 2 3 1 (ai 4 (au (bj (af .u8) v3) (ab (av 2 3 1 (ai 6 ?_)))))));obtain⟨v4,h2,h⟩:=bind_some h;refine fp 9 9 [] (K0 hK h2) (ab (av 2 3 1 (ai 4 (au (bj (af .u8) v4) (ab (aJ 1 ?_))))));cases h;exact j4
 ·subst h1;have h:=gh1;refine Kc 450119 (b:=false) (c1:=.ref 9) (ab (av 2 3 1 (ai 4 (au (bj (af .u8) v3) (ab (av 2 3 1 (ai 6 ?_)))))));obtain⟨v5,h3,h⟩:=bind_some h;refine fp 9 9 [] (K0 hK h3) (ab (av 2 3 1 (ai 4 (au (bj (af .u8) v5) (ab (aJ 1 ?_))))));cases h;exact j4
end
noncomputable section
variable[GS](M:Nat→Prop)(w0:aB)(r:Int)(v1 v2:Int)  
variable{M w0 r v1 v2}{K:Kn}{n:Nat}
theorem zD(hK:ak K)(h:oH K n v1 v2=some r):aW Tryz.prog 180 [.int .i32 v1,iI v2] (fun v _=>v=iI r):=by
 refine bB (cat Tryz.f180 (pn 1)) Tryz.func180 Tryz.ntmps180 fun M w0=>(ba ⟨[(0,.int .i32 v1),(1,iI v2)],[],[],[]⟩ ?_);unfold oH at h;refine av 6 7 3 (ai 1 ?_);obtain⟨v3,h1,h⟩:=bind_some h;refine aP (Mp hK h1) (aO 3 1 ?_);obtain⟨v4,h2,h⟩:=bind_some h;refine aP (rx hK h2) (ab (aJ 1 ?_));cases h;exact bp
end
noncomputable section
variable[GS](M:Nat→Prop)(w0:aB)(r:Int)(v1:ByteArray)(v2:Int)(v3:Nat)(v5:Int)(v6 m1:Nat)(L1:Int→Nat→Option Int)
abbrev Fm:Cx:=⟨Tryz.prog,19,M,w0⟩
abbrev Cc:=bodyPost Tryz.prog Tryz.f181 (bC M w0 (fun v _=>v=iI r))
abbrev Ui(ks:List ao)(s:AS):=VE (Fm M w0) (Cc M w0 r) ks .normal s
abbrev J5(n:Nat):ao:=.c (cat Tryz.f181 (pn n))
abbrev Cy:List ao:=[.b 0,J5 15]
abbrev Xc:List ao:=kl (Fm M w0) (Cc M w0 r) Cy (cat Tryz.f181 (pn 116)) m1::Cy
def Nc:AS:=⟨[(1,iI v2),(5,iI v5),(9,.sit 320009 v3 v1 v6)],[],[],[320009]⟩
abbrev G8:Prop:=∀{v5:Int} {v6:Nat},L1 v5 v6=some r→LP (Fm M w0) (Cc M w0 r) Cy (cat Tryz.f181 (pn 116)) m1 (Nc v1 v2 v3 v5 v6)
variable{M w0 r v1 v2 v3 v5 v6 m1 L1}{K:Kn}{n:Nat}
theorem Yx(hK:ak K)(hv3:w0.w.heap.size≤v3)(hL1:G8 M w0 r v1 v2 v3 m1 L1)(h:xq K n v1 v2 L1 v5 v6=some r):Ui M w0 r (J5 116::Xc M w0 r m1) (Nc v1 v2 v3 v5 v6):=by
 unfold xq at h;refine av 2 3 1 (ai 0 ?_);obtain⟨h3,h⟩|⟨h3,h⟩:=am h
 ·refine DX 9 (id:=320009) (g:=v3) h3 hv3 (ab (eW 13 1 6 (ai 3 ?_)));obtain⟨v7,h4,h⟩:=bind_some h;exact aP (zD hK h4) (ab (ac 1 (bc (hL1 h))))
 ·refine FK 9 (id:=320009) (g:=v3) h3 (ab (aJ 9 ?_));cases h;exact bp
theorem ZV(hK:ak K)(hv3:w0.w.heap.size≤v3)(m:Nat):G8 M w0 r v1 v2 v3 m (rz K n v1 v2 m):=by
 induction m with
 | zero=>intro v5 v6 h;cases h
 | succ m ih=>intro v5 v6 h;have h:xq K n v1 v2 (rz K n v1 v2 m) v5 v6=some r:=h;exact aZ (Yx hK hv3 ih h)
theorem IV(hK:ak K)(h:sA K n v1 v2=some r):aW Tryz.prog 181 [.str v1,iI v2] (fun v _=>v=iI r):=by
 refine bB (cat Tryz.f181 (pn 1)) Tryz.func181 Tryz.ntmps181 fun M w0=>(ba ⟨[(0,.str v1),(1,iI v2)],[],[],[]⟩ ?_);unfold sA at h;exact bN 28 29 15 6 (ai 1 (Dh 320009 (b:=v1) fun v3 hv3=>(ab (ac 1 (bK (p:=pn 58) n (ZV hK (v3:=v3) hv3 n h))))))
end
noncomputable section
variable[GS](M:Nat→Prop)(w0:aB)(r:aD)(v1:List bh)(v4:Int)(v5:Bool)(v6:List Int)(v9:Bool)(v10:aX)(v14:ByteArray)(v15:Int)(v18:aX)(v22:ByteArray)(v23:Int)(m1:Nat)(L1:Int→Bool→(List Int)→Option aD)
abbrev D5:Cx:=⟨Tryz.prog,59,M,w0⟩
abbrev E4:=bodyPost Tryz.prog Tryz.f156 (bC M w0 (fun v _=>v=.agg (aS r)))
abbrev ud(ks:List ao)(s:AS):=VE (D5 M w0) (E4 M w0 r) ks .normal s
abbrev eG(n:Nat):ao:=.c (cat Tryz.f156 (pn n))
abbrev Bk:List ao:=[.b 0,eG 15]
abbrev U4:List ao:=kl (D5 M w0) (E4 M w0 r) Bk (cat Tryz.f156 (pn 116)) m1::Bk
def XZ:AS:=⟨[(2,.ptr 2 0),(6,.ptr 6 0),(7,.ptr 7 0),(8,.str v14)],[(2,List.set (aS cQ) 61 (.nils)),(6,aE v10),(7,List.set (aS ({ cQ with Text:=(bytesOf v6),Space:=v15 }:aD)) 61 (.nils))],[],[2,6,7]⟩
def Zv:AS:=⟨[(2,.ptr 2 0),(6,.ptr 6 0),(7,.ptr 7 0),(8,.str v22)],[(2,List.set (aS cQ) 61 (.nils)),(6,aE v18),(7,List.set (aS ({ cQ with Text:=(bytesOf v6),Space:=v23 }:aD)) 61 (.nils))],[],[2,6,7]⟩
def YK:AS:=⟨[(0,.sl (lm aw v1)),(2,.ptr 2 0),(3,.ptr 451119 0)],[(2,List.set (aS cQ) 61 (.nils)),(451119,[(pY v9 451119),.ref 401119])],[(401119,⟨5,1,lm (af .u8) v6⟩)],[2,451119,401119]⟩
def LY:AS:=⟨[(0,.sl (lm aw v1)),(2,.ptr 2 0),(3,.ptr 451119 0),(9,.sl (lm aw v1)),(10,iI (v1.length:Int)),(11,iI v4)],[(2,List.set (aS cQ) 61 (.nils)),(451119,[(pY v5 451119),.ref 401119])],[(401119,⟨5,1,lm (af .u8) v6⟩)],[2,451119,401119]⟩
abbrev IE:Prop:=∀{v4:Int} {v5:Bool} {v6:(List Int)},L1 v4 v5 v6=some r→LP (D5 M w0) (E4 M w0 r) Bk (cat Tryz.f156 (pn 116)) m1 (LY v1 v4 v5 v6)
variable{M w0 r v1 v4 v5 v6 v9 v10 v14 v15 v18 v22 v23 m1 L1}{K:Kn}{n:Nat}
theorem KR(hK:ak K)(h:ua K n v6 v10 v14 v15=some r):ud M w0 r [eG 255] (XZ v6 v10 v14 v15):=by
 unfold ua at h;refine av 2 3 1 (ai 3 ?_);obtain⟨v16,h24,h⟩:=bind_some h;refine aP (IV hK h24) (ab (av 2 3 1 (ai 1 ?_)));obtain⟨v17,h25,h⟩:=bind_some h;refine aP (FC hK h25) (ab (aJ 3 (jb 2 ?_)));cases h;exact bp
theorem He(hK:ak K)(h:xa K n v6 v18 v22 v23=some r):ud M w0 r [eG 255] (Zv v6 v18 v22 v23):=by
 unfold xa at h;refine av 2 3 1 (ai 3 ?_);obtain⟨v24,h35,h⟩:=bind_some h;refine aP (IV hK h35) (ab (av 2 3 1 (ai 1 ?_)));obtain⟨v25,h36,h⟩:=bind_some h;refine aP (FC hK h36) (ab (aJ 3 (jb 2 ?_)));cases h;exact bp
theorem IL(hK:ak K)(h:rF K n v1 v6 v9=some r):ud M w0 r [eG 15] (YK v1 v6 v9):=by
 unfold rF at h;rcases am h with⟨h14,gh14⟩|⟨h14,gh14⟩
 ·subst h14;have h:=gh14;refine av 2 3 1 (ai 1 ?_);obtain⟨h15,h⟩:=ax h;refine au (bu aw aw h15 (cB) ((fun _=>rfl))) (ab ?_);obtain⟨v10,h16,h⟩:=bF h;refine bm (ks':=[eG 62,eG 63]) 1 ⟨[(0,.sl (lm aw v1)),(2,.ptr 2 0),(3,.ptr 451119 0),(6,.ptr 6 0)],[(2,List.set (aS cQ) 61 (.nils)),(6,aE v10),(451119,[.ptr 451119 0,.ref 401119])],[(401119,⟨5,1,lm (af .u8) v6⟩)],[2,6,451119,401119]⟩ ?_ (by subst h16;kernel_rfl);refine ai 0 ?_;obtain⟨h17,h⟩:=ax h;refine Ih 451119 401119 (L:=v6) h17 (ab (bN 12 13 7 4 (ai 2 (au (bj aw v1) (aO 4 1 ?_)))));obtain⟨h18,h⟩:=ax h;refine au (bu aw aw h18 (cB) ((fun _=>rfl))) (ab ?_);obtain⟨v11,h19,h⟩:=bF h;refine bm (ks':=[eG 509,eG 255]) 0 ⟨[(2,.ptr 2 0),(6,.ptr 6 0),(7,.ptr 7 0),(8,.str (bytesOf v6)),(36,.bool v11)],[(2,List.set (aS cQ) 61 (.nils)),(6,aE v10),(7,List.set (aS ({ cQ with Text:=(bytesOf v6) }:aD)) 61 (.nils))],[],[2,6,7]⟩ ?_ (by subst h19;kernel_rfl)
  obtain⟨h20,h⟩|⟨h20,h⟩:=am h
  ·refine ae 36 h20 (av 4 5 2 (ai 4 ?_));obtain⟨h21,h⟩:=ax h;refine au (su h21) (ab ?_);obtain⟨v12,h22,h⟩:=bF h;refine bm (ks':=[eG 2037,eG 255]) 0 ⟨[(2,.ptr 2 0),(6,.ptr 6 0),(7,.ptr 7 0),(8,.str v12)],[(2,List.set (aS cQ) 61 (.nils)),(6,aE v10),(7,List.set (aS ({ cQ with Text:=(bytesOf v6) }:aD)) 61 (.nils))],[],[2,6,7]⟩ ?_ (by subst h22;kernel_rfl);refine ai 2 ?_;obtain⟨v13,h23,h⟩:=bind_some h;exact aP (zD hK h23) (ab (ac 0 (KR hK h)))
  ·exact ae 36 h20 (ac 2 (KR hK h))
 ·subst h14;have h:=gh14;refine av 2 3 1 (ai 1 ?_);obtain⟨h26,h⟩:=ax h;refine au (bu aw aw h26 (cB) ((fun _=>rfl))) (ab ?_);obtain⟨v18,h27,h⟩:=bF h;refine bm (ks':=[eG 62,eG 63]) 1 ⟨[(0,.sl (lm aw v1)),(2,.ptr 2 0),(3,.ptr 451119 0),(6,.ptr 6 0)],[(2,List.set (aS cQ) 61 (.nils)),(6,aE v18),(451119,[.nilp,.ref 401119])],[(401119,⟨5,1,lm (af .u8) v6⟩)],[2,6,451119,401119]⟩ ?_ (by subst h27;kernel_rfl);refine ai 0 ?_;obtain⟨h28,h⟩:=ax h;refine Ih 451119 401119 (L:=v6) h28 (ab (bN 12 13 7 4 (ai 2 (au (bj aw v1) (aO 4 1 ?_)))));obtain⟨h29,h⟩:=ax h;refine au (bu aw aw h29 (cB) ((fun _=>rfl))) (ab ?_);obtain⟨v19,h30,h⟩:=bF h;refine bm (ks':=[eG 509,eG 255]) 0 ⟨[(2,.ptr 2 0),(6,.ptr 6 0),(7,.ptr 7 0),(8,.str (bytesOf v6)),(36,.bool v19)],[(2,List.set (aS cQ) 61 (.nils)),(6,aE v18),(7,List.set (aS ({ cQ with Text:=(bytesOf v6) }:aD)) 61 (.nils))],[],[2,6,7]⟩ ?_ (by subst h30;kernel_rfl);obtain⟨h31,h⟩|⟨h31,h⟩:=am h
  ·refine ae 36 h31 (av 4 5 2 (ai 4 ?_));obtain⟨h32,h⟩:=ax h;refine au (su h32) (ab ?_);obtain⟨v20,h33,h⟩:=bF h;refine bm (ks':=[eG 2037,eG 255]) 0 ⟨[(2,.ptr 2 0),(6,.ptr 6 0),(7,.ptr 7 0),(8,.str v20)],[(2,List.set (aS cQ) 61 (.nils)),(6,aE v18),(7,List.set (aS ({ cQ with Text:=(bytesOf v6) }:aD)) 61 (.nils))],[],[2,6,7]⟩ ?_ (by subst h33;kernel_rfl);refine ai 2 ?_;obtain⟨v21,h34,h⟩:=bind_some h;exact aP (zD hK h34) (ab (ac 0 (He hK h)))
  ·exact ae 36 h31 (ac 2 (He hK h))
theorem T6(hK:ak K)(hL1:IE M w0 r v1 m1 L1)(h:uQ K n v1 L1 v4 v5 v6=some r):ud M w0 r (eG 116::U4 M w0 r m1) (LY v1 v4 v5 v6):=by
 unfold uQ at h;rcases am h with⟨h7,gh7⟩|⟨h7,gh7⟩
 ·subst h7;have h:=gh7;refine av 6 7 3 ?_;obtain⟨h8,h⟩|⟨h8,h⟩:=am h
  ·refine ae 12 h8 (cr 8 9 1 3 5 (ai 0 ?_));obtain⟨h9,h⟩:=ax h;refine au (bu aw aw h9 (cB) ((fun _=>rfl))) (ab (ai 2 ?_));obtain⟨v7,h10,h⟩:=bind_some h;exact fp 401119 9 [(451119,450119)] (Lj hK h10) (ab (ac 2 (bc (hL1 h))))
  ·exact ae 12 h8 (ac 5 (IL hK h))
 ·subst h7;have h:=gh7;refine av 6 7 3 ?_;obtain⟨h11,h⟩|⟨h11,h⟩:=am h
  ·refine ae 12 h11 (cr 8 9 1 3 5 (ai 0 ?_));obtain⟨h12,h⟩:=ax h;refine au (bu aw aw h12 (cB) ((fun _=>rfl))) (ab (ai 2 ?_));obtain⟨v8,h13,h⟩:=bind_some h;exact fp 401119 9 [(451119,450119)] (Lj hK h13) (ab (ac 2 (bc (hL1 h))))
  ·exact ae 12 h11 (ac 5 (IL hK h))
theorem UN(hK:ak K)(m:Nat):IE M w0 r v1 m (tM K n v1 m):=by
 induction m with
 | zero=>intro v4 v5 v6 h;cases h
 | succ m ih=>intro v4 v5 v6 h;have h:uQ K n v1 (tM K n v1 m) v4 v5 v6=some r:=h;exact aZ (T6 hK ih h)
theorem E0(hK:ak K)(h:pQ K n v1=some r):aW Tryz.prog 156 [.sl (lm aw v1)] (fun v _=>v=.agg (aS r)):=by
 refine bB (cat Tryz.f156 (pn 1)) Tryz.func156 Tryz.ntmps156 fun M w0=>(ba ⟨[(0,.sl (lm aw v1))],[],[],[]⟩ ?_);unfold pQ at h;exact av 6 7 3 (ai 0 (QD 451119 (T:=119) (d:=3) (cs:=[.nilp,.nils]) (ab (bN 4 5 3 2 (ai 1 (au (bj aw v1) (ab (eW 2 0 1 (bA [0,2,3,9,10,11] [2,451119] [] (yN 401119 451119 1 5 1 (ac 0 (bK (p:=pn 58) n (UN hK n h)))))))))))))
end
noncomputable section
variable[GS](M:Nat→Prop)(w0:aB)(r:List aD)(v1:List ah)(v2:Fv)(v3:List bh)(v30:Int)(v31:List aD)(v33:Bool)(v39:Int)(v41:Bool)(v43:Int)(v44:aD)(m1 m2:Nat)(L1:Int→(List aD)→Option (List aD))(L2:Int→Option (List aD))
abbrev nQ:Cx:=⟨Tryz.prog,120,M,w0⟩
abbrev qo:=bodyPost Tryz.prog Tryz.f112 (bC M w0 (fun v s=>v=.ref 117∧look 117 s.r=some ⟨165,62,lm aS r⟩))
abbrev nW(ks:List ao)(s:AS):=VE (nQ M w0) (qo M w0 r) ks .normal s
abbrev dW(n:Nat):ao:=.c (cat Tryz.f112 (pn n))
abbrev CO:List ao:=[.b 0,dW 31]
abbrev gX:List ao:=kl (nQ M w0) (qo M w0 r) CO (cat Tryz.f112 (pn 244)) m1::CO
abbrev C7:List ao:=.b 3::dW 4009823 :: .b 2::dW 31327 :: .b 1::gX M w0 r m1
abbrev J1:List ao:=kl (nQ M w0) (qo M w0 r) (C7 M w0 r m1) (cat Tryz.f112 (pn 16039288)) m2::(C7 M w0 r m1)
def PI:AS:=⟨[(1,.fn v2.id v2.aK),(5,.sl (lm aw v3)),(6,.ref 117),(8,.ptr 8 0),(9,.bool v33),(10,.ptr 10 0),(11,iI v43)],[(8,aw (gD v3 v30)),(10,aS v44)],[(117,⟨165,62,lm aS v31⟩)],[8,10,117]⟩
def VH:AS:=⟨[(1,.fn v2.id v2.aK),(5,.sl (lm aw v3)),(6,.ref 117),(7,iI v30),(8,.ptr 8 0),(9,.bool v33),(10,.ptr 10 0),(11,iI v39),(81,.bool v41)],[(8,aw (gD v3 v30)),(10,List.set (aS cQ) 61 (.nils))],[(117,⟨165,62,lm aS v31⟩)],[8,10,117]⟩
def MK:AS:=⟨[(1,.fn v2.id v2.aK),(5,.sl (lm aw v3)),(6,.ref 117),(7,iI v30),(8,.ptr 8 0),(9,.bool v33),(10,.ptr 10 0),(11,iI v39)],[(8,aw (gD v3 v30)),(10,List.set (aS cQ) 61 (.nils))],[(117,⟨165,62,lm aS v31⟩)],[8,10,117]⟩
def Vn:AS:=⟨[(1,.fn v2.id v2.aK),(5,.sl (lm aw v3)),(6,.ref 117),(7,iI v30),(8,.ptr 8 0),(9,.bool v33)],[(8,aw (gD v3 v30))],[(117,⟨165,62,lm aS v31⟩)],[8,117]⟩
def LG:AS:=⟨[(1,.fn v2.id v2.aK),(5,.sl (lm aw v3)),(6,.ref 117),(7,iI v30)],[],[(117,⟨165,62,lm aS v31⟩)],[117]⟩
abbrev kH:Prop:=∀{v30:Int} {v31:(List aD)},L1 v30 v31=some r→LP (nQ M w0) (qo M w0 r) CO (cat Tryz.f112 (pn 244)) m1 (LG v2 v3 v30 v31)
abbrev Dr:Prop:=∀{v39:Int},L2 v39=some r→LP (nQ M w0) (qo M w0 r) (C7 M w0 r m1) (cat Tryz.f112 (pn 16039288)) m2 (MK v2 v3 v30 v31 v33 v39)
variable{M w0 r v1 v2 v3 v30 v31 v33 v39 v41 v43 v44 m1 m2 L1 L2}{K:Kn}{n:Nat}
theorem zg(hK:ak K)(hL1:kH M w0 r v2 v3 m1 L1)(h:qm K n v2 v3 v30 v31 v33 L1 v43 v44=some r):nW M w0 r (.b 2::dW 31327 :: .b 1::gX M w0 r m1) (PI v2 v3 v30 v31 v33 v43 v44):=by
 unfold qm at h;refine dQ 2 3 2 (bA [1,5,6,8,9,10,11] [8,10] [117] (bw 3 (nu 100 [.ptr 8 4,.cptr (ap ((gD v3 v30).Box)),.cptr (ap ((gD v3 v30).Box)),.cptr (List.drop 1 (ap ((gD v3 v30).Box))),iI (((gD v3 v30).Box).Node),.ptr 8 4,.cptr (ap ((gD v3 v30).Box)),.cptr (ap ((gD v3 v30).Box)),.cptr (List.drop 2 (ap ((gD v3 v30).Box))),.agg (aE (((gD v3 v30).Box).Style)),.bool v33,.ptr 10 0,.ptr 10 2,.ptr 10 59]) [] [] [bS Tryz.prog 120 Tryz.f112 (pn 62654) 12,bS Tryz.prog 120 Tryz.f112 (pn 62654) 14,bS Tryz.prog 120 Tryz.f112 (pn 62654) 16] (aq [.v 0 1,.v 0 1,.v 0 1,.v 0 1,.v 0 1,.v 0 2,.v 0 2,.v 0 2,.v 0 2,.v 0 2,.v 0 3,.v 0 1] (ag (bU 0) (aq [.v 1 1] (ag (bU 1) (aq [.v 2 1] (ag (bU 2) bz)))))) ?_));obtain⟨v45,h94,h⟩:=bF h;obtain⟨v46,h95,h⟩:=bF h;refine bm (ks':=dW 125310::dW 125311 :: .b 1::gX M w0 r m1) 1 ⟨[(1,.fn v2.id v2.aK),(5,.sl (lm aw v3)),(6,.ref 117),(10,.ptr 10 0),(11,iI v43)],[(10,aS ({ v44 with Node:=v45,Style:=v46,Glued:=v33 }:aD))],[(117,⟨165,62,lm aS v31⟩)],[10,117]⟩ ?_ (by subst h95;subst h94;kernel_rfl)
 refine ai 3 ?_;obtain⟨h96,h⟩:=ax h;exact au (cc 117 117 165 62 aS (rfl) (fj) h96) (ab (ac 2 (bc (hL1 h))))
theorem sI(hK:ak K)(hL1:kH M w0 r v2 v3 m1 L1)(hL2:Dr M w0 r v2 v3 v30 v31 v33 m1 m2 L2)(h:lV K n v2 v3 v30 v31 v33 v39 L1 L2 v41=some r):nW M w0 r (dW 64157153::dW 32078577::J1 M w0 r m1 m2) (VH v2 v3 v30 v31 v33 v39 v41):=by
 unfold lV at h;obtain⟨h91,h⟩|⟨h91,h⟩:=am h
 ·exact ae 81 h91 (ac 5 (bc (hL2 h)))
 ·refine ae 81 h91 (bM (ks':=dW 4009823 :: .b 2::dW 31327 :: .b 1::gX M w0 r m1) 5 (ai 3 ?_));obtain⟨h92,h⟩:=ax h;refine au (fF aw v3 v30 v39 206 (.tmp 84) (some (.tmp 85)) (some (.tmp 86)) 87 (e:=210) (sz:=5) (by kernel_rfl) (by kernel_rfl) (by kernel_rfl) (by kernel_rfl) (by kernel_rfl) (by kernel_rfl) (cB) (fun k hk=>by subst hk;kernel_rfl) h92) ?_;obtain⟨v42,h93,h⟩:=bind_some h;exact aP (E0 hK h93) (ab (ac 0 (zg hK hL1 h)))
theorem Zo(hK:ak K)(hL1:kH M w0 r v2 v3 m1 L1)(hL2:Dr M w0 r v2 v3 v30 v31 v33 m1 m2 L2)(h:rM K n v2 v3 v30 v31 v33 L1 L2 v39=some r):nW M w0 r (dW 16039288::J1 M w0 r m1 m2) (MK v2 v3 v30 v31 v33 v39):=by
 unfold rM at h;refine bN 4 5 3 2 (bA [1,5,6,7,8,9,10,11] [8,10] [117] ?_);obtain⟨h83,h⟩|⟨h83,h⟩:=am h
 ·obtain⟨h84,h⟩:=ax h;obtain⟨h85,h⟩|⟨h85,h⟩:=am h
  ·obtain⟨h86,h⟩:=ax h;obtain⟨h87,h⟩|⟨h87,h⟩:=am h
   ·obtain⟨h88,h⟩:=ax h;obtain⟨h89,h⟩:=ax h;obtain⟨v40,h90,h⟩:=bind_some h;exact bw 0 (nu 47 [iI v39,.sl (lm aw v3),iI (v3.length:Int),.bool (decide (v39<(v3.length:Int))),.bool true,.sl (lm aw v3),iI v39,.cptr (aw (gD v3 v39)),.cptr (List.drop 0 (aw (gD v3 v39))),iI ((gD v3 v39).Kind),.bool (((gD v3 v39).Kind) == 1),.bool (((gD v3 v39).Kind) == 1),.bool true,.sl (lm aw v3),iI v39,.cptr (aw (gD v3 v39)),.cptr (List.drop 1 (aw (gD v3 v39))),iI ((gD v3 v39).Of),.ptr 8 1,iI ((gD v3 v30).Of),.bool (((gD v3 v39).Of) == ((gD v3 v30).Of)),.bool (((gD v3 v39).Of) == ((gD v3 v30).Of)),.bool true,.sl (lm aw v3),iI v39,iI (aa (v39-1)),.cptr (aw (gD v3 ((aa (v39-1))))),.agg (aw (gD v3 ((aa (v39-1))))),.sl (lm aw v3),iI v39,.cptr (aw (gD v3 v39)),.agg (aw (gD v3 v39)),.bool v40,.bool (!v40),.bool (!v40)]) [] [] [] (aq (vz 2) (aR (bj aw v3) (aq [.v 0 1] (ag (cm 0 51 (e:=(decide (v39<(v3.length:Int)))) (b:=true) h83) (aq (vz 2) (aR (bu aw aw h84 (cB) ((fun _=>rfl))) (aq (vz 4) (ag (cm 0 59 (e:=(((gD v3 v39).Kind) == 1)) (b:=true) h85) (aq (vz 2) (aR (bu aw aw h86 (cB) ((fun _=>rfl))) (aq (vz 6) (ag (cm 0 69 (e:=(((gD v3 v39).Of) == ((gD v3 v30).Of))) (b:=true) h87) (aq (vz 3) (aR (bu aw aw h88 (cB) ((fun _=>rfl))) (aq (vz 3) (aR (bu aw aw h89 (cB) ((fun _=>rfl))) (aq [.v 0 1] (ag (bL 0 1 79 (mH hK h90)) (aq (vz 2) bz))))))))))))))))))) (ac 0 (sI hK hL1 hL2 h))
   ·exact bw 0 (nu 47 [iI v39,.sl (lm aw v3),iI (v3.length:Int),.bool (decide (v39<(v3.length:Int))),.bool true,.sl (lm aw v3),iI v39,.cptr (aw (gD v3 v39)),.cptr (List.drop 0 (aw (gD v3 v39))),iI ((gD v3 v39).Kind),.bool (((gD v3 v39).Kind) == 1),.bool (((gD v3 v39).Kind) == 1),.bool true,.sl (lm aw v3),iI v39,.cptr (aw (gD v3 v39)),.cptr (List.drop 1 (aw (gD v3 v39))),iI ((gD v3 v39).Of),.ptr 8 1,iI ((gD v3 v30).Of),.bool (((gD v3 v39).Of) == ((gD v3 v30).Of)),.bool (((gD v3 v39).Of) == ((gD v3 v30).Of)),.bool false,.tup [],.tup [],.tup [],.tup [],.tup [],.tup [],.tup [],.tup [],.tup [],.tup [],.tup [],.bool false]) [] [] [] (aq (vz 2) (aR (bj aw v3) (aq [.v 0 1] (ag (cm 0 51 (e:=(decide (v39<(v3.length:Int)))) (b:=true) h83) (aq (vz 2) (aR (bu aw aw h84 (cB) ((fun _=>rfl))) (aq (vz 4) (ag (cm 0 59 (e:=(((gD v3 v39).Kind) == 1)) (b:=true) h85) (aq (vz 2) (aR (bu aw aw h86 (cB) ((fun _=>rfl))) (aq (vz 6) (ag (cm 0 69 (e:=(((gD v3 v39).Of) == ((gD v3 v30).Of))) (b:=false) h87) (ag (ay 0 1) (ag (ay 0 1) (ag (ay 0 1) (ag (ay 0 1) (ag (ay 0 1) (ag (ay 0 1) (ag (ay 0 1) (ag (ay 0 1) (ag (ay 0 1) (ag (ay 0 1) (ag (ay 0 1) (aq [.v 0 1] bz)))))))))))))))))))))))) (ac 0 (sI hK hL1 hL2 h))
  ·exact bw 0 (nu 47 [iI v39,.sl (lm aw v3),iI (v3.length:Int),.bool (decide (v39<(v3.length:Int))),.bool true,.sl (lm aw v3),iI v39,.cptr (aw (gD v3 v39)),.cptr (List.drop 0 (aw (gD v3 v39))),iI ((gD v3 v39).Kind),.bool (((gD v3 v39).Kind) == 1),.bool (((gD v3 v39).Kind) == 1),.bool false,.tup [],.tup [],.tup [],.tup [],.tup [],.tup [],.tup [],.tup [],.bool false,.bool false,.tup [],.tup [],.tup [],.tup [],.tup [],.tup [],.tup [],.tup [],.tup [],.tup [],.tup [],.bool false]) [] [] [] (aq (vz 2) (aR (bj aw v3) (aq [.v 0 1] (ag (cm 0 51 (e:=(decide (v39<(v3.length:Int)))) (b:=true) h83) (aq (vz 2) (aR (bu aw aw h84 (cB) ((fun _=>rfl))) (aq (vz 4) (ag (cm 0 59 (e:=(((gD v3 v39).Kind) == 1)) (b:=false) h85) (ag (ay 0 1) (ag (ay 0 1) (ag (ay 0 1) (ag (ay 0 1) (ag (ay 0 1) (ag (ay 0 1) (ag (ay 0 1) (ag (ay 0 1) (aq (vz 2) (ag (ay 0 1) (ag (ay 0 1) (ag (ay 0 1) (ag (ay 0 1) (ag (ay 0 1) (ag (ay 0 1) (ag (ay 0 1) (ag (ay 0 1) (ag (ay 0 1) (ag (ay 0 1) (ag (ay 0 1) (aq [.v 0 1] bz))))))))))))))))))))))))))))) (ac 0 (sI hK hL1 hL2 h))
 ·exact bw 0 (nu 47 [iI v39,.sl (lm aw v3),iI (v3.length:Int),.bool (decide (v39<(v3.length:Int))),.bool false,.tup [],.tup [],.tup [],.tup [],.tup [],.tup [],.bool false,.bool false,.tup [],.tup [],.tup [],.tup [],.tup [],.tup [],.tup [],.tup [],.bool false,.bool false,.tup [],.tup [],.tup [],.tup [],.tup [],.tup [],.tup [],.tup [],.tup [],.tup [],.tup [],.bool false]) [] [] [] (aq (vz 2) (aR (bj aw v3) (aq [.v 0 1] (ag (cm 0 51 (e:=(decide (v39<(v3.length:Int)))) (b:=false) h83) (ag (ay 0 1) (ag (ay 0 1) (ag (ay 0 1) (ag (ay 0 1) (ag (ay 0 1) (ag (ay 0 1) (aq (vz 2) (ag (ay 0 1) (ag (ay 0 1) (ag (ay 0 1) (ag (ay 0 1) (ag (ay 0 1) (ag (ay 0 1) (ag (ay 0 1) (ag (ay 0 1) (aq (vz 2) (ag (ay 0 1) (ag (ay 0 1) (ag (ay 0 1) (ag (ay 0 1) (ag (ay 0 1) (ag (ay 0 1) (ag (ay 0 1) (ag (ay 0 1) (ag (ay 0 1) (ag (ay 0 1) (ag (ay 0 1) (aq [.v 0 1] bz)))))))))))))))))))))))))))))))) (ac 0 (sI hK hL1 hL2 h))
theorem WD(hK:ak K)(hL1:kH M w0 r v2 v3 m1 L1)(m:Nat):Dr M w0 r v2 v3 v30 v31 v33 m1 m (tr K n v2 v3 v30 v31 v33 L1 m):=by
 induction m with
 | zero=>intro v39 h;cases h
 | succ m ih=>intro v39 h;have h:rM K n v2 v3 v30 v31 v33 L1 (tr K n v2 v3 v30 v31 v33 L1 m) v39=some r:=h;exact aZ (Zo hK hL1 ih h)
theorem zi(hK:ak K)(hL1:kH M w0 r v2 v3 m1 L1)(h:oy K n v2 v3 v30 v31 L1 v33=some r):nW M w0 r (dW 3915 :: .b 1::gX M w0 r m1) (Vn v2 v3 v30 v31 v33):=by
 unfold oy at h;obtain⟨v34,h69,h⟩:=bF h;refine bm (ks':=dW 250613 :: .b 2::dW 31327 :: .b 1::gX M w0 r m1) 10 ⟨[(1,.fn v2.id v2.aK),(5,.sl (lm aw v3)),(6,.ref 117),(7,iI v30),(8,.ptr 8 0),(9,.bool v33),(10,.ptr 10 0),(11,iI (aa (v30+1))),(46,iI ((gD v3 v30).Kind)),(89,.bool v34)],[(8,aw (gD v3 v30)),(10,List.set (aS cQ) 61 (.nils))],[(117,⟨165,62,lm aS v31⟩)],[8,10,117]⟩ ?_ (by subst h69;kernel_rfl);obtain⟨h70,h⟩|⟨h70,h⟩:=am h
 ·exact ae 89 h70 (bM (ks':=.b 2::dW 31327 :: .b 1::gX M w0 r m1) 2 (jb 10 (ac 0 (zg hK hL1 h))))
 ·refine ae 89 h70 ?_;obtain⟨v35,h71,h⟩:=bF h;refine bm (ks':=dW 1002455 :: .b 2::dW 31327 :: .b 1::gX M w0 r m1) 3 ⟨[(1,.fn v2.id v2.aK),(5,.sl (lm aw v3)),(6,.ref 117),(7,iI v30),(8,.ptr 8 0),(9,.bool v33),(10,.ptr 10 0),(11,iI (aa (v30+1))),(92,.bool v35)],[(8,aw (gD v3 v30)),(10,List.set (aS cQ) 61 (.nils))],[(117,⟨165,62,lm aS v31⟩)],[8,10,117]⟩ ?_ (by subst h71;kernel_rfl);obtain⟨h72,h⟩|⟨h72,h⟩:=am h
  ·refine ae 92 h72 (bd 2 1 (ai 5 ?_));obtain⟨v36,h73,h⟩:=bind_some h;exact hF (hK.vE h73) (ab (ac 0 (zg hK hL1 h)))
  ·exact ae 92 h72 (ac 3 (bK (p:=pn 8019644) n (WD hK hL1 n h)))
theorem Rg(hK:ak K)(hL1:kH M w0 r v2 v3 m1 L1)(h:rd K n v2 v3 L1 v30 v31=some r):nW M w0 r (dW 244::gX M w0 r m1) (LG v2 v3 v30 v31):=by
 unfold rd at h;refine bN 4 5 3 2 (ai 2 (au (bj aw v3) (ab ?_)));obtain⟨h62,h⟩|⟨h62,h⟩:=am h
 ·refine ae 17 h62 (bM (ks':=dW 1956::dW 1957 :: .b 1::gX M w0 r m1) 4 (ai 2 ?_));obtain⟨h63,h⟩:=ax h;refine au (bu aw aw h63 (cB) ((fun _=>rfl))) (ab (av 2 3 1 (bA [1,5,6,7,8] [8] [117] ?_)));obtain⟨h64,h⟩|⟨h64,h⟩:=am h
  ·obtain⟨h65,h⟩:=ax h;obtain⟨h66,h⟩|⟨h66,h⟩:=am h
   ·obtain⟨h67,h⟩:=ax h;obtain⟨v32,h68,h⟩:=bind_some h;exact bw 1 (nu 22 [iI v30,.bool (decide (v30>0)),.bool true,.sl (lm aw v3),iI v30,iI (aa (v30-1)),.cptr (aw (gD v3 ((aa (v30-1))))),.cptr (List.drop 0 (aw (gD v3 ((aa (v30-1)))))),iI ((gD v3 ((aa (v30-1)))).Kind),.bool (((gD v3 ((aa (v30-1)))).Kind) != 2),.bool (((gD v3 ((aa (v30-1)))).Kind) != 2),.bool true,.sl (lm aw v3),iI v30,iI (aa (v30-1)),.cptr (aw (gD v3 ((aa (v30-1))))),.agg (aw (gD v3 ((aa (v30-1))))),.agg (aw (gD v3 v30)),.bool v32,.bool (!v32),.bool (!v32)]) [] [] [bS Tryz.prog 120 Tryz.f112 (pn 3914) 21] (aq (vz 2) (ag (cm 0 24 (e:=(decide (v30>0))) (b:=true) h64) (aq (vz 3) (aR (bu aw aw h65 (cB) ((fun _=>rfl))) (aq (vz 4) (ag (cm 0 33 (e:=(((gD v3 ((aa (v30-1)))).Kind) != 2)) (b:=true) h66) (aq (vz 3) (aR (bu aw aw h67 (cB) ((fun _=>rfl))) (aq (vz 2) (ag (bL 0 1 40 (mH hK h68)) (aq (vz 2) (ag (bU 0) bz)))))))))))) (ac 0 (zi hK hL1 h))
   ·exact bw 1 (nu 22 [iI v30,.bool (decide (v30>0)),.bool true,.sl (lm aw v3),iI v30,iI (aa (v30-1)),.cptr (aw (gD v3 ((aa (v30-1))))),.cptr (List.drop 0 (aw (gD v3 ((aa (v30-1)))))),iI ((gD v3 ((aa (v30-1)))).Kind),.bool (((gD v3 ((aa (v30-1)))).Kind) != 2),.bool (((gD v3 ((aa (v30-1)))).Kind) != 2),.bool false,.tup [],.tup [],.tup [],.tup [],.tup [],.tup [],.tup [],.tup [],.bool false]) [] [] [bS Tryz.prog 120 Tryz.f112 (pn 3914) 21] (aq (vz 2) (ag (cm 0 24 (e:=(decide (v30>0))) (b:=true) h64) (aq (vz 3) (aR (bu aw aw h65 (cB) ((fun _=>rfl))) (aq (vz 4) (ag (cm 0 33 (e:=(((gD v3 ((aa (v30-1)))).Kind) != 2)) (b:=false) h66) (ag (ay 0 1) (ag (ay 0 1) (ag (ay 0 1) (ag (ay 0 1) (ag (ay 0 1) (ag (ay 0 1) (ag (ay 0 1) (ag (ay 0 1) (aq [.v 0 1] (ag (bU 0) bz)))))))))))))))) (ac 0 (zi hK hL1 h))
  ·exact bw 1 (nu 22 [iI v30,.bool (decide (v30>0)),.bool false,.tup [],.tup [],.tup [],.tup [],.tup [],.tup [],.tup [],.bool false,.bool false,.tup [],.tup [],.tup [],.tup [],.tup [],.tup [],.tup [],.tup [],.bool false]) [] [] [bS Tryz.prog 120 Tryz.f112 (pn 3914) 21] (aq (vz 2) (ag (cm 0 24 (e:=(decide (v30>0))) (b:=false) h64) (ag (ay 0 1) (ag (ay 0 1) (ag (ay 0 1) (ag (ay 0 1) (ag (ay 0 1) (ag (ay 0 1) (ag (ay 0 1) (aq (vz 2) (ag (ay 0 1) (ag (ay 0 1) (ag (ay 0 1) (ag (ay 0 1) (ag (ay 0 1) (ag (ay 0 1) (ag (ay 0 1) (ag (ay 0 1) (aq [.v 0 1] (ag (bU 0) bz)))))))))))))))))))) (ac 0 (zi hK hL1 h))
 ·refine ae 17 h62 (aJ 8 ?_);cases h;exact dk
theorem SV(hK:ak K)(m:Nat):kH M w0 r v2 v3 m (w4 K n v2 v3 m):=by
 induction m with
 | zero=>intro v30 v31 h;cases h
 | succ m ih=>intro v30 v31 h;have h:rd K n v2 v3 (w4 K n v2 v3 m) v30 v31=some r:=h;exact aZ (Rg hK ih h)
theorem Xr(hK:ak K)(h:A5 K n v1 v2=some r):aW Tryz.prog 112 [.sl (lm aF v1),.fn v2.id v2.aK] (fun v s=>v=.ref 117∧look 117 s.r=some ⟨165,62,lm aS r⟩):=by
 refine bB (cat Tryz.f112 (pn 1)) Tryz.func112 Tryz.ntmps112 fun M w0=>(ba ⟨[(0,.sl (lm aF v1)),(1,.fn v2.id v2.aK)],[],[],[]⟩ ?_);unfold A5 at h;refine av 6 7 3 (ai 1 ?_);obtain⟨v3,h1,h⟩:=bind_some h;exact dI 1013 (DH hK h1) (dt 400003) (ab (eU 26 0 7 6 (bA [1,5,6,7] [] [1013] (eX 1013 (dw 117 6 165 62 (ac 0 (bK (p:=pn 122) n (SV hK n h))))))))
end
noncomputable section
variable[GS](M:Nat→Prop)(w0:aB)(r:aj×Int×Int×(List aA))(v1:ah)(v2:cj)(v3:bH)(v4 v5:Int)(v6:List aA)  
abbrev Hw(n:Nat):ao:=.c (cat Tryz.f74 (pn n))
variable{M w0 r v1 v2 v3 v4 v5 v6}{K:Kn}{n:Nat}[SG w0]
theorem ZG(hK:ak K)(h:z1 K n v1 v2 v3 v4 v5 v6=some r):dA Tryz.prog 74 [.agg (ap v1),.agg (cb v2),.agg (bG v3)] [(440001,List.set (bt (⟨[],v4,v5⟩:bq)) 0 (.ref 440009))] ⟨64,127,lm aY v6⟩ (fun v s=>v=.agg (aI r.1)∧bW s.o [(440001,List.set (bt (⟨[],r.2.1,r.2.2.1⟩:bq)) 0 (.ref 440009))]∧look 440009 s.r=some ⟨64,127,lm aY r.2.2.2⟩):=by
 refine fZ (c:=cat Tryz.f74 []) Tryz.func74 (by kernel_rfl) _ Tryz.ntmps74 (of_decide_eq_true (by kernel_rfl)) fun M w0=>(ba ⟨[(0,.agg (ap v1)),(1,.agg (cb v2)),(2,.agg (bG v3))],[(440001,List.set (bt (⟨[],v4,v5⟩:bq)) 0 (.ref 440009))],[(440009,⟨64,127,lm aY v6⟩)],[440009,440001,1440001]⟩ ?_);unfold z1 at h;refine bM (ks':=[Hw 6,Hw 7]) 3 (ai 3 ?_);obtain⟨v7,h1,h⟩:=bind_some h;refine kh (K8 hK h1) (ab (aJ 1 ?_));cases h;exact dD
end
noncomputable section
variable[GS](M:Nat→Prop)(w0:aB)(r:Int)(v1:ah)(v2:Int)(v3:bH)(v9:Int)  
abbrev QF(n:Nat):ao:=.c (cat Tryz.f99 (pn n))
abbrev S5:Cx:=⟨Tryz.prog,46,M,w0⟩
abbrev Uc:=bodyPost Tryz.prog Tryz.f99 (bC M w0 (fun v _=>v=iI r))
abbrev VY(ks:List ao)(s:AS):=VE (S5 M w0) (Uc M w0 r) ks .normal s
def VA:AS:=⟨[(1,iI v2),(3,.ptr 3 0),(7,iI v9)],[(3,ap v1)],[],[3]⟩
variable{M w0 r v1 v2 v3 v9}{K:Kn}{n:Nat}
theorem HN(hK:ak K)(h:rZ K n v1 v2 v9=some r):VY M w0 r [QF 15] (VA v1 v2 v9):=by
 unfold rZ at h;refine av 2 3 1 (ai 4 ?_);obtain⟨v10,h7,h⟩:=bind_some h;refine aP (oW hK h7) (ab (aJ 1 ?_));cases h;exact bp
theorem V8(hK:ak K)(h:AB K n v1 v2 v3=some r):aW Tryz.prog 99 [.agg (ap v1),iI v2,.agg (bG v3)] (fun v _=>v=iI r):=by
 refine bB (cat Tryz.f99 (pn 1)) Tryz.func99 Tryz.ntmps99 fun M w0=>(ba ⟨[(0,.agg (ap v1)),(1,iI v2),(2,.agg (bG v3))],[],[],[]⟩ ?_);unfold AB at h;refine av 6 7 3 (ai 4 ?_);obtain⟨v4,h1,h⟩:=bind_some h;refine aP (di hK h1) (ab (av 5 3 3 ?_));obtain⟨h2,h⟩|⟨h2,h⟩:=am h
 ·refine ae 21 h2 (av 4 5 2 (ai 2 ?_));obtain⟨v5,h3,h⟩:=bind_some h;refine aP (Mo hK h3) (ab (av 2 3 1 (bA [1,3,9,10] [3] [] ?_)));obtain⟨v6,h4,h⟩:=bind_some h;obtain⟨v7,h5,h⟩:=bind_some h;obtain⟨v8,h6,h⟩:=bind_some h;exact bw 1 (nu 28 [iI v2,iI v6,.ptr 3 2,.agg (aE v1.Style),iI v2,.agg (cb v7),iI v8,iI (aa (v6-v8))]) [] [] [bS Tryz.prog 46 Tryz.f99 (pn 234) 8] (aq [.v 0 1] (ag (bL 0 1 29 (gg hK h4)) (aq (vz 3) (ag (bL 0 1 33 (iJ hK h5)) (ag (bL 0 1 34 (jN hK h6)) (aq [.v 0 1] (ag (bU 0) bz))))))) (ac 1 (HN hK h))
 ·exact ae 21 h2 (ac 2 (HN hK h))
end
noncomputable section
variable[GS](M:Nat→Prop)(w0:aB)(r:aD)(v1:ah)(v2:Int)(v3:bH)  
variable{M w0 r v1 v2 v3}{K:Kn}{n:Nat}
theorem Ph(hK:ak K)(h:Ct K n v1 v2 v3=some r):aW Tryz.prog 147 [.agg (ap v1),.cptr ([iI v2]),.cptr (bG v3)] (fun v _=>v=.agg (aS r)):=by
 refine bB (cat Tryz.f147 (pn 1)) Tryz.func147 Tryz.ntmps147 fun M w0=>(ba ⟨[(0,.agg (ap v1)),(1,.cptr ([iI v2])),(2,.cptr (bG v3))],[],[],[]⟩ ?_);unfold Ct at h;refine av 6 7 3 (bA [1,2,3,4] [3,4] [] ?_);obtain⟨v4,h1,h⟩:=bind_some h;obtain⟨v5,h2,h⟩:=bind_some h;refine bw 1 (nu 7 [.ptr 3 2,.agg (aE v1.Style),iI v2,.agg (ap v1),iI v2,.agg (bG v3),iI v4,.agg (cb v5)]++nu 5 [.ptr 5 0]) [(5,cb ge)] [] [bS Tryz.prog 36 Tryz.f147 (pn 6) 9] (aq (vz 6) (ag (bL 0 1 13 (V8 hK h1)) (ag (bL 0 1 14 (iJ hK h2)) (ag (i7 0 1 68 5 (cb ge)) (ag (bU 0) bz))))) ?_;cases h
end
noncomputable section
variable[GS](M:Nat→Prop)(w0:aB)(r:List aD)(v1:List ah)(v2:Int)(v3:bH)  
variable{M w0 r v1 v2 v3}{K:Kn}{n:Nat}
theorem QP(hK:ak K)(h:zG K n v1 v2 v3=some r):aW Tryz.prog 109 [.sl (lm aF v1),iI v2,.agg (bG v3)] (fun v s=>v=.ref 1009∧look 1009 s.r=some ⟨165,62,lm aS r⟩):=by
 refine bB (cat Tryz.f109 (pn 1)) Tryz.func109 Tryz.ntmps109 fun M w0=>(ba ⟨[(0,.sl (lm aF v1)),(1,iI v2),(2,.agg (bG v3))],[],[],[]⟩ ?_);unfold zG at h;refine av 6 7 3 (ai 1 (jU 4 4 ([iI v2]) (jU 5 5 (bG v3) (mS 147 #[(.tmp 4),(.tmp 5)] [.cptr ([iI v2]),.cptr (bG v3)] ?_))));obtain⟨v4,h1,h⟩:=bind_some h;refine dI 1009 (Xr hK h1) (dt 117) (ab (aJ 1 ?_));cases h;exact dk
end
noncomputable section
variable[GS](M:Nat→Prop)(w0:aB)(r:Int)(v1:List aD)(v2 v4:Int)(v5:Bool)(m1:Nat)(L1:Int→Option Int)
abbrev Ai:Cx:=⟨Tryz.prog,22,M,w0⟩
abbrev zO:=bodyPost Tryz.prog Tryz.f115 (bC M w0 (fun v _=>v=iI r))
abbrev Lo(ks:List ao)(s:AS):=VE (Ai M w0) (zO M w0 r) ks .normal s
abbrev wt(n:Nat):ao:=.c (cat Tryz.f115 (pn n))
abbrev z4:List ao:=[.b 0,wt 15]
abbrev Jm:List ao:=kl (Ai M w0) (zO M w0 r) z4 (cat Tryz.f115 (pn 56)) m1::z4
def Wf:AS:=⟨[(0,.sl (lm aS v1)),(5,iI v4),(18,.bool v5)],[],[],[]⟩
def Hl:AS:=⟨[(0,.sl (lm aS v1)),(5,iI v4)],[],[],[]⟩
abbrev DG:Prop:=∀{v4:Int},L1 v4=some r→LP (Ai M w0) (zO M w0 r) z4 (cat Tryz.f115 (pn 56)) m1 (Hl v1 v4)
variable{M w0 r v1 v2 v4 v5 m1 L1}{K:Kn}{n:Nat}
theorem F4(hK:ak K)(hL1:DG M w0 r v1 m1 L1)(h:rD K n v1 v4 L1 v5=some r):Lo M w0 r (wt 225::wt 113::Jm M w0 r m1) (Wf v1 v4 v5):=by
 unfold rD at h;obtain⟨h6,h⟩|⟨h6,h⟩:=am h
 ·exact ae 18 h6 (ac 5 (bc (hL1 h)))
 ·refine ae 18 h6 (aJ 8 ?_);cases h;exact bp
theorem Ws(hK:ak K)(hL1:DG M w0 r v1 m1 L1)(h:uT K n v1 L1 v4=some r):Lo M w0 r (wt 56::Jm M w0 r m1) (Hl v1 v4):=by
 unfold uT at h;refine bN 4 5 3 2 (ai 2 (au (bj aS v1) (aO 5 2 ?_)));obtain⟨h4,h⟩|⟨h4,h⟩:=am h
 ·refine aC 12 h4 (aO 7 2 ?_);obtain⟨h5,h⟩:=ax h;exact au (bu aS aS h5 (fj) ((fun _=>rfl))) (ab (ac 0 (F4 hK hL1 h)))
 ·exact aC 12 h4 (ab (ac 0 (F4 hK hL1 h)))
theorem Zc(hK:ak K)(m:Nat):DG M w0 r v1 m (wI K n v1 m):=by
 induction m with
 | zero=>intro v4 h;cases h
 | succ m ih=>intro v4 h;have h:uT K n v1 (wI K n v1 m) v4=some r:=h;exact aZ (Ws hK ih h)
theorem Bm(hK:ak K)(h:oS K n v1 v2=some r):aW Tryz.prog 115 [.sl (lm aS v1),iI v2] (fun v _=>v=iI r):=by
 refine bB (cat Tryz.f115 (pn 1)) Tryz.func115 Tryz.ntmps115 fun M w0=>(ba ⟨[(0,.sl (lm aS v1)),(1,iI v2)],[],[],[]⟩ ?_);unfold oS at h;exact ac 6 (bK (p:=pn 28) n (Zc hK n h))
end
noncomputable section
variable[GS](M:Nat→Prop)(w0:aB)(r:Int)(v1:List aD)(v3:Int)(m1:Nat)(L1:Int→Option Int)
abbrev EP:Cx:=⟨Tryz.prog,18,M,w0⟩
abbrev Ey:=bodyPost Tryz.prog Tryz.f150 (bC M w0 (fun v _=>v=iI r))
abbrev Rp(ks:List ao)(s:AS):=VE (EP M w0) (Ey M w0 r) ks .normal s
abbrev Oo(n:Nat):ao:=.c (cat Tryz.f150 (pn n))
abbrev DV:List ao:=[.b 0,Oo 7]
abbrev ZU:List ao:=kl (EP M w0) (Ey M w0 r) DV (cat Tryz.f150 (pn 52)) m1::DV
def Oh:AS:=⟨[(0,.sl (lm aS v1)),(3,iI v3)],[],[],[]⟩
abbrev Ng:Prop:=∀{v3:Int},L1 v3=some r→LP (EP M w0) (Ey M w0 r) DV (cat Tryz.f150 (pn 52)) m1 (Oh v1 v3)
variable{M w0 r v1 v3 m1 L1}{K:Kn}{n:Nat}
theorem WY(hK:ak K)(hL1:Ng M w0 r v1 m1 L1)(h:yD K n v1 L1 v3=some r):Rp M w0 r (Oo 52::ZU M w0 r m1) (Oh v1 v3):=by
 unfold yD at h;refine av 5 3 3 ?_;obtain⟨h5,h⟩|⟨h5,h⟩:=am h
 ·refine ae 8 h5 (cr 8 9 1 3 5 (ai 2 ?_));obtain⟨h6,h⟩:=ax h;refine au (bu aS aS h6 (fj) ((fun _=>rfl))) (ab ?_);obtain⟨h7,h⟩|⟨h7,h⟩:=am h
  ·refine ae 16 h7 (aJ 9 ?_);cases h;exact bp
  ·exact ae 16 h7 (ac 4 (bc (hL1 h)))
 ·refine ae 8 h5 (aJ 8 ?_);cases h;exact bp
theorem Ru(hK:ak K)(m:Nat):Ng M w0 r v1 m (uJ K n v1 m):=by
 induction m with
 | zero=>intro v3 h;cases h
 | succ m ih=>intro v3 h;have h:yD K n v1 (uJ K n v1 m) v3=some r:=h;exact aZ (WY hK ih h)
theorem GT(hK:ak K)(h:vC K n v1=some r):aW Tryz.prog 150 [.sl (lm aS v1)] (fun v _=>v=iI r):=by
 refine bB (cat Tryz.f150 (pn 1)) Tryz.func150 Tryz.ntmps150 fun M w0=>(ba ⟨[(0,.sl (lm aS v1))],[],[],[]⟩ ?_);unfold vC at h;exact bN 12 13 7 4 (ai 1 (au (bj aS v1) (ab (ac 1 (bK (p:=pn 26) n (Ru hK n h))))))
end
noncomputable section
variable[GS](M:Nat→Prop)(w0:aB)(r:Int)(v1:List aD)(v2 v3 v5:Int)(m1:Nat)(L1:Int→Int→Option Int)
abbrev El:Cx:=⟨Tryz.prog,33,M,w0⟩
abbrev E2:=bodyPost Tryz.prog Tryz.f116 (bC M w0 (fun v _=>v=iI r))
abbrev NG(ks:List ao)(s:AS):=VE (El M w0) (E2 M w0 r) ks .normal s
abbrev D7(n:Nat):ao:=.c (cat Tryz.f116 (pn n))
abbrev Fe:List ao:=[.b 0,D7 15]
abbrev UD:List ao:=kl (El M w0) (E2 M w0 r) Fe (cat Tryz.f116 (pn 116)) m1::Fe
def Qt:AS:=⟨[(3,iI v5)],[],[],[]⟩
def H0:AS:=⟨[(0,.sl (lm aS v1)),(3,iI v2),(7,.sl (lm aS v1)),(8,iI (v1.length:Int)),(9,iI v3)],[],[],[]⟩
abbrev HY:Prop:=∀{v2:Int} {v3:Int},L1 v2 v3=some r→LP (El M w0) (E2 M w0 r) Fe (cat Tryz.f116 (pn 116)) m1 (H0 v1 v2 v3)
variable{M w0 r v1 v2 v3 v5 m1 L1}{K:Kn}{n:Nat}
theorem Lq(hK:ak K)(h:sG K n v5=some r):NG M w0 r [D7 31] (Qt v5):=by
 unfold sG at h;refine aJ 3 ?_;cases h;exact bp
theorem Yf(hK:ak K)(hL1:HY M w0 r v1 m1 L1)(h:xB K n v1 L1 v2 v3=some r):NG M w0 r (D7 116::UD M w0 r m1) (H0 v1 v2 v3):=by
 unfold xB at h;refine av 6 7 3 ?_;obtain⟨h3,h⟩|⟨h3,h⟩:=am h
 ·refine ae 10 h3 (cr 8 9 1 3 5 (ai 0 ?_));obtain⟨h4,h⟩:=ax h;exact au (bu aS aS h4 (fj) ((fun _=>rfl))) (ab (ac 3 (bc (hL1 h))))
 ·refine ae 10 h3 (mj 4 5 3 7 (ai 1 ?_));obtain⟨v4,h5,h⟩:=bind_some h;refine aP (GT hK h5) (ab (bd 3 2 ?_));obtain⟨h6,h⟩|⟨h6,h⟩:=am h
  ·refine ae 24 h6 (bd 2 1 (ai 3 ?_));obtain⟨h7,h⟩:=ax h;exact au (bu aS aS h7 (fj) ((fun _=>rfl))) (ab (ac 0 (Lq hK h)))
  ·exact ae 24 h6 (ac 2 (Lq hK h))
theorem Po(hK:ak K)(m:Nat):HY M w0 r v1 m (sg K n v1 m):=by
 induction m with
 | zero=>intro v2 v3 h;cases h
 | succ m ih=>intro v2 v3 h;have h:xB K n v1 (sg K n v1 m) v2 v3=some r:=h;exact aZ (Yf hK ih h)
theorem xR(hK:ak K)(h:nD K n v1=some r):aW Tryz.prog 116 [.sl (lm aS v1)] (fun v _=>v=iI r):=by
 refine bB (cat Tryz.f116 (pn 1)) Tryz.func116 Tryz.ntmps116 fun M w0=>(ba ⟨[(0,.sl (lm aS v1))],[],[],[]⟩ ?_);unfold nD at h;exact bN 28 29 15 6 (ai 1 (au (bj aS v1) (ab (ac 1 (bK (p:=pn 58) n (Po hK n h))))))
end
noncomputable section
variable[GS](M:Nat→Prop)(w0:aB)(r:List Int)(v1:List aD)(v2 v19:Int)(v20:List Int)(v25:Int)(v26:Bool)(m1 m2:Nat)(L1:Int→(List Int)→Option (List Int))(L2:Int→Option (List Int))
abbrev oe:Cx:=⟨Tryz.prog,46,M,w0⟩
abbrev oX:=bodyPost Tryz.prog Tryz.f110 (bC M w0 (fun v s=>v=.ref 16∧look 16 s.r=some ⟨3,1,lm (af .i64) r⟩))
abbrev xU(ks:List ao)(s:AS):=VE (oe M w0) (oX M w0 r) ks .normal s
abbrev gm(n:Nat):ao:=.c (cat Tryz.f110 (pn n))
abbrev zr:List ao:=[.b 0,gm 15]
abbrev wj:List ao:=kl (oe M w0) (oX M w0 r) zr (cat Tryz.f110 (pn 116)) m1::zr
abbrev z3:List ao:=.b 2::gm 3735 :: .b 1::wj M w0 r m1
abbrev Fp:List ao:=kl (oe M w0) (oX M w0 r) (z3 M w0 r m1) (cat Tryz.f110 (pn 14936)) m2::(z3 M w0 r m1)
def O3:AS:=⟨[(0,.sl (lm aS v1)),(1,iI v2),(5,.ref 16),(7,iI v25)],[],[(16,⟨3,1,lm (af .i64) (v20++[v19])⟩)],[16]⟩
def Uq:AS:=⟨[(0,.sl (lm aS v1)),(1,iI v2),(5,.ref 16),(6,iI v19),(7,iI v25),(32,.bool v26)],[],[(16,⟨3,1,lm (af .i64) (v20++[v19])⟩)],[16]⟩
def MI:AS:=⟨[(0,.sl (lm aS v1)),(1,iI v2),(5,.ref 16),(6,iI v19),(7,iI v25)],[],[(16,⟨3,1,lm (af .i64) (v20++[v19])⟩)],[16]⟩
def Oz:AS:=⟨[(0,.sl (lm aS v1)),(1,iI v2),(5,.ref 16),(6,iI v19)],[],[(16,⟨3,1,lm (af .i64) v20⟩)],[16]⟩
abbrev ni:Prop:=∀{v19:Int} {v20:(List Int)},L1 v19 v20=some r→LP (oe M w0) (oX M w0 r) zr (cat Tryz.f110 (pn 116)) m1 (Oz v1 v2 v19 v20)
abbrev AK:Prop:=∀{v25:Int},L2 v25=some r→LP (oe M w0) (oX M w0 r) (z3 M w0 r m1) (cat Tryz.f110 (pn 14936)) m2 (MI v1 v2 v19 v20 v25)
variable{M w0 r v1 v2 v19 v20 v25 v26 m1 m2 L1 L2}{K:Kn}{n:Nat}
theorem Ol(hK:ak K)(hL1:ni M w0 r v1 v2 m1 L1)(h:yp K n v1 v2 v19 v20 v25 L1=some r):xU M w0 r (gm 3735 :: .b 1::wj M w0 r m1) (O3 v1 v2 v19 v20 v25):=by
 unfold yp at h;exact ac 2 (bc (hL1 h))
theorem NA(hK:ak K)(hL1:ni M w0 r v1 v2 m1 L1)(hL2:AK M w0 r v1 v2 v19 v20 m1 m2 L2)(h:va K n v1 v2 v19 v20 v25 L1 L2 v26=some r):xU M w0 r (gm 59745::gm 29873::Fp M w0 r m1 m2) (Uq v1 v2 v19 v20 v25 v26):=by
 unfold va at h;obtain⟨h47,h⟩|⟨h47,h⟩:=am h
 ·refine ae 32 h47 (bM (ks':=gm 119492::gm 119493 :: .b 3::Fp M w0 r m1 m2) 4 (ai 2 ?_));obtain⟨v27,h48,h⟩:=bind_some h;refine aP (Bm hK h48) (ab (bN 4 5 3 2 (ai 3 ?_)));obtain⟨h49,h⟩:=ax h;refine au (fF aS v1 v19 v27 159 (.tmp 36) (some (.tmp 37)) (some (.tmp 38)) 39 (e:=165) (sz:=62) (by kernel_rfl) (by kernel_rfl) (by kernel_rfl) (by kernel_rfl) (by kernel_rfl) (by kernel_rfl) (fj) (fun k hk=>by subst hk;kernel_rfl) h49) ?_;obtain⟨v28,h50,h⟩:=bind_some h;refine aP (xR hK h50) (ab ?_);obtain⟨h51,h⟩|⟨h51,h⟩:=am h
  ·exact ae 42 h51 (ac 6 (Ol hK hL1 h))
  ·exact ae 42 h51 (ac 4 (bc (hL2 h)))
 ·exact ae 32 h47 (ac 5 (Ol hK hL1 h))
theorem Y7(hK:ak K)(hL1:ni M w0 r v1 v2 m1 L1)(hL2:AK M w0 r v1 v2 v19 v20 m1 m2 L2)(h:vj K n v1 v2 v19 v20 L1 L2 v25=some r):xU M w0 r (gm 14936::Fp M w0 r m1 m2) (MI v1 v2 v19 v20 v25):=by
 unfold vj at h;refine bN 4 5 3 2 (ai 2 (au (bj aS v1) (aO 5 2 ?_)));obtain⟨h45,h⟩|⟨h45,h⟩:=am h
 ·refine aC 24 h45 (aO 8 3 ?_);obtain⟨h46,h⟩:=ax h;exact au (bu aS aS h46 (fj) ((fun _=>rfl))) (ab (ac 0 (NA hK hL1 hL2 h)))
 ·exact aC 24 h45 (ab (ac 0 (NA hK hL1 hL2 h)))
theorem Rd(hK:ak K)(hL1:ni M w0 r v1 v2 m1 L1)(m:Nat):AK M w0 r v1 v2 v19 v20 m1 m (uI K n v1 v2 v19 v20 L1 m):=by
 induction m with
 | zero=>intro v25 h;cases h
 | succ m ih=>intro v25 h;have h:vj K n v1 v2 v19 v20 L1 (uI K n v1 v2 v19 v20 L1 m) v25=some r:=h;exact aZ (Y7 hK hL1 ih h)
theorem Qs(hK:ak K)(hL1:ni M w0 r v1 v2 m1 L1)(h:ye K n v1 v2 L1 v19 v20=some r):xU M w0 r (gm 116::wj M w0 r m1) (Oz v1 v2 v19 v20):=by
 unfold ye at h;refine bN 4 5 3 2 (ai 2 (au (bj aS v1) (ab ?_)));obtain⟨h35,h⟩|⟨h35,h⟩:=am h
 ·refine ae 12 h35 (bM (ks':=gm 932::gm 933 :: .b 1::wj M w0 r m1) 4 (ai 3 ?_));obtain⟨h36,h⟩:=ax h;refine au (cc 16 16 3 1 (af .i64) (rfl) ((fun _=>rfl)) h36) (ab (av 2 3 1 (ai 2 ?_)));obtain⟨v21,h37,h⟩:=bind_some h;exact aP (Bm hK h37) (ab (ac 2 (bK (p:=pn 7468) n (Rd hK hL1 n h))))
 ·refine ae 12 h35 (aJ 8 ?_);cases h;exact dk
theorem SE(hK:ak K)(m:Nat):ni M w0 r v1 v2 m (uH K n v1 v2 m):=by
 induction m with
 | zero=>intro v19 v20 h;cases h
 | succ m ih=>intro v19 v20 h;have h:ye K n v1 v2 (uH K n v1 v2 m) v19 v20=some r:=h;exact aZ (Qs hK ih h)
theorem ZO(hK:ak K)(h:Ec K n v1 v2=some r):aW Tryz.prog 110 [.sl (lm aS v1),iI v2] (fun v s=>v=.ref 16∧look 16 s.r=some ⟨3,1,lm (af .i64) r⟩):=by
 refine bB (cat Tryz.f110 (pn 1)) Tryz.func110 Tryz.ntmps110 fun M w0=>(ba ⟨[(0,.sl (lm aS v1)),(1,iI v2)],[],[],[]⟩ ?_);unfold Ec at h;exact eU 58 0 15 8 (bA [0,1,5,6] [] [] (dw 16 5 3 1 (ac 0 (bK (p:=pn 58) n (SE hK n h)))))
end
noncomputable section
variable[GS](M:Nat→Prop)(w0:aB)(r:Int)(v1:aX)(v2 v3:Int)  
variable{M w0 r v1 v2 v3}{K:Kn}{n:Nat}
theorem Rr(hK:ak K)(h:CW K n v1 v2 v3=some r):aW Tryz.prog 149 [.agg (aE v1),iI v2,iI v3] (fun v _=>v=iI r):=by
 refine bB (cat Tryz.f149 (pn 1)) Tryz.func149 Tryz.ntmps149 fun M w0=>(ba ⟨[(0,.agg (aE v1)),(1,iI v2),(2,iI v3)],[],[],[]⟩ ?_);unfold CW at h;refine av 13 7 5 ?_;obtain⟨h1,h⟩|⟨h1,h⟩:=am h
 ·refine ae 9 h1 (aJ 5 ?_);cases h;exact bp
 ·refine ae 9 h1 (lg 21 0 3 8 ?_);obtain⟨h2,h⟩|⟨h2,h⟩:=am h
  ·refine ae 12 h2 (aJ 6 ?_);cases h;exact bp
  ·refine ae 12 h2 (bd 7 3 ?_);obtain⟨h3,h⟩|⟨h3,h⟩:=am h
   ·refine ae 18 h3 (aJ 6 ?_);cases h;exact bp
   ·refine ae 18 h3 (aJ 6 ?_);cases h;exact bp
end
noncomputable section
variable[GS](M:Nat→Prop)(w0:aB)(r:Bool)(v1 v2:ByteArray)(v3:Bool)  
abbrev Y6(n:Nat):ao:=.c (cat Tryz.f173 (pn n))
abbrev X4:Cx:=⟨Tryz.prog,21,M,w0⟩
abbrev O0:=bodyPost Tryz.prog Tryz.f173 (bC M w0 (fun v _=>v=.bool r))
abbrev aac(ks:List ao)(s:AS):=VE (X4 M w0) (O0 M w0 r) ks .normal s
def Uf:AS:=⟨[(4,.bool v3)],[],[],[]⟩
variable{M w0 r v1 v2 v3}{K:Kn}{n:Nat}
theorem KO(hK:ak K)(h:wR K n v3=some r):aac M w0 r [Y6 7] (Uf v3):=by
 unfold wR at h;refine aJ 1 ?_;cases h;exact bp
theorem aat(hK:ak K)(h:DR K n v1 v2=some r):aW Tryz.prog 173 [.str v1,.str v2] (fun v _=>v=.bool r):=by
 refine bB (cat Tryz.f173 (pn 1)) Tryz.func173 Tryz.ntmps173 fun M w0=>(ba ⟨[(0,.str v1),(1,.str v2)],[],[],[]⟩ ?_);unfold DR at h;refine av 6 7 3 (ai 6 ?_);obtain⟨h1,h⟩|⟨h1,h⟩:=am h
 ·refine aC 10 h1 (aO 12 6 ?_);obtain⟨h2,h⟩:=ax h;exact au (su h2) (ab (ac 0 (KO hK h)))
 ·exact aC 10 h1 (ab (ac 0 (KO hK h)))
end
noncomputable section
variable[GS](M:Nat→Prop)(w0:aB)(r:Bool)(v1 v2:ByteArray)  
variable{M w0 r v1 v2}{K:Kn}{n:Nat}
theorem WR(hK:ak K)(h:DF K n v1 v2=some r):aW Tryz.prog 151 [.str v1,.str v2] (fun v _=>v=.bool r):=by
 refine bB (cat Tryz.f151 (pn 1)) Tryz.func151 Tryz.ntmps151 fun M w0=>(ba ⟨[(0,.str v1),(1,.str v2)],[],[],[]⟩ ?_);unfold DF at h;refine av 6 7 3 (ai 2 ?_);obtain⟨v3,h1,h⟩:=bind_some h;refine aP (aat hK h1) (ab (aJ 1 ?_));cases h;exact bp
end
noncomputable section
variable[GS](M:Nat→Prop)(w0:aB)(r:aj)(v1:List aD)(v2:aX)(v3 v8 v9 v10 v11 v12 v15 v78 v79:Int)(v80:List aj)(v82:Bool)(v83:aD)(v87:List aj)(v104:Int)(v105:List aj)(m1 m2 m3:Nat)(L1:Int→Int→Int→Option aj)(L2:Int→Int→(List aj)→Option aj)(L3:Int→(List aj)→Option aj)
abbrev lj:Cx:=⟨Tryz.prog,156,M,w0⟩
abbrev la:=bodyPost Tryz.prog Tryz.f111 (bC M w0 (fun v s=>v=.agg (List.set (aI ({ r with Kids:=[] }:aj)) 66 (.ref 114))∧look 114 s.r=some ⟨44,67,lm aL r.Kids⟩))
abbrev kg(ks:List ao)(s:AS):=VE (lj M w0) (la M w0 r) ks .normal s
abbrev dH(n:Nat):ao:=.c (cat Tryz.f111 (pn n))
abbrev Az:List ao:=[.b 2,dH 255]
abbrev nn:List ao:=kl (lj M w0) (la M w0 r) Az (cat Tryz.f111 (pn 2036)) m2::Az
abbrev AA:List ao:=[.b 0,dH 15]
abbrev JT:List ao:=kl (lj M w0) (la M w0 r) AA (cat Tryz.f111 (pn 116)) m1::AA
abbrev EW:List ao:=.b 4::dH 521423 :: .b 3::dH 16295::nn M w0 r m2
abbrev DD:List ao:=kl (lj M w0) (la M w0 r) (EW M w0 r m2) (cat Tryz.f111 (pn 4171380)) m3::(EW M w0 r m2)
def Tl:AS:=⟨[(0,.sl (lm aS v1)),(2,iI v3),(4,.ptr 4 0),(6,.ptr 6 0),(7,iI v11),(8,iI v12),(24,.sl (lm aS v1)),(25,iI (v1.length:Int)),(26,iI v10)],[(4,aE v2),(6,List.set (aI bQ) 66 (.nils))],[],[4,6]⟩
def Jf:AS:=⟨[(6,.ptr 6 0),(7,iI v8),(11,.ptr 11 0),(12,iI v78),(13,iI v15),(15,.ptr 15 0),(56,.sl (lm aS v1)),(57,iI (v1.length:Int)),(58,iI v79),(117,.sl (lm aL v83.Box)),(118,iI (v83.Box.length:Int)),(119,iI v104)],[(6,List.set (aI bQ) 66 (.nils)),(11,List.set (aI ({ bQ with Kind:=2,W:=v3,H:=(aa (v8+v9)),aB:=v8,Style:=v2 }:aj)) 66 (.ref 114)),(15,aS v83)],[(114,⟨44,67,lm aL v105⟩)],[6,11,15,114]⟩
def Xy:AS:=⟨[(6,.ptr 6 0),(7,iI v8),(11,.ptr 11 0),(12,iI v78),(13,iI v15),(15,.ptr 15 0),(56,.sl (lm aS v1)),(57,iI (v1.length:Int)),(58,iI v79)],[(6,List.set (aI bQ) 66 (.nils)),(11,List.set (aI ({ bQ with Kind:=2,W:=v3,H:=(aa (v8+v9)),aB:=v8,Style:=v2 }:aj)) 66 (.ref 114)),(15,aS v83)],[(114,⟨44,67,lm aL v87⟩)],[6,11,15,114]⟩
def WK:AS:=⟨[(6,.ptr 6 0),(7,iI v8),(11,.ptr 11 0),(12,iI v78),(13,iI v15),(15,.ptr 15 0),(56,.sl (lm aS v1)),(57,iI (v1.length:Int)),(58,iI v79)],[(6,List.set (aI bQ) 66 (.nils)),(11,List.set (aI ({ bQ with Kind:=2,W:=v3,H:=(aa (v8+v9)),aB:=v8,Style:=v2 }:aj)) 66 (.ref 114)),(15,aS v83)],[(114,⟨44,67,lm aL v80⟩)],[6,11,15,114]⟩
def Wg:AS:=⟨[(6,.ptr 6 0),(7,iI v8),(11,.ptr 11 0),(12,iI v78),(13,iI v15),(15,.ptr 15 0),(56,.sl (lm aS v1)),(57,iI (v1.length:Int)),(58,iI v79),(76,.bool v82)],[(6,List.set (aI bQ) 66 (.nils)),(11,List.set (aI ({ bQ with Kind:=2,W:=v3,H:=(aa (v8+v9)),aB:=v8,Style:=v2 }:aj)) 66 (.ref 114)),(15,aS (gD v1 v79))],[(114,⟨44,67,lm aL v80⟩)],[6,11,15,114]⟩
def Mz:AS:=⟨[(6,.ptr 6 0),(7,iI v8),(11,.ptr 11 0),(12,iI v78),(13,iI v15),(56,.sl (lm aS v1)),(57,iI (v1.length:Int)),(58,iI v79)],[(6,List.set (aI bQ) 66 (.nils)),(11,List.set (aI ({ bQ with Kind:=2,W:=v3,H:=(aa (v8+v9)),aB:=v8,Style:=v2 }:aj)) 66 (.ref 114))],[(114,⟨44,67,lm aL v80⟩)],[6,11,114]⟩
def L8:AS:=⟨[(0,.sl (lm aS v1)),(2,iI v3),(4,.ptr 4 0),(6,.ptr 6 0),(7,iI v8),(8,iI v9),(24,.sl (lm aS v1)),(25,iI (v1.length:Int)),(26,iI v10)],[(4,aE v2),(6,List.set (aI bQ) 66 (.nils))],[],[4,6]⟩
abbrev zI:Prop:=∀{v8:Int} {v9:Int} {v10:Int},L1 v8 v9 v10=some r→LP (lj M w0) (la M w0 r) AA (cat Tryz.f111 (pn 116)) m1 (L8 v1 v2 v3 v8 v9 v10)
abbrev lu:Prop:=∀{v78:Int} {v79:Int} {v80:(List aj)},L2 v78 v79 v80=some r→LP (lj M w0) (la M w0 r) Az (cat Tryz.f111 (pn 2036)) m2 (Mz v1 v2 v3 v8 v9 v15 v78 v79 v80)
abbrev KW:Prop:=∀{v104:Int} {v105:(List aj)},L3 v104 v105=some r→LP (lj M w0) (la M w0 r) (EW M w0 r m2) (cat Tryz.f111 (pn 4171380)) m3 (Jf v1 v2 v3 v8 v9 v15 v78 v79 v83 v104 v105)
variable{M w0 r v1 v2 v3 v8 v9 v10 v11 v12 v15 v78 v79 v80 v82 v83 v87 v104 v105 m1 m2 m3 L1 L2 L3}{K:Kn}{n:Nat}
theorem FX(hK:ak K)(hL1:zI M w0 r v1 v2 v3 m1 L1)(h:sT K n v1 v2 v3 v10 L1 v11 v12=some r):kg M w0 r (.b 1::dH 935::JT M w0 r m1) (Tl v1 v2 v3 v10 v11 v12):=by
 unfold sT at h;exact ac 2 (bc (hL1 h))
theorem UR(hK:ak K)(hL2:lu M w0 r v1 v2 v3 v8 v9 v15 m2 L2)(hL3:KW M w0 r v1 v2 v3 v8 v9 v15 v78 v79 v83 m2 m3 L3)(h:yK K n v1 v2 v3 v8 v9 v15 v78 v79 v83 L2 L3 v104 v105=some r):kg M w0 r (dH 4171380::DD M w0 r m2 m3) (Jf v1 v2 v3 v8 v9 v15 v78 v79 v83 v104 v105):=by
 unfold yK at h;refine av 6 7 3 ?_;obtain⟨h123,h⟩|⟨h123,h⟩:=am h
 ·refine ae 120 h123 (cr 8 9 5 3 5 (ai 0 ?_));obtain⟨h124,h⟩:=ax h;refine au (bu aL aI h124 (hZ) (c9)) (ab ?_);obtain⟨v106,h125,h⟩:=bF h;obtain⟨v107,h126,h⟩:=bF h;obtain⟨v108,h127,h⟩:=bF h;obtain⟨v109,h128,h⟩:=bF h;obtain⟨v110,h129,h⟩:=bF h;obtain⟨v111,h130,h⟩:=bF h;obtain⟨v112,h131,h⟩:=bF h;obtain⟨v113,h132,h⟩:=bF h;obtain⟨v114,h133,h⟩:=bF h;obtain⟨v115,h134,h⟩:=bF h;refine bm (ks':=dH 533936742::dH 533936743 :: .b 5::dH 33371047::DD M w0 r m2 m3) 3 ⟨[(6,.ptr 6 0),(7,iI v8),(11,.ptr 11 0),(12,iI v78),(13,iI v15),(15,.ptr 15 0),(18,.ptr 18 0),(56,.sl (lm aS v1)),(57,iI (v1.length:Int)),(58,iI v79),(117,.sl (lm aL v83.Box)),(118,iI (v83.Box.length:Int)),(119,iI v104)],[(6,List.set (aI bQ) 66 (.nils)),(11,List.set (aI ({ bQ with Kind:=2,W:=v3,H:=(aa (v8+v9)),aB:=v8,Style:=v2 }:aj)) 66 (.ref 114)),(15,aS v83),(18,aI (⟨v106,v107,v108,(gD v83.Box v104).Y,(gD v83.Box v104).W,(gD v83.Box v104).H,v109,v110,v111,v112,v113,v114,v115⟩:aj))],[(114,⟨44,67,lm aL v105⟩)],[6,11,15,18,114]⟩ ?_ (by subst h134;subst h133;subst h132;subst h131;subst h130;subst h129;subst h128;subst h127;subst h126;subst h125;kernel_rfl)
  obtain⟨v116,h135,h⟩:=bind_some h;refine bw 1 (nu 128 [.ptr 18 3,iI ((gD v83.Box v104).Y),iI v8,.ptr 18 5,iI ((gD v83.Box v104).H),iI (aa (v8-((gD v83.Box v104).H))),.ptr 18 63,.agg (cC v113),iI v116,iI (aa ((aa (v8-((gD v83.Box v104).H)))-v116)),iI (aa (((gD v83.Box v104).Y)+(aa ((aa (v8-((gD v83.Box v104).H)))-v116)))),.ptr 18 3]) [] [] [bS Tryz.prog 156 Tryz.f111 (pn 533936742) 12] (aq (vz 8) (ag (bL 0 1 136 (jl hK h135)) (aq (vz 3) (ag (bU 0) bz)))) ?_;obtain⟨v117,h136,h⟩:=bF h;refine bm (ks':=dH 533936743 :: .b 5::dH 33371047::DD M w0 r m2 m3) 0 ⟨[(6,.ptr 6 0),(7,iI v8),(11,.ptr 11 0),(12,iI v78),(13,iI v15),(15,.ptr 15 0),(18,.ptr 18 0),(56,.sl (lm aS v1)),(57,iI (v1.length:Int)),(58,iI v79),(117,.sl (lm aL v83.Box)),(118,iI (v83.Box.length:Int)),(119,iI v104)],[(6,List.set (aI bQ) 66 (.nils)),(11,List.set (aI ({ bQ with Kind:=2,W:=v3,H:=(aa (v8+v9)),aB:=v8,Style:=v2 }:aj)) 66 (.ref 114)),(15,aS v83),(18,aI (⟨v106,v107,v108,v117,(gD v83.Box v104).W,(gD v83.Box v104).H,v109,v110,v111,v112,v113,v114,v115⟩:aj))],[(114,⟨44,67,lm aL v105⟩)],[6,11,15,18,114]⟩ ?_ (by subst h136;kernel_rfl)
  refine ai 3 (au (eJ aL ([(⟨v106,v107,v108,v117,(gD v83.Box v104).W,(gD v83.Box v104).H,v109,v110,v111,v112,v113,v114,v115⟩:aj)]:List aj) (new:=[aI (⟨v106,v107,v108,v117,(gD v83.Box v104).W,(gD v83.Box v104).H,v109,v110,v111,v112,v113,v114,v115⟩:aj)]) (by simp only[List.map_cons,List.map_nil,c9])) ?_);obtain⟨h137,h⟩:=ax h;exact au (cc 144 114 44 67 aL (rfl) (hZ) h137) (ab (ac 2 (bc (hL3 h))))
 ·exact ae 120 h123 (ac 8 (bc (hL2 h)))
theorem VC(hK:ak K)(hL2:lu M w0 r v1 v2 v3 v8 v9 v15 m2 L2)(m:Nat):KW M w0 r v1 v2 v3 v8 v9 v15 v78 v79 v83 m2 m (vc K n v1 v2 v3 v8 v9 v15 v78 v79 v83 L2 m):=by
 induction m with
 | zero=>intro v104 v105 h;cases h
 | succ m ih=>intro v104 v105 h;have h:yK K n v1 v2 v3 v8 v9 v15 v78 v79 v83 L2 (vc K n v1 v2 v3 v8 v9 v15 v78 v79 v83 L2 m) v104 v105=some r:=h;exact aZ (UR hK hL2 ih h)
theorem LV(hK:ak K)(hL2:lu M w0 r v1 v2 v3 v8 v9 v15 m2 L2)(h:ui K n v1 v2 v3 v8 v9 v15 v78 v79 v83 L2 v87=some r):kg M w0 r (dH 260711 :: .b 3::dH 16295::nn M w0 r m2) (Xy v1 v2 v3 v8 v9 v15 v78 v79 v83 v87):=by
 unfold ui at h;exact bN 4 5 3 2 (ai 2 (au (bj aL v83.Box) (ab (ac 1 (bK (p:=pn 2085690) n (VC hK hL2 n h))))))
theorem KE(hK:ak K)(hL2:lu M w0 r v1 v2 v3 v8 v9 v15 m2 L2)(h:rr K n v1 v2 v3 v8 v9 v15 v78 v79 v80 L2 v83=some r):kg M w0 r (dH 130355 :: .b 3::dH 16295::nn M w0 r m2) (WK v1 v2 v3 v8 v9 v15 v78 v79 v80 v83):=by
 unfold rr at h;obtain⟨v84,h99,h⟩:=bF h;refine bm (ks':=dH 521421::dH 260711 :: .b 3::dH 16295::nn M w0 r m2) 3 ⟨[(6,.ptr 6 0),(7,iI v8),(11,.ptr 11 0),(12,iI v78),(13,iI v15),(15,.ptr 15 0),(56,.sl (lm aS v1)),(57,iI (v1.length:Int)),(58,iI v79),(88,.bool v84)],[(6,List.set (aI bQ) 66 (.nils)),(11,List.set (aI ({ bQ with Kind:=2,W:=v3,H:=(aa (v8+v9)),aB:=v8,Style:=v2 }:aj)) 66 (.ref 114)),(15,aS v83)],[(114,⟨44,67,lm aL v80⟩)],[6,11,15,114]⟩ ?_ (by subst h99;kernel_rfl);obtain⟨h100,h⟩|⟨h100,h⟩:=am h
 ·refine ae 88 h100 (bd 5 3 (bA [6,7,11,12,13,15,16,56,57,58] [6,11,15] [114] ?_));obtain⟨v85,h101,h⟩:=bind_some h;obtain⟨v86,h102,h⟩:=bind_some h;obtain⟨h103,h⟩:=ax h;exact bw 2 (nu 92 [.ptr 11 66,.ref 114,.ptr 15 0,iI v83.Node,.ptr 15 2,.agg (aE v83.Style),.ptr 15 1,.str v83.Text,iI v78,iI v8,iI v83.Style.FontSize,iI v85,iI (aa (v8-v85)),.ptr 15 55,iI v83.Width,.ptr 15 56,iI v83.Space,iI (aa (v83.Width+v83.Space)),iI v83.Style.FontSize,iI v86,.agg (List.set (aI (⟨3,v83.Node,v78,(aa (v8-v85)),(aa (v83.Width+v83.Space)),v86,0,v83.Text,v83.Style,dg,dg,false,[]⟩:aj)) 66 (.nils)),.sl (lm aL [(⟨3,v83.Node,v78,(aa (v8-v85)),(aa (v83.Width+v83.Space)),v86,0,v83.Text,v83.Style,dg,dg,false,[]⟩:aj)])]++nu 115 [.ptr 11 66]) [] [] [eb 114 114 ⟨44,67,lm aL (v80++[(⟨3,v83.Node,v78,(aa (v8-v85)),(aa (v83.Width+v83.Space)),v86,0,v83.Text,v83.Style,dg,dg,false,[]⟩:aj)])⟩,bS Tryz.prog 156 Tryz.f111 (pn 2085685) 24] (aq [.v 0 2,.v 0 1,.v 0 2,.v 0 2,.v 0 2,.v 0 2,.v 0 2,.v 0 2,.v 0 2,.v 0 2,.v 0 2] (ag (bL 0 2 103 (Nl hK h101)) (aq [.v 0 2,.v 0 2,.v 0 2,.v 0 2,.v 0 2,.v 0 2,.v 0 2] (ag (bL 0 1 111 (GO hK h102)) (aq [.v 0 2] (aR (eJ aL ([(⟨3,v83.Node,v78,(aa (v8-v85)),(aa (v83.Width+v83.Space)),v86,0,v83.Text,v83.Style,dg,dg,false,[]⟩:aj)]:List aj) (new:=[aI (⟨3,v83.Node,v78,(aa (v8-v85)),(aa (v83.Width+v83.Space)),v86,0,v83.Text,v83.Style,dg,dg,false,[]⟩:aj)]) (by simp only[List.map_cons,List.map_nil,c9])) (ag (cy (m:=0) (cc 114 114 44 67 aL (rfl) (hZ) h103)) (aq [.v 1 1] (ag (bU 1) bz))))))))) (ac 0 (LV hK hL2 h))
 ·exact ae 88 h100 (ac 2 (LV hK hL2 h))
theorem BH(hK:ak K)(hL2:lu M w0 r v1 v2 v3 v8 v9 v15 m2 L2)(h:qf K n v1 v2 v3 v8 v9 v15 v78 v79 v80 L2 v82=some r):kg M w0 r (dH 260709::dH 130355 :: .b 3::dH 16295::nn M w0 r m2) (Wg v1 v2 v3 v8 v9 v15 v78 v79 v80 v82):=by
 unfold qf at h;obtain⟨h97,h⟩|⟨h97,h⟩:=am h
 ·refine ae 76 h97 (av 4 5 2 (ai 6 ?_));obtain⟨h98,h⟩:=ax h;exact au (su h98) (ab (ac 1 (KE hK hL2 h)))
 ·exact ae 76 h97 (ac 2 (KE hK hL2 h))
theorem Y1(hK:ak K)(hL2:lu M w0 r v1 v2 v3 v8 v9 v15 m2 L2)(h:yL K n v1 v2 v3 v8 v9 v15 L2 v78 v79 v80=some r):kg M w0 r (dH 2036::nn M w0 r m2) (Mz v1 v2 v3 v8 v9 v15 v78 v79 v80):=by
 unfold yL at h;refine av 6 7 3 ?_;obtain⟨h92,h⟩|⟨h92,h⟩:=am h
 ·refine ae 59 h92 (cr 8 9 3 3 5 (ai 1 ?_));obtain⟨h93,h⟩:=ax h;refine au (bu aS aS h93 (fj) ((fun _=>rfl))) (ab (bN 4 5 3 2 (ai 4 ?_)));obtain⟨h94,h⟩|⟨h94,h⟩:=am h
  ·refine aC 66 h94 (aO 6 2 ?_);obtain⟨v81,h95,h⟩:=bind_some h;refine aP (WR hK h95) (aO 9 2 ?_);obtain⟨h96,h⟩|⟨h96,h⟩:=am h
   ·exact aC 71 h96 (ab (ac 0 (BH hK hL2 h)))
   ·exact aC 71 h96 (ab (ac 0 (BH hK hL2 h)))
  ·exact aC 66 h94 (ab (ac 0 (BH hK hL2 h)))
 ·refine ae 59 h92 (aJ 8 ?_);cases h;exact dk
theorem VG(hK:ak K)(m:Nat):lu M w0 r v1 v2 v3 v8 v9 v15 m (uc K n v1 v2 v3 v8 v9 v15 m):=by
 induction m with
 | zero=>intro v78 v79 v80 h;cases h
 | succ m ih=>intro v78 v79 v80 h;have h:yL K n v1 v2 v3 v8 v9 v15 (uc K n v1 v2 v3 v8 v9 v15 m) v78 v79 v80=some r:=h;exact aZ (Y1 hK ih h)
theorem RV(hK:ak K)(hL1:zI M w0 r v1 v2 v3 m1 L1)(h:yY K n v1 v2 v3 L1 v8 v9 v10=some r):kg M w0 r (dH 116::JT M w0 r m1) (L8 v1 v2 v3 v8 v9 v10):=by
 unfold yY at h;refine av 6 7 3 ?_;obtain⟨h6,h⟩|⟨h6,h⟩:=am h
 ·refine ae 27 h6 (cr 8 9 1 3 5 (ai 0 ?_));obtain⟨h7,h⟩:=ax h;refine au (bu aS aS h7 (fj) ((fun _=>rfl))) (ab (bd 3 2 ?_));obtain⟨h8,h⟩|⟨h8,h⟩:=am h
  ·exact ae 32 h8 (bd 2 1 (bA [0,2,4,6,7,8,10,24,25,26] [4,6,10] [] (bw 2 (nu 33 [iI v8,.ptr 10 57,iI ((gD v1 v10).Above),iI (max v8 ((gD v1 v10).Above)),iI v9,.ptr 10 58,iI ((gD v1 v10).Below),iI (max v9 ((gD v1 v10).Below))]) [] [] [bS Tryz.prog 156 Tryz.f111 (pn 14950) 8,bS Tryz.prog 156 Tryz.f111 (pn 14950) 9] (aq [.v 0 1,.v 0 1,.v 0 1,.v 0 1,.v 0 2,.v 0 2,.v 0 2,.v 0 2] (ag (bU 0) (ag (bU 1) bz))) (ac 0 (FX hK hL1 h)))))
  ·exact ae 32 h8 (ac 2 (FX hK hL1 h))
 ·refine ae 27 h6 (eI 6 7 8 (bA [0,2,4,6,7,11] [4,6,11] [] ?_));obtain⟨v13,h9,h⟩:=bind_some h;obtain⟨v14,h10,h⟩:=bind_some h;refine bw 1 (nu 49 [.agg (aE v2),iI v3,.sl (lm aS v1),iI v13,iI v14]) [] [] [bS Tryz.prog 156 Tryz.f111 (pn 62) 5] (aq (vz 3) (ag (bL 0 1 52 (xR hK h9)) (ag (bL 0 1 53 (Rr hK h10)) (ag (bU 0) bz)))) (av 2 3 1 (ai 1 ?_));obtain⟨v15,h11,h⟩:=bind_some h;exact aP (GT hK h11) (ab (bN 4 5 3 2 (ai 1 (au (bj aS v1) (ab (eW 2 2 1 (bA [6,7,11,12,13,56,57,58] [6,11] [] (yN 114 11 66 44 67 (ac 0 (bK (p:=pn 1018) n (VG hK n h)))))))))))
theorem YP(hK:ak K)(m:Nat):zI M w0 r v1 v2 v3 m (uS K n v1 v2 v3 m):=by
 induction m with
 | zero=>intro v8 v9 v10 h;cases h
 | succ m ih=>intro v8 v9 v10 h;have h:yY K n v1 v2 v3 (uS K n v1 v2 v3 m) v8 v9 v10=some r:=h;exact aZ (RV hK ih h)
theorem XO(hK:ak K)(h:A7 K n v1 v2 v3=some r):aW Tryz.prog 111 [.sl (lm aS v1),.agg (aE v2),iI v3] (fun v s=>v=.agg (List.set (aI ({ r with Kids:=[] }:aj)) 66 (.ref 114))∧look 114 s.r=some ⟨44,67,lm aL r.Kids⟩):=by
 refine bB (cat Tryz.f111 (pn 1)) Tryz.func111 Tryz.ntmps111 fun M w0=>(ba ⟨[(0,.sl (lm aS v1)),(1,.agg (aE v2)),(2,iI v3)],[],[],[]⟩ ?_);unfold A7 at h;refine av 6 7 3 (ai 1 ?_);obtain⟨v4,h1,h⟩:=bind_some h;exact aP (FC hK h1) (ab (bN 4 5 3 2 (ai 1 (au (bj aS v1) (ab (ac 1 (bK (p:=pn 58) n (YP hK n h))))))))
end
end Go.Proofs.YtocgkfoifehcbaaGreat

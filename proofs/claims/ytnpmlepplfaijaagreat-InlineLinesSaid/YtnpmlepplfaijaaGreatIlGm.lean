/- More rounds and deeper calls never change an answer. Made by a program. -/
import Derived.Test.YtnpmlepplfaijaaGreatIlGf
namespace Go.Proofs.YtnpmlepplfaijaaGreat
open Go.RowKit
set_option maxRecDepth 20000
set_option linter.all false
def Le{α:Type}(x y:Option α):Prop:=∀r,x=some r→y=some r
theorem Le.rfl{α:Type}{x:Option α}:Le x x:=fun _ h=>h
theorem Le.none{α:Type}{y:Option α}:Le (none:Option α) y:=fun _ h=>by cases h
theorem Le.aA{α:Type}{c:Bool}{x y:Option α}(h:Le x y):Le (aA c x) (Go.Proofs.YtnpmlepplfaijaaGreat.aA c y):=by cases c;exact Le.rfl;exact h
theorem Le.ite{α:Type}{c:Prop}[Decidable c]{x y x' y':Option α}(h:Le x x')(h2:Le y y'):Le (if c then x else y) (if c then x' else y'):=by split;exact h;exact h2
theorem Le.bind{α β:Type}{x x':Option α}{f f':α→Option β}(h:Le x x')(h2:∀a,Le (f a) (f' a)):Le (x.bind f) (x'.bind f'):=by
 intro r hr;cases hx:x with
 | none=>rw[hx]at hr;cases hr
 | some a=>rw[hx]at hr;rw[h a hx];exact h2 a r hr
theorem Le.both{α:Type}{c:Bool}{x y x' y':Option α}(h:Le x x')(h2:Le y y'):Le (both c x y) (Go.Proofs.YtnpmlepplfaijaaGreat.both c x' y'):=by
 intro r hr;unfold Go.Proofs.YtnpmlepplfaijaaGreat.both at hr⊢;split at hr
 ·rename_i hc;rw[if_pos hc];split at hr
  ·rename_i e;rw[h r hr,h2 r (e ▸ hr),if_pos];exact _root_.rfl
  ·cases hr
 ·rename_i hc;rw[if_neg hc];exact h2 r hr
structure bC(K K':Kn):Prop where
 lI:∀a0,Le (K.lI a0) (K'.lI a0)
 lN:∀a0 a1 a2,Le (K.lN a0 a1 a2) (K'.lN a0 a1 a2)
theorem Rh{K K':Kn}(hK:bC K K'){n n':Nat}(hn:n≤n')(v2:Bool):Le (lZ K n v2) (lZ K' n' v2):=by
 unfold lZ
 with_reducible repeat' first|exact Le.rfl|refine Le.aA ?_|refine Le.ite ?_ ?_|refine Le.both ?_ ?_|refine Le.bind ?_ fun _=>?_
theorem Tn{K K':Kn}(hK:bC K K'){n n':Nat}(hn:n≤n')(v1:ah):Le (iR K n v1) (iR K' n' v1):=by
 unfold iR
 with_reducible repeat' first|exact Le.rfl|refine Le.aA ?_|refine Le.ite ?_ ?_|refine Le.both ?_ ?_|exact Rh hK hn _|refine Le.bind ?_ fun _=>?_
theorem nT{K K':Kn}(hK:bC K K'){n n':Nat}(hn:n≤n')(v1:Int):Le (dG K n v1) (dG K' n' v1):=by
 unfold dG
 with_reducible repeat' first|exact Le.rfl|refine Le.aA ?_|refine Le.ite ?_ ?_|refine Le.both ?_ ?_|refine Le.bind ?_ fun _=>?_
theorem G1{K K':Kn}(hK:bC K K'){n n':Nat}(hn:n≤n')(v1:Int):Le (ix K n v1) (ix K' n' v1):=by
 unfold ix
 with_reducible repeat' first|exact Le.rfl|refine Le.aA ?_|refine Le.ite ?_ ?_|refine Le.both ?_ ?_|refine Le.bind ?_ fun _=>?_
theorem pA{K K':Kn}(hK:bC K K'){n n':Nat}(hn:n≤n')(v1:cu)(v2:Int):Le (dw K n v1 v2) (dw K' n' v1 v2):=by
 unfold dw
 with_reducible repeat' first|exact Le.rfl|refine Le.aA ?_|refine Le.ite ?_ ?_|refine Le.both ?_ ?_|exact G1 hK hn _|exact nT hK hn _|refine Le.bind ?_ fun _=>?_
theorem Ae{K K':Kn}(hK:bC K K'){n n':Nat}(hn:n≤n')(v1:aF)(v2 v3:Int):Le (iJ K n v1 v2 v3) (iJ K' n' v1 v2 v3):=by
 unfold iJ
 with_reducible repeat' first|exact Le.rfl|refine Le.aA ?_|refine Le.ite ?_ ?_|refine Le.both ?_ ?_|exact pA hK hn _ _|exact nT hK hn _|refine Le.bind ?_ fun _=>?_
theorem zh{K K':Kn}(hK:bC K K'){n n':Nat}(hn:n≤n')(v1:aR):Le (iQ K n v1) (iQ K' n' v1):=by
 unfold iQ
 with_reducible repeat' first|exact Le.rfl|refine Le.aA ?_|refine Le.ite ?_ ?_|refine Le.both ?_ ?_|refine Le.bind ?_ fun _=>?_
theorem T6{K K':Kn}(hK:bC K K'){n n':Nat}(hn:n≤n')(v1:List ah){L1 L1':Int→Int→Int→Option (Int×Int)}(hL1:∀a0 a1 a2,Le (L1 a0 a1 a2) (L1' a0 a1 a2))(v3 v4 v5:Int):Le (gS K n v1 L1 v3 v4 v5) (gS K' n' v1 L1' v3 v4 v5):=by
 unfold gS
 with_reducible repeat' first|exact Le.rfl|refine Le.aA ?_|refine Le.ite ?_ ?_|refine Le.both ?_ ?_|exact hL1 _ _ _|refine Le.bind ?_ fun _=>?_
theorem YZ{K K':Kn}(hK:bC K K'){n n':Nat}(hn:n≤n')(v1:List ah):∀m m',m≤m'→∀a0 a1 a2,Le (jA K n v1 m a0 a1 a2) (jA K' n' v1 m' a0 a1 a2):=by
 intro m
 induction m with
 | zero=>intro m' _ a0 a1 a2;exact Le.none
 | succ m ih =>
  intro m' h a0 a1 a2;cases m' with
  | zero=>exact absurd h (Nat.not_succ_le_zero _)
  | succ k=>exact T6 hK hn _ (ih k (Nat.le_of_succ_le_succ h)) _ _ _
theorem Vj{K K':Kn}(hK:bC K K'){n n':Nat}(hn:n≤n')(v1:List ah)(v2:aF):Le (jH K n v1 v2) (jH K' n' v1 v2):=by
 unfold jH
 with_reducible repeat' first|exact Le.rfl|refine Le.aA ?_|refine Le.ite ?_ ?_|refine Le.both ?_ ?_|exact YZ hK hn _ _ _ hn _ _ _|refine Le.bind ?_ fun _=>?_
theorem MH{K K':Kn}(hK:bC K K'){n n':Nat}(hn:n≤n')(v7:Int):Le (my K n v7) (my K' n' v7):=by
 unfold my
 with_reducible repeat' first|exact Le.rfl|refine Le.aA ?_|refine Le.ite ?_ ?_|refine Le.both ?_ ?_|refine Le.bind ?_ fun _=>?_
theorem Za{K K':Kn}(hK:bC K K'){n n':Nat}(hn:n≤n')(v1:aF)(v2 v5:Int):Le (mi K n v1 v2 v5) (mi K' n' v1 v2 v5):=by
 unfold mi
 with_reducible repeat' first|exact Le.rfl|refine Le.aA ?_|refine Le.ite ?_ ?_|refine Le.both ?_ ?_|exact pA hK hn _ _|exact MH hK hn _|refine Le.bind ?_ fun _=>?_
theorem BB{K K':Kn}(hK:bC K K'){n n':Nat}(hn:n≤n')(v1:aF)(v2 v3:Int):Le (ik K n v1 v2 v3) (ik K' n' v1 v2 v3):=by
 unfold ik
 with_reducible repeat' first|exact Le.rfl|refine Le.aA ?_|refine Le.ite ?_ ?_|refine Le.both ?_ ?_|exact pA hK hn _ _|exact Za hK hn _ _ _|refine Le.bind ?_ fun _=>?_
theorem S9{K K':Kn}(hK:bC K K'){n n':Nat}(hn:n≤n')(v1:cu):Le (fy K n v1) (fy K' n' v1):=by
 unfold fy
 with_reducible repeat' first|exact Le.rfl|refine Le.aA ?_|refine Le.ite ?_ ?_|refine Le.both ?_ ?_|refine Le.bind ?_ fun _=>?_
theorem Nb{K K':Kn}(hK:bC K K'){n n':Nat}(hn:n≤n')(v1:aF):Le (rI K n v1) (rI K' n' v1):=by
 unfold rI
 with_reducible repeat' first|exact Le.rfl|refine Le.aA ?_|refine Le.ite ?_ ?_|refine Le.both ?_ ?_|exact S9 hK hn _|refine Le.bind ?_ fun _=>?_
theorem Ly{K K':Kn}(hK:bC K K'){n n':Nat}(hn:n≤n')(v1:cu):Le (ln K n v1) (ln K' n' v1):=by
 unfold ln
 with_reducible repeat' first|exact Le.rfl|refine Le.aA ?_|refine Le.ite ?_ ?_|refine Le.both ?_ ?_|exact G1 hK hn _|refine Le.bind ?_ fun _=>?_
theorem Oo{K K':Kn}(hK:bC K K'){n n':Nat}(hn:n≤n')(v4:aF)(v8 v9:Int):Le (nR K n v4 v8 v9) (nR K' n' v4 v8 v9):=by
 unfold nR
 with_reducible repeat' first|exact Le.rfl|refine Le.aA ?_|refine Le.ite ?_ ?_|refine Le.both ?_ ?_|exact Ae hK hn _ _ _|exact zh hK hn _|exact BB hK hn _ _ _|refine Le.bind ?_ fun _=>?_
theorem Xw{K K':Kn}(hK:bC K K'){n n':Nat}(hn:n≤n')(v1:aF)(v2 v3:Int):Le (rJ K n v1 v2 v3) (rJ K' n' v1 v2 v3):=by
 unfold rJ
 with_reducible repeat' first|exact Le.rfl|refine Le.aA ?_|refine Le.ite ?_ ?_|refine Le.both ?_ ?_|exact Nb hK hn _|exact nT hK hn _|exact Ly hK hn _|exact Oo hK hn _ _ _|refine Le.bind ?_ fun _=>?_
theorem ZE{K K':Kn}(hK:bC K K'){n n':Nat}(hn:n≤n')(v1:ah):Le (qG K n v1) (qG K' n' v1):=by
 unfold qG
 with_reducible repeat' first|exact Le.rfl|refine Le.aA ?_|refine Le.ite ?_ ?_|refine Le.both ?_ ?_|exact Xw hK hn _ _ _|exact hK.lI _|refine Le.bind ?_ fun _=>?_
theorem YT{K K':Kn}(hK:bC K K'){n n':Nat}(hn:n≤n')(v1:ah)(v8:Int){L1 L1':Int→(List ah)→Option (List ah)}(hL1:∀a0 a1,Le (L1 a0 a1) (L1' a0 a1))(v11:List ah):Le (m4 K n v1 v8 L1 v11) (m4 K' n' v1 v8 L1' v11):=by
 unfold m4
 with_reducible repeat' first|exact Le.rfl|refine Le.aA ?_|refine Le.ite ?_ ?_|refine Le.both ?_ ?_|exact hL1 _ _|refine Le.bind ?_ fun _=>?_
theorem Wv{K K':Kn}(hK:bC K K'){n n':Nat}(hn:n≤n')(v1:ah){L1 L1':Int→(List ah)→Option (List ah)}(hL1:∀a0 a1,Le (L1 a0 a1) (L1' a0 a1))(v8:Int)(v9:List ah):Le (lu K n v1 L1 v8 v9) (lu K' n' v1 L1' v8 v9):=by
 unfold lu
 with_reducible repeat' first|exact Le.rfl|refine Le.aA ?_|refine Le.ite ?_ ?_|refine Le.both ?_ ?_|exact Tn hK hn _|exact YT hK hn _ _ hL1 _|exact hL1 _ _|refine Le.bind ?_ fun _=>?_
theorem Mo{K K':Kn}(hK:bC K K'){n n':Nat}(hn:n≤n')(v1:ah):∀m m',m≤m'→∀a0 a1,Le (mZ K n v1 m a0 a1) (mZ K' n' v1 m' a0 a1):=by
 intro m
 induction m with
 | zero=>intro m' _ a0 a1;exact Le.none
 | succ m ih =>
  intro m' h a0 a1;cases m' with
  | zero=>exact absurd h (Nat.not_succ_le_zero _)
  | succ k=>exact Wv hK hn _ (ih k (Nat.le_of_succ_le_succ h)) _ _
theorem z4{K K':Kn}(hK:bC K K'){n n':Nat}(hn:n≤n')(v1:ah):Le (lg K n v1) (lg K' n' v1):=by
 unfold lg
 with_reducible repeat' first|exact Le.rfl|refine Le.aA ?_|refine Le.ite ?_ ?_|refine Le.both ?_ ?_|exact Mo hK hn _ _ _ hn _ _|refine Le.bind ?_ fun _=>?_
theorem YW{K K':Kn}(hK:bC K K'){n n':Nat}(hn:n≤n')(v2:List ah){L1 L1':Int→Option Bool}(hL1:∀a0,Le (L1 a0) (L1' a0))(v4:Int):Le (ml K n v2 L1 v4) (ml K' n' v2 L1' v4):=by
 unfold ml
 with_reducible repeat' first|exact Le.rfl|refine Le.aA ?_|refine Le.ite ?_ ?_|refine Le.both ?_ ?_|exact hL1 _|refine Le.bind ?_ fun _=>?_
theorem N3{K K':Kn}(hK:bC K K'){n n':Nat}(hn:n≤n')(v2:List ah):∀m m',m≤m'→∀a0,Le (lz K n v2 m a0) (lz K' n' v2 m' a0):=by
 intro m
 induction m with
 | zero=>intro m' _ a0;exact Le.none
 | succ m ih =>
  intro m' h a0;cases m' with
  | zero=>exact absurd h (Nat.not_succ_le_zero _)
  | succ k=>exact YW hK hn _ (ih k (Nat.le_of_succ_le_succ h)) _
theorem JI{K K':Kn}(hK:bC K K'){n n':Nat}(hn:n≤n')(v1:ah):Le (kB K n v1) (kB K' n' v1):=by
 unfold kB
 with_reducible repeat' first|exact Le.rfl|refine Le.aA ?_|refine Le.ite ?_ ?_|refine Le.both ?_ ?_|exact z4 hK hn _|exact N3 hK hn _ _ _ hn _|refine Le.bind ?_ fun _=>?_
theorem Nf{K K':Kn}(hK:bC K K'){n n':Nat}(hn:n≤n')(v2:List ah){L1 L1':Int→Int→Int→Option (Int×Int)}(hL1:∀a0 a1 a2,Le (L1 a0 a1 a2) (L1' a0 a1 a2))(v8 v9 v10:Int):Le (pk K n v2 L1 v8 v9 v10) (pk K' n' v2 L1' v8 v9 v10):=by
 unfold pk
 with_reducible repeat' first|exact Le.rfl|refine Le.aA ?_|refine Le.ite ?_ ?_|refine Le.both ?_ ?_|exact ZE hK hn _|exact nT hK hn _|exact hL1 _ _ _|refine Le.bind ?_ fun _=>?_
theorem Zy{K K':Kn}(hK:bC K K'){n n':Nat}(hn:n≤n')(v2:List ah):∀m m',m≤m'→∀a0 a1 a2,Le (rp K n v2 m a0 a1 a2) (rp K' n' v2 m' a0 a1 a2):=by
 intro m
 induction m with
 | zero=>intro m' _ a0 a1 a2;exact Le.none
 | succ m ih =>
  intro m' h a0 a1 a2;cases m' with
  | zero=>exact absurd h (Nat.not_succ_le_zero _)
  | succ k=>exact Nf hK hn _ (ih k (Nat.le_of_succ_le_succ h)) _ _ _
theorem Jb{K K':Kn}(hK:bC K K'){n n':Nat}(hn:n≤n')(v1:ah):Le (ld K n v1) (ld K' n' v1):=by
 unfold ld
 with_reducible repeat' first|exact Le.rfl|refine Le.aA ?_|refine Le.ite ?_ ?_|refine Le.both ?_ ?_|exact z4 hK hn _|exact JI hK hn _|exact Vj hK hn _ _|exact nT hK hn _|exact Zy hK hn _ _ _ hn _ _ _|refine Le.bind ?_ fun _=>?_
theorem P0{K K':Kn}(hK:bC K K'){n n':Nat}(hn:n≤n')(v1:ah)(v3 v8:Int):Le (kM K n v1 v3 v8) (kM K' n' v1 v3 v8):=by
 unfold kM
 with_reducible repeat' first|exact Le.rfl|refine Le.aA ?_|refine Le.ite ?_ ?_|refine Le.both ?_ ?_|exact BB hK hn _ _ _|refine Le.bind ?_ fun _=>?_
theorem MU{K K':Kn}(hK:bC K K'){n n':Nat}(hn:n≤n')(v1:ah)(v2:Int):Le (kY K n v1 v2) (kY K' n' v1 v2):=by
 unfold kY
 with_reducible repeat' first|exact Le.rfl|refine Le.aA ?_|refine Le.ite ?_ ?_|refine Le.both ?_ ?_|exact nT hK hn _|exact pA hK hn _ _|exact Jb hK hn _|exact Ae hK hn _ _ _|exact zh hK hn _|exact P0 hK hn _ _ _|refine Le.bind ?_ fun _=>?_
theorem Tp{K K':Kn}(hK:bC K K'){n n':Nat}(hn:n≤n')(v1:List ah)(v2:aF)(v3 v11:Int){L1 L1':Int→Int→(List ab)→Option ((List ab)×Int)}(hL1:∀a0 a1 a2,Le (L1 a0 a1 a2) (L1' a0 a1 a2))(v14:Int)(v15:List ab):Le (jO K n v1 v2 v3 v11 L1 v14 v15) (jO K' n' v1 v2 v3 v11 L1' v14 v15):=by
 unfold jO
 with_reducible repeat' first|exact Le.rfl|refine Le.aA ?_|refine Le.ite ?_ ?_|refine Le.both ?_ ?_|exact hL1 _ _ _|refine Le.bind ?_ fun _=>?_
theorem R9{K K':Kn}(hK:bC K K'){n n':Nat}(hn:n≤n')(v1:List ah)(v2:aF)(v3:Int){L1 L1':Int→Int→(List ab)→Option ((List ab)×Int)}(hL1:∀a0 a1 a2,Le (L1 a0 a1 a2) (L1' a0 a1 a2))(v10 v11:Int)(v12:List ab):Le (gN K n v1 v2 v3 L1 v10 v11 v12) (gN K' n' v1 v2 v3 L1' v10 v11 v12):=by
 unfold gN
 with_reducible repeat' first|exact Le.rfl|refine Le.aA ?_|refine Le.ite ?_ ?_|refine Le.both ?_ ?_|exact Tp hK hn _ _ _ _ hL1 _ _|exact hL1 _ _ _|refine Le.bind ?_ fun _=>?_
theorem SU{K K':Kn}(hK:bC K K'){n n':Nat}(hn:n≤n')(v1:List ah)(v2:aF)(v3:Int):∀m m',m≤m'→∀a0 a1 a2,Le (il K n v1 v2 v3 m a0 a1 a2) (il K' n' v1 v2 v3 m' a0 a1 a2):=by
 intro m
 induction m with
 | zero=>intro m' _ a0 a1 a2;exact Le.none
 | succ m ih =>
  intro m' h a0 a1 a2;cases m' with
  | zero=>exact absurd h (Nat.not_succ_le_zero _)
  | succ k=>exact R9 hK hn _ _ _ (ih k (Nat.le_of_succ_le_succ h)) _ _ _
theorem SL{K K':Kn}(hK:bC K K'){n n':Nat}(hn:n≤n')(v1:List ah)(v2:aF)(v3:Int):Le (jy K n v1 v2 v3) (jy K' n' v1 v2 v3):=by
 unfold jy
 with_reducible repeat' first|exact Le.rfl|refine Le.aA ?_|refine Le.ite ?_ ?_|refine Le.both ?_ ?_|exact SU hK hn _ _ _ _ _ hn _ _ _|refine Le.bind ?_ fun _=>?_
theorem CI{K K':Kn}(hK:bC K K'){n n':Nat}(hn:n≤n')(v1:aq):Le (fJ K n v1) (fJ K' n' v1):=by
 unfold fJ
 with_reducible repeat' first|exact Le.rfl|refine Le.aA ?_|refine Le.ite ?_ ?_|refine Le.both ?_ ?_|refine Le.bind ?_ fun _=>?_
theorem WW{K K':Kn}(hK:bC K K'){n n':Nat}(hn:n≤n')(v1:ab)(v3:Int×Bool)(v5:Int):Le (ly K n v1 v3 v5) (ly K' n' v1 v3 v5):=by
 unfold ly
 with_reducible repeat' first|exact Le.rfl|refine Le.aA ?_|refine Le.ite ?_ ?_|refine Le.both ?_ ?_|refine Le.bind ?_ fun _=>?_
theorem We{K K':Kn}(hK:bC K K'){n n':Nat}(hn:n≤n')(v1:ab)(v2:Int):Le (k8 K n v1 v2) (k8 K' n' v1 v2):=by
 unfold k8
 with_reducible repeat' first|exact Le.rfl|refine Le.aA ?_|refine Le.ite ?_ ?_|refine Le.both ?_ ?_|exact pA hK hn _ _|exact WW hK hn _ _ _|refine Le.bind ?_ fun _=>?_
theorem U2{K K':Kn}(hK:bC K K'){n n':Nat}(hn:n≤n')(v4:aR)(v8:Int)(v13:V4 Int):Le (lf K n v4 v8 v13) (lf K' n' v4 v8 v13):=by
 unfold lf
 with_reducible repeat' first|exact Le.rfl|refine Le.aA ?_|refine Le.ite ?_ ?_|refine Le.both ?_ ?_|refine Le.bind ?_ fun _=>?_
theorem Us{K K':Kn}(hK:bC K K'){n n':Nat}(hn:n≤n')(v3:Int)(v4:aR)(v8 v9:Int)(v10 v11:Int×Bool)(v12:Bool):Le (nC K n v3 v4 v8 v9 v10 v11 v12) (nC K' n' v3 v4 v8 v9 v10 v11 v12):=by
 unfold nC
 with_reducible repeat' first|exact Le.rfl|refine Le.aA ?_|refine Le.ite ?_ ?_|refine Le.both ?_ ?_|exact U2 hK hn _ _ _|refine Le.bind ?_ fun _=>?_
theorem SB{K K':Kn}(hK:bC K K'){n n':Nat}(hn:n≤n')(v1:aF)(v3:Int)(v4:aR)(v7:Int):Le (nL K n v1 v3 v4 v7) (nL K' n' v1 v3 v4 v7):=by
 unfold nL
 with_reducible repeat' first|exact Le.rfl|refine Le.aA ?_|refine Le.ite ?_ ?_|refine Le.both ?_ ?_|exact BB hK hn _ _ _|exact zh hK hn _|exact pA hK hn _ _|exact Us hK hn _ _ _ _ _ _ _|refine Le.bind ?_ fun _=>?_
theorem VK{K K':Kn}(hK:bC K K'){n n':Nat}(hn:n≤n')(v1:aF)(v2:Int):Le (su K n v1 v2) (su K' n' v1 v2):=by
 unfold su
 with_reducible repeat' first|exact Le.rfl|refine Le.aA ?_|refine Le.ite ?_ ?_|refine Le.both ?_ ?_|exact nT hK hn _|exact Ae hK hn _ _ _|exact pA hK hn _ _|exact zh hK hn _|exact SB hK hn _ _ _ _|refine Le.bind ?_ fun _=>?_
theorem MA{K K':Kn}(hK:bC K K'){n n':Nat}(hn:n≤n')(v1:ah)(v2:Int):Le (fv K n v1 v2) (fv K' n' v1 v2):=by
 unfold fv
 with_reducible repeat' first|exact Le.rfl|refine Le.aA ?_|refine Le.ite ?_ ?_|refine Le.both ?_ ?_|exact VK hK hn _ _|exact hK.lN _ _ _|refine Le.bind ?_ fun _=>?_
theorem xn{K K':Kn}(hK:bC K K'){n n':Nat}(hn:n≤n')(v1 v2:aq):Le (hH K n v1 v2) (hH K' n' v1 v2):=by
 unfold hH
 with_reducible repeat' first|exact Le.rfl|refine Le.aA ?_|refine Le.ite ?_ ?_|refine Le.both ?_ ?_|refine Le.bind ?_ fun _=>?_
theorem Ka{K K':Kn}(hK:bC K K'){n n':Nat}(hn:n≤n')(v1:List ab)(v16:Int)(v21:List ab)(v24:Int){L1 L1':Int→Int→aq→Bool→aq→(List ab)→Option ct}(hL1:∀a0 a1 a2 a3 a4 a5,Le (L1 a0 a1 a2 a3 a4 a5) (L1' a0 a1 a2 a3 a4 a5))(v26:Int)(v27:aq)(v28:Bool)(v29:aq):Le (mu K n v1 v16 v21 v24 L1 v26 v27 v28 v29) (mu K' n' v1 v16 v21 v24 L1' v26 v27 v28 v29):=by
 unfold mu
 with_reducible repeat' first|exact Le.rfl|refine Le.aA ?_|refine Le.ite ?_ ?_|refine Le.both ?_ ?_|exact hL1 _ _ _ _ _ _|refine Le.bind ?_ fun _=>?_
theorem Zb{K K':Kn}(hK:bC K K'){n n':Nat}(hn:n≤n')(v1:List ab)(v16 v17:Int)(v19:Bool)(v21:List ab)(v22:aq)(v24:Int){L1 L1':Int→Int→aq→Bool→aq→(List ab)→Option ct}(hL1:∀a0 a1 a2 a3 a4 a5,Le (L1 a0 a1 a2 a3 a4 a5) (L1' a0 a1 a2 a3 a4 a5))(v25:aq):Le (mY K n v1 v16 v17 v19 v21 v22 v24 L1 v25) (mY K' n' v1 v16 v17 v19 v21 v22 v24 L1' v25):=by
 unfold mY
 with_reducible repeat' first|exact Le.rfl|refine Le.aA ?_|refine Le.ite ?_ ?_|refine Le.both ?_ ?_|exact Ka hK hn _ _ _ _ hL1 _ _ _ _|exact hL1 _ _ _ _ _ _|refine Le.bind ?_ fun _=>?_
theorem Rx{K K':Kn}(hK:bC K K'){n n':Nat}(hn:n≤n')(v1:List ab)(v16 v17:Int)(v18:aq)(v19:Bool)(v21:List ab)(v22:aq){L1 L1':Int→Int→aq→Bool→aq→(List ab)→Option ct}(hL1:∀a0 a1 a2 a3 a4 a5,Le (L1 a0 a1 a2 a3 a4 a5) (L1' a0 a1 a2 a3 a4 a5))(v24:Int):Le (nc K n v1 v16 v17 v18 v19 v21 v22 L1 v24) (nc K' n' v1 v16 v17 v18 v19 v21 v22 L1' v24):=by
 unfold nc
 with_reducible repeat' first|exact Le.rfl|refine Le.aA ?_|refine Le.ite ?_ ?_|refine Le.both ?_ ?_|exact Zb hK hn _ _ _ _ _ _ _ hL1 _|exact Ka hK hn _ _ _ _ hL1 _ _ _ _|exact hL1 _ _ _ _ _ _|refine Le.bind ?_ fun _=>?_
theorem R3{K K':Kn}(hK:bC K K'){n n':Nat}(hn:n≤n')(v17:Int)(v19:Bool)(v20:aq)(v21:List ab)(v30:aq):Le (lP K n v17 v19 v20 v21 v30) (lP K' n' v17 v19 v20 v21 v30):=by
 unfold lP
 with_reducible repeat' first|exact Le.rfl|refine Le.aA ?_|refine Le.ite ?_ ?_|refine Le.both ?_ ?_|refine Le.bind ?_ fun _=>?_
theorem Xo{K K':Kn}(hK:bC K K'){n n':Nat}(hn:n≤n')(v1:List ab){L1 L1':Int→Int→aq→Bool→aq→(List ab)→Option ct}(hL1:∀a0 a1 a2 a3 a4 a5,Le (L1 a0 a1 a2 a3 a4 a5) (L1' a0 a1 a2 a3 a4 a5))(v16 v17:Int)(v18:aq)(v19:Bool)(v20:aq)(v21:List ab):Le (lK K n v1 L1 v16 v17 v18 v19 v20 v21) (lK K' n' v1 L1' v16 v17 v18 v19 v20 v21):=by
 unfold lK
 with_reducible repeat' first|exact Le.rfl|refine Le.aA ?_|refine Le.ite ?_ ?_|refine Le.both ?_ ?_|exact xn hK hn _ _|exact CI hK hn _|exact Rx hK hn _ _ _ _ _ _ _ hL1 _|exact R3 hK hn _ _ _ _ _|exact hL1 _ _ _ _ _ _|refine Le.bind ?_ fun _=>?_
theorem Y6{K K':Kn}(hK:bC K K'){n n':Nat}(hn:n≤n')(v1:List ab):∀m m',m≤m'→∀a0 a1 a2 a3 a4 a5,Le (lA K n v1 m a0 a1 a2 a3 a4 a5) (lA K' n' v1 m' a0 a1 a2 a3 a4 a5):=by
 intro m
 induction m with
 | zero=>intro m' _ a0 a1 a2 a3 a4 a5;exact Le.none
 | succ m ih =>
  intro m' h a0 a1 a2 a3 a4 a5;cases m' with
  | zero=>exact absurd h (Nat.not_succ_le_zero _)
  | succ k=>exact Xo hK hn _ (ih k (Nat.le_of_succ_le_succ h)) _ _ _ _ _ _
theorem RR{K K':Kn}(hK:bC K K'){n n':Nat}(hn:n≤n')(v1:List ab):Le (l3 K n v1) (l3 K' n' v1):=by
 unfold l3
 with_reducible repeat' first|exact Le.rfl|refine Le.aA ?_|refine Le.ite ?_ ?_|refine Le.both ?_ ?_|exact Y6 hK hn _ _ _ hn _ _ _ _ _ _|refine Le.bind ?_ fun _=>?_
theorem Pk{K K':Kn}(hK:bC K K'){n n':Nat}(hn:n≤n')(v1:Int):Le (nf K n v1) (nf K' n' v1):=by
 unfold nf
 with_reducible repeat' first|exact Le.rfl|refine Le.aA ?_|refine Le.ite ?_ ?_|refine Le.both ?_ ?_|refine Le.bind ?_ fun _=>?_
theorem ZG{K K':Kn}(hK:bC K K'){n n':Nat}(hn:n≤n')(v1:ah)(v2:aR)(v4:Int)(v5:Bool)(v14:Int)(v15 v16:aq)(v17:Bool)(v18:List ab)(v28:Int)(v37 v38:aq)(v39:Bool)(v59 v60:Int)(v61:List ab){L2 L2':Int→Int→(List ab)→Option ab}(hL2:∀a0 a1 a2,Le (L2 a0 a1 a2) (L2' a0 a1 a2))(v65:ab):Le (lW K n v1 v2 v4 v5 v14 v15 v16 v17 v18 v28 v37 v38 v39 v59 v60 v61 L2 v65) (lW K' n' v1 v2 v4 v5 v14 v15 v16 v17 v18 v28 v37 v38 v39 v59 v60 v61 L2' v65):=by
 unfold lW
 with_reducible repeat' first|exact Le.rfl|refine Le.aA ?_|refine Le.ite ?_ ?_|refine Le.both ?_ ?_|exact hL2 _ _ _|refine Le.bind ?_ fun _=>?_
theorem UP{K K':Kn}(hK:bC K K'){n n':Nat}(hn:n≤n')(v1:ah)(v2:aR)(v4:Int)(v5:Bool)(v14:Int)(v15 v16:aq)(v17:Bool)(v18:List ab)(v28:Int)(v37 v38:aq)(v39:Bool){L2 L2':Int→Int→(List ab)→Option ab}(hL2:∀a0 a1 a2,Le (L2 a0 a1 a2) (L2' a0 a1 a2))(v59 v60:Int)(v61:List ab):Le (lx K n v1 v2 v4 v5 v14 v15 v16 v17 v18 v28 v37 v38 v39 L2 v59 v60 v61) (lx K' n' v1 v2 v4 v5 v14 v15 v16 v17 v18 v28 v37 v38 v39 L2' v59 v60 v61):=by
 unfold lx
 with_reducible repeat' first|exact Le.rfl|refine Le.aA ?_|refine Le.ite ?_ ?_|refine Le.both ?_ ?_|exact We hK hn _ _|exact ZG hK hn _ _ _ _ _ _ _ _ _ _ _ _ _ _ _ _ hL2 _|exact hL2 _ _ _|refine Le.bind ?_ fun _=>?_
theorem OC{K K':Kn}(hK:bC K K'){n n':Nat}(hn:n≤n')(v1:ah)(v2:aR)(v4:Int)(v5:Bool)(v14:Int)(v15 v16:aq)(v17:Bool)(v18:List ab)(v28:Int)(v37 v38:aq)(v39:Bool):∀m m',m≤m'→∀a0 a1 a2,Le (lq K n v1 v2 v4 v5 v14 v15 v16 v17 v18 v28 v37 v38 v39 m a0 a1 a2) (lq K' n' v1 v2 v4 v5 v14 v15 v16 v17 v18 v28 v37 v38 v39 m' a0 a1 a2):=by
 intro m
 induction m with
 | zero=>intro m' _ a0 a1 a2;exact Le.none
 | succ m ih =>
  intro m' h a0 a1 a2;cases m' with
  | zero=>exact absurd h (Nat.not_succ_le_zero _)
  | succ k=>exact UP hK hn _ _ _ _ _ _ _ _ _ _ _ _ _ (ih k (Nat.le_of_succ_le_succ h)) _ _ _
theorem PR{K K':Kn}(hK:bC K K'){n n':Nat}(hn:n≤n')(v1:ah)(v2:aR)(v4:Int)(v5:Bool)(v14:Int)(v15 v16:aq)(v17:Bool)(v18:List ab)(v28:Int)(v37 v38:aq)(v39:Bool)(v40:Int):Le (k9 K n v1 v2 v4 v5 v14 v15 v16 v17 v18 v28 v37 v38 v39 v40) (k9 K' n' v1 v2 v4 v5 v14 v15 v16 v17 v18 v28 v37 v38 v39 v40):=by
 unfold k9
 with_reducible repeat' first|exact Le.rfl|refine Le.aA ?_|refine Le.ite ?_ ?_|refine Le.both ?_ ?_|exact OC hK hn _ _ _ _ _ _ _ _ _ _ _ _ _ _ _ hn _ _ _|refine Le.bind ?_ fun _=>?_
theorem Ke{K K':Kn}(hK:bC K K'){n n':Nat}(hn:n≤n')(v1:ah)(v2:aR)(v4:Int)(v5:Bool)(v14:Int)(v15 v16:aq)(v17:Bool)(v18:List ab)(v19:Int×Bool)(v28 v36:Int)(v37 v38:aq)(v39:Bool):Le (gu K n v1 v2 v4 v5 v14 v15 v16 v17 v18 v19 v28 v36 v37 v38 v39) (gu K' n' v1 v2 v4 v5 v14 v15 v16 v17 v18 v19 v28 v36 v37 v38 v39):=by
 unfold gu
 with_reducible repeat' first|exact Le.rfl|refine Le.aA ?_|refine Le.ite ?_ ?_|refine Le.both ?_ ?_|exact PR hK hn _ _ _ _ _ _ _ _ _ _ _ _ _ _|refine Le.bind ?_ fun _=>?_
theorem WQ{K K':Kn}(hK:bC K K'){n n':Nat}(hn:n≤n')(v1:ah)(v2:aR)(v4:Int)(v5:Bool)(v14:Int)(v15 v16:aq)(v17:Bool)(v18:List ab)(v19:Int×Bool)(v21 v22:Bool)(v24:aq)(v28:Int)(v29:aq)(v33:Bool):Le (mB K n v1 v2 v4 v5 v14 v15 v16 v17 v18 v19 v21 v22 v24 v28 v29 v33) (mB K' n' v1 v2 v4 v5 v14 v15 v16 v17 v18 v19 v21 v22 v24 v28 v29 v33):=by
 unfold mB
 with_reducible repeat' first|exact Le.rfl|refine Le.aA ?_|refine Le.ite ?_ ?_|refine Le.both ?_ ?_|exact xn hK hn _ _|exact Ke hK hn _ _ _ _ _ _ _ _ _ _ _ _ _ _ _|refine Le.bind ?_ fun _=>?_
theorem VY{K K':Kn}(hK:bC K K'){n n':Nat}(hn:n≤n')(v1:ah)(v2:aR)(v4:Int)(v5:Bool)(v14:Int)(v15 v16:aq)(v17:Bool)(v18:List ab)(v19:Int×Bool)(v21 v22:Bool)(v24:aq)(v28:Int)(v29:aq)(v30:Bool):Le (lp K n v1 v2 v4 v5 v14 v15 v16 v17 v18 v19 v21 v22 v24 v28 v29 v30) (lp K' n' v1 v2 v4 v5 v14 v15 v16 v17 v18 v19 v21 v22 v24 v28 v29 v30):=by
 unfold lp
 with_reducible repeat' first|exact Le.rfl|refine Le.aA ?_|refine Le.ite ?_ ?_|refine Le.both ?_ ?_|exact xn hK hn _ _|exact Ke hK hn _ _ _ _ _ _ _ _ _ _ _ _ _ _ _|exact CI hK hn _|exact WQ hK hn _ _ _ _ _ _ _ _ _ _ _ _ _ _ _ _|refine Le.bind ?_ fun _=>?_
theorem E4{K K':Kn}(hK:bC K K'){n n':Nat}(hn:n≤n')(v1:ah)(v2:aR)(v4:Int)(v5:Bool)(v14:Int)(v15 v16:aq)(v17:Bool)(v18:List ab)(v19:Int×Bool)(v21 v22:Bool)(v24:aq)(v28:Int)(v29:aq):Le (kZ K n v1 v2 v4 v5 v14 v15 v16 v17 v18 v19 v21 v22 v24 v28 v29) (kZ K' n' v1 v2 v4 v5 v14 v15 v16 v17 v18 v19 v21 v22 v24 v28 v29):=by
 unfold kZ
 with_reducible repeat' first|exact Le.rfl|refine Le.aA ?_|refine Le.ite ?_ ?_|refine Le.both ?_ ?_|exact VY hK hn _ _ _ _ _ _ _ _ _ _ _ _ _ _ _ _|refine Le.bind ?_ fun _=>?_
theorem PE{K K':Kn}(hK:bC K K'){n n':Nat}(hn:n≤n')(v1:ah)(v2:aR)(v4:Int)(v5:Bool)(v14:Int)(v15 v16:aq)(v17:Bool)(v18:List ab)(v19:Int×Bool)(v21 v22:Bool)(v23 v24:aq)(v26:Bool):Le (m9 K n v1 v2 v4 v5 v14 v15 v16 v17 v18 v19 v21 v22 v23 v24 v26) (m9 K' n' v1 v2 v4 v5 v14 v15 v16 v17 v18 v19 v21 v22 v23 v24 v26):=by
 unfold m9
 with_reducible repeat' first|exact Le.rfl|refine Le.aA ?_|refine Le.ite ?_ ?_|refine Le.both ?_ ?_|exact CI hK hn _|exact E4 hK hn _ _ _ _ _ _ _ _ _ _ _ _ _ _ _|refine Le.bind ?_ fun _=>?_
theorem PJ{K K':Kn}(hK:bC K K'){n n':Nat}(hn:n≤n')(v1:ah)(v2:aR)(v4:Int)(v5:Bool)(v14:Int)(v15 v16:aq)(v17:Bool)(v18:List ab)(v19:Int×Bool)(v21 v22:Bool):Le (iz K n v1 v2 v4 v5 v14 v15 v16 v17 v18 v19 v21 v22) (iz K' n' v1 v2 v4 v5 v14 v15 v16 v17 v18 v19 v21 v22):=by
 unfold iz
 with_reducible repeat' first|exact Le.rfl|refine Le.aA ?_|refine Le.ite ?_ ?_|refine Le.both ?_ ?_|exact Pk hK hn _|exact xn hK hn _ _|exact E4 hK hn _ _ _ _ _ _ _ _ _ _ _ _ _ _ _|exact PE hK hn _ _ _ _ _ _ _ _ _ _ _ _ _ _ _|refine Le.bind ?_ fun _=>?_
theorem Qa{K K':Kn}(hK:bC K K'){n n':Nat}(hn:n≤n')(v1:ah)(v2:aR)(v4:Int)(v5:Bool)(v14:Int)(v15 v16:aq)(v17:Bool)(v18:List ab)(v19:Int×Bool)(v20 v21:Bool):Le (lU K n v1 v2 v4 v5 v14 v15 v16 v17 v18 v19 v20 v21) (lU K' n' v1 v2 v4 v5 v14 v15 v16 v17 v18 v19 v20 v21):=by
 unfold lU
 with_reducible repeat' first|exact Le.rfl|refine Le.aA ?_|refine Le.ite ?_ ?_|refine Le.both ?_ ?_|exact PJ hK hn _ _ _ _ _ _ _ _ _ _ _ _|refine Le.bind ?_ fun _=>?_
theorem N9{K K':Kn}(hK:bC K K'){n n':Nat}(hn:n≤n')(v1:ah)(v2:aR)(v4:Int)(v5:Bool)(v14:Int)(v15 v16:aq)(v17:Bool)(v18:List ab)(v19:Int×Bool)(v20:Bool):Le (ng K n v1 v2 v4 v5 v14 v15 v16 v17 v18 v19 v20) (ng K' n' v1 v2 v4 v5 v14 v15 v16 v17 v18 v19 v20):=by
 unfold ng
 with_reducible repeat' first|exact Le.rfl|refine Le.aA ?_|refine Le.ite ?_ ?_|refine Le.both ?_ ?_|exact Qa hK hn _ _ _ _ _ _ _ _ _ _ _ _|refine Le.bind ?_ fun _=>?_
theorem JT{K K':Kn}(hK:bC K K'){n n':Nat}(hn:n≤n')(v1:ah)(v2:aR)(v3:Bool)(v4:Int)(v5:Bool)(v14:Int)(v15 v16:aq)(v17:Bool)(v18:List ab):Le (iA K n v1 v2 v3 v4 v5 v14 v15 v16 v17 v18) (iA K' n' v1 v2 v3 v4 v5 v14 v15 v16 v17 v18):=by
 unfold iA
 with_reducible repeat' first|exact Le.rfl|refine Le.aA ?_|refine Le.ite ?_ ?_|refine Le.both ?_ ?_|exact Ly hK hn _|exact N9 hK hn _ _ _ _ _ _ _ _ _ _ _|refine Le.bind ?_ fun _=>?_
theorem Wr{K K':Kn}(hK:bC K K'){n n':Nat}(hn:n≤n')(v1:ah)(v2:aR)(v3:Bool)(v4:Int)(v5:Bool)(v6:List ah){L1 L1':Int→(List ab)→Option ab}(hL1:∀a0 a1,Le (L1 a0 a1) (L1' a0 a1))(v9:Int)(v10:List ab):Le (mE K n v1 v2 v3 v4 v5 v6 L1 v9 v10) (mE K' n' v1 v2 v3 v4 v5 v6 L1' v9 v10):=by
 unfold mE
 with_reducible repeat' first|exact Le.rfl|refine Le.aA ?_|refine Le.ite ?_ ?_|refine Le.both ?_ ?_|exact MA hK hn _ _|exact RR hK hn _|exact JT hK hn _ _ _ _ _ _ _ _ _ _|exact hL1 _ _|refine Le.bind ?_ fun _=>?_
theorem SD{K K':Kn}(hK:bC K K'){n n':Nat}(hn:n≤n')(v1:ah)(v2:aR)(v3:Bool)(v4:Int)(v5:Bool)(v6:List ah):∀m m',m≤m'→∀a0 a1,Le (kg K n v1 v2 v3 v4 v5 v6 m a0 a1) (kg K' n' v1 v2 v3 v4 v5 v6 m' a0 a1):=by
 intro m
 induction m with
 | zero=>intro m' _ a0 a1;exact Le.none
 | succ m ih =>
  intro m' h a0 a1;cases m' with
  | zero=>exact absurd h (Nat.not_succ_le_zero _)
  | succ k=>exact Wr hK hn _ _ _ _ _ _ (ih k (Nat.le_of_succ_le_succ h)) _ _
theorem Gz{K K':Kn}(hK:bC K K'){n n':Nat}(hn:n≤n')(v1:ah)(v2:aR)(v3:Bool):Le (kI K n v1 v2 v3) (kI K' n' v1 v2 v3):=by
 unfold kI
 with_reducible repeat' first|exact Le.rfl|refine Le.aA ?_|refine Le.ite ?_ ?_|refine Le.both ?_ ?_|exact JI hK hn _|exact z4 hK hn _|exact SD hK hn _ _ _ _ _ _ _ _ hn _ _|exact SL hK hn _ _ _|exact JT hK hn _ _ _ _ _ _ _ _ _ _|refine Le.bind ?_ fun _=>?_
theorem Ms{K K':Kn}(hK:bC K K'){n n':Nat}(hn:n≤n')(v1:ah)(v2:aR):Le (jT K n v1 v2) (jT K' n' v1 v2):=by
 unfold jT
 with_reducible repeat' first|exact Le.rfl|refine Le.aA ?_|refine Le.ite ?_ ?_|refine Le.both ?_ ?_|exact Gz hK hn _ _ _|refine Le.bind ?_ fun _=>?_
theorem zX:∀n m,n≤m→bC (KN n) (KN m)
 | 0,m,_=>by refine⟨fun _=>Le.none,fun _ _ _=>Le.none⟩
 | n+1,0,h=>absurd h (Nat.not_succ_le_zero _)
 | n+1,m+1,h=>by
  have hK:=zX n m (Nat.le_of_succ_le_succ h);have hn:=Nat.le_of_succ_le_succ h;refine⟨?_,?_⟩
  ·exact fun _=>Jb hK hn _
  ·exact fun _ _ _=>Gz hK hn _ _ _
end Go.Proofs.YtnpmlepplfaijaaGreat

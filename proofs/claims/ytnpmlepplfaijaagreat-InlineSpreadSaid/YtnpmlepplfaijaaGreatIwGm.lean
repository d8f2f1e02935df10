/- More rounds and deeper calls never change an answer. Made by a program. -/
import Derived.Test.YtnpmlepplfaijaaGreatIwGf
namespace Go.Proofs.YtnpmlepplfaijaaGreat
open Go.RowKit
set_option maxRecDepth 20000
set_option linter.all false
def Le{α:Type}(x y:Option α):Prop:=∀r,x=some r→y=some r
theorem Le.rfl{α:Type}{x:Option α}:Le x x:=fun _ h=>h
theorem Le.none{α:Type}{y:Option α}:Le (none:Option α) y:=fun _ h=>by cases h
theorem Le.aC{α:Type}{c:Bool}{x y:Option α}(h:Le x y):Le (aC c x) (Go.Proofs.YtnpmlepplfaijaaGreat.aC c y):=by cases c;exact Le.rfl;exact h
theorem Le.ite{α:Type}{c:Prop}[Decidable c]{x y x' y':Option α}(h:Le x x')(h2:Le y y'):Le (if c then x else y) (if c then x' else y'):=by split;exact h;exact h2
theorem Le.bind{α β:Type}{x x':Option α}{f f':α→Option β}(h:Le x x')(h2:∀a,Le (f a) (f' a)):Le (x.bind f) (x'.bind f'):=by
 intro r hr;cases hx:x with
 | none=>rw[hx]at hr;cases hr
 | some a=>rw[hx]at hr;rw[h a hx];exact h2 a r hr
theorem Le.both{α:Type}{c:Bool}{x y x' y':Option α}(h:Le x x')(h2:Le y y'):Le (both c x y) (Go.Proofs.YtnpmlepplfaijaaGreat.both c x' y'):=by
 intro r hr;unfold Go.Proofs.YtnpmlepplfaijaaGreat.both at hr⊢;split at hr
 ·rename_i hc;rw[if_pos hc];split at hr
  ·rename_i e;rw[h r hr,h2 r (e ▸ hr),if_pos];exact _root_.rfl
  ·cases hr
 ·rename_i hc;rw[if_neg hc];exact h2 r hr
structure bN(K K':Kn):Prop where
 jS:∀a0,Le (K.jS a0) (K'.jS a0)
 mw:∀a0 a1 a2,Le (K.mw a0 a1 a2) (K'.mw a0 a1 a2)
theorem Z8{K K':Kn}(hK:bN K K'){n n':Nat}(hn:n≤n')(v2:Bool):Le (mV K n v2) (mV K' n' v2):=by
 unfold mV
 with_reducible repeat' first|exact Le.rfl|refine Le.aC ?_|refine Le.ite ?_ ?_|refine Le.both ?_ ?_|refine Le.bind ?_ fun _=>?_
theorem St{K K':Kn}(hK:bN K K'){n n':Nat}(hn:n≤n')(v1:ai):Le (iQ K n v1) (iQ K' n' v1):=by
 unfold iQ
 with_reducible repeat' first|exact Le.rfl|refine Le.aC ?_|refine Le.ite ?_ ?_|refine Le.both ?_ ?_|exact Z8 hK hn _|refine Le.bind ?_ fun _=>?_
theorem qk{K K':Kn}(hK:bN K K'){n n':Nat}(hn:n≤n')(v1:Int):Le (d9 K n v1) (d9 K' n' v1):=by
 unfold d9
 with_reducible repeat' first|exact Le.rfl|refine Le.aC ?_|refine Le.ite ?_ ?_|refine Le.both ?_ ?_|refine Le.bind ?_ fun _=>?_
theorem Lo{K K':Kn}(hK:bN K K'){n n':Nat}(hn:n≤n')(v1:Int):Le (iT K n v1) (iT K' n' v1):=by
 unfold iT
 with_reducible repeat' first|exact Le.rfl|refine Le.aC ?_|refine Le.ite ?_ ?_|refine Le.both ?_ ?_|refine Le.bind ?_ fun _=>?_
theorem qw{K K':Kn}(hK:bN K K'){n n':Nat}(hn:n≤n')(v1:cr)(v2:Int):Le (dH K n v1 v2) (dH K' n' v1 v2):=by
 unfold dH
 with_reducible repeat' first|exact Le.rfl|refine Le.aC ?_|refine Le.ite ?_ ?_|refine Le.both ?_ ?_|exact Lo hK hn _|exact qk hK hn _|refine Le.bind ?_ fun _=>?_
theorem EJ{K K':Kn}(hK:bN K K'){n n':Nat}(hn:n≤n')(v1:aI)(v2 v3:Int):Le (jo K n v1 v2 v3) (jo K' n' v1 v2 v3):=by
 unfold jo
 with_reducible repeat' first|exact Le.rfl|refine Le.aC ?_|refine Le.ite ?_ ?_|refine Le.both ?_ ?_|exact qw hK hn _ _|exact qk hK hn _|refine Le.bind ?_ fun _=>?_
theorem Ah{K K':Kn}(hK:bN K K'){n n':Nat}(hn:n≤n')(v1:aV):Le (jq K n v1) (jq K' n' v1):=by
 unfold jq
 with_reducible repeat' first|exact Le.rfl|refine Le.aC ?_|refine Le.ite ?_ ?_|refine Le.both ?_ ?_|refine Le.bind ?_ fun _=>?_
theorem Zc{K K':Kn}(hK:bN K K'){n n':Nat}(hn:n≤n')(v1:List ai){L1 L1':Int→Int→Int→Option (Int×Int)}(hL1:∀a0 a1 a2,Le (L1 a0 a1 a2) (L1' a0 a1 a2))(v3 v4 v5:Int):Le (hJ K n v1 L1 v3 v4 v5) (hJ K' n' v1 L1' v3 v4 v5):=by
 unfold hJ
 with_reducible repeat' first|exact Le.rfl|refine Le.aC ?_|refine Le.ite ?_ ?_|refine Le.both ?_ ?_|exact hL1 _ _ _|refine Le.bind ?_ fun _=>?_
theorem UR{K K':Kn}(hK:bN K K'){n n':Nat}(hn:n≤n')(v1:List ai):∀m m',m≤m'→∀a0 a1 a2,Le (jx K n v1 m a0 a1 a2) (jx K' n' v1 m' a0 a1 a2):=by
 intro m
 induction m with
 | zero=>intro m' _ a0 a1 a2;exact Le.none
 | succ m ih =>
  intro m' h a0 a1 a2;cases m' with
  | zero=>exact absurd h (Nat.not_succ_le_zero _)
  | succ k=>exact Zc hK hn _ (ih k (Nat.le_of_succ_le_succ h)) _ _ _
theorem Sz{K K':Kn}(hK:bN K K'){n n':Nat}(hn:n≤n')(v1:List ai)(v2:aI):Le (j0 K n v1 v2) (j0 K' n' v1 v2):=by
 unfold j0
 with_reducible repeat' first|exact Le.rfl|refine Le.aC ?_|refine Le.ite ?_ ?_|refine Le.both ?_ ?_|exact UR hK hn _ _ _ hn _ _ _|refine Le.bind ?_ fun _=>?_
theorem OD{K K':Kn}(hK:bN K K'){n n':Nat}(hn:n≤n')(v7:Int):Le (mf K n v7) (mf K' n' v7):=by
 unfold mf
 with_reducible repeat' first|exact Le.rfl|refine Le.aC ?_|refine Le.ite ?_ ?_|refine Le.both ?_ ?_|refine Le.bind ?_ fun _=>?_
theorem abP{K K':Kn}(hK:bN K K'){n n':Nat}(hn:n≤n')(v1:aI)(v2 v5:Int):Le (mu K n v1 v2 v5) (mu K' n' v1 v2 v5):=by
 unfold mu
 with_reducible repeat' first|exact Le.rfl|refine Le.aC ?_|refine Le.ite ?_ ?_|refine Le.both ?_ ?_|exact qw hK hn _ _|exact OD hK hn _|refine Le.bind ?_ fun _=>?_
theorem Co{K K':Kn}(hK:bN K K'){n n':Nat}(hn:n≤n')(v1:aI)(v2 v3:Int):Le (iU K n v1 v2 v3) (iU K' n' v1 v2 v3):=by
 unfold iU
 with_reducible repeat' first|exact Le.rfl|refine Le.aC ?_|refine Le.ite ?_ ?_|refine Le.both ?_ ?_|exact qw hK hn _ _|exact abP hK hn _ _ _|refine Le.bind ?_ fun _=>?_
theorem ZB{K K':Kn}(hK:bN K K'){n n':Nat}(hn:n≤n')(v1:cr):Le (eW K n v1) (eW K' n' v1):=by
 unfold eW
 with_reducible repeat' first|exact Le.rfl|refine Le.aC ?_|refine Le.ite ?_ ?_|refine Le.both ?_ ?_|refine Le.bind ?_ fun _=>?_
theorem Ue{K K':Kn}(hK:bN K K'){n n':Nat}(hn:n≤n')(v1:aI):Le (mD K n v1) (mD K' n' v1):=by
 unfold mD
 with_reducible repeat' first|exact Le.rfl|refine Le.aC ?_|refine Le.ite ?_ ?_|refine Le.both ?_ ?_|exact ZB hK hn _|refine Le.bind ?_ fun _=>?_
theorem Jd{K K':Kn}(hK:bN K K'){n n':Nat}(hn:n≤n')(v1:cr):Le (lz K n v1) (lz K' n' v1):=by
 unfold lz
 with_reducible repeat' first|exact Le.rfl|refine Le.aC ?_|refine Le.ite ?_ ?_|refine Le.both ?_ ?_|exact Lo hK hn _|refine Le.bind ?_ fun _=>?_
theorem U6{K K':Kn}(hK:bN K K'){n n':Nat}(hn:n≤n')(v4:aI)(v8 v9:Int):Le (lA K n v4 v8 v9) (lA K' n' v4 v8 v9):=by
 unfold lA
 with_reducible repeat' first|exact Le.rfl|refine Le.aC ?_|refine Le.ite ?_ ?_|refine Le.both ?_ ?_|exact EJ hK hn _ _ _|exact Ah hK hn _|exact Co hK hn _ _ _|refine Le.bind ?_ fun _=>?_
theorem Vt{K K':Kn}(hK:bN K K'){n n':Nat}(hn:n≤n')(v1:aI)(v2 v3:Int):Le (oC K n v1 v2 v3) (oC K' n' v1 v2 v3):=by
 unfold oC
 with_reducible repeat' first|exact Le.rfl|refine Le.aC ?_|refine Le.ite ?_ ?_|refine Le.both ?_ ?_|exact Ue hK hn _|exact qk hK hn _|exact Jd hK hn _|exact U6 hK hn _ _ _|refine Le.bind ?_ fun _=>?_
theorem Mm{K K':Kn}(hK:bN K K'){n n':Nat}(hn:n≤n')(v1:ai):Le (fS K n v1) (fS K' n' v1):=by
 unfold fS
 with_reducible repeat' first|exact Le.rfl|refine Le.aC ?_|refine Le.ite ?_ ?_|refine Le.both ?_ ?_|exact Vt hK hn _ _ _|exact hK.jS _|refine Le.bind ?_ fun _=>?_
theorem UC{K K':Kn}(hK:bN K K'){n n':Nat}(hn:n≤n')(v1:ai)(v8:Int){L1 L1':Int→(List ai)→Option (List ai)}(hL1:∀a0 a1,Le (L1 a0 a1) (L1' a0 a1))(v11:List ai):Le (l8 K n v1 v8 L1 v11) (l8 K' n' v1 v8 L1' v11):=by
 unfold l8
 with_reducible repeat' first|exact Le.rfl|refine Le.aC ?_|refine Le.ite ?_ ?_|refine Le.both ?_ ?_|exact hL1 _ _|refine Le.bind ?_ fun _=>?_
theorem TB{K K':Kn}(hK:bN K K'){n n':Nat}(hn:n≤n')(v1:ai){L1 L1':Int→(List ai)→Option (List ai)}(hL1:∀a0 a1,Le (L1 a0 a1) (L1' a0 a1))(v8:Int)(v9:List ai):Le (mn K n v1 L1 v8 v9) (mn K' n' v1 L1' v8 v9):=by
 unfold mn
 with_reducible repeat' first|exact Le.rfl|refine Le.aC ?_|refine Le.ite ?_ ?_|refine Le.both ?_ ?_|exact St hK hn _|exact UC hK hn _ _ hL1 _|exact hL1 _ _|refine Le.bind ?_ fun _=>?_
theorem Qm{K K':Kn}(hK:bN K K'){n n':Nat}(hn:n≤n')(v1:ai):∀m m',m≤m'→∀a0 a1,Le (lV K n v1 m a0 a1) (lV K' n' v1 m' a0 a1):=by
 intro m
 induction m with
 | zero=>intro m' _ a0 a1;exact Le.none
 | succ m ih =>
  intro m' h a0 a1;cases m' with
  | zero=>exact absurd h (Nat.not_succ_le_zero _)
  | succ k=>exact TB hK hn _ (ih k (Nat.le_of_succ_le_succ h)) _ _
theorem Dt{K K':Kn}(hK:bN K K'){n n':Nat}(hn:n≤n')(v1:ai):Le (kW K n v1) (kW K' n' v1):=by
 unfold kW
 with_reducible repeat' first|exact Le.rfl|refine Le.aC ?_|refine Le.ite ?_ ?_|refine Le.both ?_ ?_|exact Qm hK hn _ _ _ hn _ _|refine Le.bind ?_ fun _=>?_
theorem YG{K K':Kn}(hK:bN K K'){n n':Nat}(hn:n≤n')(v2:List ai){L1 L1':Int→Option Bool}(hL1:∀a0,Le (L1 a0) (L1' a0))(v4:Int):Le (mL K n v2 L1 v4) (mL K' n' v2 L1' v4):=by
 unfold mL
 with_reducible repeat' first|exact Le.rfl|refine Le.aC ?_|refine Le.ite ?_ ?_|refine Le.both ?_ ?_|exact hL1 _|refine Le.bind ?_ fun _=>?_
theorem Xz{K K':Kn}(hK:bN K K'){n n':Nat}(hn:n≤n')(v2:List ai):∀m m',m≤m'→∀a0,Le (nI K n v2 m a0) (nI K' n' v2 m' a0):=by
 intro m
 induction m with
 | zero=>intro m' _ a0;exact Le.none
 | succ m ih =>
  intro m' h a0;cases m' with
  | zero=>exact absurd h (Nat.not_succ_le_zero _)
  | succ k=>exact YG hK hn _ (ih k (Nat.le_of_succ_le_succ h)) _
theorem Iy{K K':Kn}(hK:bN K K'){n n':Nat}(hn:n≤n')(v1:ai):Le (k9 K n v1) (k9 K' n' v1):=by
 unfold k9
 with_reducible repeat' first|exact Le.rfl|refine Le.aC ?_|refine Le.ite ?_ ?_|refine Le.both ?_ ?_|exact Dt hK hn _|exact Xz hK hn _ _ _ hn _|refine Le.bind ?_ fun _=>?_
theorem aaK{K K':Kn}(hK:bN K K'){n n':Nat}(hn:n≤n')(v2:List ai){L1 L1':Int→Int→Int→Option (Int×Int)}(hL1:∀a0 a1 a2,Le (L1 a0 a1 a2) (L1' a0 a1 a2))(v8 v9 v10:Int):Le (n3 K n v2 L1 v8 v9 v10) (n3 K' n' v2 L1' v8 v9 v10):=by
 unfold n3
 with_reducible repeat' first|exact Le.rfl|refine Le.aC ?_|refine Le.ite ?_ ?_|refine Le.both ?_ ?_|exact Mm hK hn _|exact qk hK hn _|exact hL1 _ _ _|refine Le.bind ?_ fun _=>?_
theorem Z0{K K':Kn}(hK:bN K K'){n n':Nat}(hn:n≤n')(v2:List ai):∀m m',m≤m'→∀a0 a1 a2,Le (rc K n v2 m a0 a1 a2) (rc K' n' v2 m' a0 a1 a2):=by
 intro m
 induction m with
 | zero=>intro m' _ a0 a1 a2;exact Le.none
 | succ m ih =>
  intro m' h a0 a1 a2;cases m' with
  | zero=>exact absurd h (Nat.not_succ_le_zero _)
  | succ k=>exact aaK hK hn _ (ih k (Nat.le_of_succ_le_succ h)) _ _ _
theorem Mi{K K':Kn}(hK:bN K K'){n n':Nat}(hn:n≤n')(v1:ai):Le (iq K n v1) (iq K' n' v1):=by
 unfold iq
 with_reducible repeat' first|exact Le.rfl|refine Le.aC ?_|refine Le.ite ?_ ?_|refine Le.both ?_ ?_|exact Dt hK hn _|exact Iy hK hn _|exact Sz hK hn _ _|exact qk hK hn _|exact Z0 hK hn _ _ _ hn _ _ _|refine Le.bind ?_ fun _=>?_
theorem Up{K K':Kn}(hK:bN K K'){n n':Nat}(hn:n≤n')(v1:ai)(v3 v8:Int):Le (lS K n v1 v3 v8) (lS K' n' v1 v3 v8):=by
 unfold lS
 with_reducible repeat' first|exact Le.rfl|refine Le.aC ?_|refine Le.ite ?_ ?_|refine Le.both ?_ ?_|exact Co hK hn _ _ _|refine Le.bind ?_ fun _=>?_
theorem VW{K K':Kn}(hK:bN K K'){n n':Nat}(hn:n≤n')(v1:ai)(v2:Int):Le (lp K n v1 v2) (lp K' n' v1 v2):=by
 unfold lp
 with_reducible repeat' first|exact Le.rfl|refine Le.aC ?_|refine Le.ite ?_ ?_|refine Le.both ?_ ?_|exact qk hK hn _|exact qw hK hn _ _|exact Mi hK hn _|exact EJ hK hn _ _ _|exact Ah hK hn _|exact Up hK hn _ _ _|refine Le.bind ?_ fun _=>?_
theorem Qc{K K':Kn}(hK:bN K K'){n n':Nat}(hn:n≤n')(v1:List ai)(v2:aI)(v3 v11:Int){L1 L1':Int→Int→(List ah)→Option ((List ah)×Int)}(hL1:∀a0 a1 a2,Le (L1 a0 a1 a2) (L1' a0 a1 a2))(v14:Int)(v15:List ah):Le (jv K n v1 v2 v3 v11 L1 v14 v15) (jv K' n' v1 v2 v3 v11 L1' v14 v15):=by
 unfold jv
 with_reducible repeat' first|exact Le.rfl|refine Le.aC ?_|refine Le.ite ?_ ?_|refine Le.both ?_ ?_|exact hL1 _ _ _|refine Le.bind ?_ fun _=>?_
theorem RE{K K':Kn}(hK:bN K K'){n n':Nat}(hn:n≤n')(v1:List ai)(v2:aI)(v3:Int){L1 L1':Int→Int→(List ah)→Option ((List ah)×Int)}(hL1:∀a0 a1 a2,Le (L1 a0 a1 a2) (L1' a0 a1 a2))(v10 v11:Int)(v12:List ah):Le (iw K n v1 v2 v3 L1 v10 v11 v12) (iw K' n' v1 v2 v3 L1' v10 v11 v12):=by
 unfold iw
 with_reducible repeat' first|exact Le.rfl|refine Le.aC ?_|refine Le.ite ?_ ?_|refine Le.both ?_ ?_|exact Qc hK hn _ _ _ _ hL1 _ _|exact hL1 _ _ _|refine Le.bind ?_ fun _=>?_
theorem V6{K K':Kn}(hK:bN K K'){n n':Nat}(hn:n≤n')(v1:List ai)(v2:aI)(v3:Int):∀m m',m≤m'→∀a0 a1 a2,Le (i8 K n v1 v2 v3 m a0 a1 a2) (i8 K' n' v1 v2 v3 m' a0 a1 a2):=by
 intro m
 induction m with
 | zero=>intro m' _ a0 a1 a2;exact Le.none
 | succ m ih =>
  intro m' h a0 a1 a2;cases m' with
  | zero=>exact absurd h (Nat.not_succ_le_zero _)
  | succ k=>exact RE hK hn _ _ _ (ih k (Nat.le_of_succ_le_succ h)) _ _ _
theorem abR{K K':Kn}(hK:bN K K'){n n':Nat}(hn:n≤n')(v1:List ai)(v2:aI)(v3:Int):Le (jr K n v1 v2 v3) (jr K' n' v1 v2 v3):=by
 unfold jr
 with_reducible repeat' first|exact Le.rfl|refine Le.aC ?_|refine Le.ite ?_ ?_|refine Le.both ?_ ?_|exact V6 hK hn _ _ _ _ _ hn _ _ _|refine Le.bind ?_ fun _=>?_
theorem FZ{K K':Kn}(hK:bN K K'){n n':Nat}(hn:n≤n')(v1:ax):Le (gA K n v1) (gA K' n' v1):=by
 unfold gA
 with_reducible repeat' first|exact Le.rfl|refine Le.aC ?_|refine Le.ite ?_ ?_|refine Le.both ?_ ?_|refine Le.bind ?_ fun _=>?_
theorem WB{K K':Kn}(hK:bN K K'){n n':Nat}(hn:n≤n')(v1:ah)(v3:Int×Bool)(v5:Int):Le (mU K n v1 v3 v5) (mU K' n' v1 v3 v5):=by
 unfold mU
 with_reducible repeat' first|exact Le.rfl|refine Le.aC ?_|refine Le.ite ?_ ?_|refine Le.both ?_ ?_|refine Le.bind ?_ fun _=>?_
theorem abf{K K':Kn}(hK:bN K K'){n n':Nat}(hn:n≤n')(v1:ah)(v2:Int):Le (lP K n v1 v2) (lP K' n' v1 v2):=by
 unfold lP
 with_reducible repeat' first|exact Le.rfl|refine Le.aC ?_|refine Le.ite ?_ ?_|refine Le.both ?_ ?_|exact qw hK hn _ _|exact WB hK hn _ _ _|refine Le.bind ?_ fun _=>?_
theorem Z2{K K':Kn}(hK:bN K K'){n n':Nat}(hn:n≤n')(v4:aV)(v8:Int)(v13:V4 Int):Le (lq K n v4 v8 v13) (lq K' n' v4 v8 v13):=by
 unfold lq
 with_reducible repeat' first|exact Le.rfl|refine Le.aC ?_|refine Le.ite ?_ ?_|refine Le.both ?_ ?_|refine Le.bind ?_ fun _=>?_
theorem aaa{K K':Kn}(hK:bN K K'){n n':Nat}(hn:n≤n')(v3:Int)(v4:aV)(v8 v9:Int)(v10 v11:Int×Bool)(v12:Bool):Le (pY K n v3 v4 v8 v9 v10 v11 v12) (pY K' n' v3 v4 v8 v9 v10 v11 v12):=by
 unfold pY
 with_reducible repeat' first|exact Le.rfl|refine Le.aC ?_|refine Le.ite ?_ ?_|refine Le.both ?_ ?_|exact Z2 hK hn _ _ _|refine Le.bind ?_ fun _=>?_
theorem Vw{K K':Kn}(hK:bN K K'){n n':Nat}(hn:n≤n')(v1:aI)(v3:Int)(v4:aV)(v7:Int):Le (pC K n v1 v3 v4 v7) (pC K' n' v1 v3 v4 v7):=by
 unfold pC
 with_reducible repeat' first|exact Le.rfl|refine Le.aC ?_|refine Le.ite ?_ ?_|refine Le.both ?_ ?_|exact Co hK hn _ _ _|exact Ah hK hn _|exact qw hK hn _ _|exact aaa hK hn _ _ _ _ _ _ _|refine Le.bind ?_ fun _=>?_
theorem Qe{K K':Kn}(hK:bN K K'){n n':Nat}(hn:n≤n')(v1:aI)(v2:Int):Le (tT K n v1 v2) (tT K' n' v1 v2):=by
 unfold tT
 with_reducible repeat' first|exact Le.rfl|refine Le.aC ?_|refine Le.ite ?_ ?_|refine Le.both ?_ ?_|exact qk hK hn _|exact EJ hK hn _ _ _|exact qw hK hn _ _|exact Ah hK hn _|exact Vw hK hn _ _ _ _|refine Le.bind ?_ fun _=>?_
theorem OZ{K K':Kn}(hK:bN K K'){n n':Nat}(hn:n≤n')(v1:ai)(v2:Int):Le (fM K n v1 v2) (fM K' n' v1 v2):=by
 unfold fM
 with_reducible repeat' first|exact Le.rfl|refine Le.aC ?_|refine Le.ite ?_ ?_|refine Le.both ?_ ?_|exact Qe hK hn _ _|exact hK.mw _ _ _|refine Le.bind ?_ fun _=>?_
theorem yl{K K':Kn}(hK:bN K K'){n n':Nat}(hn:n≤n')(v1 v2:ax):Le (ip K n v1 v2) (ip K' n' v1 v2):=by
 unfold ip
 with_reducible repeat' first|exact Le.rfl|refine Le.aC ?_|refine Le.ite ?_ ?_|refine Le.both ?_ ?_|refine Le.bind ?_ fun _=>?_
theorem Km{K K':Kn}(hK:bN K K'){n n':Nat}(hn:n≤n')(v1:List ah)(v16:Int)(v21:List ah)(v24:Int){L1 L1':Int→Int→ax→Bool→ax→(List ah)→Option cC}(hL1:∀a0 a1 a2 a3 a4 a5,Le (L1 a0 a1 a2 a3 a4 a5) (L1' a0 a1 a2 a3 a4 a5))(v26:Int)(v27:ax)(v28:Bool)(v29:ax):Le (nn K n v1 v16 v21 v24 L1 v26 v27 v28 v29) (nn K' n' v1 v16 v21 v24 L1' v26 v27 v28 v29):=by
 unfold nn
 with_reducible repeat' first|exact Le.rfl|refine Le.aC ?_|refine Le.ite ?_ ?_|refine Le.both ?_ ?_|exact hL1 _ _ _ _ _ _|refine Le.bind ?_ fun _=>?_
theorem Yp{K K':Kn}(hK:bN K K'){n n':Nat}(hn:n≤n')(v1:List ah)(v16 v17:Int)(v19:Bool)(v21:List ah)(v22:ax)(v24:Int){L1 L1':Int→Int→ax→Bool→ax→(List ah)→Option cC}(hL1:∀a0 a1 a2 a3 a4 a5,Le (L1 a0 a1 a2 a3 a4 a5) (L1' a0 a1 a2 a3 a4 a5))(v25:ax):Le (l4 K n v1 v16 v17 v19 v21 v22 v24 L1 v25) (l4 K' n' v1 v16 v17 v19 v21 v22 v24 L1' v25):=by
 unfold l4
 with_reducible repeat' first|exact Le.rfl|refine Le.aC ?_|refine Le.ite ?_ ?_|refine Le.both ?_ ?_|exact Km hK hn _ _ _ _ hL1 _ _ _ _|exact hL1 _ _ _ _ _ _|refine Le.bind ?_ fun _=>?_
theorem TU{K K':Kn}(hK:bN K K'){n n':Nat}(hn:n≤n')(v1:List ah)(v16 v17:Int)(v18:ax)(v19:Bool)(v21:List ah)(v22:ax){L1 L1':Int→Int→ax→Bool→ax→(List ah)→Option cC}(hL1:∀a0 a1 a2 a3 a4 a5,Le (L1 a0 a1 a2 a3 a4 a5) (L1' a0 a1 a2 a3 a4 a5))(v24:Int):Le (lU K n v1 v16 v17 v18 v19 v21 v22 L1 v24) (lU K' n' v1 v16 v17 v18 v19 v21 v22 L1' v24):=by
 unfold lU
 with_reducible repeat' first|exact Le.rfl|refine Le.aC ?_|refine Le.ite ?_ ?_|refine Le.both ?_ ?_|exact Yp hK hn _ _ _ _ _ _ _ hL1 _|exact Km hK hn _ _ _ _ hL1 _ _ _ _|exact hL1 _ _ _ _ _ _|refine Le.bind ?_ fun _=>?_
theorem T4{K K':Kn}(hK:bN K K'){n n':Nat}(hn:n≤n')(v17:Int)(v19:Bool)(v20:ax)(v21:List ah)(v30:ax):Le (l6 K n v17 v19 v20 v21 v30) (l6 K' n' v17 v19 v20 v21 v30):=by
 unfold l6
 with_reducible repeat' first|exact Le.rfl|refine Le.aC ?_|refine Le.ite ?_ ?_|refine Le.both ?_ ?_|refine Le.bind ?_ fun _=>?_
theorem aa7{K K':Kn}(hK:bN K K'){n n':Nat}(hn:n≤n')(v1:List ah){L1 L1':Int→Int→ax→Bool→ax→(List ah)→Option cC}(hL1:∀a0 a1 a2 a3 a4 a5,Le (L1 a0 a1 a2 a3 a4 a5) (L1' a0 a1 a2 a3 a4 a5))(v16 v17:Int)(v18:ax)(v19:Bool)(v20:ax)(v21:List ah):Le (mX K n v1 L1 v16 v17 v18 v19 v20 v21) (mX K' n' v1 L1' v16 v17 v18 v19 v20 v21):=by
 unfold mX
 with_reducible repeat' first|exact Le.rfl|refine Le.aC ?_|refine Le.ite ?_ ?_|refine Le.both ?_ ?_|exact yl hK hn _ _|exact FZ hK hn _|exact TU hK hn _ _ _ _ _ _ _ hL1 _|exact T4 hK hn _ _ _ _ _|exact hL1 _ _ _ _ _ _|refine Le.bind ?_ fun _=>?_
theorem acs{K K':Kn}(hK:bN K K'){n n':Nat}(hn:n≤n')(v1:List ah):∀m m',m≤m'→∀a0 a1 a2 a3 a4 a5,Le (mA K n v1 m a0 a1 a2 a3 a4 a5) (mA K' n' v1 m' a0 a1 a2 a3 a4 a5):=by
 intro m
 induction m with
 | zero=>intro m' _ a0 a1 a2 a3 a4 a5;exact Le.none
 | succ m ih =>
  intro m' h a0 a1 a2 a3 a4 a5;cases m' with
  | zero=>exact absurd h (Nat.not_succ_le_zero _)
  | succ k=>exact aa7 hK hn _ (ih k (Nat.le_of_succ_le_succ h)) _ _ _ _ _ _
theorem Qr{K K':Kn}(hK:bN K K'){n n':Nat}(hn:n≤n')(v1:List ah):Le (mR K n v1) (mR K' n' v1):=by
 unfold mR
 with_reducible repeat' first|exact Le.rfl|refine Le.aC ?_|refine Le.ite ?_ ?_|refine Le.both ?_ ?_|exact acs hK hn _ _ _ hn _ _ _ _ _ _|refine Le.bind ?_ fun _=>?_
theorem Wb{K K':Kn}(hK:bN K K'){n n':Nat}(hn:n≤n')(v1:Int):Le (nQ K n v1) (nQ K' n' v1):=by
 unfold nQ
 with_reducible repeat' first|exact Le.rfl|refine Le.aC ?_|refine Le.ite ?_ ?_|refine Le.both ?_ ?_|refine Le.bind ?_ fun _=>?_
theorem Rb{K K':Kn}(hK:bN K K'){n n':Nat}(hn:n≤n')(v1:ai)(v2:aV)(v4:Int)(v5:Bool)(v14:Int)(v15 v16:ax)(v17:Bool)(v18:List ah)(v28:Int)(v37 v38:ax)(v39:Bool)(v59 v60:Int)(v61:List ah){L2 L2':Int→Int→(List ah)→Option ah}(hL2:∀a0 a1 a2,Le (L2 a0 a1 a2) (L2' a0 a1 a2))(v65:ah):Le (nN K n v1 v2 v4 v5 v14 v15 v16 v17 v18 v28 v37 v38 v39 v59 v60 v61 L2 v65) (nN K' n' v1 v2 v4 v5 v14 v15 v16 v17 v18 v28 v37 v38 v39 v59 v60 v61 L2' v65):=by
 unfold nN
 with_reducible repeat' first|exact Le.rfl|refine Le.aC ?_|refine Le.ite ?_ ?_|refine Le.both ?_ ?_|exact hL2 _ _ _|refine Le.bind ?_ fun _=>?_
theorem UE{K K':Kn}(hK:bN K K'){n n':Nat}(hn:n≤n')(v1:ai)(v2:aV)(v4:Int)(v5:Bool)(v14:Int)(v15 v16:ax)(v17:Bool)(v18:List ah)(v28:Int)(v37 v38:ax)(v39:Bool){L2 L2':Int→Int→(List ah)→Option ah}(hL2:∀a0 a1 a2,Le (L2 a0 a1 a2) (L2' a0 a1 a2))(v59 v60:Int)(v61:List ah):Le (nB K n v1 v2 v4 v5 v14 v15 v16 v17 v18 v28 v37 v38 v39 L2 v59 v60 v61) (nB K' n' v1 v2 v4 v5 v14 v15 v16 v17 v18 v28 v37 v38 v39 L2' v59 v60 v61):=by
 unfold nB
 with_reducible repeat' first|exact Le.rfl|refine Le.aC ?_|refine Le.ite ?_ ?_|refine Le.both ?_ ?_|exact abf hK hn _ _|exact Rb hK hn _ _ _ _ _ _ _ _ _ _ _ _ _ _ _ _ hL2 _|exact hL2 _ _ _|refine Le.bind ?_ fun _=>?_
theorem P4{K K':Kn}(hK:bN K K'){n n':Nat}(hn:n≤n')(v1:ai)(v2:aV)(v4:Int)(v5:Bool)(v14:Int)(v15 v16:ax)(v17:Bool)(v18:List ah)(v28:Int)(v37 v38:ax)(v39:Bool):∀m m',m≤m'→∀a0 a1 a2,Le (nh K n v1 v2 v4 v5 v14 v15 v16 v17 v18 v28 v37 v38 v39 m a0 a1 a2) (nh K' n' v1 v2 v4 v5 v14 v15 v16 v17 v18 v28 v37 v38 v39 m' a0 a1 a2):=by
 intro m
 induction m with
 | zero=>intro m' _ a0 a1 a2;exact Le.none
 | succ m ih =>
  intro m' h a0 a1 a2;cases m' with
  | zero=>exact absurd h (Nat.not_succ_le_zero _)
  | succ k=>exact UE hK hn _ _ _ _ _ _ _ _ _ _ _ _ _ (ih k (Nat.le_of_succ_le_succ h)) _ _ _
theorem VO{K K':Kn}(hK:bN K K'){n n':Nat}(hn:n≤n')(v1:ai)(v2:aV)(v4:Int)(v5:Bool)(v14:Int)(v15 v16:ax)(v17:Bool)(v18:List ah)(v28:Int)(v37 v38:ax)(v39:Bool)(v40:Int):Le (kA K n v1 v2 v4 v5 v14 v15 v16 v17 v18 v28 v37 v38 v39 v40) (kA K' n' v1 v2 v4 v5 v14 v15 v16 v17 v18 v28 v37 v38 v39 v40):=by
 unfold kA
 with_reducible repeat' first|exact Le.rfl|refine Le.aC ?_|refine Le.ite ?_ ?_|refine Le.both ?_ ?_|exact P4 hK hn _ _ _ _ _ _ _ _ _ _ _ _ _ _ _ hn _ _ _|refine Le.bind ?_ fun _=>?_
theorem Ks{K K':Kn}(hK:bN K K'){n n':Nat}(hn:n≤n')(v1:ai)(v2:aV)(v4:Int)(v5:Bool)(v14:Int)(v15 v16:ax)(v17:Bool)(v18:List ah)(v19:Int×Bool)(v28 v36:Int)(v37 v38:ax)(v39:Bool):Le (gY K n v1 v2 v4 v5 v14 v15 v16 v17 v18 v19 v28 v36 v37 v38 v39) (gY K' n' v1 v2 v4 v5 v14 v15 v16 v17 v18 v19 v28 v36 v37 v38 v39):=by
 unfold gY
 with_reducible repeat' first|exact Le.rfl|refine Le.aC ?_|refine Le.ite ?_ ?_|refine Le.both ?_ ?_|exact VO hK hn _ _ _ _ _ _ _ _ _ _ _ _ _ _|refine Le.bind ?_ fun _=>?_
theorem Zs{K K':Kn}(hK:bN K K'){n n':Nat}(hn:n≤n')(v1:ai)(v2:aV)(v4:Int)(v5:Bool)(v14:Int)(v15 v16:ax)(v17:Bool)(v18:List ah)(v19:Int×Bool)(v21 v22:Bool)(v24:ax)(v28:Int)(v29:ax)(v33:Bool):Le (nM K n v1 v2 v4 v5 v14 v15 v16 v17 v18 v19 v21 v22 v24 v28 v29 v33) (nM K' n' v1 v2 v4 v5 v14 v15 v16 v17 v18 v19 v21 v22 v24 v28 v29 v33):=by
 unfold nM
 with_reducible repeat' first|exact Le.rfl|refine Le.aC ?_|refine Le.ite ?_ ?_|refine Le.both ?_ ?_|exact yl hK hn _ _|exact Ks hK hn _ _ _ _ _ _ _ _ _ _ _ _ _ _ _|refine Le.bind ?_ fun _=>?_
theorem Zp{K K':Kn}(hK:bN K K'){n n':Nat}(hn:n≤n')(v1:ai)(v2:aV)(v4:Int)(v5:Bool)(v14:Int)(v15 v16:ax)(v17:Bool)(v18:List ah)(v19:Int×Bool)(v21 v22:Bool)(v24:ax)(v28:Int)(v29:ax)(v30:Bool):Le (lW K n v1 v2 v4 v5 v14 v15 v16 v17 v18 v19 v21 v22 v24 v28 v29 v30) (lW K' n' v1 v2 v4 v5 v14 v15 v16 v17 v18 v19 v21 v22 v24 v28 v29 v30):=by
 unfold lW
 with_reducible repeat' first|exact Le.rfl|refine Le.aC ?_|refine Le.ite ?_ ?_|refine Le.both ?_ ?_|exact yl hK hn _ _|exact Ks hK hn _ _ _ _ _ _ _ _ _ _ _ _ _ _ _|exact FZ hK hn _|exact Zs hK hn _ _ _ _ _ _ _ _ _ _ _ _ _ _ _ _|refine Le.bind ?_ fun _=>?_
theorem Il{K K':Kn}(hK:bN K K'){n n':Nat}(hn:n≤n')(v1:ai)(v2:aV)(v4:Int)(v5:Bool)(v14:Int)(v15 v16:ax)(v17:Bool)(v18:List ah)(v19:Int×Bool)(v21 v22:Bool)(v24:ax)(v28:Int)(v29:ax):Le (kT K n v1 v2 v4 v5 v14 v15 v16 v17 v18 v19 v21 v22 v24 v28 v29) (kT K' n' v1 v2 v4 v5 v14 v15 v16 v17 v18 v19 v21 v22 v24 v28 v29):=by
 unfold kT
 with_reducible repeat' first|exact Le.rfl|refine Le.aC ?_|refine Le.ite ?_ ?_|refine Le.both ?_ ?_|exact Zp hK hn _ _ _ _ _ _ _ _ _ _ _ _ _ _ _ _|refine Le.bind ?_ fun _=>?_
theorem ab9{K K':Kn}(hK:bN K K'){n n':Nat}(hn:n≤n')(v1:ai)(v2:aV)(v4:Int)(v5:Bool)(v14:Int)(v15 v16:ax)(v17:Bool)(v18:List ah)(v19:Int×Bool)(v21 v22:Bool)(v23 v24:ax)(v26:Bool):Le (nd K n v1 v2 v4 v5 v14 v15 v16 v17 v18 v19 v21 v22 v23 v24 v26) (nd K' n' v1 v2 v4 v5 v14 v15 v16 v17 v18 v19 v21 v22 v23 v24 v26):=by
 unfold nd
 with_reducible repeat' first|exact Le.rfl|refine Le.aC ?_|refine Le.ite ?_ ?_|refine Le.both ?_ ?_|exact FZ hK hn _|exact Il hK hn _ _ _ _ _ _ _ _ _ _ _ _ _ _ _|refine Le.bind ?_ fun _=>?_
theorem R1{K K':Kn}(hK:bN K K'){n n':Nat}(hn:n≤n')(v1:ai)(v2:aV)(v4:Int)(v5:Bool)(v14:Int)(v15 v16:ax)(v17:Bool)(v18:List ah)(v19:Int×Bool)(v21 v22:Bool):Le (jp K n v1 v2 v4 v5 v14 v15 v16 v17 v18 v19 v21 v22) (jp K' n' v1 v2 v4 v5 v14 v15 v16 v17 v18 v19 v21 v22):=by
 unfold jp
 with_reducible repeat' first|exact Le.rfl|refine Le.aC ?_|refine Le.ite ?_ ?_|refine Le.both ?_ ?_|exact Wb hK hn _|exact yl hK hn _ _|exact Il hK hn _ _ _ _ _ _ _ _ _ _ _ _ _ _ _|exact ab9 hK hn _ _ _ _ _ _ _ _ _ _ _ _ _ _ _|refine Le.bind ?_ fun _=>?_
theorem acN{K K':Kn}(hK:bN K K'){n n':Nat}(hn:n≤n')(v1:ai)(v2:aV)(v4:Int)(v5:Bool)(v14:Int)(v15 v16:ax)(v17:Bool)(v18:List ah)(v19:Int×Bool)(v20 v21:Bool):Le (nr K n v1 v2 v4 v5 v14 v15 v16 v17 v18 v19 v20 v21) (nr K' n' v1 v2 v4 v5 v14 v15 v16 v17 v18 v19 v20 v21):=by
 unfold nr
 with_reducible repeat' first|exact Le.rfl|refine Le.aC ?_|refine Le.ite ?_ ?_|refine Le.both ?_ ?_|exact R1 hK hn _ _ _ _ _ _ _ _ _ _ _ _|refine Le.bind ?_ fun _=>?_
theorem Qp{K K':Kn}(hK:bN K K'){n n':Nat}(hn:n≤n')(v1:ai)(v2:aV)(v4:Int)(v5:Bool)(v14:Int)(v15 v16:ax)(v17:Bool)(v18:List ah)(v19:Int×Bool)(v20:Bool):Le (nF K n v1 v2 v4 v5 v14 v15 v16 v17 v18 v19 v20) (nF K' n' v1 v2 v4 v5 v14 v15 v16 v17 v18 v19 v20):=by
 unfold nF
 with_reducible repeat' first|exact Le.rfl|refine Le.aC ?_|refine Le.ite ?_ ?_|refine Le.both ?_ ?_|exact acN hK hn _ _ _ _ _ _ _ _ _ _ _ _|refine Le.bind ?_ fun _=>?_
theorem G7{K K':Kn}(hK:bN K K'){n n':Nat}(hn:n≤n')(v1:ai)(v2:aV)(v3:Bool)(v4:Int)(v5:Bool)(v14:Int)(v15 v16:ax)(v17:Bool)(v18:List ah):Le (jc K n v1 v2 v3 v4 v5 v14 v15 v16 v17 v18) (jc K' n' v1 v2 v3 v4 v5 v14 v15 v16 v17 v18):=by
 unfold jc
 with_reducible repeat' first|exact Le.rfl|refine Le.aC ?_|refine Le.ite ?_ ?_|refine Le.both ?_ ?_|exact Jd hK hn _|exact Qp hK hn _ _ _ _ _ _ _ _ _ _ _|refine Le.bind ?_ fun _=>?_
theorem Xi{K K':Kn}(hK:bN K K'){n n':Nat}(hn:n≤n')(v1:ai)(v2:aV)(v3:Bool)(v4:Int)(v5:Bool)(v6:List ai){L1 L1':Int→(List ah)→Option ah}(hL1:∀a0 a1,Le (L1 a0 a1) (L1' a0 a1))(v9:Int)(v10:List ah):Le (me K n v1 v2 v3 v4 v5 v6 L1 v9 v10) (me K' n' v1 v2 v3 v4 v5 v6 L1' v9 v10):=by
 unfold me
 with_reducible repeat' first|exact Le.rfl|refine Le.aC ?_|refine Le.ite ?_ ?_|refine Le.both ?_ ?_|exact OZ hK hn _ _|exact Qr hK hn _|exact G7 hK hn _ _ _ _ _ _ _ _ _ _|exact hL1 _ _|refine Le.bind ?_ fun _=>?_
theorem XD{K K':Kn}(hK:bN K K'){n n':Nat}(hn:n≤n')(v1:ai)(v2:aV)(v3:Bool)(v4:Int)(v5:Bool)(v6:List ai):∀m m',m≤m'→∀a0 a1,Le (kp K n v1 v2 v3 v4 v5 v6 m a0 a1) (kp K' n' v1 v2 v3 v4 v5 v6 m' a0 a1):=by
 intro m
 induction m with
 | zero=>intro m' _ a0 a1;exact Le.none
 | succ m ih =>
  intro m' h a0 a1;cases m' with
  | zero=>exact absurd h (Nat.not_succ_le_zero _)
  | succ k=>exact Xi hK hn _ _ _ _ _ _ (ih k (Nat.le_of_succ_le_succ h)) _ _
theorem Nd{K K':Kn}(hK:bN K K'){n n':Nat}(hn:n≤n')(v1:ai)(v2:aV)(v3:Bool):Le (li K n v1 v2 v3) (li K' n' v1 v2 v3):=by
 unfold li
 with_reducible repeat' first|exact Le.rfl|refine Le.aC ?_|refine Le.ite ?_ ?_|refine Le.both ?_ ?_|exact Iy hK hn _|exact Dt hK hn _|exact XD hK hn _ _ _ _ _ _ _ _ hn _ _|exact abR hK hn _ _ _|exact G7 hK hn _ _ _ _ _ _ _ _ _ _|refine Le.bind ?_ fun _=>?_
theorem ac4{K K':Kn}(hK:bN K K'){n n':Nat}(hn:n≤n')(v1:ai)(v2:aV):Le (ky K n v1 v2) (ky K' n' v1 v2):=by
 unfold ky
 with_reducible repeat' first|exact Le.rfl|refine Le.aC ?_|refine Le.ite ?_ ?_|refine Le.both ?_ ?_|exact Nd hK hn _ _ _|refine Le.bind ?_ fun _=>?_
theorem xR:∀n m,n≤m→bN (KN n) (KN m)
 | 0,m,_=>by refine⟨fun _=>Le.none,fun _ _ _=>Le.none⟩
 | n+1,0,h=>absurd h (Nat.not_succ_le_zero _)
 | n+1,m+1,h=>by
  have hK:=xR n m (Nat.le_of_succ_le_succ h);have hn:=Nat.le_of_succ_le_succ h;refine⟨?_,?_⟩
  ·exact fun _=>Mi hK hn _
  ·exact fun _ _ _=>Nd hK hn _ _ _
end Go.Proofs.YtnpmlepplfaijaaGreat

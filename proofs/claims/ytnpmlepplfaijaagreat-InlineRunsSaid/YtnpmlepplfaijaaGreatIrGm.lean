/- More rounds and deeper calls never change an answer. Made by a program. -/
import Derived.Test.YtnpmlepplfaijaaGreatIrGf
namespace Go.Proofs.YtnpmlepplfaijaaGreat
open Go.RowKit
set_option maxRecDepth 20000
set_option linter.all false
def Le{α:Type}(x y:Option α):Prop:=∀r,x=some r→y=some r
theorem Le.rfl{α:Type}{x:Option α}:Le x x:=fun _ h=>h
theorem Le.none{α:Type}{y:Option α}:Le (none:Option α) y:=fun _ h=>by cases h
theorem Le.az{α:Type}{c:Bool}{x y:Option α}(h:Le x y):Le (az c x) (Go.Proofs.YtnpmlepplfaijaaGreat.az c y):=by cases c;exact Le.rfl;exact h
theorem Le.ite{α:Type}{c:Prop}[Decidable c]{x y x' y':Option α}(h:Le x x')(h2:Le y y'):Le (if c then x else y) (if c then x' else y'):=by split;exact h;exact h2
theorem Le.bind{α β:Type}{x x':Option α}{f f':α→Option β}(h:Le x x')(h2:∀a,Le (f a) (f' a)):Le (x.bind f) (x'.bind f'):=by
 intro r hr;cases hx:x with
 | none=>rw[hx]at hr;cases hr
 | some a=>rw[hx]at hr;rw[h a hx];exact h2 a r hr
theorem Le.both{α:Type}{c:Bool}{x y x' y':Option α}(h:Le x x')(h2:Le y y'):Le (both c x y) (Go.Proofs.YtnpmlepplfaijaaGreat.both c x' y'):=by
 intro r hr;unfold Go.Proofs.YtnpmlepplfaijaaGreat.both at hr⊢;split at hr
 ·rename_i hc;rw[if_pos hc];split at hr
  ·rename_i e;rw[h r hr,h2 r (e ▸ hr),if_pos];exact _root_.rfl
  ·cases hr
 ·rename_i hc;rw[if_neg hc];exact h2 r hr
structure bw(K K':Kn):Prop where
 lr:∀a0,Le (K.lr a0) (K'.lr a0)
 lv:∀a0 a1 a2,Le (K.lv a0 a1 a2) (K'.lv a0 a1 a2)
theorem QE{K K':Kn}(hK:bw K K'){n n':Nat}(hn:n≤n')(v2:Bool):Le (ly K n v2) (ly K' n' v2):=by
 unfold ly
 with_reducible repeat' first|exact Le.rfl|refine Le.az ?_|refine Le.ite ?_ ?_|refine Le.both ?_ ?_|refine Le.bind ?_ fun _=>?_
theorem Si{K K':Kn}(hK:bw K K'){n n':Nat}(hn:n≤n')(v1:aj):Le (hH K n v1) (hH K' n' v1):=by
 unfold hH
 with_reducible repeat' first|exact Le.rfl|refine Le.az ?_|refine Le.ite ?_ ?_|refine Le.both ?_ ?_|exact QE hK hn _|refine Le.bind ?_ fun _=>?_
theorem m5{K K':Kn}(hK:bw K K'){n n':Nat}(hn:n≤n')(v1:Int):Le (dS K n v1) (dS K' n' v1):=by
 unfold dS
 with_reducible repeat' first|exact Le.rfl|refine Le.az ?_|refine Le.ite ?_ ?_|refine Le.both ?_ ?_|refine Le.bind ?_ fun _=>?_
theorem IZ{K K':Kn}(hK:bw K K'){n n':Nat}(hn:n≤n')(v1:Int):Le (g8 K n v1) (g8 K' n' v1):=by
 unfold g8
 with_reducible repeat' first|exact Le.rfl|refine Le.az ?_|refine Le.ite ?_ ?_|refine Le.both ?_ ?_|refine Le.bind ?_ fun _=>?_
theorem nJ{K K':Kn}(hK:bw K K'){n n':Nat}(hn:n≤n')(v1:cj)(v2:Int):Le (dq K n v1 v2) (dq K' n' v1 v2):=by
 unfold dq
 with_reducible repeat' first|exact Le.rfl|refine Le.az ?_|refine Le.ite ?_ ?_|refine Le.both ?_ ?_|exact IZ hK hn _|exact m5 hK hn _|refine Le.bind ?_ fun _=>?_
theorem xX{K K':Kn}(hK:bw K K'){n n':Nat}(hn:n≤n')(v1:aJ)(v2 v3:Int):Le (iw K n v1 v2 v3) (iw K' n' v1 v2 v3):=by
 unfold iw
 with_reducible repeat' first|exact Le.rfl|refine Le.az ?_|refine Le.ite ?_ ?_|refine Le.both ?_ ?_|exact nJ hK hn _ _|exact m5 hK hn _|refine Le.bind ?_ fun _=>?_
theorem vL{K K':Kn}(hK:bw K K'){n n':Nat}(hn:n≤n')(v1:aP):Le (g9 K n v1) (g9 K' n' v1):=by
 unfold g9
 with_reducible repeat' first|exact Le.rfl|refine Le.az ?_|refine Le.ite ?_ ?_|refine Le.both ?_ ?_|refine Le.bind ?_ fun _=>?_
theorem TZ{K K':Kn}(hK:bw K K'){n n':Nat}(hn:n≤n')(v1:List aj){L1 L1':Int→Int→Int→Option (Int×Int)}(hL1:∀a0 a1 a2,Le (L1 a0 a1 a2) (L1' a0 a1 a2))(v3 v4 v5:Int):Le (gl K n v1 L1 v3 v4 v5) (gl K' n' v1 L1' v3 v4 v5):=by
 unfold gl
 with_reducible repeat' first|exact Le.rfl|refine Le.az ?_|refine Le.ite ?_ ?_|refine Le.both ?_ ?_|exact hL1 _ _ _|refine Le.bind ?_ fun _=>?_
theorem Qh{K K':Kn}(hK:bw K K'){n n':Nat}(hn:n≤n')(v1:List aj):∀m m',m≤m'→∀a0 a1 a2,Le (iL K n v1 m a0 a1 a2) (iL K' n' v1 m' a0 a1 a2):=by
 intro m
 induction m with
 | zero=>intro m' _ a0 a1 a2;exact Le.none
 | succ m ih =>
  intro m' h a0 a1 a2;cases m' with
  | zero=>exact absurd h (Nat.not_succ_le_zero _)
  | succ k=>exact TZ hK hn _ (ih k (Nat.le_of_succ_le_succ h)) _ _ _
theorem Ll{K K':Kn}(hK:bw K K'){n n':Nat}(hn:n≤n')(v1:List aj)(v2:aJ):Le (iA K n v1 v2) (iA K' n' v1 v2):=by
 unfold iA
 with_reducible repeat' first|exact Le.rfl|refine Le.az ?_|refine Le.ite ?_ ?_|refine Le.both ?_ ?_|exact Qh hK hn _ _ _ hn _ _ _|refine Le.bind ?_ fun _=>?_
theorem Pr{K K':Kn}(hK:bw K K'){n n':Nat}(hn:n≤n')(v7:Int):Le (kP K n v7) (kP K' n' v7):=by
 unfold kP
 with_reducible repeat' first|exact Le.rfl|refine Le.az ?_|refine Le.ite ?_ ?_|refine Le.both ?_ ?_|refine Le.bind ?_ fun _=>?_
theorem WF{K K':Kn}(hK:bw K K'){n n':Nat}(hn:n≤n')(v1:aJ)(v2 v5:Int):Le (lg K n v1 v2 v5) (lg K' n' v1 v2 v5):=by
 unfold lg
 with_reducible repeat' first|exact Le.rfl|refine Le.az ?_|refine Le.ite ?_ ?_|refine Le.both ?_ ?_|exact nJ hK hn _ _|exact Pr hK hn _|refine Le.bind ?_ fun _=>?_
theorem Bt{K K':Kn}(hK:bw K K'){n n':Nat}(hn:n≤n')(v1:aJ)(v2 v3:Int):Le (gR K n v1 v2 v3) (gR K' n' v1 v2 v3):=by
 unfold gR
 with_reducible repeat' first|exact Le.rfl|refine Le.az ?_|refine Le.ite ?_ ?_|refine Le.both ?_ ?_|exact nJ hK hn _ _|exact WF hK hn _ _ _|refine Le.bind ?_ fun _=>?_
theorem MV{K K':Kn}(hK:bw K K'){n n':Nat}(hn:n≤n')(v1:cj):Le (eL K n v1) (eL K' n' v1):=by
 unfold eL
 with_reducible repeat' first|exact Le.rfl|refine Le.az ?_|refine Le.ite ?_ ?_|refine Le.both ?_ ?_|refine Le.bind ?_ fun _=>?_
theorem Q6{K K':Kn}(hK:bw K K'){n n':Nat}(hn:n≤n')(v1:aJ):Le (pZ K n v1) (pZ K' n' v1):=by
 unfold pZ
 with_reducible repeat' first|exact Le.rfl|refine Le.az ?_|refine Le.ite ?_ ?_|refine Le.both ?_ ?_|exact MV hK hn _|refine Le.bind ?_ fun _=>?_
theorem HL{K K':Kn}(hK:bw K K'){n n':Nat}(hn:n≤n')(v1:cj):Le (j0 K n v1) (j0 K' n' v1):=by
 unfold j0
 with_reducible repeat' first|exact Le.rfl|refine Le.az ?_|refine Le.ite ?_ ?_|refine Le.both ?_ ?_|exact IZ hK hn _|refine Le.bind ?_ fun _=>?_
theorem PB{K K':Kn}(hK:bw K K'){n n':Nat}(hn:n≤n')(v4:aJ)(v8 v9:Int):Le (oG K n v4 v8 v9) (oG K' n' v4 v8 v9):=by
 unfold oG
 with_reducible repeat' first|exact Le.rfl|refine Le.az ?_|refine Le.ite ?_ ?_|refine Le.both ?_ ?_|exact xX hK hn _ _ _|exact vL hK hn _|exact Bt hK hn _ _ _|refine Le.bind ?_ fun _=>?_
theorem Lw{K K':Kn}(hK:bw K K'){n n':Nat}(hn:n≤n')(v1:aJ)(v2 v3:Int):Le (pP K n v1 v2 v3) (pP K' n' v1 v2 v3):=by
 unfold pP
 with_reducible repeat' first|exact Le.rfl|refine Le.az ?_|refine Le.ite ?_ ?_|refine Le.both ?_ ?_|exact Q6 hK hn _|exact m5 hK hn _|exact HL hK hn _|exact PB hK hn _ _ _|refine Le.bind ?_ fun _=>?_
theorem K8{K K':Kn}(hK:bw K K'){n n':Nat}(hn:n≤n')(v1:aj):Le (pF K n v1) (pF K' n' v1):=by
 unfold pF
 with_reducible repeat' first|exact Le.rfl|refine Le.az ?_|refine Le.ite ?_ ?_|refine Le.both ?_ ?_|exact Lw hK hn _ _ _|exact hK.lr _|refine Le.bind ?_ fun _=>?_
theorem Qu{K K':Kn}(hK:bw K K'){n n':Nat}(hn:n≤n')(v1:aj)(v8:Int){L1 L1':Int→(List aj)→Option (List aj)}(hL1:∀a0 a1,Le (L1 a0 a1) (L1' a0 a1))(v11:List aj):Le (lK K n v1 v8 L1 v11) (lK K' n' v1 v8 L1' v11):=by
 unfold lK
 with_reducible repeat' first|exact Le.rfl|refine Le.az ?_|refine Le.ite ?_ ?_|refine Le.both ?_ ?_|exact hL1 _ _|refine Le.bind ?_ fun _=>?_
theorem PG{K K':Kn}(hK:bw K K'){n n':Nat}(hn:n≤n')(v1:aj){L1 L1':Int→(List aj)→Option (List aj)}(hL1:∀a0 a1,Le (L1 a0 a1) (L1' a0 a1))(v8:Int)(v9:List aj):Le (mi K n v1 L1 v8 v9) (mi K' n' v1 L1' v8 v9):=by
 unfold mi
 with_reducible repeat' first|exact Le.rfl|refine Le.az ?_|refine Le.ite ?_ ?_|refine Le.both ?_ ?_|exact Si hK hn _|exact Qu hK hn _ _ hL1 _|exact hL1 _ _|refine Le.bind ?_ fun _=>?_
theorem MP{K K':Kn}(hK:bw K K'){n n':Nat}(hn:n≤n')(v1:aj):∀m m',m≤m'→∀a0 a1,Le (lz K n v1 m a0 a1) (lz K' n' v1 m' a0 a1):=by
 intro m
 induction m with
 | zero=>intro m' _ a0 a1;exact Le.none
 | succ m ih =>
  intro m' h a0 a1;cases m' with
  | zero=>exact absurd h (Nat.not_succ_le_zero _)
  | succ k=>exact PG hK hn _ (ih k (Nat.le_of_succ_le_succ h)) _ _
theorem zt{K K':Kn}(hK:bw K K'){n n':Nat}(hn:n≤n')(v1:aj):Le (kt K n v1) (kt K' n' v1):=by
 unfold kt
 with_reducible repeat' first|exact Le.rfl|refine Le.az ?_|refine Le.ite ?_ ?_|refine Le.both ?_ ?_|exact MP hK hn _ _ _ hn _ _|refine Le.bind ?_ fun _=>?_
theorem WA{K K':Kn}(hK:bw K K'){n n':Nat}(hn:n≤n')(v2:List aj){L1 L1':Int→Option Bool}(hL1:∀a0,Le (L1 a0) (L1' a0))(v4:Int):Le (ls K n v2 L1 v4) (ls K' n' v2 L1' v4):=by
 unfold ls
 with_reducible repeat' first|exact Le.rfl|refine Le.az ?_|refine Le.ite ?_ ?_|refine Le.both ?_ ?_|exact hL1 _|refine Le.bind ?_ fun _=>?_
theorem R2{K K':Kn}(hK:bw K K'){n n':Nat}(hn:n≤n')(v2:List aj):∀m m',m≤m'→∀a0,Le (lF K n v2 m a0) (lF K' n' v2 m' a0):=by
 intro m
 induction m with
 | zero=>intro m' _ a0;exact Le.none
 | succ m ih =>
  intro m' h a0;cases m' with
  | zero=>exact absurd h (Nat.not_succ_le_zero _)
  | succ k=>exact WA hK hn _ (ih k (Nat.le_of_succ_le_succ h)) _
theorem Jr{K K':Kn}(hK:bw K K'){n n':Nat}(hn:n≤n')(v1:aj):Le (jv K n v1) (jv K' n' v1):=by
 unfold jv
 with_reducible repeat' first|exact Le.rfl|refine Le.az ?_|refine Le.ite ?_ ?_|refine Le.both ?_ ?_|exact zt hK hn _|exact R2 hK hn _ _ _ hn _|refine Le.bind ?_ fun _=>?_
theorem U5{K K':Kn}(hK:bw K K'){n n':Nat}(hn:n≤n')(v2:List aj){L1 L1':Int→Int→Int→Option (Int×Int)}(hL1:∀a0 a1 a2,Le (L1 a0 a1 a2) (L1' a0 a1 a2))(v8 v9 v10:Int):Le (mN K n v2 L1 v8 v9 v10) (mN K' n' v2 L1' v8 v9 v10):=by
 unfold mN
 with_reducible repeat' first|exact Le.rfl|refine Le.az ?_|refine Le.ite ?_ ?_|refine Le.both ?_ ?_|exact K8 hK hn _|exact m5 hK hn _|exact hL1 _ _ _|refine Le.bind ?_ fun _=>?_
theorem Up{K K':Kn}(hK:bw K K'){n n':Nat}(hn:n≤n')(v2:List aj):∀m m',m≤m'→∀a0 a1 a2,Le (pd K n v2 m a0 a1 a2) (pd K' n' v2 m' a0 a1 a2):=by
 intro m
 induction m with
 | zero=>intro m' _ a0 a1 a2;exact Le.none
 | succ m ih =>
  intro m' h a0 a1 a2;cases m' with
  | zero=>exact absurd h (Nat.not_succ_le_zero _)
  | succ k=>exact U5 hK hn _ (ih k (Nat.le_of_succ_le_succ h)) _ _ _
theorem DW{K K':Kn}(hK:bw K K'){n n':Nat}(hn:n≤n')(v1:aj):Le (js K n v1) (js K' n' v1):=by
 unfold js
 with_reducible repeat' first|exact Le.rfl|refine Le.az ?_|refine Le.ite ?_ ?_|refine Le.both ?_ ?_|exact zt hK hn _|exact Jr hK hn _|exact Ll hK hn _ _|exact m5 hK hn _|exact Up hK hn _ _ _ hn _ _ _|refine Le.bind ?_ fun _=>?_
theorem JT{K K':Kn}(hK:bw K K'){n n':Nat}(hn:n≤n')(v1:aj)(v3 v8:Int):Le (jw K n v1 v3 v8) (jw K' n' v1 v3 v8):=by
 unfold jw
 with_reducible repeat' first|exact Le.rfl|refine Le.az ?_|refine Le.ite ?_ ?_|refine Le.both ?_ ?_|exact Bt hK hn _ _ _|refine Le.bind ?_ fun _=>?_
theorem NI{K K':Kn}(hK:bw K K'){n n':Nat}(hn:n≤n')(v1:aj)(v2:Int):Le (jL K n v1 v2) (jL K' n' v1 v2):=by
 unfold jL
 with_reducible repeat' first|exact Le.rfl|refine Le.az ?_|refine Le.ite ?_ ?_|refine Le.both ?_ ?_|exact m5 hK hn _|exact nJ hK hn _ _|exact DW hK hn _|exact xX hK hn _ _ _|exact vL hK hn _|exact JT hK hn _ _ _|refine Le.bind ?_ fun _=>?_
theorem M8{K K':Kn}(hK:bw K K'){n n':Nat}(hn:n≤n')(v1:List aj)(v2:aJ)(v3 v11:Int){L1 L1':Int→Int→(List ae)→Option ((List ae)×Int)}(hL1:∀a0 a1 a2,Le (L1 a0 a1 a2) (L1' a0 a1 a2))(v14:Int)(v15:List ae):Le (jg K n v1 v2 v3 v11 L1 v14 v15) (jg K' n' v1 v2 v3 v11 L1' v14 v15):=by
 unfold jg
 with_reducible repeat' first|exact Le.rfl|refine Le.az ?_|refine Le.ite ?_ ?_|refine Le.both ?_ ?_|exact hL1 _ _ _|refine Le.bind ?_ fun _=>?_
theorem Wo{K K':Kn}(hK:bw K K'){n n':Nat}(hn:n≤n')(v1:List aj)(v2:aJ)(v3:Int){L1 L1':Int→Int→(List ae)→Option ((List ae)×Int)}(hL1:∀a0 a1 a2,Le (L1 a0 a1 a2) (L1' a0 a1 a2))(v10 v11:Int)(v12:List ae):Le (gB K n v1 v2 v3 L1 v10 v11 v12) (gB K' n' v1 v2 v3 L1' v10 v11 v12):=by
 unfold gB
 with_reducible repeat' first|exact Le.rfl|refine Le.az ?_|refine Le.ite ?_ ?_|refine Le.both ?_ ?_|exact M8 hK hn _ _ _ _ hL1 _ _|exact hL1 _ _ _|refine Le.bind ?_ fun _=>?_
theorem SJ{K K':Kn}(hK:bw K K'){n n':Nat}(hn:n≤n')(v1:List aj)(v2:aJ)(v3:Int):∀m m',m≤m'→∀a0 a1 a2,Le (gV K n v1 v2 v3 m a0 a1 a2) (gV K' n' v1 v2 v3 m' a0 a1 a2):=by
 intro m
 induction m with
 | zero=>intro m' _ a0 a1 a2;exact Le.none
 | succ m ih =>
  intro m' h a0 a1 a2;cases m' with
  | zero=>exact absurd h (Nat.not_succ_le_zero _)
  | succ k=>exact Wo hK hn _ _ _ (ih k (Nat.le_of_succ_le_succ h)) _ _ _
theorem Ot{K K':Kn}(hK:bw K K'){n n':Nat}(hn:n≤n')(v1:List aj)(v2:aJ)(v3:Int):Le (ja K n v1 v2 v3) (ja K' n' v1 v2 v3):=by
 unfold ja
 with_reducible repeat' first|exact Le.rfl|refine Le.az ?_|refine Le.ite ?_ ?_|refine Le.both ?_ ?_|exact SJ hK hn _ _ _ _ _ hn _ _ _|refine Le.bind ?_ fun _=>?_
theorem zP{K K':Kn}(hK:bw K K'){n n':Nat}(hn:n≤n')(v1:au):Le (fR K n v1) (fR K' n' v1):=by
 unfold fR
 with_reducible repeat' first|exact Le.rfl|refine Le.az ?_|refine Le.ite ?_ ?_|refine Le.both ?_ ?_|refine Le.bind ?_ fun _=>?_
theorem U3{K K':Kn}(hK:bw K K'){n n':Nat}(hn:n≤n')(v1:ae)(v3:Int×Bool)(v5:Int):Le (l5 K n v1 v3 v5) (l5 K' n' v1 v3 v5):=by
 unfold l5
 with_reducible repeat' first|exact Le.rfl|refine Le.az ?_|refine Le.ite ?_ ?_|refine Le.both ?_ ?_|refine Le.bind ?_ fun _=>?_
theorem U0{K K':Kn}(hK:bw K K'){n n':Nat}(hn:n≤n')(v1:ae)(v2:Int):Le (kz K n v1 v2) (kz K' n' v1 v2):=by
 unfold kz
 with_reducible repeat' first|exact Le.rfl|refine Le.az ?_|refine Le.ite ?_ ?_|refine Le.both ?_ ?_|exact nJ hK hn _ _|exact U3 hK hn _ _ _|refine Le.bind ?_ fun _=>?_
theorem S9{K K':Kn}(hK:bw K K'){n n':Nat}(hn:n≤n')(v4:aP)(v8:Int)(v13:V4 Int):Le (jW K n v4 v8 v13) (jW K' n' v4 v8 v13):=by
 unfold jW
 with_reducible repeat' first|exact Le.rfl|refine Le.az ?_|refine Le.ite ?_ ?_|refine Le.both ?_ ?_|refine Le.bind ?_ fun _=>?_
theorem OG{K K':Kn}(hK:bw K K'){n n':Nat}(hn:n≤n')(v3:Int)(v4:aP)(v8 v9:Int)(v10 v11:Int×Bool)(v12:Bool):Le (oM K n v3 v4 v8 v9 v10 v11 v12) (oM K' n' v3 v4 v8 v9 v10 v11 v12):=by
 unfold oM
 with_reducible repeat' first|exact Le.rfl|refine Le.az ?_|refine Le.ite ?_ ?_|refine Le.both ?_ ?_|exact S9 hK hn _ _ _|refine Le.bind ?_ fun _=>?_
theorem Nz{K K':Kn}(hK:bw K K'){n n':Nat}(hn:n≤n')(v1:aJ)(v3:Int)(v4:aP)(v7:Int):Le (n3 K n v1 v3 v4 v7) (n3 K' n' v1 v3 v4 v7):=by
 unfold n3
 with_reducible repeat' first|exact Le.rfl|refine Le.az ?_|refine Le.ite ?_ ?_|refine Le.both ?_ ?_|exact Bt hK hn _ _ _|exact vL hK hn _|exact nJ hK hn _ _|exact OG hK hn _ _ _ _ _ _ _|refine Le.bind ?_ fun _=>?_
theorem LH{K K':Kn}(hK:bw K K'){n n':Nat}(hn:n≤n')(v1:aJ)(v2:Int):Le (qA K n v1 v2) (qA K' n' v1 v2):=by
 unfold qA
 with_reducible repeat' first|exact Le.rfl|refine Le.az ?_|refine Le.ite ?_ ?_|refine Le.both ?_ ?_|exact m5 hK hn _|exact xX hK hn _ _ _|exact nJ hK hn _ _|exact vL hK hn _|exact Nz hK hn _ _ _ _|refine Le.bind ?_ fun _=>?_
theorem JO{K K':Kn}(hK:bw K K'){n n':Nat}(hn:n≤n')(v1:aj)(v2:Int):Le (eP K n v1 v2) (eP K' n' v1 v2):=by
 unfold eP
 with_reducible repeat' first|exact Le.rfl|refine Le.az ?_|refine Le.ite ?_ ?_|refine Le.both ?_ ?_|exact LH hK hn _ _|exact hK.lv _ _ _|refine Le.bind ?_ fun _=>?_
theorem uP{K K':Kn}(hK:bw K K'){n n':Nat}(hn:n≤n')(v1 v2:au):Le (gy K n v1 v2) (gy K' n' v1 v2):=by
 unfold gy
 with_reducible repeat' first|exact Le.rfl|refine Le.az ?_|refine Le.ite ?_ ?_|refine Le.both ?_ ?_|refine Le.bind ?_ fun _=>?_
theorem GN{K K':Kn}(hK:bw K K'){n n':Nat}(hn:n≤n')(v1:List ae)(v16:Int)(v21:List ae)(v24:Int){L1 L1':Int→Int→au→Bool→au→(List ae)→Option cg}(hL1:∀a0 a1 a2 a3 a4 a5,Le (L1 a0 a1 a2 a3 a4 a5) (L1' a0 a1 a2 a3 a4 a5))(v26:Int)(v27:au)(v28:Bool)(v29:au):Le (lN K n v1 v16 v21 v24 L1 v26 v27 v28 v29) (lN K' n' v1 v16 v21 v24 L1' v26 v27 v28 v29):=by
 unfold lN
 with_reducible repeat' first|exact Le.rfl|refine Le.az ?_|refine Le.ite ?_ ?_|refine Le.both ?_ ?_|exact hL1 _ _ _ _ _ _|refine Le.bind ?_ fun _=>?_
theorem QD{K K':Kn}(hK:bw K K'){n n':Nat}(hn:n≤n')(v1:List ae)(v16 v17:Int)(v19:Bool)(v21:List ae)(v22:au)(v24:Int){L1 L1':Int→Int→au→Bool→au→(List ae)→Option cg}(hL1:∀a0 a1 a2 a3 a4 a5,Le (L1 a0 a1 a2 a3 a4 a5) (L1' a0 a1 a2 a3 a4 a5))(v25:au):Le (mg K n v1 v16 v17 v19 v21 v22 v24 L1 v25) (mg K' n' v1 v16 v17 v19 v21 v22 v24 L1' v25):=by
 unfold mg
 with_reducible repeat' first|exact Le.rfl|refine Le.az ?_|refine Le.ite ?_ ?_|refine Le.both ?_ ?_|exact GN hK hn _ _ _ _ hL1 _ _ _ _|exact hL1 _ _ _ _ _ _|refine Le.bind ?_ fun _=>?_
theorem QH{K K':Kn}(hK:bw K K'){n n':Nat}(hn:n≤n')(v1:List ae)(v16 v17:Int)(v18:au)(v19:Bool)(v21:List ae)(v22:au){L1 L1':Int→Int→au→Bool→au→(List ae)→Option cg}(hL1:∀a0 a1 a2 a3 a4 a5,Le (L1 a0 a1 a2 a3 a4 a5) (L1' a0 a1 a2 a3 a4 a5))(v24:Int):Le (lx K n v1 v16 v17 v18 v19 v21 v22 L1 v24) (lx K' n' v1 v16 v17 v18 v19 v21 v22 L1' v24):=by
 unfold lx
 with_reducible repeat' first|exact Le.rfl|refine Le.az ?_|refine Le.ite ?_ ?_|refine Le.both ?_ ?_|exact QD hK hn _ _ _ _ _ _ _ hL1 _|exact GN hK hn _ _ _ _ hL1 _ _ _ _|exact hL1 _ _ _ _ _ _|refine Le.bind ?_ fun _=>?_
theorem PV{K K':Kn}(hK:bw K K'){n n':Nat}(hn:n≤n')(v17:Int)(v19:Bool)(v20:au)(v21:List ae)(v30:au):Le (kV K n v17 v19 v20 v21 v30) (kV K' n' v17 v19 v20 v21 v30):=by
 unfold kV
 with_reducible repeat' first|exact Le.rfl|refine Le.az ?_|refine Le.ite ?_ ?_|refine Le.both ?_ ?_|refine Le.bind ?_ fun _=>?_
theorem Ng{K K':Kn}(hK:bw K K'){n n':Nat}(hn:n≤n')(v1:List ae){L1 L1':Int→Int→au→Bool→au→(List ae)→Option cg}(hL1:∀a0 a1 a2 a3 a4 a5,Le (L1 a0 a1 a2 a3 a4 a5) (L1' a0 a1 a2 a3 a4 a5))(v16 v17:Int)(v18:au)(v19:Bool)(v20:au)(v21:List ae):Le (mn K n v1 L1 v16 v17 v18 v19 v20 v21) (mn K' n' v1 L1' v16 v17 v18 v19 v20 v21):=by
 unfold mn
 with_reducible repeat' first|exact Le.rfl|refine Le.az ?_|refine Le.ite ?_ ?_|refine Le.both ?_ ?_|exact uP hK hn _ _|exact zP hK hn _|exact QH hK hn _ _ _ _ _ _ _ hL1 _|exact PV hK hn _ _ _ _ _|exact hL1 _ _ _ _ _ _|refine Le.bind ?_ fun _=>?_
theorem Vx{K K':Kn}(hK:bw K K'){n n':Nat}(hn:n≤n')(v1:List ae):∀m m',m≤m'→∀a0 a1 a2 a3 a4 a5,Le (lU K n v1 m a0 a1 a2 a3 a4 a5) (lU K' n' v1 m' a0 a1 a2 a3 a4 a5):=by
 intro m
 induction m with
 | zero=>intro m' _ a0 a1 a2 a3 a4 a5;exact Le.none
 | succ m ih =>
  intro m' h a0 a1 a2 a3 a4 a5;cases m' with
  | zero=>exact absurd h (Nat.not_succ_le_zero _)
  | succ k=>exact Ng hK hn _ (ih k (Nat.le_of_succ_le_succ h)) _ _ _ _ _ _
theorem NF{K K':Kn}(hK:bw K K'){n n':Nat}(hn:n≤n')(v1:List ae):Le (kT K n v1) (kT K' n' v1):=by
 unfold kT
 with_reducible repeat' first|exact Le.rfl|refine Le.az ?_|refine Le.ite ?_ ?_|refine Le.both ?_ ?_|exact Vx hK hn _ _ _ hn _ _ _ _ _ _|refine Le.bind ?_ fun _=>?_
theorem Nt{K K':Kn}(hK:bw K K'){n n':Nat}(hn:n≤n')(v1:Int):Le (me K n v1) (me K' n' v1):=by
 unfold me
 with_reducible repeat' first|exact Le.rfl|refine Le.az ?_|refine Le.ite ?_ ?_|refine Le.both ?_ ?_|refine Le.bind ?_ fun _=>?_
theorem OA{K K':Kn}(hK:bw K K'){n n':Nat}(hn:n≤n')(v1:aj)(v2:aP)(v4:Int)(v5:Bool)(v14:Int)(v15 v16:au)(v17:Bool)(v18:List ae)(v28:Int)(v37 v38:au)(v39:Bool)(v59 v60:Int)(v61:List ae){L2 L2':Int→Int→(List ae)→Option ae}(hL2:∀a0 a1 a2,Le (L2 a0 a1 a2) (L2' a0 a1 a2))(v65:ae):Le (lA K n v1 v2 v4 v5 v14 v15 v16 v17 v18 v28 v37 v38 v39 v59 v60 v61 L2 v65) (lA K' n' v1 v2 v4 v5 v14 v15 v16 v17 v18 v28 v37 v38 v39 v59 v60 v61 L2' v65):=by
 unfold lA
 with_reducible repeat' first|exact Le.rfl|refine Le.az ?_|refine Le.ite ?_ ?_|refine Le.both ?_ ?_|exact hL2 _ _ _|refine Le.bind ?_ fun _=>?_
theorem Q0{K K':Kn}(hK:bw K K'){n n':Nat}(hn:n≤n')(v1:aj)(v2:aP)(v4:Int)(v5:Bool)(v14:Int)(v15 v16:au)(v17:Bool)(v18:List ae)(v28:Int)(v37 v38:au)(v39:Bool){L2 L2':Int→Int→(List ae)→Option ae}(hL2:∀a0 a1 a2,Le (L2 a0 a1 a2) (L2' a0 a1 a2))(v59 v60:Int)(v61:List ae):Le (mA K n v1 v2 v4 v5 v14 v15 v16 v17 v18 v28 v37 v38 v39 L2 v59 v60 v61) (mA K' n' v1 v2 v4 v5 v14 v15 v16 v17 v18 v28 v37 v38 v39 L2' v59 v60 v61):=by
 unfold mA
 with_reducible repeat' first|exact Le.rfl|refine Le.az ?_|refine Le.ite ?_ ?_|refine Le.both ?_ ?_|exact U0 hK hn _ _|exact OA hK hn _ _ _ _ _ _ _ _ _ _ _ _ _ _ _ _ hL2 _|exact hL2 _ _ _|refine Le.bind ?_ fun _=>?_
theorem P5{K K':Kn}(hK:bw K K'){n n':Nat}(hn:n≤n')(v1:aj)(v2:aP)(v4:Int)(v5:Bool)(v14:Int)(v15 v16:au)(v17:Bool)(v18:List ae)(v28:Int)(v37 v38:au)(v39:Bool):∀m m',m≤m'→∀a0 a1 a2,Le (l4 K n v1 v2 v4 v5 v14 v15 v16 v17 v18 v28 v37 v38 v39 m a0 a1 a2) (l4 K' n' v1 v2 v4 v5 v14 v15 v16 v17 v18 v28 v37 v38 v39 m' a0 a1 a2):=by
 intro m
 induction m with
 | zero=>intro m' _ a0 a1 a2;exact Le.none
 | succ m ih =>
  intro m' h a0 a1 a2;cases m' with
  | zero=>exact absurd h (Nat.not_succ_le_zero _)
  | succ k=>exact Q0 hK hn _ _ _ _ _ _ _ _ _ _ _ _ _ (ih k (Nat.le_of_succ_le_succ h)) _ _ _
theorem Px{K K':Kn}(hK:bw K K'){n n':Nat}(hn:n≤n')(v1:aj)(v2:aP)(v4:Int)(v5:Bool)(v14:Int)(v15 v16:au)(v17:Bool)(v18:List ae)(v28:Int)(v37 v38:au)(v39:Bool)(v40:Int):Le (jx K n v1 v2 v4 v5 v14 v15 v16 v17 v18 v28 v37 v38 v39 v40) (jx K' n' v1 v2 v4 v5 v14 v15 v16 v17 v18 v28 v37 v38 v39 v40):=by
 unfold jx
 with_reducible repeat' first|exact Le.rfl|refine Le.az ?_|refine Le.ite ?_ ?_|refine Le.both ?_ ?_|exact P5 hK hn _ _ _ _ _ _ _ _ _ _ _ _ _ _ _ hn _ _ _|refine Le.bind ?_ fun _=>?_
theorem Et{K K':Kn}(hK:bw K K'){n n':Nat}(hn:n≤n')(v1:aj)(v2:aP)(v4:Int)(v5:Bool)(v14:Int)(v15 v16:au)(v17:Bool)(v18:List ae)(v19:Int×Bool)(v28 v36:Int)(v37 v38:au)(v39:Bool):Le (fV K n v1 v2 v4 v5 v14 v15 v16 v17 v18 v19 v28 v36 v37 v38 v39) (fV K' n' v1 v2 v4 v5 v14 v15 v16 v17 v18 v19 v28 v36 v37 v38 v39):=by
 unfold fV
 with_reducible repeat' first|exact Le.rfl|refine Le.az ?_|refine Le.ite ?_ ?_|refine Le.both ?_ ?_|exact Px hK hn _ _ _ _ _ _ _ _ _ _ _ _ _ _|refine Le.bind ?_ fun _=>?_
theorem Tc{K K':Kn}(hK:bw K K'){n n':Nat}(hn:n≤n')(v1:aj)(v2:aP)(v4:Int)(v5:Bool)(v14:Int)(v15 v16:au)(v17:Bool)(v18:List ae)(v19:Int×Bool)(v21 v22:Bool)(v24:au)(v28:Int)(v29:au)(v33:Bool):Le (mw K n v1 v2 v4 v5 v14 v15 v16 v17 v18 v19 v21 v22 v24 v28 v29 v33) (mw K' n' v1 v2 v4 v5 v14 v15 v16 v17 v18 v19 v21 v22 v24 v28 v29 v33):=by
 unfold mw
 with_reducible repeat' first|exact Le.rfl|refine Le.az ?_|refine Le.ite ?_ ?_|refine Le.both ?_ ?_|exact uP hK hn _ _|exact Et hK hn _ _ _ _ _ _ _ _ _ _ _ _ _ _ _|refine Le.bind ?_ fun _=>?_
theorem M4{K K':Kn}(hK:bw K K'){n n':Nat}(hn:n≤n')(v1:aj)(v2:aP)(v4:Int)(v5:Bool)(v14:Int)(v15 v16:au)(v17:Bool)(v18:List ae)(v19:Int×Bool)(v21 v22:Bool)(v24:au)(v28:Int)(v29:au)(v30:Bool):Le (kL K n v1 v2 v4 v5 v14 v15 v16 v17 v18 v19 v21 v22 v24 v28 v29 v30) (kL K' n' v1 v2 v4 v5 v14 v15 v16 v17 v18 v19 v21 v22 v24 v28 v29 v30):=by
 unfold kL
 with_reducible repeat' first|exact Le.rfl|refine Le.az ?_|refine Le.ite ?_ ?_|refine Le.both ?_ ?_|exact uP hK hn _ _|exact Et hK hn _ _ _ _ _ _ _ _ _ _ _ _ _ _ _|exact zP hK hn _|exact Tc hK hn _ _ _ _ _ _ _ _ _ _ _ _ _ _ _ _|refine Le.bind ?_ fun _=>?_
theorem Fj{K K':Kn}(hK:bw K K'){n n':Nat}(hn:n≤n')(v1:aj)(v2:aP)(v4:Int)(v5:Bool)(v14:Int)(v15 v16:au)(v17:Bool)(v18:List ae)(v19:Int×Bool)(v21 v22:Bool)(v24:au)(v28:Int)(v29:au):Le (jF K n v1 v2 v4 v5 v14 v15 v16 v17 v18 v19 v21 v22 v24 v28 v29) (jF K' n' v1 v2 v4 v5 v14 v15 v16 v17 v18 v19 v21 v22 v24 v28 v29):=by
 unfold jF
 with_reducible repeat' first|exact Le.rfl|refine Le.az ?_|refine Le.ite ?_ ?_|refine Le.both ?_ ?_|exact M4 hK hn _ _ _ _ _ _ _ _ _ _ _ _ _ _ _ _|refine Le.bind ?_ fun _=>?_
theorem Ol{K K':Kn}(hK:bw K K'){n n':Nat}(hn:n≤n')(v1:aj)(v2:aP)(v4:Int)(v5:Bool)(v14:Int)(v15 v16:au)(v17:Bool)(v18:List ae)(v19:Int×Bool)(v21 v22:Bool)(v23 v24:au)(v26:Bool):Le (lH K n v1 v2 v4 v5 v14 v15 v16 v17 v18 v19 v21 v22 v23 v24 v26) (lH K' n' v1 v2 v4 v5 v14 v15 v16 v17 v18 v19 v21 v22 v23 v24 v26):=by
 unfold lH
 with_reducible repeat' first|exact Le.rfl|refine Le.az ?_|refine Le.ite ?_ ?_|refine Le.both ?_ ?_|exact zP hK hn _|exact Fj hK hn _ _ _ _ _ _ _ _ _ _ _ _ _ _ _|refine Le.bind ?_ fun _=>?_
theorem SH{K K':Kn}(hK:bw K K'){n n':Nat}(hn:n≤n')(v1:aj)(v2:aP)(v4:Int)(v5:Bool)(v14:Int)(v15 v16:au)(v17:Bool)(v18:List ae)(v19:Int×Bool)(v21 v22:Bool):Le (hJ K n v1 v2 v4 v5 v14 v15 v16 v17 v18 v19 v21 v22) (hJ K' n' v1 v2 v4 v5 v14 v15 v16 v17 v18 v19 v21 v22):=by
 unfold hJ
 with_reducible repeat' first|exact Le.rfl|refine Le.az ?_|refine Le.ite ?_ ?_|refine Le.both ?_ ?_|exact Nt hK hn _|exact uP hK hn _ _|exact Fj hK hn _ _ _ _ _ _ _ _ _ _ _ _ _ _ _|exact Ol hK hn _ _ _ _ _ _ _ _ _ _ _ _ _ _ _|refine Le.bind ?_ fun _=>?_
theorem Tt{K K':Kn}(hK:bw K K'){n n':Nat}(hn:n≤n')(v1:aj)(v2:aP)(v4:Int)(v5:Bool)(v14:Int)(v15 v16:au)(v17:Bool)(v18:List ae)(v19:Int×Bool)(v20 v21:Bool):Le (mj K n v1 v2 v4 v5 v14 v15 v16 v17 v18 v19 v20 v21) (mj K' n' v1 v2 v4 v5 v14 v15 v16 v17 v18 v19 v20 v21):=by
 unfold mj
 with_reducible repeat' first|exact Le.rfl|refine Le.az ?_|refine Le.ite ?_ ?_|refine Le.both ?_ ?_|exact SH hK hn _ _ _ _ _ _ _ _ _ _ _ _|refine Le.bind ?_ fun _=>?_
theorem Ru{K K':Kn}(hK:bw K K'){n n':Nat}(hn:n≤n')(v1:aj)(v2:aP)(v4:Int)(v5:Bool)(v14:Int)(v15 v16:au)(v17:Bool)(v18:List ae)(v19:Int×Bool)(v20:Bool):Le (mz K n v1 v2 v4 v5 v14 v15 v16 v17 v18 v19 v20) (mz K' n' v1 v2 v4 v5 v14 v15 v16 v17 v18 v19 v20):=by
 unfold mz
 with_reducible repeat' first|exact Le.rfl|refine Le.az ?_|refine Le.ite ?_ ?_|refine Le.both ?_ ?_|exact Tt hK hn _ _ _ _ _ _ _ _ _ _ _ _|refine Le.bind ?_ fun _=>?_
theorem Ec{K K':Kn}(hK:bw K K'){n n':Nat}(hn:n≤n')(v1:aj)(v2:aP)(v3:Bool)(v4:Int)(v5:Bool)(v14:Int)(v15 v16:au)(v17:Bool)(v18:List ae):Le (hZ K n v1 v2 v3 v4 v5 v14 v15 v16 v17 v18) (hZ K' n' v1 v2 v3 v4 v5 v14 v15 v16 v17 v18):=by
 unfold hZ
 with_reducible repeat' first|exact Le.rfl|refine Le.az ?_|refine Le.ite ?_ ?_|refine Le.both ?_ ?_|exact HL hK hn _|exact Ru hK hn _ _ _ _ _ _ _ _ _ _ _|refine Le.bind ?_ fun _=>?_
theorem RR{K K':Kn}(hK:bw K K'){n n':Nat}(hn:n≤n')(v1:aj)(v2:aP)(v3:Bool)(v4:Int)(v5:Bool)(v6:List aj){L1 L1':Int→(List ae)→Option ae}(hL1:∀a0 a1,Le (L1 a0 a1) (L1' a0 a1))(v9:Int)(v10:List ae):Le (lD K n v1 v2 v3 v4 v5 v6 L1 v9 v10) (lD K' n' v1 v2 v3 v4 v5 v6 L1' v9 v10):=by
 unfold lD
 with_reducible repeat' first|exact Le.rfl|refine Le.az ?_|refine Le.ite ?_ ?_|refine Le.both ?_ ?_|exact JO hK hn _ _|exact NF hK hn _|exact Ec hK hn _ _ _ _ _ _ _ _ _ _|exact hL1 _ _|refine Le.bind ?_ fun _=>?_
theorem UN{K K':Kn}(hK:bw K K'){n n':Nat}(hn:n≤n')(v1:aj)(v2:aP)(v3:Bool)(v4:Int)(v5:Bool)(v6:List aj):∀m m',m≤m'→∀a0 a1,Le (jE K n v1 v2 v3 v4 v5 v6 m a0 a1) (jE K' n' v1 v2 v3 v4 v5 v6 m' a0 a1):=by
 intro m
 induction m with
 | zero=>intro m' _ a0 a1;exact Le.none
 | succ m ih =>
  intro m' h a0 a1;cases m' with
  | zero=>exact absurd h (Nat.not_succ_le_zero _)
  | succ k=>exact RR hK hn _ _ _ _ _ _ (ih k (Nat.le_of_succ_le_succ h)) _ _
theorem GO{K K':Kn}(hK:bw K K'){n n':Nat}(hn:n≤n')(v1:aj)(v2:aP)(v3:Bool):Le (jO K n v1 v2 v3) (jO K' n' v1 v2 v3):=by
 unfold jO
 with_reducible repeat' first|exact Le.rfl|refine Le.az ?_|refine Le.ite ?_ ?_|refine Le.both ?_ ?_|exact Jr hK hn _|exact zt hK hn _|exact UN hK hn _ _ _ _ _ _ _ _ hn _ _|exact Ot hK hn _ _ _|exact Ec hK hn _ _ _ _ _ _ _ _ _ _|refine Le.bind ?_ fun _=>?_
theorem Th{K K':Kn}(hK:bw K K'){n n':Nat}(hn:n≤n')(v1:aj)(v2:aP):Le (kB K n v1 v2) (kB K' n' v1 v2):=by
 unfold kB
 with_reducible repeat' first|exact Le.rfl|refine Le.az ?_|refine Le.ite ?_ ?_|refine Le.both ?_ ?_|exact GO hK hn _ _ _|refine Le.bind ?_ fun _=>?_
theorem zC:∀n m,n≤m→bw (KN n) (KN m)
 | 0,m,_=>by refine⟨fun _=>Le.none,fun _ _ _=>Le.none⟩
 | n+1,0,h=>absurd h (Nat.not_succ_le_zero _)
 | n+1,m+1,h=>by
  have hK:=zC n m (Nat.le_of_succ_le_succ h);have hn:=Nat.le_of_succ_le_succ h;refine⟨?_,?_⟩
  ·exact fun _=>DW hK hn _
  ·exact fun _ _ _=>GO hK hn _ _ _
end Go.Proofs.YtnpmlepplfaijaaGreat

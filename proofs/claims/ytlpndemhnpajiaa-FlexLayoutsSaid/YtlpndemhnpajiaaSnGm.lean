/- More rounds and deeper calls never change an answer. Made by a program. -/
import Derived.Test.YtlpndemhnpajiaaSnGf
namespace Go.Proofs.Ytlpndemhnpajiaa
open Go.RowKit
set_option maxRecDepth 20000
set_option linter.all false
def Le {α:Type} (x y:Option α):Prop:=∀ r,x=some r→y=some r
theorem Le.rfl {α:Type} {x:Option α}:Le x x:=fun _ h=>h
theorem Le.none {α:Type} {y:Option α}:Le (none:Option α) y:=fun _ h=>by cases h
theorem Le.chk {α:Type} {c:Bool} {x y:Option α} (h:Le x y):Le (chk c x) (Go.Proofs.Ytlpndemhnpajiaa.chk c y):=by cases c; exact Le.rfl; exact h
theorem Le.ite {α:Type} {c:Prop} [Decidable c] {x y x' y':Option α} (h:Le x x') (h2:Le y y'):Le (if c then x else y) (if c then x' else y'):=by split; exact h; exact h2
theorem Le.bind {α β:Type} {x x':Option α} {f f':α→Option β} (h:Le x x') (h2:∀ a,Le (f a) (f' a)):Le (x.bind f) (x'.bind f'):=by
  intro r hr
  cases hx:x with
  | none=>rw [hx] at hr; cases hr
  | some a=>rw [hx] at hr; rw [h a hx]; exact h2 a r hr
theorem Le.both {α:Type} {c:Bool} {x y x' y':Option α} (h:Le x x') (h2:Le y y'):Le (both c x y) (Go.Proofs.Ytlpndemhnpajiaa.both c x' y'):=by
  intro r hr
  unfold Go.Proofs.Ytlpndemhnpajiaa.both at hr ⊢
  split at hr
  · rename_i hc
    rw [if_pos hc]
    split at hr
    · rename_i e
      rw [h r hr,h2 r (e ▸ hr),if_pos]
      exact _root_.rfl
    · cases hr
  · rename_i hc
    rw [if_neg hc]; exact h2 r hr
structure KLe (K K':Kn):Prop where
  gJ:∀ a0,Le (K.gJ a0) (K'.gJ a0)
  dq:∀ a0 a1,Le (K.dq a0 a1) (K'.dq a0 a1)
  iX:∀ a0 a1 a2 a3,Le (K.iX a0 a1 a2 a3) (K'.iX a0 a1 a2 a3)
  lL:∀ a0 a1 a2,Le (K.lL a0 a1 a2) (K'.lL a0 a1 a2)
  dD:∀ a0 a1 a2,Le (K.dD a0 a1 a2) (K'.dD a0 a1 a2)
  fr:∀ a0 a1,Le (K.fr a0 a1) (K'.fr a0 a1)
  eM:∀ a0 a1,Le (K.eM a0 a1) (K'.eM a0 a1)
theorem xY {K K':Kn} (hK:KLe K K') {n n':Nat} (hn:n≤n')  : Le (ff K n ) (ff K' n' ):=by
  unfold ff
  with_reducible repeat' first | exact Le.rfl | refine Le.chk ?_ | refine Le.ite ?_ ?_ | refine Le.both ?_ ?_ | refine Le.bind ?_ fun _=>?_
theorem sE {K K':Kn} (hK:KLe K K') {n n':Nat} (hn:n≤n') (v1:Int):Le (dw K n v1) (dw K' n' v1):=by
  unfold dw
  with_reducible repeat' first | exact Le.rfl | refine Le.chk ?_ | refine Le.ite ?_ ?_ | refine Le.both ?_ ?_ | refine Le.bind ?_ fun _=>?_
theorem yT {K K':Kn} (hK:KLe K K') {n n':Nat} (hn:n≤n') (v4:Int):Le (iR K n v4) (iR K' n' v4):=by
  unfold iR
  with_reducible repeat' first | exact Le.rfl | refine Le.chk ?_ | refine Le.ite ?_ ?_ | refine Le.both ?_ ?_ | refine Le.bind ?_ fun _=>?_
theorem kO {K K':Kn} (hK:KLe K K') {n n':Nat} (hn:n≤n') (v1:aQ) (v2:Int):Le (cA K n v1 v2) (cA K' n' v1 v2):=by
  unfold cA
  with_reducible repeat' first | exact Le.rfl | refine Le.chk ?_ | refine Le.ite ?_ ?_ | refine Le.both ?_ ?_ | exact yT hK hn _ | exact sE hK hn _ | refine Le.bind ?_ fun _=>?_
theorem xM {K K':Kn} (hK:KLe K K') {n n':Nat} (hn:n≤n') (v1:aE) (v2 v3:Int):Le (fq K n v1 v2 v3) (fq K' n' v1 v2 v3):=by
  unfold fq
  with_reducible repeat' first | exact Le.rfl | refine Le.chk ?_ | refine Le.ite ?_ ?_ | refine Le.both ?_ ?_ | exact kO hK hn _ _ | exact sE hK hn _ | refine Le.bind ?_ fun _=>?_
theorem Cy {K K':Kn} (hK:KLe K K') {n n':Nat} (hn:n≤n') (v7:Int):Le (lD K n v7) (lD K' n' v7):=by
  unfold lD
  with_reducible repeat' first | exact Le.rfl | refine Le.chk ?_ | refine Le.ite ?_ ?_ | refine Le.both ?_ ?_ | refine Le.bind ?_ fun _=>?_
theorem Ag {K K':Kn} (hK:KLe K K') {n n':Nat} (hn:n≤n') (v1:aE) (v2 v5:Int):Le (kf K n v1 v2 v5) (kf K' n' v1 v2 v5):=by
  unfold kf
  with_reducible repeat' first | exact Le.rfl | refine Le.chk ?_ | refine Le.ite ?_ ?_ | refine Le.both ?_ ?_ | exact kO hK hn _ _ | exact Cy hK hn _ | refine Le.bind ?_ fun _=>?_
theorem vi {K K':Kn} (hK:KLe K K') {n n':Nat} (hn:n≤n') (v1:aE) (v2 v3:Int):Le (ib K n v1 v2 v3) (ib K' n' v1 v2 v3):=by
  unfold ib
  with_reducible repeat' first | exact Le.rfl | refine Le.chk ?_ | refine Le.ite ?_ ?_ | refine Le.both ?_ ?_ | exact kO hK hn _ _ | exact Ag hK hn _ _ _ | refine Le.bind ?_ fun _=>?_
theorem ur {K K':Kn} (hK:KLe K K') {n n':Nat} (hn:n≤n') (v1:ay):Le (fC K n v1) (fC K' n' v1):=by
  unfold fC
  with_reducible repeat' first | exact Le.rfl | refine Le.chk ?_ | refine Le.ite ?_ ?_ | refine Le.both ?_ ?_ | refine Le.bind ?_ fun _=>?_
theorem CF {K K':Kn} (hK:KLe K K') {n n':Nat} (hn:n≤n') (v4:ay) (v8:Int) (v13:V4 Int):Le (gN K n v4 v8 v13) (gN K' n' v4 v8 v13):=by
  unfold gN
  with_reducible repeat' first | exact Le.rfl | refine Le.chk ?_ | refine Le.ite ?_ ?_ | refine Le.both ?_ ?_ | refine Le.bind ?_ fun _=>?_
theorem CZ {K K':Kn} (hK:KLe K K') {n n':Nat} (hn:n≤n') (v3:Int) (v4:ay) (v8 v9:Int) (v10 v11:Int×Bool) (v12:Bool):Le (kF K n v3 v4 v8 v9 v10 v11 v12) (kF K' n' v3 v4 v8 v9 v10 v11 v12):=by
  unfold kF
  with_reducible repeat' first | exact Le.rfl | refine Le.chk ?_ | refine Le.ite ?_ ?_ | refine Le.both ?_ ?_ | exact CF hK hn _ _ _ | refine Le.bind ?_ fun _=>?_
theorem BM {K K':Kn} (hK:KLe K K') {n n':Nat} (hn:n≤n') (v1:aE) (v3:Int) (v4:ay) (v7:Int):Le (jO K n v1 v3 v4 v7) (jO K' n' v1 v3 v4 v7):=by
  unfold jO
  with_reducible repeat' first | exact Le.rfl | refine Le.chk ?_ | refine Le.ite ?_ ?_ | refine Le.both ?_ ?_ | exact vi hK hn _ _ _ | exact ur hK hn _ | exact kO hK hn _ _ | exact CZ hK hn _ _ _ _ _ _ _ | refine Le.bind ?_ fun _=>?_
theorem m_g_block_Used {K K':Kn} (hK:KLe K K') {n n':Nat} (hn:n≤n') (v1:aE) (v2:Int):Le (jL K n v1 v2) (jL K' n' v1 v2):=by
  unfold jL
  with_reducible repeat' first | exact Le.rfl | refine Le.chk ?_ | refine Le.ite ?_ ?_ | refine Le.both ?_ ?_ | exact sE hK hn _ | exact xM hK hn _ _ _ | exact kO hK hn _ _ | exact ur hK hn _ | exact BM hK hn _ _ _ _ | refine Le.bind ?_ fun _=>?_
theorem m_g_block_Of {K K':Kn} (hK:KLe K K') {n n':Nat} (hn:n≤n') (v1:Int):Le (gL K n v1) (gL K' n' v1):=by
  unfold gL
  with_reducible repeat' first | exact Le.rfl | refine Le.chk ?_ | refine Le.ite ?_ ?_ | refine Le.both ?_ ?_ | refine Le.bind ?_ fun _=>?_
theorem CP {K K':Kn} (hK:KLe K K') {n n':Nat} (hn:n≤n') (v2:Bool):Le (kX K n v2) (kX K' n' v2):=by
  unfold kX
  with_reducible repeat' first | exact Le.rfl | refine Le.chk ?_ | refine Le.ite ?_ ?_ | refine Le.both ?_ ?_ | refine Le.bind ?_ fun _=>?_
theorem m_g_block_Flow {K K':Kn} (hK:KLe K K') {n n':Nat} (hn:n≤n') (v1:ab):Le (jB K n v1) (jB K' n' v1):=by
  unfold jB
  with_reducible repeat' first | exact Le.rfl | refine Le.chk ?_ | refine Le.ite ?_ ?_ | refine Le.both ?_ ?_ | exact CP hK hn _ | refine Le.bind ?_ fun _=>?_
theorem um {K K':Kn} (hK:KLe K K') {n n':Nat} (hn:n≤n') (v1:ah):Le (dc K n v1) (dc K' n' v1):=by
  unfold dc
  with_reducible repeat' first | exact Le.rfl | refine Le.chk ?_ | refine Le.ite ?_ ?_ | refine Le.both ?_ ?_ | refine Le.bind ?_ fun _=>?_
theorem y5 {K K':Kn} (hK:KLe K K') {n n':Nat} (hn:n≤n') (v1:aa) (v3:Int×Bool) (v5:Int):Le (km K n v1 v3 v5) (km K' n' v1 v3 v5):=by
  unfold km
  with_reducible repeat' first | exact Le.rfl | refine Le.chk ?_ | refine Le.ite ?_ ?_ | refine Le.both ?_ ?_ | refine Le.bind ?_ fun _=>?_
theorem m_g_block_Moved {K K':Kn} (hK:KLe K K') {n n':Nat} (hn:n≤n') (v1:aa) (v2:Int):Le (jP K n v1 v2) (jP K' n' v1 v2):=by
  unfold jP
  with_reducible repeat' first | exact Le.rfl | refine Le.chk ?_ | refine Le.ite ?_ ?_ | refine Le.both ?_ ?_ | exact kO hK hn _ _ | exact y5 hK hn _ _ _ | refine Le.bind ?_ fun _=>?_
theorem m_g_ref17_In_j1 {K K':Kn} (hK:KLe K K') {n n':Nat} (hn:n≤n') (v2:Bool):Le (kI K n v2) (kI K' n' v2):=by
  unfold kI
  with_reducible repeat' first | exact Le.rfl | refine Le.chk ?_ | refine Le.ite ?_ ?_ | refine Le.both ?_ ?_ | refine Le.bind ?_ fun _=>?_
theorem m_g_ref17_In {K K':Kn} (hK:KLe K K') {n n':Nat} (hn:n≤n') (v1:ab):Le (i7 K n v1) (i7 K' n' v1):=by
  unfold i7
  with_reducible repeat' first | exact Le.rfl | refine Le.chk ?_ | refine Le.ite ?_ ?_ | refine Le.both ?_ ?_ | exact m_g_ref17_In_j1 hK hn _ | refine Le.bind ?_ fun _=>?_
theorem nX {K K':Kn} (hK:KLe K K') {n n':Nat} (hn:n≤n') (v1:Int):Le (dk K n v1) (dk K' n' v1):=by
  unfold dk
  with_reducible repeat' first | exact Le.rfl | refine Le.chk ?_ | refine Le.ite ?_ ?_ | refine Le.both ?_ ?_ | refine Le.bind ?_ fun _=>?_
theorem uJ {K K':Kn} (hK:KLe K K') {n n':Nat} (hn:n≤n') (v1:ay):Le (gq K n v1) (gq K' n' v1):=by
  unfold gq
  with_reducible repeat' first | exact Le.rfl | refine Le.chk ?_ | refine Le.ite ?_ ?_ | refine Le.both ?_ ?_ | refine Le.bind ?_ fun _=>?_
theorem vE {K K':Kn} (hK:KLe K K') {n n':Nat} (hn:n≤n') (v1:Int):Le (gh K n v1) (gh K' n' v1):=by
  unfold gh
  with_reducible repeat' first | exact Le.rfl | refine Le.chk ?_ | refine Le.ite ?_ ?_ | refine Le.both ?_ ?_ | refine Le.bind ?_ fun _=>?_
theorem oE {K K':Kn} (hK:KLe K K') {n n':Nat} (hn:n≤n') (v1:aQ) (v2:Int):Le (cW K n v1 v2) (cW K' n' v1 v2):=by
  unfold cW
  with_reducible repeat' first | exact Le.rfl | refine Le.chk ?_ | refine Le.ite ?_ ?_ | refine Le.both ?_ ?_ | exact vE hK hn _ | exact nX hK hn _ | refine Le.bind ?_ fun _=>?_
theorem vS {K K':Kn} (hK:KLe K K') {n n':Nat} (hn:n≤n') (v1:aE) (v2 v3:Int):Le (fH K n v1 v2 v3) (fH K' n' v1 v2 v3):=by
  unfold fH
  with_reducible repeat' first | exact Le.rfl | refine Le.chk ?_ | refine Le.ite ?_ ?_ | refine Le.both ?_ ?_ | exact oE hK hn _ _ | exact nX hK hn _ | refine Le.bind ?_ fun _=>?_
theorem zN {K K':Kn} (hK:KLe K K') {n n':Nat} (hn:n≤n') (v7:Int):Le (ld K n v7) (ld K' n' v7):=by
  unfold ld
  with_reducible repeat' first | exact Le.rfl | refine Le.chk ?_ | refine Le.ite ?_ ?_ | refine Le.both ?_ ?_ | refine Le.bind ?_ fun _=>?_
theorem y6 {K K':Kn} (hK:KLe K K') {n n':Nat} (hn:n≤n') (v1:aE) (v2 v5:Int):Le (lW K n v1 v2 v5) (lW K' n' v1 v2 v5):=by
  unfold lW
  with_reducible repeat' first | exact Le.rfl | refine Le.chk ?_ | refine Le.ite ?_ ?_ | refine Le.both ?_ ?_ | exact oE hK hn _ _ | exact zN hK hn _ | refine Le.bind ?_ fun _=>?_
theorem ye {K K':Kn} (hK:KLe K K') {n n':Nat} (hn:n≤n') (v1:aE) (v2 v3:Int):Le (ia K n v1 v2 v3) (ia K' n' v1 v2 v3):=by
  unfold ia
  with_reducible repeat' first | exact Le.rfl | refine Le.chk ?_ | refine Le.ite ?_ ?_ | refine Le.both ?_ ?_ | exact oE hK hn _ _ | exact y6 hK hn _ _ _ | refine Le.bind ?_ fun _=>?_
theorem CH {K K':Kn} (hK:KLe K K') {n n':Nat} (hn:n≤n') (v4:ay) (v8:Int) (v13:V4 Int):Le (gS K n v4 v8 v13) (gS K' n' v4 v8 v13):=by
  unfold gS
  with_reducible repeat' first | exact Le.rfl | refine Le.chk ?_ | refine Le.ite ?_ ?_ | refine Le.both ?_ ?_ | refine Le.bind ?_ fun _=>?_
theorem CI {K K':Kn} (hK:KLe K K') {n n':Nat} (hn:n≤n') (v3:Int) (v4:ay) (v8 v9:Int) (v10 v11:Int×Bool) (v12:Bool):Le (lO K n v3 v4 v8 v9 v10 v11 v12) (lO K' n' v3 v4 v8 v9 v10 v11 v12):=by
  unfold lO
  with_reducible repeat' first | exact Le.rfl | refine Le.chk ?_ | refine Le.ite ?_ ?_ | refine Le.both ?_ ?_ | exact CH hK hn _ _ _ | refine Le.bind ?_ fun _=>?_
theorem CU {K K':Kn} (hK:KLe K K') {n n':Nat} (hn:n≤n') (v1:aE) (v3:Int) (v4:ay) (v7:Int):Le (iM K n v1 v3 v4 v7) (iM K' n' v1 v3 v4 v7):=by
  unfold iM
  with_reducible repeat' first | exact Le.rfl | refine Le.chk ?_ | refine Le.ite ?_ ?_ | refine Le.both ?_ ?_ | exact ye hK hn _ _ _ | exact uJ hK hn _ | exact oE hK hn _ _ | exact CI hK hn _ _ _ _ _ _ _ | refine Le.bind ?_ fun _=>?_
theorem m_g_ref17_Used {K K':Kn} (hK:KLe K K') {n n':Nat} (hn:n≤n') (v1:aE) (v2:Int):Le (jl K n v1 v2) (jl K' n' v1 v2):=by
  unfold jl
  with_reducible repeat' first | exact Le.rfl | refine Le.chk ?_ | refine Le.ite ?_ ?_ | refine Le.both ?_ ?_ | exact nX hK hn _ | exact vS hK hn _ _ _ | exact oE hK hn _ _ | exact uJ hK hn _ | exact CU hK hn _ _ _ _ | refine Le.bind ?_ fun _=>?_
theorem m_g_ref17_Of {K K':Kn} (hK:KLe K K') {n n':Nat} (hn:n≤n') (v1:Int):Le (gI K n v1) (gI K' n' v1):=by
  unfold gI
  with_reducible repeat' first | exact Le.rfl | refine Le.chk ?_ | refine Le.ite ?_ ?_ | refine Le.both ?_ ?_ | refine Le.bind ?_ fun _=>?_
theorem BX {K K':Kn} (hK:KLe K K') {n n':Nat} (hn:n≤n') (v1:List ab) (v2:aE) (v3 v11:Int) {L1 L1':Int→Int→(List aa)→Option ((List aa)×Int)} (hL1:∀ a0 a1 a2,Le (L1 a0 a1 a2) (L1' a0 a1 a2)) (v14:Int) (v15:List aa):Le (l6 K n v1 v2 v3 v11 L1 v14 v15) (l6 K' n' v1 v2 v3 v11 L1' v14 v15):=by
  unfold l6
  with_reducible repeat' first | exact Le.rfl | refine Le.chk ?_ | refine Le.ite ?_ ?_ | refine Le.both ?_ ?_ | exact hL1 _ _ _ | refine Le.bind ?_ fun _=>?_
theorem Cu {K K':Kn} (hK:KLe K K') {n n':Nat} (hn:n≤n') (v1:List ab) (v2:aE) (v3:Int) {L1 L1':Int→Int→(List aa)→Option ((List aa)×Int)} (hL1:∀ a0 a1 a2,Le (L1 a0 a1 a2) (L1' a0 a1 a2)) (v10 v11:Int) (v12:List aa):Le (kp K n v1 v2 v3 L1 v10 v11 v12) (kp K' n' v1 v2 v3 L1' v10 v11 v12):=by
  unfold kp
  with_reducible repeat' first | exact Le.rfl | refine Le.chk ?_ | refine Le.ite ?_ ?_ | refine Le.both ?_ ?_ | exact BX hK hn _ _ _ _ hL1 _ _ | exact hL1 _ _ _ | refine Le.bind ?_ fun _=>?_
theorem CM {K K':Kn} (hK:KLe K K') {n n':Nat} (hn:n≤n') (v1:List ab) (v2:aE) (v3:Int):∀ m m',m≤m'→∀ a0 a1 a2,Le (lE K n v1 v2 v3 m a0 a1 a2) (lE K' n' v1 v2 v3 m' a0 a1 a2):=by
  intro m
  induction m with
  | zero=>intro m' _ a0 a1 a2; exact Le.none
  | succ m ih =>
    intro m' h a0 a1 a2
    cases m' with
    | zero=>exact absurd h (Nat.not_succ_le_zero _)
    | succ k=>exact Cu hK hn _ _ _ (ih k (Nat.le_of_succ_le_succ h)) _ _ _
theorem xJ {K K':Kn} (hK:KLe K K') {n n':Nat} (hn:n≤n') (v1:List ab) (v2:aE) (v3:Int):Le (iC K n v1 v2 v3) (iC K' n' v1 v2 v3):=by
  unfold iC
  with_reducible repeat' first | exact Le.rfl | refine Le.chk ?_ | refine Le.ite ?_ ?_ | refine Le.both ?_ ?_ | exact CM hK hn _ _ _ _ _ hn _ _ _ | refine Le.bind ?_ fun _=>?_
theorem Dp {K K':Kn} (hK:KLe K K') {n n':Nat} (hn:n≤n') (v1:ab) (v8:Int) {L1 L1':Int→(List ab)→Option (List ab)} (hL1:∀ a0 a1,Le (L1 a0 a1) (L1' a0 a1)) (v11:List ab):Le (jY K n v1 v8 L1 v11) (jY K' n' v1 v8 L1' v11):=by
  unfold jY
  with_reducible repeat' first | exact Le.rfl | refine Le.chk ?_ | refine Le.ite ?_ ?_ | refine Le.both ?_ ?_ | exact hL1 _ _ | refine Le.bind ?_ fun _=>?_
theorem BR {K K':Kn} (hK:KLe K K') {n n':Nat} (hn:n≤n') (v1:ab) {L1 L1':Int→(List ab)→Option (List ab)} (hL1:∀ a0 a1,Le (L1 a0 a1) (L1' a0 a1)) (v8:Int) (v9:List ab):Le (lv K n v1 L1 v8 v9) (lv K' n' v1 L1' v8 v9):=by
  unfold lv
  with_reducible repeat' first | exact Le.rfl | refine Le.chk ?_ | refine Le.ite ?_ ?_ | refine Le.both ?_ ?_ | exact m_g_ref17_In hK hn _ | exact Dp hK hn _ _ hL1 _ | exact hL1 _ _ | refine Le.bind ?_ fun _=>?_
theorem Dl {K K':Kn} (hK:KLe K K') {n n':Nat} (hn:n≤n') (v1:ab):∀ m m',m≤m'→∀ a0 a1,Le (kG K n v1 m a0 a1) (kG K' n' v1 m' a0 a1):=by
  intro m
  induction m with
  | zero=>intro m' _ a0 a1; exact Le.none
  | succ m ih =>
    intro m' h a0 a1
    cases m' with
    | zero=>exact absurd h (Nat.not_succ_le_zero _)
    | succ k=>exact BR hK hn _ (ih k (Nat.le_of_succ_le_succ h)) _ _
theorem uf {K K':Kn} (hK:KLe K K') {n n':Nat} (hn:n≤n') (v1:ab):Le (iQ K n v1) (iQ K' n' v1):=by
  unfold iQ
  with_reducible repeat' first | exact Le.rfl | refine Le.chk ?_ | refine Le.ite ?_ ?_ | refine Le.both ?_ ?_ | exact Dl hK hn _ _ _ hn _ _ | refine Le.bind ?_ fun _=>?_
theorem Da {K K':Kn} (hK:KLe K K') {n n':Nat} (hn:n≤n') (v1:aa) (v3:Int×Bool) (v5:Int):Le (lq K n v1 v3 v5) (lq K' n' v1 v3 v5):=by
  unfold lq
  with_reducible repeat' first | exact Le.rfl | refine Le.chk ?_ | refine Le.ite ?_ ?_ | refine Le.both ?_ ?_ | refine Le.bind ?_ fun _=>?_
theorem m_g_ref17_Moved {K K':Kn} (hK:KLe K K') {n n':Nat} (hn:n≤n') (v1:aa) (v2:Int):Le (jf K n v1 v2) (jf K' n' v1 v2):=by
  unfold jf
  with_reducible repeat' first | exact Le.rfl | refine Le.chk ?_ | refine Le.ite ?_ ?_ | refine Le.both ?_ ?_ | exact oE hK hn _ _ | exact Da hK hn _ _ _ | refine Le.bind ?_ fun _=>?_
theorem xD {K K':Kn} (hK:KLe K K') {n n':Nat} (hn:n≤n') (v1:aQ):Le (i8 K n v1) (i8 K' n' v1):=by
  unfold i8
  with_reducible repeat' first | exact Le.rfl | refine Le.chk ?_ | refine Le.ite ?_ ?_ | refine Le.both ?_ ?_ | exact vE hK hn _ | refine Le.bind ?_ fun _=>?_
theorem uG {K K':Kn} (hK:KLe K K') {n n':Nat} (hn:n≤n') (v1:ah):Le (dr K n v1) (dr K' n' v1):=by
  unfold dr
  with_reducible repeat' first | exact Le.rfl | refine Le.chk ?_ | refine Le.ite ?_ ?_ | refine Le.both ?_ ?_ | refine Le.bind ?_ fun _=>?_
theorem AN {K K':Kn} (hK:KLe K K') {n n':Nat} (hn:n≤n') (v2:List ab) {L1 L1':Int→Option Bool} (hL1:∀ a0,Le (L1 a0) (L1' a0)) (v4:Int):Le (lY K n v2 L1 v4) (lY K' n' v2 L1' v4):=by
  unfold lY
  with_reducible repeat' first | exact Le.rfl | refine Le.chk ?_ | refine Le.ite ?_ ?_ | refine Le.both ?_ ?_ | exact hL1 _ | refine Le.bind ?_ fun _=>?_
theorem CD {K K':Kn} (hK:KLe K K') {n n':Nat} (hn:n≤n') (v2:List ab):∀ m m',m≤m'→∀ a0,Le (lw K n v2 m a0) (lw K' n' v2 m' a0):=by
  intro m
  induction m with
  | zero=>intro m' _ a0; exact Le.none
  | succ m ih =>
    intro m' h a0
    cases m' with
    | zero=>exact absurd h (Nat.not_succ_le_zero _)
    | succ k=>exact AN hK hn _ (ih k (Nat.le_of_succ_le_succ h)) _
theorem wY {K K':Kn} (hK:KLe K K') {n n':Nat} (hn:n≤n') (v1:ab):Le (jM K n v1) (jM K' n' v1):=by
  unfold jM
  with_reducible repeat' first | exact Le.rfl | refine Le.chk ?_ | refine Le.ite ?_ ?_ | refine Le.both ?_ ?_ | exact uf hK hn _ | exact CD hK hn _ _ _ hn _ | refine Le.bind ?_ fun _=>?_
theorem tP {K K':Kn} (hK:KLe K K') {n n':Nat} (hn:n≤n') (v1 v2:ah):Le (fG K n v1 v2) (fG K' n' v1 v2):=by
  unfold fG
  with_reducible repeat' first | exact Le.rfl | refine Le.chk ?_ | refine Le.ite ?_ ?_ | refine Le.both ?_ ?_ | refine Le.bind ?_ fun _=>?_
theorem vO {K K':Kn} (hK:KLe K K') {n n':Nat} (hn:n≤n') (v1:List aa) (v16:Int) (v21:List aa) (v24:Int) {L1 L1':Int→Int→ah→Bool→ah→(List aa)→Option bZ} (hL1:∀ a0 a1 a2 a3 a4 a5,Le (L1 a0 a1 a2 a3 a4 a5) (L1' a0 a1 a2 a3 a4 a5)) (v26:Int) (v27:ah) (v28:Bool) (v29:ah):Le (ke K n v1 v16 v21 v24 L1 v26 v27 v28 v29) (ke K' n' v1 v16 v21 v24 L1' v26 v27 v28 v29):=by
  unfold ke
  with_reducible repeat' first | exact Le.rfl | refine Le.chk ?_ | refine Le.ite ?_ ?_ | refine Le.both ?_ ?_ | exact hL1 _ _ _ _ _ _ | refine Le.bind ?_ fun _=>?_
theorem z7 {K K':Kn} (hK:KLe K K') {n n':Nat} (hn:n≤n') (v1:List aa) (v16 v17:Int) (v19:Bool) (v21:List aa) (v22:ah) (v24:Int) {L1 L1':Int→Int→ah→Bool→ah→(List aa)→Option bZ} (hL1:∀ a0 a1 a2 a3 a4 a5,Le (L1 a0 a1 a2 a3 a4 a5) (L1' a0 a1 a2 a3 a4 a5)) (v25:ah):Le (li K n v1 v16 v17 v19 v21 v22 v24 L1 v25) (li K' n' v1 v16 v17 v19 v21 v22 v24 L1' v25):=by
  unfold li
  with_reducible repeat' first | exact Le.rfl | refine Le.chk ?_ | refine Le.ite ?_ ?_ | refine Le.both ?_ ?_ | exact vO hK hn _ _ _ _ hL1 _ _ _ _ | exact hL1 _ _ _ _ _ _ | refine Le.bind ?_ fun _=>?_
theorem Br {K K':Kn} (hK:KLe K K') {n n':Nat} (hn:n≤n') (v1:List aa) (v16 v17:Int) (v18:ah) (v19:Bool) (v21:List aa) (v22:ah) {L1 L1':Int→Int→ah→Bool→ah→(List aa)→Option bZ} (hL1:∀ a0 a1 a2 a3 a4 a5,Le (L1 a0 a1 a2 a3 a4 a5) (L1' a0 a1 a2 a3 a4 a5)) (v24:Int):Le (lk K n v1 v16 v17 v18 v19 v21 v22 L1 v24) (lk K' n' v1 v16 v17 v18 v19 v21 v22 L1' v24):=by
  unfold lk
  with_reducible repeat' first | exact Le.rfl | refine Le.chk ?_ | refine Le.ite ?_ ?_ | refine Le.both ?_ ?_ | exact z7 hK hn _ _ _ _ _ _ _ hL1 _ | exact vO hK hn _ _ _ _ hL1 _ _ _ _ | exact hL1 _ _ _ _ _ _ | refine Le.bind ?_ fun _=>?_
theorem zu {K K':Kn} (hK:KLe K K') {n n':Nat} (hn:n≤n') (v17:Int) (v19:Bool) (v20:ah) (v21:List aa) (v30:ah):Le (j6 K n v17 v19 v20 v21 v30) (j6 K' n' v17 v19 v20 v21 v30):=by
  unfold j6
  with_reducible repeat' first | exact Le.rfl | refine Le.chk ?_ | refine Le.ite ?_ ?_ | refine Le.both ?_ ?_ | refine Le.bind ?_ fun _=>?_
theorem zO {K K':Kn} (hK:KLe K K') {n n':Nat} (hn:n≤n') (v1:List aa) {L1 L1':Int→Int→ah→Bool→ah→(List aa)→Option bZ} (hL1:∀ a0 a1 a2 a3 a4 a5,Le (L1 a0 a1 a2 a3 a4 a5) (L1' a0 a1 a2 a3 a4 a5)) (v16 v17:Int) (v18:ah) (v19:Bool) (v20:ah) (v21:List aa):Le (kC K n v1 L1 v16 v17 v18 v19 v20 v21) (kC K' n' v1 L1' v16 v17 v18 v19 v20 v21):=by
  unfold kC
  with_reducible repeat' first | exact Le.rfl | refine Le.chk ?_ | refine Le.ite ?_ ?_ | refine Le.both ?_ ?_ | exact tP hK hn _ _ | exact uG hK hn _ | exact Br hK hn _ _ _ _ _ _ _ hL1 _ | exact zu hK hn _ _ _ _ _ | exact hL1 _ _ _ _ _ _ | refine Le.bind ?_ fun _=>?_
theorem CS {K K':Kn} (hK:KLe K K') {n n':Nat} (hn:n≤n') (v1:List aa):∀ m m',m≤m'→∀ a0 a1 a2 a3 a4 a5,Le (ky K n v1 m a0 a1 a2 a3 a4 a5) (ky K' n' v1 m' a0 a1 a2 a3 a4 a5):=by
  intro m
  induction m with
  | zero=>intro m' _ a0 a1 a2 a3 a4 a5; exact Le.none
  | succ m ih =>
    intro m' h a0 a1 a2 a3 a4 a5
    cases m' with
    | zero=>exact absurd h (Nat.not_succ_le_zero _)
    | succ k=>exact zO hK hn _ (ih k (Nat.le_of_succ_le_succ h)) _ _ _ _ _ _
theorem m_g_ref17_Stack {K K':Kn} (hK:KLe K K') {n n':Nat} (hn:n≤n') (v1:List aa):Le (lR K n v1) (lR K' n' v1):=by
  unfold lR
  with_reducible repeat' first | exact Le.rfl | refine Le.chk ?_ | refine Le.ite ?_ ?_ | refine Le.both ?_ ?_ | exact CS hK hn _ _ _ hn _ _ _ _ _ _ | refine Le.bind ?_ fun _=>?_
theorem C0 {K K':Kn} (hK:KLe K K') {n n':Nat} (hn:n≤n') (v1:ab) (v2:ay) (v4:Int) (v5:Bool) (v14:Int) (v15 v16:ah) (v17:Bool) (v18:List aa) (v28:Int) (v37 v38:ah) (v39:Bool) (v59 v60:Int) (v61:List aa) {L2 L2':Int→Int→(List aa)→Option aa} (hL2:∀ a0 a1 a2,Le (L2 a0 a1 a2) (L2' a0 a1 a2)) (v65:aa):Le (kS K n v1 v2 v4 v5 v14 v15 v16 v17 v18 v28 v37 v38 v39 v59 v60 v61 L2 v65) (kS K' n' v1 v2 v4 v5 v14 v15 v16 v17 v18 v28 v37 v38 v39 v59 v60 v61 L2' v65):=by
  unfold kS
  with_reducible repeat' first | exact Le.rfl | refine Le.chk ?_ | refine Le.ite ?_ ?_ | refine Le.both ?_ ?_ | exact hL2 _ _ _ | refine Le.bind ?_ fun _=>?_
theorem Cw {K K':Kn} (hK:KLe K K') {n n':Nat} (hn:n≤n') (v1:ab) (v2:ay) (v4:Int) (v5:Bool) (v14:Int) (v15 v16:ah) (v17:Bool) (v18:List aa) (v28:Int) (v37 v38:ah) (v39:Bool) {L2 L2':Int→Int→(List aa)→Option aa} (hL2:∀ a0 a1 a2,Le (L2 a0 a1 a2) (L2' a0 a1 a2)) (v59 v60:Int) (v61:List aa):Le (kx K n v1 v2 v4 v5 v14 v15 v16 v17 v18 v28 v37 v38 v39 L2 v59 v60 v61) (kx K' n' v1 v2 v4 v5 v14 v15 v16 v17 v18 v28 v37 v38 v39 L2' v59 v60 v61):=by
  unfold kx
  with_reducible repeat' first | exact Le.rfl | refine Le.chk ?_ | refine Le.ite ?_ ?_ | refine Le.both ?_ ?_ | exact m_g_ref17_Moved hK hn _ _ | exact C0 hK hn _ _ _ _ _ _ _ _ _ _ _ _ _ _ _ _ hL2 _ | exact hL2 _ _ _ | refine Le.bind ?_ fun _=>?_
theorem Bm {K K':Kn} (hK:KLe K K') {n n':Nat} (hn:n≤n') (v1:ab) (v2:ay) (v4:Int) (v5:Bool) (v14:Int) (v15 v16:ah) (v17:Bool) (v18:List aa) (v28:Int) (v37 v38:ah) (v39:Bool):∀ m m',m≤m'→∀ a0 a1 a2,Le (lU K n v1 v2 v4 v5 v14 v15 v16 v17 v18 v28 v37 v38 v39 m a0 a1 a2) (lU K' n' v1 v2 v4 v5 v14 v15 v16 v17 v18 v28 v37 v38 v39 m' a0 a1 a2):=by
  intro m
  induction m with
  | zero=>intro m' _ a0 a1 a2; exact Le.none
  | succ m ih =>
    intro m' h a0 a1 a2
    cases m' with
    | zero=>exact absurd h (Nat.not_succ_le_zero _)
    | succ k=>exact Cw hK hn _ _ _ _ _ _ _ _ _ _ _ _ _ (ih k (Nat.le_of_succ_le_succ h)) _ _ _
theorem C8 {K K':Kn} (hK:KLe K K') {n n':Nat} (hn:n≤n') (v1:ab) (v2:ay) (v4:Int) (v5:Bool) (v14:Int) (v15 v16:ah) (v17:Bool) (v18:List aa) (v28:Int) (v37 v38:ah) (v39:Bool) (v40:Int):Le (jp K n v1 v2 v4 v5 v14 v15 v16 v17 v18 v28 v37 v38 v39 v40) (jp K' n' v1 v2 v4 v5 v14 v15 v16 v17 v18 v28 v37 v38 v39 v40):=by
  unfold jp
  with_reducible repeat' first | exact Le.rfl | refine Le.chk ?_ | refine Le.ite ?_ ?_ | refine Le.both ?_ ?_ | exact Bm hK hn _ _ _ _ _ _ _ _ _ _ _ _ _ _ _ hn _ _ _ | refine Le.bind ?_ fun _=>?_
theorem vN {K K':Kn} (hK:KLe K K') {n n':Nat} (hn:n≤n') (v1:ab) (v2:ay) (v4:Int) (v5:Bool) (v14:Int) (v15 v16:ah) (v17:Bool) (v18:List aa) (v19:Int×Bool) (v28 v36:Int) (v37 v38:ah) (v39:Bool):Le (fi K n v1 v2 v4 v5 v14 v15 v16 v17 v18 v19 v28 v36 v37 v38 v39) (fi K' n' v1 v2 v4 v5 v14 v15 v16 v17 v18 v19 v28 v36 v37 v38 v39):=by
  unfold fi
  with_reducible repeat' first | exact Le.rfl | refine Le.chk ?_ | refine Le.ite ?_ ?_ | refine Le.both ?_ ?_ | exact C8 hK hn _ _ _ _ _ _ _ _ _ _ _ _ _ _ | refine Le.bind ?_ fun _=>?_
theorem B3 {K K':Kn} (hK:KLe K K') {n n':Nat} (hn:n≤n') (v1:ab) (v2:ay) (v4:Int) (v5:Bool) (v14:Int) (v15 v16:ah) (v17:Bool) (v18:List aa) (v19:Int×Bool) (v21 v22:Bool) (v24:ah) (v28:Int) (v29:ah) (v33:Bool):Le (lP K n v1 v2 v4 v5 v14 v15 v16 v17 v18 v19 v21 v22 v24 v28 v29 v33) (lP K' n' v1 v2 v4 v5 v14 v15 v16 v17 v18 v19 v21 v22 v24 v28 v29 v33):=by
  unfold lP
  with_reducible repeat' first | exact Le.rfl | refine Le.chk ?_ | refine Le.ite ?_ ?_ | refine Le.both ?_ ?_ | exact tP hK hn _ _ | exact vN hK hn _ _ _ _ _ _ _ _ _ _ _ _ _ _ _ | refine Le.bind ?_ fun _=>?_
theorem Ad {K K':Kn} (hK:KLe K K') {n n':Nat} (hn:n≤n') (v1:ab) (v2:ay) (v4:Int) (v5:Bool) (v14:Int) (v15 v16:ah) (v17:Bool) (v18:List aa) (v19:Int×Bool) (v21 v22:Bool) (v24:ah) (v28:Int) (v29:ah) (v30:Bool):Le (l7 K n v1 v2 v4 v5 v14 v15 v16 v17 v18 v19 v21 v22 v24 v28 v29 v30) (l7 K' n' v1 v2 v4 v5 v14 v15 v16 v17 v18 v19 v21 v22 v24 v28 v29 v30):=by
  unfold l7
  with_reducible repeat' first | exact Le.rfl | refine Le.chk ?_ | refine Le.ite ?_ ?_ | refine Le.both ?_ ?_ | exact tP hK hn _ _ | exact vN hK hn _ _ _ _ _ _ _ _ _ _ _ _ _ _ _ | exact uG hK hn _ | exact B3 hK hn _ _ _ _ _ _ _ _ _ _ _ _ _ _ _ _ | refine Le.bind ?_ fun _=>?_
theorem w3 {K K':Kn} (hK:KLe K K') {n n':Nat} (hn:n≤n') (v1:ab) (v2:ay) (v4:Int) (v5:Bool) (v14:Int) (v15 v16:ah) (v17:Bool) (v18:List aa) (v19:Int×Bool) (v21 v22:Bool) (v24:ah) (v28:Int) (v29:ah):Le (jw K n v1 v2 v4 v5 v14 v15 v16 v17 v18 v19 v21 v22 v24 v28 v29) (jw K' n' v1 v2 v4 v5 v14 v15 v16 v17 v18 v19 v21 v22 v24 v28 v29):=by
  unfold jw
  with_reducible repeat' first | exact Le.rfl | refine Le.chk ?_ | refine Le.ite ?_ ?_ | refine Le.both ?_ ?_ | exact Ad hK hn _ _ _ _ _ _ _ _ _ _ _ _ _ _ _ _ | refine Le.bind ?_ fun _=>?_
theorem BS {K K':Kn} (hK:KLe K K') {n n':Nat} (hn:n≤n') (v1:ab) (v2:ay) (v4:Int) (v5:Bool) (v14:Int) (v15 v16:ah) (v17:Bool) (v18:List aa) (v19:Int×Bool) (v21 v22:Bool) (v23 v24:ah) (v26:Bool):Le (ln K n v1 v2 v4 v5 v14 v15 v16 v17 v18 v19 v21 v22 v23 v24 v26) (ln K' n' v1 v2 v4 v5 v14 v15 v16 v17 v18 v19 v21 v22 v23 v24 v26):=by
  unfold ln
  with_reducible repeat' first | exact Le.rfl | refine Le.chk ?_ | refine Le.ite ?_ ?_ | refine Le.both ?_ ?_ | exact uG hK hn _ | exact w3 hK hn _ _ _ _ _ _ _ _ _ _ _ _ _ _ _ | refine Le.bind ?_ fun _=>?_
theorem zb {K K':Kn} (hK:KLe K K') {n n':Nat} (hn:n≤n') (v1:ab) (v2:ay) (v4:Int) (v5:Bool) (v14:Int) (v15 v16:ah) (v17:Bool) (v18:List aa) (v19:Int×Bool) (v21 v22:Bool):Le (gi K n v1 v2 v4 v5 v14 v15 v16 v17 v18 v19 v21 v22) (gi K' n' v1 v2 v4 v5 v14 v15 v16 v17 v18 v19 v21 v22):=by
  unfold gi
  with_reducible repeat' first | exact Le.rfl | refine Le.chk ?_ | refine Le.ite ?_ ?_ | refine Le.both ?_ ?_ | exact m_g_ref17_Of hK hn _ | exact tP hK hn _ _ | exact w3 hK hn _ _ _ _ _ _ _ _ _ _ _ _ _ _ _ | exact BS hK hn _ _ _ _ _ _ _ _ _ _ _ _ _ _ _ | refine Le.bind ?_ fun _=>?_
theorem zw {K K':Kn} (hK:KLe K K') {n n':Nat} (hn:n≤n') (v1:ab) (v2:ay) (v4:Int) (v5:Bool) (v14:Int) (v15 v16:ah) (v17:Bool) (v18:List aa) (v19:Int×Bool) (v20 v21:Bool):Le (lQ K n v1 v2 v4 v5 v14 v15 v16 v17 v18 v19 v20 v21) (lQ K' n' v1 v2 v4 v5 v14 v15 v16 v17 v18 v19 v20 v21):=by
  unfold lQ
  with_reducible repeat' first | exact Le.rfl | refine Le.chk ?_ | refine Le.ite ?_ ?_ | refine Le.both ?_ ?_ | exact zb hK hn _ _ _ _ _ _ _ _ _ _ _ _ | refine Le.bind ?_ fun _=>?_
theorem Au {K K':Kn} (hK:KLe K K') {n n':Nat} (hn:n≤n') (v1:ab) (v2:ay) (v4:Int) (v5:Bool) (v14:Int) (v15 v16:ah) (v17:Bool) (v18:List aa) (v19:Int×Bool) (v20:Bool):Le (kD K n v1 v2 v4 v5 v14 v15 v16 v17 v18 v19 v20) (kD K' n' v1 v2 v4 v5 v14 v15 v16 v17 v18 v19 v20):=by
  unfold kD
  with_reducible repeat' first | exact Le.rfl | refine Le.chk ?_ | refine Le.ite ?_ ?_ | refine Le.both ?_ ?_ | exact zw hK hn _ _ _ _ _ _ _ _ _ _ _ _ | refine Le.bind ?_ fun _=>?_
theorem wQ {K K':Kn} (hK:KLe K K') {n n':Nat} (hn:n≤n') (v1:ab) (v2:ay) (v3:Bool) (v4:Int) (v5:Bool) (v14:Int) (v15 v16:ah) (v17:Bool) (v18:List aa):Le (gj K n v1 v2 v3 v4 v5 v14 v15 v16 v17 v18) (gj K' n' v1 v2 v3 v4 v5 v14 v15 v16 v17 v18):=by
  unfold gj
  with_reducible repeat' first | exact Le.rfl | refine Le.chk ?_ | refine Le.ite ?_ ?_ | refine Le.both ?_ ?_ | exact xD hK hn _ | exact Au hK hn _ _ _ _ _ _ _ _ _ _ _ | refine Le.bind ?_ fun _=>?_
theorem BU {K K':Kn} (hK:KLe K K') {n n':Nat} (hn:n≤n') (v1:ab) (v2:ay) (v3:Bool) (v4:Int) (v5:Bool) (v6:List ab) {L1 L1':Int→(List aa)→Option aa} (hL1:∀ a0 a1,Le (L1 a0 a1) (L1' a0 a1)) (v9:Int) (v10:List aa):Le (lN K n v1 v2 v3 v4 v5 v6 L1 v9 v10) (lN K' n' v1 v2 v3 v4 v5 v6 L1' v9 v10):=by
  unfold lN
  with_reducible repeat' first | exact Le.rfl | refine Le.chk ?_ | refine Le.ite ?_ ?_ | refine Le.both ?_ ?_ | exact m_g_ref17_Stack hK hn _ | exact wQ hK hn _ _ _ _ _ _ _ _ _ _ | exact hK.dq _ _ | exact hL1 _ _ | refine Le.bind ?_ fun _=>?_
theorem BA {K K':Kn} (hK:KLe K K') {n n':Nat} (hn:n≤n') (v1:ab) (v2:ay) (v3:Bool) (v4:Int) (v5:Bool) (v6:List ab):∀ m m',m≤m'→∀ a0 a1,Le (jI K n v1 v2 v3 v4 v5 v6 m a0 a1) (jI K' n' v1 v2 v3 v4 v5 v6 m' a0 a1):=by
  intro m
  induction m with
  | zero=>intro m' _ a0 a1; exact Le.none
  | succ m ih =>
    intro m' h a0 a1
    cases m' with
    | zero=>exact absurd h (Nat.not_succ_le_zero _)
    | succ k=>exact BU hK hn _ _ _ _ _ _ (ih k (Nat.le_of_succ_le_succ h)) _ _
theorem As {K K':Kn} (hK:KLe K K') {n n':Nat} (hn:n≤n') (v1:ab) (v2:ay) (v3:Bool):Le (kR K n v1 v2 v3) (kR K' n' v1 v2 v3):=by
  unfold kR
  with_reducible repeat' first | exact Le.rfl | refine Le.chk ?_ | refine Le.ite ?_ ?_ | refine Le.both ?_ ?_ | exact wY hK hn _ | exact uf hK hn _ | exact BA hK hn _ _ _ _ _ _ _ _ hn _ _ | exact xJ hK hn _ _ _ | exact wQ hK hn _ _ _ _ _ _ _ _ _ _ | refine Le.bind ?_ fun _=>?_
theorem wb {K K':Kn} (hK:KLe K K') {n n':Nat} (hn:n≤n') (v1:ab) (v2:Int):Le (eY K n v1 v2) (eY K' n' v1 v2):=by
  unfold eY
  with_reducible repeat' first | exact Le.rfl | refine Le.chk ?_ | refine Le.ite ?_ ?_ | refine Le.both ?_ ?_ | exact m_g_ref17_Used hK hn _ _ | exact As hK hn _ _ _ | refine Le.bind ?_ fun _=>?_
theorem m_g_ref17_auto {K K':Kn} (hK:KLe K K') {n n':Nat} (hn:n≤n') (v1:aQ):Le (du K n v1) (du K' n' v1):=by
  unfold du
  with_reducible repeat' first | exact Le.rfl | refine Le.chk ?_ | refine Le.ite ?_ ?_ | refine Le.both ?_ ?_ | refine Le.bind ?_ fun _=>?_
theorem m_g_ref17_plain {K K':Kn} (hK:KLe K K') {n n':Nat} (hn:n≤n') (v1:aE):Le (kQ K n v1) (kQ K' n' v1):=by
  unfold kQ
  with_reducible repeat' first | exact Le.rfl | refine Le.chk ?_ | refine Le.ite ?_ ?_ | refine Le.both ?_ ?_ | exact m_g_ref17_auto hK hn _ | refine Le.bind ?_ fun _=>?_
theorem zJ {K K':Kn} (hK:KLe K K') {n n':Nat} (hn:n≤n') (v4:aE) (v8 v9:Int):Le (jq K n v4 v8 v9) (jq K' n' v4 v8 v9):=by
  unfold jq
  with_reducible repeat' first | exact Le.rfl | refine Le.chk ?_ | refine Le.ite ?_ ?_ | refine Le.both ?_ ?_ | exact vS hK hn _ _ _ | exact uJ hK hn _ | exact ye hK hn _ _ _ | refine Le.bind ?_ fun _=>?_
theorem C7 {K K':Kn} (hK:KLe K K') {n n':Nat} (hn:n≤n') (v1:aE) (v2 v3:Int):Le (ng K n v1 v2 v3) (ng K' n' v1 v2 v3):=by
  unfold ng
  with_reducible repeat' first | exact Le.rfl | refine Le.chk ?_ | refine Le.ite ?_ ?_ | refine Le.both ?_ ?_ | exact m_g_ref17_plain hK hn _ | exact nX hK hn _ | exact xD hK hn _ | exact zJ hK hn _ _ _ | refine Le.bind ?_ fun _=>?_
theorem Cm {K K':Kn} (hK:KLe K K') {n n':Nat} (hn:n≤n') (v1:List ab) {L1 L1':Int→Int→Int→Option (Int×Int)} (hL1:∀ a0 a1 a2,Le (L1 a0 a1 a2) (L1' a0 a1 a2)) (v3 v4 v5:Int):Le (kv K n v1 L1 v3 v4 v5) (kv K' n' v1 L1' v3 v4 v5):=by
  unfold kv
  with_reducible repeat' first | exact Le.rfl | refine Le.chk ?_ | refine Le.ite ?_ ?_ | refine Le.both ?_ ?_ | exact hL1 _ _ _ | refine Le.bind ?_ fun _=>?_
theorem A8 {K K':Kn} (hK:KLe K K') {n n':Nat} (hn:n≤n') (v1:List ab):∀ m m',m≤m'→∀ a0 a1 a2,Le (ki K n v1 m a0 a1 a2) (ki K' n' v1 m' a0 a1 a2):=by
  intro m
  induction m with
  | zero=>intro m' _ a0 a1 a2; exact Le.none
  | succ m ih =>
    intro m' h a0 a1 a2
    cases m' with
    | zero=>exact absurd h (Nat.not_succ_le_zero _)
    | succ k=>exact Cm hK hn _ (ih k (Nat.le_of_succ_le_succ h)) _ _ _
theorem xW {K K':Kn} (hK:KLe K K') {n n':Nat} (hn:n≤n') (v1:List ab) (v2:aE):Le (fP K n v1 v2) (fP K' n' v1 v2):=by
  unfold fP
  with_reducible repeat' first | exact Le.rfl | refine Le.chk ?_ | refine Le.ite ?_ ?_ | refine Le.both ?_ ?_ | exact A8 hK hn _ _ _ hn _ _ _ | refine Le.bind ?_ fun _=>?_
theorem yZ {K K':Kn} (hK:KLe K K') {n n':Nat} (hn:n≤n') (v2:List ab) {L1 L1':Int→Int→Int→Option (Int×Int)} (hL1:∀ a0 a1 a2,Le (L1 a0 a1 a2) (L1' a0 a1 a2)) (v8 v9 v10:Int):Le (lZ K n v2 L1 v8 v9 v10) (lZ K' n' v2 L1' v8 v9 v10):=by
  unfold lZ
  with_reducible repeat' first | exact Le.rfl | refine Le.chk ?_ | refine Le.ite ?_ ?_ | refine Le.both ?_ ?_ | exact nX hK hn _ | exact hK.gJ _ | exact hL1 _ _ _ | refine Le.bind ?_ fun _=>?_
theorem zY {K K':Kn} (hK:KLe K K') {n n':Nat} (hn:n≤n') (v2:List ab):∀ m m',m≤m'→∀ a0 a1 a2,Le (i9 K n v2 m a0 a1 a2) (i9 K' n' v2 m' a0 a1 a2):=by
  intro m
  induction m with
  | zero=>intro m' _ a0 a1 a2; exact Le.none
  | succ m ih =>
    intro m' h a0 a1 a2
    cases m' with
    | zero=>exact absurd h (Nat.not_succ_le_zero _)
    | succ k=>exact yZ hK hn _ (ih k (Nat.le_of_succ_le_succ h)) _ _ _
theorem Ct {K K':Kn} (hK:KLe K K') {n n':Nat} (hn:n≤n') (v1:ab):Le (iz K n v1) (iz K' n' v1):=by
  unfold iz
  with_reducible repeat' first | exact Le.rfl | refine Le.chk ?_ | refine Le.ite ?_ ?_ | refine Le.both ?_ ?_ | exact uf hK hn _ | exact wY hK hn _ | exact xW hK hn _ _ | exact nX hK hn _ | exact zY hK hn _ _ _ hn _ _ _ | refine Le.bind ?_ fun _=>?_
theorem wJ {K K':Kn} (hK:KLe K K') {n n':Nat} (hn:n≤n') (v1:ab):Le (eQ K n v1) (eQ K' n' v1):=by
  unfold eQ
  with_reducible repeat' first | exact Le.rfl | refine Le.chk ?_ | refine Le.ite ?_ ?_ | refine Le.both ?_ ?_ | exact Ct hK hn _ | exact C7 hK hn _ _ _ | refine Le.bind ?_ fun _=>?_
theorem CY {K K':Kn} (hK:KLe K K') {n n':Nat} (hn:n≤n') (v1:List ab) (v2:Fv) {L1 L1':Int→Option Int} (hL1:∀ a0,Le (L1 a0) (L1' a0)) (v4:Int):Le (jZ K n v1 v2 L1 v4) (jZ K' n' v1 v2 L1' v4):=by
  unfold jZ
  with_reducible repeat' first | exact Le.rfl | refine Le.chk ?_ | refine Le.ite ?_ ?_ | refine Le.both ?_ ?_ | exact hK.fr _ _ | exact hL1 _ | refine Le.bind ?_ fun _=>?_
theorem BO {K K':Kn} (hK:KLe K K') {n n':Nat} (hn:n≤n') (v1:List ab) (v2:Fv):∀ m m',m≤m'→∀ a0,Le (jJ K n v1 v2 m a0) (jJ K' n' v1 v2 m' a0):=by
  intro m
  induction m with
  | zero=>intro m' _ a0; exact Le.none
  | succ m ih =>
    intro m' h a0
    cases m' with
    | zero=>exact absurd h (Nat.not_succ_le_zero _)
    | succ k=>exact CY hK hn _ _ (ih k (Nat.le_of_succ_le_succ h)) _
theorem Bw {K K':Kn} (hK:KLe K K') {n n':Nat} (hn:n≤n') (v1:List ab) (v2:Fv):Le (mN K n v1 v2) (mN K' n' v1 v2):=by
  unfold mN
  with_reducible repeat' first | exact Le.rfl | refine Le.chk ?_ | refine Le.ite ?_ ?_ | refine Le.both ?_ ?_ | exact BO hK hn _ _ _ _ hn _ | refine Le.bind ?_ fun _=>?_
theorem AM {K K':Kn} (hK:KLe K K') {n n':Nat} (hn:n≤n') (v1:List ab) (v2:Fv):Le (jR K n v1 v2) (jR K' n' v1 v2):=by
  unfold jR
  with_reducible repeat' first | exact Le.rfl | refine Le.chk ?_ | refine Le.ite ?_ ?_ | refine Le.both ?_ ?_ | exact Bw hK hn _ _ | refine Le.bind ?_ fun _=>?_
theorem Cf {K K':Kn} (hK:KLe K K') {n n':Nat} (hn:n≤n') (v1:ab) (v8:Int) {L1 L1':Int→(List ab)→Option ((List ab)×Bool)} (hL1:∀ a0 a1,Le (L1 a0 a1) (L1' a0 a1)) (v11:List ab):Le (kB K n v1 v8 L1 v11) (kB K' n' v1 v8 L1' v11):=by
  unfold kB
  with_reducible repeat' first | exact Le.rfl | refine Le.chk ?_ | refine Le.ite ?_ ?_ | refine Le.both ?_ ?_ | exact hL1 _ _ | refine Le.bind ?_ fun _=>?_
theorem AE {K K':Kn} (hK:KLe K K') {n n':Nat} (hn:n≤n') (v1:ab) {L1 L1':Int→(List ab)→Option ((List ab)×Bool)} (hL1:∀ a0 a1,Le (L1 a0 a1) (L1' a0 a1)) (v8:Int) (v9:List ab):Le (lK K n v1 L1 v8 v9) (lK K' n' v1 L1' v8 v9):=by
  unfold lK
  with_reducible repeat' first | exact Le.rfl | refine Le.chk ?_ | refine Le.ite ?_ ?_ | refine Le.both ?_ ?_ | exact m_g_block_Flow hK hn _ | exact Cf hK hn _ _ hL1 _ | exact AM hK hn _ _ | exact hL1 _ _ | refine Le.bind ?_ fun _=>?_
theorem zX {K K':Kn} (hK:KLe K K') {n n':Nat} (hn:n≤n') (v1:ab):∀ m m',m≤m'→∀ a0 a1,Le (j8 K n v1 m a0 a1) (j8 K' n' v1 m' a0 a1):=by
  intro m
  induction m with
  | zero=>intro m' _ a0 a1; exact Le.none
  | succ m ih =>
    intro m' h a0 a1
    cases m' with
    | zero=>exact absurd h (Nat.not_succ_le_zero _)
    | succ k=>exact AE hK hn _ (ih k (Nat.le_of_succ_le_succ h)) _ _
theorem wV {K K':Kn} (hK:KLe K K') {n n':Nat} (hn:n≤n') (v1:ab):Le (iL K n v1) (iL K' n' v1):=by
  unfold iL
  with_reducible repeat' first | exact Le.rfl | refine Le.chk ?_ | refine Le.ite ?_ ?_ | refine Le.both ?_ ?_ | exact zX hK hn _ _ _ hn _ _ | refine Le.bind ?_ fun _=>?_
theorem tQ {K K':Kn} (hK:KLe K K') {n n':Nat} (hn:n≤n') (v1 v2:ah):Le (eX K n v1 v2) (eX K' n' v1 v2):=by
  unfold eX
  with_reducible repeat' first | exact Le.rfl | refine Le.chk ?_ | refine Le.ite ?_ ?_ | refine Le.both ?_ ?_ | refine Le.bind ?_ fun _=>?_
theorem vk {K K':Kn} (hK:KLe K K') {n n':Nat} (hn:n≤n') (v1:List aa) (v18:Int) (v21:List aa) (v24:Int) {L1 L1':Int→Bool→Int→ah→ah→(List aa)→Option ((List aa)×Int×ah×ah×Bool)} (hL1:∀ a0 a1 a2 a3 a4 a5,Le (L1 a0 a1 a2 a3 a4 a5) (L1' a0 a1 a2 a3 a4 a5)) (v26:Int) (v27:Bool) (v28 v29:ah):Le (ir K n v1 v18 v21 v24 L1 v26 v27 v28 v29) (ir K' n' v1 v18 v21 v24 L1' v26 v27 v28 v29):=by
  unfold ir
  with_reducible repeat' first | exact Le.rfl | refine Le.chk ?_ | refine Le.ite ?_ ?_ | refine Le.both ?_ ?_ | exact hL1 _ _ _ _ _ _ | refine Le.bind ?_ fun _=>?_
theorem A0 {K K':Kn} (hK:KLe K K') {n n':Nat} (hn:n≤n') (v1:List aa) (v18:Int) (v21:List aa) (v22:ah) (v24:Int) {L1 L1':Int→Bool→Int→ah→ah→(List aa)→Option ((List aa)×Int×ah×ah×Bool)} (hL1:∀ a0 a1 a2 a3 a4 a5,Le (L1 a0 a1 a2 a3 a4 a5) (L1' a0 a1 a2 a3 a4 a5)) (v25:ah):Le (ij K n v1 v18 v21 v22 v24 L1 v25) (ij K' n' v1 v18 v21 v22 v24 L1' v25):=by
  unfold ij
  with_reducible repeat' first | exact Le.rfl | refine Le.chk ?_ | refine Le.ite ?_ ?_ | refine Le.both ?_ ?_ | exact vk hK hn _ _ _ _ hL1 _ _ _ _ | exact hL1 _ _ _ _ _ _ | refine Le.bind ?_ fun _=>?_
theorem BI {K K':Kn} (hK:KLe K K') {n n':Nat} (hn:n≤n') (v1:List aa) (v16:Int) (v17:Bool) (v18:Int) (v19:ah) (v21:List aa) (v22:ah) {L1 L1':Int→Bool→Int→ah→ah→(List aa)→Option ((List aa)×Int×ah×ah×Bool)} (hL1:∀ a0 a1 a2 a3 a4 a5,Le (L1 a0 a1 a2 a3 a4 a5) (L1' a0 a1 a2 a3 a4 a5)) (v24:Int):Le (iq K n v1 v16 v17 v18 v19 v21 v22 L1 v24) (iq K' n' v1 v16 v17 v18 v19 v21 v22 L1' v24):=by
  unfold iq
  with_reducible repeat' first | exact Le.rfl | refine Le.chk ?_ | refine Le.ite ?_ ?_ | refine Le.both ?_ ?_ | exact A0 hK hn _ _ _ _ _ hL1 _ | exact vk hK hn _ _ _ _ hL1 _ _ _ _ | exact hL1 _ _ _ _ _ _ | refine Le.bind ?_ fun _=>?_
theorem Ap {K K':Kn} (hK:KLe K K') {n n':Nat} (hn:n≤n') (v16:Int) (v17:Bool) (v20:ah) (v21:List aa) (v30:ah):Le (iw K n v16 v17 v20 v21 v30) (iw K' n' v16 v17 v20 v21 v30):=by
  unfold iw
  with_reducible repeat' first | exact Le.rfl | refine Le.chk ?_ | refine Le.ite ?_ ?_ | refine Le.both ?_ ?_ | refine Le.bind ?_ fun _=>?_
theorem zC {K K':Kn} (hK:KLe K K') {n n':Nat} (hn:n≤n') (v1:List aa) {L1 L1':Int→Bool→Int→ah→ah→(List aa)→Option ((List aa)×Int×ah×ah×Bool)} (hL1:∀ a0 a1 a2 a3 a4 a5,Le (L1 a0 a1 a2 a3 a4 a5) (L1' a0 a1 a2 a3 a4 a5)) (v16:Int) (v17:Bool) (v18:Int) (v19 v20:ah) (v21:List aa):Le (iE K n v1 L1 v16 v17 v18 v19 v20 v21) (iE K' n' v1 L1' v16 v17 v18 v19 v20 v21):=by
  unfold iE
  with_reducible repeat' first | exact Le.rfl | refine Le.chk ?_ | refine Le.ite ?_ ?_ | refine Le.both ?_ ?_ | exact tQ hK hn _ _ | exact um hK hn _ | exact BI hK hn _ _ _ _ _ _ _ hL1 _ | exact Ap hK hn _ _ _ _ _ | exact hL1 _ _ _ _ _ _ | refine Le.bind ?_ fun _=>?_
theorem CC {K K':Kn} (hK:KLe K K') {n n':Nat} (hn:n≤n') (v1:List aa):∀ m m',m≤m'→∀ a0 a1 a2 a3 a4 a5,Le (fa K n v1 m a0 a1 a2 a3 a4 a5) (fa K' n' v1 m' a0 a1 a2 a3 a4 a5):=by
  intro m
  induction m with
  | zero=>intro m' _ a0 a1 a2 a3 a4 a5; exact Le.none
  | succ m ih =>
    intro m' h a0 a1 a2 a3 a4 a5
    cases m' with
    | zero=>exact absurd h (Nat.not_succ_le_zero _)
    | succ k=>exact zC hK hn _ (ih k (Nat.le_of_succ_le_succ h)) _ _ _ _ _ _
theorem m_g_block_Stack {K K':Kn} (hK:KLe K K') {n n':Nat} (hn:n≤n') (v1:List aa):Le (gQ K n v1) (gQ K' n' v1):=by
  unfold gQ
  with_reducible repeat' first | exact Le.rfl | refine Le.chk ?_ | refine Le.ite ?_ ?_ | refine Le.both ?_ ?_ | exact CC hK hn _ _ _ hn _ _ _ _ _ _ | refine Le.bind ?_ fun _=>?_
theorem AW {K K':Kn} (hK:KLe K K') {n n':Nat} (hn:n≤n') (v1:List aa):Le (jg K n v1) (jg K' n' v1):=by
  unfold jg
  with_reducible repeat' first | exact Le.rfl | refine Le.chk ?_ | refine Le.ite ?_ ?_ | refine Le.both ?_ ?_ | refine Le.bind ?_ fun _=>?_
theorem m_g_block_inner {K K':Kn} (hK:KLe K K') {n n':Nat} (hn:n≤n') (v1:ay):Le (m7 K n v1) (m7 K' n' v1):=by
  unfold m7
  with_reducible repeat' first | exact Le.rfl | refine Le.chk ?_ | refine Le.ite ?_ ?_ | refine Le.both ?_ ?_ | refine Le.bind ?_ fun _=>?_
theorem CT {K K':Kn} (hK:KLe K K') {n n':Nat} (hn:n≤n') (v2:Bool):Le (jE K n v2) (jE K' n' v2):=by
  unfold jE
  with_reducible repeat' first | exact Le.rfl | refine Le.chk ?_ | refine Le.ite ?_ ?_ | refine Le.both ?_ ?_ | refine Le.bind ?_ fun _=>?_
theorem yy {K K':Kn} (hK:KLe K K') {n n':Nat} (hn:n≤n') (v1:ab):Le (gy K n v1) (gy K' n' v1):=by
  unfold gy
  with_reducible repeat' first | exact Le.rfl | refine Le.chk ?_ | refine Le.ite ?_ ?_ | refine Le.both ?_ ?_ | exact CT hK hn _ | refine Le.bind ?_ fun _=>?_
theorem C5 {K K':Kn} (hK:KLe K K') {n n':Nat} (hn:n≤n') (v1:ab) (v2:ay) (v6:(List ab)×Bool) (v19:List aa) (v25:Int) (v33 v34:ah) (v35:Bool) (v39 v40 v47:Int) {L2 L2':Int→(List aa)→Option aa} (hL2:∀ a0 a1,Le (L2 a0 a1) (L2' a0 a1)) (v54:List aa):Le (kq K n v1 v2 v6 v19 v25 v33 v34 v35 v39 v40 v47 L2 v54) (kq K' n' v1 v2 v6 v19 v25 v33 v34 v35 v39 v40 v47 L2' v54):=by
  unfold kq
  with_reducible repeat' first | exact Le.rfl | refine Le.chk ?_ | refine Le.ite ?_ ?_ | refine Le.both ?_ ?_ | exact hL2 _ _ | refine Le.bind ?_ fun _=>?_
theorem C4 {K K':Kn} (hK:KLe K K') {n n':Nat} (hn:n≤n') (v1:ab) (v2:ay) (v6:(List ab)×Bool) (v19:List aa) (v25:Int) (v33 v34:ah) (v35:Bool) (v39 v40 v47:Int) (v50:List aa) {L2 L2':Int→(List aa)→Option aa} (hL2:∀ a0 a1,Le (L2 a0 a1) (L2' a0 a1)) (v52:Bool):Le (lX K n v1 v2 v6 v19 v25 v33 v34 v35 v39 v40 v47 v50 L2 v52) (lX K' n' v1 v2 v6 v19 v25 v33 v34 v35 v39 v40 v47 v50 L2' v52):=by
  unfold lX
  with_reducible repeat' first | exact Le.rfl | refine Le.chk ?_ | refine Le.ite ?_ ?_ | refine Le.both ?_ ?_ | exact m_g_block_Moved hK hn _ _ | exact C5 hK hn _ _ _ _ _ _ _ _ _ _ _ hL2 _ | exact hL2 _ _ | refine Le.bind ?_ fun _=>?_
theorem AD {K K':Kn} (hK:KLe K K') {n n':Nat} (hn:n≤n') (v1:ab) (v2:ay) (v6:(List ab)×Bool) (v19:List aa) (v25:Int) (v33 v34:ah) (v35:Bool) (v39 v40:Int) {L2 L2':Int→(List aa)→Option aa} (hL2:∀ a0 a1,Le (L2 a0 a1) (L2' a0 a1)) (v47:Int) (v48:List aa):Le (lJ K n v1 v2 v6 v19 v25 v33 v34 v35 v39 v40 L2 v47 v48) (lJ K' n' v1 v2 v6 v19 v25 v33 v34 v35 v39 v40 L2' v47 v48):=by
  unfold lJ
  with_reducible repeat' first | exact Le.rfl | refine Le.chk ?_ | refine Le.ite ?_ ?_ | refine Le.both ?_ ?_ | exact yy hK hn _ | exact C4 hK hn _ _ _ _ _ _ _ _ _ _ _ _ hL2 _ | exact hL2 _ _ | refine Le.bind ?_ fun _=>?_
theorem zp {K K':Kn} (hK:KLe K K') {n n':Nat} (hn:n≤n') (v1:ab) (v2:ay) (v6:(List ab)×Bool) (v19:List aa) (v25:Int) (v33 v34:ah) (v35:Bool) (v39 v40:Int):∀ m m',m≤m'→∀ a0 a1,Le (mc K n v1 v2 v6 v19 v25 v33 v34 v35 v39 v40 m a0 a1) (mc K' n' v1 v2 v6 v19 v25 v33 v34 v35 v39 v40 m' a0 a1):=by
  intro m
  induction m with
  | zero=>intro m' _ a0 a1; exact Le.none
  | succ m ih =>
    intro m' h a0 a1
    cases m' with
    | zero=>exact absurd h (Nat.not_succ_le_zero _)
    | succ k=>exact AD hK hn _ _ _ _ _ _ _ _ _ _ (ih k (Nat.le_of_succ_le_succ h)) _ _
theorem zx {K K':Kn} (hK:KLe K K') {n n':Nat} (hn:n≤n') (v1:ab) (v2:ay) (v6:(List ab)×Bool) (v19:List aa) (v25:Int) (v33 v34:ah) (v35:Bool) (v38:Int):Le (jC K n v1 v2 v6 v19 v25 v33 v34 v35 v38) (jC K' n' v1 v2 v6 v19 v25 v33 v34 v35 v38):=by
  unfold jC
  with_reducible repeat' first | exact Le.rfl | refine Le.chk ?_ | refine Le.ite ?_ ?_ | refine Le.both ?_ ?_ | exact m_g_block_inner hK hn _ | exact zp hK hn _ _ _ _ _ _ _ _ _ _ _ _ hn _ _ | refine Le.bind ?_ fun _=>?_
theorem Bi {K K':Kn} (hK:KLe K K') {n n':Nat} (hn:n≤n') (v1:ab) (v2:ay) (v6:(List ab)×Bool) (v19:List aa) (v25 v32:Int) (v33 v34:ah) (v35:Bool) (v36:Int×Bool) (v37:Bool):Le (lg K n v1 v2 v6 v19 v25 v32 v33 v34 v35 v36 v37) (lg K' n' v1 v2 v6 v19 v25 v32 v33 v34 v35 v36 v37):=by
  unfold lg
  with_reducible repeat' first | exact Le.rfl | refine Le.chk ?_ | refine Le.ite ?_ ?_ | refine Le.both ?_ ?_ | exact zx hK hn _ _ _ _ _ _ _ _ _ | refine Le.bind ?_ fun _=>?_
theorem Be {K K':Kn} (hK:KLe K K') {n n':Nat} (hn:n≤n') (v1:ab) (v2:ay) (v6:(List ab)×Bool) (v19:List aa) (v25 v32:Int) (v33 v34:ah) (v35:Bool):Le (fQ K n v1 v2 v6 v19 v25 v32 v33 v34 v35) (fQ K' n' v1 v2 v6 v19 v25 v32 v33 v34 v35):=by
  unfold fQ
  with_reducible repeat' first | exact Le.rfl | refine Le.chk ?_ | refine Le.ite ?_ ?_ | refine Le.both ?_ ?_ | exact kO hK hn _ _ | exact Bi hK hn _ _ _ _ _ _ _ _ _ _ _ | refine Le.bind ?_ fun _=>?_
theorem zj {K K':Kn} (hK:KLe K K') {n n':Nat} (hn:n≤n') (v1:ab) (v2:ay) (v4:Bool) (v6:(List ab)×Bool) (v15:Int) (v16:Bool) (v17 v18:ah) (v19:List aa) (v21:ah) (v25:Int) (v26:ah) (v27:Bool):Le (jQ K n v1 v2 v4 v6 v15 v16 v17 v18 v19 v21 v25 v26 v27) (jQ K' n' v1 v2 v4 v6 v15 v16 v17 v18 v19 v21 v25 v26 v27):=by
  unfold jQ
  with_reducible repeat' first | exact Le.rfl | refine Le.chk ?_ | refine Le.ite ?_ ?_ | refine Le.both ?_ ?_ | exact tQ hK hn _ _ | exact Be hK hn _ _ _ _ _ _ _ _ _ | exact um hK hn _ | refine Le.bind ?_ fun _=>?_
theorem wE {K K':Kn} (hK:KLe K K') {n n':Nat} (hn:n≤n') (v1:ab) (v2:ay) (v3 v4:Bool) (v6:(List ab)×Bool) (v15:Int) (v16:Bool) (v17 v18:ah) (v19:List aa) (v21:ah) (v25:Int) (v26:ah):Le (jc K n v1 v2 v3 v4 v6 v15 v16 v17 v18 v19 v21 v25 v26) (jc K' n' v1 v2 v3 v4 v6 v15 v16 v17 v18 v19 v21 v25 v26):=by
  unfold jc
  with_reducible repeat' first | exact Le.rfl | refine Le.chk ?_ | refine Le.ite ?_ ?_ | refine Le.both ?_ ?_ | exact zj hK hn _ _ _ _ _ _ _ _ _ _ _ _ _ | refine Le.bind ?_ fun _=>?_
theorem Bq {K K':Kn} (hK:KLe K K') {n n':Nat} (hn:n≤n') (v1:ab) (v2:ay) (v3 v4:Bool) (v6:(List ab)×Bool) (v15:Int) (v16:Bool) (v17 v18:ah) (v19:List aa) (v20 v21:ah) (v23:Bool):Le (lG K n v1 v2 v3 v4 v6 v15 v16 v17 v18 v19 v20 v21 v23) (lG K' n' v1 v2 v3 v4 v6 v15 v16 v17 v18 v19 v20 v21 v23):=by
  unfold lG
  with_reducible repeat' first | exact Le.rfl | refine Le.chk ?_ | refine Le.ite ?_ ?_ | refine Le.both ?_ ?_ | exact um hK hn _ | exact wE hK hn _ _ _ _ _ _ _ _ _ _ _ _ _ | refine Le.bind ?_ fun _=>?_
theorem xt {K K':Kn} (hK:KLe K K') {n n':Nat} (hn:n≤n') (v1:ab) (v2:ay) (v3 v4:Bool) (v6:(List ab)×Bool) (v15:Int) (v16:Bool) (v17 v18:ah) (v19:List aa):Le (gt K n v1 v2 v3 v4 v6 v15 v16 v17 v18 v19) (gt K' n' v1 v2 v3 v4 v6 v15 v16 v17 v18 v19):=by
  unfold gt
  with_reducible repeat' first | exact Le.rfl | refine Le.chk ?_ | refine Le.ite ?_ ?_ | refine Le.both ?_ ?_ | exact m_g_block_Of hK hn _ | exact tQ hK hn _ _ | exact wE hK hn _ _ _ _ _ _ _ _ _ _ _ _ _ | exact Bq hK hn _ _ _ _ _ _ _ _ _ _ _ _ _ | refine Le.bind ?_ fun _=>?_
theorem Dc {K K':Kn} (hK:KLe K K') {n n':Nat} (hn:n≤n') (v1:ab) (v2:ay) (v3 v4:Bool) (v5:bw) (v6:(List ab)×Bool) {L1 L1':Int→(List aa)→Option aa} (hL1:∀ a0 a1,Le (L1 a0 a1) (L1' a0 a1)) (v9:Int) (v10:List aa):Le (l9 K n v1 v2 v3 v4 v5 v6 L1 v9 v10) (l9 K' n' v1 v2 v3 v4 v5 v6 L1' v9 v10):=by
  unfold l9
  with_reducible repeat' first | exact Le.rfl | refine Le.chk ?_ | refine Le.ite ?_ ?_ | refine Le.both ?_ ?_ | exact m_g_block_Stack hK hn _ | exact xt hK hn _ _ _ _ _ _ _ _ _ _ | exact hK.dD _ _ _ | exact hL1 _ _ | refine Le.bind ?_ fun _=>?_
theorem y1 {K K':Kn} (hK:KLe K K') {n n':Nat} (hn:n≤n') (v1:ab) (v2:ay) (v3 v4:Bool) (v5:bw) (v6:(List ab)×Bool):∀ m m',m≤m'→∀ a0 a1,Le (iU K n v1 v2 v3 v4 v5 v6 m a0 a1) (iU K' n' v1 v2 v3 v4 v5 v6 m' a0 a1):=by
  intro m
  induction m with
  | zero=>intro m' _ a0 a1; exact Le.none
  | succ m ih =>
    intro m' h a0 a1
    cases m' with
    | zero=>exact absurd h (Nat.not_succ_le_zero _)
    | succ k=>exact Dc hK hn _ _ _ _ _ _ (ih k (Nat.le_of_succ_le_succ h)) _ _
theorem Cp {K K':Kn} (hK:KLe K K') {n n':Nat} (hn:n≤n') (v1:ab) (v2:ay) (v3 v4:Bool) (v5:bw):Le (lB K n v1 v2 v3 v4 v5) (lB K' n' v1 v2 v3 v4 v5):=by
  unfold lB
  with_reducible repeat' first | exact Le.rfl | refine Le.chk ?_ | refine Le.ite ?_ ?_ | refine Le.both ?_ ?_ | exact wV hK hn _ | exact y1 hK hn _ _ _ _ _ _ _ _ hn _ _ | exact AW hK hn _ | exact xt hK hn _ _ _ _ _ _ _ _ _ _ | exact hK.iX _ _ _ _ | refine Le.bind ?_ fun _=>?_
theorem Cl {K K':Kn} (hK:KLe K K') {n n':Nat} (hn:n≤n') (v1:ab) (v3:bw) (v4:ay) (v5 v6:Bool):Le (gU K n v1 v3 v4 v5 v6) (gU K' n' v1 v3 v4 v5 v6):=by
  unfold gU
  with_reducible repeat' first | exact Le.rfl | refine Le.chk ?_ | refine Le.ite ?_ ?_ | refine Le.both ?_ ?_ | exact Cp hK hn _ _ _ _ _ | refine Le.bind ?_ fun _=>?_
theorem zQ {K K':Kn} (hK:KLe K K') {n n':Nat} (hn:n≤n') (v1:ab) (v3:bw) (v4:ay) (v5:Bool):Le (jH K n v1 v3 v4 v5) (jH K' n' v1 v3 v4 v5):=by
  unfold jH
  with_reducible repeat' first | exact Le.rfl | refine Le.chk ?_ | refine Le.ite ?_ ?_ | refine Le.both ?_ ?_ | exact Cl hK hn _ _ _ _ _ | refine Le.bind ?_ fun _=>?_
theorem vV {K K':Kn} (hK:KLe K K') {n n':Nat} (hn:n≤n') (v1:ab) (v2:Int) (v3:bw):Le (gf K n v1 v2 v3) (gf K' n' v1 v2 v3):=by
  unfold gf
  with_reducible repeat' first | exact Le.rfl | refine Le.chk ?_ | refine Le.ite ?_ ?_ | refine Le.both ?_ ?_ | exact m_g_block_Used hK hn _ _ | exact zQ hK hn _ _ _ _ | refine Le.bind ?_ fun _=>?_
theorem m_g_law17_lay {K K':Kn} (hK:KLe K K') {n n':Nat} (hn:n≤n') (v1:ab) (v2:Int):Le (fF K n v1 v2) (fF K' n' v1 v2):=by
  unfold fF
  with_reducible repeat' first | exact Le.rfl | refine Le.chk ?_ | refine Le.ite ?_ ?_ | refine Le.both ?_ ?_ | exact xY hK hn | exact vV hK hn _ _ _ | refine Le.bind ?_ fun _=>?_
theorem BQ {K K':Kn} (hK:KLe K K') {n n':Nat} (hn:n≤n') (v13:aE):Le (l0 K n v13) (l0 K' n' v13):=by
  unfold l0
  with_reducible repeat' first | exact Le.rfl | refine Le.chk ?_ | refine Le.ite ?_ ?_ | refine Le.both ?_ ?_ | refine Le.bind ?_ fun _=>?_
theorem CK {K K':Kn} (hK:KLe K K') {n n':Nat} (hn:n≤n') (v12:aE):Le (jn K n v12) (jn K' n' v12):=by
  unfold jn
  with_reducible repeat' first | exact Le.rfl | refine Le.chk ?_ | refine Le.ite ?_ ?_ | refine Le.both ?_ ?_ | exact BQ hK hn _ | refine Le.bind ?_ fun _=>?_
theorem z8 {K K':Kn} (hK:KLe K K') {n n':Nat} (hn:n≤n') (v11:aE):Le (ja K n v11) (ja K' n' v11):=by
  unfold ja
  with_reducible repeat' first | exact Le.rfl | refine Le.chk ?_ | refine Le.ite ?_ ?_ | refine Le.both ?_ ?_ | exact CK hK hn _ | refine Le.bind ?_ fun _=>?_
theorem Bh {K K':Kn} (hK:KLe K K') {n n':Nat} (hn:n≤n') (v10:aE):Le (jF K n v10) (jF K' n' v10):=by
  unfold jF
  with_reducible repeat' first | exact Le.rfl | refine Le.chk ?_ | refine Le.ite ?_ ?_ | refine Le.both ?_ ?_ | exact z8 hK hn _ | refine Le.bind ?_ fun _=>?_
theorem AO {K K':Kn} (hK:KLe K K') {n n':Nat} (hn:n≤n') (v9:aE):Le (jS K n v9) (jS K' n' v9):=by
  unfold jS
  with_reducible repeat' first | exact Le.rfl | refine Le.chk ?_ | refine Le.ite ?_ ?_ | refine Le.both ?_ ?_ | exact Bh hK hn _ | refine Le.bind ?_ fun _=>?_
theorem Ch {K K':Kn} (hK:KLe K K') {n n':Nat} (hn:n≤n') (v8:aE):Le (je K n v8) (je K' n' v8):=by
  unfold je
  with_reducible repeat' first | exact Le.rfl | refine Le.chk ?_ | refine Le.ite ?_ ?_ | refine Le.both ?_ ?_ | exact AO hK hn _ | refine Le.bind ?_ fun _=>?_
theorem zA {K K':Kn} (hK:KLe K K') {n n':Nat} (hn:n≤n') (v7:aE):Le (jA K n v7) (jA K' n' v7):=by
  unfold jA
  with_reducible repeat' first | exact Le.rfl | refine Le.chk ?_ | refine Le.ite ?_ ?_ | refine Le.both ?_ ?_ | exact Ch hK hn _ | refine Le.bind ?_ fun _=>?_
theorem Di {K K':Kn} (hK:KLe K K') {n n':Nat} (hn:n≤n') (v6:aE):Le (iS K n v6) (iS K' n' v6):=by
  unfold iS
  with_reducible repeat' first | exact Le.rfl | refine Le.chk ?_ | refine Le.ite ?_ ?_ | refine Le.both ?_ ?_ | exact zA hK hn _ | refine Le.bind ?_ fun _=>?_
theorem Ck {K K':Kn} (hK:KLe K K') {n n':Nat} (hn:n≤n') (v5:aE):Le (jV K n v5) (jV K' n' v5):=by
  unfold jV
  with_reducible repeat' first | exact Le.rfl | refine Le.chk ?_ | refine Le.ite ?_ ?_ | refine Le.both ?_ ?_ | exact Di hK hn _ | refine Le.bind ?_ fun _=>?_
theorem BJ {K K':Kn} (hK:KLe K K') {n n':Nat} (hn:n≤n') (v4:aE):Le (iZ K n v4) (iZ K' n' v4):=by
  unfold iZ
  with_reducible repeat' first | exact Le.rfl | refine Le.chk ?_ | refine Le.ite ?_ ?_ | refine Le.both ?_ ?_ | exact Ck hK hn _ | refine Le.bind ?_ fun _=>?_
theorem Cr {K K':Kn} (hK:KLe K K') {n n':Nat} (hn:n≤n') (v3:aE):Le (jT K n v3) (jT K' n' v3):=by
  unfold jT
  with_reducible repeat' first | exact Le.rfl | refine Le.chk ?_ | refine Le.ite ?_ ?_ | refine Le.both ?_ ?_ | exact BJ hK hn _ | refine Le.bind ?_ fun _=>?_
theorem xy {K K':Kn} (hK:KLe K K') {n n':Nat} (hn:n≤n') (v1:aE):Le (jr K n v1) (jr K' n' v1):=by
  unfold jr
  with_reducible repeat' first | exact Le.rfl | refine Le.chk ?_ | refine Le.ite ?_ ?_ | refine Le.both ?_ ?_ | exact Cr hK hn _ | refine Le.bind ?_ fun _=>?_
theorem Ai {K K':Kn} (hK:KLe K K') {n n':Nat} (hn:n≤n') (v2:bw) (v6:(List ab)×Bool) {L1 L1':Int→Int→Int→Option (Int×Int)} (hL1:∀ a0 a1 a2,Le (L1 a0 a1 a2) (L1' a0 a1 a2)) (v11 v12 v13:Int):Le (kt K n v2 v6 L1 v11 v12 v13) (kt K' n' v2 v6 L1' v11 v12 v13):=by
  unfold kt
  with_reducible repeat' first | exact Le.rfl | refine Le.chk ?_ | refine Le.ite ?_ ?_ | refine Le.both ?_ ?_ | exact sE hK hn _ | exact hK.eM _ _ | exact hL1 _ _ _ | refine Le.bind ?_ fun _=>?_
theorem Dq {K K':Kn} (hK:KLe K K') {n n':Nat} (hn:n≤n') (v2:bw) (v6:(List ab)×Bool):∀ m m',m≤m'→∀ a0 a1 a2,Le (jU K n v2 v6 m a0 a1 a2) (jU K' n' v2 v6 m' a0 a1 a2):=by
  intro m
  induction m with
  | zero=>intro m' _ a0 a1 a2; exact Le.none
  | succ m ih =>
    intro m' h a0 a1 a2
    cases m' with
    | zero=>exact absurd h (Nat.not_succ_le_zero _)
    | succ k=>exact Ai hK hn _ _ (ih k (Nat.le_of_succ_le_succ h)) _ _ _
theorem C9 {K K':Kn} (hK:KLe K K') {n n':Nat} (hn:n≤n') (v1:ab) (v2:bw):Le (gm K n v1 v2) (gm K' n' v1 v2):=by
  unfold gm
  with_reducible repeat' first | exact Le.rfl | refine Le.chk ?_ | refine Le.ite ?_ ?_ | refine Le.both ?_ ?_ | exact xy hK hn _ | exact kO hK hn _ _ | exact sE hK hn _ | exact wV hK hn _ | exact Dq hK hn _ _ _ _ hn _ _ _ | exact hK.lL _ _ _ | refine Le.bind ?_ fun _=>?_
theorem w5 {K K':Kn} (hK:KLe K K') {n n':Nat} (hn:n≤n') (v1:ab) (v2:bw):Le (fe K n v1 v2) (fe K' n' v1 v2):=by
  unfold fe
  with_reducible repeat' first | exact Le.rfl | refine Le.chk ?_ | refine Le.ite ?_ ?_ | refine Le.both ?_ ?_ | exact C9 hK hn _ _ | exact xy hK hn _ | exact vi hK hn _ _ _ | exact xM hK hn _ _ _ | exact ur hK hn _ | refine Le.bind ?_ fun _=>?_
theorem B5 {K K':Kn} (hK:KLe K K') {n n':Nat} (hn:n≤n') (v1:ab):Le (fA K n v1) (fA K' n' v1):=by
  unfold fA
  with_reducible repeat' first | exact Le.rfl | refine Le.chk ?_ | refine Le.ite ?_ ?_ | refine Le.both ?_ ?_ | exact xY hK hn | exact w5 hK hn _ _ | refine Le.bind ?_ fun _=>?_
theorem sN:∀ n m,n≤m→KLe (KN n) (KN m)
  | 0,m,_=>by refine ⟨fun _=>Le.none,fun _ _=>Le.none,fun _ _ _ _=>Le.none,fun _ _ _=>Le.none,fun _ _ _=>Le.none,fun _ _=>Le.none,fun _ _=>Le.none⟩
  | n+1,0,h=>absurd h (Nat.not_succ_le_zero _)
  | n+1,m+1,h=>by
    have hK:=sN n m (Nat.le_of_succ_le_succ h)
    have hn:=Nat.le_of_succ_le_succ h
    refine ⟨?_,?_,?_,?_,?_,?_,?_⟩
    · exact fun _=>wJ hK hn _
    · exact fun _ _=>wb hK hn _ _
    · intro f a0 a1 a2
      cases f with
      | fn i =>
        show Le (if Nat.beq i 56=true then iC (KN n) n a0 a1 a2 else none) (if Nat.beq i 56=true then iC (KN m) m a0 a1 a2 else none)
        repeat' first | with_reducible exact Le.rfl | with_reducible refine Le.ite ?_ ?_ | exact xJ hK hn _ _ _
      | c36 x0=>exact Le.rfl
      | c45 x0=>exact Le.rfl
    · intro f a0 a1
      cases f with
      | fn i =>
        show Le (if Nat.beq i 57=true then fP (KN n) n a0 a1 else none) (if Nat.beq i 57=true then fP (KN m) m a0 a1 else none)
        repeat' first | with_reducible exact Le.rfl | with_reducible refine Le.ite ?_ ?_ | exact xW hK hn _ _
      | c36 x0=>exact Le.rfl
      | c45 x0=>exact Le.rfl
    · intro f a0 a1
      cases f with
      | fn i =>
        show Le (if Nat.beq i 54=true then fF (KN n) n a0 a1 else none) (if Nat.beq i 54=true then fF (KN m) m a0 a1 else none)
        repeat' first | with_reducible exact Le.rfl | with_reducible refine Le.ite ?_ ?_ | exact m_g_law17_lay hK hn _ _
      | c36 x0=>exact Le.rfl
      | c45 x0=>exact Le.rfl
    · intro f a0
      cases f with
      | fn i =>
        show Le (if Nat.beq i 111=true then gy (KN n) n a0 else none) (if Nat.beq i 111=true then gy (KN m) m a0 else none)
        repeat' first | with_reducible exact Le.rfl | with_reducible refine Le.ite ?_ ?_ | exact yy hK hn _
      | c36 x0=>exact Le.rfl
      | c45 x0=>exact Le.rfl
    · intro f a0
      cases f with
      | fn i =>
        show Le (if Nat.beq i 55=true then fA (KN n) n a0 else none) (if Nat.beq i 55=true then fA (KN m) m a0 else none)
        repeat' first | with_reducible exact Le.rfl | with_reducible refine Le.ite ?_ ?_ | exact B5 hK hn _
      | c36 x0=>exact Le.rfl
      | c45 x0=>exact Le.rfl
end Go.Proofs.Ytlpndemhnpajiaa

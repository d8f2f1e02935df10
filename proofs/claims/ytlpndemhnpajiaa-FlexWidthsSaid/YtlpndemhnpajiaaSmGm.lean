/- More rounds and deeper calls never change an answer. Made by a program. -/
import Derived.Test.YtlpndemhnpajiaaSmGf
namespace Go.Proofs.Ytlpndemhnpajiaa
open Go.RowKit
set_option maxRecDepth 20000
set_option linter.all false
def Le {α : Type} (x y : Option α) : Prop := ∀ r, x = some r → y = some r
theorem Le.rfl {α : Type} {x : Option α} : Le x x := fun _ h => h
theorem Le.none {α : Type} {y : Option α} : Le (none : Option α) y := fun _ h => by cases h
theorem Le.chk {α : Type} {c : Bool} {x y : Option α} (h : Le x y) : Le (chk c x) (Go.Proofs.Ytlpndemhnpajiaa.chk c y) := by cases c; exact Le.rfl; exact h
theorem Le.ite {α : Type} {c : Prop} [Decidable c] {x y x' y' : Option α} (h : Le x x') (h2 : Le y y') : Le (if c then x else y) (if c then x' else y') := by split; exact h; exact h2
theorem Le.bind {α β : Type} {x x' : Option α} {f f' : α → Option β} (h : Le x x') (h2 : ∀ a, Le (f a) (f' a)) : Le (x.bind f) (x'.bind f') := by
  intro r hr
  cases hx : x with
  | none => rw [hx] at hr; cases hr
  | some a => rw [hx] at hr; rw [h a hx]; exact h2 a r hr
theorem Le.both {α : Type} {c : Bool} {x y x' y' : Option α} (h : Le x x') (h2 : Le y y') : Le (both c x y) (Go.Proofs.Ytlpndemhnpajiaa.both c x' y') := by
  intro r hr
  unfold Go.Proofs.Ytlpndemhnpajiaa.both at hr ⊢
  split at hr
  · rename_i hc
    rw [if_pos hc]
    split at hr
    · rename_i e
      rw [h r hr, h2 r (e ▸ hr), if_pos]
      exact _root_.rfl
    · cases hr
  · rename_i hc
    rw [if_neg hc]; exact h2 r hr
structure KLe (K K' : Kn) : Prop where
  k_g_ref17_Tree : ∀ a0 a1, Le (K.k_g_ref17_Tree a0 a1) (K'.k_g_ref17_Tree a0 a1)
  k_g_ref17_Widths : ∀ a0, Le (K.k_g_ref17_Widths a0) (K'.k_g_ref17_Widths a0)
  k_g_slices_symMergeCmpFunc_int : ∀ a0 a1 a2 a3 a4, Le (K.k_g_slices_symMergeCmpFunc_int a0 a1 a2 a3 a4) (K'.k_g_slices_symMergeCmpFunc_int a0 a1 a2 a3 a4)
  d_Int_Int__Int : ∀ a0 a1 a2, Le (K.d_Int_Int__Int a0 a1 a2) (K'.d_Int_Int__Int a0 a1 a2)
  d_ListTBoxtreeBox_TCascadeStyle_Int__ListTBlockFragmentInt : ∀ a0 a1 a2 a3, Le (K.d_ListTBoxtreeBox_TCascadeStyle_Int__ListTBlockFragmentInt a0 a1 a2 a3) (K'.d_ListTBoxtreeBox_TCascadeStyle_Int__ListTBlockFragmentInt a0 a1 a2 a3)
  d_ListTBoxtreeBox_TCascadeStyle__IntInt : ∀ a0 a1 a2, Le (K.d_ListTBoxtreeBox_TCascadeStyle__IntInt a0 a1 a2) (K'.d_ListTBoxtreeBox_TCascadeStyle__IntInt a0 a1 a2)
  d_TBoxtreeBox_Int__TBlockFragment : ∀ a0 a1 a2, Le (K.d_TBoxtreeBox_Int__TBlockFragment a0 a1 a2) (K'.d_TBoxtreeBox_Int__TBlockFragment a0 a1 a2)
  d_TBoxtreeBox__Bool : ∀ a0 a1, Le (K.d_TBoxtreeBox__Bool a0 a1) (K'.d_TBoxtreeBox__Bool a0 a1)
  d_TBoxtreeBox__IntInt : ∀ a0 a1, Le (K.d_TBoxtreeBox__IntInt a0 a1) (K'.d_TBoxtreeBox__IntInt a0 a1)
theorem m_g_slices_swapRangeCmpFunc_int_l1_b {K K' : Kn} (hK : KLe K K') {n n' : Nat} (hn : n ≤ n') (v2 : Int) (v3 : Int) (v4 : Int) {L1 L1' : Int → (List Int) → Option (List Int)} (hL1 : ∀ a0 a1, Le (L1 a0 a1) (L1' a0 a1)) (v6 : Int) (v7 : (List Int)) : Le (g_slices_swapRangeCmpFunc_int_l1_b K n v2 v3 v4 L1 v6 v7) (g_slices_swapRangeCmpFunc_int_l1_b K' n' v2 v3 v4 L1' v6 v7) := by
  unfold g_slices_swapRangeCmpFunc_int_l1_b
  repeat' first | with_reducible exact Le.rfl | with_reducible refine Le.chk ?_ | with_reducible refine Le.ite ?_ ?_ | with_reducible refine Le.both ?_ ?_ | with_reducible exact hL1 _ _ | with_reducible refine Le.bind ?_ fun _ => ?_
theorem m_g_slices_swapRangeCmpFunc_int_l1 {K K' : Kn} (hK : KLe K K') {n n' : Nat} (hn : n ≤ n') (v2 : Int) (v3 : Int) (v4 : Int) : ∀ m m', m ≤ m' → ∀ a0 a1, Le (g_slices_swapRangeCmpFunc_int_l1 K n v2 v3 v4 m a0 a1) (g_slices_swapRangeCmpFunc_int_l1 K' n' v2 v3 v4 m' a0 a1) := by
  intro m
  induction m with
  | zero => intro m' _ a0 a1; exact Le.none
  | succ m ih =>
    intro m' h a0 a1
    cases m' with
    | zero => exact absurd h (Nat.not_succ_le_zero _)
    | succ k => exact m_g_slices_swapRangeCmpFunc_int_l1_b hK hn _ _ _ (ih k (Nat.le_of_succ_le_succ h)) _ _
theorem m_g_slices_swapRangeCmpFunc_int {K K' : Kn} (hK : KLe K K') {n n' : Nat} (hn : n ≤ n') (v1 : (List Int)) (v2 : Int) (v3 : Int) (v4 : Int) (v5 : Fv) : Le (g_slices_swapRangeCmpFunc_int K n v1 v2 v3 v4 v5) (g_slices_swapRangeCmpFunc_int K' n' v1 v2 v3 v4 v5) := by
  unfold g_slices_swapRangeCmpFunc_int
  repeat' first | with_reducible exact Le.rfl | with_reducible refine Le.chk ?_ | with_reducible refine Le.ite ?_ ?_ | with_reducible refine Le.both ?_ ?_ | with_reducible exact m_g_slices_swapRangeCmpFunc_int_l1 hK hn _ _ _ _ _ hn _ _ | with_reducible refine Le.bind ?_ fun _ => ?_
theorem m_g_slices_rotateCmpFunc_int_j1 {K K' : Kn} (hK : KLe K K') {n n' : Nat} (hn : n ≤ n') (v3 : Int) (v5 : Fv) {L1 L1' : Int → Int → (List Int) → Option (List Int)} (hL1 : ∀ a0 a1 a2, Le (L1 a0 a1 a2) (L1' a0 a1 a2)) (v16 : Int) (v17 : Int) (v18 : (List Int)) : Le (g_slices_rotateCmpFunc_int_j1 K n v3 v5 L1 v16 v17 v18) (g_slices_rotateCmpFunc_int_j1 K' n' v3 v5 L1' v16 v17 v18) := by
  unfold g_slices_rotateCmpFunc_int_j1
  repeat' first | with_reducible exact Le.rfl | with_reducible refine Le.chk ?_ | with_reducible refine Le.ite ?_ ?_ | with_reducible refine Le.both ?_ ?_ | with_reducible exact hL1 _ _ _ | with_reducible refine Le.bind ?_ fun _ => ?_
theorem m_g_slices_rotateCmpFunc_int_l2_b {K K' : Kn} (hK : KLe K K') {n n' : Nat} (hn : n ≤ n') (v3 : Int) (v5 : Fv) {L1 L1' : Int → Int → (List Int) → Option (List Int)} (hL1 : ∀ a0 a1 a2, Le (L1 a0 a1 a2) (L1' a0 a1 a2)) (v11 : Int) (v12 : Int) (v13 : (List Int)) : Le (g_slices_rotateCmpFunc_int_l2_b K n v3 v5 L1 v11 v12 v13) (g_slices_rotateCmpFunc_int_l2_b K' n' v3 v5 L1' v11 v12 v13) := by
  unfold g_slices_rotateCmpFunc_int_l2_b
  repeat' first | with_reducible exact Le.rfl | with_reducible refine Le.chk ?_ | with_reducible refine Le.ite ?_ ?_ | with_reducible refine Le.both ?_ ?_ | with_reducible exact m_g_slices_swapRangeCmpFunc_int hK hn _ _ _ _ _ | with_reducible exact m_g_slices_rotateCmpFunc_int_j1 hK hn _ _ hL1 _ _ _ | with_reducible exact hL1 _ _ _ | with_reducible refine Le.bind ?_ fun _ => ?_
theorem m_g_slices_rotateCmpFunc_int_l2 {K K' : Kn} (hK : KLe K K') {n n' : Nat} (hn : n ≤ n') (v3 : Int) (v5 : Fv) : ∀ m m', m ≤ m' → ∀ a0 a1 a2, Le (g_slices_rotateCmpFunc_int_l2 K n v3 v5 m a0 a1 a2) (g_slices_rotateCmpFunc_int_l2 K' n' v3 v5 m' a0 a1 a2) := by
  intro m
  induction m with
  | zero => intro m' _ a0 a1 a2; exact Le.none
  | succ m ih =>
    intro m' h a0 a1 a2
    cases m' with
    | zero => exact absurd h (Nat.not_succ_le_zero _)
    | succ k => exact m_g_slices_rotateCmpFunc_int_l2_b hK hn _ _ (ih k (Nat.le_of_succ_le_succ h)) _ _ _
theorem m_g_slices_rotateCmpFunc_int {K K' : Kn} (hK : KLe K K') {n n' : Nat} (hn : n ≤ n') (v1 : (List Int)) (v2 : Int) (v3 : Int) (v4 : Int) (v5 : Fv) : Le (g_slices_rotateCmpFunc_int K n v1 v2 v3 v4 v5) (g_slices_rotateCmpFunc_int K' n' v1 v2 v3 v4 v5) := by
  unfold g_slices_rotateCmpFunc_int
  repeat' first | with_reducible exact Le.rfl | with_reducible refine Le.chk ?_ | with_reducible refine Le.ite ?_ ?_ | with_reducible refine Le.both ?_ ?_ | with_reducible exact m_g_slices_rotateCmpFunc_int_l2 hK hn _ _ _ _ hn _ _ _ | with_reducible refine Le.bind ?_ fun _ => ?_
theorem m_g_slices_symMergeCmpFunc_int_j1 {K K' : Kn} (hK : KLe K K') {n n' : Nat} (hn : n ≤ n') (v1 : (List Int)) (v2 : Int) (v5 : Fv) {L1 L1' : Int → Int → Option (List Int)} (hL1 : ∀ a0 a1, Le (L1 a0 a1) (L1' a0 a1)) (v14 : Int) (v15 : Int) : Le (g_slices_symMergeCmpFunc_int_j1 K n v1 v2 v5 L1 v14 v15) (g_slices_symMergeCmpFunc_int_j1 K' n' v1 v2 v5 L1' v14 v15) := by
  unfold g_slices_symMergeCmpFunc_int_j1
  repeat' first | with_reducible exact Le.rfl | with_reducible refine Le.chk ?_ | with_reducible refine Le.ite ?_ ?_ | with_reducible refine Le.both ?_ ?_ | with_reducible exact hL1 _ _ | with_reducible refine Le.bind ?_ fun _ => ?_
theorem m_g_slices_symMergeCmpFunc_int_l3_b {K K' : Kn} (hK : KLe K K') {n n' : Nat} (hn : n ≤ n') (v10 : Int) {L2 L2' : Int → (List Int) → Option (List Int)} (hL2 : ∀ a0 a1, Le (L2 a0 a1) (L2' a0 a1)) (v16 : Int) (v17 : (List Int)) : Le (g_slices_symMergeCmpFunc_int_l3_b K n v10 L2 v16 v17) (g_slices_symMergeCmpFunc_int_l3_b K' n' v10 L2' v16 v17) := by
  unfold g_slices_symMergeCmpFunc_int_l3_b
  repeat' first | with_reducible exact Le.rfl | with_reducible refine Le.chk ?_ | with_reducible refine Le.ite ?_ ?_ | with_reducible refine Le.both ?_ ?_ | with_reducible exact hL2 _ _ | with_reducible refine Le.bind ?_ fun _ => ?_
theorem m_g_slices_symMergeCmpFunc_int_l3 {K K' : Kn} (hK : KLe K K') {n n' : Nat} (hn : n ≤ n') (v10 : Int) : ∀ m m', m ≤ m' → ∀ a0 a1, Le (g_slices_symMergeCmpFunc_int_l3 K n v10 m a0 a1) (g_slices_symMergeCmpFunc_int_l3 K' n' v10 m' a0 a1) := by
  intro m
  induction m with
  | zero => intro m' _ a0 a1; exact Le.none
  | succ m ih =>
    intro m' h a0 a1
    cases m' with
    | zero => exact absurd h (Nat.not_succ_le_zero _)
    | succ k => exact m_g_slices_symMergeCmpFunc_int_l3_b hK hn _ (ih k (Nat.le_of_succ_le_succ h)) _ _
theorem m_g_slices_symMergeCmpFunc_int_l2_b {K K' : Kn} (hK : KLe K K') {n n' : Nat} (hn : n ≤ n') (v1 : (List Int)) (v2 : Int) (v5 : Fv) {L1 L1' : Int → Int → Option (List Int)} (hL1 : ∀ a0 a1, Le (L1 a0 a1) (L1' a0 a1)) (v10 : Int) (v11 : Int) : Le (g_slices_symMergeCmpFunc_int_l2_b K n v1 v2 v5 L1 v10 v11) (g_slices_symMergeCmpFunc_int_l2_b K' n' v1 v2 v5 L1' v10 v11) := by
  unfold g_slices_symMergeCmpFunc_int_l2_b
  repeat' first | with_reducible exact Le.rfl | with_reducible refine Le.chk ?_ | with_reducible refine Le.ite ?_ ?_ | with_reducible refine Le.both ?_ ?_ | with_reducible exact m_g_slices_symMergeCmpFunc_int_j1 hK hn _ _ _ hL1 _ _ | with_reducible exact m_g_slices_symMergeCmpFunc_int_l3 hK hn _ _ _ hn _ _ | with_reducible exact hK.d_Int_Int__Int _ _ _ | with_reducible exact hL1 _ _ | with_reducible refine Le.bind ?_ fun _ => ?_
theorem m_g_slices_symMergeCmpFunc_int_l2 {K K' : Kn} (hK : KLe K K') {n n' : Nat} (hn : n ≤ n') (v1 : (List Int)) (v2 : Int) (v5 : Fv) : ∀ m m', m ≤ m' → ∀ a0 a1, Le (g_slices_symMergeCmpFunc_int_l2 K n v1 v2 v5 m a0 a1) (g_slices_symMergeCmpFunc_int_l2 K' n' v1 v2 v5 m' a0 a1) := by
  intro m
  induction m with
  | zero => intro m' _ a0 a1; exact Le.none
  | succ m ih =>
    intro m' h a0 a1
    cases m' with
    | zero => exact absurd h (Nat.not_succ_le_zero _)
    | succ k => exact m_g_slices_symMergeCmpFunc_int_l2_b hK hn _ _ _ (ih k (Nat.le_of_succ_le_succ h)) _ _
theorem m_g_slices_symMergeCmpFunc_int_j4 {K K' : Kn} (hK : KLe K K') {n n' : Nat} (hn : n ≤ n') (v1 : (List Int)) (v3 : Int) (v5 : Fv) {L3 L3' : Int → Int → Option (List Int)} (hL3 : ∀ a0 a1, Le (L3 a0 a1) (L3' a0 a1)) (v26 : Int) (v27 : Int) : Le (g_slices_symMergeCmpFunc_int_j4 K n v1 v3 v5 L3 v26 v27) (g_slices_symMergeCmpFunc_int_j4 K' n' v1 v3 v5 L3' v26 v27) := by
  unfold g_slices_symMergeCmpFunc_int_j4
  repeat' first | with_reducible exact Le.rfl | with_reducible refine Le.chk ?_ | with_reducible refine Le.ite ?_ ?_ | with_reducible refine Le.both ?_ ?_ | with_reducible exact hL3 _ _ | with_reducible refine Le.bind ?_ fun _ => ?_
theorem m_g_slices_symMergeCmpFunc_int_l6_b {K K' : Kn} (hK : KLe K K') {n n' : Nat} (hn : n ≤ n') (v22 : Int) {L4 L4' : Int → (List Int) → Option (List Int)} (hL4 : ∀ a0 a1, Le (L4 a0 a1) (L4' a0 a1)) (v28 : Int) (v29 : (List Int)) : Le (g_slices_symMergeCmpFunc_int_l6_b K n v22 L4 v28 v29) (g_slices_symMergeCmpFunc_int_l6_b K' n' v22 L4' v28 v29) := by
  unfold g_slices_symMergeCmpFunc_int_l6_b
  repeat' first | with_reducible exact Le.rfl | with_reducible refine Le.chk ?_ | with_reducible refine Le.ite ?_ ?_ | with_reducible refine Le.both ?_ ?_ | with_reducible exact hL4 _ _ | with_reducible refine Le.bind ?_ fun _ => ?_
theorem m_g_slices_symMergeCmpFunc_int_l6 {K K' : Kn} (hK : KLe K K') {n n' : Nat} (hn : n ≤ n') (v22 : Int) : ∀ m m', m ≤ m' → ∀ a0 a1, Le (g_slices_symMergeCmpFunc_int_l6 K n v22 m a0 a1) (g_slices_symMergeCmpFunc_int_l6 K' n' v22 m' a0 a1) := by
  intro m
  induction m with
  | zero => intro m' _ a0 a1; exact Le.none
  | succ m ih =>
    intro m' h a0 a1
    cases m' with
    | zero => exact absurd h (Nat.not_succ_le_zero _)
    | succ k => exact m_g_slices_symMergeCmpFunc_int_l6_b hK hn _ (ih k (Nat.le_of_succ_le_succ h)) _ _
theorem m_g_slices_symMergeCmpFunc_int_l5_b {K K' : Kn} (hK : KLe K K') {n n' : Nat} (hn : n ≤ n') (v1 : (List Int)) (v3 : Int) (v5 : Fv) {L3 L3' : Int → Int → Option (List Int)} (hL3 : ∀ a0 a1, Le (L3 a0 a1) (L3' a0 a1)) (v22 : Int) (v23 : Int) : Le (g_slices_symMergeCmpFunc_int_l5_b K n v1 v3 v5 L3 v22 v23) (g_slices_symMergeCmpFunc_int_l5_b K' n' v1 v3 v5 L3' v22 v23) := by
  unfold g_slices_symMergeCmpFunc_int_l5_b
  repeat' first | with_reducible exact Le.rfl | with_reducible refine Le.chk ?_ | with_reducible refine Le.ite ?_ ?_ | with_reducible refine Le.both ?_ ?_ | with_reducible exact m_g_slices_symMergeCmpFunc_int_j4 hK hn _ _ _ hL3 _ _ | with_reducible exact m_g_slices_symMergeCmpFunc_int_l6 hK hn _ _ _ hn _ _ | with_reducible exact hK.d_Int_Int__Int _ _ _ | with_reducible exact hL3 _ _ | with_reducible refine Le.bind ?_ fun _ => ?_
theorem m_g_slices_symMergeCmpFunc_int_l5 {K K' : Kn} (hK : KLe K K') {n n' : Nat} (hn : n ≤ n') (v1 : (List Int)) (v3 : Int) (v5 : Fv) : ∀ m m', m ≤ m' → ∀ a0 a1, Le (g_slices_symMergeCmpFunc_int_l5 K n v1 v3 v5 m a0 a1) (g_slices_symMergeCmpFunc_int_l5 K' n' v1 v3 v5 m' a0 a1) := by
  intro m
  induction m with
  | zero => intro m' _ a0 a1; exact Le.none
  | succ m ih =>
    intro m' h a0 a1
    cases m' with
    | zero => exact absurd h (Nat.not_succ_le_zero _)
    | succ k => exact m_g_slices_symMergeCmpFunc_int_l5_b hK hn _ _ _ (ih k (Nat.le_of_succ_le_succ h)) _ _
theorem m_g_slices_symMergeCmpFunc_int_j8 {K K' : Kn} (hK : KLe K K') {n n' : Nat} (hn : n ≤ n') (v1 : (List Int)) (v2 : Int) (v3 : Int) (v4 : Int) (v5 : Fv) (v30 : Int) (v31 : Int) {L5 L5' : Int → Int → Option (List Int)} (hL5 : ∀ a0 a1, Le (L5 a0 a1) (L5' a0 a1)) (v43 : Int) (v44 : Int) : Le (g_slices_symMergeCmpFunc_int_j8 K n v1 v2 v3 v4 v5 v30 v31 L5 v43 v44) (g_slices_symMergeCmpFunc_int_j8 K' n' v1 v2 v3 v4 v5 v30 v31 L5' v43 v44) := by
  unfold g_slices_symMergeCmpFunc_int_j8
  repeat' first | with_reducible exact Le.rfl | with_reducible refine Le.chk ?_ | with_reducible refine Le.ite ?_ ?_ | with_reducible refine Le.both ?_ ?_ | with_reducible exact hL5 _ _ | with_reducible refine Le.bind ?_ fun _ => ?_
theorem m_g_slices_symMergeCmpFunc_int_j15 {K K' : Kn} (hK : KLe K K') {n n' : Nat} (hn : n ≤ n') (v53 : (List Int)) : Le (g_slices_symMergeCmpFunc_int_j15 K n v53) (g_slices_symMergeCmpFunc_int_j15 K' n' v53) := by
  unfold g_slices_symMergeCmpFunc_int_j15
  repeat' first | with_reducible exact Le.rfl | with_reducible refine Le.chk ?_ | with_reducible refine Le.ite ?_ ?_ | with_reducible refine Le.both ?_ ?_ | with_reducible refine Le.bind ?_ fun _ => ?_
theorem m_g_slices_symMergeCmpFunc_int_j14 {K K' : Kn} (hK : KLe K K') {n n' : Nat} (hn : n ≤ n') (v4 : Int) (v5 : Fv) (v30 : Int) (v31 : Int) (v39 : Int) (v50 : (List Int)) (v51 : Bool) : Le (g_slices_symMergeCmpFunc_int_j14 K n v4 v5 v30 v31 v39 v50 v51) (g_slices_symMergeCmpFunc_int_j14 K' n' v4 v5 v30 v31 v39 v50 v51) := by
  unfold g_slices_symMergeCmpFunc_int_j14
  repeat' first | with_reducible exact Le.rfl | with_reducible refine Le.chk ?_ | with_reducible refine Le.ite ?_ ?_ | with_reducible refine Le.both ?_ ?_ | with_reducible exact m_g_slices_symMergeCmpFunc_int_j15 hK hn _ | with_reducible exact hK.k_g_slices_symMergeCmpFunc_int _ _ _ _ _ | with_reducible refine Le.bind ?_ fun _ => ?_
theorem m_g_slices_symMergeCmpFunc_int_j13 {K K' : Kn} (hK : KLe K K') {n n' : Nat} (hn : n ≤ n') (v4 : Int) (v5 : Fv) (v30 : Int) (v31 : Int) (v39 : Int) (v50 : (List Int)) : Le (g_slices_symMergeCmpFunc_int_j13 K n v4 v5 v30 v31 v39 v50) (g_slices_symMergeCmpFunc_int_j13 K' n' v4 v5 v30 v31 v39 v50) := by
  unfold g_slices_symMergeCmpFunc_int_j13
  repeat' first | with_reducible exact Le.rfl | with_reducible refine Le.chk ?_ | with_reducible refine Le.ite ?_ ?_ | with_reducible refine Le.both ?_ ?_ | with_reducible exact m_g_slices_symMergeCmpFunc_int_j14 hK hn _ _ _ _ _ _ _ | with_reducible refine Le.bind ?_ fun _ => ?_
theorem m_g_slices_symMergeCmpFunc_int_j12 {K K' : Kn} (hK : KLe K K') {n n' : Nat} (hn : n ≤ n') (v2 : Int) (v4 : Int) (v5 : Fv) (v30 : Int) (v31 : Int) (v39 : Int) (v47 : (List Int)) (v48 : Bool) : Le (g_slices_symMergeCmpFunc_int_j12 K n v2 v4 v5 v30 v31 v39 v47 v48) (g_slices_symMergeCmpFunc_int_j12 K' n' v2 v4 v5 v30 v31 v39 v47 v48) := by
  unfold g_slices_symMergeCmpFunc_int_j12
  repeat' first | with_reducible exact Le.rfl | with_reducible refine Le.chk ?_ | with_reducible refine Le.ite ?_ ?_ | with_reducible refine Le.both ?_ ?_ | with_reducible exact m_g_slices_symMergeCmpFunc_int_j13 hK hn _ _ _ _ _ _ | with_reducible exact hK.k_g_slices_symMergeCmpFunc_int _ _ _ _ _ | with_reducible refine Le.bind ?_ fun _ => ?_
theorem m_g_slices_symMergeCmpFunc_int_j11 {K K' : Kn} (hK : KLe K K') {n n' : Nat} (hn : n ≤ n') (v2 : Int) (v4 : Int) (v5 : Fv) (v30 : Int) (v31 : Int) (v39 : Int) (v47 : (List Int)) : Le (g_slices_symMergeCmpFunc_int_j11 K n v2 v4 v5 v30 v31 v39 v47) (g_slices_symMergeCmpFunc_int_j11 K' n' v2 v4 v5 v30 v31 v39 v47) := by
  unfold g_slices_symMergeCmpFunc_int_j11
  repeat' first | with_reducible exact Le.rfl | with_reducible refine Le.chk ?_ | with_reducible refine Le.ite ?_ ?_ | with_reducible refine Le.both ?_ ?_ | with_reducible exact m_g_slices_symMergeCmpFunc_int_j12 hK hn _ _ _ _ _ _ _ _ | with_reducible refine Le.bind ?_ fun _ => ?_
theorem m_g_slices_symMergeCmpFunc_int_j10 {K K' : Kn} (hK : KLe K K') {n n' : Nat} (hn : n ≤ n') (v1 : (List Int)) (v2 : Int) (v3 : Int) (v4 : Int) (v5 : Fv) (v30 : Int) (v31 : Int) (v39 : Int) (v45 : Bool) : Le (g_slices_symMergeCmpFunc_int_j10 K n v1 v2 v3 v4 v5 v30 v31 v39 v45) (g_slices_symMergeCmpFunc_int_j10 K' n' v1 v2 v3 v4 v5 v30 v31 v39 v45) := by
  unfold g_slices_symMergeCmpFunc_int_j10
  repeat' first | with_reducible exact Le.rfl | with_reducible refine Le.chk ?_ | with_reducible refine Le.ite ?_ ?_ | with_reducible refine Le.both ?_ ?_ | with_reducible exact m_g_slices_rotateCmpFunc_int hK hn _ _ _ _ _ | with_reducible exact m_g_slices_symMergeCmpFunc_int_j11 hK hn _ _ _ _ _ _ _ | with_reducible refine Le.bind ?_ fun _ => ?_
theorem m_g_slices_symMergeCmpFunc_int_l9_b {K K' : Kn} (hK : KLe K K') {n n' : Nat} (hn : n ≤ n') (v1 : (List Int)) (v2 : Int) (v3 : Int) (v4 : Int) (v5 : Fv) (v30 : Int) (v31 : Int) {L5 L5' : Int → Int → Option (List Int)} (hL5 : ∀ a0 a1, Le (L5 a0 a1) (L5' a0 a1)) (v39 : Int) (v40 : Int) : Le (g_slices_symMergeCmpFunc_int_l9_b K n v1 v2 v3 v4 v5 v30 v31 L5 v39 v40) (g_slices_symMergeCmpFunc_int_l9_b K' n' v1 v2 v3 v4 v5 v30 v31 L5' v39 v40) := by
  unfold g_slices_symMergeCmpFunc_int_l9_b
  repeat' first | with_reducible exact Le.rfl | with_reducible refine Le.chk ?_ | with_reducible refine Le.ite ?_ ?_ | with_reducible refine Le.both ?_ ?_ | with_reducible exact m_g_slices_symMergeCmpFunc_int_j8 hK hn _ _ _ _ _ _ _ hL5 _ _ | with_reducible exact m_g_slices_symMergeCmpFunc_int_j10 hK hn _ _ _ _ _ _ _ _ _ | with_reducible exact hK.d_Int_Int__Int _ _ _ | with_reducible exact hL5 _ _ | with_reducible refine Le.bind ?_ fun _ => ?_
theorem m_g_slices_symMergeCmpFunc_int_l9 {K K' : Kn} (hK : KLe K K') {n n' : Nat} (hn : n ≤ n') (v1 : (List Int)) (v2 : Int) (v3 : Int) (v4 : Int) (v5 : Fv) (v30 : Int) (v31 : Int) : ∀ m m', m ≤ m' → ∀ a0 a1, Le (g_slices_symMergeCmpFunc_int_l9 K n v1 v2 v3 v4 v5 v30 v31 m a0 a1) (g_slices_symMergeCmpFunc_int_l9 K' n' v1 v2 v3 v4 v5 v30 v31 m' a0 a1) := by
  intro m
  induction m with
  | zero => intro m' _ a0 a1; exact Le.none
  | succ m ih =>
    intro m' h a0 a1
    cases m' with
    | zero => exact absurd h (Nat.not_succ_le_zero _)
    | succ k => exact m_g_slices_symMergeCmpFunc_int_l9_b hK hn _ _ _ _ _ _ _ (ih k (Nat.le_of_succ_le_succ h)) _ _
theorem m_g_slices_symMergeCmpFunc_int_j7 {K K' : Kn} (hK : KLe K K') {n n' : Nat} (hn : n ≤ n') (v1 : (List Int)) (v2 : Int) (v3 : Int) (v4 : Int) (v5 : Fv) (v30 : Int) (v31 : Int) (v33 : Int) (v34 : Int) : Le (g_slices_symMergeCmpFunc_int_j7 K n v1 v2 v3 v4 v5 v30 v31 v33 v34) (g_slices_symMergeCmpFunc_int_j7 K' n' v1 v2 v3 v4 v5 v30 v31 v33 v34) := by
  unfold g_slices_symMergeCmpFunc_int_j7
  repeat' first | with_reducible exact Le.rfl | with_reducible refine Le.chk ?_ | with_reducible refine Le.ite ?_ ?_ | with_reducible refine Le.both ?_ ?_ | with_reducible exact m_g_slices_symMergeCmpFunc_int_l9 hK hn _ _ _ _ _ _ _ _ _ hn _ _ | with_reducible refine Le.bind ?_ fun _ => ?_
theorem m_g_slices_symMergeCmpFunc_int {K K' : Kn} (hK : KLe K K') {n n' : Nat} (hn : n ≤ n') (v1 : (List Int)) (v2 : Int) (v3 : Int) (v4 : Int) (v5 : Fv) : Le (g_slices_symMergeCmpFunc_int K n v1 v2 v3 v4 v5) (g_slices_symMergeCmpFunc_int K' n' v1 v2 v3 v4 v5) := by
  unfold g_slices_symMergeCmpFunc_int
  repeat' first | with_reducible exact Le.rfl | with_reducible refine Le.chk ?_ | with_reducible refine Le.ite ?_ ?_ | with_reducible refine Le.both ?_ ?_ | with_reducible exact m_g_slices_symMergeCmpFunc_int_l2 hK hn _ _ _ _ _ hn _ _ | with_reducible exact m_g_slices_symMergeCmpFunc_int_l5 hK hn _ _ _ _ _ hn _ _ | with_reducible exact m_g_slices_symMergeCmpFunc_int_j7 hK hn _ _ _ _ _ _ _ _ _ | with_reducible refine Le.bind ?_ fun _ => ?_
theorem m_g_cmp_isNaN_int {K K' : Kn} (hK : KLe K K') {n n' : Nat} (hn : n ≤ n') (v1 : Int) : Le (g_cmp_isNaN_int K n v1) (g_cmp_isNaN_int K' n' v1) := by
  unfold g_cmp_isNaN_int
  repeat' first | with_reducible exact Le.rfl | with_reducible refine Le.chk ?_ | with_reducible refine Le.ite ?_ ?_ | with_reducible refine Le.both ?_ ?_ | with_reducible refine Le.bind ?_ fun _ => ?_
theorem m_g_cmp_Compare_int {K K' : Kn} (hK : KLe K K') {n n' : Nat} (hn : n ≤ n') (v1 : Int) (v2 : Int) : Le (g_cmp_Compare_int K n v1 v2) (g_cmp_Compare_int K' n' v1 v2) := by
  unfold g_cmp_Compare_int
  repeat' first | with_reducible exact Le.rfl | with_reducible refine Le.chk ?_ | with_reducible refine Le.ite ?_ ?_ | with_reducible refine Le.both ?_ ?_ | with_reducible exact m_g_cmp_isNaN_int hK hn _ | with_reducible refine Le.bind ?_ fun _ => ?_
theorem m_g_flex_Share_1 {K K' : Kn} (hK : KLe K K') {n n' : Nat} (hn : n ≤ n') (v1 : Int) (v2 : Int) (v3 : (List Int)) : Le (g_flex_Share_1 K n v1 v2 v3) (g_flex_Share_1 K' n' v1 v2 v3) := by
  unfold g_flex_Share_1
  repeat' first | with_reducible exact Le.rfl | with_reducible refine Le.chk ?_ | with_reducible refine Le.ite ?_ ?_ | with_reducible refine Le.both ?_ ?_ | with_reducible exact m_g_cmp_Compare_int hK hn _ _ | with_reducible refine Le.bind ?_ fun _ => ?_
theorem m_g_ref17_Tree_j2 {K K' : Kn} (hK : KLe K K') {n n' : Nat} (hn : n ≤ n') (v1 : (List TKnapsackref17Spec)) (v2 : Int) (v3 : Bool) (v8 : Int) (v9 : (List TBoxtreeBox)) {L1 L1' : Int → (List TBoxtreeBox) → Option (TBoxtreeBox × Int)} (hL1 : ∀ a0 a1, Le (L1 a0 a1) (L1' a0 a1)) (v10 : Bool) : Le (g_ref17_Tree_j2 K n v1 v2 v3 v8 v9 L1 v10) (g_ref17_Tree_j2 K' n' v1 v2 v3 v8 v9 L1' v10) := by
  unfold g_ref17_Tree_j2
  repeat' first | with_reducible exact Le.rfl | with_reducible refine Le.chk ?_ | with_reducible refine Le.ite ?_ ?_ | with_reducible refine Le.both ?_ ?_ | with_reducible exact hK.k_g_ref17_Tree _ _ | with_reducible exact hL1 _ _ | with_reducible refine Le.bind ?_ fun _ => ?_
theorem m_g_ref17_Tree_l3_b {K K' : Kn} (hK : KLe K K') {n n' : Nat} (hn : n ≤ n') (v1 : (List TKnapsackref17Spec)) (v2 : Int) (v3 : Bool) {L1 L1' : Int → (List TBoxtreeBox) → Option (TBoxtreeBox × Int)} (hL1 : ∀ a0 a1, Le (L1 a0 a1) (L1' a0 a1)) (v8 : Int) (v9 : (List TBoxtreeBox)) : Le (g_ref17_Tree_l3_b K n v1 v2 v3 L1 v8 v9) (g_ref17_Tree_l3_b K' n' v1 v2 v3 L1' v8 v9) := by
  unfold g_ref17_Tree_l3_b
  repeat' first | with_reducible exact Le.rfl | with_reducible refine Le.chk ?_ | with_reducible refine Le.ite ?_ ?_ | with_reducible refine Le.both ?_ ?_ | with_reducible exact m_g_ref17_Tree_j2 hK hn _ _ _ _ _ hL1 _ | with_reducible exact hL1 _ _ | with_reducible refine Le.bind ?_ fun _ => ?_
theorem m_g_ref17_Tree_l3 {K K' : Kn} (hK : KLe K K') {n n' : Nat} (hn : n ≤ n') (v1 : (List TKnapsackref17Spec)) (v2 : Int) (v3 : Bool) : ∀ m m', m ≤ m' → ∀ a0 a1, Le (g_ref17_Tree_l3 K n v1 v2 v3 m a0 a1) (g_ref17_Tree_l3 K' n' v1 v2 v3 m' a0 a1) := by
  intro m
  induction m with
  | zero => intro m' _ a0 a1; exact Le.none
  | succ m ih =>
    intro m' h a0 a1
    cases m' with
    | zero => exact absurd h (Nat.not_succ_le_zero _)
    | succ k => exact m_g_ref17_Tree_l3_b hK hn _ _ _ (ih k (Nat.le_of_succ_le_succ h)) _ _
theorem m_g_ref17_Tree_j1 {K K' : Kn} (hK : KLe K K') {n n' : Nat} (hn : n ≤ n') (v1 : (List TKnapsackref17Spec)) (v2 : Int) (v3 : Bool) : Le (g_ref17_Tree_j1 K n v1 v2 v3) (g_ref17_Tree_j1 K' n' v1 v2 v3) := by
  unfold g_ref17_Tree_j1
  repeat' first | with_reducible exact Le.rfl | with_reducible refine Le.chk ?_ | with_reducible refine Le.ite ?_ ?_ | with_reducible refine Le.both ?_ ?_ | with_reducible exact m_g_ref17_Tree_l3 hK hn _ _ _ _ _ hn _ _ | with_reducible refine Le.bind ?_ fun _ => ?_
theorem m_g_ref17_Tree {K K' : Kn} (hK : KLe K K') {n n' : Nat} (hn : n ≤ n') (v1 : (List TKnapsackref17Spec)) (v2 : Int) : Le (g_ref17_Tree K n v1 v2) (g_ref17_Tree K' n' v1 v2) := by
  unfold g_ref17_Tree
  repeat' first | with_reducible exact Le.rfl | with_reducible refine Le.chk ?_ | with_reducible refine Le.ite ?_ ?_ | with_reducible refine Le.both ?_ ?_ | with_reducible exact m_g_ref17_Tree_j1 hK hn _ _ _ | with_reducible refine Le.bind ?_ fun _ => ?_
theorem m_g_block_limit {K K' : Kn} (hK : KLe K K') {n n' : Nat} (hn : n ≤ n') (v1 : Int) : Le (g_block_limit K n v1) (g_block_limit K' n' v1) := by
  unfold g_block_limit
  repeat' first | with_reducible exact Le.rfl | with_reducible refine Le.chk ?_ | with_reducible refine Le.ite ?_ ?_ | with_reducible refine Le.both ?_ ?_ | with_reducible refine Le.bind ?_ fun _ => ?_
theorem m_g_block_Length_j1 {K K' : Kn} (hK : KLe K K') {n n' : Nat} (hn : n ≤ n') (v4 : Int) : Le (g_block_Length_j1 K n v4) (g_block_Length_j1 K' n' v4) := by
  unfold g_block_Length_j1
  repeat' first | with_reducible exact Le.rfl | with_reducible refine Le.chk ?_ | with_reducible refine Le.ite ?_ ?_ | with_reducible refine Le.both ?_ ?_ | with_reducible refine Le.bind ?_ fun _ => ?_
theorem m_g_block_Length {K K' : Kn} (hK : KLe K K') {n n' : Nat} (hn : n ≤ n') (v1 : TCascadeLength) (v2 : Int) : Le (g_block_Length K n v1 v2) (g_block_Length K' n' v1 v2) := by
  unfold g_block_Length
  repeat' first | with_reducible exact Le.rfl | with_reducible refine Le.chk ?_ | with_reducible refine Le.ite ?_ ?_ | with_reducible refine Le.both ?_ ?_ | with_reducible exact m_g_block_Length_j1 hK hn _ | with_reducible exact m_g_block_limit hK hn _ | with_reducible refine Le.bind ?_ fun _ => ?_
theorem m_g_block_Flow_j1 {K K' : Kn} (hK : KLe K K') {n n' : Nat} (hn : n ≤ n') (v2 : Bool) : Le (g_block_Flow_j1 K n v2) (g_block_Flow_j1 K' n' v2) := by
  unfold g_block_Flow_j1
  repeat' first | with_reducible exact Le.rfl | with_reducible refine Le.chk ?_ | with_reducible refine Le.ite ?_ ?_ | with_reducible refine Le.both ?_ ?_ | with_reducible refine Le.bind ?_ fun _ => ?_
theorem m_g_block_Flow {K K' : Kn} (hK : KLe K K') {n n' : Nat} (hn : n ≤ n') (v1 : TBoxtreeBox) : Le (g_block_Flow K n v1) (g_block_Flow K' n' v1) := by
  unfold g_block_Flow
  repeat' first | with_reducible exact Le.rfl | with_reducible refine Le.chk ?_ | with_reducible refine Le.ite ?_ ?_ | with_reducible refine Le.both ?_ ?_ | with_reducible exact m_g_block_Flow_j1 hK hn _ | with_reducible refine Le.bind ?_ fun _ => ?_
theorem m_g_flex_Order_1 {K K' : Kn} (hK : KLe K K') {n n' : Nat} (hn : n ≤ n') (v1 : Int) (v2 : Int) (v3 : (List TBoxtreeBox)) : Le (g_flex_Order_1 K n v1 v2 v3) (g_flex_Order_1 K' n' v1 v2 v3) := by
  unfold g_flex_Order_1
  repeat' first | with_reducible exact Le.rfl | with_reducible refine Le.chk ?_ | with_reducible refine Le.ite ?_ ?_ | with_reducible refine Le.both ?_ ?_ | with_reducible exact m_g_cmp_Compare_int hK hn _ _ | with_reducible refine Le.bind ?_ fun _ => ?_
theorem m_g_block_Edges {K K' : Kn} (hK : KLe K K') {n n' : Nat} (hn : n ≤ n') (v1 : TCascadeStyle) (v2 : Int) (v3 : Int) : Le (g_block_Edges K n v1 v2 v3) (g_block_Edges K' n' v1 v2 v3) := by
  unfold g_block_Edges
  repeat' first | with_reducible exact Le.rfl | with_reducible refine Le.chk ?_ | with_reducible refine Le.ite ?_ ?_ | with_reducible refine Le.both ?_ ?_ | with_reducible exact m_g_block_Length hK hn _ _ | with_reducible exact m_g_block_limit hK hn _ | with_reducible refine Le.bind ?_ fun _ => ?_
theorem m_g_block_Clamp_j2 {K K' : Kn} (hK : KLe K K') {n n' : Nat} (hn : n ≤ n') (v7 : Int) : Le (g_block_Clamp_j2 K n v7) (g_block_Clamp_j2 K' n' v7) := by
  unfold g_block_Clamp_j2
  repeat' first | with_reducible exact Le.rfl | with_reducible refine Le.chk ?_ | with_reducible refine Le.ite ?_ ?_ | with_reducible refine Le.both ?_ ?_ | with_reducible refine Le.bind ?_ fun _ => ?_
theorem m_g_block_Clamp_j1 {K K' : Kn} (hK : KLe K K') {n n' : Nat} (hn : n ≤ n') (v1 : TCascadeStyle) (v2 : Int) (v5 : Int) : Le (g_block_Clamp_j1 K n v1 v2 v5) (g_block_Clamp_j1 K' n' v1 v2 v5) := by
  unfold g_block_Clamp_j1
  repeat' first | with_reducible exact Le.rfl | with_reducible refine Le.chk ?_ | with_reducible refine Le.ite ?_ ?_ | with_reducible refine Le.both ?_ ?_ | with_reducible exact m_g_block_Length hK hn _ _ | with_reducible exact m_g_block_Clamp_j2 hK hn _ | with_reducible refine Le.bind ?_ fun _ => ?_
theorem m_g_block_Clamp {K K' : Kn} (hK : KLe K K') {n n' : Nat} (hn : n ≤ n') (v1 : TCascadeStyle) (v2 : Int) (v3 : Int) : Le (g_block_Clamp K n v1 v2 v3) (g_block_Clamp K' n' v1 v2 v3) := by
  unfold g_block_Clamp
  repeat' first | with_reducible exact Le.rfl | with_reducible refine Le.chk ?_ | with_reducible refine Le.ite ?_ ?_ | with_reducible refine Le.both ?_ ?_ | with_reducible exact m_g_block_Length hK hn _ _ | with_reducible exact m_g_block_Clamp_j1 hK hn _ _ _ | with_reducible refine Le.bind ?_ fun _ => ?_
theorem m_g_api_BlockSizes_Sum {K K' : Kn} (hK : KLe K K') {n n' : Nat} (hn : n ≤ n') (v1 : TBlockSizes) : Le (g_api_BlockSizes_Sum K n v1) (g_api_BlockSizes_Sum K' n' v1) := by
  unfold g_api_BlockSizes_Sum
  repeat' first | with_reducible exact Le.rfl | with_reducible refine Le.chk ?_ | with_reducible refine Le.ite ?_ ?_ | with_reducible refine Le.both ?_ ?_ | with_reducible refine Le.bind ?_ fun _ => ?_
theorem m_g_law17_Env {K K' : Kn} (hK : KLe K K') {n n' : Nat} (hn : n ≤ n')  : Le (g_law17_Env K n ) (g_law17_Env K' n' ) := by
  unfold g_law17_Env
  repeat' first | with_reducible exact Le.rfl | with_reducible refine Le.chk ?_ | with_reducible refine Le.ite ?_ ?_ | with_reducible refine Le.both ?_ ?_ | with_reducible refine Le.bind ?_ fun _ => ?_
theorem m_g_ref17_In_j1 {K K' : Kn} (hK : KLe K K') {n n' : Nat} (hn : n ≤ n') (v2 : Bool) : Le (g_ref17_In_j1 K n v2) (g_ref17_In_j1 K' n' v2) := by
  unfold g_ref17_In_j1
  repeat' first | with_reducible exact Le.rfl | with_reducible refine Le.chk ?_ | with_reducible refine Le.ite ?_ ?_ | with_reducible refine Le.both ?_ ?_ | with_reducible refine Le.bind ?_ fun _ => ?_
theorem m_g_ref17_In {K K' : Kn} (hK : KLe K K') {n n' : Nat} (hn : n ≤ n') (v1 : TBoxtreeBox) : Le (g_ref17_In K n v1) (g_ref17_In K' n' v1) := by
  unfold g_ref17_In
  repeat' first | with_reducible exact Le.rfl | with_reducible refine Le.chk ?_ | with_reducible refine Le.ite ?_ ?_ | with_reducible refine Le.both ?_ ?_ | with_reducible exact m_g_ref17_In_j1 hK hn _ | with_reducible refine Le.bind ?_ fun _ => ?_
theorem m_g_ref17_Inside_j1 {K K' : Kn} (hK : KLe K K') {n n' : Nat} (hn : n ≤ n') (v1 : TBoxtreeBox) (v8 : Int) {L1 L1' : Int → (List TBoxtreeBox) → Option (List TBoxtreeBox)} (hL1 : ∀ a0 a1, Le (L1 a0 a1) (L1' a0 a1)) (v11 : (List TBoxtreeBox)) : Le (g_ref17_Inside_j1 K n v1 v8 L1 v11) (g_ref17_Inside_j1 K' n' v1 v8 L1' v11) := by
  unfold g_ref17_Inside_j1
  repeat' first | with_reducible exact Le.rfl | with_reducible refine Le.chk ?_ | with_reducible refine Le.ite ?_ ?_ | with_reducible refine Le.both ?_ ?_ | with_reducible exact hL1 _ _ | with_reducible refine Le.bind ?_ fun _ => ?_
theorem m_g_ref17_Inside_l2_b {K K' : Kn} (hK : KLe K K') {n n' : Nat} (hn : n ≤ n') (v1 : TBoxtreeBox) {L1 L1' : Int → (List TBoxtreeBox) → Option (List TBoxtreeBox)} (hL1 : ∀ a0 a1, Le (L1 a0 a1) (L1' a0 a1)) (v8 : Int) (v9 : (List TBoxtreeBox)) : Le (g_ref17_Inside_l2_b K n v1 L1 v8 v9) (g_ref17_Inside_l2_b K' n' v1 L1' v8 v9) := by
  unfold g_ref17_Inside_l2_b
  repeat' first | with_reducible exact Le.rfl | with_reducible refine Le.chk ?_ | with_reducible refine Le.ite ?_ ?_ | with_reducible refine Le.both ?_ ?_ | with_reducible exact m_g_ref17_In hK hn _ | with_reducible exact m_g_ref17_Inside_j1 hK hn _ _ hL1 _ | with_reducible exact hL1 _ _ | with_reducible refine Le.bind ?_ fun _ => ?_
theorem m_g_ref17_Inside_l2 {K K' : Kn} (hK : KLe K K') {n n' : Nat} (hn : n ≤ n') (v1 : TBoxtreeBox) : ∀ m m', m ≤ m' → ∀ a0 a1, Le (g_ref17_Inside_l2 K n v1 m a0 a1) (g_ref17_Inside_l2 K' n' v1 m' a0 a1) := by
  intro m
  induction m with
  | zero => intro m' _ a0 a1; exact Le.none
  | succ m ih =>
    intro m' h a0 a1
    cases m' with
    | zero => exact absurd h (Nat.not_succ_le_zero _)
    | succ k => exact m_g_ref17_Inside_l2_b hK hn _ (ih k (Nat.le_of_succ_le_succ h)) _ _
theorem m_g_ref17_Inside {K K' : Kn} (hK : KLe K K') {n n' : Nat} (hn : n ≤ n') (v1 : TBoxtreeBox) : Le (g_ref17_Inside K n v1) (g_ref17_Inside K' n' v1) := by
  unfold g_ref17_Inside
  repeat' first | with_reducible exact Le.rfl | with_reducible refine Le.chk ?_ | with_reducible refine Le.ite ?_ ?_ | with_reducible refine Le.both ?_ ?_ | with_reducible exact m_g_ref17_Inside_l2 hK hn _ _ _ hn _ _ | with_reducible refine Le.bind ?_ fun _ => ?_
theorem m_g_ref17_auto {K K' : Kn} (hK : KLe K K') {n n' : Nat} (hn : n ≤ n') (v1 : TCascadeLength) : Le (g_ref17_auto K n v1) (g_ref17_auto K' n' v1) := by
  unfold g_ref17_auto
  repeat' first | with_reducible exact Le.rfl | with_reducible refine Le.chk ?_ | with_reducible refine Le.ite ?_ ?_ | with_reducible refine Le.both ?_ ?_ | with_reducible refine Le.bind ?_ fun _ => ?_
theorem m_g_ref17_plain {K K' : Kn} (hK : KLe K K') {n n' : Nat} (hn : n ≤ n') (v1 : TCascadeStyle) : Le (g_ref17_plain K n v1) (g_ref17_plain K' n' v1) := by
  unfold g_ref17_plain
  repeat' first | with_reducible exact Le.rfl | with_reducible refine Le.chk ?_ | with_reducible refine Le.ite ?_ ?_ | with_reducible refine Le.both ?_ ?_ | with_reducible exact m_g_ref17_auto hK hn _ | with_reducible refine Le.bind ?_ fun _ => ?_
theorem m_g_ref17_Width {K K' : Kn} (hK : KLe K K') {n n' : Nat} (hn : n ≤ n') (v1 : Int) : Le (g_ref17_Width K n v1) (g_ref17_Width K' n' v1) := by
  unfold g_ref17_Width
  repeat' first | with_reducible exact Le.rfl | with_reducible refine Le.chk ?_ | with_reducible refine Le.ite ?_ ?_ | with_reducible refine Le.both ?_ ?_ | with_reducible refine Le.bind ?_ fun _ => ?_
theorem m_g_ref17_limit {K K' : Kn} (hK : KLe K K') {n n' : Nat} (hn : n ≤ n') (v1 : Int) : Le (g_ref17_limit K n v1) (g_ref17_limit K' n' v1) := by
  unfold g_ref17_limit
  repeat' first | with_reducible exact Le.rfl | with_reducible refine Le.chk ?_ | with_reducible refine Le.ite ?_ ?_ | with_reducible refine Le.both ?_ ?_ | with_reducible refine Le.bind ?_ fun _ => ?_
theorem m_g_ref17_pixels {K K' : Kn} (hK : KLe K K') {n n' : Nat} (hn : n ≤ n') (v1 : TCascadeLength) : Le (g_ref17_pixels K n v1) (g_ref17_pixels K' n' v1) := by
  unfold g_ref17_pixels
  repeat' first | with_reducible exact Le.rfl | with_reducible refine Le.chk ?_ | with_reducible refine Le.ite ?_ ?_ | with_reducible refine Le.both ?_ ?_ | with_reducible exact m_g_ref17_limit hK hn _ | with_reducible refine Le.bind ?_ fun _ => ?_
theorem m_g_ref17_Sum {K K' : Kn} (hK : KLe K K') {n n' : Nat} (hn : n ≤ n') (v1 : TBlockSizes) : Le (g_ref17_Sum K n v1) (g_ref17_Sum K' n' v1) := by
  unfold g_ref17_Sum
  repeat' first | with_reducible exact Le.rfl | with_reducible refine Le.chk ?_ | with_reducible refine Le.ite ?_ ?_ | with_reducible refine Le.both ?_ ?_ | with_reducible refine Le.bind ?_ fun _ => ?_
theorem m_g_ref17_Length {K K' : Kn} (hK : KLe K K') {n n' : Nat} (hn : n ≤ n') (v1 : TCascadeLength) (v2 : Int) : Le (g_ref17_Length K n v1 v2) (g_ref17_Length K' n' v1 v2) := by
  unfold g_ref17_Length
  repeat' first | with_reducible exact Le.rfl | with_reducible refine Le.chk ?_ | with_reducible refine Le.ite ?_ ?_ | with_reducible refine Le.both ?_ ?_ | with_reducible exact m_g_ref17_limit hK hn _ | with_reducible exact m_g_ref17_Width hK hn _ | with_reducible refine Le.bind ?_ fun _ => ?_
theorem m_g_ref17_Edges {K K' : Kn} (hK : KLe K K') {n n' : Nat} (hn : n ≤ n') (v1 : TCascadeStyle) (v2 : Int) (v3 : Int) : Le (g_ref17_Edges K n v1 v2 v3) (g_ref17_Edges K' n' v1 v2 v3) := by
  unfold g_ref17_Edges
  repeat' first | with_reducible exact Le.rfl | with_reducible refine Le.chk ?_ | with_reducible refine Le.ite ?_ ?_ | with_reducible refine Le.both ?_ ?_ | with_reducible exact m_g_ref17_Length hK hn _ _ | with_reducible exact m_g_ref17_Width hK hn _ | with_reducible refine Le.bind ?_ fun _ => ?_
theorem m_g_ref17_Clamp_j2 {K K' : Kn} (hK : KLe K K') {n n' : Nat} (hn : n ≤ n') (v7 : Int) : Le (g_ref17_Clamp_j2 K n v7) (g_ref17_Clamp_j2 K' n' v7) := by
  unfold g_ref17_Clamp_j2
  repeat' first | with_reducible exact Le.rfl | with_reducible refine Le.chk ?_ | with_reducible refine Le.ite ?_ ?_ | with_reducible refine Le.both ?_ ?_ | with_reducible refine Le.bind ?_ fun _ => ?_
theorem m_g_ref17_Clamp_j1 {K K' : Kn} (hK : KLe K K') {n n' : Nat} (hn : n ≤ n') (v1 : TCascadeStyle) (v2 : Int) (v5 : Int) : Le (g_ref17_Clamp_j1 K n v1 v2 v5) (g_ref17_Clamp_j1 K' n' v1 v2 v5) := by
  unfold g_ref17_Clamp_j1
  repeat' first | with_reducible exact Le.rfl | with_reducible refine Le.chk ?_ | with_reducible refine Le.ite ?_ ?_ | with_reducible refine Le.both ?_ ?_ | with_reducible exact m_g_ref17_Length hK hn _ _ | with_reducible exact m_g_ref17_Clamp_j2 hK hn _ | with_reducible refine Le.bind ?_ fun _ => ?_
theorem m_g_ref17_Clamp {K K' : Kn} (hK : KLe K K') {n n' : Nat} (hn : n ≤ n') (v1 : TCascadeStyle) (v2 : Int) (v3 : Int) : Le (g_ref17_Clamp K n v1 v2 v3) (g_ref17_Clamp K' n' v1 v2 v3) := by
  unfold g_ref17_Clamp
  repeat' first | with_reducible exact Le.rfl | with_reducible refine Le.chk ?_ | with_reducible refine Le.ite ?_ ?_ | with_reducible refine Le.both ?_ ?_ | with_reducible exact m_g_ref17_Length hK hn _ _ | with_reducible exact m_g_ref17_Clamp_j1 hK hn _ _ _ | with_reducible refine Le.bind ?_ fun _ => ?_
theorem m_g_ref17_Framed_j1 {K K' : Kn} (hK : KLe K K') {n n' : Nat} (hn : n ≤ n') (v4 : TCascadeStyle) (v8 : Int) (v9 : Int) : Le (g_ref17_Framed_j1 K n v4 v8 v9) (g_ref17_Framed_j1 K' n' v4 v8 v9) := by
  unfold g_ref17_Framed_j1
  repeat' first | with_reducible exact Le.rfl | with_reducible refine Le.chk ?_ | with_reducible refine Le.ite ?_ ?_ | with_reducible refine Le.both ?_ ?_ | with_reducible exact m_g_ref17_Edges hK hn _ _ _ | with_reducible exact m_g_ref17_Sum hK hn _ | with_reducible exact m_g_ref17_Clamp hK hn _ _ _ | with_reducible refine Le.bind ?_ fun _ => ?_
theorem m_g_ref17_Framed {K K' : Kn} (hK : KLe K K') {n n' : Nat} (hn : n ≤ n') (v1 : TCascadeStyle) (v2 : Int) (v3 : Int) : Le (g_ref17_Framed K n v1 v2 v3) (g_ref17_Framed K' n' v1 v2 v3) := by
  unfold g_ref17_Framed
  repeat' first | with_reducible exact Le.rfl | with_reducible refine Le.chk ?_ | with_reducible refine Le.ite ?_ ?_ | with_reducible refine Le.both ?_ ?_ | with_reducible exact m_g_ref17_plain hK hn _ | with_reducible exact m_g_ref17_Width hK hn _ | with_reducible exact m_g_ref17_pixels hK hn _ | with_reducible exact m_g_ref17_Framed_j1 hK hn _ _ _ | with_reducible refine Le.bind ?_ fun _ => ?_
theorem m_g_ref17_Spread_l1_b {K K' : Kn} (hK : KLe K K') {n n' : Nat} (hn : n ≤ n') (v1 : (List TBoxtreeBox)) {L1 L1' : Int → Int → Int → Option (Int × Int)} (hL1 : ∀ a0 a1 a2, Le (L1 a0 a1 a2) (L1' a0 a1 a2)) (v3 : Int) (v4 : Int) (v5 : Int) : Le (g_ref17_Spread_l1_b K n v1 L1 v3 v4 v5) (g_ref17_Spread_l1_b K' n' v1 L1' v3 v4 v5) := by
  unfold g_ref17_Spread_l1_b
  repeat' first | with_reducible exact Le.rfl | with_reducible refine Le.chk ?_ | with_reducible refine Le.ite ?_ ?_ | with_reducible refine Le.both ?_ ?_ | with_reducible exact hL1 _ _ _ | with_reducible refine Le.bind ?_ fun _ => ?_
theorem m_g_ref17_Spread_l1 {K K' : Kn} (hK : KLe K K') {n n' : Nat} (hn : n ≤ n') (v1 : (List TBoxtreeBox)) : ∀ m m', m ≤ m' → ∀ a0 a1 a2, Le (g_ref17_Spread_l1 K n v1 m a0 a1 a2) (g_ref17_Spread_l1 K' n' v1 m' a0 a1 a2) := by
  intro m
  induction m with
  | zero => intro m' _ a0 a1 a2; exact Le.none
  | succ m ih =>
    intro m' h a0 a1 a2
    cases m' with
    | zero => exact absurd h (Nat.not_succ_le_zero _)
    | succ k => exact m_g_ref17_Spread_l1_b hK hn _ (ih k (Nat.le_of_succ_le_succ h)) _ _ _
theorem m_g_ref17_Spread {K K' : Kn} (hK : KLe K K') {n n' : Nat} (hn : n ≤ n') (v1 : (List TBoxtreeBox)) (v2 : TCascadeStyle) : Le (g_ref17_Spread K n v1 v2) (g_ref17_Spread K' n' v1 v2) := by
  unfold g_ref17_Spread
  repeat' first | with_reducible exact Le.rfl | with_reducible refine Le.chk ?_ | with_reducible refine Le.ite ?_ ?_ | with_reducible refine Le.both ?_ ?_ | with_reducible exact m_g_ref17_Spread_l1 hK hn _ _ _ hn _ _ _ | with_reducible refine Le.bind ?_ fun _ => ?_
theorem m_g_ref17_outer_l1_b {K K' : Kn} (hK : KLe K K') {n n' : Nat} (hn : n ≤ n') (v2 : (List TBoxtreeBox)) {L1 L1' : Int → Option Bool} (hL1 : ∀ a0, Le (L1 a0) (L1' a0)) (v4 : Int) : Le (g_ref17_outer_l1_b K n v2 L1 v4) (g_ref17_outer_l1_b K' n' v2 L1' v4) := by
  unfold g_ref17_outer_l1_b
  repeat' first | with_reducible exact Le.rfl | with_reducible refine Le.chk ?_ | with_reducible refine Le.ite ?_ ?_ | with_reducible refine Le.both ?_ ?_ | with_reducible exact hL1 _ | with_reducible refine Le.bind ?_ fun _ => ?_
theorem m_g_ref17_outer_l1 {K K' : Kn} (hK : KLe K K') {n n' : Nat} (hn : n ≤ n') (v2 : (List TBoxtreeBox)) : ∀ m m', m ≤ m' → ∀ a0, Le (g_ref17_outer_l1 K n v2 m a0) (g_ref17_outer_l1 K' n' v2 m' a0) := by
  intro m
  induction m with
  | zero => intro m' _ a0; exact Le.none
  | succ m ih =>
    intro m' h a0
    cases m' with
    | zero => exact absurd h (Nat.not_succ_le_zero _)
    | succ k => exact m_g_ref17_outer_l1_b hK hn _ (ih k (Nat.le_of_succ_le_succ h)) _
theorem m_g_ref17_outer {K K' : Kn} (hK : KLe K K') {n n' : Nat} (hn : n ≤ n') (v1 : TBoxtreeBox) : Le (g_ref17_outer K n v1) (g_ref17_outer K' n' v1) := by
  unfold g_ref17_outer
  repeat' first | with_reducible exact Le.rfl | with_reducible refine Le.chk ?_ | with_reducible refine Le.ite ?_ ?_ | with_reducible refine Le.both ?_ ?_ | with_reducible exact m_g_ref17_Inside hK hn _ | with_reducible exact m_g_ref17_outer_l1 hK hn _ _ _ hn _ | with_reducible refine Le.bind ?_ fun _ => ?_
theorem m_g_ref17_contents_l1_b {K K' : Kn} (hK : KLe K K') {n n' : Nat} (hn : n ≤ n') (v2 : (List TBoxtreeBox)) {L1 L1' : Int → Int → Int → Option (Int × Int)} (hL1 : ∀ a0 a1 a2, Le (L1 a0 a1 a2) (L1' a0 a1 a2)) (v8 : Int) (v9 : Int) (v10 : Int) : Le (g_ref17_contents_l1_b K n v2 L1 v8 v9 v10) (g_ref17_contents_l1_b K' n' v2 L1' v8 v9 v10) := by
  unfold g_ref17_contents_l1_b
  repeat' first | with_reducible exact Le.rfl | with_reducible refine Le.chk ?_ | with_reducible refine Le.ite ?_ ?_ | with_reducible refine Le.both ?_ ?_ | with_reducible exact m_g_ref17_Width hK hn _ | with_reducible exact hK.k_g_ref17_Widths _ | with_reducible exact hL1 _ _ _ | with_reducible refine Le.bind ?_ fun _ => ?_
theorem m_g_ref17_contents_l1 {K K' : Kn} (hK : KLe K K') {n n' : Nat} (hn : n ≤ n') (v2 : (List TBoxtreeBox)) : ∀ m m', m ≤ m' → ∀ a0 a1 a2, Le (g_ref17_contents_l1 K n v2 m a0 a1 a2) (g_ref17_contents_l1 K' n' v2 m' a0 a1 a2) := by
  intro m
  induction m with
  | zero => intro m' _ a0 a1 a2; exact Le.none
  | succ m ih =>
    intro m' h a0 a1 a2
    cases m' with
    | zero => exact absurd h (Nat.not_succ_le_zero _)
    | succ k => exact m_g_ref17_contents_l1_b hK hn _ (ih k (Nat.le_of_succ_le_succ h)) _ _ _
theorem m_g_ref17_contents {K K' : Kn} (hK : KLe K K') {n n' : Nat} (hn : n ≤ n') (v1 : TBoxtreeBox) : Le (g_ref17_contents K n v1) (g_ref17_contents K' n' v1) := by
  unfold g_ref17_contents
  repeat' first | with_reducible exact Le.rfl | with_reducible refine Le.chk ?_ | with_reducible refine Le.ite ?_ ?_ | with_reducible refine Le.both ?_ ?_ | with_reducible exact m_g_ref17_Inside hK hn _ | with_reducible exact m_g_ref17_outer hK hn _ | with_reducible exact m_g_ref17_Spread hK hn _ _ | with_reducible exact m_g_ref17_Width hK hn _ | with_reducible exact m_g_ref17_contents_l1 hK hn _ _ _ hn _ _ _ | with_reducible refine Le.bind ?_ fun _ => ?_
theorem m_g_ref17_Widths {K K' : Kn} (hK : KLe K K') {n n' : Nat} (hn : n ≤ n') (v1 : TBoxtreeBox) : Le (g_ref17_Widths K n v1) (g_ref17_Widths K' n' v1) := by
  unfold g_ref17_Widths
  repeat' first | with_reducible exact Le.rfl | with_reducible refine Le.chk ?_ | with_reducible refine Le.ite ?_ ?_ | with_reducible refine Le.both ?_ ?_ | with_reducible exact m_g_ref17_contents hK hn _ | with_reducible exact m_g_ref17_Framed hK hn _ _ _ | with_reducible refine Le.bind ?_ fun _ => ?_
theorem m_g_slices_IndexFunc_BoxtreeBox_BoxtreeBox_l1_b {K K' : Kn} (hK : KLe K K') {n n' : Nat} (hn : n ≤ n') (v1 : (List TBoxtreeBox)) (v2 : Fv) {L1 L1' : Int → Option Int} (hL1 : ∀ a0, Le (L1 a0) (L1' a0)) (v4 : Int) : Le (g_slices_IndexFunc_BoxtreeBox_BoxtreeBox_l1_b K n v1 v2 L1 v4) (g_slices_IndexFunc_BoxtreeBox_BoxtreeBox_l1_b K' n' v1 v2 L1' v4) := by
  unfold g_slices_IndexFunc_BoxtreeBox_BoxtreeBox_l1_b
  repeat' first | with_reducible exact Le.rfl | with_reducible refine Le.chk ?_ | with_reducible refine Le.ite ?_ ?_ | with_reducible refine Le.both ?_ ?_ | with_reducible exact hK.d_TBoxtreeBox__Bool _ _ | with_reducible exact hL1 _ | with_reducible refine Le.bind ?_ fun _ => ?_
theorem m_g_slices_IndexFunc_BoxtreeBox_BoxtreeBox_l1 {K K' : Kn} (hK : KLe K K') {n n' : Nat} (hn : n ≤ n') (v1 : (List TBoxtreeBox)) (v2 : Fv) : ∀ m m', m ≤ m' → ∀ a0, Le (g_slices_IndexFunc_BoxtreeBox_BoxtreeBox_l1 K n v1 v2 m a0) (g_slices_IndexFunc_BoxtreeBox_BoxtreeBox_l1 K' n' v1 v2 m' a0) := by
  intro m
  induction m with
  | zero => intro m' _ a0; exact Le.none
  | succ m ih =>
    intro m' h a0
    cases m' with
    | zero => exact absurd h (Nat.not_succ_le_zero _)
    | succ k => exact m_g_slices_IndexFunc_BoxtreeBox_BoxtreeBox_l1_b hK hn _ _ (ih k (Nat.le_of_succ_le_succ h)) _
theorem m_g_slices_IndexFunc_BoxtreeBox_BoxtreeBox {K K' : Kn} (hK : KLe K K') {n n' : Nat} (hn : n ≤ n') (v1 : (List TBoxtreeBox)) (v2 : Fv) : Le (g_slices_IndexFunc_BoxtreeBox_BoxtreeBox K n v1 v2) (g_slices_IndexFunc_BoxtreeBox_BoxtreeBox K' n' v1 v2) := by
  unfold g_slices_IndexFunc_BoxtreeBox_BoxtreeBox
  repeat' first | with_reducible exact Le.rfl | with_reducible refine Le.chk ?_ | with_reducible refine Le.ite ?_ ?_ | with_reducible refine Le.both ?_ ?_ | with_reducible exact m_g_slices_IndexFunc_BoxtreeBox_BoxtreeBox_l1 hK hn _ _ _ _ hn _ | with_reducible refine Le.bind ?_ fun _ => ?_
theorem m_g_slices_ContainsFunc_BoxtreeBox_BoxtreeBox {K K' : Kn} (hK : KLe K K') {n n' : Nat} (hn : n ≤ n') (v1 : (List TBoxtreeBox)) (v2 : Fv) : Le (g_slices_ContainsFunc_BoxtreeBox_BoxtreeBox K n v1 v2) (g_slices_ContainsFunc_BoxtreeBox_BoxtreeBox K' n' v1 v2) := by
  unfold g_slices_ContainsFunc_BoxtreeBox_BoxtreeBox
  repeat' first | with_reducible exact Le.rfl | with_reducible refine Le.chk ?_ | with_reducible refine Le.ite ?_ ?_ | with_reducible refine Le.both ?_ ?_ | with_reducible exact m_g_slices_IndexFunc_BoxtreeBox_BoxtreeBox hK hn _ _ | with_reducible refine Le.bind ?_ fun _ => ?_
theorem m_g_block_flow_j1 {K K' : Kn} (hK : KLe K K') {n n' : Nat} (hn : n ≤ n') (v1 : TBoxtreeBox) (v8 : Int) {L1 L1' : Int → (List TBoxtreeBox) → Option ((List TBoxtreeBox) × Bool)} (hL1 : ∀ a0 a1, Le (L1 a0 a1) (L1' a0 a1)) (v11 : (List TBoxtreeBox)) : Le (g_block_flow_j1 K n v1 v8 L1 v11) (g_block_flow_j1 K' n' v1 v8 L1' v11) := by
  unfold g_block_flow_j1
  repeat' first | with_reducible exact Le.rfl | with_reducible refine Le.chk ?_ | with_reducible refine Le.ite ?_ ?_ | with_reducible refine Le.both ?_ ?_ | with_reducible exact hL1 _ _ | with_reducible refine Le.bind ?_ fun _ => ?_
theorem m_g_block_flow_l2_b {K K' : Kn} (hK : KLe K K') {n n' : Nat} (hn : n ≤ n') (v1 : TBoxtreeBox) {L1 L1' : Int → (List TBoxtreeBox) → Option ((List TBoxtreeBox) × Bool)} (hL1 : ∀ a0 a1, Le (L1 a0 a1) (L1' a0 a1)) (v8 : Int) (v9 : (List TBoxtreeBox)) : Le (g_block_flow_l2_b K n v1 L1 v8 v9) (g_block_flow_l2_b K' n' v1 L1' v8 v9) := by
  unfold g_block_flow_l2_b
  repeat' first | with_reducible exact Le.rfl | with_reducible refine Le.chk ?_ | with_reducible refine Le.ite ?_ ?_ | with_reducible refine Le.both ?_ ?_ | with_reducible exact m_g_block_Flow hK hn _ | with_reducible exact m_g_block_flow_j1 hK hn _ _ hL1 _ | with_reducible exact m_g_slices_ContainsFunc_BoxtreeBox_BoxtreeBox hK hn _ _ | with_reducible exact hL1 _ _ | with_reducible refine Le.bind ?_ fun _ => ?_
theorem m_g_block_flow_l2 {K K' : Kn} (hK : KLe K K') {n n' : Nat} (hn : n ≤ n') (v1 : TBoxtreeBox) : ∀ m m', m ≤ m' → ∀ a0 a1, Le (g_block_flow_l2 K n v1 m a0 a1) (g_block_flow_l2 K' n' v1 m' a0 a1) := by
  intro m
  induction m with
  | zero => intro m' _ a0 a1; exact Le.none
  | succ m ih =>
    intro m' h a0 a1
    cases m' with
    | zero => exact absurd h (Nat.not_succ_le_zero _)
    | succ k => exact m_g_block_flow_l2_b hK hn _ (ih k (Nat.le_of_succ_le_succ h)) _ _
theorem m_g_block_flow {K K' : Kn} (hK : KLe K K') {n n' : Nat} (hn : n ≤ n') (v1 : TBoxtreeBox) : Le (g_block_flow K n v1) (g_block_flow K' n' v1) := by
  unfold g_block_flow
  repeat' first | with_reducible exact Le.rfl | with_reducible refine Le.chk ?_ | with_reducible refine Le.ite ?_ ?_ | with_reducible refine Le.both ?_ ?_ | with_reducible exact m_g_block_flow_l2 hK hn _ _ _ hn _ _ | with_reducible refine Le.bind ?_ fun _ => ?_
theorem m_g_boxtree_Outer_j1 {K K' : Kn} (hK : KLe K K') {n n' : Nat} (hn : n ≤ n') (v2 : Bool) : Le (g_boxtree_Outer_j1 K n v2) (g_boxtree_Outer_j1 K' n' v2) := by
  unfold g_boxtree_Outer_j1
  repeat' first | with_reducible exact Le.rfl | with_reducible refine Le.chk ?_ | with_reducible refine Le.ite ?_ ?_ | with_reducible refine Le.both ?_ ?_ | with_reducible refine Le.bind ?_ fun _ => ?_
theorem m_g_boxtree_Outer {K K' : Kn} (hK : KLe K K') {n n' : Nat} (hn : n ≤ n') (v1 : TBoxtreeBox) : Le (g_boxtree_Outer K n v1) (g_boxtree_Outer K' n' v1) := by
  unfold g_boxtree_Outer
  repeat' first | with_reducible exact Le.rfl | with_reducible refine Le.chk ?_ | with_reducible refine Le.ite ?_ ?_ | with_reducible refine Le.both ?_ ?_ | with_reducible exact m_g_boxtree_Outer_j1 hK hn _ | with_reducible refine Le.bind ?_ fun _ => ?_
theorem m_g_block_fixed_j11 {K K' : Kn} (hK : KLe K K') {n n' : Nat} (hn : n ≤ n') (v13 : TCascadeStyle) : Le (g_block_fixed_j11 K n v13) (g_block_fixed_j11 K' n' v13) := by
  unfold g_block_fixed_j11
  repeat' first | with_reducible exact Le.rfl | with_reducible refine Le.chk ?_ | with_reducible refine Le.ite ?_ ?_ | with_reducible refine Le.both ?_ ?_ | with_reducible refine Le.bind ?_ fun _ => ?_
theorem m_g_block_fixed_j10 {K K' : Kn} (hK : KLe K K') {n n' : Nat} (hn : n ≤ n') (v12 : TCascadeStyle) : Le (g_block_fixed_j10 K n v12) (g_block_fixed_j10 K' n' v12) := by
  unfold g_block_fixed_j10
  repeat' first | with_reducible exact Le.rfl | with_reducible refine Le.chk ?_ | with_reducible refine Le.ite ?_ ?_ | with_reducible refine Le.both ?_ ?_ | with_reducible exact m_g_block_fixed_j11 hK hn _ | with_reducible refine Le.bind ?_ fun _ => ?_
theorem m_g_block_fixed_j9 {K K' : Kn} (hK : KLe K K') {n n' : Nat} (hn : n ≤ n') (v11 : TCascadeStyle) : Le (g_block_fixed_j9 K n v11) (g_block_fixed_j9 K' n' v11) := by
  unfold g_block_fixed_j9
  repeat' first | with_reducible exact Le.rfl | with_reducible refine Le.chk ?_ | with_reducible refine Le.ite ?_ ?_ | with_reducible refine Le.both ?_ ?_ | with_reducible exact m_g_block_fixed_j10 hK hn _ | with_reducible refine Le.bind ?_ fun _ => ?_
theorem m_g_block_fixed_j8 {K K' : Kn} (hK : KLe K K') {n n' : Nat} (hn : n ≤ n') (v10 : TCascadeStyle) : Le (g_block_fixed_j8 K n v10) (g_block_fixed_j8 K' n' v10) := by
  unfold g_block_fixed_j8
  repeat' first | with_reducible exact Le.rfl | with_reducible refine Le.chk ?_ | with_reducible refine Le.ite ?_ ?_ | with_reducible refine Le.both ?_ ?_ | with_reducible exact m_g_block_fixed_j9 hK hn _ | with_reducible refine Le.bind ?_ fun _ => ?_
theorem m_g_block_fixed_j7 {K K' : Kn} (hK : KLe K K') {n n' : Nat} (hn : n ≤ n') (v9 : TCascadeStyle) : Le (g_block_fixed_j7 K n v9) (g_block_fixed_j7 K' n' v9) := by
  unfold g_block_fixed_j7
  repeat' first | with_reducible exact Le.rfl | with_reducible refine Le.chk ?_ | with_reducible refine Le.ite ?_ ?_ | with_reducible refine Le.both ?_ ?_ | with_reducible exact m_g_block_fixed_j8 hK hn _ | with_reducible refine Le.bind ?_ fun _ => ?_
theorem m_g_block_fixed_j6 {K K' : Kn} (hK : KLe K K') {n n' : Nat} (hn : n ≤ n') (v8 : TCascadeStyle) : Le (g_block_fixed_j6 K n v8) (g_block_fixed_j6 K' n' v8) := by
  unfold g_block_fixed_j6
  repeat' first | with_reducible exact Le.rfl | with_reducible refine Le.chk ?_ | with_reducible refine Le.ite ?_ ?_ | with_reducible refine Le.both ?_ ?_ | with_reducible exact m_g_block_fixed_j7 hK hn _ | with_reducible refine Le.bind ?_ fun _ => ?_
theorem m_g_block_fixed_j5 {K K' : Kn} (hK : KLe K K') {n n' : Nat} (hn : n ≤ n') (v7 : TCascadeStyle) : Le (g_block_fixed_j5 K n v7) (g_block_fixed_j5 K' n' v7) := by
  unfold g_block_fixed_j5
  repeat' first | with_reducible exact Le.rfl | with_reducible refine Le.chk ?_ | with_reducible refine Le.ite ?_ ?_ | with_reducible refine Le.both ?_ ?_ | with_reducible exact m_g_block_fixed_j6 hK hn _ | with_reducible refine Le.bind ?_ fun _ => ?_
theorem m_g_block_fixed_j4 {K K' : Kn} (hK : KLe K K') {n n' : Nat} (hn : n ≤ n') (v6 : TCascadeStyle) : Le (g_block_fixed_j4 K n v6) (g_block_fixed_j4 K' n' v6) := by
  unfold g_block_fixed_j4
  repeat' first | with_reducible exact Le.rfl | with_reducible refine Le.chk ?_ | with_reducible refine Le.ite ?_ ?_ | with_reducible refine Le.both ?_ ?_ | with_reducible exact m_g_block_fixed_j5 hK hn _ | with_reducible refine Le.bind ?_ fun _ => ?_
theorem m_g_block_fixed_j3 {K K' : Kn} (hK : KLe K K') {n n' : Nat} (hn : n ≤ n') (v5 : TCascadeStyle) : Le (g_block_fixed_j3 K n v5) (g_block_fixed_j3 K' n' v5) := by
  unfold g_block_fixed_j3
  repeat' first | with_reducible exact Le.rfl | with_reducible refine Le.chk ?_ | with_reducible refine Le.ite ?_ ?_ | with_reducible refine Le.both ?_ ?_ | with_reducible exact m_g_block_fixed_j4 hK hn _ | with_reducible refine Le.bind ?_ fun _ => ?_
theorem m_g_block_fixed_j2 {K K' : Kn} (hK : KLe K K') {n n' : Nat} (hn : n ≤ n') (v4 : TCascadeStyle) : Le (g_block_fixed_j2 K n v4) (g_block_fixed_j2 K' n' v4) := by
  unfold g_block_fixed_j2
  repeat' first | with_reducible exact Le.rfl | with_reducible refine Le.chk ?_ | with_reducible refine Le.ite ?_ ?_ | with_reducible refine Le.both ?_ ?_ | with_reducible exact m_g_block_fixed_j3 hK hn _ | with_reducible refine Le.bind ?_ fun _ => ?_
theorem m_g_block_fixed_j1 {K K' : Kn} (hK : KLe K K') {n n' : Nat} (hn : n ≤ n') (v3 : TCascadeStyle) : Le (g_block_fixed_j1 K n v3) (g_block_fixed_j1 K' n' v3) := by
  unfold g_block_fixed_j1
  repeat' first | with_reducible exact Le.rfl | with_reducible refine Le.chk ?_ | with_reducible refine Le.ite ?_ ?_ | with_reducible refine Le.both ?_ ?_ | with_reducible exact m_g_block_fixed_j2 hK hn _ | with_reducible refine Le.bind ?_ fun _ => ?_
theorem m_g_block_fixed {K K' : Kn} (hK : KLe K K') {n n' : Nat} (hn : n ≤ n') (v1 : TCascadeStyle) : Le (g_block_fixed K n v1) (g_block_fixed K' n' v1) := by
  unfold g_block_fixed
  repeat' first | with_reducible exact Le.rfl | with_reducible refine Le.chk ?_ | with_reducible refine Le.ite ?_ ?_ | with_reducible refine Le.both ?_ ?_ | with_reducible exact m_g_block_fixed_j1 hK hn _ | with_reducible refine Le.bind ?_ fun _ => ?_
theorem m_g_block_inside_l1_b {K K' : Kn} (hK : KLe K K') {n n' : Nat} (hn : n ≤ n') (v2 : TBlockEnv) (v6 : ((List TBoxtreeBox) × Bool)) {L1 L1' : Int → Int → Int → Option (Int × Int)} (hL1 : ∀ a0 a1 a2, Le (L1 a0 a1 a2) (L1' a0 a1 a2)) (v11 : Int) (v12 : Int) (v13 : Int) : Le (g_block_inside_l1_b K n v2 v6 L1 v11 v12 v13) (g_block_inside_l1_b K' n' v2 v6 L1' v11 v12 v13) := by
  unfold g_block_inside_l1_b
  repeat' first | with_reducible exact Le.rfl | with_reducible refine Le.chk ?_ | with_reducible refine Le.ite ?_ ?_ | with_reducible refine Le.both ?_ ?_ | with_reducible exact m_g_block_limit hK hn _ | with_reducible exact hK.d_TBoxtreeBox__IntInt _ _ | with_reducible exact hL1 _ _ _ | with_reducible refine Le.bind ?_ fun _ => ?_
theorem m_g_block_inside_l1 {K K' : Kn} (hK : KLe K K') {n n' : Nat} (hn : n ≤ n') (v2 : TBlockEnv) (v6 : ((List TBoxtreeBox) × Bool)) : ∀ m m', m ≤ m' → ∀ a0 a1 a2, Le (g_block_inside_l1 K n v2 v6 m a0 a1 a2) (g_block_inside_l1 K' n' v2 v6 m' a0 a1 a2) := by
  intro m
  induction m with
  | zero => intro m' _ a0 a1 a2; exact Le.none
  | succ m ih =>
    intro m' h a0 a1 a2
    cases m' with
    | zero => exact absurd h (Nat.not_succ_le_zero _)
    | succ k => exact m_g_block_inside_l1_b hK hn _ _ (ih k (Nat.le_of_succ_le_succ h)) _ _ _
theorem m_g_block_inside {K K' : Kn} (hK : KLe K K') {n n' : Nat} (hn : n ≤ n') (v1 : TBoxtreeBox) (v2 : TBlockEnv) : Le (g_block_inside K n v1 v2) (g_block_inside K' n' v1 v2) := by
  unfold g_block_inside
  repeat' first | with_reducible exact Le.rfl | with_reducible refine Le.chk ?_ | with_reducible refine Le.ite ?_ ?_ | with_reducible refine Le.both ?_ ?_ | with_reducible exact m_g_block_fixed hK hn _ | with_reducible exact m_g_block_Length hK hn _ _ | with_reducible exact m_g_block_limit hK hn _ | with_reducible exact m_g_block_flow hK hn _ | with_reducible exact m_g_block_inside_l1 hK hn _ _ _ _ hn _ _ _ | with_reducible exact hK.d_ListTBoxtreeBox_TCascadeStyle__IntInt _ _ _ | with_reducible refine Le.bind ?_ fun _ => ?_
theorem m_g_block_Widths {K K' : Kn} (hK : KLe K K') {n n' : Nat} (hn : n ≤ n') (v1 : TBoxtreeBox) (v2 : TBlockEnv) : Le (g_block_Widths K n v1 v2) (g_block_Widths K' n' v1 v2) := by
  unfold g_block_Widths
  repeat' first | with_reducible exact Le.rfl | with_reducible refine Le.chk ?_ | with_reducible refine Le.ite ?_ ?_ | with_reducible refine Le.both ?_ ?_ | with_reducible exact m_g_block_inside hK hn _ _ | with_reducible exact m_g_block_fixed hK hn _ | with_reducible exact m_g_block_Clamp hK hn _ _ _ | with_reducible exact m_g_block_Edges hK hn _ _ _ | with_reducible exact m_g_api_BlockSizes_Sum hK hn _ | with_reducible refine Le.bind ?_ fun _ => ?_
theorem m_g_law17_spread {K K' : Kn} (hK : KLe K K') {n n' : Nat} (hn : n ≤ n') (v1 : TBoxtreeBox) : Le (g_law17_spread K n v1) (g_law17_spread K' n' v1) := by
  unfold g_law17_spread
  repeat' first | with_reducible exact Le.rfl | with_reducible refine Le.chk ?_ | with_reducible refine Le.ite ?_ ?_ | with_reducible refine Le.both ?_ ?_ | with_reducible exact m_g_law17_Env hK hn | with_reducible exact m_g_block_Widths hK hn _ _ | with_reducible refine Le.bind ?_ fun _ => ?_
theorem KN_mono : ∀ n m, n ≤ m → KLe (KN n) (KN m)
  | 0, m, _ => by refine ⟨fun _ _ => Le.none, fun _ => Le.none, fun _ _ _ _ _ => Le.none, fun _ _ _ => Le.none, fun _ _ _ _ => Le.none, fun _ _ _ => Le.none, fun _ _ _ => Le.none, fun _ _ => Le.none, fun _ _ => Le.none⟩
  | n + 1, 0, h => absurd h (Nat.not_succ_le_zero _)
  | n + 1, m + 1, h => by
    have hK := KN_mono n m (Nat.le_of_succ_le_succ h)
    have hn := Nat.le_of_succ_le_succ h
    refine ⟨?_, ?_, ?_, ?_, ?_, ?_, ?_, ?_, ?_⟩
    · exact fun _ _ => m_g_ref17_Tree hK hn _ _
    · exact fun _ => m_g_ref17_Widths hK hn _
    · exact fun _ _ _ _ _ => m_g_slices_symMergeCmpFunc_int hK hn _ _ _ _ _
    · intro f a0 a1
      cases f with
      | fn i => exact Le.rfl
      | c36 x0 => exact m_g_flex_Share_1 hK hn _ _ _
      | c45 x0 => exact m_g_flex_Order_1 hK hn _ _ _
      | c50 x0 => exact Le.rfl
    · intro f a0 a1 a2
      cases f with
      | fn i => exact Le.rfl
      | c36 x0 => exact Le.rfl
      | c45 x0 => exact Le.rfl
      | c50 x0 => exact Le.rfl
    · intro f a0 a1
      cases f with
      | fn i =>
        show Le (if Nat.beq i 57 = true then g_ref17_Spread (KN n) n a0 a1 else none) (if Nat.beq i 57 = true then g_ref17_Spread (KN m) m a0 a1 else none)
        repeat' first | with_reducible exact Le.rfl | with_reducible refine Le.ite ?_ ?_ | exact m_g_ref17_Spread hK hn _ _
      | c36 x0 => exact Le.rfl
      | c45 x0 => exact Le.rfl
      | c50 x0 => exact Le.rfl
    · intro f a0 a1
      cases f with
      | fn i => exact Le.rfl
      | c36 x0 => exact Le.rfl
      | c45 x0 => exact Le.rfl
      | c50 x0 => exact Le.rfl
    · intro f a0
      cases f with
      | fn i =>
        show Le (if Nat.beq i 111 = true then g_boxtree_Outer (KN n) n a0 else none) (if Nat.beq i 111 = true then g_boxtree_Outer (KN m) m a0 else none)
        repeat' first | with_reducible exact Le.rfl | with_reducible refine Le.ite ?_ ?_ | exact m_g_boxtree_Outer hK hn _
      | c36 x0 => exact Le.rfl
      | c45 x0 => exact Le.rfl
      | c50 x0 => exact Le.rfl
    · intro f a0
      cases f with
      | fn i =>
        show Le (if Nat.beq i 55 = true then g_law17_spread (KN n) n a0 else none) (if Nat.beq i 55 = true then g_law17_spread (KN m) m a0 else none)
        repeat' first | with_reducible exact Le.rfl | with_reducible refine Le.ite ?_ ?_ | exact m_g_law17_spread hK hn _
      | c36 x0 => exact Le.rfl
      | c45 x0 => exact Le.rfl
      | c50 x0 => exact Le.rfl
end Go.Proofs.Ytlpndemhnpajiaa

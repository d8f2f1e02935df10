/- The law BlockWidths of layer 17, plain. No program in sight. -/
import Derived.Test.YtkciiamllegclaaSdQWidA
import Derived.Test.YtkciiamllegclaaSdGop
namespace Go.Proofs.Ytkciiamllegclaa.QBlockWidths
set_option linter.all false
open Go.RowKit
def E1 : TBlockEnv := ⟨58, 59, 60, 61⟩
theorem lim_lim (x : Int) : limM (limM x) = limM x := by unfold limM; omega
theorem lim_bd (x : Int) : 0 ≤ limM x ∧ limM x ≤ 1048576 := by unfold limM; omega
theorem len2 (l : TCascadeLength) (w : Int) : (lenM l w).2 = (l.Kind == 1 || l.Kind == 2) := by
  unfold lenM
  by_cases h1 : l.Kind = 1
  · simp [h1]
  · by_cases h2 : l.Kind = 2 <;> simp [h1, h2]
theorem auto2 (l : TCascadeLength) : (autoM l).Kind ≠ 2 := by
  unfold autoM
  by_cases h : l.Kind = 2
  · rw [if_pos h]; exact fun h => by cases h
  · rw [if_neg h]; exact h
structure Cn (N : Nat) (b : TBoxtreeBox) (x y : Int) : Prop where
  le : x ≤ y
  lx : limM x = x
  ly : limM y = y
  c : g_ref17_contents (KN N) N b = some (x, y)
  i : g_block_inside (KN N) N b E1 = some (if (lenM (plainM b.Style).Width 0).2 = true then (limM (lenM (plainM b.Style).Width 0).1, limM (lenM (plainM b.Style).Width 0).1) else (x, y))
theorem core (d N : Nat) (b : TBoxtreeBox) (hg : GoodB (d + 1) b) (ht : TB (d + 1) b) (hN : 20 < N)
    (ih : ∀ k ∈ b.Kids, k.Kind = 1 → ∃ p, (KN (N + 1)).d_TBoxtreeBox__IntInt 59 k = some p ∧ (KN (N + 1)).k_g_ref17_Widths k = some p ∧ p.1 ≤ p.2) : ∃ x y, Cn (N + 1) b x y := by
  have hO : ∀ x, (KN (N + 1)).d_TBoxtreeBox__Bool 72 x = some (outerM x) := fun x => outer_def (KN N) N x
  have hlen : b.Kids.length ≤ 20 := hg.1
  have hfl : (flowM b).length ≤ 20 := Nat.le_trans flowM_len hlen
  have hsub : ∀ k ∈ flowM b, k ∈ b.Kids := fun k hk => (List.mem_filter.1 hk).1
  have hany : ((flowM b).any fun k => k.Kind == 1) = (flowM b).any outerM := by
    apply Bool.eq_iff_iff.2
    simp only [List.any_eq_true]
    constructor
    · rintro ⟨k, hk, e⟩; exact ⟨k, hk, by simp [outerM, e]⟩
    · rintro ⟨k, hk, e⟩
      refine ⟨k, hk, ?_⟩
      rcases hg.2 with h | h
      · simp [(h k (hsub k hk)).1]
      · have := h k (hsub k hk); simp [outerM, this] at e
  have fin : ∀ x y : Int, x ≤ y → g_ref17_contents (KN (N + 1)) (N + 1) b = some (limM x, limM y) → (¬ (lenM (plainM b.Style).Width 0).2 = true → g_block_inside (KN (N + 1)) (N + 1) b E1 = some (limM x, limM y)) → ∃ x y, Cn (N + 1) b x y := by
    intro x y hxy h1 h2
    refine ⟨limM x, limM y, by unfold limM; omega, lim_lim x, lim_lim y, h1, ?_⟩
    split
    · rename_i hw
      unfold g_block_inside
      rw [fixed_def]
      simp only [Option.bind_some, len_def, hw, if_true, limit_def]
    · rename_i hw; exact h2 hw
  have ins : ¬ (lenM (plainM b.Style).Width 0).2 = true → g_block_inside (KN (N + 1)) (N + 1) b E1 = (if (!((flowM b).any outerM)) = true then (g_ref17_Spread (KN N) N (flowM b) b.Style).bind fun v7 => some (limM v7.1, limM v7.2) else g_block_inside_l1 (KN (N + 1)) (N + 1) E1 (flowM b, (flowM b).any outerM) (N + 1) 0 0 0) := fun hw => by
    unfold g_block_inside
    rw [fixed_def]
    simp only [Option.bind_some, len_def, hw, Bool.false_eq_true, if_false]
    rw [bflow_def _ _ hO b hlen (by omega)]
    simp only [Option.bind_some, limit_def]
    rfl
  have con : g_ref17_contents (KN (N + 1)) (N + 1) b = (if (!((flowM b).any outerM)) = true then (g_ref17_Spread (KN (N + 1)) (N + 1) (flowM b) b.Style).bind fun v7 => some (limM v7.1, limM v7.2) else g_ref17_contents_l1 (KN (N + 1)) (N + 1) (flowM b) (N + 1) 0 0 0) := by
    unfold g_ref17_contents
    rw [router_def _ _ b hlen (by omega), inside_def _ _ b hlen (by omega), hany]
    simp only [Option.bind_some, rwidth_def]
  cases hb : (flowM b).any outerM with
  | true =>
    rw [hb] at ins con
    simp only [Bool.not_true, Bool.false_eq_true, if_false] at ins con
    have hall : ∀ k ∈ b.Kids, k.Kind = 1 := by
      rcases hg.2 with h | h
      · exact fun k hk => (h k hk).1
      · obtain ⟨k, hk, e⟩ := List.any_eq_true.1 hb
        have := h k (hsub k hk); simp [outerM, this] at e
    have hW : ∀ k, ∃ p : Int × Int, k ∈ flowM b → (KN (N + 1)).d_TBoxtreeBox__IntInt 59 k = some p ∧ (KN (N + 1)).k_g_ref17_Widths k = some p ∧ p.1 ≤ p.2 := fun k => by
      by_cases hm : k ∈ flowM b
      · obtain ⟨p, hp⟩ := ih k (hsub k hm) (hall k (hsub k hm))
        exact ⟨p, fun _ => hp⟩
      · exact ⟨(0, 0), fun h => absurd h hm⟩
    obtain ⟨W, hW⟩ := Classical.skolem.1 hW
    have e1 := inside_wloop (KN (N + 1)) (N + 1) E1 (flowM b, true) W hfl (fun k hk => (hW k hk).1) (N + 1) 0 0 0 (by omega) (by simp only []; omega)
    have e2 := contents_loop (KN (N + 1)) (N + 1) (flowM b) W hfl (fun k hk => (hW k hk).2.1) (N + 1) 0 0 0 (by omega) (by omega)
    simp only [List.drop_zero] at e1 e2
    exact fin _ _ (wiM_le W (flowM b) 0 0 (fun k hk => (hW k hk).2.2) (Int.le_refl _)) (con.trans e2) (fun hw => (ins hw).trans e1)
  | false =>
    rw [hb] at ins con
    simp only [Bool.not_false, if_true] at ins con
    have htx : ∀ k ∈ flowM b, (k.Text.size : Int) ≤ 60 := fun k hk => by
      rcases hg.2 with h | h
      · have := List.any_eq_false.1 hb k hk
        simp [outerM, (h k (hsub k hk)).1] at this
      · exact (ht k (hsub k hk)).2 (h k (hsub k hk))
    rw [spread_def _ _ _ _ hfl (by omega)] at con
    rw [spread_def _ _ _ _ hfl hN] at ins
    exact fin _ _ (spM_le (flowM b) 0 0 htx (by omega) (by omega) (by omega)) con ins
theorem frame_def (N : Nat) (b : TBoxtreeBox) (x y : Int) (h : Cn N b x y) : ∃ p, g_block_Widths (KN N) N b E1 = some p ∧ g_ref17_Widths (KN N) N b = some p ∧ p.1 ≤ p.2 := by
  obtain ⟨h1, h2, h3, h4, h5⟩ := h
  have ex := lim_bd x
  have ey := lim_bd y
  rw [h2] at ex; rw [h3] at ey
  unfold g_block_Widths g_ref17_Widths g_ref17_Framed
  rw [h4, h5]
  have hF : ∀ c, frM b.Style c = w64 (clampM (plainM b.Style) 0 c + sumM (edgesM (plainM b.Style) 0 0)) := fun c => sum_split (plainM b.Style) _
  simp only [Option.bind_some, fixed_def, plain_def, clamp_def, edges_def, sum_def, rwidth_def, pix_def, h2, h3]
  have hk : (plainM b.Style).Width.Kind ≠ 2 := auto2 _
  by_cases hw : (plainM b.Style).Width.Kind = 1
  · have e1 : (lenM (plainM b.Style).Width 0).2 = true := by rw [len2]; simp [hw]
    have e2 : (pixM (plainM b.Style).Width).2 = true := by unfold pixM; simp [hw]
    have e3 : (pixM (plainM b.Style).Width).1 = limM (lenM (plainM b.Style).Width 0).1 := by unfold pixM lenM limM; simp only [hw, if_true]; omega
    simp only [e1, e2, if_true, g_ref17_Framed_j1, redges_def, rsum_def, rclamp_def, Option.bind_some, e3]
    refine ⟨_, rfl, ?_, Int.le_refl _⟩
    rw [← hF]; rfl
  · have e1 : (lenM (plainM b.Style).Width 0).2 = false := by rw [len2]; simp [hw, hk]
    have e2 : (pixM (plainM b.Style).Width).2 = false := by unfold pixM; simp [hw]
    simp only [e1, e2, Bool.false_eq_true, if_false, g_ref17_Framed_j1, redges_def, rsum_def, rclamp_def, Option.bind_some]
    refine ⟨_, rfl, ?_, frM_le b.Style h1 ey.2⟩
    rw [← hF, ← hF]; rfl
theorem widths_eq : ∀ (d N : Nat) (b : TBoxtreeBox), GoodB d b → TB d b → d + 25 ≤ N → ∃ x y, Cn N b x y
  | 0, _, _, h, _, _ => h.elim
  | d + 1, 0, _, _, _, h => by omega
  | d + 1, N + 1, b, hg, ht, hN => by
    refine core d N b hg ht (by omega) fun k hk hk1 => ?_
    have hgk : GoodB d k := by
      rcases hg.2 with h | h
      · exact (h k hk).2
      · have := h k hk; omega
    obtain ⟨x, y, hc⟩ := widths_eq d N k hgk ((ht k hk).1 hk1) (by omega)
    obtain ⟨p, p1, p2, p3⟩ := frame_def N k x y hc
    refine ⟨p, ?_, p2, p3⟩
    show g_law17_spread (KN N) N k = some p
    unfold g_law17_spread g_law17_Env
    simp only [Option.bind_some]
    rw [show (⟨58, 59, 60, 61⟩ : TBlockEnv) = E1 from rfl, p1]
    rfl
theorem shrink_eq (N : Nat) (b : TBoxtreeBox) (w x y : Int) (h : Cn N b x y) : ∃ v, g_block_Shrink (KN N) N b w E1 = some v ∧ g_ref17_Shrink (KN N) N b w = some v := by
  unfold g_block_Shrink g_ref17_Shrink
  simp only [len_def, rlen_def, rwidth_def, Option.bind_some, lenM_lim]
  cases hw : (lenM b.Style.Width w).2 with
  | true =>
    simp only [Bool.not_true, Bool.false_eq_true, if_false, g_block_Shrink_j1, g_ref17_Shrink_j1, clamp_def, rclamp_def, clampM_lim, Option.bind_some]
    exact ⟨_, rfl, rfl⟩
  | false =>
    have hk : (lenM (plainM b.Style).Width 0).2 = false := by
      rw [len2] at hw ⊢
      simp only [Bool.or_eq_false_iff, beq_eq_false_iff_ne] at hw ⊢
      have : (plainM b.Style).Width = b.Style.Width := by show autoM _ = _; unfold autoM; rw [if_neg hw.2]
      rw [this]; exact hw
    have hi := h.i
    rw [hk] at hi
    simp only [Bool.false_eq_true, if_false] at hi
    simp only [Bool.not_false, if_true, hi, h.c, Option.bind_some, limit_def, edges_def, redges_def, sum_def, rsum_def, edgesM_lim, g_block_Shrink_j1, g_ref17_Shrink_j1, clamp_def, rclamp_def, clampM_lim]
    exact ⟨_, rfl, rfl⟩
theorem blockWidths (L : List TKnapsackref17Spec) (w : Int) (hL : (L.length : Int) ≤ 9223372036854775807) : ∃ n, g_law17_BlockWidths (KN n) n L w = some true := by
  refine ⟨(L.length + 95) + 5, ?_⟩
  generalize hn : (L.length + 95) = N at *
  obtain ⟨v, hv, hv2⟩ := few_tot (KN (N + 5)) (N + 5) L 20 hL (by omega)
  unfold g_law17_BlockWidths
  simp only [fit_true, Option.bind_some, Bool.not_true, Bool.false_eq_true, if_false, hv]
  have jt : g_law17_BlockWidths_j1 (KN (N + 5)) (N + 5) L w true = some true := rfl
  cases v with
  | false => simp [jt]
  | true =>
    obtain ⟨h20, hfew⟩ := hv2 rfl
    simp only [Bool.not_true, Bool.false_eq_true, if_false]
    cases h0 : ((L.length : Int) == 0) with
    | true => exact jt
    | false =>
      have h0' : L.length ≠ 0 := by simpa using h0
      obtain ⟨b, i', e1, e2, e3, e4, e5, e6⟩ := treeT 20 (N + 5) L 0 (by omega) (by omega) (by omega) (by omega) (fun x hx => (hfew x hx).text)
      obtain ⟨x, y, hc⟩ := widths_eq 20 (N + 5) b e4 e6 (by omega)
      obtain ⟨p, p1, p2, p3⟩ := frame_def (N + 5) b x y hc
      obtain ⟨s, s1, s2⟩ := shrink_eq (N + 5) b w x y hc
      unfold g_law17_BlockWidths_j1
      simp only [Bool.false_eq_true, if_false]
      rw [show g_ref17_Tree (KN (N + 5)) (N + 5) L 0 = _ from e1]
      simp only [Option.bind_some, g_law17_Env]
      rw [show g_block_Widths (KN (N + 5)) (N + 5) b ⟨58, 59, 60, 61⟩ = _ from p1, p2, show g_block_Shrink (KN (N + 5)) (N + 5) b w ⟨58, 59, 60, 61⟩ = _ from s1, s2]
      simp [p3, g_law17_BlockWidths_j2]
theorem holds (x0 : (List TKnapsackref17Spec)) (x1 : Int) (h0 : HasT Try.prog 39 ((eSl eTKnapsackref17Spec) x0)) (h1 : HasT Try.prog 3 ((eInt .i64) x1)) : ∃ n, g_law17_BlockWidths (KN n) n x0 x1 = some true := by
  obtain ⟨l, hl, hm, _⟩ := h0.sl_inv Try.underlying39
  simp only [eSl, List.cons.injEq, AV.sl.injEq, and_true] at hl
  have hlen : l.length = x0.length := by rw [← hl, List.length_map]
  have hm' : l.length ≤ 9223372036854775807 := hm
  exact blockWidths x0 x1 (by omega)
end Go.Proofs.Ytkciiamllegclaa.QBlockWidths

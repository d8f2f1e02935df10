/- The least and the greatest widths of blocks: the program's are the reference's. No program in sight. -/
import Derived.Test.YtlpndemhnpajiaaSmQWidA
namespace Go.Proofs.Ytlpndemhnpajiaa.Wd
set_option linter.all false
open Go.RowKit
def E1 : TBlockEnv := ⟨(Fv.fn 54), (Fv.fn 55), (Fv.fn 56), (Fv.fn 57)⟩
theorem lim_lim (x : Int) : limM (limM x) = limM x := by unfold limM; omega
theorem lim_bd (x : Int) : 0 ≤ limM x ∧ limM x ≤ 1048576 := by unfold limM; omega
theorem len2 (l : TCascadeLength) (w : Int) : (lenM l w).2 = (l.Kind == 1 || l.Kind == 2) := by
  unfold lenM
  by_cases h1 : l.Kind = 1
  · simp [h1]
  · by_cases h2 : l.Kind = 2 <;> simp [h1, h2]
theorem auto2 (l : TCascadeLength) : (autoM l).Kind ≠ 2 := by
  unfold autoM
  by_cases h : l.Kind = 2
  · rw [if_pos h]; exact fun h => by cases h
  · rw [if_neg h]; exact h
structure Cn (N : Nat) (b : TBoxtreeBox) (x y : Int) : Prop where
  le : x ≤ y
  lx : limM x = x
  ly : limM y = y
  c : g_ref17_contents (KN N) N b = some (x, y)
  i : g_block_inside (KN N) N b E1 = some (if (lenM (plainM b.Style).Width 0).2 = true then (limM (lenM (plainM b.Style).Width 0).1, limM (lenM (plainM b.Style).Width 0).1) else (x, y))
theorem core (d N : Nat) (b : TBoxtreeBox) (hg : GoodB (d + 1) b) (ht : TB (d + 1) b) (hN : 20 < N)
    (ih : ∀ k ∈ b.Kids, k.Kind = 1 → ∃ p, (KN (N + 1)).d_TBoxtreeBox__IntInt (Fv.fn 55) k = some p ∧ (KN (N + 1)).k_g_ref17_Widths k = some p ∧ p.1 ≤ p.2) : ∃ x y, Cn (N + 1) b x y := by
  have hO : ∀ x, (KN (N + 1)).d_TBoxtreeBox__Bool (Fv.fn 111) x = some (outerM x) := fun x => outer_def (KN N) N x
  have hlen : b.Kids.length ≤ 20 := hg.1
  have hfl : (flowM b).length ≤ 20 := Nat.le_trans flowM_len hlen
  have hsub : ∀ k ∈ flowM b, k ∈ b.Kids := fun k hk => (List.mem_filter.1 hk).1
  have hany : ((flowM b).any fun k => k.Kind == 1) = (flowM b).any outerM := by
    apply Bool.eq_iff_iff.2
    simp only [List.any_eq_true]
    constructor
    · rintro ⟨k, hk, e⟩; exact ⟨k, hk, by simp [outerM, e]⟩
    · rintro ⟨k, hk, e⟩
      refine ⟨k, hk, ?_⟩
      rcases hg.2 with h | h
      · simp [(h k (hsub k hk)).1]
      · have := h k (hsub k hk); simp [outerM, this] at e
  have fin : ∀ x y : Int, x ≤ y → g_ref17_contents (KN (N + 1)) (N + 1) b = some (limM x, limM y) → (¬ (lenM (plainM b.Style).Width 0).2 = true → g_block_inside (KN (N + 1)) (N + 1) b E1 = some (limM x, limM y)) → ∃ x y, Cn (N + 1) b x y := by
    intro x y hxy h1 h2
    refine ⟨limM x, limM y, by unfold limM; omega, lim_lim x, lim_lim y, h1, ?_⟩
    split
    · rename_i hw
      unfold g_block_inside
      rw [fixed_def]
      simp only [Option.bind_some, len_def, hw, if_true, limit_def]
    · rename_i hw; exact h2 hw
  have ins : ¬ (lenM (plainM b.Style).Width 0).2 = true → g_block_inside (KN (N + 1)) (N + 1) b E1 = (if (!((flowM b).any outerM)) = true then (g_ref17_Spread (KN N) N (flowM b) b.Style).bind fun v7 => some (limM v7.1, limM v7.2) else g_block_inside_l1 (KN (N + 1)) (N + 1) E1 (flowM b, (flowM b).any outerM) (N + 1) 0 0 0) := fun hw => by
    unfold g_block_inside
    rw [fixed_def]
    simp only [Option.bind_some, len_def, hw, Bool.false_eq_true, if_false]
    rw [bflow_def _ _ hO b hlen (by omega)]
    simp only [Option.bind_some, limit_def]
    rfl
  have con : g_ref17_contents (KN (N + 1)) (N + 1) b = (if (!((flowM b).any outerM)) = true then (g_ref17_Spread (KN (N + 1)) (N + 1) (flowM b) b.Style).bind fun v7 => some (limM v7.1, limM v7.2) else g_ref17_contents_l1 (KN (N + 1)) (N + 1) (flowM b) (N + 1) 0 0 0) := by
    unfold g_ref17_contents
    rw [router_def _ _ b hlen (by omega), inside_def _ _ b hlen (by omega), hany]
    simp only [Option.bind_some, rwidth_def]
  cases hb : (flowM b).any outerM with
  | true =>
    rw [hb] at ins con
    simp only [Bool.not_true, Bool.false_eq_true, if_false] at ins con
    have hall : ∀ k ∈ b.Kids, k.Kind = 1 := by
      rcases hg.2 with h | h
      · exact fun k hk => (h k hk).1
      · obtain ⟨k, hk, e⟩ := List.any_eq_true.1 hb
        have := h k (hsub k hk); simp [outerM, this] at e
    have hW : ∀ k, ∃ p : Int × Int, k ∈ flowM b → (KN (N + 1)).d_TBoxtreeBox__IntInt (Fv.fn 55) k = some p ∧ (KN (N + 1)).k_g_ref17_Widths k = some p ∧ p.1 ≤ p.2 := fun k => by
      by_cases hm : k ∈ flowM b
      · obtain ⟨p, hp⟩ := ih k (hsub k hm) (hall k (hsub k hm))
        exact ⟨p, fun _ => hp⟩
      · exact ⟨(0, 0), fun h => absurd h hm⟩
    obtain ⟨W, hW⟩ := Classical.skolem.1 hW
    have e1 := inside_wloop (KN (N + 1)) (N + 1) E1 (flowM b, true) W hfl (fun k hk => (hW k hk).1) (N + 1) 0 0 0 (by omega) (by simp only []; omega)
    have e2 := contents_loop (KN (N + 1)) (N + 1) (flowM b) W hfl (fun k hk => (hW k hk).2.1) (N + 1) 0 0 0 (by omega) (by omega)
    simp only [List.drop_zero] at e1 e2
    exact fin _ _ (wiM_le W (flowM b) 0 0 (fun k hk => (hW k hk).2.2) (Int.le_refl _)) (con.trans e2) (fun hw => (ins hw).trans e1)
  | false =>
    rw [hb] at ins con
    simp only [Bool.not_false, if_true] at ins con
    have htx : ∀ k ∈ flowM b, (k.Text.size : Int) ≤ 60 := fun k hk => by
      rcases hg.2 with h | h
      · have := List.any_eq_false.1 hb k hk
        simp [outerM, (h k (hsub k hk)).1] at this
      · exact (ht k (hsub k hk)).2 (h k (hsub k hk))
    rw [spread_def _ _ _ _ hfl (by omega)] at con
    rw [spread_def _ _ _ _ hfl hN] at ins
    exact fin _ _ (spM_le (flowM b) 0 0 htx (by omega) (by omega) (by omega)) con ins
theorem frM_bd (s : TCascadeStyle) {c : Int} (hc : c ≤ 1048576) : -7340032 ≤ frM s c ∧ frM s c ≤ 7340032 := by
  unfold frM
  generalize plainM s = t
  have hm : 0 ≤ clampM t 0 c ∧ clampM t 0 c ≤ 1048576 := by
    have := lenM_bd t.MinWidth 0
    unfold clampM
    simp only []
    split <;> split <;> omega
  have e1 := lenM_bd t.Margin.a1 0; have e2 := lenM_bd t.Margin.a3 0; have e3 := lenM_bd t.Padding.a1 0; have e4 := lenM_bd t.Padding.a3 0
  have q1 := lim_bd t.Border.a1; have q3 := lim_bd t.Border.a3
  unfold sumM edgesM
  simp only []
  generalize clampM t 0 c = x at *
  rw [w64_id (n := x + (lenM t.Margin.a1 0).1) (by omega) (by omega), w64_id (n := x + (lenM t.Margin.a1 0).1 + (lenM t.Margin.a3 0).1) (by omega) (by omega), w64_id (n := x + (lenM t.Margin.a1 0).1 + (lenM t.Margin.a3 0).1 + limM t.Border.a1) (by omega) (by omega), w64_id (n := x + (lenM t.Margin.a1 0).1 + (lenM t.Margin.a3 0).1 + limM t.Border.a1 + limM t.Border.a3) (by omega) (by omega), w64_id (n := x + (lenM t.Margin.a1 0).1 + (lenM t.Margin.a3 0).1 + limM t.Border.a1 + limM t.Border.a3 + max (lenM t.Padding.a1 0).1 0) (by omega) (by omega), w64_id (by omega) (by omega)]
  omega
theorem frame_def (N : Nat) (b : TBoxtreeBox) (x y : Int) (h : Cn N b x y) : ∃ p, g_block_Widths (KN N) N b E1 = some p ∧ g_ref17_Widths (KN N) N b = some p ∧ p.1 ≤ p.2 ∧ -7340032 ≤ p.1 ∧ p.2 ≤ 7340032 := by
  obtain ⟨h1, h2, h3, h4, h5⟩ := h
  have ex := lim_bd x
  have ey := lim_bd y
  rw [h2] at ex; rw [h3] at ey
  unfold g_block_Widths g_ref17_Widths g_ref17_Framed
  rw [h4, h5]
  have hF : ∀ c, frM b.Style c = w64 (clampM (plainM b.Style) 0 c + sumM (edgesM (plainM b.Style) 0 0)) := fun c => sum_split (plainM b.Style) _
  simp only [Option.bind_some, fixed_def, plain_def, clamp_def, edges_def, sum_def, rwidth_def, pix_def, h2, h3]
  have hk : (plainM b.Style).Width.Kind ≠ 2 := auto2 _
  by_cases hw : (plainM b.Style).Width.Kind = 1
  · have e1 : (lenM (plainM b.Style).Width 0).2 = true := by rw [len2]; simp [hw]
    have e2 : (pixM (plainM b.Style).Width).2 = true := by unfold pixM; simp [hw]
    have e3 : (pixM (plainM b.Style).Width).1 = limM (lenM (plainM b.Style).Width 0).1 := by unfold pixM lenM limM; simp only [hw, if_true]; omega
    simp only [e1, e2, if_true, g_ref17_Framed_j1, redges_def, rsum_def, rclamp_def, Option.bind_some, e3]
    refine ⟨_, rfl, ?_, Int.le_refl _, (frM_bd b.Style (lim_bd _).2).1, (frM_bd b.Style (lim_bd _).2).2⟩
    rw [← hF]; rfl
  · have e1 : (lenM (plainM b.Style).Width 0).2 = false := by rw [len2]; simp [hw, hk]
    have e2 : (pixM (plainM b.Style).Width).2 = false := by unfold pixM; simp [hw]
    simp only [e1, e2, Bool.false_eq_true, if_false, g_ref17_Framed_j1, redges_def, rsum_def, rclamp_def, Option.bind_some]
    refine ⟨_, rfl, ?_, frM_le b.Style h1 ey.2, (frM_bd b.Style (by omega)).1, (frM_bd b.Style ey.2).2⟩
    rw [← hF, ← hF]; rfl
theorem widths_eq : ∀ (d N : Nat) (b : TBoxtreeBox), GoodB d b → TB d b → d + 25 ≤ N → ∃ x y, Cn N b x y
  | 0, _, _, h, _, _ => h.elim
  | d + 1, 0, _, _, _, h => by omega
  | d + 1, N + 1, b, hg, ht, hN => by
    refine core d N b hg ht (by omega) fun k hk hk1 => ?_
    have hgk : GoodB d k := by
      rcases hg.2 with h | h
      · exact (h k hk).2
      · have := h k hk; omega
    obtain ⟨x, y, hc⟩ := widths_eq d N k hgk ((ht k hk).1 hk1) (by omega)
    obtain ⟨p, p1, p2, p3, _⟩ := frame_def N k x y hc
    refine ⟨p, ?_, p2, p3⟩
    show g_law17_spread (KN N) N k = some p
    unfold g_law17_spread g_law17_Env
    simp only [Option.bind_some]
    rw [show (⟨(Fv.fn 54), (Fv.fn 55), (Fv.fn 56), (Fv.fn 57)⟩ : TBlockEnv) = E1 from rfl, p1]
    rfl
end Go.Proofs.Ytlpndemhnpajiaa.Wd

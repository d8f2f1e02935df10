/- BlockFills, plain: true of every description and width. -/
import Derived.Test.YtkciiamllegclaaSfQSize
import Derived.Test.YtkciiamllegclaaSfGop
namespace Go.Proofs.Ytkciiamllegclaa.QBlockFills
set_option linter.all false
open Go.RowKit
theorem fit_true (K : Kn) (n : Nat) : g_law17_fit K (n + 5) = some true := by kernel_rfl
theorem lenM_bd (l : TCascadeLength) (b : Int) : -1048576 ≤ (lenM l b).1 ∧ (lenM l b).1 ≤ 1048576 := by
  unfold lenM; split <;> (try split) <;> simp only [] <;> omega
theorem lenM_off {l : TCascadeLength} {b : Int} (h : (lenM l b).2 = false) : (lenM l b).1 = 0 := by
  unfold lenM at h ⊢
  split at h
  · cases h
  · split at h
    · cases h
    · rename_i h1 h2; rw [if_neg h1, if_neg h2]
theorem lenM_zero {l : TCascadeLength} {b : Int} (h : l.Kind = 0) : lenM l b = (0, false) := by unfold lenM; simp [h]
theorem limM_bd (x : Int) : 0 ≤ limM x ∧ limM x ≤ 1048576 := by unfold limM; omega
theorem limM_id {x : Int} (h0 : 0 ≤ x) (h1 : x ≤ 1048576) : limM x = x := by unfold limM; omega
theorem clampM_bd (s : TCascadeStyle) (w c : Int) (h : c ≤ 99999999) : 0 ≤ clampM s w c ∧ clampM s w c ≤ 99999999 := by
  unfold clampM
  have h1 := lenM_bd s.MaxWidth w
  have h2 := lenM_bd s.MinWidth w
  simp only []
  split <;> split <;> omega
def plainSum (z : TBlockSizes) : Int := z.Content + z.Margin.a1 + z.Margin.a3 + z.Border.a1 + z.Border.a3 + z.Padding.a1 + z.Padding.a3
structure Bd (z : TBlockSizes) : Prop where
  c : -999999999 ≤ z.Content ∧ z.Content ≤ 999999999
  m1 : -999999999 ≤ z.Margin.a1 ∧ z.Margin.a1 ≤ 999999999
  m3 : -999999999 ≤ z.Margin.a3 ∧ z.Margin.a3 ≤ 999999999
  b1 : 0 ≤ z.Border.a1 ∧ z.Border.a1 ≤ 1048576
  b3 : 0 ≤ z.Border.a3 ∧ z.Border.a3 ≤ 1048576
  p1 : 0 ≤ z.Padding.a1 ∧ z.Padding.a1 ≤ 1048576
  p3 : 0 ≤ z.Padding.a3 ∧ z.Padding.a3 ≤ 1048576
theorem sumM_id {z : TBlockSizes} (h : Bd z) : sumM z = plainSum z := by
  obtain ⟨c, m1, m3, b1, b3, p1, p3⟩ := h
  unfold sumM plainSum
  rw [w64_id (n := z.Content + z.Margin.a1) (by omega) (by omega), w64_id (n := z.Content + z.Margin.a1 + z.Margin.a3) (by omega) (by omega), w64_id (n := z.Content + z.Margin.a1 + z.Margin.a3 + z.Border.a1) (by omega) (by omega),
    w64_id (n := z.Content + z.Margin.a1 + z.Margin.a3 + z.Border.a1 + z.Border.a3) (by omega) (by omega), w64_id (n := z.Content + z.Margin.a1 + z.Margin.a3 + z.Border.a1 + z.Border.a3 + z.Padding.a1) (by omega) (by omega), w64_id (by omega) (by omega)]
theorem edges_bd (s : TCascadeStyle) (w c : Int) (h : -999999999 ≤ c ∧ c ≤ 999999999) : Bd (edgesM s w c) := by
  have h1 := lenM_bd s.Margin.a1 w
  have h3 := lenM_bd s.Margin.a3 w
  have p1 := lenM_bd s.Padding.a1 w
  have p3 := lenM_bd s.Padding.a3 w
  have b1 := limM_bd s.Border.a1
  have b3 := limM_bd s.Border.a3
  refine ⟨h, ?_, ?_, b1, b3, ?_, ?_⟩ <;> simp only [edgesM] <;> omega
/-- What is known of the used sizes. -/
theorem used_facts (s : TCascadeStyle) (w : Int) (h0 : 0 ≤ w) (h1 : w ≤ 1048576) :
    0 ≤ (usedM s w).Content ∧
    (s.Width.Kind = 0 → s.MinWidth.Kind = 0 → s.MaxWidth.Kind = 0 → sumM (edgesM s w 0) ≤ w → sumM (usedM s w) = w) ∧
    ((s.Margin.a1.Kind = 0 ∨ s.Margin.a3.Kind = 0) → w ≤ sumM (usedM s w) ∧ w64 ((edgesM s w 0).Margin.a1 + (edgesM s w 0).Margin.a3) ≤ w64 ((usedM s w).Margin.a1 + (usedM s w).Margin.a3)) := by
  have hw := limM_id h0 h1
  unfold usedM
  simp only [hw]
  have he := edges_bd s w 0 (by omega)
  have hes := sumM_id he
  have hec : (edgesM s w 0).Content = 0 := rfl
  have hm1 : (edgesM s w 0).Margin.a1 = (lenM s.Margin.a1 w).1 := rfl
  have hm3 : (edgesM s w 0).Margin.a3 = (lenM s.Margin.a3 w).1 := rfl
  have l1 := lenM_bd s.Margin.a1 w
  have l3 := lenM_bd s.Margin.a3 w
  have hlw := lenM_bd s.Width w
  obtain ⟨_, e1, e3, eb1, eb3, ep1, ep3⟩ := he
  generalize hE : edgesM s w 0 = e at *
  have hsm : plainSum e = e.Margin.a1 + e.Margin.a3 + e.Border.a1 + e.Border.a3 + e.Padding.a1 + e.Padding.a3 := by unfold plainSum; rw [hec]; omega
  have hws : w64 (w - sumM e) = w - sumM e := w64_id (by omega) (by omega)
  rw [hws]
  generalize hx : (if (lenM s.Width w).2 = true then (lenM s.Width w).1 else w - sumM e) = x
  have hxb : x ≤ 99999999 := by rw [← hx]; split <;> omega
  have hcb := clampM_bd s w x hxb
  have hc0 : s.Width.Kind = 0 → s.MinWidth.Kind = 0 → s.MaxWidth.Kind = 0 → clampM s w x = max (w - sumM e) 0 := fun k1 k2 k3 => by
    rw [← hx]
    unfold clampM
    simp [lenM_zero k1, lenM_zero k2, lenM_zero k3]
  generalize clampM s w x = c at *
  have hbz : Bd { e with Content := c } := ⟨by simp only []; omega, e1, e3, eb1, eb3, ep1, ep3⟩
  have hz := sumM_id hbz
  have hzs : plainSum { e with Content := c } = c + plainSum e := by unfold plainSum; simp only []; omega
  have hr : w64 (w - sumM { e with Content := c }) = w - c - plainSum e := by rw [hz, hzs]; rw [w64_id (by omega) (by omega)]; omega
  unfold used1
  simp only [hr]
  by_cases hle : w - c - plainSum e ≤ 0
  · rw [if_pos hle]
    refine ⟨hcb.1, fun k1 k2 k3 hs => ?_, fun _ => ⟨?_, Int.le_refl _⟩⟩
    · have := hc0 k1 k2 k3
      rw [hz, hzs]; omega
    · rw [hz, hzs]; omega
  · rw [if_neg hle]
    generalize hrr : w - c - plainSum e = r at *
    have hrb : r ≤ 99999999 := by omega
    have hdiv : w64 (Int.tdiv r 2) = r / 2 := by rw [Int.tdiv_eq_ediv_of_nonneg (by omega)]; exact w64_id (by omega) (by omega)
    rw [hdiv]
    have hdif : w64 (r - r / 2) = r - r / 2 := w64_id (by omega) (by omega)
    rw [hdif]
    have no : s.Width.Kind = 0 → s.MinWidth.Kind = 0 → s.MaxWidth.Kind = 0 → sumM e ≤ w → False := fun k1 k2 k3 hs => by
      have := hc0 k1 k2 k3; omega
    have wm : w64 (e.Margin.a1 + e.Margin.a3) = e.Margin.a1 + e.Margin.a3 := w64_id (by omega) (by omega)
    rw [wm]
    cases h3 : (lenM s.Margin.a3 w).2 <;> cases h1' : (lenM s.Margin.a1 w).2
    · have z1 := lenM_off h1'
      have z3 := lenM_off h3
      simp only [and_self, if_true]
      refine ⟨hcb.1, fun k1 k2 k3 hs => (no k1 k2 k3 hs).elim, fun _ => ?_⟩
      have hb2 : Bd ({ e with Content := c, Margin := ⟨e.Margin.a0, r - r / 2, e.Margin.a2, r / 2⟩ } : TBlockSizes) := ⟨by simp only []; omega, by simp only []; omega, by simp only []; omega, eb1, eb3, ep1, ep3⟩
      rw [sumM_id hb2, w64_id (by omega) (by omega)]
      unfold plainSum; simp only []; omega
    · have z3 := lenM_off h3
      simp only [Bool.true_eq_false, and_false, if_false, if_true]
      refine ⟨hcb.1, fun k1 k2 k3 hs => (no k1 k2 k3 hs).elim, fun _ => ?_⟩
      have hb2 : Bd ({ e with Content := c, Margin := ⟨e.Margin.a0, e.Margin.a1, e.Margin.a2, r⟩ } : TBlockSizes) := ⟨by simp only []; omega, e1, by simp only []; omega, eb1, eb3, ep1, ep3⟩
      rw [sumM_id hb2, w64_id (by omega) (by omega)]
      unfold plainSum; simp only []; omega
    · have z1 := lenM_off h1'
      simp only [Bool.true_eq_false, false_and, if_false, if_true]
      refine ⟨hcb.1, fun k1 k2 k3 hs => (no k1 k2 k3 hs).elim, fun _ => ?_⟩
      have hb2 : Bd ({ e with Content := c, Margin := ⟨e.Margin.a0, r, e.Margin.a2, e.Margin.a3⟩ } : TBlockSizes) := ⟨by simp only []; omega, by simp only []; omega, e3, eb1, eb3, ep1, ep3⟩
      rw [sumM_id hb2, w64_id (by omega) (by omega)]
      unfold plainSum; simp only []; omega
    · simp only [Bool.true_eq_false, false_and, if_false]
      refine ⟨hcb.1, fun k1 k2 k3 hs => (no k1 k2 k3 hs).elim, fun hk => ?_⟩
      rcases hk with hk | hk
      · rw [lenM_zero hk] at h1'; cases h1'
      · rw [lenM_zero hk] at h3; cases h3
theorem holds (x0 : TKnapsackref17Spec) (x1 : Int) (h0 : HasT Try.prog 37 (eTKnapsackref17Spec x0)) (h1 : HasT Try.prog 3 ((eInt .i64) x1)) : ∃ n, g_law17_BlockFills (KN n) n x0 x1 = some true := by
  refine ⟨0 + 5, ?_⟩
  obtain ⟨b, hb, _⟩ := few_tot (KN (0 + 5)) (0 + 5) [x0] 1 (by simp) (by simp)
  unfold g_law17_BlockFills
  simp only [fit_true, hb, Option.bind_some, Bool.not_true, Bool.false_eq_true, if_false, rwidth_def, used_def, redges_def, rsum_def, sum_def]
  cases b
  · simp
  obtain ⟨l0, l1⟩ := limM_bd x1
  generalize limM x1 = w at *
  obtain ⟨f1, f2, f3⟩ := used_facts x0.Style w l0 l1
  have j1 : g_law17_BlockFills_j1 (KN (0 + 5)) (0 + 5) x0 w (usedM x0.Style w) false = some true := by
    have hc : ¬ (usedM x0.Style w).Content < 0 := by omega
    simp only [g_law17_BlockFills_j1, g_law17_BlockFills_j2, g_law17_BlockFills_j3, sum_def, redges_def, Option.bind_some, hc, decide_false, Bool.false_eq_true, if_false]
    by_cases k1 : x0.Style.Margin.a1.Kind = 0
    · obtain ⟨g1, g2⟩ := f3 (.inl k1)
      simp [k1, g1, g2]
    · by_cases k3 : x0.Style.Margin.a3.Kind = 0
      · obtain ⟨g1, g2⟩ := f3 (.inr k3)
        simp [k1, k3, g1, g2]
      · simp [k1, k3]
  simp only [Bool.not_true, Bool.false_eq_true, if_false, j1]
  by_cases k1 : x0.Style.Width.Kind = 0
  · by_cases k2 : x0.Style.MinWidth.Kind = 0
    · by_cases k3 : x0.Style.MaxWidth.Kind = 0
      · by_cases k4 : sumM (edgesM x0.Style w 0) ≤ w
        · have := f2 k1 k2 k3 k4
          simp [k1, k2, k3, k4, this, j1]
        · simp [k1, k2, k3, k4]
      · simp [k1, k2, k3]
    · simp [k1, k2]
  · simp [k1]
end Go.Proofs.Ytkciiamllegclaa.QBlockFills

/- Layer 17, plain: lengths, limits, edges, used sizes; the bounds on descriptions. No program in sight. -/
import Derived.Test.YtlpndemhnpajiaaSmQb
namespace Go.Proofs.Ytlpndemhnpajiaa
set_option linter.all false
open Go.RowKit
def lenM (l : TCascadeLength) (b : Int) : Int × Bool :=
  if l.Kind = 1 then (min (max l.Value (-1048576)) 1048576, true)
  else if l.Kind = 2 then (min (max (w64 (Int.tdiv (w64 ((min (max b 0) 1048576) * (min (max l.Value (-1000000)) 1000000))) 10000)) (-1048576)) 1048576, true)
  else (0, false)
def limM (x : Int) : Int := min (max x 0) 1048576
section
variable (K : Kn) (n : Nat)
theorem limit_def (x : Int) : g_block_limit K n x = some (limM x) := rfl
theorem rwidth_def (x : Int) : g_ref17_Width K n x = some (limM x) := rfl
theorem len_def (l : TCascadeLength) (b : Int) : g_block_Length K n l b = some (lenM l b) := by
  unfold g_block_Length lenM
  by_cases h1 : l.Kind = 1
  · simp [h1, g_block_Length_j1]
  · by_cases h2 : l.Kind = 2
    · simp [h2, g_block_Length_j1, g_block_limit]
    · simp [h1, h2]
theorem rlen_def (l : TCascadeLength) (b : Int) : g_ref17_Length K n l b = some (lenM l b) := by
  unfold g_ref17_Length lenM
  by_cases h1 : l.Kind = 1
  · simp [h1, g_ref17_limit]
  · by_cases h2 : l.Kind = 2
    · simp [h2, g_ref17_limit, g_ref17_Width]
    · simp [h1, h2]
def clampM (s : TCascadeStyle) (w c : Int) : Int :=
  let m := if (lenM s.MaxWidth w).2 = true then min (max c 0) (max (lenM s.MaxWidth w).1 0) else max c 0
  if (lenM s.MinWidth w).2 = true then max m (lenM s.MinWidth w).1 else m
theorem clamp_def (s : TCascadeStyle) (w c : Int) : g_block_Clamp K n s w c = some (clampM s w c) := by
  unfold g_block_Clamp clampM
  simp only [len_def, Option.bind_some, g_block_Clamp_j1, g_block_Clamp_j2]
  repeat (first | rfl | split)
theorem rclamp_def (s : TCascadeStyle) (w c : Int) : g_ref17_Clamp K n s w c = some (clampM s w c) := by
  unfold g_ref17_Clamp clampM
  simp only [rlen_def, Option.bind_some, g_ref17_Clamp_j1, g_ref17_Clamp_j2]
  repeat (first | rfl | split)
def edgesM (s : TCascadeStyle) (w c : Int) : TBlockSizes :=
  ⟨⟨(lenM s.Margin.a0 w).1, (lenM s.Margin.a1 w).1, (lenM s.Margin.a2 w).1, (lenM s.Margin.a3 w).1⟩, ⟨limM s.Border.a0, limM s.Border.a1, limM s.Border.a2, limM s.Border.a3⟩,
    ⟨max (lenM s.Padding.a0 w).1 0, max (lenM s.Padding.a1 w).1 0, max (lenM s.Padding.a2 w).1 0, max (lenM s.Padding.a3 w).1 0⟩, c⟩
theorem edges_def (s : TCascadeStyle) (w c : Int) : g_block_Edges K n s w c = some (edgesM s w c) := by
  simp only [g_block_Edges, len_def, limit_def, Option.bind_some, edgesM]
theorem redges_def (s : TCascadeStyle) (w c : Int) : g_ref17_Edges K n s w c = some (edgesM s w c) := by
  simp only [g_ref17_Edges, rlen_def, rwidth_def, Option.bind_some, edgesM]
def sumM (z : TBlockSizes) : Int := w64 ((w64 ((w64 ((w64 ((w64 ((w64 (z.Content + z.Margin.a1)) + z.Margin.a3)) + z.Border.a1)) + z.Border.a3)) + z.Padding.a1)) + z.Padding.a3)
theorem sum_def (z : TBlockSizes) : g_api_BlockSizes_Sum K n z = some (sumM z) := rfl
theorem rsum_def (z : TBlockSizes) : g_ref17_Sum K n z = some (sumM z) := rfl
def smallM (l : TCascadeLength) : Prop := -16777216 ≤ l.Value ∧ l.Value ≤ 16777216
theorem small_def (l : TCascadeLength) : ∃ b, g_ref17_small K n l = some b ∧ (b = true → smallM l) := by
  unfold g_ref17_small g_ref17_small_j1
  by_cases h : l.Value ≥ -16777216
  · simp only [h, decide_true, if_true]
    exact ⟨_, rfl, fun e => ⟨h, of_decide_eq_true e⟩⟩
  · simp only [h, decide_false, Bool.false_eq_true, if_false]
    exact ⟨_, rfl, fun e => by cases e⟩
structure FewS (x : TKnapsackref17Spec) : Prop where
  text : (x.Text.size : Int) ≤ 60
  left : smallM x.Style.Left
  top : smallM x.Style.Top
  width : smallM x.Style.Width
  height : smallM x.Style.Height
  minw : smallM x.Style.MinWidth
  maxw : smallM x.Style.MaxWidth
  basis : smallM x.Style.Basis
  lh : 0 ≤ x.Style.LineHeight ∧ x.Style.LineHeight ≤ 65536
  fs : 0 ≤ x.Style.FontSize ∧ x.Style.FontSize ≤ 65536
  grow : 0 ≤ x.Style.Grow ∧ x.Style.Grow ≤ 1048576
  shrink : 0 ≤ x.Style.Shrink ∧ x.Style.Shrink ≤ 1048576
  m0 : smallM x.Style.Margin.a0
  m1 : smallM x.Style.Margin.a1
  m2 : smallM x.Style.Margin.a2
  m3 : smallM x.Style.Margin.a3
  p0 : smallM x.Style.Padding.a0
  p1 : smallM x.Style.Padding.a1
  p2 : smallM x.Style.Padding.a2
  p3 : smallM x.Style.Padding.a3
theorem few_round (L : List TKnapsackref17Spec) (m : Int) (L1 : Int → Option Bool) (i : Int) (h0 : 0 ≤ i) (hi : i < L.length) : g_ref17_Few_l6_b K n L m L1 i = some false ∨ (FewS (L.getD i.toNat default) ∧ g_ref17_Few_l6_b K n L m L1 i = L1 (w64 (i + 1))) := by
  unfold g_ref17_Few_l6_b
  simp only [hi, decide_true, if_true, inb_of h0 hi, chk_true]
  generalize hx : L.getD i.toNat default = x
  have j5 : ∀ b, g_ref17_Few_j5 K n L m i L1 b = if b = true then some false else L1 (w64 (i + 1)) := fun b => rfl
  obtain ⟨b1, e1, f1⟩ := small_def K n x.Style.Left
  obtain ⟨b2, e2, f2⟩ := small_def K n x.Style.Top
  obtain ⟨b3, e3, f3⟩ := small_def K n x.Style.Width
  obtain ⟨b4, e4, f4⟩ := small_def K n x.Style.Height
  obtain ⟨b5, e5, f5⟩ := small_def K n x.Style.MinWidth
  obtain ⟨b6, e6, f6⟩ := small_def K n x.Style.MaxWidth
  obtain ⟨b7, e7, f7⟩ := small_def K n x.Style.Basis
  obtain ⟨c0, g0, k0⟩ := small_def K n x.Style.Margin.a0
  obtain ⟨c1, g1, k1⟩ := small_def K n x.Style.Margin.a1
  obtain ⟨c2, g2, k2⟩ := small_def K n x.Style.Margin.a2
  obtain ⟨c3, g3, k3⟩ := small_def K n x.Style.Margin.a3
  obtain ⟨d0, q0, r0⟩ := small_def K n x.Style.Padding.a0
  obtain ⟨d1, q1, r1⟩ := small_def K n x.Style.Padding.a1
  obtain ⟨d2, q2, r2⟩ := small_def K n x.Style.Padding.a2
  obtain ⟨d3, q3, r3⟩ := small_def K n x.Style.Padding.a3
  have jt : g_ref17_Few_j1 K n L m i L1 true = some false := rfl
  have j1 : g_ref17_Few_j1 K n L m i L1 false = some false ∨ ((c0 = true ∧ c1 = true ∧ c2 = true ∧ c3 = true ∧ d0 = true ∧ d1 = true ∧ d2 = true ∧ d3 = true) ∧ g_ref17_Few_j1 K n L m i L1 false = L1 (w64 (i + 1))) := by
    simp only [g_ref17_Few_j1, g_ref17_Few_j2, g_ref17_Few_j3, g_ref17_Few_j4, g_ref17_Few_j5, hx, g0, g1, g2, g3, q0, q1, q2, q3, Option.bind_some]
    cases c0 <;> cases d0 <;> cases c1 <;> cases d1 <;> cases c2 <;> cases d2 <;> cases c3 <;> cases d3 <;> simp
  simp only [e1, e2, e3, e4, e5, e6, e7, Option.bind_some, jt]
  by_cases t0 : (x.Text.size : Int) > 60
  · left; simp [t0]
  simp only [t0, decide_false, Bool.false_eq_true, if_false]
  cases b1
  · left; simp
  simp only [Bool.not_true, Bool.false_eq_true, if_false]
  cases b2
  · left; simp
  simp only [Bool.not_true, Bool.false_eq_true, if_false]
  cases b3
  · left; simp
  simp only [Bool.not_true, Bool.false_eq_true, if_false]
  cases b4
  · left; simp
  simp only [Bool.not_true, Bool.false_eq_true, if_false]
  cases b5
  · left; simp
  simp only [Bool.not_true, Bool.false_eq_true, if_false]
  cases b6
  · left; simp
  simp only [Bool.not_true, Bool.false_eq_true, if_false]
  cases b7
  · left; simp
  simp only [Bool.not_true, Bool.false_eq_true, if_false]
  by_cases u1 : x.Style.LineHeight < 0
  · left; simp [u1]
  simp only [u1, decide_false, Bool.false_eq_true, if_false]
  by_cases u2 : x.Style.LineHeight > 65536
  · left; simp [u2]
  simp only [u2, decide_false, Bool.false_eq_true, if_false]
  by_cases u3 : x.Style.FontSize < 0
  · left; simp [u3]
  simp only [u3, decide_false, Bool.false_eq_true, if_false]
  by_cases u4 : x.Style.FontSize > 65536
  · left; simp [u4]
  simp only [u4, decide_false, Bool.false_eq_true, if_false]
  by_cases u5 : x.Style.Grow < 0
  · left; simp [u5]
  simp only [u5, decide_false, Bool.false_eq_true, if_false]
  by_cases u6 : x.Style.Grow > 1048576
  · left; simp [u6]
  simp only [u6, decide_false, Bool.false_eq_true, if_false]
  by_cases u7 : x.Style.Shrink < 0
  · left; simp [u7]
  simp only [u7, decide_false, Bool.false_eq_true, if_false]
  by_cases u8 : x.Style.Shrink > 1048576
  · left; simp only [u8, decide_true]; exact jt
  simp only [u8, decide_false]
  rcases j1 with h | ⟨⟨a0, a1, a2, a3, p0, p1, p2, p3⟩, h⟩
  · exact .inl h
  · refine .inr ⟨⟨by omega, f1 rfl, f2 rfl, f3 rfl, f4 rfl, f5 rfl, f6 rfl, f7 rfl, ⟨by omega, by omega⟩, ⟨by omega, by omega⟩, ⟨by omega, by omega⟩, ⟨by omega, by omega⟩, k0 a0, k1 a1, k2 a2, k3 a3, r0 p0, r1 p1, r2 p2, r3 p3⟩, h⟩
theorem few_loop (L : List TKnapsackref17Spec) (mx : Int) (hL : (L.length : Int) ≤ 9223372036854775807) : ∀ (m : Nat) (i : Int), 0 ≤ i → i ≤ L.length → (L.length : Int) < m + i →
    ∃ b, g_ref17_Few_l6 K n L mx m i = some b ∧ (b = true → (L.length : Int) ≤ mx ∧ ∀ k, i.toNat ≤ k → k < L.length → FewS (L.getD k default)) := by
  intro m
  induction m with
  | zero => intro i h0 h1 h2; omega
  | succ m ih =>
    intro i h0 h1 h2
    show ∃ b, g_ref17_Few_l6_b K n L mx (g_ref17_Few_l6 K n L mx m) i = some b ∧ _
    by_cases hi : i < (L.length : Int)
    · rcases few_round K n L mx (g_ref17_Few_l6 K n L mx m) i h0 hi with h | ⟨h, h'⟩
      · exact ⟨false, h, fun e => by cases e⟩
      · obtain ⟨b, hb, hk⟩ := ih (i + 1) (by omega) (by omega) (by omega)
        rw [h', w64_id (by omega) (by omega)]
        refine ⟨b, hb, fun e => ⟨(hk e).1, fun k h3 h4 => ?_⟩⟩
        by_cases e2 : k = i.toNat
        · subst e2; exact h
        · exact (hk e).2 k (by omega) h4
    · have hd : decide (i < (L.length : Int)) = false := by simpa using hi
      unfold g_ref17_Few_l6_b
      simp only [hd, Bool.false_eq_true, if_false]
      exact ⟨_, rfl, fun e => ⟨of_decide_eq_true e, fun k h3 h4 => by omega⟩⟩
theorem few_tot (L : List TKnapsackref17Spec) (mx : Int) (hL : (L.length : Int) ≤ 9223372036854775807) (hn : L.length < n) : ∃ b, g_ref17_Few K n L mx = some b ∧ (b = true → (L.length : Int) ≤ mx ∧ ∀ x ∈ L, FewS x) := by
  obtain ⟨b, h1, h2⟩ := few_loop K n L mx hL n 0 (by omega) (by omega) (by omega)
  refine ⟨b, h1, fun e => ⟨(h2 e).1, fun x hx => ?_⟩⟩
  obtain ⟨k, hk, rfl⟩ := List.mem_iff_getElem.1 hx
  have := (h2 e).2 k (by simp) hk
  rwa [getD_get hk] at this
end
end Go.Proofs.Ytlpndemhnpajiaa

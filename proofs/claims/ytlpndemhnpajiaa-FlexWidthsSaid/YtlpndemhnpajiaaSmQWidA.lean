/- Layer 17, plain: the least and the greatest widths of the program and of the reference. No program in sight. -/
import Derived.Test.YtlpndemhnpajiaaSmQLay
namespace Go.Proofs.Ytlpndemhnpajiaa
set_option linter.all false
open Go.RowKit
def TB : Nat → TBoxtreeBox → Prop
  | 0, _ => False
  | d + 1, b => ∀ k ∈ b.Kids, (k.Kind = 1 → TB d k) ∧ (k.Kind = 3 → (k.Text.size : Int) ≤ 60)
theorem treeT_loop (N n : Nat) (L : List TKnapsackref17Spec) (hL : L.length ≤ 20) (hT : ∀ x ∈ L, (x.Text.size : Int) ≤ 60) (a : Nat) (v3 : Bool) (d : Nat) (ih : v3 = true → ∀ i, a < i → i < L.length → ∃ b i', (KN N).k_g_ref17_Tree L (i : Int) = some (b, ((i' : Nat) : Int)) ∧ i < i' ∧ i' ≤ L.length ∧ GoodB d b ∧ b.Kind = 1 ∧ TB d b) :
    ∀ (m i : Nat) (acc : List TBoxtreeBox), a < i → i ≤ L.length → L.length < m + i → acc.length + a < i → (v3 = true → ∀ k ∈ acc, k.Kind = 1 ∧ GoodB d k ∧ TB d k) → (v3 = false → ∀ k ∈ acc, k.Kind = 3 ∧ (k.Text.size : Int) ≤ 60) →
      ∃ b i', g_ref17_Tree_l3 (KN N) n L a v3 m i acc = some (b, ((i' : Nat) : Int)) ∧ a < i' ∧ i' ≤ L.length ∧ GoodB (d + 1) b ∧ b.Kind = 1 ∧ TB (d + 1) b := by
  intro m
  induction m with
  | zero => intro i acc _ h1 h2; omega
  | succ m ihm =>
    intro i acc h0 h1 h2 h3 hk1 hk3
    have stop : ∃ b i', g_ref17_Tree_j2 (KN N) n L a v3 i acc (g_ref17_Tree_l3 (KN N) n L a v3 m) false = some (b, ((i' : Nat) : Int)) ∧ a < i' ∧ i' ≤ L.length ∧ GoodB (d + 1) b ∧ b.Kind = 1 ∧ TB (d + 1) b := by
      simp only [g_ref17_Tree_j2, Bool.false_eq_true, if_false]
      refine ⟨_, i, rfl, h0, h1, ⟨by show acc.length ≤ 20; omega, ?_⟩, rfl, ?_⟩
      · cases v3 with
        | true => exact .inl fun k hk => ⟨(hk1 rfl k hk).1, (hk1 rfl k hk).2.1⟩
        | false => exact .inr fun k hk => (hk3 rfl k hk).1
      · intro k hk
        cases v3 with
        | true =>
          have h := hk1 rfl k hk
          exact ⟨fun _ => h.2.2, fun e => by rw [h.1] at e; exact absurd e (by decide)⟩
        | false =>
          have h := hk3 rfl k hk
          exact ⟨fun e => by rw [h.1] at e; exact absurd e (by decide), fun _ => h.2⟩
    simp only [g_ref17_Tree_l3, g_ref17_Tree_l3_b]
    by_cases hi : i < L.length
    · simp only [dec_lt hi, if_true, inbN hi, chk_true]
      cases hd : decide ((L.getD (i : Int).toNat default).Depth > (L.getD (a : Int).toNat default).Depth) with
      | false => exact stop
      | true =>
        simp only [g_ref17_Tree_j2, if_true]
        cases v3 with
        | true =>
          obtain ⟨b, i', e1, e2, e3, e4, e5, e6⟩ := ih rfl i h0 hi
          simp only [if_true, e1, Option.bind_some, List.length_cons, List.length_nil]
          rw [fits_of (by omega) (by omega), chk_true]
          exact ihm i' (acc ++ [b]) (by omega) e3 (by omega) (by simp; omega) (fun _ k hk => by
            rcases List.mem_append.1 hk with hk | hk
            · exact hk1 rfl k hk
            · simp only [List.mem_cons, List.not_mem_nil, or_false] at hk; subst hk; exact ⟨e5, e4, e6⟩) (fun h => by cases h)
        | false =>
          simp only [Bool.false_eq_true, if_false, inbN hi, chk_true, List.length_cons, List.length_nil, step64 (show i < 1000000 by omega)]
          rw [fits_of (by omega) (by omega), chk_true]
          exact ihm (i + 1) _ (by omega) (by omega) (by omega) (by simp; omega) (fun h => by cases h) (fun _ k hk => by
            rcases List.mem_append.1 hk with hk | hk
            · exact hk3 rfl k hk
            · simp only [List.mem_cons, List.not_mem_nil, or_false] at hk; subst hk; exact ⟨rfl, hT _ (by simpa using getD_mem hi)⟩)
    · simp only [dec_ge (show L.length ≤ i by omega), Bool.false_eq_true, if_false]
      exact stop
theorem treeT : ∀ (d N : Nat) (L : List TKnapsackref17Spec) (a : Nat), a < L.length → L.length - a ≤ d → L.length ≤ 20 → d + 25 ≤ N → (∀ x ∈ L, (x.Text.size : Int) ≤ 60) → ∃ b i', g_ref17_Tree (KN N) N L (a : Int) = some (b, ((i' : Nat) : Int)) ∧ a < i' ∧ i' ≤ L.length ∧ GoodB d b ∧ b.Kind = 1 ∧ TB d b
  | 0, _, _, _, _, _, _, _, _ => by omega
  | d + 1, 0, _, _, _, _, _, h, _ => by omega
  | d + 1, N + 1, L, a, h1, h2, hL, hN, hT => by
    have lp : ∀ v3 : Bool, ∃ b i', g_ref17_Tree_l3 (KN (N + 1)) (N + 1) L a v3 (N + 1) ((a + 1 : Nat) : Int) [] = some (b, ((i' : Nat) : Int)) ∧ a < i' ∧ i' ≤ L.length ∧ GoodB (d + 1) b ∧ b.Kind = 1 ∧ TB (d + 1) b := fun v3 =>
      treeT_loop (N + 1) (N + 1) L hL hT a v3 d (fun _ i h3 h4 => treeT d N L i h4 (by omega) hL (by omega) hT) (N + 1) (a + 1) [] (by omega) (by omega) (by omega) (by simp) (fun _ k hk => by cases hk) (fun _ k hk => by cases hk)
    unfold g_ref17_Tree
    simp only [inbN h1, chk_true, step64 (show a < 1000000 by omega), g_ref17_Tree_j1]
    by_cases hi : a + 1 < L.length
    · simp only [dec_lt hi, if_true, inbN hi, chk_true]
      split
      · exact lp _
      · exact lp _
    · simp only [dec_ge (show L.length ≤ a + 1 by omega), Bool.false_eq_true, if_false]
      exact lp _
def autoM (l : TCascadeLength) : TCascadeLength := if l.Kind = 2 then zTCascadeLength else l
def plainM (s : TCascadeStyle) : TCascadeStyle := { s with Width := autoM s.Width, MinWidth := autoM s.MinWidth, MaxWidth := autoM s.MaxWidth, Margin := ⟨autoM s.Margin.a0, autoM s.Margin.a1, autoM s.Margin.a2, autoM s.Margin.a3⟩, Padding := ⟨autoM s.Padding.a0, autoM s.Padding.a1, autoM s.Padding.a2, autoM s.Padding.a3⟩ }
section
variable (K : Kn) (n : Nat)
theorem auto_def (l : TCascadeLength) : g_ref17_auto K n l = some (autoM l) := by
  unfold g_ref17_auto autoM
  by_cases h : l.Kind = 2 <;> simp [h]
theorem plain_def (s : TCascadeStyle) : g_ref17_plain K n s = some (plainM s) := by
  simp only [g_ref17_plain, auto_def, Option.bind_some, plainM]
theorem if_auto {α : Type} (l : TCascadeLength) (f : TCascadeLength → α) (y : α) (hy : y = f l) : (if (l.Kind == 2) = true then f zTCascadeLength else y) = f (autoM l) := by
  unfold autoM
  by_cases h : l.Kind = 2
  · simp [h]
  · simp [h, hy]
theorem fixed_def (s : TCascadeStyle) : g_block_fixed K n s = some (plainM s) := by
  unfold g_block_fixed
  refine (if_auto s.Width (fun l => g_block_fixed_j1 K n { s with Width := l }) _ rfl).trans ?_
  unfold g_block_fixed_j1
  refine (if_auto s.MinWidth (fun l => g_block_fixed_j2 K n { s with Width := autoM s.Width, MinWidth := l }) _ rfl).trans ?_
  unfold g_block_fixed_j2
  refine (if_auto s.MaxWidth (fun l => g_block_fixed_j3 K n { s with Width := autoM s.Width, MinWidth := autoM s.MinWidth, MaxWidth := l }) _ rfl).trans ?_
  unfold g_block_fixed_j3
  refine (if_auto s.Margin.a0 (fun l => g_block_fixed_j4 K n { s with Width := autoM s.Width, MinWidth := autoM s.MinWidth, MaxWidth := autoM s.MaxWidth, Margin := ⟨l, s.Margin.a1, s.Margin.a2, s.Margin.a3⟩ }) _ rfl).trans ?_
  unfold g_block_fixed_j4
  refine (if_auto s.Padding.a0 (fun l => g_block_fixed_j5 K n { s with Width := autoM s.Width, MinWidth := autoM s.MinWidth, MaxWidth := autoM s.MaxWidth, Margin := ⟨autoM s.Margin.a0, s.Margin.a1, s.Margin.a2, s.Margin.a3⟩, Padding := ⟨l, s.Padding.a1, s.Padding.a2, s.Padding.a3⟩ }) _ rfl).trans ?_
  unfold g_block_fixed_j5
  refine (if_auto s.Margin.a1 (fun l => g_block_fixed_j6 K n { s with Width := autoM s.Width, MinWidth := autoM s.MinWidth, MaxWidth := autoM s.MaxWidth, Margin := ⟨autoM s.Margin.a0, l, s.Margin.a2, s.Margin.a3⟩, Padding := ⟨autoM s.Padding.a0, s.Padding.a1, s.Padding.a2, s.Padding.a3⟩ }) _ rfl).trans ?_
  unfold g_block_fixed_j6
  refine (if_auto s.Padding.a1 (fun l => g_block_fixed_j7 K n { s with Width := autoM s.Width, MinWidth := autoM s.MinWidth, MaxWidth := autoM s.MaxWidth, Margin := ⟨autoM s.Margin.a0, autoM s.Margin.a1, s.Margin.a2, s.Margin.a3⟩, Padding := ⟨autoM s.Padding.a0, l, s.Padding.a2, s.Padding.a3⟩ }) _ rfl).trans ?_
  unfold g_block_fixed_j7
  refine (if_auto s.Margin.a2 (fun l => g_block_fixed_j8 K n { s with Width := autoM s.Width, MinWidth := autoM s.MinWidth, MaxWidth := autoM s.MaxWidth, Margin := ⟨autoM s.Margin.a0, autoM s.Margin.a1, l, s.Margin.a3⟩, Padding := ⟨autoM s.Padding.a0, autoM s.Padding.a1, s.Padding.a2, s.Padding.a3⟩ }) _ rfl).trans ?_
  unfold g_block_fixed_j8
  refine (if_auto s.Padding.a2 (fun l => g_block_fixed_j9 K n { s with Width := autoM s.Width, MinWidth := autoM s.MinWidth, MaxWidth := autoM s.MaxWidth, Margin := ⟨autoM s.Margin.a0, autoM s.Margin.a1, autoM s.Margin.a2, s.Margin.a3⟩, Padding := ⟨autoM s.Padding.a0, autoM s.Padding.a1, l, s.Padding.a3⟩ }) _ rfl).trans ?_
  unfold g_block_fixed_j9
  refine (if_auto s.Margin.a3 (fun l => g_block_fixed_j10 K n { s with Width := autoM s.Width, MinWidth := autoM s.MinWidth, MaxWidth := autoM s.MaxWidth, Margin := ⟨autoM s.Margin.a0, autoM s.Margin.a1, autoM s.Margin.a2, l⟩, Padding := ⟨autoM s.Padding.a0, autoM s.Padding.a1, autoM s.Padding.a2, s.Padding.a3⟩ }) _ rfl).trans ?_
  unfold g_block_fixed_j10
  refine (if_auto s.Padding.a3 (fun l => g_block_fixed_j11 K n { s with Width := autoM s.Width, MinWidth := autoM s.MinWidth, MaxWidth := autoM s.MaxWidth, Margin := ⟨autoM s.Margin.a0, autoM s.Margin.a1, autoM s.Margin.a2, autoM s.Margin.a3⟩, Padding := ⟨autoM s.Padding.a0, autoM s.Padding.a1, autoM s.Padding.a2, l⟩ }) _ rfl).trans ?_
  rfl
def spM : List TBoxtreeBox → Int → Int → Int × Int
  | [], a, b => (a, b)
  | k :: r, a, b => spM r (max a (w64 (8 * (k.Text.size : Int)))) (w64 (b + w64 (8 * (k.Text.size : Int))))
theorem spread_loop (L : List TBoxtreeBox) (hL : L.length ≤ 20) : ∀ (m i : Nat) (a b : Int), i ≤ L.length → L.length < m + i → g_ref17_Spread_l1 K n L m a b i = some (spM (L.drop i) a b) := by
  intro m
  induction m with
  | zero => intro i a b h1 h2; omega
  | succ m ih =>
    intro i a b h1 h2
    simp only [g_ref17_Spread_l1, g_ref17_Spread_l1_b]
    by_cases hi : i < L.length
    · rw [drop_at' hi]
      simp only [dec_lt hi, if_true, inbN hi, chk_true, Int.toNat_natCast, step64 (show i < 1000000 by omega), spM]
      exact ih (i + 1) _ _ (by omega) (by omega)
    · have e : i = L.length := by omega
      subst e
      simp only [dec_ge (Nat.le_refl _), Bool.false_eq_true, if_false, List.drop_length, spM]
theorem spread_def (L : List TBoxtreeBox) (s : TCascadeStyle) (hL : L.length ≤ 20) (hn : 20 < n) : g_ref17_Spread K n L s = some (spM L 0 0) :=
  (spread_loop K n L hL n 0 0 0 (by omega) (by omega)).trans (by simp only [List.drop_zero])
theorem spM_le : ∀ (L : List TBoxtreeBox) (a b : Int), (∀ k ∈ L, (k.Text.size : Int) ≤ 60) → 0 ≤ a → a ≤ b → b + 480 * L.length ≤ 1099511627776 → (spM L a b).1 ≤ (spM L a b).2
  | [], a, b, _, _, h, _ => h
  | k :: r, a, b, hk, h0, h1, h2 => by
    have h3 := hk k (List.mem_cons_self ..)
    simp only [List.length_cons] at h2
    unfold spM
    rw [w64_id (n := 8 * (k.Text.size : Int)) (by omega) (by omega), w64_id (n := b + 8 * (k.Text.size : Int)) (by omega) (by omega)]
    exact spM_le r _ _ (fun k h => hk k (List.mem_cons_of_mem _ h)) (by omega) (by omega) (by omega)
def wiM (W : TBoxtreeBox → Int × Int) : List TBoxtreeBox → Int → Int → Int × Int
  | [], a, b => (a, b)
  | k :: r, a, b => wiM W r (max a (W k).1) (max b (W k).2)
theorem wiM_le (W : TBoxtreeBox → Int × Int) : ∀ (L : List TBoxtreeBox) (a b : Int), (∀ k ∈ L, (W k).1 ≤ (W k).2) → a ≤ b → (wiM W L a b).1 ≤ (wiM W L a b).2
  | [], a, b, _, h => h
  | k :: r, a, b, hk, h => by
    have := hk k (List.mem_cons_self ..)
    unfold wiM
    exact wiM_le W r _ _ (fun k h => hk k (List.mem_cons_of_mem _ h)) (by omega)
theorem inside_wloop (env : TBlockEnv) (v6 : (List TBoxtreeBox) × Bool) (W : TBoxtreeBox → Int × Int) (hL : v6.1.length ≤ 20) (hW : ∀ k ∈ v6.1, K.d_TBoxtreeBox__IntInt env.Widths k = some (W k)) : ∀ (m i : Nat) (a b : Int), i ≤ v6.1.length → v6.1.length < m + i →
    g_block_inside_l1 K n env v6 m a b i = some (limM (wiM W (v6.1.drop i) a b).1, limM (wiM W (v6.1.drop i) a b).2) := by
  intro m
  induction m with
  | zero => intro i a b h1 h2; omega
  | succ m ih =>
    intro i a b h1 h2
    simp only [g_block_inside_l1, g_block_inside_l1_b]
    by_cases hi : i < v6.1.length
    · rw [drop_at' hi]
      simp only [dec_lt hi, if_true, inbN hi, chk_true, Int.toNat_natCast, step64 (show i < 1000000 by omega), hW _ (getD_mem hi), Option.bind_some, wiM]
      exact ih (i + 1) _ _ (by omega) (by omega)
    · have e : i = v6.1.length := by omega
      subst e
      simp only [dec_ge (Nat.le_refl _), Bool.false_eq_true, if_false, List.drop_length, wiM, limit_def, Option.bind_some]
theorem contents_loop (L : List TBoxtreeBox) (W : TBoxtreeBox → Int × Int) (hL : L.length ≤ 20) (hW : ∀ k ∈ L, K.k_g_ref17_Widths k = some (W k)) : ∀ (m i : Nat) (a b : Int), i ≤ L.length → L.length < m + i →
    g_ref17_contents_l1 K n L m a b i = some (limM (wiM W (L.drop i) a b).1, limM (wiM W (L.drop i) a b).2) := by
  intro m
  induction m with
  | zero => intro i a b h1 h2; omega
  | succ m ih =>
    intro i a b h1 h2
    simp only [g_ref17_contents_l1, g_ref17_contents_l1_b]
    by_cases hi : i < L.length
    · rw [drop_at' hi]
      simp only [dec_lt hi, if_true, inbN hi, chk_true, Int.toNat_natCast, step64 (show i < 1000000 by omega), hW _ (getD_mem hi), Option.bind_some, wiM]
      exact ih (i + 1) _ _ (by omega) (by omega)
    · have e : i = L.length := by omega
      subst e
      simp only [dec_ge (Nat.le_refl _), Bool.false_eq_true, if_false, List.drop_length, wiM, rwidth_def, Option.bind_some]
def frM (s : TCascadeStyle) (c : Int) : Int := sumM (edgesM (plainM s) 0 (clampM (plainM s) 0 c))
theorem sum_split (s : TCascadeStyle) (c : Int) : sumM (edgesM s 0 c) = w64 (c + sumM (edgesM s 0 0)) := by
  unfold sumM edgesM
  simp only []
  apply w64_eq
  have w := w64_mod
  generalize (lenM s.Margin.a1 0).1 = m1
  generalize (lenM s.Margin.a3 0).1 = m3
  generalize limM s.Border.a1 = b1
  generalize limM s.Border.a3 = b3
  generalize max (lenM s.Padding.a1 0).1 0 = p1
  generalize max (lenM s.Padding.a3 0).1 0 = p3
  have h1 := w (c + m1); have h2 := w (w64 (c + m1) + m3); have h3 := w (w64 (w64 (c + m1) + m3) + b1); have h4 := w (w64 (w64 (w64 (c + m1) + m3) + b1) + b3); have h5 := w (w64 (w64 (w64 (w64 (c + m1) + m3) + b1) + b3) + p1)
  have g1 := w (0 + m1); have g2 := w (w64 (0 + m1) + m3); have g3 := w (w64 (w64 (0 + m1) + m3) + b1); have g4 := w (w64 (w64 (w64 (0 + m1) + m3) + b1) + b3); have g5 := w (w64 (w64 (w64 (w64 (0 + m1) + m3) + b1) + b3) + p1); have g6 := w (w64 (w64 (w64 (w64 (w64 (0 + m1) + m3) + b1) + b3) + p1) + p3)
  omega
theorem frM_le (s : TCascadeStyle) {c c' : Int} (h : c ≤ c') (hc : c' ≤ 1048576) : frM s c ≤ frM s c' := by
  unfold frM
  generalize plainM s = t
  have hm : clampM t 0 c ≤ clampM t 0 c' ∧ 0 ≤ clampM t 0 c := by
    unfold clampM
    simp only []
    split <;> split <;> omega
  have hbd : ∀ x, clampM t 0 x ≤ max (max x 0) 1048576 := fun x => by
    have := lenM_bd t.MinWidth 0
    unfold clampM
    simp only []
    split <;> split <;> omega
  have b2 := hbd c'
  have e1 := lenM_bd t.Margin.a1 0; have e2 := lenM_bd t.Margin.a3 0; have e3 := lenM_bd t.Padding.a1 0; have e4 := lenM_bd t.Padding.a3 0
  have q1 : 0 ≤ limM t.Border.a1 ∧ limM t.Border.a1 ≤ 1048576 := by unfold limM; omega
  have q3 : 0 ≤ limM t.Border.a3 ∧ limM t.Border.a3 ≤ 1048576 := by unfold limM; omega
  have ex : ∀ x, 0 ≤ x → x ≤ 1048576 → sumM (edgesM t 0 x) = x + (lenM t.Margin.a1 0).1 + (lenM t.Margin.a3 0).1 + limM t.Border.a1 + limM t.Border.a3 + max (lenM t.Padding.a1 0).1 0 + max (lenM t.Padding.a3 0).1 0 := fun x h0 h1 => by
    unfold sumM edgesM
    simp only []
    rw [w64_id (n := x + (lenM t.Margin.a1 0).1) (by omega) (by omega), w64_id (n := x + (lenM t.Margin.a1 0).1 + (lenM t.Margin.a3 0).1) (by omega) (by omega), w64_id (n := x + (lenM t.Margin.a1 0).1 + (lenM t.Margin.a3 0).1 + limM t.Border.a1) (by omega) (by omega), w64_id (n := x + (lenM t.Margin.a1 0).1 + (lenM t.Margin.a3 0).1 + limM t.Border.a1 + limM t.Border.a3) (by omega) (by omega), w64_id (n := x + (lenM t.Margin.a1 0).1 + (lenM t.Margin.a3 0).1 + limM t.Border.a1 + limM t.Border.a3 + max (lenM t.Padding.a1 0).1 0) (by omega) (by omega), w64_id (by omega) (by omega)]
  rw [ex _ hm.2 (by omega), ex _ (by omega) (by omega)]
  omega
end
end Go.Proofs.Ytlpndemhnpajiaa

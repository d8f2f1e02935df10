/- Layer 17, plain: the least and the greatest widths of the program and of the reference. No program in sight. -/
import Derived.Test.YtlpndemhnpajiaaSkQLay
namespace Go.Proofs.Ytlpndemhnpajiaa
set_option linter.all false
open Go.RowKit
def TB : Nat → TBoxtreeBox → Prop
  | 0, _ => False
  | d + 1, b => ∀ k ∈ b.Kids, (k.Kind = 1 → TB d k) ∧ (k.Kind = 3 → (k.Text.size : Int) ≤ 60)
theorem treeT_loop (N n : Nat) (L : List TKnapsackref17Spec) (hL : L.length ≤ 20) (hT : ∀ x ∈ L, (x.Text.size : Int) ≤ 60) (a : Nat) (v3 : Bool) (d : Nat) (ih : v3 = true → ∀ i, a < i → i < L.length → ∃ b i', (KN N).k_g_ref17_Tree L (i : Int) = some (b, ((i' : Nat) : Int)) ∧ i < i' ∧ i' ≤ L.length ∧ GoodB d b ∧ b.Kind = 1 ∧ TB d b) :
    ∀ (m i : Nat) (acc : List TBoxtreeBox), a < i → i ≤ L.length → L.length < m + i → acc.length + a < i → (v3 = true → ∀ k ∈ acc, k.Kind = 1 ∧ GoodB d k ∧ TB d k) → (v3 = false → ∀ k ∈ acc, k.Kind = 3 ∧ (k.Text.size : Int) ≤ 60) →
      ∃ b i', g_ref17_Tree_l3 (KN N) n L a v3 m i acc = some (b, ((i' : Nat) : Int)) ∧ a < i' ∧ i' ≤ L.length ∧ GoodB (d + 1) b ∧ b.Kind = 1 ∧ TB (d + 1) b := by
  intro m
  induction m with
  | zero => intro i acc _ h1 h2; omega
  | succ m ihm =>
    intro i acc h0 h1 h2 h3 hk1 hk3
    have stop : ∃ b i', g_ref17_Tree_j2 (KN N) n L a v3 i acc (g_ref17_Tree_l3 (KN N) n L a v3 m) false = some (b, ((i' : Nat) : Int)) ∧ a < i' ∧ i' ≤ L.length ∧ GoodB (d + 1) b ∧ b.Kind = 1 ∧ TB (d + 1) b := by
      simp only [g_ref17_Tree_j2, Bool.false_eq_true, if_false]
      refine ⟨_, i, rfl, h0, h1, ⟨by show acc.length ≤ 20; omega, ?_⟩, rfl, ?_⟩
      · cases v3 with
        | true => exact .inl fun k hk => ⟨(hk1 rfl k hk).1, (hk1 rfl k hk).2.1⟩
        | false => exact .inr fun k hk => (hk3 rfl k hk).1
      · intro k hk
        cases v3 with
        | true =>
          have h := hk1 rfl k hk
          exact ⟨fun _ => h.2.2, fun e => by rw [h.1] at e; exact absurd e (by decide)⟩
        | false =>
          have h := hk3 rfl k hk
          exact ⟨fun e => by rw [h.1] at e; exact absurd e (by decide), fun _ => h.2⟩
    simp only [g_ref17_Tree_l3, g_ref17_Tree_l3_b]
    by_cases hi : i < L.length
    · simp only [dec_lt hi, if_true, inbN hi, chk_true]
      cases hd : decide ((L.getD (i : Int).toNat default).Depth > (L.getD (a : Int).toNat default).Depth) with
      | false => exact stop
      | true =>
        simp only [g_ref17_Tree_j2, if_true]
        cases v3 with
        | true =>
          obtain ⟨b, i', e1, e2, e3, e4, e5, e6⟩ := ih rfl i h0 hi
          simp only [if_true, e1, Option.bind_some, List.length_cons, List.length_nil]
          rw [fits_of (by omega) (by omega), chk_true]
          exact ihm i' (acc ++ [b]) (by omega) e3 (by omega) (by simp; omega) (fun _ k hk => by
            rcases List.mem_append.1 hk with hk | hk
            · exact hk1 rfl k hk
            · simp only [List.mem_cons, List.not_mem_nil, or_false] at hk; subst hk; exact ⟨e5, e4, e6⟩) (fun h => by cases h)
        | false =>
          simp only [Bool.false_eq_true, if_false, inbN hi, chk_true, List.length_cons, List.length_nil, step64 (show i < 1000000 by omega)]
          rw [fits_of (by omega) (by omega), chk_true]
          exact ihm (i + 1) _ (by omega) (by omega) (by omega) (by simp; omega) (fun h => by cases h) (fun _ k hk => by
            rcases List.mem_append.1 hk with hk | hk
            · exact hk3 rfl k hk
            · simp only [List.mem_cons, List.not_mem_nil, or_false] at hk; subst hk; exact ⟨rfl, hT _ (by simpa using getD_mem hi)⟩)
    · simp only [dec_ge (show L.length ≤ i by omega), Bool.false_eq_true, if_false]
      exact stop
theorem treeT : ∀ (d N : Nat) (L : List TKnapsackref17Spec) (a : Nat), a < L.length → L.length - a ≤ d → L.length ≤ 20 → d + 25 ≤ N → (∀ x ∈ L, (x.Text.size : Int) ≤ 60) → ∃ b i', g_ref17_Tree (KN N) N L (a : Int) = some (b, ((i' : Nat) : Int)) ∧ a < i' ∧ i' ≤ L.length ∧ GoodB d b ∧ b.Kind = 1 ∧ TB d b
  | 0, _, _, _, _, _, _, _, _ => by omega
  | d + 1, 0, _, _, _, _, _, h, _ => by omega
  | d + 1, N + 1, L, a, h1, h2, hL, hN, hT => by
    have lp : ∀ v3 : Bool, ∃ b i', g_ref17_Tree_l3 (KN (N + 1)) (N + 1) L a v3 (N + 1) ((a + 1 : Nat) : Int) [] = some (b, ((i' : Nat) : Int)) ∧ a < i' ∧ i' ≤ L.length ∧ GoodB (d + 1) b ∧ b.Kind = 1 ∧ TB (d + 1) b := fun v3 =>
      treeT_loop (N + 1) (N + 1) L hL hT a v3 d (fun _ i h3 h4 => treeT d N L i h4 (by omega) hL (by omega) hT) (N + 1) (a + 1) [] (by omega) (by omega) (by omega) (by simp) (fun _ k hk => by cases hk) (fun _ k hk => by cases hk)
    unfold g_ref17_Tree
    simp only [inbN h1, chk_true, step64 (show a < 1000000 by omega), g_ref17_Tree_j1]
    by_cases hi : a + 1 < L.length
    · simp only [dec_lt hi, if_true, inbN hi, chk_true]
      split
      · exact lp _
      · exact lp _
    · simp only [dec_ge (show L.length ≤ a + 1 by omega), Bool.false_eq_true, if_false]
      exact lp _
end Go.Proofs.Ytlpndemhnpajiaa

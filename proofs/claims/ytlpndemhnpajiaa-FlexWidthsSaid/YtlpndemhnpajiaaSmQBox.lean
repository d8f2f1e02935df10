/- Layer 19, plain: flex containers out of descriptions. No program in sight. -/
import Derived.Test.YtlpndemhnpajiaaSmQWidA
namespace Go.Proofs.Ytlpndemhnpajiaa
set_option linter.all false
open Go.RowKit
theorem treeI_loop (P : TBoxtreeBox → Prop) (N n : Nat) (L : List TKnapsackref17Spec) (hL : L.length ≤ 20) (a : Nat) (ih : ∀ i, a < i → i < L.length → ∃ b i', (KN N).k_g_ref17_Tree L (i : Int) = some (b, ((i' : Nat) : Int)) ∧ i < i' ∧ i' ≤ L.length ∧ P b) :
    ∀ (m i : Nat) (acc : List TBoxtreeBox), a < i → i ≤ L.length → L.length < m + i → acc.length + a < i → (∀ k ∈ acc, P k) →
      ∃ b i', g_ref17_Tree_l3 (KN N) n L a true m i acc = some (b, ((i' : Nat) : Int)) ∧ (∀ k ∈ b.Kids, P k) ∧ b.Kids.length ≤ 20 := by
  intro m
  induction m with
  | zero => intro i acc _ h1 h2; omega
  | succ m ihm =>
    intro i acc h0 h1 h2 h3 hk1
    have stop : ∃ b i', g_ref17_Tree_j2 (KN N) n L a true i acc (g_ref17_Tree_l3 (KN N) n L a true m) false = some (b, ((i' : Nat) : Int)) ∧ (∀ k ∈ b.Kids, P k) ∧ b.Kids.length ≤ 20 := by
      simp only [g_ref17_Tree_j2, Bool.false_eq_true, if_false]
      exact ⟨_, i, rfl, hk1, by show acc.length ≤ 20; omega⟩
    simp only [g_ref17_Tree_l3, g_ref17_Tree_l3_b]
    by_cases hi : i < L.length
    · simp only [dec_lt hi, if_true, inbN hi, chk_true]
      cases hd : decide ((L.getD (i : Int).toNat default).Depth > (L.getD (a : Int).toNat default).Depth) with
      | false => exact stop
      | true =>
        simp only [g_ref17_Tree_j2, if_true]
        obtain ⟨b, i', e1, e2, e3, e4⟩ := ih i h0 hi
        simp only [if_true, e1, Option.bind_some, List.length_cons, List.length_nil]
        rw [fits_of (by omega) (by omega), chk_true]
        exact ihm i' (acc ++ [b]) (by omega) e3 (by omega) (by simp; omega) (fun k hk => by
          rcases List.mem_append.1 hk with hk | hk
          · exact hk1 k hk
          · simp only [List.mem_cons, List.not_mem_nil, or_false] at hk; subst hk; exact e4)
    · simp only [dec_ge (show L.length ≤ i by omega), Bool.false_eq_true, if_false]
      exact stop
structure Kd (k : TBoxtreeBox) : Prop where
  kind : k.Kind = 1
  good : GoodB 20 k
  text : TB 20 k
structure Bx (b : TBoxtreeBox) : Prop where
  len : b.Kids.length ≤ 20
  kids : ∀ k ∈ b.Kids, Kd k
structure Fits (L : List TKnapsackref17Spec) : Prop where
  len : L.length ≤ 16 ∧ 1 < L.length
  few : ∀ x ∈ L, FewS x
  deep : (L.getD 1 default).Depth > (L.getD 0 default).Depth
  kind : (Int.tmod (L.getD 1 default).Kind 2 == 0) = true
theorem fits_tot (K : Kn) (n : Nat) (L : List TKnapsackref17Spec) (hL : (L.length : Int) ≤ 9223372036854775807) (hn : L.length < n) : ∃ b, g_law19_fits K n L = some b ∧ (b = true → Fits L) := by
  obtain ⟨v, hv, hv2⟩ := few_tot K n L 16 hL hn
  unfold g_law19_fits
  simp only [hv, Option.bind_some, g_law19_fits_j1]
  cases v with
  | false => exact ⟨false, rfl, fun h => by cases h⟩
  | true =>
    have h := hv2 rfl
    simp only [if_true]
    by_cases h1 : (L.length : Int) > 1
    · have i1 : inb (1 : Int) L.length = true := inb_of (by omega) h1
      have i0 : inb (0 : Int) L.length = true := inb_of (by omega) (by omega)
      simp only [h1, decide_true, if_true, i1, i0, chk_true]
      by_cases h2 : (L.getD (1 : Int).toNat default).Depth > (L.getD (0 : Int).toNat default).Depth
      · simp only [h2, decide_true, if_true]
        exact ⟨_, rfl, fun e => ⟨by omega, h.2, h2, e⟩⟩
      · simp only [h2, decide_false, Bool.false_eq_true, if_false]
        exact ⟨_, rfl, fun e => by cases e⟩
    · simp only [h1, decide_false, Bool.false_eq_true, if_false]
      exact ⟨_, rfl, fun e => by cases e⟩
theorem box_ok (N : Nat) (L : List TKnapsackref17Spec) (h : Fits L) (hN : 60 ≤ N) : ∃ b, g_law19_box (KN N) N L = some b ∧ Bx b := by
  obtain ⟨M, rfl⟩ : ∃ M, N = M + 1 := ⟨N - 1, by omega⟩
  have hl := h.len
  have lp := treeI_loop Kd (M + 1) (M + 1) L (by omega) 0 (fun i h3 h4 => by
    obtain ⟨b, i', e1, e2, e3, e4, e5, e6⟩ := treeT 20 M L i h4 (by omega) (by omega) (by omega) (fun x hx => (h.few x hx).text)
    exact ⟨b, i', e1, e2, e3, ⟨e5, e4, e6⟩⟩) (M + 1) (0 + 1) [] (by omega) (by omega) (by omega) (by simp) (fun _ hk => by cases hk)
  obtain ⟨b, i', e1, e2, e3⟩ := lp
  refine ⟨{ b with Kind := 6 }, ?_, ⟨e3, e2⟩⟩
  unfold g_law19_box g_ref17_Tree
  have i0 : inb (0 : Int) L.length = true := inb_of (by omega) (by omega)
  have i1 : inb (1 : Int) L.length = true := inb_of (by omega) (by omega)
  have w1 : w64 ((0 : Int) + 1) = 1 := w64_id (by omega) (by omega)
  have d1 : decide ((1 : Int) < (L.length : Int)) = true := by rw [decide_eq_true_eq]; omega
  have d2 : decide ((L.getD (1 : Int).toNat default).Depth > (L.getD (0 : Int).toNat default).Depth) = true := decide_eq_true h.deep
  have d3 : (Int.tmod (L.getD (1 : Int).toNat default).Kind 2 == 0) = true := h.kind
  simp only [i0, i1, w1, d1, d2, d3, chk_true, if_true, g_ref17_Tree_j1]
  rw [show g_ref17_Tree_l3 (KN (M + 1)) (M + 1) L 0 true (M + 1) 1 [] = _ from e1]
  rfl
end Go.Proofs.Ytlpndemhnpajiaa

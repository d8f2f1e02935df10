/- Layer 17, plain: trees of boxes without negative margins, and how many boxes they hold; heights and margins of what is laid out. No program in sight. -/
import Derived.Test.YtkciiamllegclaaSrQTree
namespace Go.Proofs.Ytkciiamllegclaa
set_option linter.all false
open Go.RowKit
/-- A style without negative margins. -/
def Nice (s : TCascadeStyle) : Prop := 0 ≤ s.Margin.a0.Value ∧ 0 ≤ s.Margin.a1.Value ∧ 0 ≤ s.Margin.a2.Value ∧ 0 ≤ s.Margin.a3.Value ∧ 0 ≤ s.LineHeight ∧ s.LineHeight ≤ 65536
def Sz : Nat → TBoxtreeBox → Nat
  | 0, _ => 0
  | d + 1, b => 1 + (b.Kids.map (Sz d)).sum
def NB : Nat → TBoxtreeBox → Prop
  | 0, _ => False
  | d + 1, b => Nice b.Style ∧ ∀ k ∈ b.Kids, k.Kind = 1 → NB d k
theorem sz_leaf {d : Nat} {b : TBoxtreeBox} (h : b.Kids = []) : Sz d b ≤ 1 := by
  cases d with
  | zero => simp [Sz]
  | succ d => simp [Sz, h]
theorem treeN_loop (N n : Nat) (L : List TKnapsackref17Spec) (hL : L.length ≤ 20) (hN : ∀ x ∈ L, Nice x.Style) (a : Nat) (ha : a < L.length) (v3 : Bool) (p : Prop) (hp : p → v3 = true) (d : Nat) (ih : v3 = true → ∀ i, a < i → i < L.length → ∃ b i', (KN N).k_g_ref17_Tree L (i : Int) = some (b, ((i' : Nat) : Int)) ∧ i < i' ∧ i' ≤ L.length ∧ GoodB d b ∧ b.Kind = 1 ∧ NB d b ∧ Sz d b + i ≤ i') :
    ∀ (m i : Nat) (acc : List TBoxtreeBox), a < i → i ≤ L.length → L.length < m + i → acc.length + a < i → (acc.map (Sz d)).sum + a + 1 ≤ i → (v3 = true → ∀ k ∈ acc, k.Kind = 1 ∧ GoodB d k ∧ NB d k) → (v3 = false → ∀ k ∈ acc, k.Kind = 3) →
      ∃ b i', g_ref17_Tree_l3 (KN N) n L a v3 m i acc = some (b, ((i' : Nat) : Int)) ∧ a < i' ∧ i' ≤ L.length ∧ GoodB (d + 1) b ∧ b.Kind = 1 ∧ NB (d + 1) b ∧ Sz (d + 1) b + a ≤ i' ∧ (p → ∀ k ∈ b.Kids, k.Kind = 1) := by
  intro m
  induction m with
  | zero => intro i acc _ h1 h2; omega
  | succ m ihm =>
    intro i acc h0 h1 h2 h3 h4 hk1 hk3
    have stop : ∃ b i', g_ref17_Tree_j2 (KN N) n L a v3 i acc (g_ref17_Tree_l3 (KN N) n L a v3 m) false = some (b, ((i' : Nat) : Int)) ∧ a < i' ∧ i' ≤ L.length ∧ GoodB (d + 1) b ∧ b.Kind = 1 ∧ NB (d + 1) b ∧ Sz (d + 1) b + a ≤ i' ∧ (p → ∀ k ∈ b.Kids, k.Kind = 1) := by
      simp only [g_ref17_Tree_j2, Bool.false_eq_true, if_false]
      refine ⟨_, i, rfl, h0, h1, ⟨by show acc.length ≤ 20; omega, ?_⟩, rfl, ⟨hN _ (by simpa using getD_mem ha), ?_⟩, ?_, fun e k hk => (hk1 (hp e) k hk).1⟩
      · cases v3 with
        | true => exact .inl fun k hk => ⟨(hk1 rfl k hk).1, (hk1 rfl k hk).2.1⟩
        | false => exact .inr (hk3 rfl)
      · intro k hk e
        cases v3 with
        | true => exact (hk1 rfl k hk).2.2
        | false => have := hk3 rfl k hk; omega
      · show 1 + (acc.map (Sz d)).sum + a ≤ i
        omega
    simp only [g_ref17_Tree_l3, g_ref17_Tree_l3_b]
    by_cases hi : i < L.length
    · simp only [dec_lt hi, if_true, inbN hi, chk_true]
      cases hd : decide ((L.getD (i : Int).toNat default).Depth > (L.getD (a : Int).toNat default).Depth) with
      | false => exact stop
      | true =>
        simp only [g_ref17_Tree_j2, if_true]
        cases v3 with
        | true =>
          obtain ⟨b, i', e1, e2, e3, e4, e5, e6, e7⟩ := ih rfl i h0 hi
          simp only [if_true, e1, Option.bind_some, List.length_cons, List.length_nil]
          rw [fits_of (by omega) (by omega), chk_true]
          exact ihm i' (acc ++ [b]) (by omega) e3 (by omega) (by simp; omega) (by simp; omega) (fun _ k hk => by
            rcases List.mem_append.1 hk with hk | hk
            · exact hk1 rfl k hk
            · simp only [List.mem_cons, List.not_mem_nil, or_false] at hk; subst hk; exact ⟨e5, e4, e6⟩) (fun h => by cases h)
        | false =>
          simp only [Bool.false_eq_true, if_false, inbN hi, chk_true, List.length_cons, List.length_nil, step64 (show i < 1000000 by omega)]
          rw [fits_of (by omega) (by omega), chk_true]
          refine ihm (i + 1) (acc ++ [{ zTBoxtreeBox with Kind := 3, Style := (L.getD (i : Int).toNat default).Style, Text := (L.getD (i : Int).toNat default).Text }]) (by omega) (by omega) (by omega) (by simp; omega) ?_ (fun h => by cases h) (fun _ k hk => by
            rcases List.mem_append.1 hk with hk | hk
            · exact hk3 rfl k hk
            · simp only [List.mem_cons, List.not_mem_nil, or_false] at hk; subst hk; rfl)
          rw [List.map_append, List.sum_append, List.map_cons, List.map_nil, List.sum_cons, List.sum_nil]
          have hz : Sz d { zTBoxtreeBox with Kind := 3, Style := (L.getD (i : Int).toNat default).Style, Text := (L.getD (i : Int).toNat default).Text } ≤ 1 := sz_leaf rfl
          revert hz
          generalize Sz d { zTBoxtreeBox with Kind := 3, Style := (L.getD (i : Int).toNat default).Style, Text := (L.getD (i : Int).toNat default).Text } = q
          intro hz
          omega
    · simp only [dec_ge (show L.length ≤ i by omega), Bool.false_eq_true, if_false]
      exact stop
theorem treeN : ∀ (d N : Nat) (L : List TKnapsackref17Spec) (a : Nat), a < L.length → L.length - a ≤ d → L.length ≤ 20 → d + 25 ≤ N → (∀ x ∈ L, Nice x.Style) → ∃ b i', g_ref17_Tree (KN N) N L (a : Int) = some (b, ((i' : Nat) : Int)) ∧ a < i' ∧ i' ≤ L.length ∧ GoodB d b ∧ b.Kind = 1 ∧ NB d b ∧ Sz d b + a ≤ i' ∧
      ((∃ h : a + 1 < L.length, (L.getD (a + 1) default).Depth > (L.getD a default).Depth ∧ (Int.tmod (L.getD (a + 1) default).Kind 2 == 0) = true) → ∀ k ∈ b.Kids, k.Kind = 1)
  | 0, _, _, _, _, _, _, _, _ => by omega
  | d + 1, 0, _, _, _, _, _, h, _ => by omega
  | d + 1, N + 1, L, a, h1, h2, hL, hN, hNi => by
    have lp' : ∀ v3 : Bool, ((∃ h : a + 1 < L.length, (L.getD (a + 1) default).Depth > (L.getD a default).Depth ∧ (Int.tmod (L.getD (a + 1) default).Kind 2 == 0) = true) → v3 = true) → ∃ b i', g_ref17_Tree_l3 (KN (N + 1)) (N + 1) L a v3 (N + 1) ((a + 1 : Nat) : Int) [] = some (b, ((i' : Nat) : Int)) ∧ a < i' ∧ i' ≤ L.length ∧ GoodB (d + 1) b ∧ b.Kind = 1 ∧ NB (d + 1) b ∧ Sz (d + 1) b + a ≤ i' ∧
        ((∃ h : a + 1 < L.length, (L.getD (a + 1) default).Depth > (L.getD a default).Depth ∧ (Int.tmod (L.getD (a + 1) default).Kind 2 == 0) = true) → ∀ k ∈ b.Kids, k.Kind = 1) := fun v3 hv =>
      treeN_loop (N + 1) (N + 1) L hL hNi a h1 v3 _ hv d (fun _ i h3 h4 => by
        obtain ⟨b, i', e1, e2, e3, e4, e5, e6, e7, _⟩ := treeN d N L i h4 (by omega) hL (by omega) hNi
        exact ⟨b, i', e1, e2, e3, e4, e5, e6, e7⟩) (N + 1) (a + 1) [] (by omega) (by omega) (by omega) (by simp) (by simp) (fun _ k hk => by cases hk) (fun _ k hk => by cases hk)
    unfold g_ref17_Tree
    simp only [inbN h1, chk_true, step64 (show a < 1000000 by omega), g_ref17_Tree_j1]
    by_cases hi : a + 1 < L.length
    · simp only [dec_lt hi, if_true, inbN hi, chk_true]
      split
      · refine lp' _ fun ⟨_, _, h⟩ => ?_
        simpa using h
      · rename_i hc
        refine lp' _ fun ⟨_, h, _⟩ => ?_
        exfalso; apply hc; simpa using h
    · simp only [dec_ge (show L.length ≤ a + 1 by omega), Bool.false_eq_true, if_false]
      exact lp' _ fun ⟨h, _⟩ => absurd h hi
end Go.Proofs.Ytkciiamllegclaa

/- Layer 19: the fixed example, equal lists, sums. No program in sight. -/
import Derived.Test.YtlpndemhnpajiaaSgQb
namespace Go.Proofs.Ytlpndemhnpajiaa
set_option linter.all false
open Go.RowKit
set_option maxRecDepth 20000
theorem fit_ok (k : Nat) : g_law19_fit (KN (k + 12)) (k + 12) = some true := by kernel_rfl
theorem fit_ok' {n : Nat} (h : 12 ≤ n) : g_law19_fit (KN n) n = some true := by
  obtain ⟨k, rfl⟩ : ∃ k, n = k + 12 := ⟨n - 12, by omega⟩
  exact fit_ok k
theorem w64_suc {i b : Nat} (h : i < b) (hb : b ≤ 4611686018427387904) : w64 ((i : Int) + 1) = ((i + 1 : Nat) : Int) := by rw [w64_id (by omega) (by omega)]; omega
theorem tnat (i : Nat) : ((i : Int)).toNat = i := by omega
theorem equal_loop (K : Kn) (n : Nat) (L : List Int) (hL : L.length ≤ 4611686018427387904) : ∀ (m i : Nat), i ≤ L.length → L.length < m + i → g_law19_equal_l1 K n L L m i = some true := by
  intro m
  induction m with
  | zero => intro i h1 h2; omega
  | succ m ih =>
    intro i h1 h2
    simp only [g_law19_equal_l1, g_law19_equal_l1_b]
    by_cases hi : i < L.length
    · have hlt : (i : Int) < (L.length : Int) := by omega
      have hne : ((List.getD L i default) != (List.getD L i default)) = false := by simp
      simp only [hlt, decide_true, if_true, inb_of (by omega) hlt, chk_true, Option.bind_some, tnat, hne, Bool.false_eq_true, if_false, w64_suc hi hL]
      exact ih (i + 1) (by omega) (by omega)
    · have hd : decide ((i : Int) < (L.length : Int)) = false := by simp; omega
      simp only [hd, Bool.false_eq_true, if_false]
theorem equal_self (K : Kn) {n : Nat} (L : List Int) (hn : L.length < n) (hL : L.length ≤ 4611686018427387904) : g_law19_equal K n L L = some true := by
  unfold g_law19_equal
  have : ((L.length : Int) != (L.length : Int)) = false := by simp
  simp only [this, Bool.false_eq_true, if_false]
  exact equal_loop K n L hL n 0 (by omega) (by omega)
/-- The sum of a list. -/
def sm : List Int → Int
  | [] => 0
  | x :: r => x + sm r
theorem sm_app : ∀ (a b : List Int), sm (a ++ b) = sm a + sm b
  | [], b => by simp [sm]
  | x :: r, b => by simp only [List.cons_append, sm, sm_app r b]; omega
theorem sm_bd {B : Int} (hB : 0 ≤ B) : ∀ (a : List Int), (∀ x ∈ a, -B ≤ x ∧ x ≤ B) → -(a.length * B) ≤ sm a ∧ sm a ≤ a.length * B
  | [], _ => by simp [sm]
  | x :: r, h => by
    have h1 := h x (by simp)
    have h2 := sm_bd hB r (fun y hy => h y (by simp [hy]))
    have e : ((x :: r).length : Int) * B = r.length * B + B := by simp [Int.add_mul]
    simp only [sm]; rw [e]; omega
theorem sm_step (l : List Int) {a i : Nat} (ha : a ≤ i) (hi : i < l.length) : sm (List.drop a (List.take (i + 1) l)) = sm (List.drop a (List.take i l)) + l.getD i default := by
  rw [getD_get hi, List.take_succ_eq_append_getElem hi, List.drop_append_of_le_length (by simp; omega), sm_app]; simp [sm]
theorem sum_loop (K : Kn) (n : Nat) (L : List Int) {B : Int} (hB : 0 ≤ B) (hL : ∀ x ∈ L, -B ≤ x ∧ x ≤ B) (hb : L.length * B ≤ 4611686018427387904) (hl : L.length ≤ 4611686018427387904) : ∀ (m i : Nat) (s : Int), i ≤ L.length → L.length < m + i → -(i * B) ≤ s → s ≤ i * B →
    g_law19_sum_l1 K n L m s i = some (s + sm (L.drop i)) := by
  intro m
  induction m with
  | zero => intro i s h1 h2; omega
  | succ m ih =>
    intro i s h1 h2 h3 h4
    simp only [g_law19_sum_l1, g_law19_sum_l1_b]
    by_cases hi : i < L.length
    · have hlt : (i : Int) < (L.length : Int) := by omega
      have hx := hL L[i] (List.getElem_mem _)
      have e1 : ((i + 1 : Nat) : Int) * B = i * B + B := by simp [Int.add_mul]
      have e2 : ((i + 1 : Nat) : Int) * B ≤ L.length * B := Int.mul_le_mul_of_nonneg_right (by omega) hB
      have hw : w64 (s + L.getD i default) = s + L[i] := by rw [getD_get hi]; exact w64_id (by omega) (by omega)
      simp only [hlt, decide_true, if_true, inb_of (by omega) hlt, chk_true, tnat, hw, w64_suc hi hl]
      rw [ih (i + 1) (s + L[i]) (by omega) (by omega) (by omega) (by omega), List.drop_eq_getElem_cons hi]
      simp only [sm]; congr 1; omega
    · have hd : decide ((i : Int) < (L.length : Int)) = false := by simp; omega
      simp only [hd, Bool.false_eq_true, if_false, List.drop_eq_nil_of_le (show L.length ≤ i by omega), sm]; congr 1; omega
theorem sum_ok (K : Kn) {n : Nat} (L : List Int) {B : Int} (hB : 0 ≤ B) (hL : ∀ x ∈ L, -B ≤ x ∧ x ≤ B) (hb : L.length * B ≤ 4611686018427387904) (hl : L.length ≤ 4611686018427387904) (hn : L.length < n) : g_law19_sum K n L = some (sm L) := by
  unfold g_law19_sum
  have := sum_loop K n L hB hL hb hl n 0 0 (by omega) (by omega) (by simp) (by simp)
  rw [show ((0 : Nat) : Int) = 0 from rfl] at this
  rw [this]; simp
end Go.Proofs.Ytlpndemhnpajiaa

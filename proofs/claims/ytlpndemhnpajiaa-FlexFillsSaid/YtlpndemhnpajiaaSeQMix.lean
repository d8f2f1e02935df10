/- Lists that are turned into others from the left to the right. No program in sight. -/
import Derived.Test.YtlpndemhnpajiaaSeQb
namespace Go.Proofs.Ytlpndemhnpajiaa
set_option linter.all false
open Go.RowKit
/-- the first i are those of the new list -/
def mix {α : Type} (i : Nat) (N O : List α) : List α := N.take i ++ O.drop i
variable {α : Type} [Inhabited α] {i : Nat} {N O : List α}
theorem mix_len (h : N.length = O.length) : (mix i N O).length = O.length := by unfold mix; simp; omega
theorem mix_zero : mix 0 N O = O := by simp [mix]
theorem mix_full (h : N.length = O.length) : mix O.length N O = N := by unfold mix; rw [List.take_of_length_le (by omega), List.drop_eq_nil_of_le (Nat.le_refl _), List.append_nil]
theorem mix_at (h : N.length = O.length) (hi : i < O.length) : (mix i N O).getD i default = O.getD i default := by
  unfold mix
  rw [List.drop_eq_getElem_cons hi, List.getD_eq_getElem?_getD, List.getElem?_append_right (by simp; omega)]
  have : i - (N.take i).length = 0 := by simp; omega
  rw [this, getD_get hi]; rfl
theorem mix_lt (h : N.length = O.length) {k : Nat} (hk : k < i) (hi : i ≤ O.length) : (mix i N O).getD k default = N.getD k default := by
  unfold mix
  rw [List.getD_eq_getElem?_getD, List.getElem?_append_left (by simp; omega), List.getElem?_take_of_lt hk, List.getD_eq_getElem?_getD]
theorem mix_ge (h : N.length = O.length) {k : Nat} (hk : i ≤ k) (hi : k < O.length) : (mix i N O).getD k default = O.getD k default := by
  unfold mix
  rw [List.getD_eq_getElem?_getD, List.getElem?_append_right (by simp; omega), List.getD_eq_getElem?_getD, List.getElem?_drop]
  congr 2; simp; omega
theorem mix_succ (h : N.length = O.length) (hi : i < O.length) : mix (i + 1) N O = N.take i ++ N.getD i default :: O.drop (i + 1) := by
  unfold mix
  rw [List.take_succ_eq_append_getElem (by omega : i < N.length), getD_get (by omega : i < N.length), List.append_assoc]
  rfl
theorem mix_set (h : N.length = O.length) (hi : i < O.length) : List.set (mix i N O) i (N.getD i default) = mix (i + 1) N O := by
  rw [mix_succ h hi]
  unfold mix
  rw [List.drop_eq_getElem_cons hi]
  have : i = (N.take i).length + 0 := by simp; omega
  conv => lhs; arg 2; rw [this]
  rw [List.set_append_right _ _ (by omega), Nat.add_sub_cancel_left, List.set_cons_zero]
theorem mix_keep (h : N.length = O.length) (hi : i < O.length) (e : N.getD i default = O.getD i default) : mix (i + 1) N O = mix i N O := by
  rw [mix_succ h hi, e]
  unfold mix
  rw [List.drop_eq_getElem_cons hi, getD_get hi]
theorem mix_get_succ (h : N.length = O.length) (hi : i < O.length) : (mix (i + 1) N O).getD i default = N.getD i default := mix_lt h (by omega) (by omega)
/-- a list by its places -/
def tab (n : Nat) (f : Nat → α) : List α := (List.range n).map f
theorem tab_len (n : Nat) (f : Nat → α) : (tab n f).length = n := by simp [tab]
theorem tab_at {n : Nat} {f : Nat → α} {k : Nat} (h : k < n) : (tab n f).getD k default = f k := by
  rw [getD_get (by rw [tab_len]; exact h)]; simp [tab]
theorem tab_ext {L M : List α} (h : L.length = M.length) (e : ∀ k, k < M.length → L.getD k default = M.getD k default) : L = M := by
  refine List.ext_getElem h (fun k h1 h2 => ?_)
  have := e k h2
  rw [getD_get h1, getD_get h2] at this; exact this
theorem tab_take {n : Nat} {f : Nat → α} {i : Nat} (h : i ≤ n) : (tab n f).take i = tab i f := by
  unfold tab; rw [← List.map_take, List.take_range, Nat.min_eq_left h]
theorem tab_succ {n : Nat} {f : Nat → α} : tab (n + 1) f = tab n f ++ [f n] := by simp [tab, List.range_succ]
end Go.Proofs.Ytlpndemhnpajiaa

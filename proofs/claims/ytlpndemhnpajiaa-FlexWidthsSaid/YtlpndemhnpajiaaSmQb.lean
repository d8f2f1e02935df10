/- Plain laws about the plain functions: words for all of them. No program in sight. -/
import Derived.Test.YtlpndemhnpajiaaSmGf
namespace Go.Proofs.Ytlpndemhnpajiaa
set_option linter.all false
open Go.RowKit
theorem w64_id {n : Int} (h1 : -9223372036854775808 ≤ n) (h2 : n ≤ 9223372036854775807) : w64 n = n := by
  unfold w64; rw [IntKind.wrap_i64]; omega
theorem chk_true {α : Type} (x : Option α) : chk true x = x := rfl
theorem inb_of {i : Int} {n : Nat} (h0 : 0 ≤ i) (h1 : i < n) : inb i n = true := by simp [inb, h0, h1]
theorem getD_get {α : Type} [Inhabited α] {L : List α} {k : Nat} (h : k < L.length) : L.getD k default = L[k] := by simp [List.getD_eq_getElem?_getD, List.getElem?_eq_getElem h]
theorem fits_of {n b : Nat} (h : n * b ≤ 140737488355328) (hb : 0 < b) : fits n b = true := by
  have h1 : n ≤ n * b := Nat.le_mul_of_pos_right n hb
  have h2 : n ≤ 9223372036854775807 := by omega
  simp only [fits, Bool.and_eq_true, decide_eq_true_eq]
  exact ⟨h2, h⟩
end Go.Proofs.Ytlpndemhnpajiaa

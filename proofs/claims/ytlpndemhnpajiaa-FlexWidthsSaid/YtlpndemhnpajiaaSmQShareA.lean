/- Sharing a number in proportion to weights, as plain lists. No program in sight. -/
import Derived.Test.YtlpndemhnpajiaaSmQFx
import Derived.Test.YtlpndemhnpajiaaSmQSortD
namespace Go.Proofs.Ytlpndemhnpajiaa
set_option linter.all false
open Go.RowKit
namespace Sh
def idx (n : Nat) : List Int := (List.range n).map fun (k : Nat) => (k : Int)
instance (key : Int → Int) (a b : Int) : Decidable (QSort.R key a b) := by unfold QSort.R; infer_instance
theorem idx_len (n : Nat) : (idx n).length = n := by simp [idx]
theorem idx_mem {n : Nat} {x : Int} : x ∈ idx n ↔ ∃ k : Nat, k < n ∧ x = k := by
  simp only [idx, List.mem_map, List.mem_range]
  exact ⟨fun ⟨k, h, e⟩ => ⟨k, h, e.symm⟩, fun ⟨k, h, e⟩ => ⟨k, h, e.symm⟩⟩
def key (rs : List Int) (a : Int) : Int := - rs.getD a.toNat default
structure Ord (rs d : List Int) : Prop where
  p : d.Perm (idx rs.length)
  s : d.Pairwise (QSort.R (key rs))
theorem Ord.mem {rs d : List Int} (h : Ord rs d) {x : Int} : x ∈ d ↔ ∃ k : Nat, k < rs.length ∧ x = k := by rw [h.p.mem_iff, idx_mem]
theorem Ord.len {rs d : List Int} (h : Ord rs d) : d.length = rs.length := by rw [h.p.length_eq, idx_len]
end Sh
end Go.Proofs.Ytlpndemhnpajiaa

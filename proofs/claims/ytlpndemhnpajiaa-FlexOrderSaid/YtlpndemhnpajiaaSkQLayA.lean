/- Layer 17, plain: kids in flow, lines, fragments moved, fragments compared with themselves, trees of boxes. No program in sight. -/
import Derived.Test.YtlpndemhnpajiaaSkQb
import Derived.Test.YtlpndemhnpajiaaSkQSize
namespace Go.Proofs.Ytlpndemhnpajiaa
set_option linter.all false
open Go.RowKit
theorem step64 {i : Nat} (h : i < 1000000) : w64 ((i : Int) + 1) = ((i + 1 : Nat) : Int) := by rw [w64_id (by omega) (by omega)]; omega
theorem dec_lt {i n : Nat} (h : i < n) : decide ((i : Int) < (n : Int)) = true := by simpa using h
theorem dec_ge {i n : Nat} (h : n ≤ i) : decide ((i : Int) < (n : Int)) = false := by simpa using h
theorem inbN {i n : Nat} (h : i < n) : inb (i : Int) n = true := inb_of (by omega) (by omega)
theorem getD_mem {α : Type} [Inhabited α] {L : List α} {i : Nat} (h : i < L.length) : L.getD i default ∈ L := by
  rw [getD_get h]; exact List.getElem_mem h
def inM (k : TBoxtreeBox) : Bool := k.Kind == 3 || k.Style.Position != 2
theorem flow_def (K : Kn) (n : Nat) (k : TBoxtreeBox) : g_block_Flow K n k = some (inM k) := by
  unfold g_block_Flow inM g_block_Flow_j1; cases h : k.Kind == 3 <;> simp
theorem in_def (K : Kn) (n : Nat) (k : TBoxtreeBox) : g_ref17_In K n k = some (inM k) := by
  unfold g_ref17_In inM g_ref17_In_j1; cases h : k.Kind == 3 <;> simp
end Go.Proofs.Ytlpndemhnpajiaa

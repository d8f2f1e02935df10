/- Arguments of the laws' types as typed values. Made by a program. -/
import Derived.Test.YtlpndemhnpajiaaFr
import Derived.Test.YtlpndemhnpajiaaSaGt
import Derived.Test.YtlpndemhnpajiaaProg
namespace Go.Proofs.Ytlpndemhnpajiaa
open Go.RowKit
set_option maxRecDepth 20000
set_option linter.all false
theorem op_t3 {cs : List AV} (h : HasT Try.prog 3 cs) : ∃ x : Int, cs = (eInt .i64) x := by
  obtain ⟨n, rfl, _⟩ := h.int_inv Try.underlying3
  exact ⟨n, rfl⟩
theorem op_t22 {cs : List AV} (h : HasT Try.prog 22 cs) : ∃ x : (List Int), cs = (eSl (eInt .i64)) x := by
  obtain ⟨l, rfl, _, _, hc⟩ := h.sl_inv Try.underlying22
  obtain ⟨L, rfl⟩ := list_map_open (e := (eInt .i64)) (fun c hcm => op_t3 (hc c hcm))
  exact ⟨L, rfl⟩
end Go.Proofs.Ytlpndemhnpajiaa

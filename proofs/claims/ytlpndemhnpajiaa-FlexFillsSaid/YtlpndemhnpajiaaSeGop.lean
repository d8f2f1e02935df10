/- Arguments of the laws' types as typed values. Made by a program. -/
import Derived.Test.YtlpndemhnpajiaaFr
import Derived.Test.YtlpndemhnpajiaaSeGt
import Derived.Test.YtlpndemhnpajiaaProg
namespace Go.Proofs.Ytlpndemhnpajiaa
open Go.RowKit
set_option maxRecDepth 20000
set_option linter.all false
theorem op_t32 {cs : List AV} (h : HasT Try.prog 32 cs) : ∃ x : Int, cs = (eInt .u16) x := by
  obtain ⟨n, rfl, _⟩ := h.int_inv Try.underlying32
  exact ⟨n, rfl⟩
theorem op_t31 {cs : List AV} (h : HasT Try.prog 31 cs) : ∃ x : (List Int), cs = (eSl (eInt .u16)) x := by
  obtain ⟨l, rfl, _, _, hc⟩ := h.sl_inv Try.underlying31
  obtain ⟨L, rfl⟩ := list_map_open (e := (eInt .u16)) (fun c hcm => op_t32 (hc c hcm))
  exact ⟨L, rfl⟩
end Go.Proofs.Ytlpndemhnpajiaa

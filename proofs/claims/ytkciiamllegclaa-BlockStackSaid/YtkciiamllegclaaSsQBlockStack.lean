/- BlockStack, plain: true of every list that can be handed in. -/
import Derived.Test.YtkciiamllegclaaSsQStack
import Derived.Test.YtkciiamllegclaaSsGop
namespace Go.Proofs.Ytkciiamllegclaa.QBlockStack
set_option linter.all false
open Go.RowKit
theorem holds (x0 : (List TBlockFragment)) (h0 : HasT Try.prog 51 ((eSl eTBlockFragment) x0)) : ∃ n, g_law17_BlockStack (KN n) n x0 = some true := by
  obtain ⟨l, hl, hm, _⟩ := h0.sl_inv Try.underlying51
  simp only [eSl, List.cons.injEq, AV.sl.injEq, and_true] at hl
  have hlen : l.length = x0.length := by rw [← hl, List.length_map]
  have hm' : l.length ≤ 9223372036854775807 := hm
  exact blockStack x0 (by omega)
end Go.Proofs.Ytkciiamllegclaa.QBlockStack

/- Arguments of the laws' types as typed values. Made by a program. -/
import Derived.Test.YtlpndemhnpajiaaFr
import Derived.Test.YtlpndemhnpajiaaSgGt
import Derived.Test.YtlpndemhnpajiaaProg
namespace Go.Proofs.Ytlpndemhnpajiaa
open Go.RowKit
set_option maxRecDepth 20000
set_option linter.all false
theorem op_t3 {cs : List AV} (h : HasT Try.prog 3 cs) : ∃ x : Int, cs = (eInt .i64) x := by
  obtain ⟨n, rfl, _⟩ := h.int_inv Try.underlying3
  exact ⟨n, rfl⟩
theorem op_TFlexItem_34 {cs : List AV} (h : HasT Try.prog 34 cs) : ∃ x : TFlexItem, cs = eTFlexItem x := by
  have hg := h.gen
  rw [Try.underlying34] at hg
  obtain ⟨parts, rfl, hl, hp⟩ := hg
  have hl : parts.length = 5 := hl
  obtain ⟨p0, r0, e0, hl0⟩ := len_cons hl
  subst e0
  obtain ⟨p1, r1, e1, hl1⟩ := len_cons hl0
  subst e1
  obtain ⟨p2, r2, e2, hl2⟩ := len_cons hl1
  subst e2
  obtain ⟨p3, r3, e3, hl3⟩ := len_cons hl2
  subst e3
  obtain ⟨p4, r4, e4, hl4⟩ := len_cons hl3
  subst e4
  have hnil := List.eq_nil_of_length_eq_zero hl4
  subst hnil
  obtain ⟨x0, rfl⟩ := op_t3 (hp 0 _ p0 rfl rfl)
  obtain ⟨x1, rfl⟩ := op_t3 (hp 1 _ p1 rfl rfl)
  obtain ⟨x2, rfl⟩ := op_t3 (hp 2 _ p2 rfl rfl)
  obtain ⟨x3, rfl⟩ := op_t3 (hp 3 _ p3 rfl rfl)
  obtain ⟨x4, rfl⟩ := op_t3 (hp 4 _ p4 rfl rfl)
  exact ⟨⟨x0, x1, x2, x3, x4⟩, by kernel_rfl⟩
theorem op_t28 {cs : List AV} (h : HasT Try.prog 28 cs) : ∃ x : (List TFlexItem), cs = (eSl eTFlexItem) x := by
  obtain ⟨l, rfl, _, _, hc⟩ := h.sl_inv Try.underlying28
  obtain ⟨L, rfl⟩ := list_map_open (e := eTFlexItem) (fun c hcm => op_TFlexItem_34 (hc c hcm))
  exact ⟨L, rfl⟩
end Go.Proofs.Ytlpndemhnpajiaa

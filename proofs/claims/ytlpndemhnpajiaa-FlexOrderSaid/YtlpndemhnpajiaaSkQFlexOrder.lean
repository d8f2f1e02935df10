/- FlexOrder, plain: true of every list of descriptions. -/
import Derived.Test.YtlpndemhnpajiaaSkQOrd
import Derived.Test.YtlpndemhnpajiaaSkQBox
import Derived.Test.YtlpndemhnpajiaaSkGop
namespace Go.Proofs.Ytlpndemhnpajiaa.QFlexOrder
set_option linter.all false
open Go.RowKit
open QSort (wn chk_inb iteT iteF iteB iteC sb)
open Od
theorem loop (lvl n : Nat) (b : TBoxtreeBox) (d : List Int) (h : Is b.Kids d) (hl : b.Kids.length ≤ 20) (hr : ∀ (K : Kn) (j : Nat), 10001 < j → g_ref19_Order K j b.Kids = some d) (hn : 10001 < n) : ∀ (m i : Nat), 1 ≤ i → i ≤ d.length + 1 → d.length + 1 < m + i →
    g_law19_FlexOrder_l2 (KN lvl) n b d m (i : Int) = some true := by
  have dl := h.len
  intro m
  induction m with
  | zero => intro i h1 h2; omega
  | succ m ih =>
    intro i h0 h1 h2
    simp only [g_law19_FlexOrder_l2, g_law19_FlexOrder_l2_b]
    by_cases hi : i < d.length
    · obtain ⟨a, a1, a2, _⟩ := h.mem (QSort.at_mem (A := d) (k := i - 1) (by omega))
      obtain ⟨c, c1, c2, _⟩ := h.mem (QSort.at_mem (A := d) (k := i) hi)
      have hR := QSort.pw_at h.s (i := i - 1) (j := i) (by omega) hi
      rw [a2, c2] at hR
      unfold QSort.at_ at a2 c2
      unfold QSort.R key at hR
      rw [Int.toNat_natCast, Int.toNat_natCast] at hR
      have fin := ih (i + 1) (by omega) (by omega) (by omega)
      rw [iteT (by omega), wn (n := (i : Int) - 1) (k := i - 1) (by omega) (by omega), chk_inb (by omega), chk_inb (by omega), tnat, a2, sb]
      simp only [g_law19_FlexOrder_j1, tnat, c2, wn (n := (i : Int) + 1) (k := i + 1) (by omega) (by omega)]
      rw [iteF (by omega), iteF (by omega), iteF (by omega), iteF (by omega), chk_inb (by omega), chk_inb (by omega), iteF (by omega), chk_inb (by omega), chk_inb (by omega)]
      by_cases he : (b.Kids.getD a default).Style.Order = (b.Kids.getD c default).Style.Order
      · rw [if_pos (by rw [beq_iff_eq]; exact he), decide_eq_false (by omega)]; exact fin
      · rw [if_neg (by rw [beq_iff_eq]; exact he)]; exact fin
    · rw [iteF (by omega), hr _ _ hn, sb, equal_self _ _ (by omega) (by omega)]
      rfl
theorem holds (x0 : (List TKnapsackref17Spec)) (h0 : HasT Try.prog 40 ((eSl eTKnapsackref17Spec) x0)) : ∃ n, g_law19_FlexOrder (KN n) n x0 = some true := by
  obtain ⟨l, hl, hm, _⟩ := h0.sl_inv Try.underlying40
  simp only [eSl, List.cons.injEq, AV.sl.injEq, and_true] at hl
  have hlen : l.length = x0.length := by rw [← hl, List.length_map]
  have hm' : l.length ≤ 9223372036854775807 := hm
  refine ⟨x0.length + 20010, ?_⟩
  generalize hN : x0.length + 20010 = N
  have hN1 : 20010 ≤ N := by omega
  have hN2 : x0.length < N := by omega
  unfold g_law19_FlexOrder
  rw [fit_ok' (by omega)]
  simp only [Option.bind_some, Bool.not_true, Bool.false_eq_true, if_false]
  obtain ⟨v, hv, hv2⟩ := fits_tot (KN N) N x0 (by omega) hN2
  rw [hv, sb]
  cases v with
  | false => rfl
  | true =>
    obtain ⟨b, hb, hB⟩ := box_ok N x0 (hv2 rfl) (by omega)
    have hbl := hB.len
    simp only [Bool.not_true, Bool.false_eq_true, if_false]
    rw [hb, sb]
    obtain ⟨d, o1, o2, o3⟩ := ord_both b.Kids (by omega) (lvl := N) (n := N) (by omega) hN1
    rw [o2, sb]
    have dl := o1.len
    have := loop N N b d o1 hbl o3 (by omega) N 1 (by omega) (by omega) (by omega)
    exact this
end Go.Proofs.Ytlpndemhnpajiaa.QFlexOrder

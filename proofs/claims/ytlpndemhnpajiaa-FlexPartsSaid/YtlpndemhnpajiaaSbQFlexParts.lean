/- FlexParts, plain: true of every number and every list of weights. -/
import Derived.Test.YtlpndemhnpajiaaSbQShareC
import Derived.Test.YtlpndemhnpajiaaSbGop
namespace Go.Proofs.Ytlpndemhnpajiaa.QFlexParts
set_option linter.all false
open Go.RowKit
open QSort (wn chk_inb iteT iteF sb)
variable {K : Kn} {n : Nat}
theorem inner (T all : Int) (L P : List Int) (hL : L.length ≤ 100) (hP : P.length = L.length) (i : Nat) (hi : i < L.length) (L2 : Int → Option Bool)
    (h : ∀ k, k < i → (L.getD i default ≤ L.getD k default → P.getD i default ≤ P.getD k default) ∧ (L.getD k default < L.getD i default → P.getD k default ≤ P.getD i default)) : ∀ (m k : Nat), k ≤ i → i < m + k →
    g_law19_FlexParts_l6 K n T L P all (i : Int) L2 m (k : Int) = L2 ((i + 1 : Nat) : Int) := by
  intro m
  induction m with
  | zero => intro k h1 h2; omega
  | succ m ih =>
    intro k h1 h2
    simp only [g_law19_FlexParts_l6, g_law19_FlexParts_l6_b]
    by_cases hk : k < i
    · have hh := h k hk
      rw [iteT (by omega)]
      simp only [chk_inb (show (0 : Int) ≤ k ∧ (k : Int) < L.length by omega), chk_inb (show (0 : Int) ≤ i ∧ (i : Int) < L.length by omega), chk_inb (show (0 : Int) ≤ k ∧ (k : Int) < P.length by omega), chk_inb (show (0 : Int) ≤ i ∧ (i : Int) < P.length by omega), tnat, g_law19_FlexParts_j5]
      have e1 : w64 ((k : Int) + 1) = ((k + 1 : Nat) : Int) := wn (by omega) (by omega)
      rw [e1, ih (k + 1) (by omega) (by omega)]
      by_cases hc : L.getD k default < L.getD i default
      · have := hh.2 hc
        have d1 : decide (P.getD k default > P.getD i default) = false := by rw [decide_eq_false_iff_not]; omega
        rw [iteF (show ¬ L.getD k default ≥ L.getD i default by omega), iteT hc, d1]
        rfl
      · have := hh.1 (by omega)
        rw [iteT (show L.getD k default ≥ L.getD i default by omega), iteF (show ¬ P.getD k default < P.getD i default by omega), iteF hc]
        rfl
    · rw [iteF (by omega), wn (k := i + 1) (by omega) (by omega)]
theorem outer (T : Int) (L : List Int) (hL : L.length ≤ 100) (hT : 0 ≤ T ∧ T ≤ 1073741824) (hw : ∀ w ∈ L, 0 ≤ w ∧ w ≤ 16777216) (hS : 0 < sm L) (hn : 102 < n) : ∀ (m i : Nat), i ≤ L.length → L.length < m + i →
    g_law19_FlexParts_l7 K n T L (Sh.share T L) (sm L) m (i : Int) = some true := by
  have hW : ∀ w ∈ L, 0 ≤ w := fun w h => (hw w h).1
  have hsl := Sh.share_len T L
  have hsb : sm L ≤ 1677721600 := by
    have := Sh.sm_le (c := 16777216) L (fun w h => (hw w h).2); omega
  intro m
  induction m with
  | zero => intro i h1 h2; omega
  | succ m ih =>
    intro i h1 h2
    simp only [g_law19_FlexParts_l7, g_law19_FlexParts_l7_b]
    by_cases hi : i < L.length
    · have hpc := Sh.part_close (T := T) hS i
      have hpb := Sh.part_bd hW hT.1 hS hi
      have ep := Sh.share_at (T := T) (by omega : sm L ≠ 0) hi
      have hwi := hw (L.getD i default) (by rw [getD_get hi]; exact List.getElem_mem _)
      have m1 := Sh.mul_bd (a := Sh.part T L i) (b := sm L) hpb.1 (by omega) (by omega) (by omega)
      have m2 := Sh.mul_bd (a := T) (b := L.getD i default) hT.1 (by omega) hwi.1 (by omega)
      rw [iteT (by omega), chk_inb (by omega), tnat, chk_inb (by omega), chk_inb (by omega), ep]
      rw [w64_id (n := Sh.part T L i * sm L) (by omega) (by omega), w64_id (n := T * L.getD i default) (by omega) (by omega), w64_id (n := Sh.part T L i * sm L - T * L.getD i default) (by omega) (by omega), w64_id (n := T * L.getD i default - Sh.part T L i * sm L) (by omega) (by omega)]
      have d1 : decide (T * L.getD i default - Sh.part T L i * sm L ≥ sm L) = false := by rw [decide_eq_false_iff_not]; omega
      rw [iteF (by omega), d1]
      simp only [g_law19_FlexParts_j4, Bool.false_eq_true, if_false]
      have := inner (K := K) (n := n) T (sm L) L (Sh.share T L) hL hsl i hi (g_law19_FlexParts_l7 K n T L (Sh.share T L) (sm L) m) (fun k hk => by
        rw [ep, Sh.share_at (T := T) (by omega : sm L ≠ 0) (show k < L.length by omega)]
        exact ⟨fun h => Sh.mono_ge hT.1 hS hk hi h, fun h => Sh.mono_lt hT.1 hS hk hi h⟩) n 0 (by omega) (by omega)
      rw [show ((0 : Nat) : Int) = 0 from rfl] at this
      rw [this]
      exact ih (i + 1) (by omega) (by omega)
    · rw [iteF (by omega)]
      have hsum := Sh.share_sum (T := T) hW (by omega) (by omega : L.length ≤ 10000)
      rw [sum_ok K (Sh.share T L) (B := 1073741825) (by omega) (fun x hx => by
        obtain ⟨k, hk, e⟩ := QSort.mem_at hx
        unfold QSort.at_ at e
        rw [hsl] at hk
        rw [Sh.share_at (T := T) (by omega : sm L ≠ 0) hk] at e
        have := Sh.part_bd hW hT.1 hS hk
        omega) (by omega) (by omega) (by omega), hsum, sb]
      simp
theorem good (lvl : Nat) (T : Int) (L : List Int) (hL : L.length ≤ 100) (hT : 0 ≤ T ∧ T ≤ 1073741824) (hn : 10001 < n) (hlv : 20010 ≤ lvl) : ∀ (m i : Nat), i ≤ L.length → L.length < m + i → (∀ k, k < i → 0 ≤ L.getD k default ∧ L.getD k default ≤ 16777216) →
    g_law19_FlexParts_l3 (KN lvl) n T L m (i : Int) = some true := by
  intro m
  induction m with
  | zero => intro i h1 h2; omega
  | succ m ih =>
    intro i h1 h2 hg
    simp only [g_law19_FlexParts_l3, g_law19_FlexParts_l3_b]
    by_cases hi : i < L.length
    · rw [iteT (by omega), chk_inb (by omega), tnat]
      simp only [g_law19_FlexParts_j2]
      by_cases h0 : L.getD i default < 0
      · rw [iteT h0]; rfl
      · rw [iteF h0]
        by_cases h3 : L.getD i default > 16777216
        · rw [iteT h3]
        · rw [iteF h3, wn (k := i + 1) (by omega) (by omega)]
          refine ih (i + 1) (by omega) (by omega) (fun k hk => ?_)
          rcases Nat.lt_or_ge k i with q | q
          · exact hg k q
          · obtain rfl : k = i := by omega
            omega
    · rw [iteF (by omega)]
      have hw : ∀ w ∈ L, 0 ≤ w ∧ w ≤ 16777216 := fun w hw => by
        obtain ⟨k, hk, e⟩ := QSort.mem_at hw
        have := hg k (by omega)
        unfold QSort.at_ at e
        rw [e] at this; exact this
      have ew : Sh.wts L = L := by
        unfold Sh.wts
        conv => rhs; rw [← List.map_id L]
        refine List.map_congr_left (fun w h => ?_)
        have := hw w h
        unfold Sh.lim Sh.mx; simp; omega
      have et : Sh.lim T Sh.mx = T := by unfold Sh.lim Sh.mx; omega
      have hsb := Sh.sm_le (c := 16777216) L (fun w h => (hw w h).2)
      have hs0 := Sh.sm_nn L (fun w h => (hw w h).1)
      rw [Sh.flex_ok T L (by omega) hn hlv, ew, et, sb, sum_ok _ L (B := 16777216) (by omega) (fun x hx => by have := hw x hx; omega) (by omega) (by omega) (by omega), sb]
      rw [if_neg (by rw [Sh.share_len]; simp)]
      by_cases hz : sm L = 0
      · rw [if_pos (by simp [hz]), Sh.share_nil hz, sum_ok _ _ (B := 1) (by omega) (fun x hx => by
          have := (List.mem_replicate.1 hx).2; omega) (by simp; omega) (by simp; omega) (by simp; omega), sb, Sh.sm_rep]
        rfl
      · rw [if_neg (by simp [hz])]
        have := outer (K := KN lvl) (n := n) T L hL hT hw (by omega) (by omega) n 0 (by omega) (by omega)
        exact this
theorem holds (x0 : Int) (x1 : (List Int)) (h0 : HasT Try.prog 3 ((eInt .i64) x0)) (h1 : HasT Try.prog 22 ((eSl (eInt .i64)) x1)) : ∃ n, g_law19_FlexParts (KN n) n x0 x1 = some true := by
  refine ⟨20010, ?_⟩
  unfold g_law19_FlexParts
  rw [fit_ok' (by omega)]
  simp only [Option.bind_some, Bool.not_true, Bool.false_eq_true, if_false, g_law19_FlexParts_j1]
  by_cases hc : (x1.length : Int) > 100
  · rw [iteT hc]; rfl
  · rw [iteF hc]
    by_cases h0 : x0 < 0
    · rw [iteT h0]; rfl
    · rw [iteF h0]
      by_cases h3 : x0 > 1073741824
      · rw [iteT h3]
      · rw [iteF h3]
        exact good 20010 x0 x1 (by omega) (by omega) (by omega) (by omega) 20010 0 (by omega) (by omega) (fun k hk => by omega)
end Go.Proofs.Ytlpndemhnpajiaa.QFlexParts

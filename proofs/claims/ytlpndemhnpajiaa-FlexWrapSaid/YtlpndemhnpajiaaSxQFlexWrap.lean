/- FlexWrap, plain: true of every list that can be handed in. -/
import Derived.Test.YtlpndemhnpajiaaSxQFx
import Derived.Test.YtlpndemhnpajiaaSxGop
namespace Go.Proofs.Ytlpndemhnpajiaa.QFlexWrap
set_option linter.all false
open Go.RowKit
/-- Where the lines begin behind a first one: s is the line's sum so far, i the next size's number. -/
def wr (sp : Int) : Int → Nat → List Int → List Int
  | _, _, [] => []
  | s, i, x :: r => if s + x > sp then (i : Int) :: wr sp x (i + 1) r else wr sp (s + x) (i + 1) r
def starts (sp : Int) : List Int → List Int
  | [] => []
  | x :: r => 0 :: wr sp x 1 r
def Small (l : List Int) : Prop := l.length ≤ 100 ∧ ∀ x ∈ l, 0 ≤ x ∧ x ≤ 65535
theorem fits1 {l : List Int} {x : Int} (h : l.length ≤ 100) : fits (l.length + ([x] : List Int).length) 8 = true := fits_of (by simp only [List.length_cons, List.length_nil]; omega) (by omega)
theorem wrap_loop (K : Kn) (n : Nat) (L : List Int) (sp : Int) (hL : Small L) : ∀ (m i : Nat) (s : Int) (o : List Int), 1 ≤ i → i ≤ L.length → L.length < m + i → o.length ≤ i → 0 ≤ s → s ≤ i * 65535 →
    g_flex_Wrap_l3 K n L sp m s i o = some (o ++ wr sp s i (L.drop i)) := by
  intro m
  induction m with
  | zero => intro i s o h0 h1 h2; omega
  | succ m ih =>
    intro i s o h0 h1 h2 ho hs hs2
    have hl := hL.1
    simp only [g_flex_Wrap_l3, g_flex_Wrap_l3_b]
    by_cases hi : i < L.length
    · have hlt : (i : Int) < (L.length : Int) := by omega
      have hx := hL.2 L[i] (List.getElem_mem _)
      have hw : w64 (s + L[i]) = s + L[i] := w64_id (by omega) (by omega)
      have hz : ((i : Int) == 0) = false := by simp; omega
      simp only [hlt, decide_true, if_true, inb_of (by omega) hlt, chk_true, tnat, hw, Option.bind_some, hz, Bool.false_eq_true, if_false, g_flex_Wrap_j1, g_flex_Wrap_j2, w64_suc hi (by omega), getD_get hi, fits1 (show o.length ≤ 100 by omega)]
      rw [List.drop_eq_getElem_cons hi]
      simp only [wr]
      by_cases hc : s + L[i] > sp
      · simp only [hc, decide_true, if_true]
        rw [ih (i + 1) L[i] (o ++ [(i : Int)]) (by omega) (by omega) (by omega) (by simp; omega) hx.1 (by omega)]
        simp
      · have hd : decide (s + L[i] > sp) = false := by simpa using hc
        simp only [hd, Bool.false_eq_true, if_false, if_neg hc]
        rw [ih (i + 1) (s + L[i]) o (by omega) (by omega) (by omega) (by omega) (by omega) (by omega)]
    · have hd : decide ((i : Int) < (L.length : Int)) = false := by simp; omega
      simp only [hd, Bool.false_eq_true, if_false, List.drop_eq_nil_of_le (show L.length ≤ i by omega), wr, List.append_nil]
theorem wrap_ok (K : Kn) {n : Nat} (L : List Int) (sp : Int) (hL : Small L) (hn : 101 < n) : g_flex_Wrap K n L sp = some (starts sp L) := by
  unfold g_flex_Wrap
  have hl := hL.1
  obtain ⟨m, rfl⟩ : ∃ m, n = m + 1 := ⟨n - 1, by omega⟩
  cases L with
  | nil => rfl
  | cons x r =>
    have hx := hL.2 x (by simp)
    simp only [List.length_cons] at hl
    simp only [g_flex_Wrap_l3, g_flex_Wrap_l3_b]
    have hlt : (0 : Int) < (((x :: r).length : Nat) : Int) := by simp only [List.length_cons]; omega
    have hw : w64 (0 + List.getD (x :: r) (Int.toNat 0) default) = x := by
      show w64 (0 + x) = x
      rw [Int.zero_add]; exact w64_id (by omega) (by omega)
    have hw2 : w64 ((0 : Int) + 1) = ((1 : Nat) : Int) := by rw [w64_id (by omega) (by omega)]; try rfl
    have hz : ((0 : Int) == 0) = true := rfl
    have hg : List.getD (x :: r) (Int.toNat 0) default = x := rfl
    simp only [hlt, decide_true, if_true, inb_of (Int.le_refl 0) hlt, chk_true, hw, hg, hw2, Option.bind_some, hz, g_flex_Wrap_j1, g_flex_Wrap_j2, fits1 (l := []) (x := 0) (by simp)]
    rw [wrap_loop K (m + 1) (x :: r) sp hL m 1 x ([] ++ [0]) (by omega) (by simp) (by simp only [List.length_cons]; omega) (by simp) hx.1 (by omega)]
    simp [starts]
theorem ref_loop (K : Kn) (n : Nat) (L : List Int) (sp : Int) (hL : Small L) : ∀ (m i : Nat) (s : Int) (o : List Int), 1 ≤ i → i ≤ L.length → L.length < m + i → o.length ≤ i → 0 ≤ s → s ≤ i * 65535 →
    g_ref19_Wrap_l3 K n L sp m s i o = some (o ++ wr sp s i (L.drop i)) := by
  intro m
  induction m with
  | zero => intro i s o h0 h1 h2; omega
  | succ m ih =>
    intro i s o h0 h1 h2 ho hs hs2
    have hl := hL.1
    simp only [g_ref19_Wrap_l3, g_ref19_Wrap_l3_b]
    by_cases hi : i < L.length
    · have hlt : (i : Int) < (L.length : Int) := by omega
      have hx := hL.2 L[i] (List.getElem_mem _)
      have hw : w64 (s + L.getD i default) = s + L[i] := by rw [getD_get hi]; exact w64_id (by omega) (by omega)
      have hw0 : w64 (0 + L.getD i default) = L[i] := by rw [getD_get hi, Int.zero_add]; exact w64_id (by omega) (by omega)
      have hz : ((i : Int) == 0) = false := by simp; omega
      simp only [hlt, decide_true, if_true, inb_of (by omega) hlt, chk_true, tnat, hw, hw0, hz, Bool.false_eq_true, if_false, g_ref19_Wrap_j1, g_ref19_Wrap_j2, w64_suc hi (by omega), fits1 (show o.length ≤ 100 by omega)]
      rw [List.drop_eq_getElem_cons hi]
      simp only [wr]
      by_cases hc : s + L[i] > sp
      · simp only [hc, decide_true, if_true]
        rw [ih (i + 1) L[i] (o ++ [(i : Int)]) (by omega) (by omega) (by omega) (by simp; omega) hx.1 (by omega)]
        simp
      · have hd : decide (s + L[i] > sp) = false := by simpa using hc
        simp only [hd, Bool.false_eq_true, if_false, if_neg hc]
        rw [ih (i + 1) (s + L[i]) o (by omega) (by omega) (by omega) (by omega) (by omega) (by omega)]
    · have hd : decide ((i : Int) < (L.length : Int)) = false := by simp; omega
      simp only [hd, Bool.false_eq_true, if_false, List.drop_eq_nil_of_le (show L.length ≤ i by omega), wr, List.append_nil]
theorem ref_ok (K : Kn) {n : Nat} (L : List Int) (sp : Int) (hL : Small L) (hn : 101 < n) : g_ref19_Wrap K n L sp = some (starts sp L) := by
  unfold g_ref19_Wrap
  have hl := hL.1
  obtain ⟨m, rfl⟩ : ∃ m, n = m + 1 := ⟨n - 1, by omega⟩
  cases L with
  | nil => rfl
  | cons x r =>
    have hx := hL.2 x (by simp)
    simp only [List.length_cons] at hl
    simp only [g_ref19_Wrap_l3, g_ref19_Wrap_l3_b]
    have hlt : (0 : Int) < (((x :: r).length : Nat) : Int) := by simp only [List.length_cons]; omega
    have hw : w64 (0 + List.getD (x :: r) (Int.toNat 0) default) = x := by
      show w64 (0 + x) = x
      rw [Int.zero_add]; exact w64_id (by omega) (by omega)
    have hw2 : w64 ((0 : Int) + 1) = ((1 : Nat) : Int) := by rw [w64_id (by omega) (by omega)]; try rfl
    have hz : ((0 : Int) == 0) = true := rfl
    simp only [hlt, decide_true, if_true, inb_of (Int.le_refl 0) hlt, chk_true, hw, hw2, hz, g_ref19_Wrap_j1, g_ref19_Wrap_j2, fits1 (l := []) (x := 0) (by simp)]
    rw [ref_loop K (m + 1) (x :: r) sp hL m 1 x ([] ++ [0]) (by omega) (by simp) (by simp only [List.length_cons]; omega) (by simp) hx.1 (by omega)]
    simp [starts]
/-- What the law asks of a line that goes from a to b. -/
structure Good (sp : Int) (L : List Int) (a b : Nat) : Prop where
  lt : a < b
  le : b ≤ L.length
  one : b - a > 1 → sm (List.drop a (List.take b L)) ≤ sp
  more : b < L.length → sm (List.drop a (List.take (b + 1) L)) > sp
inductive Chn (sp : Int) (L : List Int) : Nat → List Int → Prop
  | nil (a : Nat) (h : Good sp L a L.length) : Chn sp L a [(L.length : Int)]
  | cons (a b : Nat) (t : List Int) (h : Good sp L a b) (h2 : Chn sp L b t) : Chn sp L a ((b : Int) :: t)
theorem wr_chn (sp : Int) (L : List Int) : ∀ (r : List Int) (a i : Nat) (s : Int), a < i → i ≤ L.length → L.drop i = r → sm (List.drop a (List.take i L)) = s → (i - a > 1 → s ≤ sp) → Chn sp L a (wr sp s i r ++ [(L.length : Int)])
  | [], a, i, s, h1, h2, h3, h4, h5 => by
    have : i = L.length := by
      have := List.drop_eq_nil_iff.1 h3; omega
    subst this
    exact .nil _ ⟨h1, Nat.le_refl _, fun h => by rw [h4]; exact h5 h, fun h => by omega⟩
  | x :: r, a, i, s, h1, h2, h3, h4, h5 => by
    have hi : i < L.length := by
      rcases Nat.lt_or_ge i L.length with h | h
      · exact h
      · rw [List.drop_eq_nil_of_le h] at h3; cases h3
    rw [List.drop_eq_getElem_cons hi] at h3
    injection h3 with e1 e2
    have st := sm_step L (Nat.le_of_lt h1) hi
    rw [getD_get hi, e1, h4] at st
    unfold wr
    by_cases hc : s + x > sp
    · rw [if_pos hc]
      refine .cons a i _ ⟨h1, h2, fun h => by rw [h4]; exact h5 h, fun _ => by rw [st]; exact hc⟩ ?_
      refine wr_chn sp L r i (i + 1) x (by omega) (by omega) e2 ?_ (fun h => by omega)
      have := sm_step L (Nat.le_refl i) hi
      rw [getD_get hi, e1] at this
      rw [this, List.drop_eq_nil_of_le (by simp; omega)]; simp [sm]
    · rw [if_neg hc]
      exact wr_chn sp L r a (i + 1) (s + x) (by omega) (by omega) e2 st (fun _ => by omega)
theorem chn_get {sp : Int} {L : List Int} {a : Nat} {t : List Int} (h : Chn sp L a t) : ∀ k, k + 1 < ((a : Int) :: t).length → ∃ x y : Nat, ((a : Int) :: t).getD k default = (x : Int) ∧ ((a : Int) :: t).getD (k + 1) default = (y : Int) ∧ Good sp L x y := by
  induction h with
  | nil a h =>
    intro k hk
    simp only [List.length_cons, List.length_nil] at hk
    obtain rfl : k = 0 := by omega
    exact ⟨a, L.length, rfl, rfl, h⟩
  | cons a b t h h2 ih =>
    intro k hk
    cases k with
    | zero => exact ⟨a, b, rfl, rfl, h⟩
    | succ k =>
      obtain ⟨x, y, e1, e2, hg⟩ := ih k (by simpa using hk)
      exact ⟨x, y, by simpa using e1, by simpa using e2, hg⟩
theorem wr_len (sp : Int) : ∀ (r : List Int) (s : Int) (i : Nat), (wr sp s i r).length ≤ r.length
  | [], s, i => by simp [wr]
  | x :: r, s, i => by
    unfold wr
    have h1 := wr_len sp r x (i + 1); have h2 := wr_len sp r (s + x) (i + 1)
    split <;> simp <;> omega
theorem starts_len (sp : Int) (L : List Int) : (starts sp L).length ≤ L.length := by
  cases L with
  | nil => simp [starts]
  | cons x r => simp only [starts, List.length_cons]; have := wr_len sp r x 1; omega
theorem slb_of {a b n : Nat} (h1 : a ≤ b) (h2 : b ≤ n) : slb (a : Int) (b : Int) n = true := by
  simp only [slb, Bool.and_eq_true, decide_eq_true_eq]; omega
theorem seg_sum (K : Kn) {n : Nat} (L : List Int) (hL : Small L) (hn : 101 < n) (a b : Nat) : g_law19_sum K n (List.drop a (List.take b L)) = some (sm (List.drop a (List.take b L))) := by
  have hl := hL.1
  have hl2 : (List.drop a (List.take b L)).length ≤ 100 := by simp; omega
  refine sum_ok K _ (B := 65535) (by omega) (fun x hx => ?_) (by omega) (by omega) (by omega)
  have := hL.2 x (List.mem_of_mem_take (List.mem_of_mem_drop hx)); omega
theorem law_loop (K : Kn) {n : Nat} (sp : Int) (L S : List Int) (hL : Small L) (hn : 101 < n) (hS : S.length ≤ 100) (hg : ∀ k, k + 1 < (S ++ [(L.length : Int)]).length → ∃ x y : Nat, (S ++ [(L.length : Int)]).getD k default = (x : Int) ∧ (S ++ [(L.length : Int)]).getD (k + 1) default = (y : Int) ∧ Good sp L x y)
    (h0 : L.length = 0 ∨ (S ++ [(L.length : Int)]).getD 0 default = 0) : ∀ (m i : Nat), i < (S ++ [(L.length : Int)]).length → (S ++ [(L.length : Int)]).length < m + i + 1 → g_law19_FlexWrap_l3 K n sp L S m i = some true := by
  intro m
  have hl := hL.1
  have hSl : (S ++ [(L.length : Int)]).length ≤ 101 := by simp; omega
  induction m with
  | zero => intro i h1 h2; omega
  | succ m ih =>
    intro i h1 h2
    simp only [g_law19_FlexWrap_l3, g_law19_FlexWrap_l3_b]
    rw [w64_suc (b := 200) (by omega) (by omega)]
    generalize hT : S ++ [(L.length : Int)] = T at *
    by_cases hi : i + 1 < T.length
    · obtain ⟨x, y, e1, e2, g⟩ := hg i hi
      have g1 := g.lt; have g2 := g.le
      have hlt : ((i + 1 : Nat) : Int) < (T.length : Int) := by omega
      have hge : decide ((x : Int) ≥ (y : Int)) = false := by simp; omega
      have hw : w64 ((y : Int) - (x : Int)) = ((y - x : Nat) : Int) := by rw [w64_id (by omega) (by omega)]; omega
      simp only [hlt, decide_true, if_true, inb_of (show (0 : Int) ≤ (i : Int) by omega) (show (i : Int) < (T.length : Int) by omega), inb_of (show (0 : Int) ≤ ((i + 1 : Nat) : Int) by omega) hlt, chk_true, tnat, e1, e2, Option.bind_some, hge, Bool.false_eq_true, if_false, hw, g_law19_FlexWrap_j2, w64_suc (show y < 200 by omega) (by omega), w64_suc (show i < 200 by omega) (by omega),
        slb_of (Nat.le_of_lt g1) g2, seg_sum K L hL hn]
      have tail : (if decide ((y : Int) < (L.length : Int)) = true then
            chk (slb (x : Int) ((y + 1 : Nat) : Int) L.length) (some (decide (sm (List.drop x (List.take (y + 1) L)) ≤ sp)))
          else some false) = some false := by
        by_cases hy : y < L.length
        · have hm := g.more hy
          have : decide (sm (List.drop x (List.take (y + 1) L)) ≤ sp) = false := by simp; omega
          simp only [show (y : Int) < (L.length : Int) by omega, decide_true, if_true, slb_of (show x ≤ y + 1 by omega) (show y + 1 ≤ L.length by omega), chk_true, this]
        · have : decide ((y : Int) < (L.length : Int)) = false := by simp; omega
          simp only [this, Bool.false_eq_true, if_false]
      have go := ih (i + 1) (by omega) (by omega)
      by_cases hy : y < L.length
      · have hm := g.more hy
        have hd : decide (sm (List.drop x (List.take (y + 1) L)) ≤ sp) = false := by simp; omega
        simp only [show (y : Int) < (L.length : Int) by omega, decide_true, if_true, slb_of (show x ≤ y + 1 by omega) (show y + 1 ≤ L.length by omega), chk_true, hd, Bool.false_eq_true, if_false, go]
        by_cases hb : ((y - x : Nat) : Int) > 1
        · have ho := g.one (by omega)
          have hd2 : decide (sm (List.drop x (List.take y L)) > sp) = false := by simp; omega
          simp only [hb, decide_true, if_true, hd2, Bool.false_eq_true, if_false]
        · have hd2 : decide (((y - x : Nat) : Int) > 1) = false := by simpa using hb
          simp only [hd2, Bool.false_eq_true, if_false]
      · have hd : decide ((y : Int) < (L.length : Int)) = false := by simp; omega
        simp only [hd, Bool.false_eq_true, if_false, go]
        by_cases hb : ((y - x : Nat) : Int) > 1
        · have ho := g.one (by omega)
          have hd2 : decide (sm (List.drop x (List.take y L)) > sp) = false := by simp; omega
          simp only [hb, decide_true, if_true, hd2, Bool.false_eq_true, if_false]
        · have hd2 : decide (((y - x : Nat) : Int) > 1) = false := by simpa using hb
          simp only [hd2, Bool.false_eq_true, if_false]
    · have hd : decide (((i + 1 : Nat) : Int) < (T.length : Int)) = false := by simp; omega
      simp only [hd, Bool.false_eq_true, if_false, g_law19_FlexWrap_j4]
      rcases h0 with h0 | h0
      · simp [h0]
      · have : inb (0 : Int) T.length = true := inb_of (by omega) (by omega)
        have hz : (Int.toNat 0) = 0 := rfl
        simp only [this, chk_true, hz, h0]
        split <;> rfl
theorem copy_loop (K : Kn) {n : Nat} (L : List Int) (sp : Int) (hL : Small L) (hn : 101 < n) : ∀ (m i : Nat) (o : List Int), i ≤ L.length → L.length < m + i → o = L.take i → g_law19_FlexWrap_l1 K n L sp m i o = some true := by
  intro m
  have hl := hL.1
  induction m with
  | zero => intro i o h1 h2; omega
  | succ m ih =>
    intro i o h1 h2 ho
    simp only [g_law19_FlexWrap_l1, g_law19_FlexWrap_l1_b]
    by_cases hi : i < L.length
    · have hlt : (i : Int) < (L.length : Int) := by omega
      have hx := hL.2 L[i] (List.getElem_mem _)
      have hw : w64 (L.getD i default) = L[i] := by rw [getD_get hi]; exact w64_id (by omega) (by omega)
      simp only [hlt, decide_true, if_true, inb_of (by omega) hlt, chk_true, tnat, hw, w64_suc hi (by omega), fits1 (show o.length ≤ 100 by subst ho; simp; omega)]
      exact ih (i + 1) _ (by omega) (by omega) (by rw [ho, List.take_succ_eq_append_getElem hi])
    · have hd : decide ((i : Int) < (L.length : Int)) = false := by simp; omega
      have ho : o = L := by rw [ho]; exact List.take_of_length_le (by omega)
      subst ho
      have hsl := starts_len sp o
      simp only [hd, Bool.false_eq_true, if_false, wrap_ok K o sp hL hn, ref_ok K o sp hL hn, Option.bind_some, equal_self K (starts sp o) (show (starts sp o).length < n by omega) (by omega), Bool.not_true, fits1 (show (starts sp o).length ≤ 100 by omega), chk_true]
      refine law_loop K sp o (starts sp o) hL hn (by omega) ?_ ?_ n 0 (by simp) (by simp; omega)
      · cases o with
        | nil => intro k hk; simp [starts] at hk
        | cons x r =>
          intro k hk
          have hc := wr_chn sp (x :: r) r 0 1 x (by omega) (by simp) rfl (by simp [sm]) (fun h => by omega)
          exact chn_get hc k hk
      · cases o with
        | nil => left; rfl
        | cons x r => right; rfl
theorem holds (x0 : (List Int)) (x1 : Int) (h0 : HasT Try.prog 31 ((eSl (eInt .u16)) x0)) (h1 : HasT Try.prog 3 ((eInt .i64) x1)) : ∃ n, g_law19_FlexWrap (KN n) n x0 x1 = some true := by
  refine ⟨200, ?_⟩
  unfold g_law19_FlexWrap
  rw [fit_ok' (by omega)]
  simp only [Option.bind_some, Bool.not_true, Bool.false_eq_true, if_false]
  by_cases hc : (x0.length : Int) > 100
  · simp [hc]
  · have hd : decide ((x0.length : Int) > 100) = false := by simpa using hc
    simp only [hd, Bool.false_eq_true, if_false]
    refine copy_loop (KN 200) x0 x1 ⟨by omega, fun x hx => ?_⟩ (by omega) 200 0 [] (by omega) (by omega) rfl
    obtain ⟨l, e, _, _, hh⟩ := h0.sl_inv Try.underlying31
    injection e with e _; injection e with e
    have hm : (eInt .u16) x ∈ l := by rw [← e]; exact List.mem_map_of_mem hx
    obtain ⟨k, e2, hr⟩ := (hh _ hm).int_inv Try.underlying32
    injection e2 with e2 _; injection e2 with _ e2; subst e2
    simpa [Lit.wf, IntKind.min, IntKind.max, IntKind.signed, IntKind.bits] using hr
end Go.Proofs.Ytlpndemhnpajiaa.QFlexWrap

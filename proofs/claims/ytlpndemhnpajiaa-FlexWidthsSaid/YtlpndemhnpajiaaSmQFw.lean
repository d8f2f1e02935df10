/- Layer 19, plain: items, and the least and the greatest widths of flex containers. No program in sight. -/
import Derived.Test.YtlpndemhnpajiaaSmQInd
import Derived.Test.YtlpndemhnpajiaaSmQBox
import Derived.Test.YtlpndemhnpajiaaSmQOrd
namespace Go.Proofs.Ytlpndemhnpajiaa
set_option linter.all false
open Go.RowKit
namespace Fw
open QSort (wn chk_inb iteT iteF iteB iteC sb)
open Wd (E1)
section
variable (K : Kn) (n : Nat)
theorem ffixed_def (s : TCascadeStyle) : g_flex_fixed K n s = some (plainM s) := by
  unfold g_flex_fixed
  refine (if_auto s.Width (fun l => g_flex_fixed_j1 K n { s with Width := l }) _ rfl).trans ?_
  unfold g_flex_fixed_j1
  refine (if_auto s.MinWidth (fun l => g_flex_fixed_j2 K n { s with Width := autoM s.Width, MinWidth := l }) _ rfl).trans ?_
  unfold g_flex_fixed_j2
  refine (if_auto s.MaxWidth (fun l => g_flex_fixed_j3 K n { s with Width := autoM s.Width, MinWidth := autoM s.MinWidth, MaxWidth := l }) _ rfl).trans ?_
  unfold g_flex_fixed_j3
  refine (if_auto s.Margin.a0 (fun l => g_flex_fixed_j4 K n { s with Width := autoM s.Width, MinWidth := autoM s.MinWidth, MaxWidth := autoM s.MaxWidth, Margin := ⟨l, s.Margin.a1, s.Margin.a2, s.Margin.a3⟩ }) _ rfl).trans ?_
  unfold g_flex_fixed_j4
  refine (if_auto s.Padding.a0 (fun l => g_flex_fixed_j5 K n { s with Width := autoM s.Width, MinWidth := autoM s.MinWidth, MaxWidth := autoM s.MaxWidth, Margin := ⟨autoM s.Margin.a0, s.Margin.a1, s.Margin.a2, s.Margin.a3⟩, Padding := ⟨l, s.Padding.a1, s.Padding.a2, s.Padding.a3⟩ }) _ rfl).trans ?_
  unfold g_flex_fixed_j5
  refine (if_auto s.Margin.a1 (fun l => g_flex_fixed_j6 K n { s with Width := autoM s.Width, MinWidth := autoM s.MinWidth, MaxWidth := autoM s.MaxWidth, Margin := ⟨autoM s.Margin.a0, l, s.Margin.a2, s.Margin.a3⟩, Padding := ⟨autoM s.Padding.a0, s.Padding.a1, s.Padding.a2, s.Padding.a3⟩ }) _ rfl).trans ?_
  unfold g_flex_fixed_j6
  refine (if_auto s.Padding.a1 (fun l => g_flex_fixed_j7 K n { s with Width := autoM s.Width, MinWidth := autoM s.MinWidth, MaxWidth := autoM s.MaxWidth, Margin := ⟨autoM s.Margin.a0, autoM s.Margin.a1, s.Margin.a2, s.Margin.a3⟩, Padding := ⟨autoM s.Padding.a0, l, s.Padding.a2, s.Padding.a3⟩ }) _ rfl).trans ?_
  unfold g_flex_fixed_j7
  refine (if_auto s.Margin.a2 (fun l => g_flex_fixed_j8 K n { s with Width := autoM s.Width, MinWidth := autoM s.MinWidth, MaxWidth := autoM s.MaxWidth, Margin := ⟨autoM s.Margin.a0, autoM s.Margin.a1, l, s.Margin.a3⟩, Padding := ⟨autoM s.Padding.a0, autoM s.Padding.a1, s.Padding.a2, s.Padding.a3⟩ }) _ rfl).trans ?_
  unfold g_flex_fixed_j8
  refine (if_auto s.Padding.a2 (fun l => g_flex_fixed_j9 K n { s with Width := autoM s.Width, MinWidth := autoM s.MinWidth, MaxWidth := autoM s.MaxWidth, Margin := ⟨autoM s.Margin.a0, autoM s.Margin.a1, autoM s.Margin.a2, s.Margin.a3⟩, Padding := ⟨autoM s.Padding.a0, autoM s.Padding.a1, l, s.Padding.a3⟩ }) _ rfl).trans ?_
  unfold g_flex_fixed_j9
  refine (if_auto s.Margin.a3 (fun l => g_flex_fixed_j10 K n { s with Width := autoM s.Width, MinWidth := autoM s.MinWidth, MaxWidth := autoM s.MaxWidth, Margin := ⟨autoM s.Margin.a0, autoM s.Margin.a1, autoM s.Margin.a2, l⟩, Padding := ⟨autoM s.Padding.a0, autoM s.Padding.a1, autoM s.Padding.a2, s.Padding.a3⟩ }) _ rfl).trans ?_
  unfold g_flex_fixed_j10
  refine (if_auto s.Padding.a3 (fun l => g_flex_fixed_j11 K n { s with Width := autoM s.Width, MinWidth := autoM s.MinWidth, MaxWidth := autoM s.MaxWidth, Margin := ⟨autoM s.Margin.a0, autoM s.Margin.a1, autoM s.Margin.a2, autoM s.Margin.a3⟩, Padding := ⟨autoM s.Padding.a0, autoM s.Padding.a1, autoM s.Padding.a2, l⟩ }) _ rfl).trans ?_
  rfl
end
def itm (b : TBoxtreeBox) (d : List Int) : List TBoxtreeBox := d.map fun j => b.Kids.getD j.toNat default
theorem itm_len (b : TBoxtreeBox) (d : List Int) : (itm b d).length = d.length := by simp [itm]
theorem itm_at (b : TBoxtreeBox) (d : List Int) {k : Nat} (hk : k < d.length) : (itm b d).getD k default = b.Kids.getD (d.getD k default).toNat default := by
  rw [getD_get (by rw [itm_len]; exact hk), getD_get hk]; simp [itm]
theorem itm_mem {b : TBoxtreeBox} {d : List Int} (h : Od.Is b.Kids d) {k : TBoxtreeBox} (hk : k ∈ itm b d) : k ∈ b.Kids := by
  obtain ⟨j, hj, rfl⟩ := List.mem_map.1 hk
  obtain ⟨i, i1, rfl, _⟩ := h.mem hj
  rw [Int.toNat_natCast]
  exact getD_mem i1
theorem itm_perm {b : TBoxtreeBox} {d : List Int} (h : Od.Is b.Kids d) : (itm b d).Perm (flowM b) := by
  have e : ∀ n, n ≤ b.Kids.length → (Od.ix (Od.fl b.Kids) n).map (fun j => b.Kids.getD j.toNat default) = (b.Kids.take n).filter inM := by
    intro n
    induction n with
    | zero => intro _; rfl
    | succ n ih =>
      intro hn
      rw [Od.ix_succ, List.map_append, ih (by omega), List.take_succ_eq_append_getElem (by omega), List.filter_append]
      congr 1
      rw [← getD_get (show n < b.Kids.length by omega)]
      unfold Od.fl
      cases hq : inM (b.Kids.getD n default) <;> simp only [List.filter_cons, List.filter_nil, hq, if_true, Bool.false_eq_true, if_false, List.map_cons, List.map_nil, Int.toNat_natCast]
  have h2 := e b.Kids.length (Nat.le_refl _)
  rw [List.take_length] at h2
  have := h.p.map (fun j => b.Kids.getD j.toNat default)
  rw [h2] at this
  exact this
theorem items_loop (K : Kn) (n : Nat) {b : TBoxtreeBox} (hb : b.Kids.length ≤ 20) {d : List Int} (h : Od.Is b.Kids d) : ∀ (m i : Nat), i ≤ d.length → d.length < m + i →
    g_flex_items_l1 K n b d m (i : Int) ((itm b d).take i) = some (itm b d) := by
  have dl := h.len
  intro m
  induction m with
  | zero => intro i h1 h2; omega
  | succ m ih =>
    intro i h1 h2
    simp only [g_flex_items_l1, g_flex_items_l1_b]
    by_cases hi : i < d.length
    · obtain ⟨j, j1, j2, _⟩ := h.mem (QSort.at_mem (A := d) hi)
      unfold QSort.at_ at j2
      have ih := ih (i + 1) (by omega) (by omega)
      rw [List.take_succ_eq_append_getElem (by rw [itm_len]; exact hi), ← getD_get (by rw [itm_len]; exact hi), itm_at b d hi] at ih
      rw [iteT (by omega), chk_inb (by omega), tnat, j2, chk_inb (by omega), tnat, fits_of (by simp only [List.length_cons, List.length_nil, List.length_take]; omega) (by omega), chk_true, wn (n := (i : Int) + 1) (k := i + 1) (by omega) (by omega)]
      rw [j2, tnat] at ih
      exact ih
    · rw [iteF (by omega), List.take_of_length_le (by rw [itm_len]; omega)]
theorem items_ok {b : TBoxtreeBox} (hb : b.Kids.length ≤ 20) {d : List Int} (h : Od.Is b.Kids d) {K : Kn} {n : Nat} (ho : g_flex_Order K n b.Kids = some d) (hn : 100 < n) : g_flex_items K n b = some (itm b d) := by
  have dl := h.len
  unfold g_flex_items
  rw [ho, sb]
  exact items_loop K n hb h n 0 (by omega) (by omega)
def ste (s : TCascadeStyle) (p w : Int × Int) : Int × Int := if s.Direction = 1 then (max p.1 w.1, max p.2 w.2) else (if s.Wrap = true then max p.1 w.1 else p.1 + w.1, p.2 + w.2)
def fo (s : TCascadeStyle) (W : TBoxtreeBox → Int × Int) (l : List TBoxtreeBox) (p : Int × Int) : Int × Int := l.foldl (fun p k => ste s p (W k)) p
theorem fo_perm (s : TCascadeStyle) (W : TBoxtreeBox → Int × Int) {l l' : List TBoxtreeBox} (h : l.Perm l') (p : Int × Int) : fo s W l p = fo s W l' p := by
  unfold fo
  refine List.Perm.foldl_eq' h (fun x _ y _ z => ?_) p
  unfold ste
  by_cases hd : s.Direction = 1
  · simp only [hd, if_true]
    congr 1 <;> omega
  · simp only [hd, if_false]
    cases s.Wrap <;> simp only [Bool.false_eq_true, if_true, if_false] <;> congr 1 <;> omega
def Bd (p : Int × Int) (i : Nat) : Prop := (-(8388608 * (i : Int)) ≤ p.1 ∧ p.1 ≤ 8388608 * i) ∧ (-(8388608 * (i : Int)) ≤ p.2 ∧ p.2 ≤ 8388608 * i)
theorem ste_bd {s : TCascadeStyle} {p w : Int × Int} {i : Nat} (h : Bd p i) (hw : -7340032 ≤ w.1 ∧ w.1 ≤ w.2 ∧ w.2 ≤ 7340032) : Bd (ste s p w) (i + 1) := by
  unfold Bd ste at *
  split
  · dsimp only; omega
  · cases s.Wrap <;> simp only [Bool.false_eq_true, if_true, if_false] <;> omega
def WOk (W : TBoxtreeBox → Int × Int) (l : List TBoxtreeBox) : Prop := ∀ k ∈ l, (∀ N, 45 ≤ N → g_block_Widths (KN N) N k E1 = some (W k) ∧ g_ref17_Widths (KN N) N k = some (W k)) ∧ (W k).1 ≤ (W k).2 ∧ -7340032 ≤ (W k).1 ∧ (W k).2 ≤ 7340032
theorem p_loop (N : Nat) (hN : 50 ≤ N) (b : TBoxtreeBox) (s : TCascadeStyle) (l : List TBoxtreeBox) (W : TBoxtreeBox → Int × Int) (hW : WOk W l) (hl : l.length ≤ 20) : ∀ (m i : Nat) (p : Int × Int), i ≤ l.length → l.length < m + i → Bd p i →
    g_flex_Widths_l3 (KN N) N b E1 s l m p.1 p.2 (i : Int) = g_flex_Widths_j4 (KN N) N s (fo b.Style W (l.drop i) p).1 (fo b.Style W (l.drop i) p).2 := by
  intro m
  induction m with
  | zero => intro i p h1 h2; omega
  | succ m ih =>
    intro i p h1 h2 hb
    simp only [g_flex_Widths_l3, g_flex_Widths_l3_b]
    by_cases hi : i < l.length
    · have hw := hW _ (getD_mem hi)
      have hs := ste_bd (s := b.Style) hb (w := W (l.getD i default)) (by omega)
      have ih := ih (i + 1) (ste b.Style p (W (l.getD i default))) (by omega) (by omega) hs
      rw [iteT (by omega), chk_inb (by omega), tnat, show E1.Widths = (Fv.fn 55) from rfl, env_wid (d := 20) hw.1 (by omega), sb]
      simp only [g_flex_Widths_j1, g_flex_Widths_j2]
      rw [wn (n := (i : Int) + 1) (k := i + 1) (by omega) (by omega)]
      have ef : fo b.Style W (l.drop i) p = fo b.Style W (l.drop (i + 1)) (ste b.Style p (W (l.getD i default))) := by
        rw [drop_at' hi]; rfl
      rw [ef, ← ih]
      unfold Bd at hb
      unfold ste
      by_cases hd : b.Style.Direction = 1
      · rw [if_pos (by rw [beq_iff_eq]; exact hd)]
        simp only [hd, if_true]
      · rw [if_neg (by rw [beq_iff_eq]; exact hd)]
        simp only [hd, if_false]
        rw [w64_id (n := p.2 + (W (l.getD i default)).2) (by omega) (by omega)]
        cases b.Style.Wrap
        · simp only [Bool.false_eq_true, if_false]
          rw [w64_id (by omega) (by omega)]
        · simp only [if_true]
    · rw [iteF (by omega), List.drop_eq_nil_of_le (by omega)]; rfl
theorem r_loop (N : Nat) (hN : 50 ≤ N) (b : TBoxtreeBox) (l : List TBoxtreeBox) (W : TBoxtreeBox → Int × Int) (hW : WOk W l) (hl : l.length ≤ 20) : ∀ (m i : Nat) (p : Int × Int), i ≤ l.length → l.length < m + i → Bd p i →
    g_ref19_Widths_l3 (KN N) N b l m p.1 p.2 (i : Int) = (g_ref17_Framed (KN N) N b.Style (fo b.Style W (l.drop i) p).1 (fo b.Style W (l.drop i) p).2).bind fun v14 => some (v14.1, v14.2) := by
  intro m
  induction m with
  | zero => intro i p h1 h2; omega
  | succ m ih =>
    intro i p h1 h2 hb
    simp only [g_ref19_Widths_l3, g_ref19_Widths_l3_b]
    by_cases hi : i < l.length
    · have hw := hW _ (getD_mem hi)
      have hs := ste_bd (s := b.Style) hb (w := W (l.getD i default)) (by omega)
      have ih := ih (i + 1) (ste b.Style p (W (l.getD i default))) (by omega) (by omega) hs
      rw [iteT (by omega), chk_inb (by omega), tnat, (hw.1 N (by omega)).2, sb]
      simp only [g_ref19_Widths_j1, g_ref19_Widths_j2]
      rw [wn (n := (i : Int) + 1) (k := i + 1) (by omega) (by omega)]
      have ef : fo b.Style W (l.drop i) p = fo b.Style W (l.drop (i + 1)) (ste b.Style p (W (l.getD i default))) := by
        rw [drop_at' hi]; rfl
      rw [ef, ← ih]
      unfold Bd at hb
      unfold ste
      by_cases hd : b.Style.Direction = 1
      · rw [if_pos (by rw [beq_iff_eq]; exact hd)]
        simp only [hd, if_true]
      · rw [if_neg (by rw [beq_iff_eq]; exact hd)]
        simp only [hd, if_false]
        rw [w64_id (n := p.2 + (W (l.getD i default)).2) (by omega) (by omega)]
        cases b.Style.Wrap
        · simp only [Bool.false_eq_true, if_false]
          rw [w64_id (by omega) (by omega)]
        · simp only [if_true]
    · rw [iteF (by omega), List.drop_eq_nil_of_le (by omega)]; rfl
theorem j4_def (K : Kn) (n : Nat) (s : TCascadeStyle) (a b : Int) : g_flex_Widths_j4 K n (plainM s) a b = some (frM s (limM a), frM s (limM b)) := by
  unfold g_flex_Widths_j4 g_flex_Widths_1 g_flex_limit
  simp only [Option.bind_some, clamp_def, edges_def, sum_def]
  rfl
theorem framed_def (K : Kn) (n : Nat) (s : TCascadeStyle) (a b : Int) : g_ref17_Framed K n s a b = some (if (lenM (plainM s).Width 0).2 = true then (frM s (limM (lenM (plainM s).Width 0).1), frM s (limM (lenM (plainM s).Width 0).1)) else (frM s (limM a), frM s (limM b))) := by
  unfold g_ref17_Framed
  have hF : ∀ c, frM s c = w64 (clampM (plainM s) 0 c + sumM (edgesM (plainM s) 0 0)) := fun c => sum_split (plainM s) _
  simp only [Option.bind_some, plain_def, rwidth_def, pix_def]
  have hk : (plainM s).Width.Kind ≠ 2 := Wd.auto2 _
  by_cases hw : (plainM s).Width.Kind = 1
  · have e1 : (lenM (plainM s).Width 0).2 = true := by rw [Wd.len2]; simp [hw]
    have e2 : (pixM (plainM s).Width).2 = true := by unfold pixM; simp [hw]
    have e3 : (pixM (plainM s).Width).1 = limM (lenM (plainM s).Width 0).1 := by unfold pixM lenM limM; simp only [hw, if_true]; omega
    simp only [e1, e2, if_true, g_ref17_Framed_j1, redges_def, rsum_def, rclamp_def, Option.bind_some, e3]
    rw [← hF]
  · have e1 : (lenM (plainM s).Width 0).2 = false := by rw [Wd.len2]; simp [hw, hk]
    have e2 : (pixM (plainM s).Width).2 = false := by unfold pixM; simp [hw]
    simp only [e1, e2, Bool.false_eq_true, if_false, g_ref17_Framed_j1, redges_def, rsum_def, rclamp_def, Option.bind_some]
    rw [← hF, ← hF]
theorem w_of {b : TBoxtreeBox} (hB : Bx b) : ∃ W, WOk W b.Kids := by
  have : ∀ k, ∃ p : Int × Int, k ∈ b.Kids → (∀ N, 45 ≤ N → g_block_Widths (KN N) N k E1 = some p ∧ g_ref17_Widths (KN N) N k = some p) ∧ p.1 ≤ p.2 ∧ -7340032 ≤ p.1 ∧ p.2 ≤ 7340032 := by
    intro k
    by_cases h : k ∈ b.Kids
    · have hk := hB.kids k h
      obtain ⟨p, hp⟩ := wid_ind 20 k hk.good hk.text
      exact ⟨p, fun _ => hp⟩
    · exact ⟨default, fun h2 => absurd h2 h⟩
  obtain ⟨W, hW⟩ := Classical.skolem.1 this
  exact ⟨W, hW⟩
theorem widths_ok {b : TBoxtreeBox} (hB : Bx b) {N : Nat} (hN : 20010 ≤ N) : ∃ p, g_flex_Widths (KN N) N b E1 = some p ∧ g_ref19_Widths (KN N) N b = some p := by
  obtain ⟨W, hW⟩ := w_of hB
  have hl := hB.len
  obtain ⟨d, o1, o2⟩ := Od.flex_ok b.Kids (by omega) (lvl := N) (n := N) (by omega) hN
  have dl := o1.len
  have hp := itm_perm o1
  have h1 := p_loop N (by omega) b (plainM b.Style) (itm b d) W (fun k hk => hW k (itm_mem o1 hk)) (by rw [itm_len]; omega) N 0 (0, 0) (by omega) (by rw [itm_len]; omega) (by unfold Bd; simp)
  have h2 := r_loop N (by omega) b (flowM b) W (fun k hk => hW k (List.mem_filter.1 hk).1) (Nat.le_trans flowM_len hl) N 0 (0, 0) (by omega) (by have := flowM_len (b := b); omega) (by unfold Bd; simp)
  rw [List.drop_zero, j4_def] at h1
  rw [List.drop_zero, framed_def, ← fo_perm b.Style W hp] at h2
  unfold g_flex_Widths g_ref19_Widths
  rw [ffixed_def, sb, len_def, sb, inside_def _ _ b hl (by omega), sb]
  have h2' : g_ref19_Widths_l3 (KN N) N b (flowM b) N 0 0 0 = _ := h2
  rw [h2']
  cases hw : (lenM (plainM b.Style).Width 0).2 with
  | true =>
    simp only [if_true, sb]
    rw [j4_def]
    exact ⟨_, rfl, rfl⟩
  | false =>
    simp only [Bool.false_eq_true, if_false, sb]
    rw [items_ok hl o1 o2 (by omega), sb]
    have h1' : g_flex_Widths_l3 (KN N) N b E1 (plainM b.Style) (itm b d) N 0 0 0 = _ := h1
    rw [h1']
    exact ⟨_, rfl, rfl⟩
end Fw
end Go.Proofs.Ytlpndemhnpajiaa

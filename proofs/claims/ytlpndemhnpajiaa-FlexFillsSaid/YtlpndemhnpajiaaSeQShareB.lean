/- Sharing a number in proportion to weights: the program's and the reference's functions give the parts. No program in sight. -/
import Derived.Test.YtlpndemhnpajiaaSeQShareA
namespace Go.Proofs.Ytlpndemhnpajiaa
set_option linter.all false
open Go.RowKit
namespace Sh
open QSort (wn chk_inb iteT iteF sb)
variable {K : Kn} {n : Nat}
/-- The weights as both take them. -/
def wts (L : List Int) : List Int := L.map fun w => lim w mx
theorem wts_len (L : List Int) : (wts L).length = L.length := by simp [wts]
theorem wts_bd (L : List Int) : ∀ w ∈ wts L, 0 ≤ w ∧ w ≤ 2147483647 := by
  intro w hw
  obtain ⟨x, _, rfl⟩ := List.mem_map.1 hw
  exact lim_bd (m := mx) (by decide)
theorem wts_at {L : List Int} {k : Nat} (h : k < L.length) : (wts L).getD k default = lim (L.getD k default) mx := by simp [wts, List.getD_eq_getElem?_getD, h]
theorem sm_wts {L : List Int} (h : L.length ≤ 10000) : 0 ≤ sm (wts L) ∧ sm (wts L) ≤ 21474836470000 := by
  refine ⟨sm_nn _ (fun w hw => (wts_bd L w hw).1), ?_⟩
  have := sm_le (c := 2147483647) (wts L) (fun w hw => (wts_bd L w hw).2)
  rw [wts_len] at this; omega
theorem sm_take {W : List Int} (h : ∀ w ∈ W, 0 ≤ w) (i : Nat) : 0 ≤ sm (W.take i) ∧ sm (W.take i) ≤ sm W := by
  have h1 := sm_nn (W.take i) (fun w hw => h w (List.mem_of_mem_take hw))
  have h2 := sm_nn (W.drop i) (fun w hw => h w (List.mem_of_mem_drop hw))
  have : sm W = sm (W.take i) + sm (W.drop i) := by rw [← sm_app, List.take_append_drop]
  omega
theorem sm_take_succ {W : List Int} {i : Nat} (h : i < W.length) : sm (W.take (i + 1)) = sm (W.take i) + W.getD i default := by
  rw [List.take_succ_eq_append_getElem h, sm_app, getD_get h]; simp [sm]
theorem set_rep {A : List Int} {k i : Nat} {y z : Int} (h : i = A.length) : List.set (A ++ List.replicate (k + 1) z) i y = (A ++ [y]) ++ List.replicate k z := by
  subst h; simp [List.replicate_succ]
theorem get_rep {A : List Int} {k i : Nat} {y z : Int} (h : i = A.length) : List.getD ((A ++ [y]) ++ List.replicate k z) i default = y := by
  subst h; simp [List.getD_eq_getElem?_getD]
theorem mul_bd {a b : Int} (h0 : 0 ≤ a) (h1 : a ≤ 2147483647) (h2 : 0 ≤ b) (h3 : b ≤ 2147483647) : 0 ≤ a * b ∧ a * b ≤ 4611686014132420609 := by
  refine ⟨Int.mul_nonneg h0 h2, ?_⟩
  have := Int.mul_le_mul h1 h3 h2 (by omega : (0 : Int) ≤ 2147483647)
  omega
theorem map_take_succ (g : Int → Int) {W : List Int} {i : Nat} (h : i < W.length) : (W.take (i + 1)).map g = (W.take i).map g ++ [g (W.getD i default)] := by
  rw [List.take_succ_eq_append_getElem h, List.map_append, getD_get h]; rfl
theorem left_part {T : Int} {W : List Int} (hT : 0 ≤ T) (hW : ∀ w ∈ W, 0 ≤ w) (hS : 0 < sm W) (i : Nat) : 0 ≤ sm ((W.take i).map (q T (sm W))) ∧ sm ((W.take i).map (q T (sm W))) ≤ T := by
  have hq : ∀ x ∈ W.map (q T (sm W)), 0 ≤ x := fun x hx => by
    obtain ⟨w, hw, rfl⟩ := List.mem_map.1 hx
    exact (q_bd hS hT (hW w hw) (sm_mem W hW w hw)).1
  have := sm_take hq i
  rw [← List.map_take] at this
  have h2 := (left_bd T W hS).1
  unfold left at h2
  omega
/-! the program -/
theorem f_sum (L : List Int) (T : Int) (z1 z2 z3 : List Int) (hL : L.length ≤ 10000) : ∀ (m i : Nat), i ≤ L.length → L.length < m + i →
    g_flex_Share_l1 K n L T z1 z2 z3 m (sm ((wts L).take i)) (i : Int) = if (sm (wts L) == 0) = true then some z1 else g_flex_Share_l2 K n L T (sm (wts L)) n T 0 z1 z2 z3 := by
  intro m
  induction m with
  | zero => intro i h1 h2; omega
  | succ m ih =>
    intro i h1 h2
    simp only [g_flex_Share_l1, g_flex_Share_l1_b]
    by_cases hi : i < L.length
    · have hb := sm_wts hL
      have hs := sm_take (W := wts L) (fun w hw => (wts_bd L w hw).1) (i + 1)
      have e := sm_take_succ (W := wts L) (i := i) (by rw [wts_len]; exact hi)
      have el := wts_at hi
      rw [iteT (by omega), chk_inb (by omega), tnat]
      simp only [g_flex_limit, sb]
      rw [wn (n := (i : Int) + 1) (k := i + 1) (by omega) (by omega)]
      rw [show w64 (sm ((wts L).take i) + min (max (L.getD i default) 0) 2147483647) = sm ((wts L).take (i + 1)) by
        rw [e, el]; exact w64_id (by rw [e, el] at hs; unfold lim mx at hs; omega) (by rw [e, el] at hs; unfold lim mx at hs; omega)]
      exact ih (i + 1) (by omega) (by omega)
    · rw [iteF (by omega), List.take_of_length_le (by rw [wts_len]; omega)]
theorem f_parts (L : List Int) (T : Int) (hT : 0 ≤ T ∧ T ≤ 2147483647) (hL : L.length ≤ 10000) (hS : 0 < sm (wts L)) : ∀ (m i : Nat), i ≤ L.length → L.length < m + i →
    g_flex_Share_l2 K n L T (sm (wts L)) m (T - sm (((wts L).take i).map (q T (sm (wts L))))) (i : Int) (((wts L).take i).map (q T (sm (wts L))) ++ List.replicate (L.length - i) 0) (((wts L).take i).map (r T (sm (wts L))) ++ List.replicate (L.length - i) 0) (idx i ++ List.replicate (L.length - i) 0) =
    (g_slices_SortStableFunc_int_int K n (idx L.length) (Fv.c36 ((wts L).map (r T (sm (wts L)))))).bind fun v22 =>
    chk (slb (0 : Int) (left T (wts L)) v22.length) (
    g_flex_Share_l3 K n n (List.drop ((0 : Int)).toNat (List.take (left T (wts L)).toNat v22)) ((List.drop ((0 : Int)).toNat (List.take (left T (wts L)).toNat v22)).length : Int) 0 ((wts L).map (q T (sm (wts L))))) := by
  intro m
  induction m with
  | zero => intro i h1 h2; omega
  | succ m ih =>
    intro i h1 h2
    simp only [g_flex_Share_l2, g_flex_Share_l2_b]
    by_cases hi : i < L.length
    · have hW := fun w hw => (wts_bd L w hw).1
      have hlp := left_part hT.1 hW hS
      have el := wts_at hi
      obtain ⟨k, ek⟩ : ∃ k, L.length - i = k + 1 := ⟨L.length - i - 1, by omega⟩
      have hw := wts_bd L ((wts L).getD i default) (by rw [getD_get (by rw [wts_len]; exact hi)]; exact List.getElem_mem _)
      have hm := mul_bd hT.1 hT.2 hw.1 hw.2
      rw [iteT (by omega), chk_inb (by omega), tnat]
      simp only [g_flex_limit, sb]
      have ew : min (max (L.getD i default) 0) 2147483647 = (wts L).getD i default := by rw [el]; rfl
      rw [ew, w64_id (n := T * (wts L).getD i default) (by omega) (by omega)]
      have hz : (sm (wts L) != 0) = true := by simp; omega
      rw [hz, chk_true, chk_true]
      have la : (((wts L).take i).map (q T (sm (wts L))) ++ List.replicate (L.length - i) 0).length = L.length := by simp [wts_len]; omega
      have lb : (((wts L).take i).map (r T (sm (wts L))) ++ List.replicate (L.length - i) 0).length = L.length := by simp [wts_len]; omega
      have lc : (idx i ++ List.replicate (L.length - i) 0).length = L.length := by simp [idx_len]; omega
      rw [la, lb, lc, chk_inb (by omega), chk_inb (by omega), chk_inb (by omega)]
      simp only [List.length_set]
      rw [la, chk_inb (by omega), ek]
      have l1 : i = (((wts L).take i).map (q T (sm (wts L)))).length := by simp [wts_len]; omega
      have l2 : i = (((wts L).take i).map (r T (sm (wts L)))).length := by simp [wts_len]; omega
      rw [set_rep l1, set_rep l2, set_rep (idx_len i).symm, get_rep l1]
      have hq := q_bd hS hT.1 hw.1 (sm_mem _ hW _ (by rw [getD_get (by rw [wts_len]; exact hi)]; exact List.getElem_mem _))
      have ed : w64 (Int.tdiv (T * (wts L).getD i default) (sm (wts L))) = q T (sm (wts L)) ((wts L).getD i default) := by
        rw [Int.tdiv_eq_ediv_of_nonneg hm.1]
        exact w64_id (by show _ ≤ q _ _ _; omega) (by show q _ _ _ ≤ _; omega)
      have er : Int.tmod (T * (wts L).getD i default) (sm (wts L)) = r T (sm (wts L)) ((wts L).getD i default) := by
        rw [Int.tmod_eq_emod_of_nonneg hm.1]; rfl
      rw [ed, er, ← map_take_succ _ (by rw [wts_len]; exact hi), ← map_take_succ _ (by rw [wts_len]; exact hi), ← idx_succ]
      have e1 : w64 (T - sm (((wts L).take i).map (q T (sm (wts L)))) - q T (sm (wts L)) ((wts L).getD i default)) = T - sm (((wts L).take (i + 1)).map (q T (sm (wts L)))) := by
        rw [map_take_succ _ (by rw [wts_len]; exact hi), sm_app]
        simp only [sm]
        have a1 := hlp i
        rw [w64_id (by omega) (by omega)]; omega
      rw [e1, wn (n := (i : Int) + 1) (k := i + 1) (by omega) (by omega)]
      have := ih (i + 1) (by omega) (by omega)
      rw [show L.length - (i + 1) = k by omega] at this
      exact this
    · have : i = L.length := by omega
      subst this
      rw [iteF (by omega)]
      have ew : (wts L).take L.length = wts L := List.take_of_length_le (by rw [wts_len]; omega)
      rw [ew]
      simp only [Nat.sub_self, List.replicate_zero, List.append_nil]
      rfl
theorem f_inc (l : List Int) (hl : l.length ≤ 10000) : ∀ (m i : Nat) (p : List Int), i ≤ l.length → l.length < m + i → (∀ x ∈ l, 0 ≤ x ∧ x.toNat < p.length) → (∀ x ∈ p, 0 ≤ x ∧ x + l.length ≤ 4611686018427387904 + i) →
    g_flex_Share_l3 K n m l (l.length : Int) (i : Int) p = some (inc p (l.drop i)) := by
  intro m
  induction m with
  | zero => intro i p h1 h2; omega
  | succ m ih =>
    intro i p h1 h2 hx hp
    simp only [g_flex_Share_l3, g_flex_Share_l3_b]
    by_cases hi : i < l.length
    · have hm := hx (l.getD i default) (by rw [getD_get hi]; exact List.getElem_mem _)
      have hpx := hp (p.getD (l.getD i default).toNat default) (by rw [getD_get hm.2]; exact List.getElem_mem _)
      rw [iteT (by omega), chk_inb (by omega), tnat, chk_inb (by omega), chk_inb (by omega), wn (n := (i : Int) + 1) (k := i + 1) (by omega) (by omega), w64_id (by omega) (by omega)]
      rw [ih (i + 1) _ (by omega) (by omega) (by simpa using hx) (fun x hx2 => by
        rcases List.mem_or_eq_of_mem_set hx2 with h | h
        · have := hp x h; omega
        · subst h; omega)]
      rw [List.drop_eq_getElem_cons hi, ← getD_get hi]
      rfl
    · rw [iteF (by omega), List.drop_eq_nil_of_le (by omega)]
      rfl
theorem cmp_ok (rs : List Int) (m : Nat) : QSort.Cmp (KN (m + 1)) (Fv.c36 rs) (fun a => 0 ≤ a ∧ a < rs.length) (key rs) := by
  refine ⟨fun a b ha hb => ?_⟩
  show ∃ c, g_flex_Share_1 (KN m) m a b rs = some c ∧ _
  unfold g_flex_Share_1
  rw [chk_inb hb, chk_inb ha]
  simp only [g_cmp_Compare_int, g_cmp_isNaN_int, sb, bne_self_eq_false, Bool.false_eq_true, if_false, key]
  by_cases h1 : rs.getD b.toNat default < rs.getD a.toNat default
  · rw [iteT h1]; exact ⟨-1, rfl, by omega⟩
  · rw [iteF h1]
    by_cases h2 : rs.getD b.toNat default > rs.getD a.toNat default
    · rw [iteT h2]; exact ⟨1, rfl, by omega⟩
    · rw [iteF h2]; exact ⟨0, rfl, by omega⟩
theorem sorted (rs : List Int) {lvl n : Nat} (hn : 10001 < n) (hl : rs.length ≤ 10000) (hlv : 20010 ≤ lvl) : ∃ d, Ord rs d ∧ g_slices_SortStableFunc_int_int (KN lvl) n (idx rs.length) (Fv.c36 rs) = some d := by
  obtain ⟨d, h1, h2, h3⟩ := QSort.sort_ok (c0 := 1) (f := Fv.c36 rs) (D := fun a => 0 ≤ a ∧ a < rs.length) (key := key rs) (fun m hm => by
    obtain ⟨k, rfl⟩ : ∃ k, m = k + 1 := ⟨m - 1, by omega⟩
    exact cmp_ok rs k) (lvl := lvl) (n := n) (idx rs.length) hn (by rw [idx_len]; omega) (idx_lt _) (fun x hx => by
      obtain ⟨k, hk, rfl⟩ := idx_mem.1 hx; omega) (by rw [idx_len]; exact hl)
  exact ⟨d, ⟨h1, h2⟩, h3⟩
theorem slb_of {a b : Int} {n : Nat} (h0 : 0 ≤ a) (h1 : a ≤ b) (h2 : b ≤ n) : slb a b n = true := by simp [slb, h0, h1, h2]
theorem mkb_of {n b : Nat} (h : n * b ≤ 140737488355328) (h2 : n ≤ 4611686018427387904) : mkb (n : Int) b = true := by
  simp only [mkb, Bool.and_eq_true, decide_eq_true_eq, Int.toNat_natCast]; omega
/-- flex.Share -/
theorem flex_ok {lvl n : Nat} (T : Int) (L : List Int) (hL : L.length ≤ 10000) (hn : 10001 < n) (hlv : 20010 ≤ lvl) : g_flex_Share (KN lvl) n T L = some (share (lim T mx) (wts L)) := by
  unfold g_flex_Share
  have hT : 0 ≤ lim T mx ∧ lim T mx ≤ 2147483647 := lim_bd (m := mx) (by decide)
  simp only [g_flex_limit, sb, mkb_of (show L.length * 8 ≤ 140737488355328 by omega) (by omega), chk_true, tnat]
  have h1 := f_sum (K := KN lvl) (n := n) L (lim T mx) (List.replicate L.length 0) (List.replicate L.length 0) (List.replicate L.length 0) hL n 0 (by omega) (by omega)
  rw [show sm ((wts L).take 0) = 0 from rfl, show ((0 : Nat) : Int) = 0 from rfl] at h1
  rw [show min (max T 0) 2147483647 = lim T mx from rfl, h1]
  have hsm := sm_wts hL
  by_cases hz : sm (wts L) = 0
  · rw [if_pos (by simp [hz])]
    unfold share
    rw [if_pos hz, wts_len]
  · rw [if_neg (by simp [hz])]
    have hS : 0 < sm (wts L) := by omega
    have h2 := f_parts (K := KN lvl) (n := n) L (lim T mx) hT hL hS n 0 (by omega) (by omega)
    simp only [List.take_zero, List.map_nil, List.nil_append, Nat.sub_zero, sm, Int.sub_zero, show idx 0 = [] from rfl] at h2
    rw [show ((0 : Nat) : Int) = 0 from rfl] at h2
    rw [h2]
    obtain ⟨d, o1, o2⟩ := sorted ((wts L).map (r (lim T mx) (sm (wts L)))) (lvl := lvl) (n := n) hn (by simp [wts_len, hL]) hlv
    rw [List.length_map, wts_len] at o2
    rw [o2, sb]
    have hd : d.length = L.length := by rw [o1.len, List.length_map, wts_len]
    have hlb := left_bd (lim T mx) (wts L) hS
    rw [wts_len] at hlb
    rw [slb_of (by omega) hlb.1 (by rw [hd]; exact hlb.2), chk_true]
    rw [show (0 : Int).toNat = 0 from rfl, List.drop_zero]
    rw [share_inc (lim T mx) (wts L) d (fun w hw => (wts_bd L w hw).1) (by omega) o1]
    have := f_inc (K := KN lvl) (n := n) (d.take (left (lim T mx) (wts L)).toNat) (by simp; omega) n 0 ((wts L).map (q (lim T mx) (sm (wts L)))) (by omega) (by simp; omega) (fun x hx => by
      obtain ⟨k, hk, rfl⟩ := o1.mem.1 (List.mem_of_mem_take hx)
      simp at hk; simp; omega) (fun x hx => by
      obtain ⟨w, hw, rfl⟩ := List.mem_map.1 hx
      have := q_bd hS hT.1 (wts_bd L w hw).1 (sm_mem _ (fun w hw => (wts_bd L w hw).1) w hw)
      have h3 : (d.take (left (lim T mx) (wts L)).toNat).length ≤ 10000 := by simp; omega
      omega)
    rw [show ((0 : Nat) : Int) = 0 from rfl, List.drop_zero] at this
    exact this
/-! the reference -/
theorem r_sum (L : List Int) (T : Int) (hL : L.length ≤ 10000) : ∀ (m i : Nat), i ≤ L.length → L.length < m + i →
    g_ref19_Share_l1 K n L T m (sm ((wts L).take i)) (i : Int) = if (sm (wts L) == 0) = true then some (List.replicate L.length 0) else g_ref19_Share_l2 K n L T (sm (wts L)) n T 0 (List.replicate L.length 0) (List.replicate L.length 0) := by
  intro m
  induction m with
  | zero => intro i h1 h2; omega
  | succ m ih =>
    intro i h1 h2
    simp only [g_ref19_Share_l1, g_ref19_Share_l1_b]
    by_cases hi : i < L.length
    · have hb := sm_wts hL
      have hs := sm_take (W := wts L) (fun w hw => (wts_bd L w hw).1) (i + 1)
      have e := sm_take_succ (W := wts L) (i := i) (by rw [wts_len]; exact hi)
      have el := wts_at hi
      rw [iteT (by omega), chk_inb (by omega), tnat]
      simp only [g_ref19_limit, sb]
      rw [wn (n := (i : Int) + 1) (k := i + 1) (by omega) (by omega)]
      rw [show w64 (sm ((wts L).take i) + min (max (L.getD i default) 0) 2147483647) = sm ((wts L).take (i + 1)) by
        rw [e, el]; exact w64_id (by rw [e, el] at hs; unfold lim mx at hs; omega) (by rw [e, el] at hs; unfold lim mx at hs; omega)]
      exact ih (i + 1) (by omega) (by omega)
    · rw [iteF (by omega), List.take_of_length_le (by rw [wts_len]; omega)]
      simp only [mkb_of (show L.length * 8 ≤ 140737488355328 by omega) (by omega), chk_true, tnat, sb]
theorem r_parts (L : List Int) (T : Int) (hT : 0 ≤ T ∧ T ≤ 2147483647) (hL : L.length ≤ 10000) (hS : 0 < sm (wts L)) : ∀ (m i : Nat), i ≤ L.length → L.length < m + i →
    g_ref19_Share_l2 K n L T (sm (wts L)) m (T - sm (((wts L).take i).map (q T (sm (wts L))))) (i : Int) (((wts L).take i).map (q T (sm (wts L))) ++ List.replicate (L.length - i) 0) (((wts L).take i).map (r T (sm (wts L))) ++ List.replicate (L.length - i) 0) =
    g_ref19_Share_l5 K n n (left T (wts L)) ((wts L).map (q T (sm (wts L)))) ((wts L).map (r T (sm (wts L)))) := by
  intro m
  induction m with
  | zero => intro i h1 h2; omega
  | succ m ih =>
    intro i h1 h2
    simp only [g_ref19_Share_l2, g_ref19_Share_l2_b]
    by_cases hi : i < L.length
    · have hW := fun w hw => (wts_bd L w hw).1
      have hlp := left_part hT.1 hW hS
      have el := wts_at hi
      obtain ⟨k, ek⟩ : ∃ k, L.length - i = k + 1 := ⟨L.length - i - 1, by omega⟩
      have hw := wts_bd L ((wts L).getD i default) (by rw [getD_get (by rw [wts_len]; exact hi)]; exact List.getElem_mem _)
      have hm := mul_bd hT.1 hT.2 hw.1 hw.2
      rw [iteT (by omega), chk_inb (by omega), tnat]
      simp only [g_ref19_limit, sb]
      have ew : min (max (L.getD i default) 0) 2147483647 = (wts L).getD i default := by rw [el]; rfl
      rw [ew, w64_id (n := T * (wts L).getD i default) (by omega) (by omega)]
      have hz : (sm (wts L) != 0) = true := by simp; omega
      rw [hz, chk_true, chk_true]
      have la : (((wts L).take i).map (q T (sm (wts L))) ++ List.replicate (L.length - i) 0).length = L.length := by simp [wts_len]; omega
      have lb : (((wts L).take i).map (r T (sm (wts L))) ++ List.replicate (L.length - i) 0).length = L.length := by simp [wts_len]; omega
      simp only [List.length_set]
      rw [la, lb, chk_inb (by omega), chk_inb (by omega), chk_inb (by omega), ek]
      have l1 : i = (((wts L).take i).map (q T (sm (wts L)))).length := by simp [wts_len]; omega
      have l2 : i = (((wts L).take i).map (r T (sm (wts L)))).length := by simp [wts_len]; omega
      rw [set_rep l1, set_rep l2, get_rep l1]
      have hq := q_bd hS hT.1 hw.1 (sm_mem _ hW _ (by rw [getD_get (by rw [wts_len]; exact hi)]; exact List.getElem_mem _))
      have ed : w64 (Int.tdiv (T * (wts L).getD i default) (sm (wts L))) = q T (sm (wts L)) ((wts L).getD i default) := by
        rw [Int.tdiv_eq_ediv_of_nonneg hm.1]
        exact w64_id (by show _ ≤ q _ _ _; omega) (by show q _ _ _ ≤ _; omega)
      have er : Int.tmod (T * (wts L).getD i default) (sm (wts L)) = r T (sm (wts L)) ((wts L).getD i default) := by
        rw [Int.tmod_eq_emod_of_nonneg hm.1]; rfl
      rw [ed, er, ← map_take_succ _ (by rw [wts_len]; exact hi), ← map_take_succ _ (by rw [wts_len]; exact hi)]
      have e1 : w64 (T - sm (((wts L).take i).map (q T (sm (wts L)))) - q T (sm (wts L)) ((wts L).getD i default)) = T - sm (((wts L).take (i + 1)).map (q T (sm (wts L)))) := by
        rw [map_take_succ _ (by rw [wts_len]; exact hi), sm_app]
        simp only [sm]
        have a1 := hlp i
        rw [w64_id (by omega) (by omega)]; omega
      rw [e1, wn (n := (i : Int) + 1) (k := i + 1) (by omega) (by omega)]
      have := ih (i + 1) (by omega) (by omega)
      rw [show L.length - (i + 1) = k by omega] at this
      exact this
    · have : i = L.length := by omega
      subst this
      rw [iteF (by omega)]
      have ew : (wts L).take L.length = wts L := List.take_of_length_le (by rw [wts_len]; omega)
      rw [ew]
      simp only [Nat.sub_self, List.replicate_zero, List.append_nil]
      rfl
/-- the first greatest one -/
structure Best (rs : List Int) (i b : Nat) : Prop where
  lt : b < i
  before : ∀ k, k < b → rs.getD k default < rs.getD b default
  all : ∀ k, k < i → rs.getD k default ≤ rs.getD b default
theorem best_one (rs : List Int) : Best rs 1 0 := ⟨by omega, fun k hk => by omega, fun k hk => by
  have : k = 0 := by omega
  subst this; exact Int.le_refl _⟩
theorem r_best (v27 : Int) (p rs : List Int) (L3 : Int → List Int → List Int → Option (List Int)) (hl : rs.length ≤ 10000) : ∀ (m i b : Nat), i ≤ rs.length → rs.length < m + i → Best rs i b →
    ∃ b', Best rs rs.length b' ∧ g_ref19_Share_l4 K n v27 p rs L3 m (b : Int) (i : Int) = (chk (inb (b' : Int) p.length) (
    chk (inb (b' : Int) p.length) (
    (some (List.set p b' (w64 ((List.getD p b' default) + 1)))).bind fun v36 =>
    chk (inb (b' : Int) rs.length) (
    L3 (w64 (v27 - 1)) v36 (List.set rs b' (-1)))))) := by
  intro m
  induction m with
  | zero => intro i b h1 h2; omega
  | succ m ih =>
    intro i b h1 h2 hb
    have hlt := hb.lt
    simp only [g_ref19_Share_l4, g_ref19_Share_l4_b]
    by_cases hi : i < rs.length
    · rw [iteT (by omega), chk_inb (by omega), chk_inb (by omega), tnat, tnat]
      simp only [sb, g_ref19_Share_j3]
      rw [wn (n := (i : Int) + 1) (k := i + 1) (by omega) (by omega)]
      by_cases hc : rs.getD i default > rs.getD b default
      · rw [iteT hc]
        refine ih (i + 1) i (by omega) (by omega) ⟨by omega, fun k hk => ?_, fun k hk => ?_⟩
        · have := hb.all k hk; omega
        · rcases Nat.lt_or_ge k i with q | q
          · have := hb.all k q; omega
          · obtain rfl : k = i := by omega
            exact Int.le_refl _
      · rw [iteF hc]
        refine ih (i + 1) b (by omega) (by omega) ⟨by omega, hb.before, fun k hk => ?_⟩
        rcases Nat.lt_or_ge k i with q | q
        · exact hb.all k q
        · obtain rfl : k = i := by omega
          omega
    · rw [iteF (by omega)]
      have : i = rs.length := by omega
      subst this
      exact ⟨b, hb, by simp only [tnat]⟩
def mark (rs l : List Int) : List Int := l.foldl (fun a i => a.set i.toNat (-1)) rs
theorem mark_len (l : List Int) : ∀ rs : List Int, (mark rs l).length = rs.length := by
  induction l with
  | nil => intro rs; rfl
  | cons i l ih => intro rs; show (mark (rs.set i.toNat (-1)) l).length = _; rw [ih]; simp
theorem mark_out (l : List Int) : ∀ (rs : List Int) (k : Nat), (∀ i ∈ l, 0 ≤ i) → (k : Int) ∉ l → (mark rs l).getD k default = rs.getD k default := by
  induction l with
  | nil => intro rs k _ _; rfl
  | cons i l ih =>
    intro rs k h0 hk
    show (mark (rs.set i.toNat (-1)) l).getD k default = _
    have := h0 i (by simp)
    rw [ih _ k (fun j hj => h0 j (by simp [hj])) (fun h => hk (by simp [h])), getD_set_ne (fun e => hk (by simp; omega))]
theorem mark_in (l : List Int) : ∀ (rs : List Int) (k : Nat), (∀ i ∈ l, 0 ≤ i) → (k : Int) ∈ l → k < rs.length → (mark rs l).getD k default = -1 := by
  induction l with
  | nil => intro rs k _ h; simp at h
  | cons i l ih =>
    intro rs k h0 hk hl
    show (mark (rs.set i.toNat (-1)) l).getD k default = _
    by_cases hm : (k : Int) ∈ l
    · exact ih _ k (fun j hj => h0 j (by simp [hj])) hm (by simpa using hl)
    · rw [mark_out l _ k (fun j hj => h0 j (by simp [hj])) hm]
      have : i = (k : Int) := by rcases List.mem_cons.1 hk with h | h; exact h.symm; exact absurd h hm
      subst this
      rw [Int.toNat_natCast, getD_set_eq hl]
theorem mark_app (rs l m : List Int) : mark rs (l ++ m) = mark (mark rs l) m := by simp [mark]
/-- the greatest of those that are left is the next in the sorted order -/
theorem best_is {rs d : List Int} (h : Ord rs d) (h0 : ∀ k, k < rs.length → 0 ≤ rs.getD k default) {t b : Nat} (ht : t < d.length) (hb : Best (mark rs (d.take t)) rs.length b) : d.getD t default = (b : Int) := by
  have hnn : ∀ i ∈ d.take t, 0 ≤ i := fun i hi => by obtain ⟨j, _, rfl⟩ := h.mem.1 (List.mem_of_mem_take hi); omega
  have hm : d.getD t default ∈ d := by rw [getD_get ht]; exact List.getElem_mem _
  obtain ⟨e, he, ee⟩ := h.mem.1 hm
  have nd := h.nodup
  have enot : (e : Int) ∉ d.take t := by
    intro hh
    obtain ⟨i, i1, i2, i3⟩ := QSort.mem_take_at hh
    have := QSort.pw_at h.s i1 ht
    unfold QSort.at_ at this i3
    rw [i3, ee] at this
    exact this.irr
  have ve : (mark rs (d.take t)).getD e default = rs.getD e default := mark_out _ _ _ hnn enot
  have hle := hb.all e he
  rw [ve] at hle
  by_cases hbt : (b : Int) ∈ d.take t
  · have := mark_in (d.take t) rs b hnn hbt hb.lt
    have := h0 e he
    omega
  · have vb : (mark rs (d.take t)).getD b default = rs.getD b default := mark_out _ _ _ hnn hbt
    rw [vb] at hle
    by_cases hbe : b = e
    · rw [ee, hbe]
    · exfalso
      have hbd : (b : Int) ∈ d := h.mem.2 ⟨b, hb.lt, rfl⟩
      have hbd2 : (b : Int) ∈ d.drop (t + 1) := by
        have e1 : d = d.take t ++ d.drop t := (List.take_append_drop t d).symm
        have e2 : d.drop t = d.getD t default :: d.drop (t + 1) := by rw [List.drop_eq_getElem_cons ht, ← getD_get ht]
        rw [e2] at e1
        rw [e1] at hbd
        rcases List.mem_append.1 hbd with q | q
        · exact absurd q hbt
        · rcases List.mem_cons.1 q with q | q
          · exfalso; rw [ee] at q; omega
          · exact q
      obtain ⟨i, i1, i2, i3⟩ := QSort.mem_drop_at hbd2
      have hR := QSort.pw_at h.s (i := t) (j := i) (by omega) i2
      unfold QSort.at_ at hR i3
      rw [i3, ee] at hR
      unfold QSort.R key at hR
      rw [Int.toNat_natCast, Int.toNat_natCast] at hR
      have hbf := hb.before
      rcases Nat.lt_or_ge e b with q | q
      · have := hbf e q; rw [ve, vb] at this; omega
      · omega
theorem r_rounds {rs d p : List Int} (h : Ord rs d) (h0 : ∀ k, k < rs.length → 0 ≤ rs.getD k default) (hl : rs.length ≤ 10000) (hp : p.length = rs.length) (hn : 10001 < n) (l : Nat) (hld : l ≤ d.length) (hpb : ∀ x ∈ p, 0 ≤ x ∧ x ≤ 4611686018427387904) : ∀ (m t : Nat), t ≤ l → l < m + t →
    g_ref19_Share_l5 K n m ((l - t : Nat) : Int) (inc p (d.take t)) (mark rs (d.take t)) = some (inc p (d.take l)) := by
  intro m
  induction m with
  | zero => intro t h1 h2; omega
  | succ m ih =>
    intro t h1 h2
    simp only [g_ref19_Share_l5, g_ref19_Share_l5_b]
    have hdl := h.len
    by_cases ht : t < l
    · rw [iteT (by omega)]
      have hr0 : 0 < rs.length := by omega
      have ml := mark_len (d.take t) rs
      obtain ⟨b, hb, e⟩ := r_best (K := K) (n := n) ((l - t : Nat) : Int) (inc p (d.take t)) (mark rs (d.take t)) (g_ref19_Share_l5 K n m) (by rw [ml]; exact hl) n 1 0 (by omega) (by omega) (best_one _)
      rw [show ((0 : Nat) : Int) = 0 from rfl, show ((1 : Nat) : Int) = 1 from rfl] at e
      rw [e]
      rw [ml] at hb
      have hbi := best_is h h0 (by omega) hb
      have hblt := hb.lt
      rw [inc_len, hp, ml, chk_inb (by omega), chk_inb (by omega), sb, chk_inb (by omega)]
      rw [wn (n := ((l - t : Nat) : Int) - 1) (k := l - (t + 1)) (by omega) (by omega)]
      have hnd : (d.take t).Nodup := h.nodup.sublist (List.take_sublist _ _)
      have hnn : ∀ i ∈ d.take t, 0 ≤ i := fun i hi => by obtain ⟨j, _, rfl⟩ := h.mem.1 (List.mem_of_mem_take hi); omega
      have hv := inc_at (d.take t) p b hnd hnn (by omega)
      have hpv := hpb (p.getD b default) (by rw [getD_get (by omega)]; exact List.getElem_mem _)
      have hw : w64 ((inc p (d.take t)).getD b default + 1) = (inc p (d.take t)).getD b default + 1 := by
        refine w64_id ?_ ?_ <;> (rw [hv]; split <;> omega)
      have es : d.take (t + 1) = d.take t ++ [(b : Int)] := by
        rw [List.take_succ_eq_append_getElem (by omega), ← getD_get (by omega), hbi]
      have e1 : List.set (inc p (d.take t)) b ((inc p (d.take t)).getD b default + 1) = inc p (d.take (t + 1)) := by
        rw [es, inc_app]; rfl
      have e2 : List.set (mark rs (d.take t)) b (-1) = mark rs (d.take (t + 1)) := by
        rw [es, mark_app]; rfl
      rw [hw, e1, e2]
      exact ih (t + 1) (by omega) (by omega)
    · have : t = l := by omega
      subst this
      rw [iteF (by omega)]
/-- knapsackref19.Share -/
theorem ref_ok {K : Kn} {n : Nat} (T : Int) (L : List Int) (hL : L.length ≤ 10000) (hn : 10001 < n) : g_ref19_Share K n T L = some (share (lim T mx) (wts L)) := by
  unfold g_ref19_Share
  have hT : 0 ≤ lim T mx ∧ lim T mx ≤ 2147483647 := lim_bd (m := mx) (by decide)
  simp only [g_ref19_limit, sb]
  have h1 := r_sum (K := K) (n := n) L (lim T mx) hL n 0 (by omega) (by omega)
  rw [show sm ((wts L).take 0) = 0 from rfl, show ((0 : Nat) : Int) = 0 from rfl] at h1
  rw [show min (max T 0) 2147483647 = lim T mx from rfl, h1]
  have hsm := sm_wts hL
  by_cases hz : sm (wts L) = 0
  · rw [if_pos (by simp [hz])]
    unfold share
    rw [if_pos hz, wts_len]
  · rw [if_neg (by simp [hz])]
    have hS : 0 < sm (wts L) := by omega
    have h2 := r_parts (K := K) (n := n) L (lim T mx) hT hL hS n 0 (by omega) (by omega)
    simp only [List.take_zero, List.map_nil, List.nil_append, Nat.sub_zero, sm, Int.sub_zero] at h2
    rw [show ((0 : Nat) : Int) = 0 from rfl] at h2
    rw [h2]
    obtain ⟨d, o1, o2⟩ := sorted ((wts L).map (r (lim T mx) (sm (wts L)))) (lvl := 20010) (n := 10002) (by omega) (by simp [wts_len, hL]) (Nat.le_refl _)
    have hd : d.length = L.length := by rw [o1.len, List.length_map, wts_len]
    have hlb := left_bd (lim T mx) (wts L) hS
    rw [wts_len] at hlb
    rw [share_inc (lim T mx) (wts L) d (fun w hw => (wts_bd L w hw).1) (by omega) o1]
    have := r_rounds (K := K) (n := n) (p := (wts L).map (q (lim T mx) (sm (wts L)))) o1 (fun k hk => by
      rw [List.length_map] at hk
      rw [getD_map_r _ _ _ hk]; exact (r_bd hS).1) (by simp [wts_len, hL]) (by simp) hn (left (lim T mx) (wts L)).toNat (by omega) (fun x hx => by
      obtain ⟨w, hw, rfl⟩ := List.mem_map.1 hx
      have := q_bd hS hT.1 (wts_bd L w hw).1 (sm_mem _ (fun w hw => (wts_bd L w hw).1) w hw)
      omega) n 0 (by omega) (by omega)
    rw [show (((left (lim T mx) (wts L)).toNat - 0 : Nat) : Int) = left (lim T mx) (wts L) by omega] at this
    exact this
end Sh
end Go.Proofs.Ytlpndemhnpajiaa

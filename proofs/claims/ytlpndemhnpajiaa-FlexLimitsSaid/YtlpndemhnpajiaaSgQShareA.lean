/- Sharing a number in proportion to weights, as plain lists. No program in sight. -/
import Derived.Test.YtlpndemhnpajiaaSgQFx
import Derived.Test.YtlpndemhnpajiaaSgQSortD
namespace Go.Proofs.Ytlpndemhnpajiaa
set_option linter.all false
open Go.RowKit
namespace Sh
/-- The numbers 0 .. n-1. -/
def idx (n : Nat) : List Int := (List.range n).map fun (k : Nat) => (k : Int)
instance (key : Int → Int) (a b : Int) : Decidable (QSort.R key a b) := by unfold QSort.R; infer_instance
theorem idx_len (n : Nat) : (idx n).length = n := by simp [idx]
theorem idx_mem {n : Nat} {x : Int} : x ∈ idx n ↔ ∃ k : Nat, k < n ∧ x = k := by
  simp only [idx, List.mem_map, List.mem_range]
  exact ⟨fun ⟨k, h, e⟩ => ⟨k, h, e.symm⟩, fun ⟨k, h, e⟩ => ⟨k, h, e.symm⟩⟩
theorem idx_lt (n : Nat) : (idx n).Pairwise (· < ·) := by
  unfold idx
  rw [List.pairwise_map]
  refine List.Pairwise.imp (fun h => ?_) List.pairwise_lt_range
  omega
theorem idx_succ (n : Nat) : idx (n + 1) = idx n ++ [(n : Int)] := by simp [idx, List.range_succ]
def lim (n most : Int) : Int := min (max n 0) most
def mx : Int := 2147483647
theorem lim_bd {n m : Int} (h : 0 ≤ m) : 0 ≤ lim n m ∧ lim n m ≤ m := by unfold lim; omega
/-- quotient, rest -/
def q (T S w : Int) : Int := T * w / S
def r (T S w : Int) : Int := T * w % S
def left (T : Int) (W : List Int) : Int := T - sm (W.map (q T (sm W)))
/-- does the k-th weight get one more? -/
def win (T : Int) (W : List Int) (k : Nat) : Prop :=
  0 < r T (sm W) (W.getD k default) ∧ (((W.take k).countP (fun w => decide (r T (sm W) (W.getD k default) ≤ r T (sm W) w)) + (W.drop (k + 1)).countP (fun w => decide (r T (sm W) (W.getD k default) < r T (sm W) w)) : Nat) : Int) < left T W
instance (T : Int) (W : List Int) (k : Nat) : Decidable (win T W k) := by unfold win; infer_instance
def part (T : Int) (W : List Int) (k : Nat) : Int := q T (sm W) (W.getD k default) + if win T W k then 1 else 0
/-- The parts of T for the weights W, none of which is negative. -/
def share (T : Int) (W : List Int) : List Int := if sm W = 0 then List.replicate W.length 0 else (List.range W.length).map (part T W)
theorem share_len (T : Int) (W : List Int) : (share T W).length = W.length := by unfold share; split <;> simp
def inc : List Int → List Int → List Int
  | p, [] => p
  | p, i :: l => inc (p.set i.toNat (p.getD i.toNat default + 1)) l
theorem inc_len : ∀ (l p : List Int), (inc p l).length = p.length
  | [], p => rfl
  | i :: l, p => by simp [inc, inc_len l]
theorem inc_app : ∀ (l m p : List Int), inc p (l ++ m) = inc (inc p l) m
  | [], m, p => rfl
  | i :: l, m, p => by simp [inc, inc_app l]
theorem sm_set : ∀ (p : List Int) (k : Nat) (x : Int), k < p.length → sm (p.set k x) = sm p - p.getD k default + x
  | [], k, x, h => by simp at h
  | y :: p, 0, x, h => by simp [sm]; omega
  | y :: p, k + 1, x, h => by
    have := sm_set p k x (by simpa using h)
    simp only [List.set_cons_succ, sm, this, List.getD_cons_succ]; omega
theorem inc_sum : ∀ (l p : List Int), (∀ i ∈ l, 0 ≤ i ∧ i.toNat < p.length) → sm (inc p l) = sm p + l.length
  | [], p, h => by simp [inc]
  | i :: l, p, h => by
    simp only [inc]
    rw [inc_sum l _ (fun j hj => by have := h j (by simp [hj]); simpa using this), sm_set _ _ _ (h i (by simp)).2]
    simp only [List.length_cons]; omega
theorem getD_set_ne {p : List Int} {i j : Nat} {x : Int} (h : i ≠ j) : (p.set i x).getD j default = p.getD j default := by simp [List.getD_eq_getElem?_getD, List.getElem?_set, h]
theorem getD_set_eq {p : List Int} {i : Nat} {x : Int} (h : i < p.length) : (p.set i x).getD i default = x := by simp [List.getD_eq_getElem?_getD, List.getElem?_set, h]
theorem inc_at : ∀ (l p : List Int) (k : Nat), l.Nodup → (∀ i ∈ l, 0 ≤ i) → k < p.length → (inc p l).getD k default = p.getD k default + if (k : Int) ∈ l then 1 else 0
  | [], p, k, _, _, _ => by simp [inc]
  | i :: l, p, k, hn, h0, hk => by
    simp only [inc]
    rw [List.nodup_cons] at hn
    rw [inc_at l _ k hn.2 (fun j hj => h0 j (by simp [hj])) (by simpa using hk)]
    have hi := h0 i (by simp)
    by_cases e : i.toNat = k
    · have e2 : i = (k : Int) := by omega
      subst e2
      rw [Int.toNat_natCast, getD_set_eq hk, if_neg hn.1, if_pos (by simp)]; omega
    · rw [getD_set_ne e]
      have : ((k : Int) ∈ i :: l) ↔ (k : Int) ∈ l := by
        rw [List.mem_cons]; constructor
        · rintro (h | h)
          · omega
          · exact h
        · exact .inr
      simp only [this]
theorem sm_perm {a b : List Int} (h : a.Perm b) : sm a = sm b := by
  induction h with
  | nil => rfl
  | cons x _ ih => simp [sm, ih]
  | swap x y l => simp only [sm]; omega
  | trans _ _ h1 h2 => rw [h1, h2]
theorem sm_qr (T S : Int) (hS : 0 < S) : ∀ W : List Int, S * sm (W.map (q T S)) + sm (W.map (r T S)) = T * sm W
  | [] => by simp [sm]
  | w :: W => by
    have := sm_qr T S hS W
    have h := Int.mul_ediv_add_emod (T * w) S
    simp only [List.map_cons, sm, Int.mul_add]
    unfold q r at *
    omega
theorem sm_le {c : Int} : ∀ L : List Int, (∀ x ∈ L, x ≤ c) → sm L ≤ L.length * c
  | [], _ => by simp [sm]
  | x :: L, h => by
    have := sm_le L (fun y hy => h y (by simp [hy])); have := h x (by simp)
    simp only [sm, List.length_cons]
    rw [show ((L.length + 1 : Nat) : Int) * c = L.length * c + c by simp [Int.add_mul]]; omega
theorem sm_nn : ∀ L : List Int, (∀ x ∈ L, 0 ≤ x) → 0 ≤ sm L
  | [], _ => by simp [sm]
  | x :: L, h => by
    have := sm_nn L (fun y hy => h y (by simp [hy])); have := h x (by simp)
    simp only [sm]; omega
theorem sm_mem : ∀ (L : List Int), (∀ x ∈ L, 0 ≤ x) → ∀ x ∈ L, x ≤ sm L
  | [], _, _, hx => by simp at hx
  | y :: L, h, x, hx => by
    have h1 := sm_nn L (fun y hy => h y (by simp [hy])); have h2 := h y (by simp)
    simp only [sm]
    rcases List.mem_cons.1 hx with rfl | hx
    · omega
    · have := sm_mem L (fun y hy => h y (by simp [hy])) x hx; omega
theorem r_bd {T S w : Int} (hS : 0 < S) : 0 ≤ r T S w ∧ r T S w < S := ⟨Int.emod_nonneg _ (by omega), Int.emod_lt_of_pos _ hS⟩
theorem q_bd {T S w : Int} (hS : 0 < S) (hT : 0 ≤ T) (hw : 0 ≤ w) (hw2 : w ≤ S) : 0 ≤ q T S w ∧ q T S w ≤ T := by
  refine ⟨Int.ediv_nonneg (Int.mul_nonneg hT hw) (by omega), ?_⟩
  unfold q
  have h : T * w ≤ T * S := Int.mul_le_mul_of_nonneg_left hw2 hT
  calc T * w / S ≤ T * S / S := Int.ediv_le_ediv hS h
    _ = T := Int.mul_ediv_cancel _ (by omega)
theorem left_mul (T : Int) (W : List Int) (hS : 0 < sm W) : sm W * left T W = sm (W.map (r T (sm W))) := by
  have := sm_qr T (sm W) hS W
  unfold left
  rw [Int.mul_sub, Int.mul_comm (sm W) T]; omega
theorem left_bd (T : Int) (W : List Int) (hS : 0 < sm W) : 0 ≤ left T W ∧ left T W ≤ W.length := by
  have h := left_mul T W hS
  have h0 : 0 ≤ sm (W.map (r T (sm W))) := sm_nn _ (fun x hx => by
    obtain ⟨w, _, rfl⟩ := List.mem_map.1 hx; exact (r_bd hS).1)
  have h1 : sm (W.map (r T (sm W))) ≤ (W.map (r T (sm W))).length * sm W := sm_le _ (fun x hx => by
    obtain ⟨w, _, rfl⟩ := List.mem_map.1 hx; have := (r_bd (T := T) (w := w) hS).2; omega)
  rw [List.length_map, ← h, Int.mul_comm] at h1
  refine ⟨?_, Int.le_of_mul_le_mul_right h1 hS⟩
  rw [← h] at h0
  rcases Int.lt_or_le (left T W) 0 with h | h
  · have := Int.mul_neg_of_pos_of_neg hS h; omega
  · exact h
/-- the key by which indices are sorted: the greatest rests first -/
def key (rs : List Int) (a : Int) : Int := - rs.getD a.toNat default
/-- An order of the indices as a stable sort makes it. -/
structure Ord (rs d : List Int) : Prop where
  p : d.Perm (idx rs.length)
  s : d.Pairwise (QSort.R (key rs))
theorem Ord.nodup {rs d : List Int} (h : Ord rs d) : d.Nodup := by
  refine List.Pairwise.imp (fun hh e => ?_) h.s
  subst e; exact hh.irr
theorem Ord.mem {rs d : List Int} (h : Ord rs d) {x : Int} : x ∈ d ↔ ∃ k : Nat, k < rs.length ∧ x = k := by rw [h.p.mem_iff, idx_mem]
theorem Ord.len {rs d : List Int} (h : Ord rs d) : d.length = rs.length := by rw [h.p.length_eq, idx_len]
theorem countP_idx (rs : List Int) (p : Int → Bool) : ∀ n, n ≤ rs.length → (idx n).countP (fun a => p (rs.getD a.toNat default)) = (rs.take n).countP p
  | 0, _ => by simp [idx]
  | n + 1, h => by
    rw [idx_succ, List.countP_append, countP_idx rs p n (by omega), List.take_succ_eq_append_getElem (by omega), List.countP_append]
    simp [List.getD_eq_getElem?_getD, List.getElem?_eq_getElem (show n < rs.length by omega)]
/-- how many stand ahead of k -/
theorem rank {rs d : List Int} (h : Ord rs d) {t k : Nat} (ht : t < d.length) (hk : d.getD t default = (k : Int)) : (rs.take k).countP (fun w => decide (rs.getD k default ≤ w)) + (rs.drop (k + 1)).countP (fun w => decide (rs.getD k default < w)) = t := by
  have ek : k < rs.length := by
    have : d.getD t default ∈ d := by rw [getD_get ht]; exact List.getElem_mem _
    rw [hk] at this
    obtain ⟨j, h1, h2⟩ := h.mem.1 this
    omega
  -- in the sorted order there are t ahead of k
  have c1 : d.countP (fun a => decide (QSort.R (key rs) a k)) = t := by
    have e : d = d.take t ++ d.drop t := (List.take_append_drop t d).symm
    have e2 : d.drop t = (k : Int) :: d.drop (t + 1) := by rw [List.drop_eq_getElem_cons ht, ← getD_get ht, hk]
    rw [e2] at e
    have hs := h.s
    rw [e, List.pairwise_append, List.pairwise_cons] at hs
    rw [e, List.countP_append, List.countP_cons]
    have z1 : (d.take t).countP (fun a => decide (QSort.R (key rs) a k)) = t := by
      rw [List.countP_eq_length.2 (fun a ha => by simpa using hs.2.2 a ha k (by simp))]; simp; omega
    have z2 : (d.drop (t + 1)).countP (fun a => decide (QSort.R (key rs) a k)) = 0 := by
      rw [List.countP_eq_zero]; intro a ha hh
      exact (hs.2.1.1 a ha).asymm (by simpa using hh)
    have z3 : (if decide (QSort.R (key rs) (k : Int) k) = true then 1 else 0) = 0 := by
      rw [if_neg]; intro hh; exact (by simpa using hh : QSort.R (key rs) (k : Int) k).irr
    rw [z1, z2, z3]
    omega
  rw [h.p.countP_eq] at c1
  -- the indices below k, k, those above
  have e : idx rs.length = idx k ++ (k : Int) :: (idx rs.length).drop (k + 1) := by
    have h1 : (idx rs.length).take k = idx k := by unfold idx; rw [← List.map_take, List.take_range, Nat.min_eq_left (Nat.le_of_lt ek)]
    have h2 : k < (idx rs.length).length := by rw [idx_len]; exact ek
    conv => lhs; rw [← List.take_append_drop k (idx rs.length), h1, List.drop_eq_getElem_cons h2]
    congr 2
    simp [idx]
  have a1 : (idx k).countP (fun a => decide (QSort.R (key rs) a k)) = (rs.take k).countP (fun w => decide (rs.getD k default ≤ w)) := by
    rw [← countP_idx rs (fun w => decide (rs.getD k default ≤ w)) k (by omega)]
    refine List.countP_congr (fun a ha => ?_)
    obtain ⟨j, hj, rfl⟩ := idx_mem.1 ha
    simp only [decide_eq_true_eq]
    simp only [QSort.R, key, Int.toNat_natCast]
    omega
  have a2 : ((idx rs.length).drop (k + 1)).countP (fun a => decide (QSort.R (key rs) a k)) = (rs.drop (k + 1)).countP (fun w => decide (rs.getD k default < w)) := by
    have b1 := countP_idx rs (fun w => decide (rs.getD k default < w)) rs.length (Nat.le_refl _)
    have b2 := countP_idx rs (fun w => decide (rs.getD k default < w)) (k + 1) (by omega)
    rw [List.take_length] at b1
    have b3 : rs.countP (fun w => decide (rs.getD k default < w)) = (rs.take (k + 1)).countP (fun w => decide (rs.getD k default < w)) + (rs.drop (k + 1)).countP (fun w => decide (rs.getD k default < w)) := by
      rw [← List.countP_append, List.take_append_drop]
    have b4 : idx rs.length = idx (k + 1) ++ (idx rs.length).drop (k + 1) := by
      rw [idx_succ]; conv => lhs; rw [e]
      simp
    rw [b4, List.countP_append, b2] at b1
    have b5 : ((idx rs.length).drop (k + 1)).countP (fun a => decide (QSort.R (key rs) a k)) = ((idx rs.length).drop (k + 1)).countP (fun a => (fun w => decide (rs.getD k default < w)) (rs.getD a.toNat default)) := by
      refine List.countP_congr (fun a ha => ?_)
      have : (k : Int) < a := by
        have hp := idx_lt rs.length
        rw [e, List.pairwise_append, List.pairwise_cons] at hp
        exact hp.2.1.1 a ha
      have h0 : 0 ≤ a := by omega
      obtain ⟨j, rfl⟩ : ∃ j : Nat, a = j := ⟨a.toNat, by omega⟩
      simp only [decide_eq_true_eq]
      simp only [QSort.R, key, Int.toNat_natCast]
      omega
    rw [b5]; dsimp only at b1 b2 b3 ⊢; omega
  have a3 : (if decide (QSort.R (key rs) (k : Int) k) = true then 1 else 0) = 0 := by
    rw [if_neg]; intro hh; exact (by simpa using hh : QSort.R (key rs) (k : Int) k).irr
  rw [e, List.countP_append, List.countP_cons, a1, a2, a3] at c1
  omega
theorem getD_map_r (T S : Int) (W : List Int) {k : Nat} (h : k < W.length) : (W.map (r T S)).getD k default = r T S (W.getD k default) := by simp [List.getD_eq_getElem?_getD, h]
/-- The parts are the quotients, with one more for the first ones in the sorted order. -/
theorem share_inc (T : Int) (W d : List Int) (hW : ∀ w ∈ W, 0 ≤ w) (hS : sm W ≠ 0) (h : Ord (W.map (r T (sm W))) d) : share T W = inc (W.map (q T (sm W))) (d.take (left T W).toNat) := by
  have hS0 : 0 < sm W := by have := sm_nn W hW; omega
  have hlb := left_bd T W hS0
  have hlm := left_mul T W hS0
  have hdl : d.length = W.length := by rw [h.len, List.length_map]
  unfold share
  rw [if_neg hS]
  refine List.ext_getElem (by rw [inc_len]; simp) (fun k h1 h2 => ?_)
  have hk : k < W.length := by simpa using h1
  rw [← getD_get h2, inc_at _ _ _ (h.nodup.sublist (List.take_sublist _ _)) (fun i hi => by
    obtain ⟨j, _, rfl⟩ := h.mem.1 (List.mem_of_mem_take hi); omega) (by simpa using hk)]
  simp only [List.getElem_map, List.getElem_range, part]
  have e1 : (W.map (q T (sm W))).getD k default = q T (sm W) (W.getD k default) := by simp [List.getD_eq_getElem?_getD, hk]
  rw [e1]
  congr 1
  -- where is k in the order?
  obtain ⟨t, ht, et⟩ := QSort.mem_at (A := d) (x := (k : Int)) (h.mem.2 ⟨k, by simpa using hk, rfl⟩)
  have hr := rank h ht et
  rw [getD_map_r _ _ _ hk, ← List.map_take, ← List.map_drop, List.countP_map, List.countP_map] at hr
  have hmem : ((k : Int) ∈ d.take (left T W).toNat) ↔ t < (left T W).toNat := by
    constructor
    · intro hm
      obtain ⟨t', k1, k2, k3⟩ := QSort.mem_take_at hm
      have : t' = t := by
        rcases Nat.lt_trichotomy t t' with hh | hh | hh
        · have := QSort.pw_at h.s hh k2; rw [et, k3] at this; exact absurd this (fun x => x.irr)
        · exact hh.symm
        · have := QSort.pw_at h.s hh ht; rw [et, k3] at this; exact absurd this (fun x => x.irr)
      omega
    · intro hm
      have : d.take (left T W).toNat = d.take (left T W).toNat := rfl
      have h3 : t < (d.take (left T W).toNat).length := by simp; omega
      have := QSort.at_mem h3
      rwa [QSort.at_take hm, et] at this
  have hwin : win T W k ↔ t < (left T W).toNat := by
    unfold win
    simp only [Function.comp_def] at hr
    rw [hr]
    constructor
    · intro hh; omega
    · intro hh
      refine ⟨?_, by omega⟩
      -- a rest of 0 does not win: all behind it are 0, too
      rcases Int.lt_or_le 0 (r T (sm W) (W.getD k default)) with hp | hp
      · exact hp
      · exfalso
        have eperm : sm (d.map fun a => (W.map (r T (sm W))).getD a.toNat default) = sm (W.map (r T (sm W))) := by
          rw [sm_perm (h.p.map _)]
          congr 1
          refine List.ext_getElem (by simp [idx]) (fun i i1 i2 => ?_)
          simp only [List.getElem_map, idx, List.getElem_range, Int.toNat_natCast, getD_map_r T (sm W) W (show i < W.length by simpa using i2)]
          rw [getD_get (show i < W.length by simpa using i2)]
        have esp : d = d.take t ++ d.drop t := (List.take_append_drop t d).symm
        have smsp : sm (d.map fun a => (W.map (r T (sm W))).getD a.toNat default) = sm ((d.take t).map fun a => (W.map (r T (sm W))).getD a.toNat default) + sm ((d.drop t).map fun a => (W.map (r T (sm W))).getD a.toNat default) := by
          conv => lhs; rw [esp]
          rw [List.map_append, sm_app]
        have val : ∀ a ∈ d, 0 ≤ (W.map (r T (sm W))).getD a.toNat default ∧ (W.map (r T (sm W))).getD a.toNat default ≤ sm W - 1 := by
          intro a ha
          obtain ⟨j, hj, rfl⟩ := h.mem.1 ha
          rw [List.length_map] at hj
          rw [Int.toNat_natCast, getD_map_r T (sm W) W hj]
          have := r_bd (T := T) (w := W.getD j default) hS0; omega
        have s1 : sm ((d.take t).map fun a => (W.map (r T (sm W))).getD a.toNat default) ≤ t * (sm W - 1) := by
          have := sm_le (c := sm W - 1) ((d.take t).map fun a => (W.map (r T (sm W))).getD a.toNat default) (fun x hx => by
            obtain ⟨a, ha, rfl⟩ := List.mem_map.1 hx; exact (val a (List.mem_of_mem_take ha)).2)
          rw [List.length_map, List.length_take, Nat.min_eq_left (by omega)] at this
          exact this
        have s2 : sm ((d.drop t).map fun a => (W.map (r T (sm W))).getD a.toNat default) ≤ (((d.drop t).map fun a => (W.map (r T (sm W))).getD a.toNat default).length : Int) * 0 := by
          refine sm_le _ (fun x hx => ?_)
          obtain ⟨a, ha, rfl⟩ := List.mem_map.1 hx
          obtain ⟨i, i1, i2, rfl⟩ := QSort.mem_drop_at ha
          have ek : (W.map (r T (sm W))).getD k default ≤ 0 := by rw [getD_map_r T (sm W) W hk]; exact hp
          rcases Nat.lt_or_ge t i with q | q
          · have := QSort.pw_at h.s q i2
            rw [et] at this
            unfold QSort.R key at this
            rw [Int.toNat_natCast] at this
            omega
          · obtain rfl : i = t := by omega
            rw [et, Int.toNat_natCast]; exact ek
        rw [Int.mul_zero] at s2
        have : sm W * left T W ≤ t * (sm W - 1) := by rw [hlm, ← eperm, smsp]; omega
        have h4 : sm W * ((t : Int) + 1) ≤ sm W * left T W := Int.mul_le_mul_of_nonneg_left (by omega) (by omega)
        rw [Int.mul_add, Int.mul_one, Int.mul_comm (sm W) t] at h4
        rw [Int.mul_sub, Int.mul_one] at this
        omega
  by_cases hw : win T W k
  · rw [if_pos hw, if_pos (hmem.2 (hwin.1 hw))]
  · rw [if_neg hw, if_neg (fun hh => hw (hwin.2 (hmem.1 hh)))]
end Sh
end Go.Proofs.Ytlpndemhnpajiaa

/- The parts of a number: they add up to it, each is less than 1 from the exact one, and they are in the order of the weights. No program in sight. -/
import Derived.Test.YtlpndemhnpajiaaSgQShareB
namespace Go.Proofs.Ytlpndemhnpajiaa
set_option linter.all false
open Go.RowKit
namespace Sh
theorem share_at {T : Int} {W : List Int} (hS : sm W ≠ 0) {k : Nat} (hk : k < W.length) : (share T W).getD k default = part T W k := by
  rw [getD_get (by rw [share_len]; exact hk)]
  unfold share
  simp [hS]
theorem share_nil {T : Int} {W : List Int} (hS : sm W = 0) : share T W = List.replicate W.length 0 := by unfold share; rw [if_pos hS]
theorem sm_rep : ∀ n : Nat, sm (List.replicate n 0) = 0
  | 0 => rfl
  | n + 1 => by simp [List.replicate_succ, sm, sm_rep n]
theorem share_sum {T : Int} {W : List Int} (hW : ∀ w ∈ W, 0 ≤ w) (hS : sm W ≠ 0) (hl : W.length ≤ 10000) : sm (share T W) = T := by
  have hS0 : 0 < sm W := by have := sm_nn W hW; omega
  obtain ⟨d, o1, o2⟩ := sorted (W.map (r T (sm W))) (lvl := 20010) (n := 10002) (by omega) (by simpa using hl) (Nat.le_refl _)
  have hlb := left_bd T W hS0
  have hd : d.length = W.length := by rw [o1.len, List.length_map]
  rw [share_inc T W d hW hS o1, inc_sum _ _ (fun i hi => by
    obtain ⟨j, hj, rfl⟩ := o1.mem.1 (List.mem_of_mem_take hi)
    simp at hj ⊢; omega)]
  have : (d.take (left T W).toNat).length = (left T W).toNat := by simp; omega
  rw [this]
  unfold left at *
  omega
theorem part_close {T : Int} {W : List Int} (hS : 0 < sm W) (k : Nat) : part T W k * sm W - T * W.getD k default < sm W ∧ T * W.getD k default - part T W k * sm W < sm W := by
  have h := Int.mul_ediv_add_emod (T * W.getD k default) (sm W)
  have hr := r_bd (T := T) (w := W.getD k default) hS
  unfold part
  by_cases hw : win T W k
  · rw [if_pos hw]
    have := hw.1
    rw [Int.add_mul, Int.one_mul, Int.mul_comm (q _ _ _)]
    unfold q r at *
    omega
  · rw [if_neg hw, Int.add_zero, Int.mul_comm (q _ _ _)]
    unfold q r at *
    omega
theorem part_bd {T : Int} {W : List Int} (hW : ∀ w ∈ W, 0 ≤ w) (hT : 0 ≤ T) (hS : 0 < sm W) {k : Nat} (hk : k < W.length) : 0 ≤ part T W k ∧ part T W k ≤ T + 1 := by
  have hm : W.getD k default ∈ W := by rw [getD_get hk]; exact List.getElem_mem _
  have := q_bd hS hT (hW _ hm) (sm_mem W hW _ hm)
  unfold part
  split <;> omega
theorem countP_le {l : List Int} {p p' : Int → Bool} (h : ∀ x, p x = true → p' x = true) : l.countP p ≤ l.countP p' := List.countP_mono_left (fun x _ => h x)
/-- the earlier one of two, with a weight that is not less, does not get less -/
theorem mono_ge {T : Int} {W : List Int} (hT : 0 ≤ T) (hS : 0 < sm W) {k i : Nat} (hki : k < i) (hi : i < W.length) (h : W.getD i default ≤ W.getD k default) : part T W i ≤ part T W k := by
  have hm : T * W.getD i default ≤ T * W.getD k default := Int.mul_le_mul_of_nonneg_left h hT
  have hq : q T (sm W) (W.getD i default) ≤ q T (sm W) (W.getD k default) := Int.ediv_le_ediv hS hm
  unfold part
  by_cases hw : win T W i
  · rw [if_pos hw]
    by_cases he : q T (sm W) (W.getD i default) = q T (sm W) (W.getD k default)
    · have e1 := Int.mul_ediv_add_emod (T * W.getD i default) (sm W)
      have e2 := Int.mul_ediv_add_emod (T * W.getD k default) (sm W)
      have hr : r T (sm W) (W.getD i default) ≤ r T (sm W) (W.getD k default) := by
        unfold q r at *; rw [he] at e1; omega
      have hwk : win T W k := by
        unfold win at *
        refine ⟨by omega, ?_⟩
        -- those ahead of k are ahead of i
        have c1 : (W.drop (k + 1)).countP (fun w => decide (r T (sm W) (W.getD k default) < r T (sm W) w)) ≤ ((W.drop (k + 1)).take (i - k - 1)).countP (fun w => decide (r T (sm W) (W.getD i default) ≤ r T (sm W) w)) + (W.drop (i + 1)).countP (fun w => decide (r T (sm W) (W.getD i default) < r T (sm W) w)) := by
          have es : W.drop (k + 1) = (W.drop (k + 1)).take (i - k - 1) ++ (W.getD i default :: W.drop (i + 1)) := by
            conv => lhs; rw [← List.take_append_drop (i - k - 1) (W.drop (k + 1))]
            rw [List.drop_drop, show k + 1 + (i - k - 1) = i by omega, List.drop_eq_getElem_cons hi, getD_get hi]
          conv => lhs; rw [es]
          rw [List.countP_append, List.countP_cons]
          have z : (if decide (r T (sm W) (W.getD k default) < r T (sm W) (W.getD i default)) = true then 1 else 0) = 0 := by rw [if_neg]; rw [decide_eq_true_eq]; omega
          rw [z]
          have a1 := countP_le (l := (W.drop (k + 1)).take (i - k - 1)) (p := fun w => decide (r T (sm W) (W.getD k default) < r T (sm W) w)) (p' := fun w => decide (r T (sm W) (W.getD i default) ≤ r T (sm W) w)) (fun x hx => by rw [decide_eq_true_eq] at hx ⊢; omega)
          have a2 := countP_le (l := W.drop (i + 1)) (p := fun w => decide (r T (sm W) (W.getD k default) < r T (sm W) w)) (p' := fun w => decide (r T (sm W) (W.getD i default) < r T (sm W) w)) (fun x hx => by rw [decide_eq_true_eq] at hx ⊢; omega)
          omega
        have c2 : (W.take k).countP (fun w => decide (r T (sm W) (W.getD k default) ≤ r T (sm W) w)) + ((W.drop (k + 1)).take (i - k - 1)).countP (fun w => decide (r T (sm W) (W.getD i default) ≤ r T (sm W) w)) ≤ (W.take i).countP (fun w => decide (r T (sm W) (W.getD i default) ≤ r T (sm W) w)) := by
          have es : W.take i = W.take k ++ (W.getD k default :: (W.drop (k + 1)).take (i - k - 1)) := by
            conv => lhs; rw [show i = k + (i - k) by omega, List.take_add]
            rw [List.drop_eq_getElem_cons (show k < W.length by omega), ← getD_get (show k < W.length by omega), show i - k = (i - k - 1) + 1 by omega, List.take_succ_cons]
            simp
          rw [es, List.countP_append, List.countP_cons]
          have a1 := countP_le (l := W.take k) (p := fun w => decide (r T (sm W) (W.getD k default) ≤ r T (sm W) w)) (p' := fun w => decide (r T (sm W) (W.getD i default) ≤ r T (sm W) w)) (fun x hx => by rw [decide_eq_true_eq] at hx ⊢; omega)
          omega
        have := hw.2
        omega
      rw [if_pos hwk]; omega
    · split <;> omega
  · rw [if_neg hw]
    split <;> omega
/-- the earlier one of two, with a lesser weight, does not get more -/
theorem mono_lt {T : Int} {W : List Int} (hT : 0 ≤ T) (hS : 0 < sm W) {k i : Nat} (hki : k < i) (hi : i < W.length) (h : W.getD k default < W.getD i default) : part T W k ≤ part T W i := by
  have hm : T * W.getD k default ≤ T * W.getD i default := Int.mul_le_mul_of_nonneg_left (Int.le_of_lt h) hT
  have hq : q T (sm W) (W.getD k default) ≤ q T (sm W) (W.getD i default) := Int.ediv_le_ediv hS hm
  unfold part
  by_cases hw : win T W k
  · rw [if_pos hw]
    by_cases he : q T (sm W) (W.getD k default) = q T (sm W) (W.getD i default)
    · have e1 := Int.mul_ediv_add_emod (T * W.getD i default) (sm W)
      have e2 := Int.mul_ediv_add_emod (T * W.getD k default) (sm W)
      have hT0 : 0 < T := by
        rcases Int.lt_or_eq_of_le hT with h0 | h0
        · exact h0
        · exfalso
          have := hw.1
          unfold r at this
          rw [← h0, Int.zero_mul, Int.zero_emod] at this
          omega
      have hm2 : T * W.getD k default < T * W.getD i default := Int.mul_lt_mul_of_pos_left h hT0
      have hr : r T (sm W) (W.getD k default) < r T (sm W) (W.getD i default) := by
        unfold q r at *; rw [he] at e2; omega
      have hwi : win T W i := by
        unfold win at *
        refine ⟨by omega, ?_⟩
        have c1 : ((W.drop (k + 1)).take (i - k - 1)).countP (fun w => decide (r T (sm W) (W.getD i default) ≤ r T (sm W) w)) + (W.drop (i + 1)).countP (fun w => decide (r T (sm W) (W.getD i default) < r T (sm W) w)) ≤ (W.drop (k + 1)).countP (fun w => decide (r T (sm W) (W.getD k default) < r T (sm W) w)) := by
          have es : W.drop (k + 1) = (W.drop (k + 1)).take (i - k - 1) ++ (W.getD i default :: W.drop (i + 1)) := by
            conv => lhs; rw [← List.take_append_drop (i - k - 1) (W.drop (k + 1))]
            rw [List.drop_drop, show k + 1 + (i - k - 1) = i by omega, List.drop_eq_getElem_cons hi, getD_get hi]
          conv => rhs; rw [es]
          rw [List.countP_append, List.countP_cons]
          have a1 := countP_le (l := (W.drop (k + 1)).take (i - k - 1)) (p := fun w => decide (r T (sm W) (W.getD i default) ≤ r T (sm W) w)) (p' := fun w => decide (r T (sm W) (W.getD k default) < r T (sm W) w)) (fun x hx => by rw [decide_eq_true_eq] at hx ⊢; omega)
          have a2 := countP_le (l := W.drop (i + 1)) (p := fun w => decide (r T (sm W) (W.getD i default) < r T (sm W) w)) (p' := fun w => decide (r T (sm W) (W.getD k default) < r T (sm W) w)) (fun x hx => by rw [decide_eq_true_eq] at hx ⊢; omega)
          omega
        have c2 : (W.take i).countP (fun w => decide (r T (sm W) (W.getD i default) ≤ r T (sm W) w)) ≤ (W.take k).countP (fun w => decide (r T (sm W) (W.getD k default) ≤ r T (sm W) w)) + ((W.drop (k + 1)).take (i - k - 1)).countP (fun w => decide (r T (sm W) (W.getD i default) ≤ r T (sm W) w)) := by
          have es : W.take i = W.take k ++ (W.getD k default :: (W.drop (k + 1)).take (i - k - 1)) := by
            conv => lhs; rw [show i = k + (i - k) by omega, List.take_add]
            rw [List.drop_eq_getElem_cons (show k < W.length by omega), ← getD_get (show k < W.length by omega), show i - k = (i - k - 1) + 1 by omega, List.take_succ_cons]
            simp
          rw [es, List.countP_append, List.countP_cons]
          have z : (if decide (r T (sm W) (W.getD i default) ≤ r T (sm W) (W.getD k default)) = true then 1 else 0) = 0 := by rw [if_neg]; rw [decide_eq_true_eq]; omega
          rw [z]
          have a1 := countP_le (l := W.take k) (p := fun w => decide (r T (sm W) (W.getD i default) ≤ r T (sm W) w)) (p' := fun w => decide (r T (sm W) (W.getD k default) ≤ r T (sm W) w)) (fun x hx => by rw [decide_eq_true_eq] at hx ⊢; omega)
          omega
        have := hw.2
        omega
      rw [if_pos hwi]; omega
    · split <;> omega
  · rw [if_neg hw]
    split <;> omega
end Sh
end Go.Proofs.Ytlpndemhnpajiaa

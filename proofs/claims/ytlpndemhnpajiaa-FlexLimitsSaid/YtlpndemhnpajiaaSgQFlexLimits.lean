/- FlexLimits, plain: true of all items and every space. -/
import Derived.Test.YtlpndemhnpajiaaSgQResC
import Derived.Test.YtlpndemhnpajiaaSgQMix
import Derived.Test.YtlpndemhnpajiaaSgGop
namespace Go.Proofs.Ytlpndemhnpajiaa.QFlexLimits
set_option linter.all false
open Go.RowKit
open QSort (wn chk_inb iteT iteF sb)
open Rs
variable {K : Kn} {n : Nat}
theorem getD_st (g : Bool) (l : List TFlexItem) {k : Nat} (hk : k < l.length) : (Rs.start g l).getD k default = (nrm (l.getD k default), if fix0 g (nrm (l.getD k default)) (hyp (l.getD k default)) = true then some (hyp (l.getD k default)) else none) := by
  rw [getD_get (by simpa [Rs.start] using hk), getD_get hk]; simp [Rs.start]
/-- items stay what they are; a size that is given stays -/
theorem run_at (g : Bool) (sp : Int) : ∀ (j : Nat) (M : List It) (k : Nat), k < M.length → ((run g sp j M).getD k default).1 = (M.getD k default).1 ∧ ((M.getD k default).2.isSome = true → (run g sp j M).getD k default = M.getD k default)
  | 0, M, k, hk => ⟨rfl, fun _ => rfl⟩
  | j + 1, M, k, hk => by
    unfold run
    split
    · exact ⟨rfl, fun _ => rfl⟩
    · have ih := run_at g sp j (round g sp M) k (by rw [round_len]; exact hk)
      have er : (round g sp M).getD k default = step1 g (change g sp M) (M.getD k default) ((parts g sp M).getD k default) := by
        rw [getD_get (by rw [round_len]; exact hk), round_at g sp M hk, getD_get hk]
      have e1 : ((round g sp M).getD k default).1 = (M.getD k default).1 := by
        rw [er]; unfold step1; split
        · rfl
        · split <;> rfl
      refine ⟨ih.1.trans e1, fun hs => ?_⟩
      have e2 : (round g sp M).getD k default = M.getD k default := by rw [er]; unfold step1; rw [if_pos hs]
      rw [ih.2 (by rw [e2]; exact hs), e2]
theorem res_at (l : List TFlexItem) (sp : Int) {k : Nat} (hk : k < l.length) : (nrm (l.getD k default)).Min ≤ (Rs.resolve l sp).getD k default ∧ (Rs.resolve l sp).getD k default ≤ (nrm (l.getD k default)).Max ∧
    ((nrm (l.getD k default)).Grow = 0 → (nrm (l.getD k default)).Shrink = 0 → (Rs.resolve l sp).getD k default = hyp (l.getD k default)) := by
  have sl : (Rs.start (grows l sp) l).length = l.length := by simp [Rs.start]
  have hd := run_done (g := grows l sp) (sp := sp) l.length (Rs.start (grows l sp) l) (by have := opens_le (Rs.start (grows l sp) l); omega)
  have hok := run_ok (g := grows l sp) (sp := sp) l.length (start_ok (grows l sp) l)
  have hl := run_len (g := grows l sp) (sp := sp) l.length (Rs.start (grows l sp) l)
  have ha := run_at (grows l sp) sp l.length (Rs.start (grows l sp) l) k (by omega)
  have e : (Rs.resolve l sp).getD k default = ((run (grows l sp) sp l.length (Rs.start (grows l sp) l)).getD k default).2.getD 0 := by
    rw [getD_get (by rw [resolve_len]; exact hk), getD_get (by omega)]; simp [Rs.resolve, sizes]
  rw [getD_st _ l hk] at ha
  generalize hM : run (grows l sp) sp l.length (Rs.start (grows l sp) l) = M at *
  have hm : M.getD k default ∈ M := by rw [getD_get (by omega)]; exact List.getElem_mem _
  have h1 := hok _ hm
  have ho := List.countP_eq_zero.1 hd _ hm
  cases hx : (M.getD k default).2 with
  | none => rw [hx] at ho; simp at ho
  | some z =>
    have hz := h1.z z hx
    rw [ha.1] at hz
    rw [e, hx]
    refine ⟨hz.1, hz.2, fun hg hs => ?_⟩
    have hf : fix0 (grows l sp) (nrm (l.getD k default)) (hyp (l.getD k default)) = true := by unfold fix0; rw [hg, hs]; cases grows l sp <;> simp
    simp only [hf, if_true, Option.isSome_some, true_implies] at ha
    rw [ha.2] at hx
    injection hx with hx; exact hx.symm
theorem loop (l : List TFlexItem) (sp : Int) (hl : l.length ≤ 1000) : ∀ (m i : Nat), i ≤ l.length → l.length < m + i → g_law19_FlexLimits_l2 K n l (Rs.resolve l sp) m (i : Int) = some true := by
  intro m
  induction m with
  | zero => intro i h1 h2; omega
  | succ m ih =>
    intro i h1 h2
    simp only [g_law19_FlexLimits_l2, g_law19_FlexLimits_l2_b, resolve_len]
    by_cases hi : i < l.length
    · have h := res_at l sp hi
      have ewi : w64 ((i : Int) + 1) = ((i + 1 : Nat) : Int) := wn (by omega) (by omega)
      have fin := ih (i + 1) (by omega) (by omega)
      rw [iteT (by omega)]
      simp only [chk_inb (show (0 : Int) ≤ (i : Int) ∧ (i : Int) < (l.length : Nat) by omega), tnat, g_law19_FlexLimits_j1, ewi, show ∀ x, g_ref19_Normal K n x = some (nrm x) from fun _ => rfl, show ∀ x, g_ref19_Hypothetical K n x = some (hyp x) from fun _ => rfl, sb, fin]
      rw [iteF (by omega), iteF (by omega)]
      by_cases hg : (nrm (l.getD i default)).Grow = 0
      · rw [if_pos (by rw [beq_iff_eq]; exact hg)]
        by_cases hs : (nrm (l.getD i default)).Shrink = 0
        · rw [if_pos (by rw [beq_iff_eq]; exact hs), h.2.2 hg hs]; simp
        · rw [if_neg (by rw [beq_iff_eq]; exact hs)]; rfl
      · rw [if_neg (by rw [beq_iff_eq]; exact hg)]; rfl
    · rw [iteF (by omega)]
theorem holds (x0 : (List TFlexItem)) (x1 : Int) (h0 : HasT Try.prog 28 ((eSl eTFlexItem) x0)) (h1 : HasT Try.prog 3 ((eInt .i64) x1)) : ∃ n, g_law19_FlexLimits (KN n) n x0 x1 = some true := by
  refine ⟨20010, ?_⟩
  unfold g_law19_FlexLimits
  rw [fit_ok' (by omega)]
  simp only [Option.bind_some, Bool.not_true, Bool.false_eq_true, if_false, g_law19_few, g_law19_few_j1]
  by_cases hc : (x0.length : Int) ≤ 30
  · rw [iteT hc]
    by_cases h2 : x1 ≤ 1099511627776
    · rw [iteT h2]
      by_cases h3 : x1 ≥ -1099511627776
      · simp only [sb, h3, decide_true, Bool.not_true, Bool.false_eq_true, if_false]
        rw [Rs.flex_ok x0 (by omega) (by omega) (by omega) (by omega), sb, if_neg (by rw [Rs.resolve_len]; simp)]
        exact loop x0 x1 (by omega) 20010 0 (by omega) (by omega)
      · simp only [sb, h3, decide_false, Bool.not_false, if_true]
    · rw [iteF h2]; rfl
  · rw [iteF hc]; rfl
end Go.Proofs.Ytlpndemhnpajiaa.QFlexLimits

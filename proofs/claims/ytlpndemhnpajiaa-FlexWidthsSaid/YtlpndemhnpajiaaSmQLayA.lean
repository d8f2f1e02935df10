/- Layer 17, plain: kids in flow, lines, fragments moved, fragments compared with themselves, trees of boxes. No program in sight. -/
import Derived.Test.YtlpndemhnpajiaaSmQb
import Derived.Test.YtlpndemhnpajiaaSmQSize
namespace Go.Proofs.Ytlpndemhnpajiaa
set_option linter.all false
open Go.RowKit
theorem step64 {i : Nat} (h : i < 1000000) : w64 ((i : Int) + 1) = ((i + 1 : Nat) : Int) := by rw [w64_id (by omega) (by omega)]; omega
theorem dec_lt {i n : Nat} (h : i < n) : decide ((i : Int) < (n : Int)) = true := by simpa using h
theorem dec_ge {i n : Nat} (h : n ≤ i) : decide ((i : Int) < (n : Int)) = false := by simpa using h
theorem inbN {i n : Nat} (h : i < n) : inb (i : Int) n = true := inb_of (by omega) (by omega)
theorem drop_at' {α : Type} [Inhabited α] {L : List α} {i : Nat} (h : i < L.length) : L.drop i = L.getD i default :: L.drop (i + 1) := by
  rw [getD_get h]; exact List.drop_eq_getElem_cons h
theorem getD_mem {α : Type} [Inhabited α] {L : List α} {i : Nat} (h : i < L.length) : L.getD i default ∈ L := by
  rw [getD_get h]; exact List.getElem_mem h
def inM (k : TBoxtreeBox) : Bool := k.Kind == 3 || k.Style.Position != 2
def outerM (k : TBoxtreeBox) : Bool := k.Kind == 1 || (k.Kind == 6 || k.Kind == 7)
theorem flow_def (K : Kn) (n : Nat) (k : TBoxtreeBox) : g_block_Flow K n k = some (inM k) := by
  unfold g_block_Flow inM g_block_Flow_j1; cases h : k.Kind == 3 <;> simp
theorem in_def (K : Kn) (n : Nat) (k : TBoxtreeBox) : g_ref17_In K n k = some (inM k) := by
  unfold g_ref17_In inM g_ref17_In_j1; cases h : k.Kind == 3 <;> simp
theorem outer_def (K : Kn) (n : Nat) (k : TBoxtreeBox) : g_boxtree_Outer K n k = some (outerM k) := by
  unfold g_boxtree_Outer outerM g_boxtree_Outer_j1
  cases h : k.Kind == 1 <;> cases h2 : k.Kind == 6 <;> simp
theorem index_loop (K : Kn) (n : Nat) (hO : ∀ x, K.d_TBoxtreeBox__Bool (Fv.fn 111) x = some (outerM x)) (L : List TBoxtreeBox) (hL : L.length ≤ 20) : ∀ (m i : Nat), i ≤ L.length → L.length < m + i →
    ∃ r, g_slices_IndexFunc_BoxtreeBox_BoxtreeBox_l1 K n L (Fv.fn 111) m i = some r ∧ decide (r ≥ 0) = (L.drop i).any outerM := by
  intro m
  induction m with
  | zero => intro i h1 h2; omega
  | succ m ih =>
    intro i h1 h2
    simp only [g_slices_IndexFunc_BoxtreeBox_BoxtreeBox_l1, g_slices_IndexFunc_BoxtreeBox_BoxtreeBox_l1_b]
    by_cases hi : i < L.length
    · rw [drop_at' hi]
      simp only [dec_lt hi, if_true, inbN hi, chk_true, hO, Option.bind_some, Int.toNat_natCast, List.any_cons, step64 (show i < 1000000 by omega)]
      cases hq : outerM (L.getD i default)
      · simp only [Bool.false_eq_true, if_false, Bool.false_or]
        exact ih (i + 1) (by omega) (by omega)
      · exact ⟨_, rfl, by simp⟩
    · have e : i = L.length := by omega
      subst e
      simp only [dec_ge (Nat.le_refl _), Bool.false_eq_true, if_false, List.drop_length]
      exact ⟨_, rfl, by simp⟩
theorem contains_def (K : Kn) (n : Nat) (hO : ∀ x, K.d_TBoxtreeBox__Bool (Fv.fn 111) x = some (outerM x)) (L : List TBoxtreeBox) (hL : L.length ≤ 20) (hn : 20 < n) : g_slices_ContainsFunc_BoxtreeBox_BoxtreeBox K n L (Fv.fn 111) = some (L.any outerM) := by
  obtain ⟨r, h1, h2⟩ := index_loop K n hO L hL n 0 (by omega) (by omega)
  unfold g_slices_ContainsFunc_BoxtreeBox_BoxtreeBox g_slices_IndexFunc_BoxtreeBox_BoxtreeBox
  rw [show g_slices_IndexFunc_BoxtreeBox_BoxtreeBox_l1 K n L (Fv.fn 111) n 0 = some r from h1]
  simp only [Option.bind_some, h2, List.drop_zero]
theorem flow_loop (K : Kn) (n : Nat) (b : TBoxtreeBox) (hb : b.Kids.length ≤ 20) : ∀ (m i : Nat) (acc : List TBoxtreeBox), i ≤ b.Kids.length → b.Kids.length < m + i → acc.length ≤ i →
    g_block_flow_l2 K n b m i acc = (g_slices_ContainsFunc_BoxtreeBox_BoxtreeBox K n (acc ++ (b.Kids.drop i).filter inM) (Fv.fn 111)).bind fun v => some (acc ++ (b.Kids.drop i).filter inM, v) := by
  intro m
  induction m with
  | zero => intro i acc h1 h2; omega
  | succ m ih =>
    intro i acc h1 h2 h3
    simp only [g_block_flow_l2, g_block_flow_l2_b]
    by_cases hi : i < b.Kids.length
    · rw [drop_at' hi]
      simp only [dec_lt hi, if_true, inbN hi, chk_true, flow_def, Option.bind_some, g_block_flow_j1, Int.toNat_natCast, List.length_cons, List.length_nil, step64 (show i < 1000000 by omega), List.filter_cons]
      cases hq : inM (b.Kids.getD i default)
      · simp only [Bool.false_eq_true, if_false]
        exact ih (i + 1) acc (by omega) (by omega) (by omega)
      · simp only [if_true]
        rw [fits_of (by omega) (by omega), chk_true, ih (i + 1) _ (by omega) (by omega) (by simp; omega)]
        simp only [List.append_assoc, List.singleton_append]
    · have e : i = b.Kids.length := by omega
      subst e
      simp only [dec_ge (Nat.le_refl _), Bool.false_eq_true, if_false, List.drop_length, List.filter_nil, List.append_nil]
def flowM (b : TBoxtreeBox) : List TBoxtreeBox := b.Kids.filter inM
theorem flowM_len {b : TBoxtreeBox} : (flowM b).length ≤ b.Kids.length := List.length_filter_le _ _
theorem bflow_def (K : Kn) (n : Nat) (hO : ∀ x, K.d_TBoxtreeBox__Bool (Fv.fn 111) x = some (outerM x)) (b : TBoxtreeBox) (hb : b.Kids.length ≤ 20) (hn : 20 < n) : g_block_flow K n b = some (flowM b, (flowM b).any outerM) := by
  have h := flow_loop K n b hb n 0 [] (by omega) (by omega) (by simp)
  unfold g_block_flow
  refine (show _ = _ from h).trans ?_
  simp only [List.nil_append, List.drop_zero]
  rw [show b.Kids.filter inM = flowM b from rfl, contains_def K n hO _ (Nat.le_trans flowM_len hb) hn]
  rfl
theorem inside_loop (K : Kn) (n : Nat) (b : TBoxtreeBox) (hb : b.Kids.length ≤ 20) : ∀ (m i : Nat) (acc : List TBoxtreeBox), i ≤ b.Kids.length → b.Kids.length < m + i → acc.length ≤ i →
    g_ref17_Inside_l2 K n b m i acc = some (acc ++ (b.Kids.drop i).filter inM) := by
  intro m
  induction m with
  | zero => intro i acc h1 h2; omega
  | succ m ih =>
    intro i acc h1 h2 h3
    simp only [g_ref17_Inside_l2, g_ref17_Inside_l2_b]
    by_cases hi : i < b.Kids.length
    · rw [drop_at' hi]
      simp only [dec_lt hi, if_true, inbN hi, chk_true, in_def, Option.bind_some, g_ref17_Inside_j1, Int.toNat_natCast, List.length_cons, List.length_nil, step64 (show i < 1000000 by omega), List.filter_cons]
      cases hq : inM (b.Kids.getD i default)
      · simp only [Bool.false_eq_true, if_false]
        exact ih (i + 1) acc (by omega) (by omega) (by omega)
      · simp only [if_true]
        rw [fits_of (by omega) (by omega), chk_true, ih (i + 1) _ (by omega) (by omega) (by simp; omega)]
        simp only [List.append_assoc, List.singleton_append]
    · have e : i = b.Kids.length := by omega
      subst e
      simp only [dec_ge (Nat.le_refl _), Bool.false_eq_true, if_false, List.drop_length, List.filter_nil, List.append_nil]
theorem inside_def (K : Kn) (n : Nat) (b : TBoxtreeBox) (hb : b.Kids.length ≤ 20) (hn : 20 < n) : g_ref17_Inside K n b = some (flowM b) := by
  have h := inside_loop K n b hb n 0 [] (by omega) (by omega) (by simp)
  exact (show _ = _ from h).trans (by simp only [List.nil_append, List.drop_zero]; rfl)
theorem router_loop (K : Kn) (n : Nat) (L : List TBoxtreeBox) (hL : L.length ≤ 20) : ∀ (m i : Nat), i ≤ L.length → L.length < m + i → g_ref17_outer_l1 K n L m i = some ((L.drop i).any fun k => k.Kind == 1) := by
  intro m
  induction m with
  | zero => intro i h1 h2; omega
  | succ m ih =>
    intro i h1 h2
    simp only [g_ref17_outer_l1, g_ref17_outer_l1_b]
    by_cases hi : i < L.length
    · rw [drop_at' hi]
      simp only [dec_lt hi, if_true, inbN hi, chk_true, Int.toNat_natCast, List.any_cons, step64 (show i < 1000000 by omega)]
      cases hq : (L.getD i default).Kind == 1
      · simp only [Bool.false_eq_true, if_false, Bool.false_or]
        exact ih (i + 1) (by omega) (by omega)
      · simp
    · have e : i = L.length := by omega
      subst e
      simp [dec_ge (Nat.le_refl _)]
theorem router_def (K : Kn) (n : Nat) (b : TBoxtreeBox) (hb : b.Kids.length ≤ 20) (hn : 20 < n) : g_ref17_outer K n b = some ((flowM b).any fun k => k.Kind == 1) := by
  unfold g_ref17_outer
  rw [inside_def K n b hb hn, Option.bind_some]
  have := @flowM_len b
  exact (router_loop K n (flowM b) (by omega) n 0 (by omega) (by omega)).trans (by simp only [List.drop_zero])
end Go.Proofs.Ytlpndemhnpajiaa

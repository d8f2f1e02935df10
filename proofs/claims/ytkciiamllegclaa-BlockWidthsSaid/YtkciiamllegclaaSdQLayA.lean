/- Layer 17, plain: kids in flow, lines, fragments moved, fragments compared with themselves, trees of boxes. No program in sight. -/
import Derived.Test.YtkciiamllegclaaSdQStack
import Derived.Test.YtkciiamllegclaaSdQSize
namespace Go.Proofs.Ytkciiamllegclaa
set_option linter.all false
open Go.RowKit
theorem step64 {i : Nat} (h : i < 1000000) : w64 ((i : Int) + 1) = ((i + 1 : Nat) : Int) := by rw [w64_id (by omega) (by omega)]; omega
theorem dec_lt {i n : Nat} (h : i < n) : decide ((i : Int) < (n : Int)) = true := by simpa using h
theorem dec_ge {i n : Nat} (h : n ≤ i) : decide ((i : Int) < (n : Int)) = false := by simpa using h
theorem inbN {i n : Nat} (h : i < n) : inb (i : Int) n = true := inb_of (by omega) (by omega)
theorem drop_at' {α : Type} [Inhabited α] {L : List α} {i : Nat} (h : i < L.length) : L.drop i = L.getD i default :: L.drop (i + 1) := by
  rw [getD_get h]; exact List.drop_eq_getElem_cons h
theorem getD_mem {α : Type} [Inhabited α] {L : List α} {i : Nat} (h : i < L.length) : L.getD i default ∈ L := by
  rw [getD_get h]; exact List.getElem_mem h
/-! ### In flow -/
def inM (k : TBoxtreeBox) : Bool := k.Kind == 3 || k.Style.Position != 2
def outerM (k : TBoxtreeBox) : Bool := k.Kind == 1 || (k.Kind == 6 || k.Kind == 7)
theorem flow_def (K : Kn) (n : Nat) (k : TBoxtreeBox) : g_block_Flow K n k = some (inM k) := by
  unfold g_block_Flow inM g_block_Flow_j1; cases h : k.Kind == 3 <;> simp
theorem in_def (K : Kn) (n : Nat) (k : TBoxtreeBox) : g_ref17_In K n k = some (inM k) := by
  unfold g_ref17_In inM g_ref17_In_j1; cases h : k.Kind == 3 <;> simp
theorem outer_def (K : Kn) (n : Nat) (k : TBoxtreeBox) : g_boxtree_Outer K n k = some (outerM k) := by
  unfold g_boxtree_Outer outerM g_boxtree_Outer_j1
  cases h : k.Kind == 1 <;> cases h2 : k.Kind == 6 <;> simp
theorem index_loop (K : Kn) (n : Nat) (hO : ∀ x, K.d_TBoxtreeBox__Bool 72 x = some (outerM x)) (L : List TBoxtreeBox) (hL : L.length ≤ 20) : ∀ (m i : Nat), i ≤ L.length → L.length < m + i →
    ∃ r, g_slices_IndexFunc_BoxtreeBox_BoxtreeBox_l1 K n L 72 m i = some r ∧ decide (r ≥ 0) = (L.drop i).any outerM := by
  intro m
  induction m with
  | zero => intro i h1 h2; omega
  | succ m ih =>
    intro i h1 h2
    simp only [g_slices_IndexFunc_BoxtreeBox_BoxtreeBox_l1, g_slices_IndexFunc_BoxtreeBox_BoxtreeBox_l1_b]
    by_cases hi : i < L.length
    · rw [drop_at' hi]
      simp only [dec_lt hi, if_true, inbN hi, chk_true, hO, Option.bind_some, Int.toNat_natCast, List.any_cons, step64 (show i < 1000000 by omega)]
      cases hq : outerM (L.getD i default)
      · simp only [Bool.false_eq_true, if_false, Bool.false_or]
        exact ih (i + 1) (by omega) (by omega)
      · exact ⟨_, rfl, by simp⟩
    · have e : i = L.length := by omega
      subst e
      simp only [dec_ge (Nat.le_refl _), Bool.false_eq_true, if_false, List.drop_length]
      exact ⟨_, rfl, by simp⟩
theorem contains_def (K : Kn) (n : Nat) (hO : ∀ x, K.d_TBoxtreeBox__Bool 72 x = some (outerM x)) (L : List TBoxtreeBox) (hL : L.length ≤ 20) (hn : 20 < n) : g_slices_ContainsFunc_BoxtreeBox_BoxtreeBox K n L 72 = some (L.any outerM) := by
  obtain ⟨r, h1, h2⟩ := index_loop K n hO L hL n 0 (by omega) (by omega)
  unfold g_slices_ContainsFunc_BoxtreeBox_BoxtreeBox g_slices_IndexFunc_BoxtreeBox_BoxtreeBox
  rw [show g_slices_IndexFunc_BoxtreeBox_BoxtreeBox_l1 K n L 72 n 0 = some r from h1]
  simp only [Option.bind_some, h2, List.drop_zero]
theorem flow_loop (K : Kn) (n : Nat) (b : TBoxtreeBox) (hb : b.Kids.length ≤ 20) : ∀ (m i : Nat) (acc : List TBoxtreeBox), i ≤ b.Kids.length → b.Kids.length < m + i → acc.length ≤ i →
    g_block_flow_l2 K n b m i acc = (g_slices_ContainsFunc_BoxtreeBox_BoxtreeBox K n (acc ++ (b.Kids.drop i).filter inM) 72).bind fun v => some (acc ++ (b.Kids.drop i).filter inM, v) := by
  intro m
  induction m with
  | zero => intro i acc h1 h2; omega
  | succ m ih =>
    intro i acc h1 h2 h3
    simp only [g_block_flow_l2, g_block_flow_l2_b]
    by_cases hi : i < b.Kids.length
    · rw [drop_at' hi]
      simp only [dec_lt hi, if_true, inbN hi, chk_true, flow_def, Option.bind_some, g_block_flow_j1, Int.toNat_natCast, List.length_cons, List.length_nil, step64 (show i < 1000000 by omega), List.filter_cons]
      cases hq : inM (b.Kids.getD i default)
      · simp only [Bool.false_eq_true, if_false]
        exact ih (i + 1) acc (by omega) (by omega) (by omega)
      · simp only [if_true]
        rw [fits_of (by omega) (by omega), chk_true, ih (i + 1) _ (by omega) (by omega) (by simp; omega)]
        simp only [List.append_assoc, List.singleton_append]
    · have e : i = b.Kids.length := by omega
      subst e
      simp only [dec_ge (Nat.le_refl _), Bool.false_eq_true, if_false, List.drop_length, List.filter_nil, List.append_nil]
def flowM (b : TBoxtreeBox) : List TBoxtreeBox := b.Kids.filter inM
theorem flowM_len {b : TBoxtreeBox} : (flowM b).length ≤ b.Kids.length := List.length_filter_le _ _
theorem bflow_def (K : Kn) (n : Nat) (hO : ∀ x, K.d_TBoxtreeBox__Bool 72 x = some (outerM x)) (b : TBoxtreeBox) (hb : b.Kids.length ≤ 20) (hn : 20 < n) : g_block_flow K n b = some (flowM b, (flowM b).any outerM) := by
  have h := flow_loop K n b hb n 0 [] (by omega) (by omega) (by simp)
  unfold g_block_flow
  refine (show _ = _ from h).trans ?_
  simp only [List.nil_append, List.drop_zero]
  rw [show b.Kids.filter inM = flowM b from rfl, contains_def K n hO _ (Nat.le_trans flowM_len hb) hn]
  rfl
theorem inside_loop (K : Kn) (n : Nat) (b : TBoxtreeBox) (hb : b.Kids.length ≤ 20) : ∀ (m i : Nat) (acc : List TBoxtreeBox), i ≤ b.Kids.length → b.Kids.length < m + i → acc.length ≤ i →
    g_ref17_Inside_l2 K n b m i acc = some (acc ++ (b.Kids.drop i).filter inM) := by
  intro m
  induction m with
  | zero => intro i acc h1 h2; omega
  | succ m ih =>
    intro i acc h1 h2 h3
    simp only [g_ref17_Inside_l2, g_ref17_Inside_l2_b]
    by_cases hi : i < b.Kids.length
    · rw [drop_at' hi]
      simp only [dec_lt hi, if_true, inbN hi, chk_true, in_def, Option.bind_some, g_ref17_Inside_j1, Int.toNat_natCast, List.length_cons, List.length_nil, step64 (show i < 1000000 by omega), List.filter_cons]
      cases hq : inM (b.Kids.getD i default)
      · simp only [Bool.false_eq_true, if_false]
        exact ih (i + 1) acc (by omega) (by omega) (by omega)
      · simp only [if_true]
        rw [fits_of (by omega) (by omega), chk_true, ih (i + 1) _ (by omega) (by omega) (by simp; omega)]
        simp only [List.append_assoc, List.singleton_append]
    · have e : i = b.Kids.length := by omega
      subst e
      simp only [dec_ge (Nat.le_refl _), Bool.false_eq_true, if_false, List.drop_length, List.filter_nil, List.append_nil]
theorem inside_def (K : Kn) (n : Nat) (b : TBoxtreeBox) (hb : b.Kids.length ≤ 20) (hn : 20 < n) : g_ref17_Inside K n b = some (flowM b) := by
  have h := inside_loop K n b hb n 0 [] (by omega) (by omega) (by simp)
  exact (show _ = _ from h).trans (by simp only [List.nil_append, List.drop_zero]; rfl)
theorem router_loop (K : Kn) (n : Nat) (L : List TBoxtreeBox) (hL : L.length ≤ 20) : ∀ (m i : Nat), i ≤ L.length → L.length < m + i → g_ref17_outer_l1 K n L m i = some ((L.drop i).any fun k => k.Kind == 1) := by
  intro m
  induction m with
  | zero => intro i h1 h2; omega
  | succ m ih =>
    intro i h1 h2
    simp only [g_ref17_outer_l1, g_ref17_outer_l1_b]
    by_cases hi : i < L.length
    · rw [drop_at' hi]
      simp only [dec_lt hi, if_true, inbN hi, chk_true, Int.toNat_natCast, List.any_cons, step64 (show i < 1000000 by omega)]
      cases hq : (L.getD i default).Kind == 1
      · simp only [Bool.false_eq_true, if_false, Bool.false_or]
        exact ih (i + 1) (by omega) (by omega)
      · simp
    · have e : i = L.length := by omega
      subst e
      simp [dec_ge (Nat.le_refl _)]
theorem router_def (K : Kn) (n : Nat) (b : TBoxtreeBox) (hb : b.Kids.length ≤ 20) (hn : 20 < n) : g_ref17_outer K n b = some ((flowM b).any fun k => k.Kind == 1) := by
  unfold g_ref17_outer
  rw [inside_def K n b hb hn, Option.bind_some]
  have := @flowM_len b
  exact (router_loop K n (flowM b) (by omega) n 0 (by omega) (by omega)).trans (by simp only [List.drop_zero])
/-! ### Lines -/
def linesM (s : TCascadeStyle) (w : Int) : List TBoxtreeBox → Int → List TBlockFragment → List TBlockFragment × Int
  | [], y, acc => (acc, y)
  | k :: r, y, acc => if k.Text.toList == (⟨#[]⟩ : ByteArray).toList then linesM s w r y acc else linesM s w r (w64 (y + s.LineHeight)) (acc ++ [{ zTBlockFragment with Kind := 2, Y := y, W := w, H := s.LineHeight, Text := k.Text }])
theorem lines_loop (K : Kn) (n : Nat) (L : List TBoxtreeBox) (s : TCascadeStyle) (w : Int) (hL : L.length ≤ 20) : ∀ (m i : Nat) (y : Int) (acc : List TBlockFragment), i ≤ L.length → L.length < m + i → acc.length ≤ i →
    g_ref17_Lines_l2 K n L s w m y i acc = some (linesM s w (L.drop i) y acc) := by
  intro m
  induction m with
  | zero => intro i y acc h1 h2; omega
  | succ m ih =>
    intro i y acc h1 h2 h3
    simp only [g_ref17_Lines_l2, g_ref17_Lines_l2_b]
    by_cases hi : i < L.length
    · rw [drop_at' hi]
      simp only [dec_lt hi, if_true, inbN hi, chk_true, Option.bind_some, g_ref17_Lines_j1, Int.toNat_natCast, List.length_cons, List.length_nil, step64 (show i < 1000000 by omega), linesM]
      cases hq : (L.getD i default).Text.toList == (⟨#[]⟩ : ByteArray).toList
      · simp only [Bool.not_false, Bool.false_eq_true, if_false, if_true]
        rw [fits_of (by omega) (by omega), chk_true, ih (i + 1) _ _ (by omega) (by omega) (by simp; omega)]
      · simp only [Bool.not_true, Bool.false_eq_true, if_false, if_true]
        exact ih (i + 1) _ acc (by omega) (by omega) (by omega)
    · have e : i = L.length := by omega
      subst e
      simp only [dec_ge (Nat.le_refl _), Bool.false_eq_true, if_false, List.drop_length, linesM]
theorem lines_def (K : Kn) (n : Nat) (L : List TBoxtreeBox) (s : TCascadeStyle) (w : Int) (hL : L.length ≤ 20) (hn : 20 < n) : g_ref17_Lines K n L s w = some (linesM s w L 0 []) :=
  (lines_loop K n L s w hL n 0 0 [] (by omega) (by omega) (by simp)).trans (by simp only [List.drop_zero])
theorem linesM_ok (s : TCascadeStyle) (w : Int) : ∀ (L : List TBoxtreeBox) (y : Int) (acc : List TBlockFragment), (∀ f ∈ acc, f.Kids = []) → (linesM s w L y acc).1.length ≤ acc.length + L.length ∧ ∀ f ∈ (linesM s w L y acc).1, f.Kids = []
  | [], y, acc, h => ⟨by simp [linesM], h⟩
  | k :: r, y, acc, h => by
    unfold linesM
    split
    · have := linesM_ok s w r y acc h
      exact ⟨by simp only [List.length_cons]; omega, this.2⟩
    · have := linesM_ok s w r (w64 (y + s.LineHeight)) (acc ++ [{ zTBlockFragment with Kind := 2, Y := y, W := w, H := s.LineHeight, Text := k.Text }]) (fun f hf => by
        rcases List.mem_append.1 hf with hf | hf
        · exact h f hf
        · simp only [List.mem_cons, List.not_mem_nil, or_false] at hf; subst hf; rfl)
      refine ⟨?_, this.2⟩
      have h1 := this.1
      simp only [List.length_append, List.length_cons, List.length_nil] at h1 ⊢
      omega
/-! ### Moved -/
def movM (f : TBlockFragment) (w : Int) : TBlockFragment :=
  if f.Style.Position = 1 then { f with X := w64 (f.X + (lenM f.Style.Left w).1), Y := if f.Style.Top.Kind = 1 then w64 (f.Y + (lenM f.Style.Top 0).1) else f.Y } else f
theorem moved_def (K : Kn) (n : Nat) (f : TBlockFragment) (w : Int) : g_block_Moved K n f w = some (movM f w) := by
  unfold g_block_Moved movM
  simp only [len_def, Option.bind_some, g_block_Moved_j1]
  by_cases h : f.Style.Position = 1
  · by_cases h2 : f.Style.Top.Kind = 1 <;> simp [h, h2]
  · simp [h]
theorem rmoved_def (K : Kn) (n : Nat) (f : TBlockFragment) (w : Int) : g_ref17_Moved K n f w = some (movM f w) := by
  unfold g_ref17_Moved movM
  simp only [rlen_def, Option.bind_some, g_ref17_Moved_j1]
  by_cases h : f.Style.Position = 1
  · by_cases h2 : f.Style.Top.Kind = 1 <;> simp [h, h2]
  · simp [h]
theorem movM_kids (f : TBlockFragment) (w : Int) : (movM f w).Kids = f.Kids := by unfold movM; split <;> rfl
/-! ### A fragment and itself -/
def Fd : Nat → TBlockFragment → Prop
  | 0, _ => False
  | d + 1, f => f.Kids.length ≤ 20 ∧ ∀ k ∈ f.Kids, Fd d k
theorem same_loop1 (N n : Nat) (f : TBlockFragment) (hf : f.Kids.length ≤ 20) (hk : ∀ k ∈ f.Kids, (KN N).k_g_ref17_Same k k = some true) : ∀ (m i : Nat), i ≤ f.Kids.length → f.Kids.length < m + i → g_ref17_Same_l2 (KN N) n f f m i = some true := by
  intro m
  induction m with
  | zero => intro i h1 h2; omega
  | succ m ih =>
    intro i h1 h2
    simp only [g_ref17_Same_l2, g_ref17_Same_l2_b]
    by_cases hi : i < f.Kids.length
    · simp only [dec_lt hi, if_true, inbN hi, chk_true, Int.toNat_natCast, hk _ (getD_mem hi), Option.bind_some, Bool.not_true, Bool.false_eq_true, if_false, step64 (show i < 1000000 by omega)]
      exact ih (i + 1) (by omega) (by omega)
    · have e : i = f.Kids.length := by omega
      subst e
      simp [dec_ge (Nat.le_refl _)]
theorem same_self : ∀ (d N n : Nat) (f : TBlockFragment), Fd d f → d ≤ N + 1 → 20 < n → d + 20 ≤ N → g_ref17_Same (KN N) n f f = some true
  | 0, _, _, _, h, _, _, _ => h.elim
  | d + 1, N, n, f, h, h1, h2, h3 => by
    have hl := same_loop1 N n f h.1 (fun k hk => by
      match N, h1, h3 with
      | N + 1, h1, h3 =>
        show g_ref17_Same (KN N) N k k = some true
        by_cases hd : d = 0
        · subst hd; exact (h.2 k hk).elim
        · exact same_self d N N k (h.2 k hk) (by omega) (by omega) (by omega)) n 0 (by omega) (by have := h.1; omega)
    unfold g_ref17_Same
    simp only [bne_self_eq_false, beq_self_eq_true, Bool.not_true, Bool.false_eq_true, if_false, qStyle_refl, qMargin_refl, g_ref17_Same_j1]
    exact hl
end Go.Proofs.Ytkciiamllegclaa

/- Layer 17, plain: the program's layout of a tree of boxes is the reference's. No program in sight. -/
import Derived.Test.YtkciiamllegclaaSdQLayA
namespace Go.Proofs.Ytkciiamllegclaa
set_option linter.all false
open Go.RowKit
theorem w64_eq {a b : Int} (h : a % 18446744073709551616 = b % 18446744073709551616) : w64 a = w64 b := by
  unfold w64; rw [IntKind.wrap_i64, IntKind.wrap_i64]; omega
theorem w64_mod (a : Int) : w64 a % 18446744073709551616 = a % 18446744073709551616 := by
  unfold w64; rw [IntKind.wrap_i64]; omega
def kidM (bl : Bool) (z : TBlockSizes) (down : Int) (f : TBlockFragment) : TBlockFragment :=
  if bl = true then movM { f with X := w64 (f.X + w64 (z.Border.a3 + z.Padding.a3)), Y := w64 (f.Y + w64 (w64 (z.Border.a0 + z.Padding.a0) + down)) } z.Content
  else { f with X := w64 (f.X + w64 (z.Border.a3 + z.Padding.a3)), Y := w64 (f.Y + w64 (w64 (z.Border.a0 + z.Padding.a0) + down)) }
theorem kidM_kids (bl : Bool) (z : TBlockSizes) (down : Int) (f : TBlockFragment) : (kidM bl z down f).Kids = f.Kids := by
  unfold kidM; split
  · rw [movM_kids]
  · rfl
def finM (b : TBoxtreeBox) (z : TBlockSizes) (bl : Bool) (L : List TBlockFragment) (d : Int) (bf af : TBlockMargin) (em : Bool) (h : Int) : TBlockFragment :=
  ⟨1, b.Node, z.Margin.a3, 0, w64 (z.Content + w64 (w64 (w64 (z.Border.a3 + z.Padding.a3) + z.Border.a1) + z.Padding.a1)), w64 (w64 (w64 (w64 (h + z.Border.a0) + z.Padding.a0) + z.Border.a2) + z.Padding.a2), 0, ⟨#[]⟩, b.Style, bf, af, em, L.map (kidM bl z d)⟩
theorem set_mid {α : Type} (A R : List α) (x y : α) : (A ++ x :: R).set A.length y = A ++ y :: R := by
  rw [List.set_append_right _ _ (Nat.le_refl _)]; simp
theorem getD_mid {α : Type} (A R : List α) (x d : α) : (A ++ x :: R).getD A.length d = x := by simp [List.getD_eq_getElem?_getD]
theorem bfin_loop (K : Kn) (n : Nat) (b : TBoxtreeBox) (z : TBlockSizes) (v6 : (List TBoxtreeBox) × Bool) (L : List TBlockFragment) (d : Int) (bf af : TBlockMargin) (em : Bool) (v39 H : Int) (hl : L.length ≤ 20) (ho : v6.2 = true → v6.1.length = L.length ∧ ∀ k ∈ v6.1, outerM k = true) :
    ∀ (m : Nat) (A R : List TBlockFragment), A.length + R.length = L.length → R.length < m → g_block_layout_l11 K n b z v6 L d bf af em v39 H m (A.length : Int) (A ++ R) =
      some ⟨1, b.Node, z.Margin.a3, 0, w64 (z.Content + v39), H, 0, ⟨#[]⟩, b.Style, bf, af, em, A ++ R.map (kidM v6.2 z d)⟩ := by
  intro m
  induction m with
  | zero => intro A R _ h2; omega
  | succ m ih =>
    intro A R h1 h2
    simp only [g_block_layout_l11, g_block_layout_l11_b]
    cases R with
    | nil =>
      have e : A.length = L.length := by simpa using h1
      simp only [dec_ge (show L.length ≤ A.length by omega), Bool.false_eq_true, if_false, List.map_nil]
    | cons x R =>
      simp only [List.length_cons] at h1 h2
      have hA : A.length < L.length := by omega
      have nx := ih (A ++ [kidM v6.2 z d x]) R (by simp; omega) (by omega)
      simp only [List.append_assoc, List.singleton_append, List.length_append, List.length_cons, List.length_nil, Nat.zero_add] at nx
      simp only [dec_lt hA, if_true, Int.toNat_natCast, set_mid, getD_mid, inbN (show A.length < (A ++ x :: R).length by simp), List.length_append, List.length_cons, inbN (show A.length < A.length + (R.length + 1) by omega), chk_true, outer_def, Option.bind_some, g_block_layout_j9, g_block_layout_j10, moved_def, step64 (show A.length < 1000000 by omega), List.map_cons]
      cases hv : v6.2 with
      | false =>
        rw [hv] at nx
        simp only [Bool.false_eq_true, if_false]
        simp only [kidM, Bool.false_eq_true, if_false] at nx ⊢
        exact nx
      | true =>
        rw [hv] at nx
        obtain ⟨g1, g2⟩ := ho hv
        have hin : A.length < v6.1.length := by omega
        simp only [if_true, inbN hin, chk_true, g2 _ (getD_mem hin)]
        simp only [kidM, if_true] at nx ⊢
        exact nx
theorem rfin_loop (K : Kn) (n : Nat) (b : TBoxtreeBox) (z : TBlockSizes) (W : Int) (bl : Bool) (v13 : Int) (v14 v15 : TBlockMargin) (v16 : Bool) (L : List TBlockFragment) (d : Int) (bf af : TBlockMargin) (em : Bool) (H : Int) (hl : L.length ≤ 20) :
    ∀ (m i : Nat) (acc : List TBlockFragment), i ≤ L.length → L.length < m + i → acc.length ≤ i → g_ref17_finish_l13 K n b z W bl v13 v14 v15 v16 L d bf af em m i H acc =
      some ⟨1, b.Node, z.Margin.a3, 0, W, H, 0, ⟨#[]⟩, b.Style, bf, af, em, acc ++ (L.drop i).map (kidM bl z d)⟩ := by
  intro m
  induction m with
  | zero => intro i acc _ h2; omega
  | succ m ih =>
    intro i acc h1 h2 h3
    simp only [g_ref17_finish_l13, g_ref17_finish_l13_b]
    by_cases hi : i < L.length
    · rw [drop_at' hi]
      simp only [dec_lt hi, if_true, inbN hi, chk_true, rmoved_def, Option.bind_some, g_ref17_finish_j12, Int.toNat_natCast, List.length_cons, List.length_nil, step64 (show i < 1000000 by omega), List.map_cons]
      rw [fits_of (by omega) (by omega)]
      cases bl with
      | false =>
        simp only [Bool.false_eq_true, if_false, chk_true]
        rw [ih (i + 1) _ (by omega) (by omega) (by simp; omega)]
        simp only [List.append_assoc, List.singleton_append, kidM, Bool.false_eq_true, if_false]
      | true =>
        simp only [if_true, chk_true]
        rw [ih (i + 1) _ (by omega) (by omega) (by simp; omega)]
        simp only [List.append_assoc, List.singleton_append, kidM, if_true]
    · have e : i = L.length := by omega
      subst e
      simp only [dec_ge (Nat.le_refl _), Bool.false_eq_true, if_false, List.drop_length, List.map_nil, List.append_nil]
def refW (z : TBlockSizes) : Int := w64 (w64 (w64 (w64 (z.Content + z.Border.a1) + z.Border.a3) + z.Padding.a1) + z.Padding.a3)
section
variable (K : Kn) (n : Nat) (hn : 20 < n) (b : TBoxtreeBox) (z : TBlockSizes) (L : List TBlockFragment) (hl : L.length ≤ 20)
include hn hl
theorem bj8 (v6 : (List TBoxtreeBox) × Bool) (ho : v6.2 = true → v6.1.length = L.length ∧ ∀ k ∈ v6.1, outerM k = true) (d : Int) (bf af : TBlockMargin) (em : Bool) (h : Int) : g_block_layout_j8 K n b z v6 L d bf af em h = some (finM b z v6.2 L d bf af em h) := by
  unfold g_block_layout_j8
  simp only [g_block_inner, Option.bind_some]
  exact bfin_loop K n b z v6 L d bf af em _ _ hl ho n [] L (by simp) (by omega)
theorem rj11 (bl : Bool) (v13 : Int) (v14 v15 : TBlockMargin) (v16 : Bool) (d : Int) (bf af : TBlockMargin) (em : Bool) (h : Int) : g_ref17_finish_j11 K n b z (refW z) bl v13 v14 v15 v16 L d bf af em h = some (finM b z bl L d bf af em h) := by
  unfold g_ref17_finish_j11
  refine (rfin_loop K n b z (refW z) bl v13 v14 v15 v16 L d bf af em _ hl n 0 [] (by omega) (by omega) (by simp)).trans ?_
  simp only [List.nil_append, List.drop_zero, finM, refW]
  have e1 : w64 (w64 (w64 (w64 (z.Content + z.Border.a1) + z.Border.a3) + z.Padding.a1) + z.Padding.a3) = w64 (z.Content + w64 (w64 (w64 (z.Border.a3 + z.Padding.a3) + z.Border.a1) + z.Padding.a1)) := by
    apply w64_eq
    have := w64_mod (w64 (w64 (z.Content + z.Border.a1) + z.Border.a3) + z.Padding.a1)
    have := w64_mod (w64 (z.Content + z.Border.a1) + z.Border.a3)
    have := w64_mod (z.Content + z.Border.a1)
    have := w64_mod (w64 (w64 (z.Border.a3 + z.Padding.a3) + z.Border.a1) + z.Padding.a1)
    have := w64_mod (w64 (z.Border.a3 + z.Padding.a3) + z.Border.a1)
    have := w64_mod (z.Border.a3 + z.Padding.a3)
    omega
  have e2 : w64 (w64 (w64 (w64 (h + z.Border.a0) + z.Border.a2) + z.Padding.a0) + z.Padding.a2) = w64 (w64 (w64 (w64 (h + z.Border.a0) + z.Padding.a0) + z.Border.a2) + z.Padding.a2) := by
    apply w64_eq
    have := w64_mod (w64 (w64 (h + z.Border.a0) + z.Border.a2) + z.Padding.a0)
    have := w64_mod (w64 (h + z.Border.a0) + z.Border.a2)
    have := w64_mod (w64 (w64 (h + z.Border.a0) + z.Padding.a0) + z.Border.a2)
    have := w64_mod (w64 (h + z.Border.a0) + z.Padding.a0)
    omega
  rw [e1, e2]
def hM (s : TCascadeStyle) (h : Int) : Int := if s.Height.Kind = 1 then max (min (max s.Height.Value (-1048576)) 1048576) 0 else max h 0
theorem bj6 (v6 : (List TBoxtreeBox) × Bool) (ho : v6.2 = true → v6.1.length = L.length ∧ ∀ k ∈ v6.1, outerM k = true) (d : Int) (h : Int) (bf af : TBlockMargin) (em : Bool) : g_block_layout_j6 K n b z v6 L d h bf af em = some (finM b z v6.2 L d bf af em (hM b.Style h)) := by
  unfold g_block_layout_j6
  simp only [len_def, Option.bind_some, g_block_layout_j7, bj8 K n hn b z L hl v6 ho]
  by_cases hk : b.Style.Height.Kind = 1
  · simp [hk, hM, lenM]
  · simp only [hM, hk, if_false, beq_iff_eq, Bool.false_eq_true]
    split <;> rfl
def pixM (l : TCascadeLength) : Int × Bool := if l.Kind = 1 then (max (min (max l.Value (-1048576)) 1048576) 0, true) else (0, false)
omit hn hl in
theorem pix_def (l : TCascadeLength) : g_ref17_pixels K n l = some (pixM l) := by
  unfold g_ref17_pixels pixM
  by_cases h : l.Kind = 1 <;> simp [h, g_ref17_limit]
theorem rj10 (bl : Bool) (v13 : Int) (v14 v15 : TBlockMargin) (v16 : Bool) (d h : Int) (bf af : TBlockMargin) (em : Bool) : g_ref17_finish_j10 K n b z (refW z) bl v13 v14 v15 v16 L (pixM b.Style.Height) d h bf af em = some (finM b z bl L d bf af em (hM b.Style h)) := by
  unfold g_ref17_finish_j10
  simp only [rj11 K n hn b z L hl]
  by_cases hk : b.Style.Height.Kind = 1 <;> simp [hk, pixM, hM]
def ofM (x : Int) : TBlockMargin := ⟨max x 0, min x 0⟩
theorem j5_eq (v6 : (List TBoxtreeBox) × Bool) (ho : v6.2 = true → v6.1.length = L.length ∧ ∀ k ∈ v6.1, outerM k = true) (above below : Bool) (h : Int) (through : Bool) (bf af : TBlockMargin) :
    ∃ d e f g x, g_block_layout_j2 K n b z above below v6 h through bf af L = some (finM b z v6.2 L d e f g x) ∧ g_ref17_finish_j5 K n b z (refW z) v6.2 h bf af through L (pixM b.Style.Height) above below = some (finM b z v6.2 L d e f g x) ∧
      (above = false → below = false → g = false ∧ e = ofM z.Margin.a0 ∧ f = ofM z.Margin.a2) := by
  have c1 : ∀ x y : Int, w64 (x + y) = w64 (y + x) := fun x y => by rw [Int.add_comm]
  have c3 : ∀ y u : Int, w64 (h + w64 (y + u)) = w64 (w64 (y + h) + u) := fun y u => by
    apply w64_eq
    have := w64_mod (y + u)
    have := w64_mod (y + h)
    omega
  cases above <;> cases below <;> cases through <;>
    simp only [g_block_layout_j2, g_block_layout_j3, g_block_layout_j4, g_block_layout_j5, g_ref17_finish_j5, g_ref17_finish_j6, g_ref17_finish_j7, g_ref17_finish_j8, g_ref17_finish_j9, g_block_Of, g_ref17_Of, g_block_Collapse, g_ref17_Join, g_api_BlockMargin_Sum, g_ref17_Size, Option.bind_some, Bool.not_true, Bool.not_false, Bool.false_eq_true, if_true, if_false,
      bj6 K n hn b z L hl v6 ho, rj10 K n hn b z L hl] <;>
    refine ⟨_, _, _, _, _, rfl, ?_, ?_⟩ <;> first | exact fun _ _ => ⟨rfl, rfl, rfl⟩ | (intro h1 h2; contradiction) | rfl | (rw [c1 h]; done) | (rw [c3]; done)
end
/-! ### The whole -/
def GoodB : Nat → TBoxtreeBox → Prop
  | 0, _ => False
  | d + 1, b => b.Kids.length ≤ 20 ∧ ((∀ k ∈ b.Kids, k.Kind = 1 ∧ GoodB d k) ∨ ∀ k ∈ b.Kids, k.Kind = 3)
theorem Fd_kids : ∀ {d : Nat} {f g : TBlockFragment}, f.Kids = g.Kids → Fd d g → Fd d f
  | 0, _, _, _, h => h.elim
  | d + 1, f, g, e, h => by unfold Fd at h ⊢; rw [e]; exact h
theorem Fd_leaf {d : Nat} {f : TBlockFragment} (h : f.Kids = []) : Fd (d + 1) f := by unfold Fd; rw [h]; simp
section
variable (K : Kn) (n : Nat)
theorem bl1_loop (b : TBoxtreeBox) (z : TBlockSizes) (v3 v4 : Bool) (env : TBlockEnv) (v6 : (List TBoxtreeBox) × Bool) (F : TBoxtreeBox → TBlockFragment) (hl : v6.1.length ≤ 20) (hF : ∀ k ∈ v6.1, K.d_TBoxtreeBox_Int__TBlockFragment env.Layout k z.Content = some (F k)) :
    ∀ (m i : Nat) (acc : List TBlockFragment), i ≤ v6.1.length → v6.1.length < m + i → acc.length ≤ i → g_block_layout_l1 K n b z v3 v4 env v6 m i acc =
      (g_block_Stack K n (acc ++ (v6.1.drop i).map F)).bind fun v12 => g_block_layout_j2 K n b z v3 v4 v6 v12.2.1 v12.2.2.2.2 v12.2.2.1 v12.2.2.2.1 v12.1 := by
  intro m
  induction m with
  | zero => intro i acc _ h2; omega
  | succ m ih =>
    intro i acc h1 h2 h3
    simp only [g_block_layout_l1, g_block_layout_l1_b]
    by_cases hi : i < v6.1.length
    · rw [drop_at' hi]
      simp only [dec_lt hi, if_true, inbN hi, chk_true, hF _ (getD_mem hi), Option.bind_some, Int.toNat_natCast, List.length_cons, List.length_nil, step64 (show i < 1000000 by omega), List.map_cons]
      rw [fits_of (by omega) (by omega), chk_true, ih (i + 1) _ (by omega) (by omega) (by simp; omega)]
      simp only [List.append_assoc, List.singleton_append]
    · have e : i = v6.1.length := by omega
      subst e
      simp only [dec_ge (Nat.le_refl _), Bool.false_eq_true, if_false, List.drop_length, List.map_nil, List.append_nil]
theorem rl1_loop (b : TBoxtreeBox) (z : TBlockSizes) (v3 v4 : Bool) (L : List TBoxtreeBox) (F : TBoxtreeBox → TBlockFragment) (hl : L.length ≤ 20) (hF : ∀ k ∈ L, K.k_g_ref17_Layout k z.Content = some (F k)) :
    ∀ (m i : Nat) (acc : List TBlockFragment), i ≤ L.length → L.length < m + i → acc.length ≤ i → g_ref17_finish_l1 K n b z v3 (refW z) v4 L m i acc =
      (g_ref17_Stack K n (acc ++ (L.drop i).map F)).bind fun v11 => g_ref17_finish_j2 K n b z v3 (refW z) v4 v11.Height v11.Before v11.After v11.Through v11.List := by
  intro m
  induction m with
  | zero => intro i acc _ h2; omega
  | succ m ih =>
    intro i acc h1 h2 h3
    simp only [g_ref17_finish_l1, g_ref17_finish_l1_b]
    by_cases hi : i < L.length
    · rw [drop_at' hi]
      simp only [dec_lt hi, if_true, inbN hi, chk_true, hF _ (getD_mem hi), Option.bind_some, Int.toNat_natCast, List.length_cons, List.length_nil, step64 (show i < 1000000 by omega), List.map_cons]
      rw [fits_of (by omega) (by omega), chk_true, ih (i + 1) _ (by omega) (by omega) (by simp; omega)]
      simp only [List.append_assoc, List.singleton_append]
    · have e : i = L.length := by omega
      subst e
      simp only [dec_ge (Nat.le_refl _), Bool.false_eq_true, if_false, List.drop_length, List.map_nil, List.append_nil]
end
def aboveM (b : TBoxtreeBox) (z : TBlockSizes) (share : Bool) : Bool := share && (b.Style.Overflow == 0 && w64 (z.Border.a0 + z.Padding.a0) == 0)
def belowM (b : TBoxtreeBox) (z : TBlockSizes) (share : Bool) : Bool := share && (b.Style.Overflow == 0 && (w64 (z.Border.a2 + z.Padding.a2) == 0 && b.Style.Height.Kind != 1))
theorem rj2 (K : Kn) (n : Nat) (b : TBoxtreeBox) (z : TBlockSizes) (share bl : Bool) (h : Int) (bf af : TBlockMargin) (th : Bool) (L : List TBlockFragment) :
    g_ref17_finish_j2 K n b z share (refW z) bl h bf af th L = g_ref17_finish_j5 K n b z (refW z) bl h bf af th L (pixM b.Style.Height) (aboveM b z share) (belowM b z share) := by
  unfold g_ref17_finish_j2 aboveM belowM
  simp only [pix_def, Option.bind_some, g_ref17_finish_j3, g_ref17_finish_j4]
  have e : (!(pixM b.Style.Height).2) = (b.Style.Height.Kind != 1) := by
    unfold pixM; by_cases hk : b.Style.Height.Kind = 1 <;> simp [hk]
  rw [e]
  cases share
  · simp
  · cases ho : b.Style.Overflow == 0
    · simp
    · cases hq : w64 (z.Border.a2 + z.Padding.a2) == 0 <;> simp
theorem clone_def (K : Kn) (n : Nat) (l : List TBlockFragment) (hl : l.length ≤ 20) : g_slices_Clone_BlockFragment_BlockFragment K n l = some l := by
  unfold g_slices_Clone_BlockFragment_BlockFragment both
  have hf : fits (([] : List TBlockFragment).length + l.length) 584 = true := by rw [List.length_nil, Nat.zero_add]; exact fits_of (by omega) (by omega)
  rw [hf]
  cases l <;> simp [chk_true]
theorem core (d N : Nat) (b : TBoxtreeBox) (z : TBlockSizes) (share : Bool) (hg : GoodB (d + 1) b) (hN : 20 < N) (env : TBlockEnv) (he : env.Layout = 58 ∧ env.Lines = 60)
    (ih : ∀ k, GoodB d k → ∃ f, (KN (N + 1)).d_TBoxtreeBox_Int__TBlockFragment 58 k z.Content = some f ∧ (KN (N + 1)).k_g_ref17_Layout k z.Content = some f ∧ Fd (d + 1) f) :
    ∃ f, g_block_layout (KN (N + 1)) (N + 1) b z (aboveM b z share) (belowM b z share) env = some f ∧ g_ref17_finish (KN (N + 1)) (N + 1) b z share = some f ∧ Fd (d + 2) f ∧ (share = false → f.Empty = false ∧ f.Before = ofM z.Margin.a0 ∧ f.After = ofM z.Margin.a2) := by
  have hO : ∀ x, (KN (N + 1)).d_TBoxtreeBox__Bool 72 x = some (outerM x) := fun x => outer_def (KN N) N x
  have hlen : b.Kids.length ≤ 20 := hg.1
  have hfl : (flowM b).length ≤ 20 := Nat.le_trans flowM_len hlen
  have hsub : ∀ k ∈ flowM b, k ∈ b.Kids := fun k hk => (List.mem_filter.1 hk).1
  have hany : ((flowM b).any fun k => k.Kind == 1) = (flowM b).any outerM := by
    apply Bool.eq_iff_iff.2
    simp only [List.any_eq_true]
    constructor
    · rintro ⟨k, hk, e⟩; exact ⟨k, hk, by simp [outerM, e]⟩
    · rintro ⟨k, hk, e⟩
      refine ⟨k, hk, ?_⟩
      rcases hg.2 with h | h
      · simp [(h k (hsub k hk)).1]
      · have := h k (hsub k hk); simp [outerM, this] at e
  unfold g_block_layout g_ref17_finish
  rw [bflow_def _ _ hO b hlen (by omega), router_def _ _ b hlen (by omega), inside_def _ _ b hlen (by omega), hany]
  simp only [Option.bind_some]
  rw [show w64 (w64 (w64 (w64 (z.Content + z.Border.a1) + z.Border.a3) + z.Padding.a1) + z.Padding.a3) = refW z from rfl]
  have fin : ∀ (L : List TBlockFragment) (bl : Bool) (h : Int) (th : Bool) (bf af : TBlockMargin), bl = (flowM b).any outerM → L.length ≤ 20 → (bl = true → (flowM b).length = L.length ∧ ∀ k ∈ flowM b, outerM k = true) → (∀ f ∈ L, Fd (d + 1) f) →
      ∃ f, g_block_layout_j2 (KN (N + 1)) (N + 1) b z (aboveM b z share) (belowM b z share) (flowM b, (flowM b).any outerM) h th bf af L = some f ∧ g_ref17_finish_j2 (KN (N + 1)) (N + 1) b z share (refW z) bl h bf af th L = some f ∧ Fd (d + 2) f ∧ (share = false → f.Empty = false ∧ f.Before = ofM z.Margin.a0 ∧ f.After = ofM z.Margin.a2) := by
    intro L bl h th bf af hbl hL ho hk
    subst hbl
    obtain ⟨d', e, f, g, x, h1, h2, h3⟩ := j5_eq (KN (N + 1)) (N + 1) (by omega) b z L hL (flowM b, (flowM b).any outerM) ho (aboveM b z share) (belowM b z share) h th bf af
    refine ⟨_, h1, (rj2 _ _ _ _ _ _ _ _ _ _ _).trans h2, ⟨?_, ?_⟩, fun hs => ?_⟩
    · simpa [finM] using hL
    · intro k hkk
      obtain ⟨y, hy, rfl⟩ := List.mem_map.1 hkk
      exact Fd_kids (kidM_kids _ _ _ _) (hk y hy)
    · subst hs; exact h3 rfl rfl
  cases hb : (flowM b).any outerM with
  | true =>
    have hall : ∀ k ∈ b.Kids, k.Kind = 1 ∧ GoodB d k := by
      rcases hg.2 with h | h
      · exact h
      · obtain ⟨k, hk, e⟩ := List.any_eq_true.1 hb
        have := h k (hsub k hk); simp [outerM, this] at e
    have hF : ∀ k ∈ flowM b, (KN (N + 1)).d_TBoxtreeBox_Int__TBlockFragment env.Layout k z.Content = some (((KN (N + 1)).k_g_ref17_Layout k z.Content).getD default) ∧ (KN (N + 1)).k_g_ref17_Layout k z.Content = some (((KN (N + 1)).k_g_ref17_Layout k z.Content).getD default) ∧ Fd (d + 1) (((KN (N + 1)).k_g_ref17_Layout k z.Content).getD default) := fun k hk => by
      obtain ⟨f, h1, h2, h3⟩ := ih k (hall k (hsub k hk)).2
      rw [he.1, h1, h2]
      exact ⟨rfl, rfl, h3⟩
    simp only [if_true]
    have e1 := bl1_loop (KN (N + 1)) (N + 1) b z (aboveM b z share) (belowM b z share) env (flowM b, true) (fun k => ((KN (N + 1)).k_g_ref17_Layout k z.Content).getD default) hfl (fun k hk => (hF k hk).1) (N + 1) 0 [] (by omega) (by simp only []; omega) (by simp)
    have e2 := rl1_loop (KN (N + 1)) (N + 1) b z share true (flowM b) (fun k => ((KN (N + 1)).k_g_ref17_Layout k z.Content).getD default) hfl (fun k hk => (hF k hk).2.1) (N + 1) 0 [] (by omega) (by omega) (by simp)
    simp only [List.nil_append, List.drop_zero] at e1 e2
    obtain ⟨r, hr, hrl, hrk⟩ := stack_tot (KN (N + 1)) (N + 1) ((flowM b).map fun k => ((KN (N + 1)).k_g_ref17_Layout k z.Content).getD default) (by simp; omega) (by simp; omega)
    rw [show g_block_layout_l1 (KN (N + 1)) (N + 1) b z (aboveM b z share) (belowM b z share) env (flowM b, true) (N + 1) 0 [] = _ from e1, show g_ref17_finish_l1 (KN (N + 1)) (N + 1) b z share (refW z) true (flowM b) (N + 1) 0 [] = _ from e2, stack_eq, hr]
    simp only [Option.bind_some, Option.map_some, placedOf]
    rw [List.length_map] at hrl
    have := fin r.1 true r.2.1 r.2.2.2.2 r.2.2.1 r.2.2.2.1 hb.symm (by omega) (fun _ => ⟨by omega, fun k hk => by simp [outerM, (hall k (hsub k hk)).1]⟩) (fun f hf => by
      obtain ⟨g, hg', e⟩ := hrk f hf
      obtain ⟨k, hk, rfl⟩ := List.mem_map.1 hg'
      exact Fd_kids e (hF k hk).2.2)
    rw [hb] at this
    exact this
  | false =>
    simp only [Bool.false_eq_true, if_false]
    have hLn : (KN (N + 1)).d_ListTBoxtreeBox_TCascadeStyle_Int__ListTBlockFragmentInt env.Lines (flowM b) b.Style z.Content = some (linesM b.Style z.Content (flowM b) 0 []) := by
      rw [he.2]; exact lines_def (KN N) N (flowM b) b.Style z.Content hfl hN
    obtain ⟨l1, l2⟩ := linesM_ok b.Style z.Content (flowM b) 0 [] (by simp)
    simp only [List.length_nil, Nat.zero_add] at l1
    have hcl : g_slices_Clone_BlockFragment_BlockFragment (KN (N + 1)) (N + 1) (linesM b.Style z.Content (flowM b) 0 []).1 = some (linesM b.Style z.Content (flowM b) 0 []).1 := by
      exact clone_def _ _ _ (by omega)
    rw [hLn, lines_def _ _ (flowM b) b.Style z.Content hfl (by omega)]
    simp only [Option.bind_some, hcl]
    have := fin (linesM b.Style z.Content (flowM b) 0 []).1 false (linesM b.Style z.Content (flowM b) 0 []).2 (((linesM b.Style z.Content (flowM b) 0 []).1.length : Int) == 0) zTBlockMargin zTBlockMargin hb.symm (by omega) (fun h => by cases h) (fun f hf => Fd_leaf (l2 f hf))
    rw [hb] at this
    exact this
theorem used_edges (s : TCascadeStyle) (w : Int) : (usedM s w).Border = (edgesM s (limM w) 0).Border ∧ (usedM s w).Padding = (edgesM s (limM w) 0).Padding := by
  unfold usedM used1
  simp only []
  repeat (first | exact ⟨rfl, rfl⟩ | split)
theorem lenM_bd (l : TCascadeLength) (b : Int) : -1048576 ≤ (lenM l b).1 ∧ (lenM l b).1 ≤ 1048576 := by
  unfold lenM; split
  · simp only []; omega
  · split <;> simp only [] <;> omega
theorem lay_eq : ∀ (d N : Nat) (b : TBoxtreeBox) (w : Int), GoodB d b → d + 25 ≤ N → ∃ f, g_block_Layout (KN N) N b w ⟨58, 59, 60, 61⟩ = some f ∧ g_ref17_Layout (KN N) N b w = some f ∧ Fd (d + 1) f
  | 0, _, _, _, h, _ => h.elim
  | d + 1, 0, _, _, _, h => by omega
  | d + 1, N + 1, b, w, hg, hN => by
    obtain ⟨f, h1, h2, h3, _⟩ := core d N b (usedM b.Style w) true hg (by omega) ⟨58, 59, 60, 61⟩ ⟨rfl, rfl⟩ (fun k hk => by
      obtain ⟨f, h1, h2, h3⟩ := lay_eq d N k (usedM b.Style w).Content hk (by omega)
      refine ⟨f, ?_, h2, h3⟩
      show g_law17_lay (KN N) N k (usedM b.Style w).Content = some f
      unfold g_law17_lay g_law17_Env
      simp only [Option.bind_some, h1])
    refine ⟨f, ?_, ?_, h3⟩
    · unfold g_block_Layout
      simp only [used_def, Option.bind_some, g_block_Layout_j1, g_block_Layout_j2]
      obtain ⟨u1, u2⟩ := used_edges b.Style w
      have hb0 : 0 ≤ (usedM b.Style w).Border.a0 ∧ (usedM b.Style w).Border.a0 ≤ 1048576 := by rw [u1]; simp only [edgesM, limM]; omega
      have hb2 : 0 ≤ (usedM b.Style w).Border.a2 ∧ (usedM b.Style w).Border.a2 ≤ 1048576 := by rw [u1]; simp only [edgesM, limM]; omega
      have hp0 : 0 ≤ (usedM b.Style w).Padding.a0 ∧ (usedM b.Style w).Padding.a0 ≤ 1048576 := by rw [u2]; simp only [edgesM]; have := lenM_bd b.Style.Padding.a0 (limM w); omega
      have hp2 : 0 ≤ (usedM b.Style w).Padding.a2 ∧ (usedM b.Style w).Padding.a2 ≤ 1048576 := by rw [u2]; simp only [edgesM]; have := lenM_bd b.Style.Padding.a2 (limM w); omega
      have e0 : (w64 ((usedM b.Style w).Border.a0 + (usedM b.Style w).Padding.a0) == 0) = ((usedM b.Style w).Border.a0 == 0 && (usedM b.Style w).Padding.a0 == 0) := by
        rw [w64_id (by omega) (by omega)]; apply Bool.eq_iff_iff.2; simp only [Bool.and_eq_true, beq_iff_eq]; omega
      have e2 : (w64 ((usedM b.Style w).Border.a2 + (usedM b.Style w).Padding.a2) == 0) = ((usedM b.Style w).Border.a2 == 0 && (usedM b.Style w).Padding.a2 == 0) := by
        rw [w64_id (by omega) (by omega)]; apply Bool.eq_iff_iff.2; simp only [Bool.and_eq_true, beq_iff_eq]; omega
      unfold aboveM belowM at h1
      rw [e0, e2] at h1
      cases ho : b.Style.Overflow == 0 <;> cases q0 : (usedM b.Style w).Border.a0 == 0 <;> cases q2 : (usedM b.Style w).Border.a2 == 0 <;> cases q3 : (usedM b.Style w).Padding.a2 == 0 <;> rw [ho, q0, q2, q3] at h1 <;> simp only [Bool.true_and, Bool.false_and, Bool.and_true, Bool.and_false, Bool.false_eq_true, if_true, if_false] at h1 ⊢ <;> rw [h1] <;> rfl
    · unfold g_ref17_Layout
      simp only [rused_def, Option.bind_some, h2]
end Go.Proofs.Ytkciiamllegclaa

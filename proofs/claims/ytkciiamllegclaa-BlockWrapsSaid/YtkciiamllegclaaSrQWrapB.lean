/- Layer 17, plain: what a stack of fragments yields, in numbers; heights and margins of what is laid out. No program in sight. -/
import Derived.Test.YtkciiamllegclaaSrQWrapA
namespace Go.Proofs.Ytkciiamllegclaa
set_option linter.all false
open Go.RowKit
def NM (m : TBlockMargin) : Prop := m.Neg = 0 ∧ 0 ≤ m.Pos ∧ m.Pos ≤ 1048576
def colM (a b : TBlockMargin) : TBlockMargin := ⟨max a.Pos b.Pos, min a.Neg b.Neg⟩
theorem NM.col {a b : TBlockMargin} (ha : NM a) (hb : NM b) : NM (colM a b) := by
  obtain ⟨a1, a2, a3⟩ := ha; obtain ⟨b1, b2, b3⟩ := hb
  exact ⟨by simp [colM, a1, b1], by simp only [colM]; omega, by simp only [colM]; omega⟩
theorem mz_pos : zTBlockMargin.Pos = 0 := rfl
theorem mz_neg : zTBlockMargin.Neg = 0 := rfl
theorem NM_z : NM zTBlockMargin := ⟨rfl, by rw [mz_pos]; omega, by rw [mz_pos]; omega⟩
theorem marg_ext {a b : TBlockMargin} (h1 : a.Pos = b.Pos) (h2 : a.Neg = b.Neg) : a = b := by cases a; cases b; simp only at h1 h2; rw [h1, h2]
theorem z_col {m : TBlockMargin} (h : NM m) : colM zTBlockMargin m = m := by
  obtain ⟨a1, a2, a3⟩ := h
  exact marg_ext (by show max zTBlockMargin.Pos m.Pos = m.Pos; rw [mz_pos]; omega) (by show min zTBlockMargin.Neg m.Neg = m.Neg; rw [mz_neg]; omega)
theorem col_z {m : TBlockMargin} (h : NM m) : colM m zTBlockMargin = m := by
  obtain ⟨a1, a2, a3⟩ := h
  exact marg_ext (by show max m.Pos zTBlockMargin.Pos = m.Pos; rw [mz_pos]; omega) (by show min m.Neg zTBlockMargin.Neg = m.Neg; rw [mz_neg]; omega)
theorem col_assoc (a b c : TBlockMargin) : colM (colM a b) c = colM a (colM b c) := marg_ext (by simp only [colM]; omega) (by simp only [colM]; omega)
def sumG (m : TBlockMargin) : Int := w64 (m.Pos + m.Neg)
structure SS where
  h : Int
  b : TBlockMargin
  m : TBlockMargin
  t : Bool
def yS (s : SS) (f : TBlockFragment) : Int := if s.t = true then 0 else w64 (s.h + sumG (colM s.m f.Before))
def stepS (s : SS) (f : TBlockFragment) : SS :=
  if f.Empty = true then ⟨s.h, s.b, colM s.m f.Before, s.t⟩ else ⟨w64 (yS s f + f.H), if s.t = true then colM s.m f.Before else s.b, f.After, false⟩
def foldS : SS → List TBlockFragment → SS
  | s, [] => s
  | s, f :: r => foldS (stepS s f) r
def plS : SS → List TBlockFragment → List TBlockFragment
  | _, [] => []
  | s, f :: r => { f with Y := yS s f } :: plS (stepS s f) r
theorem plS_len : ∀ (s : SS) (L : List TBlockFragment), (plS s L).length = L.length
  | _, [] => rfl
  | s, f :: r => by simp [plS, plS_len _ r]
theorem foldS_app : ∀ (s : SS) (A B : List TBlockFragment), foldS s (A ++ B) = foldS (foldS s A) B
  | _, [], _ => rfl
  | s, f :: r, B => foldS_app (stepS s f) r B
theorem plS_app : ∀ (s : SS) (A B : List TBlockFragment), plS s (A ++ B) = plS s A ++ plS (foldS s A) B
  | _, [], _ => rfl
  | s, f :: r, B => by simp only [List.cons_append, plS, foldS, plS_app (stepS s f) r B]
def outS (s : SS) (l : List TBlockFragment) : (List TBlockFragment) × Int × TBlockMargin × TBlockMargin × Bool := (l, s.h, if s.t = true then s.m else s.b, s.m, s.t)
theorem stack_loop (K : Kn) (n : Nat) (L : List TBlockFragment) (hL : L.length ≤ 20) : ∀ (m i : Nat) (s : SS) (acc : List TBlockFragment), i ≤ L.length → L.length < m + i → acc.length ≤ i →
    g_block_Stack_l4 K n L m s.h s.t i s.b s.m acc = some (outS (foldS s (L.drop i)) (acc ++ plS s (L.drop i))) := by
  intro m
  induction m with
  | zero => intro i s acc h1 h2; omega
  | succ m ih =>
    intro i s acc h1 h2 h3
    simp only [g_block_Stack_l4, g_block_Stack_l4_b]
    by_cases hi : i < L.length
    · rw [drop_at' hi]
      generalize hf : L.getD i default = f
      have nx := fun (s' : SS) (f' : TBlockFragment) => ih (i + 1) s' (acc ++ [f']) (by omega) (by omega) (by simp; omega)
      simp only [dec_lt hi, if_true, inbN hi, chk_true, g_block_Collapse, g_api_BlockMargin_Sum, Option.bind_some, g_block_Stack_j1, g_block_Stack_j2, g_block_Stack_j3, List.length_cons, List.length_nil, Nat.zero_add, Int.toNat_natCast, hf, step64 (show i < 1000000 by omega)]
      rw [fits_of (by omega) (by omega)]
      simp only [chk_true, foldS, plS]
      rw [show acc ++ { f with Y := yS s f } :: plS (stepS s f) (L.drop (i + 1)) = acc ++ [{ f with Y := yS s f }] ++ plS (stepS s f) (L.drop (i + 1)) by simp]
      rw [← nx (stepS s f) { f with Y := yS s f }]
      cases ht : s.t <;> cases he : f.Empty <;> simp [stepS, yS, ht, he, colM, sumG]
    · have e : i = L.length := by omega
      subst e
      simp only [dec_ge (Nat.le_refl _), Bool.false_eq_true, if_false, List.drop_length, foldS, plS, List.append_nil, g_block_Stack_j5, outS]
      cases ht : s.t <;> simp
def s0 : SS := ⟨0, zTBlockMargin, zTBlockMargin, true⟩
theorem stackM_def (K : Kn) (n : Nat) (L : List TBlockFragment) (hL : L.length ≤ 20) (hn : 20 < n) : g_block_Stack K n L = some (outS (foldS s0 L) (plS s0 L)) :=
  (stack_loop K n L hL n 0 s0 [] (by omega) (by omega) (by simp)).trans (by simp only [List.nil_append, List.drop_zero])
/-! ### Bounds -/
structure FI (f : TBlockFragment) : Prop where
  h0 : 0 ≤ f.H
  bf : NM f.Before
  af : NM f.After
  em : f.Empty = true → f.H = 0
structure SI (c : Int) (s : SS) : Prop where
  h0 : 0 ≤ s.h
  hc : s.h ≤ c
  b : NM s.b
  m : NM s.m
  t : s.t = true → s.h = 0 ∧ s.b = zTBlockMargin
def sumH : List TBlockFragment → Int
  | [] => 0
  | f :: r => f.H + 1048576 + sumH r
theorem SI.step {c : Int} {s : SS} {f : TBlockFragment} (h : SI c s) (hf : FI f) (hc : c + f.H + 1048576 ≤ 1152921504606846976) : SI (c + f.H + 1048576) (stepS s f) := by
  obtain ⟨h1, h2, h3, h4, h5⟩ := h
  obtain ⟨g1, g2, g3, g4⟩ := hf
  obtain ⟨m1, m2, m3⟩ := h4.col g2
  have hs : sumG (colM s.m f.Before) = (colM s.m f.Before).Pos := by unfold sumG; rw [m1, w64_id (by omega) (by omega)]; omega
  unfold stepS
  split
  · refine ⟨h1, by show s.h ≤ _; omega, h3, h4.col g2, h5⟩
  · have hy : 0 ≤ yS s f ∧ yS s f ≤ c + 1048576 := by
      unfold yS; split
      · omega
      · rw [hs, w64_id (by omega) (by omega)]; omega
    refine ⟨?_, ?_, ?_, g3, fun h => by cases h⟩
    · show 0 ≤ w64 (yS s f + f.H); rw [w64_id (by omega) (by omega)]; omega
    · show w64 (yS s f + f.H) ≤ _; rw [w64_id (by omega) (by omega)]; omega
    · show NM (if s.t = true then colM s.m f.Before else s.b); split
      · exact h4.col g2
      · exact h3
theorem sumH_nn : ∀ {L : List TBlockFragment}, (∀ f ∈ L, FI f) → 0 ≤ sumH L
  | [], _ => by simp [sumH]
  | f :: r, h => by
    have := sumH_nn (L := r) fun f hf => h f (List.mem_cons_of_mem _ hf)
    have := (h f (List.mem_cons_self ..)).h0
    simp only [sumH]; omega
theorem SI.fold : ∀ {L : List TBlockFragment} {c : Int} {s : SS}, SI c s → (∀ f ∈ L, FI f) → 0 ≤ c → c + sumH L ≤ 1152921504606846976 → SI (c + sumH L) (foldS s L)
  | [], c, s, h, _, _, _ => by simpa [sumH, foldS] using h
  | f :: r, c, s, h, hf, h0, hc => by
    have hr : ∀ f ∈ r, FI f := fun f h => hf f (List.mem_cons_of_mem _ h)
    have h1 := hf f (List.mem_cons_self ..)
    have := sumH_nn hr
    simp only [sumH] at hc ⊢
    have h2 := (h.step h1 (by omega)).fold (L := r) hr (by have := h1.h0; omega) (by omega)
    have e : c + f.H + 1048576 + sumH r = c + (f.H + 1048576 + sumH r) := by omega
    rw [e] at h2; exact h2
theorem SI_s0 : SI 0 s0 := ⟨Int.le_refl _, Int.le_refl _, NM_z, NM_z, fun _ => ⟨rfl, rfl⟩⟩
/-! ### The rest of the layout -/
def dR (above below th : Bool) (bf : TBlockMargin) : Int := if above = true then 0 else if (!th || !below) = true then sumG bf else 0
def befR (above below th : Bool) (bf : TBlockMargin) (z : TBlockSizes) : TBlockMargin :=
  let b1 := if above = true then colM (ofM z.Margin.a0) bf else ofM z.Margin.a0
  if (th && above && below) = true then colM b1 (ofM z.Margin.a2) else b1
def aftR (above below th : Bool) (bf af : TBlockMargin) (z : TBlockSizes) : TBlockMargin :=
  if (th && above && below) = true then befR above below th bf z else if th = true then (if below = true then colM (ofM z.Margin.a2) bf else ofM z.Margin.a2) else if below = true then colM (ofM z.Margin.a2) af else ofM z.Margin.a2
def htR (above below th : Bool) (h : Int) (bf af : TBlockMargin) : Int :=
  if (th && above && below) = true then 0 else if th = true then dR above below th bf else if below = true then w64 (h + dR above below th bf) else w64 (h + w64 (dR above below th bf + sumG af))
theorem j2_def (K : Kn) (n : Nat) (hn : 20 < n) (b : TBoxtreeBox) (z : TBlockSizes) (L : List TBlockFragment) (hl : L.length ≤ 20) (v6 : (List TBoxtreeBox) × Bool) (ho : v6.2 = true → v6.1.length = L.length ∧ ∀ k ∈ v6.1, outerM k = true) (above below : Bool) (h : Int) (th : Bool) (bf af : TBlockMargin) :
    g_block_layout_j2 K n b z above below v6 h th bf af L = some (finM b z v6.2 L (dR above below th bf) (befR above below th bf z) (aftR above below th bf af z) (th && above && below) (hM b.Style (htR above below th h bf af))) := by
  cases above <;> cases below <;> cases th <;>
    simp only [g_block_layout_j2, g_block_layout_j3, g_block_layout_j4, g_block_layout_j5, g_block_Of, g_block_Collapse, g_api_BlockMargin_Sum, Option.bind_some, Bool.not_true, Bool.not_false, Bool.false_eq_true, if_true, if_false, bj6 K n hn b z L hl v6 ho] <;>
    simp [dR, befR, aftR, htR, sumG, colM, ofM]
theorem blayout_unf (K : Kn) (n : Nat) (b : TBoxtreeBox) (w : Int) (env : TBlockEnv) : g_block_Layout K n b w env = g_block_layout K n b (usedM b.Style w) (aboveM b (usedM b.Style w) true) (belowM b (usedM b.Style w) true) env := by
  unfold g_block_Layout
  simp only [used_def, Option.bind_some, g_block_Layout_j1, g_block_Layout_j2]
  obtain ⟨u1, u2⟩ := used_edges b.Style w
  have hb0 : 0 ≤ (usedM b.Style w).Border.a0 ∧ (usedM b.Style w).Border.a0 ≤ 1048576 := by rw [u1]; simp only [edgesM, limM]; omega
  have hb2 : 0 ≤ (usedM b.Style w).Border.a2 ∧ (usedM b.Style w).Border.a2 ≤ 1048576 := by rw [u1]; simp only [edgesM, limM]; omega
  have hp0 : 0 ≤ (usedM b.Style w).Padding.a0 ∧ (usedM b.Style w).Padding.a0 ≤ 1048576 := by rw [u2]; simp only [edgesM]; have := lenM_bd b.Style.Padding.a0 (limM w); omega
  have hp2 : 0 ≤ (usedM b.Style w).Padding.a2 ∧ (usedM b.Style w).Padding.a2 ≤ 1048576 := by rw [u2]; simp only [edgesM]; have := lenM_bd b.Style.Padding.a2 (limM w); omega
  have e0 : (w64 ((usedM b.Style w).Border.a0 + (usedM b.Style w).Padding.a0) == 0) = ((usedM b.Style w).Border.a0 == 0 && (usedM b.Style w).Padding.a0 == 0) := by
    rw [w64_id (by omega) (by omega)]; apply Bool.eq_iff_iff.2; simp only [Bool.and_eq_true, beq_iff_eq]; omega
  have e2 : (w64 ((usedM b.Style w).Border.a2 + (usedM b.Style w).Padding.a2) == 0) = ((usedM b.Style w).Border.a2 == 0 && (usedM b.Style w).Padding.a2 == 0) := by
    rw [w64_id (by omega) (by omega)]; apply Bool.eq_iff_iff.2; simp only [Bool.and_eq_true, beq_iff_eq]; omega
  unfold aboveM belowM
  rw [e0, e2]
  cases ho : b.Style.Overflow == 0 <;> cases q0 : (usedM b.Style w).Border.a0 == 0 <;> cases q2 : (usedM b.Style w).Border.a2 == 0 <;> cases q3 : (usedM b.Style w).Padding.a2 == 0 <;> simp only [Bool.true_and, Bool.false_and, Bool.and_true, Bool.and_false, Bool.false_eq_true, if_true, if_false] <;> (generalize g_block_layout _ _ _ _ _ _ _ = x; cases x <;> rfl)
end Go.Proofs.Ytkciiamllegclaa

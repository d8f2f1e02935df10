/- Layer 17, plain: a block, and the same block with its kids in two plain blocks. No program in sight. -/
import Derived.Test.YtkciiamllegclaaSrQWrapC
namespace Go.Proofs.Ytkciiamllegclaa
set_option linter.all false
open Go.RowKit
theorem linesM_h (s : TCascadeStyle) (w : Int) (h0 : 0 ≤ s.LineHeight) (h1 : s.LineHeight ≤ 65536) : ∀ (L : List TBoxtreeBox) (y : Int) (acc : List TBlockFragment), 0 ≤ y → y + 65536 * L.length ≤ 1099511627776 → 0 ≤ (linesM s w L y acc).2 ∧ (linesM s w L y acc).2 ≤ y + 65536 * L.length
  | [], y, acc, hy, _ => by simp [linesM, hy]
  | k :: r, y, acc, hy, hb => by
    simp only [List.length_cons] at hb
    unfold linesM
    split
    · have := linesM_h s w h0 h1 r y acc hy (by omega)
      simp only [List.length_cons]; omega
    · rw [w64_id (by omega) (by omega)]
      refine ⟨(linesM_h s w h0 h1 r (y + s.LineHeight) _ (by omega) (by omega)).1, Int.le_trans (linesM_h s w h0 h1 r (y + s.LineHeight) _ (by omega) (by omega)).2 ?_⟩
      simp only [List.length_cons]; omega
theorem le_sum {α : Type} (g : α → Nat) : ∀ {l : List α} {x : α}, x ∈ l → g x ≤ (l.map g).sum
  | y :: r, x, h => by
    simp only [List.map_cons, List.sum_cons]
    rcases List.mem_cons.1 h with rfl | h
    · omega
    · have := le_sum g h; omega
theorem filter_sum {α : Type} (g : α → Nat) (p : α → Bool) : ∀ (l : List α), ((l.filter p).map g).sum ≤ (l.map g).sum
  | [] => by simp
  | y :: r => by
    have := filter_sum g p r
    simp only [List.filter_cons]
    split <;> simp only [List.map_cons, List.sum_cons] <;> omega
theorem sumH_le (d : Nat) (F : TBoxtreeBox → TBlockFragment) : ∀ (l : List TBoxtreeBox), (∀ k ∈ l, (F k).H + 1048576 ≤ 33554432 * (Sz d k : Int)) → sumH (l.map F) ≤ 33554432 * ((l.map (Sz d)).sum : Int)
  | [], _ => by simp [sumH]
  | k :: r, h => by
    have h1 := h k (List.mem_cons_self ..)
    have h2 := sumH_le d F r fun k hk => h k (List.mem_cons_of_mem _ hk)
    simp only [List.map_cons, sumH, List.sum_cons]
    omega
theorem bS_NM {c : Int} {s : SS} (h : SI c s) : NM (bS s) := by unfold bS; split; exact h.m; exact h.b
def PF (d : Nat) (c : Int) (k : TBoxtreeBox) (f : TBlockFragment) : Prop := (∀ N, d + 25 ≤ N → g_block_Layout (KN N) N k c E0 = some f) ∧ FI f ∧ f.H + 1048576 ≤ 33554432 * (Sz d k : Int)
theorem lay_step {d N : Nat} {c : Int} {k : TBoxtreeBox} {f : TBlockFragment} (h : PF d c k f) (hN : d + 25 ≤ N) : (KN (N + 1)).d_TBoxtreeBox_Int__TBlockFragment 58 k c = some f := by
  show g_law17_lay (KN N) N k c = some f
  unfold g_law17_lay g_law17_Env
  simp only [Option.bind_some]
  rw [show (⟨58, 59, 60, 61⟩ : TBlockEnv) = E0 from rfl, h.1 N hN]; rfl
theorem lay_FI : ∀ (d : Nat) (b : TBoxtreeBox) (w : Int), GoodB d b → NB d b → Sz d b ≤ 20 → ∃ f, PF d w b f
  | 0, _, _, h, _, _ => h.elim
  | d + 1, b, w, hg, hn, hs => by
    have hs' : 1 + (b.Kids.map (Sz d)).sum ≤ 20 := hs
    have hSz : Sz (d + 1) b = 1 + (b.Kids.map (Sz d)).sum := rfl
    obtain ⟨hlen, hg2⟩ := hg
    rcases hg2 with hk | hk
    · have ih : ∀ k, ∃ f, k ∈ b.Kids → PF d (usedM b.Style w).Content k f := fun k => by
        by_cases hm : k ∈ b.Kids
        · have := le_sum (Sz d) hm
          obtain ⟨f, hf⟩ := lay_FI d k (usedM b.Style w).Content (hk k hm).2 (hn.2 k hm (hk k hm).1) (by omega)
          exact ⟨f, fun _ => hf⟩
        · exact ⟨default, fun h => absurd h hm⟩
      obtain ⟨F, hF⟩ := Classical.skolem.1 ih
      have hsub : ∀ k ∈ flowM b, k ∈ b.Kids := fun k hk => (List.mem_filter.1 hk).1
      have hFI : ∀ f ∈ (flowM b).map F, FI f := fun f hf => by
        obtain ⟨k, hk, rfl⟩ := List.mem_map.1 hf
        exact (hF k (hsub k hk)).2.1
      have hsum := sumH_le d F (flowM b) fun k hk => (hF k (hsub k hk)).2.2
      have hfs := filter_sum (Sz d) inM b.Kids
      have hfs' : ((flowM b).map (Sz d)).sum ≤ (b.Kids.map (Sz d)).sum := hfs
      have hSI := SI_s0.fold hFI (by omega) (by omega)
      have hfin := FI_fin b w true (plS s0 ((flowM b).map F)) (foldS s0 ((flowM b).map F)).t (foldS s0 ((flowM b).map F)).h (bS (foldS s0 ((flowM b).map F))) (foldS s0 ((flowM b).map F)).m hn.1 hSI.h0 (by have := hSI.hc; omega) (bS_NM hSI) hSI.m
      refine ⟨layF b (usedM b.Style w) (aboveM b (usedM b.Style w) true) (belowM b (usedM b.Style w) true) ((flowM b).map F), fun N hN => ?_, hfin.1, ?_⟩
      · match N, hN with
        | N + 1, hN =>
          rw [blayout_unf, lay_blocks N (by omega) b _ hlen (fun k h => (hk k h).1) _ _ F (fun k h => lay_step (hF k (hsub k h)) (by omega))]
      · have h2 := hfin.2
        have h3 := hSI.hc
        rw [hSz]
        show (finM b _ true _ _ _ _ _ _).H + 1048576 ≤ _
        omega
    · have hO : (flowM b).any outerM = false := by
        apply Bool.eq_false_iff.2
        intro h
        obtain ⟨k, h1, h2⟩ := List.any_eq_true.1 h
        have := hk k (List.mem_filter.1 h1).1
        simp [outerM, this] at h2
      have hfl : (flowM b).length ≤ 20 := Nat.le_trans flowM_len hlen
      obtain ⟨l1, l2⟩ := linesM_ok b.Style (usedM b.Style w).Content (flowM b) 0 [] (by simp)
      simp only [List.length_nil, Nat.zero_add] at l1
      have hh := linesM_h b.Style (usedM b.Style w).Content hn.1.2.2.2.2.1 hn.1.2.2.2.2.2 (flowM b) 0 [] (by omega) (by omega)
      have hfin := FI_fin b w false (linesM b.Style (usedM b.Style w).Content (flowM b) 0 []).1 (((linesM b.Style (usedM b.Style w).Content (flowM b) 0 []).1.length : Int) == 0) (linesM b.Style (usedM b.Style w).Content (flowM b) 0 []).2 zTBlockMargin zTBlockMargin hn.1 hh.1 (by omega) NM_z NM_z
      refine ⟨_, fun N hN => ?_, hfin.1, ?_⟩
      · match N, hN with
        | N + 1, hN =>
          rw [blayout_unf]
          unfold g_block_layout
          rw [bflow_def _ _ (fun x => outer_def (KN N) N x) b hlen (by omega), hO]
          simp only [Option.bind_some, Bool.false_eq_true, if_false, E0]
          rw [show (KN (N + 1)).d_ListTBoxtreeBox_TCascadeStyle_Int__ListTBlockFragmentInt 60 (flowM b) b.Style (usedM b.Style w).Content = some (linesM b.Style (usedM b.Style w).Content (flowM b) 0 []) from lines_def (KN N) N (flowM b) b.Style _ hfl (by omega)]
          simp only [Option.bind_some]
          rw [clone_def _ _ _ (by omega)]
          simp only [Option.bind_some]
          rw [j2_def _ _ (by omega) b _ _ (by omega) (flowM b, false) (fun h => by cases h)]
      · have h2 := hfin.2
        rw [hSz]
        omega
/-! ### The content's width -/
theorem used_content (s : TCascadeStyle) (w : Int) (hn : Nice s) : 0 ≤ (usedM s w).Content ∧ (usedM s w).Content ≤ 1048576 := by
  have key : ∀ x, x ≤ 1048576 → 0 ≤ clampM s (limM w) x ∧ clampM s (limM w) x ≤ 1048576 := fun x hx => by
    unfold clampM
    have := lenM_bd s.MinWidth (limM w)
    have := lenM_bd s.MaxWidth (limM w)
    simp only []
    split <;> split <;> omega
  have hx : (if (lenM s.Width (limM w)).2 = true then (lenM s.Width (limM w)).1 else w64 (limM w - sumM (edgesM s (limM w) 0))) ≤ 1048576 := by
    split
    · exact (lenM_bd _ _).2
    · have m1 := lenM_nn hn.2.1 (limM w); have m1' := lenM_bd s.Margin.a1 (limM w)
      have m3 := lenM_nn hn.2.2.2.1 (limM w); have m3' := lenM_bd s.Margin.a3 (limM w)
      have p1 := lenM_bd s.Padding.a1 (limM w); have p3 := lenM_bd s.Padding.a3 (limM w)
      have l0 : 0 ≤ limM w ∧ limM w ≤ 1048576 := by unfold limM; omega
      have b1 : 0 ≤ limM s.Border.a1 ∧ limM s.Border.a1 ≤ 1048576 := by unfold limM; omega
      have b3 : 0 ≤ limM s.Border.a3 ∧ limM s.Border.a3 ≤ 1048576 := by unfold limM; omega
      unfold sumM edgesM
      simp only [w64_addl, Int.zero_add]
      rw [w64_id (n := (lenM s.Margin.a1 (limM w)).1 + (lenM s.Margin.a3 (limM w)).1 + limM s.Border.a1 + limM s.Border.a3 + max (lenM s.Padding.a1 (limM w)).1 0 + max (lenM s.Padding.a3 (limM w)).1 0) (by omega) (by omega), w64_id (by omega) (by omega)]
      omega
  have hk := key _ hx
  have e : ∀ (v : Int) (z : TBlockSizes) (c : Int), (used1 s v z c).Content = c := fun v z c => by
    unfold used1; simp only []
    repeat (first | rfl | split)
  unfold usedM
  simp only [e]
  exact hk
def zw (W : Int) : TBlockSizes := ⟨⟨0, 0, 0, 0⟩, ⟨0, 0, 0, 0⟩, ⟨0, 0, 0, 0⟩, W⟩
def wb (A : List TBoxtreeBox) : TBoxtreeBox := { zTBoxtreeBox with Kind := 1, Kids := A }
theorem used_wb (A : List TBoxtreeBox) (W : Int) (h0 : 0 ≤ W) (h1 : W ≤ 1048576) : usedM (wb A).Style W = zw W := by
  have hl : limM W = W := by unfold limM; omega
  have he : edgesM (wb A).Style W 0 = zw 0 := rfl
  have hs : sumM (zw 0) = 0 := rfl
  have hsW : sumM { zw 0 with Content := W } = W := by
    show w64 (w64 (w64 (w64 (w64 (w64 (W + 0) + 0) + 0) + 0) + 0) + 0) = W
    simp only [Int.add_zero, w64_w64]
    exact w64_id (by omega) (by omega)
  have hlw : lenM (wb A).Style.Width W = (0, false) := rfl
  have hc : clampM (wb A).Style W W = W := by
    have e1 : lenM (wb A).Style.MaxWidth W = (0, false) := rfl
    have e2 : lenM (wb A).Style.MinWidth W = (0, false) := rfl
    unfold clampM
    simp only [e1, e2, Bool.false_eq_true, if_false]
    omega
  unfold usedM
  simp only [hl, he, hs, hlw, Bool.false_eq_true, if_false, Int.sub_zero]
  rw [w64_id (n := W) (by omega) (by omega), hc]
  unfold used1
  simp only [hsW, Int.sub_self, w64_z]
  rfl
theorem above_wb (A : List TBoxtreeBox) (W : Int) : aboveM (wb A) (zw W) true = true ∧ belowM (wb A) (zw W) true = true := ⟨rfl, rfl⟩
theorem of0 : ofM 0 = zTBlockMargin := rfl
theorem wr_lay (A : List TBoxtreeBox) (W : Int) (L : List TBlockFragment) {c : Int} (h : SI c (foldS s0 L)) (hc : c ≤ 1152921504606846976) : Wr (layF (wb A) (zw W) true true L) (foldS s0 L) := by
  have hb := bS_NM h
  have hbef : befR true true (foldS s0 L).t (bS (foldS s0 L)) (zw W) = bS (foldS s0 L) := by
    unfold befR
    simp only [if_true, Bool.and_true, zw, of0, z_col hb]
    split
    · exact col_z hb
    · rfl
  have hm : hM (wb A).Style (htR true true (foldS s0 L).t (foldS s0 L).h (bS (foldS s0 L)) (foldS s0 L).m) = (foldS s0 L).h := by
    have e : htR true true (foldS s0 L).t (foldS s0 L).h (bS (foldS s0 L)) (foldS s0 L).m = (foldS s0 L).h := by
      unfold htR dR
      simp only [if_true, Bool.and_true]
      have h0 := h.h0; have h1 := h.hc
      cases ht : (foldS s0 L).t
      · simp only [Bool.false_eq_true, if_false, Int.add_zero]; exact w64_id (by omega) (by omega)
      · simp only [if_true]; exact (h.t ht).1.symm
    rw [e]
    unfold hM
    rw [if_neg (show ¬ (wb A).Style.Height.Kind = 1 from fun h => by cases h)]
    have := h.h0; omega
  refine ⟨?_, ?_, ?_, ?_⟩
  · show ((foldS s0 L).t && true && true) = _; simp
  · exact hbef
  · show aftR true true (foldS s0 L).t (bS (foldS s0 L)) (foldS s0 L).m (zw W) = _
    unfold aftR
    rw [hbef]
    simp only [Bool.and_true, if_true, zw, of0]
    cases ht : (foldS s0 L).t
    · simp only [Bool.false_eq_true, if_false]; exact z_col h.m
    · simp [bS, ht]
  · show w64 (w64 (w64 (w64 (hM (wb A).Style _ + 0) + 0) + 0) + 0) = _
    rw [hm]
    simp only [Int.add_zero, w64_w64]
    have h0 := h.h0; have h1 := h.hc
    exact w64_id (by omega) (by omega)
/-! ### Kids and their places -/
theorem movM_Y (f : TBlockFragment) (w : Int) : (movM f w).Y = if f.Style.Position = 1 ∧ f.Style.Top.Kind = 1 then w64 (f.Y + (lenM f.Style.Top 0).1) else f.Y := by
  unfold movM
  by_cases h : f.Style.Position = 1 <;> by_cases h2 : f.Style.Top.Kind = 1 <;> simp [h, h2]
theorem movM_X (f : TBlockFragment) (w : Int) : (movM f w).X = if f.Style.Position = 1 then w64 (f.X + (lenM f.Style.Left w).1) else f.X := by
  unfold movM
  by_cases h : f.Style.Position = 1 <;> simp [h]
theorem movM_H (f : TBlockFragment) (w : Int) : (movM f w).H = f.H := by unfold movM; split <;> rfl
theorem kidM_H (bl : Bool) (z : TBlockSizes) (d : Int) (f : TBlockFragment) : (kidM bl z d f).H = f.H := by
  unfold kidM; split
  · rw [movM_H]
  · rfl
theorem kid_Y (x : TBlockFragment) (z : TBlockSizes) (dd e y' : Int) (hy : w64 y' = w64 (e + x.Y)) : w64 ((kidM true (zw z.Content) 0 x).Y + w64 (e + w64 (w64 (z.Border.a0 + z.Padding.a0) + dd))) = (kidM true z dd { x with Y := y' }).Y := by
  unfold kidM
  simp only [if_true, movM_Y, zw]
  generalize w64 (w64 (z.Border.a0 + z.Padding.a0) + dd) = p
  have h0 : w64 (w64 ((0 : Int) + 0) + 0) = 0 := rfl
  rw [h0, Int.add_zero]
  have h1 := w64_mod y'; rw [hy] at h1
  have h2 := w64_mod (e + x.Y)
  split
  · apply w64_eq
    have := w64_mod (w64 x.Y + (lenM x.Style.Top 0).1); have := w64_mod x.Y; have := w64_mod (e + p); have := w64_mod (y' + p)
    omega
  · apply w64_eq
    have := w64_mod x.Y; have := w64_mod (e + p)
    omega
theorem kid_X (x : TBlockFragment) (z : TBlockSizes) (dd y' : Int) : w64 ((kidM true (zw z.Content) 0 x).X + w64 (0 + w64 (z.Border.a3 + z.Padding.a3))) = (kidM true z dd { x with Y := y' }).X := by
  unfold kidM
  simp only [if_true, movM_X, zw]
  generalize w64 (z.Border.a3 + z.Padding.a3) = p
  have h0 : w64 ((0 : Int) + 0) = 0 := rfl
  rw [h0, Int.add_zero]
  split
  · apply w64_eq
    have := w64_mod (w64 x.X + (lenM x.Style.Left z.Content).1); have := w64_mod x.X; have := w64_mod (0 + p); have := w64_mod (x.X + p)
    omega
  · apply w64_eq
    have := w64_mod x.X; have := w64_mod (0 + p)
    omega
theorem plS_getD : ∀ (L : List TBlockFragment) (s : SS) (j : Nat), j < L.length → (plS s L).getD j default = { L.getD j default with Y := ((plS s L).getD j default).Y }
  | f :: r, s, 0, _ => by simp only [plS, List.getD_cons_zero]
  | f :: r, s, j + 1, h => by
    simp only [plS, List.getD_cons_succ]
    exact plS_getD r (stepS s f) j (by simpa using h)
theorem getD_map' {α β : Type} [Inhabited α] [Inhabited β] (g : α → β) (L : List α) {j : Nat} (h : j < L.length) : (L.map g).getD j default = g (L.getD j default) := by
  rw [getD_get (by simpa using h), getD_get h, List.getElem_map]
theorem getD_appl {α : Type} [Inhabited α] (A B : List α) {j : Nat} (h : j < A.length) : (A ++ B).getD j default = A.getD j default := by
  rw [getD_get (by simp; omega), getD_get h, List.getElem_append_left h]
theorem getD_appr {α : Type} [Inhabited α] (A B : List α) {j : Nat} (h : A.length ≤ j) (h2 : j < A.length + B.length) : (A ++ B).getD j default = B.getD (j - A.length) default := by
  rw [getD_get (by simp; omega), getD_get (by omega), List.getElem_append_right h]
end Go.Proofs.Ytkciiamllegclaa

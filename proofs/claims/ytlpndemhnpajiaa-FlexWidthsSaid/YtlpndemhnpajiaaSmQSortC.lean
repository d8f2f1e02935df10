/- Stable sort as the library does it: the merge of two sorted parts, and the whole. No program in sight. -/
import Derived.Test.YtlpndemhnpajiaaSmQSortB
namespace Go.Proofs.Ytlpndemhnpajiaa.QSort
set_option linter.all false
open Go.RowKit
variable {K : Kn} {n : Nat} {f : Fv} {D : Int → Prop} {key : Int → Int}
structure Mg (key : Int → Int) (D : Int → Prop) (A B : List Int) : Prop where
  l : A.Pairwise (R key)
  r : B.Pairwise (R key)
  lt : ∀ x ∈ A, ∀ y ∈ B, x < y
  d : ∀ x ∈ A ++ B, D x
def Merges (key : Int → Int) (D : Int → Prop) (N : Nat) (g : List Int → Int → Int → Int → Option (List Int)) : Prop :=
  ∀ P A B Q : List Int, 0 < A.length → 0 < B.length → A.length + B.length < N → (P ++ A ++ B).length ≤ 10000 → Mg key D A B →
    ∃ C, C.Perm (A ++ B) ∧ C.Pairwise (R key) ∧ g (P ++ A ++ B ++ Q) ((P.length : Nat) : Int) ((P.length + A.length : Nat) : Int) ((P.length + A.length + B.length : Nat) : Int) = some (P ++ C ++ Q)
theorem part (g : List Int → Int → Int → Int → Option (List Int)) {N : Nat} (hg : Merges key D N g) (P A B Q : List Int) (hN : A.length + B.length < N) (hl : (P ++ A ++ B).length ≤ 10000) (h : Mg key D A B) :
    ∃ C, C.Perm (A ++ B) ∧ C.Pairwise (R key) ∧ ∀ (k : List Int → Option (List Int)), (if 0 < A.length ∧ 0 < B.length then (g (P ++ A ++ B ++ Q) ((P.length : Nat) : Int) ((P.length + A.length : Nat) : Int) ((P.length + A.length + B.length : Nat) : Int)).bind k else k (P ++ A ++ B ++ Q)) = k (P ++ C ++ Q) := by
  by_cases hc : 0 < A.length ∧ 0 < B.length
  · obtain ⟨C, h1, h2, h3⟩ := hg P A B Q hc.1 hc.2 hN hl h
    exact ⟨C, h1, h2, fun k => by rw [if_pos hc, h3]; rfl⟩
  · refine ⟨A ++ B, .refl _, ?_, fun k => by rw [if_neg hc]; simp⟩
    rcases A with _ | ⟨x, A⟩
    · simpa using h.r
    · rcases B with _ | ⟨y, B⟩
      · simpa using h.l
      · simp at hc
theorem tail_ok {N : Nat} (hn : 10001 < n) (P A1 A2 B1 B2 Q : List Int) (hg : Merges key D N (fun L a m b => K.k_g_slices_symMergeCmpFunc_int L a m b f)) (h : Mg key D (A1 ++ A2) (B1 ++ B2)) (hl : (P ++ A1 ++ A2 ++ B1 ++ B2).length ≤ 10000)
    (hN1 : A1.length + B1.length < N) (hN2 : A2.length + B2.length < N) (c1 : ∀ x ∈ A1, ∀ y ∈ B2, R key x y) (c2 : ∀ x ∈ B1, ∀ y ∈ A2, R key x y) {v2 v3 v4 v30 v31 v39 : Int} (e2 : v2 = ((P.length : Nat) : Int)) (e3 : v3 = ((P.length + A1.length + A2.length : Nat) : Int)) (e4 : v4 = ((P.length + A1.length + A2.length + B1.length + B2.length : Nat) : Int))
    (e30 : v30 = ((P.length + A1.length + B1.length : Nat) : Int)) (e31 : v31 = ((P.length + A1.length + B1.length + (P.length + A1.length + A2.length) : Nat) : Int)) (e39 : v39 = ((P.length + A1.length : Nat) : Int)) :
    ∃ C, C.Perm (A1 ++ A2 ++ (B1 ++ B2)) ∧ C.Pairwise (R key) ∧ (if (decide (v39 < v3)) = true then
      g_slices_symMergeCmpFunc_int_j10 K n (P ++ A1 ++ A2 ++ B1 ++ B2 ++ Q) v2 v3 v4 f v30 v31 v39 (decide (v3 < (w64 (v31 - v39))))
    else
      g_slices_symMergeCmpFunc_int_j10 K n (P ++ A1 ++ A2 ++ B1 ++ B2 ++ Q) v2 v3 v4 f v30 v31 v39 false) = some (P ++ C ++ Q) := by
  simp only [List.length_append] at hl
  have e5 : w64 (v31 - v39) = ((P.length + A1.length + A2.length + B1.length : Nat) : Int) := by rw [e31, e39]; exact wn (by omega) (by omega)
  have hpl := List.pairwise_append.1 h.l
  have hpr := List.pairwise_append.1 h.r
  -- the parts change places
  have rot : (if (decide (v39 < v3)) = true then
      g_slices_symMergeCmpFunc_int_j10 K n (P ++ A1 ++ A2 ++ B1 ++ B2 ++ Q) v2 v3 v4 f v30 v31 v39 (decide (v3 < (w64 (v31 - v39))))
    else
      g_slices_symMergeCmpFunc_int_j10 K n (P ++ A1 ++ A2 ++ B1 ++ B2 ++ Q) v2 v3 v4 f v30 v31 v39 false) = g_slices_symMergeCmpFunc_int_j11 K n v2 v4 f v30 v31 v39 (P ++ A1 ++ B1 ++ A2 ++ B2 ++ Q) := by
    rw [e5]
    have both : ∀ b : Bool, (b = true ↔ 0 < A2.length ∧ 0 < B1.length) → g_slices_symMergeCmpFunc_int_j10 K n (P ++ A1 ++ A2 ++ B1 ++ B2 ++ Q) v2 v3 v4 f v30 v31 v39 b = g_slices_symMergeCmpFunc_int_j11 K n v2 v4 f v30 v31 v39 (P ++ A1 ++ B1 ++ A2 ++ B2 ++ Q) := by
      intro b hb
      unfold g_slices_symMergeCmpFunc_int_j10
      by_cases hc : b = true
      · rw [if_pos hc, e5]
        have hc2 := hb.1 hc
        have := rot_ok (K := K) (n := n) (f := f) (P ++ A1) A2 B1 (B2 ++ Q) hn hc2.1 hc2.2 (by simp; omega)
        rw [show P ++ A1 ++ A2 ++ B1 ++ B2 ++ Q = P ++ A1 ++ A2 ++ B1 ++ (B2 ++ Q) by simp, e39, e3]
        rw [show ((P ++ A1).length : Nat) = P.length + A1.length by simp] at this
        rw [this, sb]
        congr 1; simp
      · rw [if_neg hc]
        have hc2 : ¬ (0 < A2.length ∧ 0 < B1.length) := fun hh => hc (hb.2 hh)
        congr 1
        rcases A2 with _ | ⟨x, A2⟩
        · simp
        · rcases B1 with _ | ⟨y, B1⟩
          · simp
          · simp at hc2
    by_cases hc : v39 < v3
    · rw [iteT hc]
      exact both _ (by rw [decide_eq_true_eq]; omega)
    · rw [iteF hc]
      exact both _ (by simp; omega)
  rw [rot]
  -- the first half
  have m1 : Mg key D A1 B1 := ⟨hpl.1, hpr.1, fun x hx y hy => h.lt x (by simp [hx]) y (by simp [hy]), fun x hx => h.d x (by rcases List.mem_append.1 hx with q | q <;> simp [q])⟩
  have m2 : Mg key D A2 B2 := ⟨hpl.2.1, hpr.2.1, fun x hx y hy => h.lt x (by simp [hx]) y (by simp [hy]), fun x hx => h.d x (by rcases List.mem_append.1 hx with q | q <;> simp [q])⟩
  obtain ⟨C1, p1, s1, r1⟩ := part _ hg P A1 B1 (A2 ++ B2 ++ Q) hN1 (by simp; omega) m1
  have l1 : C1.length = A1.length + B1.length := by rw [p1.length_eq]; simp
  obtain ⟨C2, p2, s2, r2⟩ := part _ hg (P ++ C1) A2 B2 Q hN2 (by simp; omega) m2
  refine ⟨C1 ++ C2, ?_, ?_, ?_⟩
  · refine (p1.append p2).trans ?_
    simp only [List.append_assoc]
    refine List.Perm.append_left A1 ?_
    rw [← List.append_assoc, ← List.append_assoc]
    exact List.perm_append_comm.append_right B2
  · rw [List.pairwise_append]
    refine ⟨s1, s2, fun x hx y hy => ?_⟩
    have hx := (p1.mem_iff).1 hx
    have hy := (p2.mem_iff).1 hy
    rcases List.mem_append.1 hx with hx | hx
    · rcases List.mem_append.1 hy with hy | hy
      · exact hpl.2.2 x hx y hy
      · exact c1 x hx y hy
    · rcases List.mem_append.1 hy with hy | hy
      · exact c2 x hx y hy
      · exact hpr.2.2 x hx y hy
  · -- the calls
    have j13 : g_slices_symMergeCmpFunc_int_j13 K n v4 f v30 v31 v39 (P ++ C1 ++ A2 ++ B2 ++ Q) = some (P ++ C1 ++ C2 ++ Q) := by
      have := r2 (fun L => some L)
      rw [← this]
      unfold g_slices_symMergeCmpFunc_int_j13
      rw [e5, e30, e4]
      have k1 : (P ++ C1).length = P.length + A1.length + B1.length := by simp [l1]; omega
      rw [k1]
      have both : ∀ b : Bool, (b = true ↔ 0 < A2.length ∧ 0 < B2.length) → g_slices_symMergeCmpFunc_int_j14 K n ((P.length + A1.length + A2.length + B1.length + B2.length : Nat) : Int) f ((P.length + A1.length + B1.length : Nat) : Int) v31 v39 (P ++ C1 ++ A2 ++ B2 ++ Q) b = if 0 < A2.length ∧ 0 < B2.length then
          (K.k_g_slices_symMergeCmpFunc_int (P ++ C1 ++ A2 ++ B2 ++ Q) ((P.length + A1.length + B1.length : Nat) : Int) ((P.length + A1.length + B1.length + A2.length : Nat) : Int) ((P.length + A1.length + B1.length + A2.length + B2.length : Nat) : Int) f).bind (fun L => some L) else some (P ++ C1 ++ A2 ++ B2 ++ Q) := by
        intro b hb
        unfold g_slices_symMergeCmpFunc_int_j14
        by_cases hc : b = true
        · rw [if_pos hc, if_pos (hb.1 hc), e5]
          simp only [g_slices_symMergeCmpFunc_int_j15]
          rw [show P.length + A1.length + B1.length + A2.length = P.length + A1.length + A2.length + B1.length by omega]
        · rw [if_neg hc, if_neg (fun hh => hc (hb.2 hh))]; rfl
      by_cases hc : ((P.length + A1.length + B1.length : Nat) : Int) < ((P.length + A1.length + A2.length + B1.length : Nat) : Int)
      · rw [iteT hc]; exact both _ (by rw [decide_eq_true_eq]; omega)
      · rw [iteF hc]; exact both _ (by simp; omega)
    have := r1 (fun L => g_slices_symMergeCmpFunc_int_j13 K n v4 f v30 v31 v39 L)
    rw [show P ++ C1 ++ (A2 ++ B2 ++ Q) = P ++ C1 ++ A2 ++ B2 ++ Q by simp, j13] at this
    rw [show P ++ (C1 ++ C2) ++ Q = P ++ C1 ++ C2 ++ Q by simp, ← this]
    unfold g_slices_symMergeCmpFunc_int_j11
    rw [e2, e39, e30]
    rw [show P ++ A1 ++ B1 ++ (A2 ++ B2 ++ Q) = P ++ A1 ++ B1 ++ A2 ++ B2 ++ Q by simp]
    have both : ∀ b : Bool, (b = true ↔ 0 < A1.length ∧ 0 < B1.length) → g_slices_symMergeCmpFunc_int_j12 K n ((P.length : Nat) : Int) v4 f ((P.length + A1.length + B1.length : Nat) : Int) v31 ((P.length + A1.length : Nat) : Int) (P ++ A1 ++ B1 ++ A2 ++ B2 ++ Q) b = if 0 < A1.length ∧ 0 < B1.length then
          (K.k_g_slices_symMergeCmpFunc_int (P ++ A1 ++ B1 ++ A2 ++ B2 ++ Q) ((P.length : Nat) : Int) ((P.length + A1.length : Nat) : Int) ((P.length + A1.length + B1.length : Nat) : Int) f).bind (fun L => g_slices_symMergeCmpFunc_int_j13 K n v4 f ((P.length + A1.length + B1.length : Nat) : Int) v31 ((P.length + A1.length : Nat) : Int) L) else g_slices_symMergeCmpFunc_int_j13 K n v4 f ((P.length + A1.length + B1.length : Nat) : Int) v31 ((P.length + A1.length : Nat) : Int) (P ++ A1 ++ B1 ++ A2 ++ B2 ++ Q) := by
      intro b hb
      unfold g_slices_symMergeCmpFunc_int_j12
      by_cases hc : b = true
      · rw [if_pos hc, if_pos (hb.1 hc)]
      · rw [if_neg hc, if_neg (fun hh => hc (hb.2 hh))]
    by_cases hc : ((P.length : Nat) : Int) < ((P.length + A1.length : Nat) : Int)
    · rw [iteT hc]; exact both _ (by rw [decide_eq_true_eq]; omega)
    · rw [iteF hc]; exact both _ (by simp; omega)
theorem seek (hC : Cmp K f D key) (P A B Q : List Int) (h : Nat) (hM : Mg key D A B) (hl : (P ++ A ++ B).length ≤ 10000) {v2 v4 v30 : Int} (hh : h < A.length + B.length) (lo hi : Nat) (hlo : h ≤ B.length + lo) (hhi : hi ≤ A.length) (hhi2 : hi ≤ h) : ∀ (m i j : Nat), j - i < m → lo ≤ i → i ≤ j → j ≤ hi →
    (∀ k, lo ≤ k → k < i → R key (at_ A k) (at_ B (h - 1 - k))) → (∀ k, j ≤ k → k < hi → R key (at_ B (h - 1 - k)) (at_ A k)) →
    ∃ s, lo ≤ s ∧ s ≤ hi ∧ (∀ k, lo ≤ k → k < s → R key (at_ A k) (at_ B (h - 1 - k))) ∧ (∀ k, s ≤ k → k < hi → R key (at_ B (h - 1 - k)) (at_ A k)) ∧
      g_slices_symMergeCmpFunc_int_l9 K n (P ++ A ++ B ++ Q) v2 ((P.length + A.length : Nat) : Int) v4 f v30 ((P.length + h + (P.length + A.length) : Nat) : Int) m ((P.length + i : Nat) : Int) ((P.length + j : Nat) : Int) =
      (if (decide (((P.length + s : Nat) : Int) < ((P.length + A.length : Nat) : Int))) = true then
        g_slices_symMergeCmpFunc_int_j10 K n (P ++ A ++ B ++ Q) v2 ((P.length + A.length : Nat) : Int) v4 f v30 ((P.length + h + (P.length + A.length) : Nat) : Int) ((P.length + s : Nat) : Int) (decide (((P.length + A.length : Nat) : Int) < (w64 (((P.length + h + (P.length + A.length) : Nat) : Int) - ((P.length + s : Nat) : Int)))))
      else
        g_slices_symMergeCmpFunc_int_j10 K n (P ++ A ++ B ++ Q) v2 ((P.length + A.length : Nat) : Int) v4 f v30 ((P.length + h + (P.length + A.length) : Nat) : Int) ((P.length + s : Nat) : Int) false) := by
  simp only [List.length_append] at hl
  intro m
  induction m with
  | zero => intro i j h; omega
  | succ m ih =>
    intro i j hm hli hij hj h1 h2
    simp only [g_slices_symMergeCmpFunc_int_l9, g_slices_symMergeCmpFunc_int_l9_b]
    by_cases he : i < j
    · rw [iteT (by omega), half (by omega), sb]
      obtain ⟨c, hc, e⟩ : ∃ c, (i ≤ c ∧ c < j) ∧ (P.length + i + (P.length + j)) / 2 = P.length + c := ⟨(P.length + i + (P.length + j)) / 2 - P.length, by omega, by omega⟩
      rw [e, wn (n := ((P.length + h + (P.length + A.length) : Nat) : Int) - 1) (k := P.length + h + (P.length + A.length) - 1) (by omega) (by omega),
        wn (n := ((P.length + h + (P.length + A.length) - 1 : Nat) : Int) - ((P.length + c : Nat) : Int)) (k := P.length + A.length + (h - 1 - c)) (by omega) (by omega)]
      have hlen : (P ++ A ++ B ++ Q).length = P.length + A.length + B.length + Q.length := by simp; omega
      rw [chk_inb (by omega), chk_inb (by omega)]
      simp only [Int.toNat_natCast]
      rw [at_app (P := P ++ A) (A := B) (k := h - 1 - c) (by omega) (by simp), show P ++ A ++ B ++ Q = P ++ A ++ (B ++ Q) by simp, at_app (P := P) (A := A) (k := c) (by omega) rfl, show P ++ A ++ (B ++ Q) = P ++ A ++ B ++ Q by simp]
      have ma := at_mem (A := A) (k := c) (by omega)
      have mb := at_mem (A := B) (k := h - 1 - c) (by omega)
      have hlt2 := hM.lt _ ma _ mb
      obtain ⟨r, hr, hlt⟩ := hC.ok (at_ B (h - 1 - c)) (at_ A c) (hM.d _ (by simp [mb])) (hM.d _ (by simp [ma]))
      rw [hr, sb]
      simp only [g_slices_symMergeCmpFunc_int_j8]
      have hR : r < 0 ↔ R key (at_ B (h - 1 - c)) (at_ A c) := hlt.trans (R.of_lt hlt2)
      by_cases hr0 : r < 0
      · rw [iteC hr0]
        refine ih i c (by omega) hli (by omega) (by omega) h1 (fun k hk hk2 => ?_)
        rcases Nat.lt_or_ge c k with hk3 | hk3
        · exact ((pw_at hM.r (i := h - 1 - k) (j := h - 1 - c) (by omega) (by omega)).trans (hR.1 hr0)).trans (pw_at hM.l hk3 (by omega))
        · obtain rfl : k = c := by omega
          exact hR.1 hr0
      · rw [iteB hr0, wn (n := ((P.length + c : Nat) : Int) + 1) (k := P.length + (c + 1)) (by omega) (by omega)]
        refine ih (c + 1) j (by omega) (by omega) (by omega) hj (fun k hk0 hk => ?_) h2
        have hxh : R key (at_ A c) (at_ B (h - 1 - c)) := R.not (by omega) (fun hh => hr0 (hR.2 hh))
        rcases Nat.lt_or_ge k c with hk2 | hk2
        · exact ((pw_at hM.l hk2 (by omega)).trans hxh).trans (pw_at hM.r (i := h - 1 - c) (j := h - 1 - k) (by omega) (by omega))
        · obtain rfl : k = c := by omega
          exact hxh
    · obtain rfl : i = j := by omega
      exact ⟨i, hli, hj, h1, h2, by rw [iteF (by omega)]⟩
theorem merge_one (hC : Cmp K f D key) {N : Nat} (hn : 10001 < n) (hg : Merges key D N (fun L a m b => K.k_g_slices_symMergeCmpFunc_int L a m b f)) : Merges key D (N + 1) (fun L a m b => g_slices_symMergeCmpFunc_int K n L a m b f) := by
  intro P A B Q hA hB hN hl hM
  have hl2 := hl
  simp only [List.length_append] at hl2
  simp only [g_slices_symMergeCmpFunc_int]
  rw [wn (n := ((P.length + A.length : Nat) : Int) - ((P.length : Nat) : Int)) (k := A.length) (by omega) (by omega)]
  by_cases h1 : A.length = 1
  · rw [if_pos (by simp; omega)]
    obtain ⟨x, rfl⟩ : ∃ x, A = [x] := by
      rcases A with _ | ⟨x, _ | ⟨y, A⟩⟩
      · simp at h1
      · exact ⟨x, rfl⟩
      · simp at h1
    simp only [List.length_cons, List.length_nil, Nat.zero_add] at *
    obtain ⟨t, t1, t2, t3, t4⟩ := one_left (n := n) hC P B Q x hM.r (hM.d x (by simp)) (fun y hy => ⟨hM.d y (by simp [hy]), hM.lt x (by simp) y hy⟩) (by omega) n 0 B.length (by omega) (by omega) (Nat.le_refl _) (fun k hk => by omega) (fun k hk hk2 => by omega)
    rw [show P.length + 1 + 0 = P.length + 1 from rfl] at t4
    rw [t4]
    have := go_right (K := K) (n := n) ((P.length + 1 + t : Nat) : Int) n P (B.take t) (B.drop t ++ Q) x (by simp; omega) (by simp; omega) (by simp; omega)
    rw [show P ++ x :: B.take t ++ (B.drop t ++ Q) = P ++ [x] ++ (B.take t ++ B.drop t) ++ Q by simp only [List.append_assoc, List.cons_append, List.nil_append], List.take_append_drop] at this
    refine ⟨B.take t ++ x :: B.drop t, ?_, put_in hM.r (fun k hk _ => t2 k hk) t3, by rw [this]; simp⟩
    refine List.perm_middle.trans (by simp)
  · rw [if_neg (by simp; omega)]
    rw [wn (n := ((P.length + A.length + B.length : Nat) : Int) - ((P.length + A.length : Nat) : Int)) (k := B.length) (by omega) (by omega)]
    by_cases h2 : B.length = 1
    · rw [if_pos (by simp; omega)]
      obtain ⟨x, rfl⟩ : ∃ x, B = [x] := by
        rcases B with _ | ⟨x, _ | ⟨y, B⟩⟩
        · simp at h2
        · exact ⟨x, rfl⟩
        · simp at h2
      obtain ⟨t, t1, t2, t3, t4⟩ := one_right (n := n) hC P A Q x hM.l (hM.d x (by simp)) (fun y hy => ⟨hM.d y (by simp [hy]), hM.lt y hy x (by simp)⟩) (by simp at hl2; omega) n 0 A.length (by simp at hl2; omega) (by omega) (Nat.le_refl _) (fun k hk => by omega) (fun k hk hk2 => by omega)
      rw [Nat.add_zero] at t4
      rw [show P ++ A ++ [x] ++ Q = P ++ A ++ x :: Q by simp, t4]
      have := go_left (K := K) (n := n) ((P.length + t : Nat) : Int) n (P ++ A.take t) (A.drop t) Q x (by simp at hl2 ⊢; omega) (by simp at hl2 ⊢; omega) (by simp; omega)
      rw [show P ++ A.take t ++ A.drop t ++ x :: Q = P ++ (A.take t ++ A.drop t) ++ x :: Q by simp only [List.append_assoc], List.take_append_drop, show (P ++ A.take t).length + (A.drop t).length = P.length + A.length by simp; omega] at this
      refine ⟨A.take t ++ x :: A.drop t, ?_, put_in hM.l (fun k hk _ => t2 k hk) t3, by rw [this]; simp⟩
      refine List.perm_middle.trans ?_
      rw [List.take_append_drop]; exact (List.perm_append_singleton x A).symm
    · rw [if_neg (by simp; omega), half (by omega), sb]
      obtain ⟨h, hh, e⟩ : ∃ h, (2 * h ≤ A.length + B.length ∧ A.length + B.length ≤ 2 * h + 1) ∧ (P.length + (P.length + A.length + B.length)) / 2 = P.length + h := ⟨(P.length + (P.length + A.length + B.length)) / 2 - P.length, by omega, by omega⟩
      rw [e, wn (n := ((P.length + h : Nat) : Int) + ((P.length + A.length : Nat) : Int)) (k := P.length + h + (P.length + A.length)) (by omega) (by omega), sb, sb]
      have key_ : ∀ lo hi : Nat, h ≤ B.length + lo → hi ≤ A.length → hi ≤ h → lo ≤ hi → (lo = 0 ∨ h = B.length + lo) → (hi = A.length ∨ hi = h) →
          ∃ C, C.Perm (A ++ B) ∧ C.Pairwise (R key) ∧ g_slices_symMergeCmpFunc_int_l9 K n (P ++ A ++ B ++ Q) ((P.length : Nat) : Int) ((P.length + A.length : Nat) : Int) ((P.length + A.length + B.length : Nat) : Int) f ((P.length + h : Nat) : Int) ((P.length + h + (P.length + A.length) : Nat) : Int) n ((P.length + lo : Nat) : Int) ((P.length + hi : Nat) : Int) = some (P ++ C ++ Q) := by
        intro lo hi k1 k2 k3 k4 k5 k6
        obtain ⟨s, s1, s2, s3, s4, s5⟩ := seek (n := n) hC P A B Q h hM hl (v2 := ((P.length : Nat) : Int)) (v4 := ((P.length + A.length + B.length : Nat) : Int)) (v30 := ((P.length + h : Nat) : Int)) (by omega) lo hi k1 k2 k3 n lo hi (by omega) (Nat.le_refl _) k4 (Nat.le_refl _) (fun k _ _ => by omega) (fun k _ _ => by omega)
        rw [s5]
        have eA : A.take s ++ A.drop s = A := List.take_append_drop s A
        have eB : B.take (h - s) ++ B.drop (h - s) = B := List.take_append_drop (h - s) B
        have la : (A.take s).length = s := by simp; omega
        have lb : (B.take (h - s)).length = h - s := by simp; omega
        have la2 : (A.drop s).length = A.length - s := by simp
        have lb2 : (B.drop (h - s)).length = B.length - (h - s) := by simp
        have eL : P ++ A ++ B ++ Q = P ++ A.take s ++ A.drop s ++ B.take (h - s) ++ B.drop (h - s) ++ Q := by
          conv => lhs; rw [← eA, ← eB]
          simp only [List.append_assoc]
        have := tail_ok (K := K) (n := n) (f := f) (N := N) hn P (A.take s) (A.drop s) (B.take (h - s)) (B.drop (h - s)) Q hg (by rw [eA, eB]; exact hM) (by simp only [List.length_append, la, lb, la2, lb2]; omega) (by omega) (by omega)
          (fun x hx y hy => by
            obtain ⟨i, i1, i2, rfl⟩ := mem_take_at hx
            obtain ⟨k, q1, q2, rfl⟩ := mem_drop_at hy
            have m1 := s3 (s - 1) (by omega) (by omega)
            rw [show h - 1 - (s - 1) = h - s by omega] at m1
            have m2 : R key (at_ A i) (at_ B (h - s)) := by
              rcases Nat.lt_or_ge i (s - 1) with q | q
              · exact (pw_at hM.l q (by omega)).trans m1
              · obtain rfl : i = s - 1 := by omega
                exact m1
            rcases Nat.lt_or_ge (h - s) k with q | q
            · exact m2.trans (pw_at hM.r q q2)
            · obtain rfl : k = h - s := by omega
              exact m2)
          (fun x hx y hy => by
            obtain ⟨k, q1, q2, rfl⟩ := mem_take_at hx
            obtain ⟨i, i1, i2, rfl⟩ := mem_drop_at hy
            have m1 := s4 s (Nat.le_refl _) (by omega)
            have m2 : R key (at_ B k) (at_ A s) := by
              rcases Nat.lt_or_ge k (h - 1 - s) with q | q
              · exact (pw_at hM.r q (by omega)).trans m1
              · obtain rfl : k = h - 1 - s := by omega
                exact m1
            rcases Nat.lt_or_ge s i with q | q
            · exact m2.trans (pw_at hM.l q i2)
            · obtain rfl : i = s := by omega
              exact m2)
          (v2 := ((P.length : Nat) : Int)) (v3 := ((P.length + A.length : Nat) : Int)) (v4 := ((P.length + A.length + B.length : Nat) : Int)) (v30 := ((P.length + h : Nat) : Int)) (v31 := ((P.length + h + (P.length + A.length) : Nat) : Int)) (v39 := ((P.length + s : Nat) : Int)) rfl (by omega) (by omega) (by omega) (by omega) (by omega)
        rw [eA, eB] at this
        rw [eL]
        exact this
      by_cases hc : h < A.length
      · rw [if_pos (by simp; omega)]
        simp only [g_slices_symMergeCmpFunc_int_j7]
        rw [wn (n := ((P.length + h + (P.length + A.length) : Nat) : Int) - ((P.length + A.length + B.length : Nat) : Int)) (k := P.length + (h - B.length)) (by omega) (by omega)]
        exact key_ (h - B.length) h (by omega) (by omega) (by omega) (by omega) (by omega) (by omega)
      · rw [if_neg (by simp; omega)]
        simp only [g_slices_symMergeCmpFunc_int_j7]
        exact key_ 0 A.length (by omega) (by omega) (by omega) (by omega) (by omega) (by omega)
end Go.Proofs.Ytlpndemhnpajiaa.QSort

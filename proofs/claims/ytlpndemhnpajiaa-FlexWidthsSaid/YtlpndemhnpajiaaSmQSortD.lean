/- Stable sort as the library does it: increasing numbers are sorted by a key, equal ones as they are. No program in sight. -/
import Derived.Test.YtlpndemhnpajiaaSmQSortC
namespace Go.Proofs.Ytlpndemhnpajiaa.QSort
set_option linter.all false
open Go.RowKit
variable {K : Kn} {n : Nat} {f : Fv} {D : Int → Prop} {key : Int → Int}
theorem merges {c0 : Nat} (hC : ∀ m, c0 ≤ m → Cmp (KN m) f D key) : ∀ (N lvl n : Nat), 10001 < n → c0 + N + 10002 ≤ lvl → Merges key D N (fun L a m b => g_slices_symMergeCmpFunc_int (KN lvl) n L a m b f) := by
  intro N
  induction N with
  | zero => intro lvl n h1 h2 P A B Q hA hB hN; omega
  | succ N ih =>
    intro lvl n h1 h2
    obtain ⟨l, rfl⟩ : ∃ l, lvl = l + 1 := ⟨lvl - 1, by omega⟩
    exact merge_one (hC _ (by omega)) h1 (ih l l (by omega) (by omega))
inductive Bl (key : Int → Int) (bs : Nat) : List Int → List Int → Prop
  | last (o d : List Int) (h : o.length ≤ bs) (p : d.Perm o) (s : d.Pairwise (R key)) : Bl key bs o d
  | more (o1 d1 o2 d2 : List Int) (h : o1.length = bs) (p : d1.Perm o1) (s : d1.Pairwise (R key)) (t : Bl key bs o2 d2) : Bl key bs (o1 ++ o2) (d1 ++ d2)
theorem Bl.len {bs : Nat} {o d : List Int} (h : Bl key bs o d) : d.length = o.length := by
  induction h with
  | last o d h p s => exact p.length_eq
  | more o1 d1 o2 d2 h p s t ih => simp [p.length_eq, ih]
theorem blocks (hC : Cmp K f D key) (hn : 10001 < n) : ∀ (m : Nat) (P S : List Int), S.length < m → S.Pairwise (· < ·) → (∀ x ∈ S, D x) → P.length + S.length ≤ 10000 →
    ∃ S', Bl key 20 S S' ∧ g_slices_stableCmpFunc_int_l1 K n ((P.length + S.length : Nat) : Int) f m ((P.length : Nat) : Int) ((P.length + 20 : Nat) : Int) (P ++ S) = g_slices_stableCmpFunc_int_l4 K n ((P.length + S.length : Nat) : Int) f n 20 (P ++ S') := by
  intro m
  induction m with
  | zero => intro P S h; omega
  | succ m ih =>
    intro P S hm hS hD hl
    simp only [g_slices_stableCmpFunc_int_l1, g_slices_stableCmpFunc_int_l1_b]
    by_cases hc : 20 ≤ S.length
    · rw [iteT (by omega)]
      obtain ⟨S1, S2, rfl, h1⟩ : ∃ S1 S2, S = S1 ++ S2 ∧ S1.length = 20 := ⟨S.take 20, S.drop 20, by simp, by simp; omega⟩
      rw [List.pairwise_append] at hS
      simp only [List.length_append] at hm hl hc ⊢
      obtain ⟨S', p1, p2, p3⟩ := ins_ok (n := n) hC P S1 S2 hn hS.1 (fun x hx => hD x (by simp [hx])) (by omega)
      have l1 : S'.length = 20 := by rw [p1.length_eq, h1]
      rw [h1] at p3
      rw [show P ++ (S1 ++ S2) = P ++ S1 ++ S2 by simp, p3, sb, wn (k := P.length + 20 + 20) (by omega) (by omega)]
      obtain ⟨S'', q1, q2⟩ := ih (P ++ S') S2 (by omega) hS.2.1 (fun x hx => hD x (by simp [hx])) (by simp; omega)
      simp only [List.length_append, l1] at q2
      refine ⟨S' ++ S'', .more _ _ _ _ h1 p1 p2 q1, ?_⟩
      rw [h1, show P.length + (20 + S2.length) = P.length + 20 + S2.length by omega, q2]
      simp
    · rw [iteF (by omega)]
      obtain ⟨S', p1, p2, p3⟩ := ins_ok (n := n) hC P S [] hn hS hD (by omega)
      simp only [List.append_nil] at p3
      exact ⟨S', .last _ _ (by omega) p1 p2, by rw [p3, sb]⟩
theorem pass {N : Nat} (hn : 10001 < n) (hg : Merges key D N (fun L a m b => g_slices_symMergeCmpFunc_int K n L a m b f)) (bs : Nat) (hb : 0 < bs) (hb2 : bs ≤ 10000) (L2 : Int → List Int → Option (List Int)) : ∀ (m : Nat) (P S d : List Int), S.length < m → Bl key bs S d → S.Pairwise (· < ·) → (∀ x ∈ S, D x) → P.length + S.length ≤ 10000 → S.length < N →
    ∃ d', Bl key (2 * bs) S d' ∧ g_slices_stableCmpFunc_int_l2 K n ((P.length + S.length : Nat) : Int) f ((bs : Nat) : Int) L2 m ((P.length : Nat) : Int) ((P.length + 2 * bs : Nat) : Int) (P ++ d) = L2 ((2 * bs : Nat) : Int) (P ++ d') := by
  intro m
  induction m with
  | zero => intro P S d h; omega
  | succ m ih =>
    intro P S d hm hB hS hD hl hN
    have ed := hB.len
    simp only [g_slices_stableCmpFunc_int_l2, g_slices_stableCmpFunc_int_l2_b, g_slices_stableCmpFunc_int_j3]
    have e2 : w64 (((bs : Nat) : Int) * 2) = ((2 * bs : Nat) : Int) := wn (by omega) (by omega)
    have e3 : w64 (2 * ((bs : Nat) : Int)) = ((2 * bs : Nat) : Int) := wn (by omega) (by omega)
    rw [wn (n := ((P.length : Nat) : Int) + ((bs : Nat) : Int)) (k := P.length + bs) (by omega) (by omega), e2, e3]
    -- two blocks are merged
    have two : ∀ o1 d1 o2 d2 r : List Int, o1.length = bs → d1.Perm o1 → d1.Pairwise (R key) → d2.Perm o2 → d2.Pairwise (R key) → 0 < o2.length → (∀ x ∈ o1, ∀ y ∈ o2, x < y) → (∀ x ∈ o1 ++ o2, D x) → P.length + (o1.length + o2.length) ≤ 10000 → o1.length + o2.length < N →
        ∃ C, C.Perm (o1 ++ o2) ∧ C.Pairwise (R key) ∧ g_slices_symMergeCmpFunc_int K n (P ++ (d1 ++ d2) ++ r) ((P.length : Nat) : Int) ((P.length + bs : Nat) : Int) ((P.length + (bs + o2.length) : Nat) : Int) f = some (P ++ C ++ r) := by
      intro o1 d1 o2 d2 r k1 k2 k3 k4 k5 k6 k7 k8 k9 k10
      have n1 : d1.length = bs := by rw [k2.length_eq, k1]
      have n2 := k4.length_eq
      obtain ⟨C, q1, q2, q3⟩ := hg P d1 d2 r (by omega) (by omega) (by omega) (by simp; omega) ⟨k3, k5, fun x hx y hy => k7 x (k2.mem_iff.1 hx) y (k4.mem_iff.1 hy), fun x hx => k8 x ((k2.append k4).mem_iff.1 hx)⟩
      refine ⟨C, q1.trans (k2.append k4), q2, ?_⟩
      rw [n1, n2, show P.length + bs + o2.length = P.length + (bs + o2.length) by omega, show P ++ d1 ++ d2 ++ r = P ++ (d1 ++ d2) ++ r by simp] at q3
      exact q3
    cases hB with
    | last _ _ h p s =>
      refine ⟨d, .last _ _ (by omega) p s, ?_⟩
      rw [iteF (by omega), iteF (by omega)]
    | more o1 d1 o2 d2 h p s t =>
      rw [List.pairwise_append] at hS
      simp only [List.length_append] at hm hl hN ⊢
      cases t with
      | last _ _ h' p' s' =>
        by_cases hc : o2.length = bs
        · rw [iteT (by omega)]
          obtain ⟨C, q1, q2, q3⟩ := two o1 d1 o2 d2 [] h p s p' s' (by omega) hS.2.2 hD (by omega) (by omega)
          simp only [List.append_nil] at q3
          rw [hc] at q3
          rw [show ((P.length + 2 * bs : Nat) : Int) = ((P.length + (bs + bs) : Nat) : Int) by omega, q3, sb, wn (n := ((P.length + (bs + bs) : Nat) : Int) + ((2 * bs : Nat) : Int)) (k := P.length + (bs + bs) + 2 * bs) (by omega) (by omega)]
          have lC : C.length = bs + bs := by rw [q1.length_eq]; simp; omega
          obtain ⟨d', r1, r2⟩ := ih (P ++ C) [] [] (by simp; omega) (.last _ _ (by simp) (.refl _) (by simp)) (by simp) (by simp) (by simp; omega) (by simp; omega)
          simp only [List.length_append, lC, List.length_nil, Nat.add_zero, List.append_nil] at r2
          refine ⟨C ++ d', ?_, ?_⟩
          · have := Bl.more (key := key) (bs := 2 * bs) (o1 ++ o2) C [] d' (by simp; omega) q1 q2 r1
            simpa using this
          · rw [show P.length + (o1.length + o2.length) = P.length + (bs + bs) by omega, r2]
            simp
        · rw [iteF (by omega)]
          by_cases hz : o2.length = 0
          · rw [iteF (by omega)]
            have : o2 = [] := List.eq_nil_of_length_eq_zero hz
            subst this
            have : d2 = [] := p'.eq_nil
            subst this
            exact ⟨d1 ++ [], .last _ _ (by simp; omega) (by simpa using p) (by simpa using s), rfl⟩
          · rw [iteT (by omega)]
            obtain ⟨C, q1, q2, q3⟩ := two o1 d1 o2 d2 [] h p s p' s' (by omega) hS.2.2 hD (by omega) (by omega)
            simp only [List.append_nil] at q3
            rw [h, q3, sb]
            exact ⟨C, .last _ _ (by simp; omega) q1 q2, rfl⟩
      | more o21 d21 o22 d22 h' p' s' t' =>
        have hS2 := hS.2.1
        rw [List.pairwise_append] at hS2
        simp only [List.length_append] at hm hl hN ⊢
        rw [iteT (by omega)]
        obtain ⟨C, q1, q2, q3⟩ := two o1 d1 o21 d21 d22 h p s p' s' (by omega) (fun x hx y hy => hS.2.2 x hx y (by simp [hy])) (fun x hx => hD x (by rcases List.mem_append.1 hx with q | q <;> simp [q])) (by omega) (by omega)
        rw [h'] at q3
        have lC : C.length = bs + bs := by rw [q1.length_eq]; simp; omega
        rw [show P ++ (d1 ++ (d21 ++ d22)) = P ++ (d1 ++ d21) ++ d22 by simp, show ((P.length + 2 * bs : Nat) : Int) = ((P.length + (bs + bs) : Nat) : Int) by omega, q3, sb, wn (n := ((P.length + (bs + bs) : Nat) : Int) + ((2 * bs : Nat) : Int)) (k := P.length + (bs + bs) + 2 * bs) (by omega) (by omega)]
        obtain ⟨d', r1, r2⟩ := ih (P ++ C) o22 d22 (by omega) t' hS2.2.1 (fun x hx => hD x (by simp [hx])) (by simp; omega) (by omega)
        simp only [List.length_append, lC] at r2
        refine ⟨C ++ d', ?_, ?_⟩
        · have := Bl.more (key := key) (bs := 2 * bs) (o1 ++ o21) C o22 d' (by simp; omega) q1 q2 r1
          simpa using this
        · rw [show P.length + (o1.length + (o21.length + o22.length)) = P.length + (bs + bs) + o22.length by omega, r2]
          simp
theorem rounds {N : Nat} (hn : 10001 < n) (hg : Merges key D N (fun L a m b => g_slices_symMergeCmpFunc_int K n L a m b f)) (S : List Int) (hS : S.Pairwise (· < ·)) (hD : ∀ x ∈ S, D x) (hl : S.length ≤ 10000) (hN : S.length < N) : ∀ (m bs : Nat) (d : List Int), 0 < bs → S.length - bs < m → Bl key bs S d →
    ∃ d', d'.Perm S ∧ d'.Pairwise (R key) ∧ g_slices_stableCmpFunc_int_l4 K n ((S.length : Nat) : Int) f m ((bs : Nat) : Int) d = some d' := by
  intro m
  induction m with
  | zero => intro bs d hb h; omega
  | succ m ih =>
    intro bs d hb hm hB
    simp only [g_slices_stableCmpFunc_int_l4, g_slices_stableCmpFunc_int_l4_b]
    by_cases hc : bs < S.length
    · rw [iteT (by omega), wn (n := 2 * ((bs : Nat) : Int)) (k := 2 * bs) (by omega) (by omega)]
      obtain ⟨d', r1, r2⟩ := pass (n := n) hn hg bs hb (by omega) (g_slices_stableCmpFunc_int_l4 K n ((S.length : Nat) : Int) f m) n [] S d (by omega) hB hS hD (by simp; omega) hN
      simp only [List.length_nil, List.nil_append, Nat.zero_add] at r2
      rw [show ((0 : Nat) : Int) = 0 from rfl] at r2
      rw [r2]
      exact ih (2 * bs) d' (by omega) (by omega) r1
    · rw [iteF (by omega)]
      cases hB with
      | last _ _ h p s => exact ⟨d, p, s, rfl⟩
      | more o1 d1 o2 d2 h p s t =>
        simp only [List.length_append] at hc
        have : o2 = [] := List.eq_nil_of_length_eq_zero (by omega)
        subst this
        have : d2 = [] := List.eq_nil_of_length_eq_zero (by rw [t.len]; rfl)
        subst this
        exact ⟨_, by simpa using p, by simpa using s, rfl⟩
theorem sort_ok {c0 : Nat} (hC : ∀ m, c0 ≤ m → Cmp (KN m) f D key) {lvl n : Nat} (S : List Int) (hn : 10001 < n) (hlv : c0 + (S.length + 1) + 10002 ≤ lvl) (hS : S.Pairwise (· < ·)) (hD : ∀ x ∈ S, D x) (hl : S.length ≤ 10000) :
    ∃ d, d.Perm S ∧ d.Pairwise (R key) ∧ g_slices_SortStableFunc_int_int (KN lvl) n S f = some d := by
  unfold g_slices_SortStableFunc_int_int g_slices_stableCmpFunc_int
  have hle : c0 ≤ lvl := by omega
  have h0 : S.length < n := by omega
  obtain ⟨S', b1, b2⟩ := blocks (K := KN lvl) (n := n) (hC lvl hle) hn n [] S h0 hS hD (by rw [List.length_nil, Nat.zero_add]; exact hl)
  simp only [List.length_nil, List.nil_append, Nat.zero_add] at b2
  rw [show ((0 : Nat) : Int) = 0 from rfl, show ((20 : Nat) : Int) = 20 from rfl] at b2
  have h1 := hlv
  have h2 : S.length - 20 < n := by omega
  have hm := merges hC (S.length + 1) lvl n hn h1
  generalize KN lvl = K at *
  obtain ⟨d, d1, d2, d3⟩ := rounds (K := K) (n := n) (N := S.length + 1) hn hm S hS hD hl (Nat.lt_succ_self _) n 20 S' (by decide) h2 b1
  rw [show ((20 : Nat) : Int) = 20 from rfl] at d3
  exact ⟨d, d1, d2, by rw [b2, d3, sb]⟩
end Go.Proofs.Ytlpndemhnpajiaa.QSort

/- Stable sort as the library does it (insertion sort in blocks, merges by rotation): its parts. No program in sight. -/
import Derived.Test.YtlpndemhnpajiaaSmQb
namespace Go.Proofs.Ytlpndemhnpajiaa.QSort
set_option linter.all false
open Go.RowKit
theorem chk_inb {α : Type} {i : Int} {m : Nat} {x : Option α} (h : 0 ≤ i ∧ i < m) : chk (inb i m) x = x := by rw [inb_of h.1 h.2]; rfl
theorem gd {A B : List Int} {x : Int} {i : Nat} (h : i = A.length) : (A ++ x :: B).getD i default = x := by subst h; simp [List.getD_eq_getElem?_getD]
theorem gd1 {A B : List Int} {x y : Int} {i : Nat} (h : i = A.length + 1) : (A ++ x :: y :: B).getD i default = y := by subst h; simp [List.getD_eq_getElem?_getD]
theorem sw {A B : List Int} {x y : Int} {i j : Nat} (h : i = A.length) (hj : j = A.length + 1) : List.set (List.set (A ++ x :: y :: B) j x) i y = A ++ y :: x :: B := by subst h; subst hj; simp [List.set_append]
theorem sw' {A B : List Int} {x y : Int} {i j : Nat} (h : i = A.length) (hj : j = A.length + 1) : List.set (List.set (A ++ x :: y :: B) i y) j x = A ++ y :: x :: B := by subst h; subst hj; simp [List.set_append]
theorem wn {n : Int} {k : Nat} (h : n = k) (hk : k ≤ 4000000000) : w64 n = (k : Int) := by subst h; exact w64_id (by omega) (by omega)
theorem half {i j : Nat} (h : i + j ≤ 4000000000) : w64 ((IntKind.wrap .u64 (w64 ((i : Int) + (j : Int)))) / 2) = (((i + j) / 2 : Nat) : Int) := by
  rw [wn (n := (i : Int) + (j : Int)) (k := i + j) (by omega) (by omega), IntKind.wrap_u64]
  exact wn (by omega) (by omega)
theorem iteT {α : Type} {p : Prop} [Decidable p] {x y : α} (h : p) : (if decide p = true then x else y) = x := by simp [h]
theorem iteF {α : Type} {p : Prop} [Decidable p] {x y : α} (h : ¬ p) : (if decide p = true then x else y) = y := by simp [h]
theorem iteB {α : Type} {p : Prop} [Decidable p] {x y : α} (h : ¬ p) : (if (!decide p) = true then x else y) = x := by simp [h]
theorem iteC {α : Type} {p : Prop} [Decidable p] {x y : α} (h : p) : (if (!decide p) = true then x else y) = y := by simp [h]
theorem sb {α : Type} {β : Type} (x : α) (k : α → Option β) : (some x).bind k = k x := rfl
structure Cmp (K : Kn) (f : Fv) (D : Int → Prop) (key : Int → Int) : Prop where
  ok : ∀ a b, D a → D b → ∃ c, K.d_Int_Int__Int f a b = some c ∧ (c < 0 ↔ key a < key b)
def R (key : Int → Int) (a b : Int) : Prop := key a < key b ∨ key a = key b ∧ a < b
theorem R.trans {key : Int → Int} {a b c : Int} (h : R key a b) (h2 : R key b c) : R key a c := by unfold R at *; omega
theorem R.of_lt {key : Int → Int} {a b : Int} (h : b < a) : key a < key b ↔ R key a b := by unfold R; omega
theorem R.not {key : Int → Int} {a b : Int} (h : a ≠ b) (h2 : ¬ R key a b) : R key b a := by unfold R at *; omega
variable {K : Kn} {n : Nat} {f : Fv} {D : Int → Prop} {key : Int → Int}
theorem ins_l2 (hC : Cmp K f D key) (P T : List Int) (b i : Int) (L1 : Int → List Int → Option (List Int)) : ∀ (m : Nat) (S1 S2 : List Int) (x : Int), S1.length < m → (∀ y ∈ S1, y < x ∧ D y) → D x → (S1 ++ S2).Pairwise (R key) → (∀ y ∈ S2, R key x y) → P.length + S1.length ≤ 10000 →
    ∃ S', S'.Perm (x :: (S1 ++ S2)) ∧ S'.Pairwise (R key) ∧ g_slices_insertionSortCmpFunc_int_l2 K n ((P.length : Nat) : Int) b f i L1 m ((P.length + S1.length : Nat) : Int) (P ++ S1 ++ x :: S2 ++ T) = L1 (w64 (i + 1)) (P ++ S' ++ T) := by
  intro m
  induction m with
  | zero => intro S1 S2 x h; omega
  | succ m ih =>
    intro S1 S2 x hm hS hx hp h2 hl
    simp only [g_slices_insertionSortCmpFunc_int_l2, g_slices_insertionSortCmpFunc_int_l2_b]
    rcases List.eq_nil_or_concat S1 with rfl | ⟨S0, y, rfl⟩
    · refine ⟨x :: S2, by simp, ?_, ?_⟩
      · rw [List.pairwise_cons]; exact ⟨h2, by simpa using hp⟩
      · rw [iteF (by simp)]
        simp [g_slices_insertionSortCmpFunc_int_j1]
    · simp only [List.concat_eq_append] at *
      have hy := hS y (by simp)
      simp only [List.length_append, List.length_cons, List.length_nil] at hm hl
      have e1 : P ++ (S0 ++ [y]) ++ x :: S2 ++ T = (P ++ S0) ++ y :: x :: (S2 ++ T) := by simp
      have k1 : ((P.length + (S0 ++ [y]).length : Nat) : Int) = ((P.length + S0.length + 1 : Nat) : Int) := by simp; omega
      have hlen : ((P ++ S0) ++ y :: x :: (S2 ++ T)).length ≥ P.length + S0.length + 2 := by simp; omega
      rw [e1, k1, iteT (by omega)]
      rw [wn (n := ((P.length + S0.length + 1 : Nat) : Int) - 1) (k := P.length + S0.length) (by omega) (by omega)]
      rw [chk_inb (by omega), chk_inb (by omega)]
      simp only [Int.toNat_natCast]
      rw [gd1 (i := P.length + S0.length + 1) (by simp), gd (i := P.length + S0.length) (by simp)]
      obtain ⟨c, hc, hlt⟩ := hC.ok x y hx hy.2
      rw [hc, sb]
      simp only [g_slices_insertionSortCmpFunc_int_j1]
      by_cases hr : c < 0
      · rw [iteT hr]
        rw [wn (n := ((P.length + S0.length + 1 : Nat) : Int) - 1) (k := P.length + S0.length) (by omega) (by omega)]
        simp only [List.length_set]
        rw [chk_inb (by omega), chk_inb (by omega), chk_inb (by omega), chk_inb (by omega)]
        simp only [Int.toNat_natCast]
        rw [gd1 (i := P.length + S0.length + 1) (by simp), gd (i := P.length + S0.length) (by simp), sw (by simp) (by simp)]
        have hxy : R key x y := (R.of_lt hy.1).1 (hlt.1 hr)
        obtain ⟨S', p1, p2, p3⟩ := ih S0 (y :: S2) x (by omega) (fun z hz => hS z (by simp [hz])) hx (by simpa using hp)
          (fun z hz => by
            rcases List.mem_cons.1 hz with rfl | hz
            · exact hxy
            · exact h2 z hz) (by omega)
        refine ⟨S', by simpa using p1, p2, ?_⟩
        have e3 : P ++ S0 ++ x :: y :: (S2 ++ T) = P ++ S0 ++ x :: (y :: S2) ++ T := by simp
        rw [e3, p3]
      · rw [iteF hr]
        have hyx : R key y x := R.not (by omega) (fun h => hr (hlt.2 ((R.of_lt hy.1).2 h)))
        refine ⟨S0 ++ y :: x :: S2, ?_, ?_, by simp⟩
        · exact (List.Perm.of_eq (by simp)).trans (List.perm_middle (l₁ := S0 ++ [y]) (a := x) (l₂ := S2))
        · simp only [List.append_assoc, List.cons_append, List.nil_append, List.pairwise_append, List.pairwise_cons, List.mem_cons] at hp ⊢
          obtain ⟨q1, ⟨q2, q3⟩, q4⟩ := hp
          refine ⟨q1, ⟨?_, h2, q3⟩, ?_⟩
          · rintro z (rfl | hz)
            · exact hyx
            · exact q2 z hz
          · rintro u hu z (rfl | rfl | hz)
            · exact q4 u hu z (.inl rfl)
            · exact (q4 u hu y (.inl rfl)).trans hyx
            · exact q4 u hu z (.inr hz)
theorem ins_l3 (hC : Cmp K f D key) (P Q : List Int) (hn : 10001 < n) : ∀ (m : Nat) (S T : List Int), T.length < m → S ≠ [] → (∀ y ∈ S, ∀ z ∈ T, y < z) → T.Pairwise (· < ·) → (∀ y ∈ S ++ T, D y) → S.Pairwise (R key) → P.length + S.length + T.length ≤ 10000 →
    ∃ S', S'.Perm (S ++ T) ∧ S'.Pairwise (R key) ∧ g_slices_insertionSortCmpFunc_int_l3 K n ((P.length : Nat) : Int) ((P.length + S.length + T.length : Nat) : Int) f m ((P.length + S.length : Nat) : Int) (P ++ S ++ T ++ Q) = some (P ++ S' ++ Q) := by
  intro m
  induction m with
  | zero => intro S T h; omega
  | succ m ih =>
    intro S T hm hne hST hT hD hS hl
    simp only [g_slices_insertionSortCmpFunc_int_l3, g_slices_insertionSortCmpFunc_int_l3_b]
    cases T with
    | nil => exact ⟨S, by simp, hS, by rw [iteF (by simp)]; simp⟩
    | cons x T =>
      simp only [List.length_cons] at hm hl ⊢
      rw [iteT (by omega)]
      rw [List.pairwise_cons] at hT
      obtain ⟨S', p1, p2, p3⟩ := ins_l2 (n := n) hC P (T ++ Q) ((P.length + S.length + (T.length + 1) : Nat) : Int) ((P.length + S.length : Nat) : Int)
        (g_slices_insertionSortCmpFunc_int_l3 K n ((P.length : Nat) : Int) ((P.length + S.length + (T.length + 1) : Nat) : Int) f m) n S [] x (by omega) (fun y hy => ⟨hST y hy x (by simp), hD y (by simp [hy])⟩) (hD x (by simp)) (by simpa using hS) (by simp) (by omega)
      have e : P ++ S ++ [x] ++ (T ++ Q) = P ++ S ++ x :: T ++ Q := by simp
      rw [e] at p3
      rw [p3, wn (k := P.length + (S.length + 1)) (by omega) (by omega)]
      simp only [List.append_nil] at p1
      have hlen : S'.length = S.length + 1 := by rw [p1.length_eq]; simp
      have hmem : ∀ y, y ∈ S' ↔ y = x ∨ y ∈ S := fun y => by rw [p1.mem_iff]; simp
      obtain ⟨S'', q1, q2, q3⟩ := ih S' T (by omega) (by intro h; subst h; simp at hlen) (fun y hy z hz => by
          rcases (hmem y).1 hy with rfl | hy
          · exact hT.1 z hz
          · exact hST y hy z (by simp [hz])) hT.2 (fun y hy => by
          rcases List.mem_append.1 hy with hy | hy
          · rcases (hmem y).1 hy with rfl | hy
            · exact hD y (by simp)
            · exact hD y (by simp [hy])
          · exact hD y (by simp [hy])) p2 (by omega)
      refine ⟨S'', ?_, q2, ?_⟩
      · refine q1.trans ((p1.append_right T).trans ?_)
        exact (List.perm_middle (l₁ := S) (a := x) (l₂ := T)).symm
      · rw [hlen, show P.length + (S.length + 1) + T.length = P.length + S.length + (T.length + 1) by omega, show P ++ S' ++ T ++ Q = P ++ S' ++ (T ++ Q) by simp] at q3
        exact q3
theorem ins_ok (hC : Cmp K f D key) (P S Q : List Int) (hn : 10001 < n) (hS : S.Pairwise (· < ·)) (hD : ∀ y ∈ S, D y) (hl : P.length + S.length ≤ 10000) :
    ∃ S', S'.Perm S ∧ S'.Pairwise (R key) ∧ g_slices_insertionSortCmpFunc_int K n (P ++ S ++ Q) ((P.length : Nat) : Int) ((P.length + S.length : Nat) : Int) f = some (P ++ S' ++ Q) := by
  unfold g_slices_insertionSortCmpFunc_int
  rw [wn (k := P.length + 1) (by omega) (by omega)]
  cases S with
  | nil =>
    obtain ⟨m, rfl⟩ : ∃ m, n = m + 1 := ⟨n - 1, by omega⟩
    refine ⟨[], by simp, by simp, ?_⟩
    simp only [g_slices_insertionSortCmpFunc_int_l3, g_slices_insertionSortCmpFunc_int_l3_b]
    rw [iteF (by simp; omega)]
  | cons x T =>
    rw [List.pairwise_cons] at hS
    simp only [List.length_cons] at hl ⊢
    obtain ⟨S', p1, p2, p3⟩ := ins_l3 (n := n) hC P Q hn n [x] T (by omega) (by simp) (by simpa using hS.1) hS.2 (by simpa using hD) (by simp) (by simp; omega)
    refine ⟨S', by simpa using p1, p2, ?_⟩
    simp only [List.length_cons, List.length_nil, Nat.zero_add] at p3
    rw [show P.length + (T.length + 1) = P.length + 1 + T.length by omega, show P ++ x :: T ++ Q = P ++ [x] ++ T ++ Q by simp]
    exact p3
theorem swap_l1 (P M Q : List Int) : ∀ (m : Nat) (X1 Y1 X2 Y2 : List Int), X2.length < m → X1.length = Y1.length → X2.length = Y2.length → (P ++ X1 ++ X2 ++ M ++ Y1 ++ Y2).length ≤ 10000 →
    g_slices_swapRangeCmpFunc_int_l1 K n ((P.length : Nat) : Int) ((P.length + X1.length + X2.length + M.length : Nat) : Int) ((X1.length + X2.length : Nat) : Int) m ((X1.length : Nat) : Int) (P ++ Y1 ++ X2 ++ M ++ X1 ++ Y2 ++ Q) = some (P ++ Y1 ++ Y2 ++ M ++ X1 ++ X2 ++ Q) := by
  intro m
  induction m with
  | zero => intro X1 Y1 X2 Y2 h; omega
  | succ m ih =>
    intro X1 Y1 X2 Y2 hm h1 h2 hl
    simp only [g_slices_swapRangeCmpFunc_int_l1, g_slices_swapRangeCmpFunc_int_l1_b]
    cases X2 with
    | nil =>
      cases Y2 with
      | nil => rw [iteF (by simp)]
      | cons => simp at h2
    | cons x X2 =>
      cases Y2 with
      | nil => simp at h2
      | cons y Y2 =>
        simp only [List.length_append, List.length_cons] at hm h1 h2 hl ⊢
        rw [iteT (by omega), wn (n := ((P.length + X1.length + (X2.length + 1) + M.length : Nat) : Int) + ((X1.length : Nat) : Int)) (k := P.length + X1.length + (X2.length + 1) + M.length + X1.length) (by omega) (by omega),
          wn (n := ((P.length : Nat) : Int) + ((X1.length : Nat) : Int)) (k := P.length + X1.length) (by omega) (by omega)]
        simp only [List.length_set, List.length_append, List.length_cons]
        rw [chk_inb (by omega), chk_inb (by omega), chk_inb (by omega), chk_inb (by omega)]
        simp only [Int.toNat_natCast]
        have e1 : P ++ Y1 ++ x :: X2 ++ M ++ X1 ++ y :: Y2 ++ Q = (P ++ Y1) ++ x :: (X2 ++ M ++ X1 ++ y :: (Y2 ++ Q)) := by simp
        have e2 : P ++ Y1 ++ x :: X2 ++ M ++ X1 ++ y :: Y2 ++ Q = (P ++ Y1 ++ x :: X2 ++ M ++ X1) ++ y :: (Y2 ++ Q) := by simp
        have g1 : List.getD (P ++ Y1 ++ x :: X2 ++ M ++ X1 ++ y :: Y2 ++ Q) (P.length + X1.length) default = x := by rw [e1]; exact gd (by simp; omega)
        have g2 : List.getD (P ++ Y1 ++ x :: X2 ++ M ++ X1 ++ y :: Y2 ++ Q) (P.length + X1.length + (X2.length + 1) + M.length + X1.length) default = y := by rw [e2]; exact gd (by simp; omega)
        rw [g1, g2]
        have s1 : List.set (P ++ Y1 ++ x :: X2 ++ M ++ X1 ++ y :: Y2 ++ Q) (P.length + X1.length) y = (P ++ Y1 ++ y :: X2 ++ M ++ X1) ++ y :: (Y2 ++ Q) := by
          rw [e1, show P.length + X1.length = (P ++ Y1).length by simp; omega]; simp
        have s2 : List.set ((P ++ Y1 ++ y :: X2 ++ M ++ X1) ++ y :: (Y2 ++ Q)) (P.length + X1.length + (X2.length + 1) + M.length + X1.length) x = P ++ (Y1 ++ [y]) ++ X2 ++ M ++ (X1 ++ [x]) ++ Y2 ++ Q := by
          rw [show P.length + X1.length + (X2.length + 1) + M.length + X1.length = (P ++ Y1 ++ y :: X2 ++ M ++ X1).length by simp; omega]; simp
        rw [s1, s2, wn (n := ((X1.length : Nat) : Int) + 1) (k := (X1 ++ [x]).length) (by simp) (by simp; omega)]
        have := ih (X1 ++ [x]) (Y1 ++ [y]) X2 Y2 (by omega) (by simp; omega) (by omega) (by simp; omega)
        simp only [List.length_append, List.length_cons, List.length_nil, Nat.zero_add] at this ⊢
        rw [show P.length + X1.length + (X2.length + 1) + M.length = P.length + (X1.length + 1) + X2.length + M.length by omega, show X1.length + (X2.length + 1) = X1.length + 1 + X2.length by omega, this]
        simp
theorem swap_ok (P X M Y Q : List Int) (hXY : X.length = Y.length) (hl : (P ++ X ++ M ++ Y).length ≤ 10000) (hn : 10001 < n) {b k : Int} (hb : b = ((P.length + X.length + M.length : Nat) : Int)) (hk : k = ((X.length : Nat) : Int)) :
    g_slices_swapRangeCmpFunc_int K n (P ++ X ++ M ++ Y ++ Q) ((P.length : Nat) : Int) b k f = some (P ++ Y ++ M ++ X ++ Q) := by
  subst hb; subst hk
  unfold g_slices_swapRangeCmpFunc_int
  have := swap_l1 (K := K) (n := n) P M Q n [] [] X Y (by simp at hl; omega) rfl hXY (by simpa using hl)
  simpa using this
theorem rot_l2 (hn : 10001 < n) (mid : Nat) : ∀ (m : Nat) (P U V Q : List Int), U.length + V.length < m → P.length + U.length = mid → 0 < U.length → 0 < V.length → (P ++ U ++ V).length ≤ 10000 →
    g_slices_rotateCmpFunc_int_l2 K n (mid : Int) f m ((U.length : Nat) : Int) ((V.length : Nat) : Int) (P ++ U ++ V ++ Q) = some (P ++ V ++ U ++ Q) := by
  intro m
  induction m with
  | zero => intro P U V Q h; omega
  | succ m ih =>
    intro P U V Q hm hmid hU hV hl
    simp only [List.length_append] at hl
    simp only [g_slices_rotateCmpFunc_int_l2, g_slices_rotateCmpFunc_int_l2_b]
    rw [wn (n := (mid : Int) - ((U.length : Nat) : Int)) (k := P.length) (by omega) (by omega)]
    by_cases he : U.length = V.length
    · rw [if_neg (by simp; omega)]
      have := swap_ok (K := K) (n := n) (f := f) P U [] V Q he (by simp; omega) hn (b := (mid : Int)) (k := ((U.length : Nat) : Int)) (by simp; omega) rfl
      simp only [List.append_nil] at this
      rw [this, sb]
    · rw [if_pos (by simp; omega)]
      by_cases hgt : U.length > V.length
      · rw [iteT (by omega), wn (n := ((U.length : Nat) : Int) - ((V.length : Nat) : Int)) (k := U.length - V.length) (by omega) (by omega)]
        -- U = U1 ++ U2 with |U1| = |V|
        obtain ⟨U1, U2, rfl, hu⟩ : ∃ U1 U2, U = U1 ++ U2 ∧ U1.length = V.length := ⟨U.take V.length, U.drop V.length, by simp, by simp; omega⟩
        simp only [List.length_append] at hmid hU hl hm hgt he ⊢
        have := swap_ok (K := K) (n := n) (f := f) P U1 U2 V Q hu (by simp; omega) hn (b := (mid : Int)) (k := ((V.length : Nat) : Int)) (by simp; omega) (by omega)
        rw [show P ++ (U1 ++ U2) ++ V ++ Q = P ++ U1 ++ U2 ++ V ++ Q by simp, this, sb]
        simp only [g_slices_rotateCmpFunc_int_j1]
        have h2 := ih (P ++ V) U2 U1 Q (by omega) (by simp; omega) (by omega) (by omega) (by simp; omega)
        rw [show U1.length + U2.length - V.length = U2.length by omega, ← hu, h2]
        simp
      · rw [iteF (by omega), wn (n := (mid : Int) + ((V.length : Nat) : Int)) (k := mid + V.length) (by omega) (by omega), wn (n := ((mid + V.length : Nat) : Int) - ((U.length : Nat) : Int)) (k := mid + V.length - U.length) (by omega) (by omega),
          wn (n := ((V.length : Nat) : Int) - ((U.length : Nat) : Int)) (k := V.length - U.length) (by omega) (by omega)]
        obtain ⟨V1, V2, rfl, hv⟩ : ∃ V1 V2, V = V1 ++ V2 ∧ V2.length = U.length := ⟨V.take (V.length - U.length), V.drop (V.length - U.length), by simp, by simp; omega⟩
        simp only [List.length_append] at hl hm hgt he hV ⊢
        have := swap_ok (K := K) (n := n) (f := f) P U V1 V2 Q (by omega) (by simp; omega) hn (b := ((mid + (V1.length + V2.length) - U.length : Nat) : Int)) (k := ((U.length : Nat) : Int)) (by omega) rfl
        rw [show P ++ U ++ (V1 ++ V2) ++ Q = P ++ U ++ V1 ++ V2 ++ Q by simp, this, sb]
        simp only [g_slices_rotateCmpFunc_int_j1]
        have h2 := ih P V2 V1 (U ++ Q) (by omega) (by omega) (by omega) (by omega) (by simp; omega)
        rw [show V1.length + V2.length - U.length = V1.length by omega, ← hv, show P ++ V2 ++ V1 ++ U ++ Q = P ++ V2 ++ V1 ++ (U ++ Q) by simp, h2]
        simp
theorem rot_ok (P U V Q : List Int) (hn : 10001 < n) (hU : 0 < U.length) (hV : 0 < V.length) (hl : (P ++ U ++ V).length ≤ 10000) :
    g_slices_rotateCmpFunc_int K n (P ++ U ++ V ++ Q) ((P.length : Nat) : Int) ((P.length + U.length : Nat) : Int) ((P.length + U.length + V.length : Nat) : Int) f = some (P ++ V ++ U ++ Q) := by
  unfold g_slices_rotateCmpFunc_int
  simp only [List.length_append] at hl
  rw [wn (k := U.length) (by omega) (by omega), wn (k := V.length) (by omega) (by omega)]
  exact rot_l2 hn _ n P U V Q (by omega) rfl hU hV (by simp; omega)
end Go.Proofs.Ytlpndemhnpajiaa.QSort

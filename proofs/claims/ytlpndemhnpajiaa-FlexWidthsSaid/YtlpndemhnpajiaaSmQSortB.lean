/- Stable sort as the library does it: merging by rotation, and the whole. No program in sight. -/
import Derived.Test.YtlpndemhnpajiaaSmQSortA
namespace Go.Proofs.Ytlpndemhnpajiaa.QSort
set_option linter.all false
open Go.RowKit
variable {K : Kn} {n : Nat} {f : Fv} {D : Int → Prop} {key : Int → Int}
def at_ (L : List Int) (k : Nat) : Int := L.getD k default
theorem at_app {P A Q : List Int} {k : Nat} (h : k < A.length) {i : Nat} (hi : i = P.length + k) : (P ++ A ++ Q).getD i default = at_ A k := by
  subst hi
  simp [at_, List.getD_eq_getElem?_getD, List.getElem?_append, h, show ¬ (P.length + k < P.length) by omega]
theorem at_mem {A : List Int} {k : Nat} (h : k < A.length) : at_ A k ∈ A := by unfold at_; rw [getD_get h]; exact List.getElem_mem _
theorem mem_at {A : List Int} {x : Int} (h : x ∈ A) : ∃ k, k < A.length ∧ at_ A k = x := by
  obtain ⟨k, hk, e⟩ := List.getElem_of_mem h
  exact ⟨k, hk, by unfold at_; rw [getD_get hk, e]⟩
theorem pw_at {r : Int → Int → Prop} {A : List Int} (h : A.Pairwise r) {i j : Nat} (hij : i < j) (hj : j < A.length) : r (at_ A i) (at_ A j) := by
  unfold at_; rw [getD_get (by omega : i < A.length), getD_get hj]
  exact List.pairwise_iff_getElem.1 h i j (by omega) hj hij
theorem at_take {A : List Int} {t k : Nat} (h : k < t) : at_ (A.take t) k = at_ A k := by simp [at_, List.getD_eq_getElem?_getD, List.getElem?_take, h]
theorem at_drop {A : List Int} {t k : Nat} : at_ (A.drop t) k = at_ A (t + k) := by simp [at_, List.getD_eq_getElem?_getD]
theorem mem_take_at {A : List Int} {t : Nat} {x : Int} (h : x ∈ A.take t) : ∃ k, k < t ∧ k < A.length ∧ at_ A k = x := by
  obtain ⟨k, hk, e⟩ := mem_at h
  simp at hk
  exact ⟨k, by omega, by omega, by rw [← e, at_take (by omega)]⟩
theorem mem_drop_at {A : List Int} {t : Nat} {x : Int} (h : x ∈ A.drop t) : ∃ k, t ≤ k ∧ k < A.length ∧ at_ A k = x := by
  obtain ⟨k, hk, e⟩ := mem_at h
  simp at hk
  exact ⟨t + k, by omega, by omega, by rw [← e, at_drop]⟩
theorem put_in {x : Int} {B : List Int} {t : Nat} (hB : B.Pairwise (R key)) (h1 : ∀ k, k < t → k < B.length → R key (at_ B k) x) (h2 : ∀ k, t ≤ k → k < B.length → R key x (at_ B k)) : (B.take t ++ x :: B.drop t).Pairwise (R key) := by
  rw [List.pairwise_append, List.pairwise_cons]
  refine ⟨hB.take, ⟨fun y hy => ?_, hB.drop⟩, fun u hu v hv => ?_⟩
  · obtain ⟨k, k1, k2, rfl⟩ := mem_drop_at hy; exact h2 k k1 k2
  · obtain ⟨i, i1, i2, rfl⟩ := mem_take_at hu
    rcases List.mem_cons.1 hv with rfl | hv
    · exact h1 i i1 i2
    · obtain ⟨k, k1, k2, rfl⟩ := mem_drop_at hv; exact pw_at hB (by omega) k2
theorem go_right (v : Int) : ∀ (m : Nat) (P X Q : List Int) (x : Int), X.length < m → (P ++ X).length ≤ 10000 → v = ((P.length + X.length + 1 : Nat) : Int) →
    g_slices_symMergeCmpFunc_int_l3 K n v m ((P.length : Nat) : Int) (P ++ x :: X ++ Q) = some (P ++ X ++ x :: Q) := by
  intro m
  induction m with
  | zero => intro P X Q x h; omega
  | succ m ih =>
    intro P X Q x hm hl hv
    subst hv
    simp only [List.length_append] at hl
    simp only [g_slices_symMergeCmpFunc_int_l3, g_slices_symMergeCmpFunc_int_l3_b]
    rw [wn (n := ((P.length + X.length + 1 : Nat) : Int) - 1) (k := P.length + X.length) (by omega) (by omega)]
    cases X with
    | nil => rw [iteF (by simp)]; simp
    | cons y X =>
      simp only [List.length_cons] at *
      rw [iteT (by omega), wn (n := ((P.length : Nat) : Int) + 1) (k := P.length + 1) (by omega) (by omega)]
      simp only [List.length_set, List.length_append, List.length_cons]
      rw [chk_inb (by omega), chk_inb (by omega), chk_inb (by omega), chk_inb (by omega)]
      simp only [Int.toNat_natCast]
      rw [show P ++ x :: y :: X ++ Q = P ++ x :: y :: (X ++ Q) by simp, gd1 rfl, gd rfl, sw' rfl rfl]
      have := ih (P ++ [y]) X Q x (by omega) (by simp; omega) (by simp; omega)
      simp only [List.length_append, List.length_cons, List.length_nil, Nat.zero_add] at this
      rw [show P ++ y :: x :: (X ++ Q) = P ++ [y] ++ x :: X ++ Q by simp, this]
      simp
theorem go_left (v : Int) : ∀ (m : Nat) (P X Q : List Int) (x : Int), X.length < m → (P ++ X).length ≤ 10000 → v = ((P.length : Nat) : Int) →
    g_slices_symMergeCmpFunc_int_l6 K n v m ((P.length + X.length : Nat) : Int) (P ++ X ++ x :: Q) = some (P ++ x :: X ++ Q) := by
  intro m
  induction m with
  | zero => intro P X Q x h; omega
  | succ m ih =>
    intro P X Q x hm hl hv
    subst hv
    simp only [List.length_append] at hl
    simp only [g_slices_symMergeCmpFunc_int_l6, g_slices_symMergeCmpFunc_int_l6_b]
    rcases List.eq_nil_or_concat X with rfl | ⟨X, y, rfl⟩
    · rw [iteF (by simp)]; simp
    · simp only [List.concat_eq_append] at *
      simp only [List.length_append, List.length_cons, List.length_nil] at *
      rw [iteT (by omega), wn (n := ((P.length + (X.length + (0 + 1)) : Nat) : Int) - 1) (k := P.length + X.length) (by omega) (by omega)]
      simp only [List.length_set, List.length_append, List.length_cons, List.length_nil]
      rw [chk_inb (by omega), chk_inb (by omega), chk_inb (by omega), chk_inb (by omega)]
      simp only [Int.toNat_natCast]
      rw [show P ++ (X ++ [y]) ++ x :: Q = (P ++ X) ++ y :: x :: Q by simp, gd1 (i := P.length + (X.length + (0 + 1))) (by simp; omega), gd (i := P.length + X.length) (by simp), sw (by simp) (by simp; omega)]
      have := ih P X (y :: Q) x (by omega) (by omega) rfl
      rw [this]
      simp
theorem one_left (hC : Cmp K f D key) (P B Q : List Int) (x : Int) (hB : B.Pairwise (R key)) (hx : D x) (hD : ∀ y ∈ B, D y ∧ x < y) (hl : P.length + 1 + B.length ≤ 10000) : ∀ (m i j : Nat), j - i < m → i ≤ j → j ≤ B.length → (∀ k, k < i → R key (at_ B k) x) → (∀ k, j ≤ k → k < B.length → R key x (at_ B k)) →
    ∃ t, t ≤ B.length ∧ (∀ k, k < t → R key (at_ B k) x) ∧ (∀ k, t ≤ k → k < B.length → R key x (at_ B k)) ∧ g_slices_symMergeCmpFunc_int_l2 K n (P ++ [x] ++ B ++ Q) ((P.length : Nat) : Int) f m ((P.length + 1 + i : Nat) : Int) ((P.length + 1 + j : Nat) : Int) = g_slices_symMergeCmpFunc_int_l3 K n ((P.length + 1 + t : Nat) : Int) n ((P.length : Nat) : Int) (P ++ [x] ++ B ++ Q) := by
  intro m
  induction m with
  | zero => intro i j h; omega
  | succ m ih =>
    intro i j hm hij hj h1 h2
    simp only [g_slices_symMergeCmpFunc_int_l2, g_slices_symMergeCmpFunc_int_l2_b]
    by_cases he : i < j
    · rw [iteT (by omega), half (by omega), sb]
      obtain ⟨h, hh, e⟩ : ∃ h, (i ≤ h ∧ h < j) ∧ (P.length + 1 + i + (P.length + 1 + j)) / 2 = P.length + 1 + h := ⟨(P.length + 1 + i + (P.length + 1 + j)) / 2 - (P.length + 1), by omega, by omega⟩
      rw [e]
      have hlen : (P ++ [x] ++ B ++ Q).length = P.length + 1 + B.length + Q.length := by simp; omega
      rw [chk_inb (by omega), chk_inb (by omega)]
      simp only [Int.toNat_natCast]
      rw [at_app (P := P ++ [x]) (k := h) (by omega) (by simp), show (P ++ [x] ++ B ++ Q).getD P.length default = x by rw [show P ++ [x] ++ B ++ Q = P ++ x :: (B ++ Q) by simp]; exact gd rfl]
      have hb := hD _ (at_mem (A := B) (k := h) (by omega))
      obtain ⟨c, hc, hlt⟩ := hC.ok (at_ B h) x hb.1 hx
      rw [hc, sb]
      simp only [g_slices_symMergeCmpFunc_int_j1]
      have hR : c < 0 ↔ R key (at_ B h) x := hlt.trans (R.of_lt hb.2)
      by_cases hr : c < 0
      · rw [iteT hr, wn (n := ((P.length + 1 + h : Nat) : Int) + 1) (k := P.length + 1 + (h + 1)) (by omega) (by omega)]
        refine ih (h + 1) j (by omega) (by omega) hj (fun k hk => ?_) h2
        rcases Nat.lt_or_ge k h with hk2 | hk2
        · exact (pw_at hB hk2 (by omega)).trans (hR.1 hr)
        · obtain rfl : k = h := by omega
          exact hR.1 hr
      · rw [iteF hr]
        refine ih i h (by omega) (by omega) (by omega) h1 (fun k hk hk2 => ?_)
        have hxh : R key x (at_ B h) := R.not (by omega) (fun hh => hr (hR.2 hh))
        rcases Nat.lt_or_ge h k with hk3 | hk3
        · exact hxh.trans (pw_at hB hk3 hk2)
        · obtain rfl : k = h := by omega
          exact hxh
    · obtain rfl : i = j := by omega
      exact ⟨i, hj, h1, h2, by rw [iteF (by omega)]⟩
theorem one_right (hC : Cmp K f D key) (P A Q : List Int) (x : Int) (hA : A.Pairwise (R key)) (hx : D x) (hD : ∀ y ∈ A, D y ∧ y < x) (hl : P.length + 1 + A.length ≤ 10000) : ∀ (m i j : Nat), j - i < m → i ≤ j → j ≤ A.length → (∀ k, k < i → R key (at_ A k) x) → (∀ k, j ≤ k → k < A.length → R key x (at_ A k)) →
    ∃ t, t ≤ A.length ∧ (∀ k, k < t → R key (at_ A k) x) ∧ (∀ k, t ≤ k → k < A.length → R key x (at_ A k)) ∧ g_slices_symMergeCmpFunc_int_l5 K n (P ++ A ++ x :: Q) ((P.length + A.length : Nat) : Int) f m ((P.length + i : Nat) : Int) ((P.length + j : Nat) : Int) = g_slices_symMergeCmpFunc_int_l6 K n ((P.length + t : Nat) : Int) n ((P.length + A.length : Nat) : Int) (P ++ A ++ x :: Q) := by
  intro m
  induction m with
  | zero => intro i j h; omega
  | succ m ih =>
    intro i j hm hij hj h1 h2
    simp only [g_slices_symMergeCmpFunc_int_l5, g_slices_symMergeCmpFunc_int_l5_b]
    by_cases he : i < j
    · rw [iteT (by omega), half (by omega), sb]
      obtain ⟨h, hh, e⟩ : ∃ h, (i ≤ h ∧ h < j) ∧ (P.length + i + (P.length + j)) / 2 = P.length + h := ⟨(P.length + i + (P.length + j)) / 2 - P.length, by omega, by omega⟩
      rw [e]
      have hlen : (P ++ A ++ x :: Q).length = P.length + A.length + Q.length + 1 := by simp; omega
      rw [chk_inb (by omega), chk_inb (by omega)]
      simp only [Int.toNat_natCast]
      rw [at_app (P := P) (A := A) (k := h) (by omega) rfl, gd (A := P ++ A) (by simp)]
      have hb := hD _ (at_mem (A := A) (k := h) (by omega))
      obtain ⟨c, hc, hlt⟩ := hC.ok x (at_ A h) hx hb.1
      rw [hc, sb]
      simp only [g_slices_symMergeCmpFunc_int_j4]
      have hR : c < 0 ↔ R key x (at_ A h) := hlt.trans (R.of_lt hb.2)
      by_cases hr : c < 0
      · rw [iteC hr]
        refine ih i h (by omega) (by omega) (by omega) h1 (fun k hk hk2 => ?_)
        rcases Nat.lt_or_ge h k with hk3 | hk3
        · exact (hR.1 hr).trans (pw_at hA hk3 hk2)
        · obtain rfl : k = h := by omega
          exact hR.1 hr
      · rw [iteB hr, wn (n := ((P.length + h : Nat) : Int) + 1) (k := P.length + (h + 1)) (by omega) (by omega)]
        refine ih (h + 1) j (by omega) (by omega) hj (fun k hk => ?_) h2
        have hxh : R key (at_ A h) x := R.not (by omega) (fun hh => hr (hR.2 hh))
        rcases Nat.lt_or_ge k h with hk2 | hk2
        · exact (pw_at hA hk2 (by omega)).trans hxh
        · obtain rfl : k = h := by omega
          exact hxh
    · obtain rfl : i = j := by omega
      exact ⟨i, hj, h1, h2, by rw [iteF (by omega)]⟩
end Go.Proofs.Ytlpndemhnpajiaa.QSort

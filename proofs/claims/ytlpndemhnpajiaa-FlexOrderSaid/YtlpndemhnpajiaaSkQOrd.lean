/- Layer 19, plain: the order of items, of the program and of the reference. No program in sight. -/
import Derived.Test.YtlpndemhnpajiaaSkQSortD
import Derived.Test.YtlpndemhnpajiaaSkQShareB
import Derived.Test.YtlpndemhnpajiaaSkQLayA
namespace Go.Proofs.Ytlpndemhnpajiaa
set_option linter.all false
open Go.RowKit
namespace Od
open QSort (wn chk_inb iteT iteF iteB iteC sb)
def ix (p : Nat → Bool) (n : Nat) : List Int := ((List.range n).filter p).map fun (k : Nat) => (k : Int)
theorem ix_succ (p : Nat → Bool) (n : Nat) : ix p (n + 1) = ix p n ++ if p n = true then [(n : Int)] else [] := by
  unfold ix
  rw [List.range_succ, List.filter_append, List.map_append]
  congr 1
  cases h : p n <;> simp only [List.filter_cons, List.filter_nil, h, if_true, Bool.false_eq_true, if_false, List.map_cons, List.map_nil]
theorem ix_mem {p : Nat → Bool} {n : Nat} {x : Int} : x ∈ ix p n ↔ ∃ k : Nat, k < n ∧ x = k ∧ p k = true := by
  simp only [ix, List.mem_map, List.mem_filter, List.mem_range]
  constructor
  · rintro ⟨k, ⟨h1, h2⟩, rfl⟩; exact ⟨k, h1, rfl, h2⟩
  · rintro ⟨k, h1, rfl, h2⟩; exact ⟨k, ⟨h1, h2⟩, rfl⟩
theorem ix_len (p : Nat → Bool) (n : Nat) : (ix p n).length ≤ n := by
  unfold ix
  rw [List.length_map]
  have := List.length_filter_le p (List.range n)
  rw [List.length_range] at this; exact this
theorem ix_lt (p : Nat → Bool) (n : Nat) : (ix p n).Pairwise (· < ·) := by
  unfold ix
  rw [List.pairwise_map]
  refine List.Pairwise.imp (fun h => ?_) (List.Pairwise.filter _ List.pairwise_lt_range)
  omega
variable (B : List TBoxtreeBox)
def fl (k : Nat) : Bool := inM (B.getD k default)
def key (a : Int) : Int := (B.getD a.toNat default).Style.Order
structure Is (d : List Int) : Prop where
  p : d.Perm (ix (fl B) B.length)
  s : d.Pairwise (QSort.R (key B))
variable {B}
theorem Is.uniq {d e : List Int} (h : Is B d) (h2 : Is B e) : d = e := by
  refine List.Perm.eq_of_pairwise (fun a b _ _ h1 h2 => (h1.asymm h2).elim) h.s h2.s (h.p.trans h2.p.symm)
theorem Is.mem {d : List Int} (h : Is B d) {x : Int} (hx : x ∈ d) : ∃ k : Nat, k < B.length ∧ x = k ∧ inM (B.getD k default) = true := ix_mem.1 (h.p.mem_iff.1 hx)
theorem Is.len {d : List Int} (h : Is B d) : d.length ≤ B.length := by rw [h.p.length_eq]; exact ix_len _ _
variable (B)
theorem cmp_ok (m : Nat) : QSort.Cmp (KN (m + 1)) (Fv.c45 B) (fun a => 0 ≤ a ∧ a < B.length) (key B) := by
  refine ⟨fun a b ha hb => ?_⟩
  show ∃ c, g_flex_Order_1 (KN m) m a b B = some c ∧ _
  unfold g_flex_Order_1
  rw [chk_inb ha, chk_inb hb]
  simp only [g_cmp_Compare_int, g_cmp_isNaN_int, sb, bne_self_eq_false, Bool.false_eq_true, if_false, key]
  by_cases h1 : (B.getD a.toNat default).Style.Order < (B.getD b.toNat default).Style.Order
  · rw [iteT h1]; exact ⟨-1, rfl, by omega⟩
  · rw [iteF h1]
    by_cases h2 : (B.getD a.toNat default).Style.Order > (B.getD b.toNat default).Style.Order
    · rw [iteT h2]; exact ⟨1, rfl, by omega⟩
    · rw [iteF h2]; exact ⟨0, rfl, by omega⟩
theorem f_loop (K : Kn) (n : Nat) (hl : B.length ≤ 1000) : ∀ (m i : Nat), i ≤ B.length → B.length < m + i →
    g_flex_Order_l2 K n B m (i : Int) (ix (fl B) i) = g_slices_SortStableFunc_int_int K n (ix (fl B) B.length) (Fv.c45 B) := by
  intro m
  induction m with
  | zero => intro i h1 h2; omega
  | succ m ih =>
    intro i h1 h2
    simp only [g_flex_Order_l2, g_flex_Order_l2_b]
    by_cases hi : i < B.length
    · have il := ix_len (fl B) i
      have es := ix_succ (fl B) i
      have ih := ih (i + 1) (by omega) (by omega)
      rw [iteT (by omega), chk_inb (by omega), tnat, flow_def, sb]
      simp only [g_flex_Order_j1, wn (n := (i : Int) + 1) (k := i + 1) (by omega) (by omega)]
      cases hp : inM (B.getD i default)
      · rw [if_neg (by simp)]
        rw [es, if_neg (by unfold fl; rw [hp]; simp), List.append_nil] at ih
        exact ih
      · rw [if_pos rfl, fits_of (by simp only [List.length_cons, List.length_nil]; omega) (by omega), chk_true]
        rw [es, if_pos (by unfold fl; rw [hp])] at ih
        exact ih
    · obtain rfl : i = B.length := by omega
      rw [iteF (by omega)]
      cases g_slices_SortStableFunc_int_int K n (ix (fl B) B.length) (Fv.c45 B) <;> rfl
theorem flex_ok (hl : B.length ≤ 1000) {lvl n : Nat} (hn : 10001 < n) (hlv : 20010 ≤ lvl) : ∃ d, Is B d ∧ g_flex_Order (KN lvl) n B = some d := by
  have il := ix_len (fl B) B.length
  obtain ⟨d, h1, h2, h3⟩ := QSort.sort_ok (c0 := 1) (f := Fv.c45 B) (D := fun a => 0 ≤ a ∧ a < B.length) (key := key B) (fun m hm => by
    obtain ⟨k, rfl⟩ : ∃ k, m = k + 1 := ⟨m - 1, by omega⟩
    exact cmp_ok B k) (lvl := lvl) (n := n) (ix (fl B) B.length) hn (by omega) (ix_lt _ _) (fun x hx => by
      obtain ⟨k, hk, rfl, _⟩ := ix_mem.1 hx; omega) (by omega)
  refine ⟨d, ⟨h1, h2⟩, ?_⟩
  have := f_loop B (KN lvl) n hl n 0 (by omega) (by omega)
  unfold g_flex_Order
  rw [show ix (fl B) 0 = [] from rfl, show ((0 : Nat) : Int) = 0 from rfl] at this
  rw [this]; exact h3
theorem r_in (K : Kn) (n : Nat) (hl : B.length ≤ 1000) (i : Nat) (hi : i < B.length) (d : List Int) (hd : d.length ≤ 1000) (hs : d.Pairwise (QSort.R (key B))) (hm : ∀ x ∈ d, 0 ≤ x ∧ x < i) (L1 : Int → List Int → Option (List Int)) : ∀ (m t : Nat), t < m → t ≤ d.length → (∀ k, t ≤ k → k < d.length → QSort.R (key B) i (QSort.at_ d k)) →
    ∃ e, e.Perm (d ++ [(i : Int)]) ∧ e.Pairwise (QSort.R (key B)) ∧ g_ref19_Order_l2 K n B (i : Int) d L1 m (t : Int) = L1 ((i + 1 : Nat) : Int) e := by
  intro m
  induction m with
  | zero => intro t h; omega
  | succ m ih =>
    intro t hm2 ht h2
    simp only [g_ref19_Order_l2, g_ref19_Order_l2_b]
    have put : ∀ b : Bool, b = false → (∀ k, k < t → k < d.length → QSort.R (key B) (QSort.at_ d k) i) → ∃ e, e.Perm (d ++ [(i : Int)]) ∧ e.Pairwise (QSort.R (key B)) ∧ g_ref19_Order_j1 K n B (i : Int) d (t : Int) L1 (g_ref19_Order_l2 K n B (i : Int) d L1 m) b = L1 ((i + 1 : Nat) : Int) e := by
      intro b hb h1
      subst hb
      refine ⟨d.take t ++ (i : Int) :: d.drop t, ?_, QSort.put_in hs h1 h2, ?_⟩
      · refine List.perm_middle.trans ?_
        rw [List.take_append_drop]; exact (List.perm_append_singleton _ _).symm
      · simp only [g_ref19_Order_j1, Bool.false_eq_true, if_false, g_ref19_Order_j3, tnat, sb]
        have e0 : (0 : Int).toNat = 0 := rfl
        have tl : (d.take t).length = t := by simp; omega
        rw [Sh.slb_of (by omega) (by omega) (by omega), Sh.slb_of (by omega) (by omega) (by omega), e0, List.drop_zero, List.take_length]
        rw [fits_of (by rw [tl]; omega) (by omega), fits_of (by simp only [tl, List.length_cons, List.length_nil]; omega) (by omega), fits_of (by simp only [List.length_append, tl, List.length_cons, List.length_nil, List.length_drop]; omega) (by omega)]
        simp only [chk_true]
        rw [wn (n := (i : Int) + 1) (k := i + 1) (by omega) (by omega)]
        simp
    by_cases h0 : 0 < t
    · have hmem := hm (d.getD (t - 1) default) (by rw [getD_get (by omega)]; exact List.getElem_mem _)
      rw [iteT (by omega), wn (n := (t : Int) - 1) (k := t - 1) (by omega) (by omega), chk_inb (by omega), tnat, chk_inb (by omega), chk_inb (by omega), tnat]
      have hk1 : key B (QSort.at_ d (t - 1)) = (B.getD (d.getD (t - 1) default).toNat default).Style.Order := rfl
      have hk2 : key B (i : Int) = (B.getD i default).Style.Order := by unfold key; rw [Int.toNat_natCast]
      by_cases hc : (B.getD (d.getD (t - 1) default).toNat default).Style.Order > (B.getD i default).Style.Order
      · rw [decide_eq_true hc]
        simp only [g_ref19_Order_j1, if_true]
        rw [wn (n := (t : Int) - 1) (k := t - 1) (by omega) (by omega)]
        refine ih (t - 1) (by omega) (by omega) (fun k hk hk2 => ?_)
        rcases Nat.lt_or_ge k t with q | q
        · obtain rfl : k = t - 1 := by omega
          left; omega
        · exact h2 k q hk2
      · rw [decide_eq_false hc]
        refine put false rfl (fun k hk hk2 => ?_)
        have hlast : QSort.R (key B) (QSort.at_ d (t - 1)) i := by
          unfold QSort.R
          have : QSort.at_ d (t - 1) < (i : Int) := hmem.2
          omega
        rcases Nat.lt_or_ge k (t - 1) with q | q
        · exact (QSort.pw_at hs q (by omega)).trans hlast
        · obtain rfl : k = t - 1 := by omega
          exact hlast
    · rw [iteF (by omega)]
      exact put false rfl (fun k hk => by omega)
theorem r_loop (K : Kn) (n : Nat) (hl : B.length ≤ 1000) (hn : 10001 < n) : ∀ (m i : Nat) (d : List Int), i ≤ B.length → B.length < m + i → d.Perm (ix (fl B) i) → d.Pairwise (QSort.R (key B)) →
    ∃ e, Is B e ∧ g_ref19_Order_l4 K n B m (i : Int) d = some e := by
  intro m
  induction m with
  | zero => intro i d h1 h2; omega
  | succ m ih =>
    intro i d h1 h2 hp hs
    simp only [g_ref19_Order_l4, g_ref19_Order_l4_b]
    by_cases hi : i < B.length
    · have il := ix_len (fl B) i
      have es := ix_succ (fl B) i
      have dl := hp.length_eq
      rw [iteT (by omega), chk_inb (by omega), tnat, in_def, sb]
      simp only [g_ref19_Order_j3]
      rw [wn (n := (i : Int) + 1) (k := i + 1) (by omega) (by omega)]
      cases hq : inM (B.getD i default)
      · simp only [Bool.not_false, if_true]
        exact ih (i + 1) d (by omega) (by omega) (by rw [es, if_neg (by unfold fl; rw [hq]; simp), List.append_nil]; exact hp) hs
      · simp only [Bool.not_true, Bool.false_eq_true, if_false]
        obtain ⟨e, e1, e2, e3⟩ := r_in B K n hl i hi d (by omega) hs (fun x hx => by
          obtain ⟨k, hk, rfl, _⟩ := ix_mem.1 (hp.mem_iff.1 hx); omega) (g_ref19_Order_l4 K n B m) n d.length (by omega) (Nat.le_refl _) (fun k h3 h4 => by omega)
        rw [e3]
        refine ih (i + 1) e (by omega) (by omega) ?_ e2
        rw [es, if_pos (by unfold fl; rw [hq])]
        exact e1.trans (hp.append_right _)
    · obtain rfl : i = B.length := by omega
      rw [iteF (by omega)]
      exact ⟨d, ⟨hp, hs⟩, rfl⟩
theorem ref_ok (K : Kn) {n : Nat} (hl : B.length ≤ 1000) (hn : 10001 < n) : ∃ d, Is B d ∧ g_ref19_Order K n B = some d := by
  obtain ⟨e, h1, h2⟩ := r_loop B K n hl hn n 0 [] (by omega) (by omega) (by simp [ix]) (by simp)
  exact ⟨e, h1, h2⟩
theorem ord_both (hl : B.length ≤ 1000) {lvl n : Nat} (hn : 10001 < n) (hlv : 20010 ≤ lvl) : ∃ d, Is B d ∧ g_flex_Order (KN lvl) n B = some d ∧ ∀ (K : Kn) (j : Nat), 10001 < j → g_ref19_Order K j B = some d := by
  obtain ⟨d, h1, h2⟩ := flex_ok B hl hn hlv
  refine ⟨d, h1, h2, fun K j hj => ?_⟩
  obtain ⟨e, h3, h4⟩ := ref_ok B K (n := j) hl hj
  rw [h4, h3.uniq h1]
end Od
end Go.Proofs.Ytlpndemhnpajiaa

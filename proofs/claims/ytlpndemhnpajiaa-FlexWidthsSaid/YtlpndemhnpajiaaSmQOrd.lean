/- Layer 19, plain: the order of items, of the program and of the reference. No program in sight. -/
import Derived.Test.YtlpndemhnpajiaaSmQSortD
import Derived.Test.YtlpndemhnpajiaaSmQShareA
import Derived.Test.YtlpndemhnpajiaaSmQLayA
namespace Go.Proofs.Ytlpndemhnpajiaa
set_option linter.all false
open Go.RowKit
namespace Od
open QSort (wn chk_inb iteT iteF iteB iteC sb)
def ix (p : Nat → Bool) (n : Nat) : List Int := ((List.range n).filter p).map fun (k : Nat) => (k : Int)
theorem ix_succ (p : Nat → Bool) (n : Nat) : ix p (n + 1) = ix p n ++ if p n = true then [(n : Int)] else [] := by
  unfold ix
  rw [List.range_succ, List.filter_append, List.map_append]
  congr 1
  cases h : p n <;> simp only [List.filter_cons, List.filter_nil, h, if_true, Bool.false_eq_true, if_false, List.map_cons, List.map_nil]
theorem ix_mem {p : Nat → Bool} {n : Nat} {x : Int} : x ∈ ix p n ↔ ∃ k : Nat, k < n ∧ x = k ∧ p k = true := by
  simp only [ix, List.mem_map, List.mem_filter, List.mem_range]
  constructor
  · rintro ⟨k, ⟨h1, h2⟩, rfl⟩; exact ⟨k, h1, rfl, h2⟩
  · rintro ⟨k, h1, rfl, h2⟩; exact ⟨k, ⟨h1, h2⟩, rfl⟩
theorem ix_len (p : Nat → Bool) (n : Nat) : (ix p n).length ≤ n := by
  unfold ix
  rw [List.length_map]
  have := List.length_filter_le p (List.range n)
  rw [List.length_range] at this; exact this
theorem ix_lt (p : Nat → Bool) (n : Nat) : (ix p n).Pairwise (· < ·) := by
  unfold ix
  rw [List.pairwise_map]
  refine List.Pairwise.imp (fun h => ?_) (List.Pairwise.filter _ List.pairwise_lt_range)
  omega
variable (B : List TBoxtreeBox)
def fl (k : Nat) : Bool := inM (B.getD k default)
def key (a : Int) : Int := (B.getD a.toNat default).Style.Order
structure Is (d : List Int) : Prop where
  p : d.Perm (ix (fl B) B.length)
  s : d.Pairwise (QSort.R (key B))
variable {B}
theorem Is.mem {d : List Int} (h : Is B d) {x : Int} (hx : x ∈ d) : ∃ k : Nat, k < B.length ∧ x = k ∧ inM (B.getD k default) = true := ix_mem.1 (h.p.mem_iff.1 hx)
theorem Is.len {d : List Int} (h : Is B d) : d.length ≤ B.length := by rw [h.p.length_eq]; exact ix_len _ _
variable (B)
theorem cmp_ok (m : Nat) : QSort.Cmp (KN (m + 1)) (Fv.c45 B) (fun a => 0 ≤ a ∧ a < B.length) (key B) := by
  refine ⟨fun a b ha hb => ?_⟩
  show ∃ c, g_flex_Order_1 (KN m) m a b B = some c ∧ _
  unfold g_flex_Order_1
  rw [chk_inb ha, chk_inb hb]
  simp only [g_cmp_Compare_int, g_cmp_isNaN_int, sb, bne_self_eq_false, Bool.false_eq_true, if_false, key]
  by_cases h1 : (B.getD a.toNat default).Style.Order < (B.getD b.toNat default).Style.Order
  · rw [iteT h1]; exact ⟨-1, rfl, by omega⟩
  · rw [iteF h1]
    by_cases h2 : (B.getD a.toNat default).Style.Order > (B.getD b.toNat default).Style.Order
    · rw [iteT h2]; exact ⟨1, rfl, by omega⟩
    · rw [iteF h2]; exact ⟨0, rfl, by omega⟩
theorem f_loop (K : Kn) (n : Nat) (hl : B.length ≤ 1000) : ∀ (m i : Nat), i ≤ B.length → B.length < m + i →
    g_flex_Order_l2 K n B m (i : Int) (ix (fl B) i) = g_slices_SortStableFunc_int_int K n (ix (fl B) B.length) (Fv.c45 B) := by
  intro m
  induction m with
  | zero => intro i h1 h2; omega
  | succ m ih =>
    intro i h1 h2
    simp only [g_flex_Order_l2, g_flex_Order_l2_b]
    by_cases hi : i < B.length
    · have il := ix_len (fl B) i
      have es := ix_succ (fl B) i
      have ih := ih (i + 1) (by omega) (by omega)
      rw [iteT (by omega), chk_inb (by omega), tnat, flow_def, sb]
      simp only [g_flex_Order_j1, wn (n := (i : Int) + 1) (k := i + 1) (by omega) (by omega)]
      cases hp : inM (B.getD i default)
      · rw [if_neg (by simp)]
        rw [es, if_neg (by unfold fl; rw [hp]; simp), List.append_nil] at ih
        exact ih
      · rw [if_pos rfl, fits_of (by simp only [List.length_cons, List.length_nil]; omega) (by omega), chk_true]
        rw [es, if_pos (by unfold fl; rw [hp])] at ih
        exact ih
    · obtain rfl : i = B.length := by omega
      rw [iteF (by omega)]
      cases g_slices_SortStableFunc_int_int K n (ix (fl B) B.length) (Fv.c45 B) <;> rfl
theorem flex_ok (hl : B.length ≤ 1000) {lvl n : Nat} (hn : 10001 < n) (hlv : 20010 ≤ lvl) : ∃ d, Is B d ∧ g_flex_Order (KN lvl) n B = some d := by
  have il := ix_len (fl B) B.length
  obtain ⟨d, h1, h2, h3⟩ := QSort.sort_ok (c0 := 1) (f := Fv.c45 B) (D := fun a => 0 ≤ a ∧ a < B.length) (key := key B) (fun m hm => by
    obtain ⟨k, rfl⟩ : ∃ k, m = k + 1 := ⟨m - 1, by omega⟩
    exact cmp_ok B k) (lvl := lvl) (n := n) (ix (fl B) B.length) hn (by omega) (ix_lt _ _) (fun x hx => by
      obtain ⟨k, hk, rfl, _⟩ := ix_mem.1 hx; omega) (by omega)
  refine ⟨d, ⟨h1, h2⟩, ?_⟩
  have := f_loop B (KN lvl) n hl n 0 (by omega) (by omega)
  unfold g_flex_Order
  rw [show ix (fl B) 0 = [] from rfl, show ((0 : Nat) : Int) = 0 from rfl] at this
  rw [this]; exact h3
end Od
end Go.Proofs.Ytlpndemhnpajiaa

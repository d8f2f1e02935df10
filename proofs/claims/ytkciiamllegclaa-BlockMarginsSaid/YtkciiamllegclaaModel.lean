/- What the functions of layer 17 compute, as plain functions on numbers and cells. No program in sight. -/
import Derived.Test.YtkciiamllegclaaBase
namespace Go.Proofs.Ytkciiamllegclaa
open Go.ChangeShapes Go.WideShapes Go.ChangeAt Go.RowKit

/-- A number from 0 to the greatest size. -/
def lim (n : Int) : Int := min (max n 0) 1048576
/-- A length in pixels: its number, and whether it is one. -/
def lenM (k v base : Int) : Int × Bool :=
  if k = 1 then (min (max v (-1048576)) 1048576, true)
  else if k = 2 then (min (max ((min (max base 0) 1048576 * (min (max v (-1000000)) 1000000)).tdiv 10000) (-1048576)) 1048576, true)
  else (0, false)
theorem lenM_px (v base : Int) : lenM 1 v base = (min (max v (-1048576)) 1048576, true) := by simp [lenM]
theorem lenM_pc (v base : Int) : lenM 2 v base = (min (max ((min (max base 0) 1048576 * (min (max v (-1000000)) 1000000)).tdiv 10000) (-1048576)) 1048576, true) := by simp [lenM]
theorem lenM_no {k : Int} (h1 : ¬ k = 1) (h2 : ¬ k = 2) (v base : Int) : lenM k v base = (0, false) := by simp [lenM, h1, h2]
theorem lenM_bd (k v base : Int) : -1048576 ≤ (lenM k v base).1 ∧ (lenM k v base).1 ≤ 1048576 := by
  unfold lenM
  split
  · simp only []; omega
  · split
    · simp only []; omega
    · simp
theorem lenM_lim (k v base : Int) : lenM k v (lim base) = lenM k v base := by
  unfold lenM lim
  have : min (max (min (max base 0) 1048576) 0) 1048576 = min (max base 0) 1048576 := by omega
  rw [this]
theorem mul_bd (x y : Int) : -1048576000000 ≤ min (max x 0) 1048576 * min (max y (-1000000)) 1000000 ∧ min (max x 0) 1048576 * min (max y (-1000000)) 1000000 ≤ 1048576000000 := by
  have h0 : 0 ≤ min (max x 0) 1048576 := by omega
  have h1 : min (max x 0) 1048576 ≤ 1048576 := by omega
  have h2 : -1000000 ≤ min (max y (-1000000)) 1000000 := by omega
  have h3 : min (max y (-1000000)) 1000000 ≤ 1000000 := by omega
  generalize min (max x 0) 1048576 = a at *
  generalize min (max y (-1000000)) 1000000 = b at *
  constructor
  · have := Int.mul_le_mul_of_nonneg_left h2 h0
    omega
  · have := Int.mul_le_mul_of_nonneg_left h3 h0
    omega
theorem tdiv_bd (p k : Int) (hk : 1 ≤ k) : min p 0 ≤ p.tdiv k ∧ p.tdiv k ≤ max p 0 := by
  rcases Int.le_total 0 p with h | h
  · rw [Int.tdiv_eq_ediv_of_nonneg h]
    have h1 := Int.ediv_nonneg h (show 0 ≤ k by omega)
    have h2 := Int.ediv_le_self k h
    omega
  · have e : p.tdiv k = -((-p).tdiv k) := by rw [Int.neg_tdiv]; omega
    rw [e, Int.tdiv_eq_ediv_of_nonneg (by omega : 0 ≤ -p)]
    have h1 := Int.ediv_nonneg (show 0 ≤ -p by omega) (show 0 ≤ k by omega)
    have h2 := Int.ediv_le_self k (show 0 ≤ -p by omega)
    omega
theorem wrap_mul (x y : Int) : wrap64 ((wrap64 (min (max x 0) 1048576 * min (max y (-1000000)) 1000000)).tdiv 10000) = (min (max x 0) 1048576 * min (max y (-1000000)) 1000000).tdiv 10000 := by
  have h := mul_bd x y
  generalize min (max x 0) 1048576 * min (max y (-1000000)) 1000000 = p at *
  rw [IntWalk.wrap64_in p ⟨by omega, by omega⟩]
  have hq := tdiv_bd p 10000 (by omega)
  exact IntWalk.wrap64_in _ ⟨by omega, by omega⟩

/-! ### A style's cells -/
def clampM (cs : Array Value) (width content : Int) : Int :=
  if (lenM (gi cs 10) (gi cs 11) width).2 = true then
    max (if (lenM (gi cs 12) (gi cs 13) width).2 = true then min (max content 0) (max (lenM (gi cs 12) (gi cs 13) width).1 0) else max content 0) (lenM (gi cs 10) (gi cs 11) width).1
  else (if (lenM (gi cs 12) (gi cs 13) width).2 = true then min (max content 0) (max (lenM (gi cs 12) (gi cs 13) width).1 0) else max content 0)
theorem clampM_lim (cs : Array Value) (width content : Int) : clampM cs (lim width) content = clampM cs width content := by
  unfold clampM; simp only [lenM_lim]
theorem clampM_bd (cs : Array Value) (width content : Int) : 0 ≤ clampM cs width content ∧ clampM cs width content ≤ max content 1048576 := by
  have h1 := lenM_bd (gi cs 10) (gi cs 11) width
  have h2 := lenM_bd (gi cs 12) (gi cs 13) width
  unfold clampM
  split <;> split <;> omega

structure Sz where
  m0 : Int
  m1 : Int
  m2 : Int
  m3 : Int
  b0 : Int
  b1 : Int
  b2 : Int
  b3 : Int
  p0 : Int
  p1 : Int
  p2 : Int
  p3 : Int
  c : Int
@[reducible] def Sz.cells (z : Sz) : Array Value := #[.int .i64 z.m0, .int .i64 z.m1, .int .i64 z.m2, .int .i64 z.m3, .int .i64 z.b0, .int .i64 z.b1, .int .i64 z.b2, .int .i64 z.b3, .int .i64 z.p0, .int .i64 z.p1, .int .i64 z.p2, .int .i64 z.p3, .int .i64 z.c]
theorem Sz.one (z : Sz) : z.cells.all (·.oneCell') = true := by simp [Sz.cells, Value.oneCell']
/-- The whole width without the content. -/
def Sz.edges (z : Sz) : Int := z.m1 + z.m3 + z.b1 + z.b3 + z.p1 + z.p3
def Sz.sum (z : Sz) : Int := z.c + z.m1 + z.m3 + z.b1 + z.b3 + z.p1 + z.p3
/-- All numbers are small. -/
structure Sz.Small (z : Sz) : Prop where
  m0 : -1099511627776 ≤ z.m0 ∧ z.m0 ≤ 1099511627776
  m1 : -1099511627776 ≤ z.m1 ∧ z.m1 ≤ 1099511627776
  m2 : -1099511627776 ≤ z.m2 ∧ z.m2 ≤ 1099511627776
  m3 : -1099511627776 ≤ z.m3 ∧ z.m3 ≤ 1099511627776
  b0 : 0 ≤ z.b0 ∧ z.b0 ≤ 1048576
  b1 : 0 ≤ z.b1 ∧ z.b1 ≤ 1048576
  b2 : 0 ≤ z.b2 ∧ z.b2 ≤ 1048576
  b3 : 0 ≤ z.b3 ∧ z.b3 ≤ 1048576
  p0 : 0 ≤ z.p0 ∧ z.p0 ≤ 1048576
  p1 : 0 ≤ z.p1 ∧ z.p1 ≤ 1048576
  p2 : 0 ≤ z.p2 ∧ z.p2 ≤ 1048576
  p3 : 0 ≤ z.p3 ∧ z.p3 ≤ 1048576
  c : -1099511627776 ≤ z.c ∧ z.c ≤ 1099511627776
def edgesM (cs : Array Value) (width content : Int) : Sz where
  m0 := (lenM (gi cs 14) (gi cs 15) width).1
  m1 := (lenM (gi cs 16) (gi cs 17) width).1
  m2 := (lenM (gi cs 18) (gi cs 19) width).1
  m3 := (lenM (gi cs 20) (gi cs 21) width).1
  b0 := min (max (gi cs 30) 0) 1048576
  b1 := min (max (gi cs 31) 0) 1048576
  b2 := min (max (gi cs 32) 0) 1048576
  b3 := min (max (gi cs 33) 0) 1048576
  p0 := max (lenM (gi cs 22) (gi cs 23) width).1 0
  p1 := max (lenM (gi cs 24) (gi cs 25) width).1 0
  p2 := max (lenM (gi cs 26) (gi cs 27) width).1 0
  p3 := max (lenM (gi cs 28) (gi cs 29) width).1 0
  c := content
theorem edgesM_small (cs : Array Value) (width content : Int) (h : -1099511627776 ≤ content ∧ content ≤ 1099511627776) : (edgesM cs width content).Small := by
  have a := fun k v => lenM_bd k v width
  have pos : ∀ k v, 0 ≤ max (lenM k v width).1 0 ∧ max (lenM k v width).1 0 ≤ 1048576 := fun k v => by have := a k v; omega
  have mar : ∀ k v, -1099511627776 ≤ (lenM k v width).1 ∧ (lenM k v width).1 ≤ 1099511627776 := fun k v => by have := a k v; omega
  have bor : ∀ n : Int, 0 ≤ min (max n 0) 1048576 ∧ min (max n 0) 1048576 ≤ 1048576 := fun n => by omega
  exact ⟨mar _ _, mar _ _, mar _ _, mar _ _, bor _, bor _, bor _, bor _, pos _ _, pos _ _, pos _ _, pos _ _, h⟩
theorem edgesM_lim (cs : Array Value) (width content : Int) : edgesM cs (lim width) content = edgesM cs width content := by
  unfold edgesM; simp only [lenM_lim]
/-- The used sizes before the auto margins get the rest. -/
def used0 (cs : Array Value) (width : Int) : Sz :=
  { edgesM cs width 0 with c := clampM cs width (if (lenM (gi cs 6) (gi cs 7) width).2 = true then (lenM (gi cs 6) (gi cs 7) width).1 else lim width - (edgesM cs width 0).sum) }
/-- The used sizes. -/
def usedM (cs : Array Value) (width : Int) : Sz :=
  if lim width - (used0 cs width).sum ≤ 0 then used0 cs width
  else if (lenM (gi cs 20) (gi cs 21) width).2 = false then
    (if (lenM (gi cs 16) (gi cs 17) width).2 = false then
      { used0 cs width with m3 := (lim width - (used0 cs width).sum) / 2, m1 := lim width - (used0 cs width).sum - (lim width - (used0 cs width).sum) / 2 }
    else { used0 cs width with m3 := lim width - (used0 cs width).sum })
  else (if (lenM (gi cs 16) (gi cs 17) width).2 = false then { used0 cs width with m1 := lim width - (used0 cs width).sum }
    else used0 cs width)
theorem used0_small (cs : Array Value) (width : Int) : (used0 cs width).Small := by
  have h := edgesM_small cs width 0 (by omega)
  have hb := clampM_bd cs width (if (lenM (gi cs 6) (gi cs 7) width).2 = true then (lenM (gi cs 6) (gi cs 7) width).1 else lim width - (edgesM cs width 0).sum)
  have hl := lenM_bd (gi cs 6) (gi cs 7) width
  have a := fun k v => lenM_bd k v width
  have e1 : -8388608 ≤ (edgesM cs width 0).sum := by
    have := a (gi cs 16) (gi cs 17); have := a (gi cs 20) (gi cs 21)
    show -8388608 ≤ 0 + (lenM (gi cs 16) (gi cs 17) width).1 + (lenM (gi cs 20) (gi cs 21) width).1 + min (max (gi cs 31) 0) 1048576 + min (max (gi cs 33) 0) 1048576 + max (lenM (gi cs 24) (gi cs 25) width).1 0 + max (lenM (gi cs 28) (gi cs 29) width).1 0
    omega
  have e2 : lim width ≤ 1048576 := by unfold lim; omega
  have hc : -1099511627776 ≤ (used0 cs width).c ∧ (used0 cs width).c ≤ 1099511627776 := by
    refine ⟨by show _ ≤ clampM _ _ _; omega, ?_⟩
    show clampM _ _ _ ≤ _
    have hn : (if (lenM (gi cs 6) (gi cs 7) width).2 = true then (lenM (gi cs 6) (gi cs 7) width).1 else lim width - (edgesM cs width 0).sum) ≤ 16777216 := by split <;> omega
    omega
  exact ⟨h.m0, h.m1, h.m2, h.m3, h.b0, h.b1, h.b2, h.b3, h.p0, h.p1, h.p2, h.p3, hc⟩
theorem used0_sum_bd (cs : Array Value) (width : Int) : -2097152 ≤ (used0 cs width).sum ∧ (used0 cs width).sum ≤ 2199023255552 := by
  have h := used0_small cs width
  have hb := (clampM_bd cs width (if (lenM (gi cs 6) (gi cs 7) width).2 = true then (lenM (gi cs 6) (gi cs 7) width).1 else lim width - (edgesM cs width 0).sum)).1
  have a1 := lenM_bd (gi cs 16) (gi cs 17) width
  have a3 := lenM_bd (gi cs 20) (gi cs 21) width
  have := h.b1; have := h.b3; have := h.p1; have := h.p3; have := h.c
  have hc : 0 ≤ (used0 cs width).c := hb
  have hm1 : (used0 cs width).m1 = (lenM (gi cs 16) (gi cs 17) width).1 := rfl
  have hm3 : (used0 cs width).m3 = (lenM (gi cs 20) (gi cs 21) width).1 := rfl
  unfold Sz.sum
  omega
theorem usedM_small (cs : Array Value) (width : Int) : (usedM cs width).Small := by
  have h := used0_small cs width
  have hs := used0_sum_bd cs width
  have e2 : lim width ≤ 1048576 := by unfold lim; omega
  unfold usedM
  split
  · exact h
  · rename_i hr
    split <;> split
    · exact { h with m1 := ⟨by simp only []; omega, by simp only []; omega⟩, m3 := ⟨by simp only []; omega, by simp only []; omega⟩ }
    · exact { h with m3 := ⟨by simp only []; omega, by simp only []; omega⟩ }
    · exact { h with m1 := ⟨by simp only []; omega, by simp only []; omega⟩ }
    · exact h
theorem usedM_c (cs : Array Value) (width : Int) : (usedM cs width).c = (used0 cs width).c := by
  unfold usedM; split
  · rfl
  · split <;> split <;> rfl
theorem usedM_lim (cs : Array Value) (width : Int) : usedM cs (lim width) = usedM cs width := by
  have e : lim (lim width) = lim width := by unfold lim; omega
  unfold usedM used0; simp only [lenM_lim, edgesM_lim, clampM_lim, e]
end Go.Proofs.Ytkciiamllegclaa

/- Layer 17: Edges of the program and of the reference. -/
import Derived.Test.YtkciiamllegclaaSize
import Derived.Deep.LoopGhost
namespace Go.Proofs.Ytkciiamllegclaa
open Go.ChangeShapes Go.WideShapes Go.ChangeAt Go.RowKit
attribute [local go_sem ↓ high] run_max_i run_min_i

/-- The cells of the sizes when k of the four sides are done. -/
def edgeK (cs : Array Value) (width content : Int) (k : Nat) : Array Value :=
  #[.int .i64 (if 0 < k then (edgesM cs width content).m0 else 0), .int .i64 (if 1 < k then (edgesM cs width content).m1 else 0), .int .i64 (if 2 < k then (edgesM cs width content).m2 else 0), .int .i64 (if 3 < k then (edgesM cs width content).m3 else 0),
    .int .i64 (if 0 < k then (edgesM cs width content).b0 else 0), .int .i64 (if 1 < k then (edgesM cs width content).b1 else 0), .int .i64 (if 2 < k then (edgesM cs width content).b2 else 0), .int .i64 (if 3 < k then (edgesM cs width content).b3 else 0),
    .int .i64 (if 0 < k then (edgesM cs width content).p0 else 0), .int .i64 (if 1 < k then (edgesM cs width content).p1 else 0), .int .i64 (if 2 < k then (edgesM cs width content).p2 else 0), .int .i64 (if 3 < k then (edgesM cs width content).p3 else 0), .int .i64 content]

theorem four {k : Nat} (h : k < 4) : k = 0 ∨ k = 1 ∨ k = 2 ∨ k = 3 := by omega
theorem Sty.marg {cs : Array Value} (h : Sty cs) {k : Nat} (hk : k < 4) : cs[14 + k * 2]? = some (.int .i64 (gi cs (14 + k * 2))) ∧ cs[14 + k * 2 + 1]? = some (.int .i64 (gi cs (14 + k * 2 + 1))) := by
  rcases four hk with rfl | rfl | rfl | rfl <;> exact ⟨h.i _, h.i _⟩
theorem Sty.pad {cs : Array Value} (h : Sty cs) {k : Nat} (hk : k < 4) : cs[22 + k * 2]? = some (.int .i64 (gi cs (22 + k * 2))) ∧ cs[22 + k * 2 + 1]? = some (.int .i64 (gi cs (22 + k * 2 + 1))) := by
  rcases four hk with rfl | rfl | rfl | rfl <;> exact ⟨h.i _, h.i _⟩
theorem Sty.bord {cs : Array Value} (h : Sty cs) {k : Nat} (hk : k < 4) : cs[30 + k]? = some (.int .i64 (gi cs (30 + k))) := by
  rcases four hk with rfl | rfl | rfl | rfl <;> exact h.i _
/-- One side more. -/
theorem edgeK_succ (cs : Array Value) (width content : Int) {k : Nat} (hk : k < 4) :
    (((edgeK cs width content k).setIfInBounds k (.int .i64 (lenM (gi cs (14 + k * 2)) (gi cs (14 + k * 2 + 1)) width).1)).setIfInBounds (4 + k) (.int .i64 (min (max (gi cs (30 + k)) 0) 1048576))).setIfInBounds (8 + k) (.int .i64 (max (lenM (gi cs (22 + k * 2)) (gi cs (22 + k * 2 + 1)) width).1 0)) = edgeK cs width content (k + 1) := by
  rcases four hk with rfl | rfl | rfl | rfl <;> rfl
theorem redgeK_succ (cs : Array Value) (width content : Int) {k : Nat} (hk : k < 4) :
    (((edgeK cs width content k).setIfInBounds k (.int .i64 (lenM (gi cs (14 + k * 2)) (gi cs (14 + k * 2 + 1)) width).1)).setIfInBounds (8 + k) (.int .i64 (max (lenM (gi cs (22 + k * 2)) (gi cs (22 + k * 2 + 1)) width).1 0))).setIfInBounds (4 + k) (.int .i64 (min (max (gi cs (30 + k)) 0) 1048576)) = edgeK cs width content (k + 1) := by
  rcases four hk with rfl | rfl | rfl | rfl <;> rfl
theorem edgeK_some (cs : Array Value) (width content : Int) (k i : Nat) (hi : i < 13) : ∃ v, (edgeK cs width content k)[i]? = some v := ⟨_, Array.getElem?_eq_getElem (by simpa [edgeK] using hi)⟩
theorem edgeK_four (cs : Array Value) (width content : Int) : edgeK cs width content 4 = (edgesM cs width content).cells := rfl

set_option maxHeartbeats 1000000 in
theorem edges_c (cs : Array Value) (width content : Int) (w : World) (hs : Sty cs) :
    Calls Try.prog 24 #[.agg cs, .int .i64 width, .int .i64 content] w fun e w' => e = .returned (.agg (edgesM cs width content).cells) ∧ Below w.heap.size w w' := by
  go_enter Try.func24, Try.ntmps24
  go_wp2_with fail
  go_loopw [13] (fun i wr => ∃ k : Nat, k ≤ 4 ∧ i = .int .i64 k ∧ Hid (Blk wr w.heap.size 35 cs) ∧ Hid (Blk wr (w.heap.size + 1) 44 (edgeK cs width 0 0)) ∧ Hid (Blk wr (w.heap.size + 1 + 1) 44 (edgeK cs width content k)) ∧ Hid (Below w.heap.size w wr)) (fun i _ => 4 - (intOf i).toNat)
  case atStart => exact ⟨0, by omega, rfl, Lib.hid (nb3_1 _ _ _ rfl), Lib.hid (nb3_2 _ _ _ rfl), Lib.hid (nb3_3 _ _ _ rfl), Lib.hid (bl3 _ _ _ _)⟩
  case round =>
    obtain ⟨k, hk, rfl, hB0, hB1, hB2, hB⟩ := hrel
    have hz := hB2.out.lt
    by_cases hlt : k < 4
    · have c0 := hB0.out.cell
      have c2 := hB2.out.cell
      have f2 := hB2.out.frozen
      obtain ⟨m1, m2⟩ := hs.marg hlt
      obtain ⟨q1, q2⟩ := hs.pad hlt
      have b1 := hs.bord hlt
      obtain ⟨v0, e0⟩ := edgeK_some cs width content k k (by omega)
      obtain ⟨v1, e1⟩ := edgeK_some cs width content k (4 + k) (by omega)
      obtain ⟨v2, e2⟩ := edgeK_some cs width content k (8 + k) (by omega)
      go_wp2_with fail
      refine (len_c _ _ _ _).mono ?_
      rintro e w1 ⟨rfl, hb1⟩
      clear c0 c2 f2
      have hA0 := Lib.hid (hB0.out.below' hb1)
      have hA1 := Lib.hid (hB1.out.below' hb1)
      have hA2 := Lib.hid (hB2.out.below' hb1)
      have hA := Lib.hid (hB.out.trans (hb1.mono (by omega)))
      have c0 := hA0.out.cell
      have c2 := hA2.out.cell
      have f2 := hA2.out.frozen
      have hz1 := hb1.size
      clear hb1
      go_wp2_with (go_at_call 52; refine (lim_c _ _).mono ?_; rintro e w' ⟨rfl, rfl⟩)
      refine (len_c _ _ _ _).mono ?_
      rintro e w2 ⟨rfl, hb2⟩
      clear c0 c2 f2
      have hC0 := Lib.hid (((hA0.out.far (by dsimp only; omega) _).far (by dsimp only; omega) _).below' hb2)
      have hC1 := Lib.hid (((hA1.out.far (by dsimp only; omega) _).far (by dsimp only; omega) _).below' hb2)
      have hC2 := Lib.hid (((hA2.out.set_ _ _).set_ _ _).below' hb2)
      have hC := Lib.hid (((hA.out.setCell (by simp; omega) _).setCell (by simp; omega) _).trans (hb2.mono (by simp; omega)))
      clear hb2 hA0 hA1 hA2 hA hB0 hB1 hB2 hB
      have c2 := hC2.out.cell
      have f2 := hC2.out.frozen
      go_wp2_with fail
      rename_i hk'
      go_roundw
      case rel => exact ⟨k + 1, by omega, by go_num, Lib.hid (hC0.out.far (by dsimp only; omega) _), Lib.hid (hC1.out.far (by dsimp only; omega) _), Lib.hid (edgeK_succ cs width content hlt ▸ hC2.out.set_ _ _), Lib.hid (hC.out.setCell (by dsimp only; omega) _)⟩
      case measure => simp [intOf]; omega
    · obtain rfl : k = 4 := by omega
      rw [edgeK_four] at hB2
      go_wp2_with (first | (refine wpList_load_row (by rfl) 44 _ (by rfl) (w.heap.size + 1 + 1) (by rfl) 44 _ (0, 0) _ hB2.out Try.underlying44 (by rfl) (by kernel_rfl) ?_) | (refine wpList_store_row (by rfl) 44 _ _ (by rfl) (w.heap.size + 1) _ (by rfl) (by rfl) 44 _ hB1.out (by kernel_rfl) (by rfl) (Sz.one _) ?_))
      refine bodyPost_ret (v := .agg (edgesM cs width content).cells) (results_cell_row Try.results24 _ _ (w.heap.size + 1) 44 _ (0, 0) _ (by rfl) (hB1.out.row _) Try.underlying44 rfl (by kernel_rfl)) (by rfl) ?_
      exact ⟨rfl, below_row hB.out (by omega) _⟩

set_option maxHeartbeats 1000000 in
theorem redges_c (cs : Array Value) (width content : Int) (w : World) (hs : Sty cs) :
    Calls Try.prog 25 #[.agg cs, .int .i64 width, .int .i64 content] w fun e w' => e = .returned (.agg (edgesM cs width content).cells) ∧ Below w.heap.size w w' := by
  go_enter Try.func25, Try.ntmps25
  go_wp2_with fail
  go_loopw [8] (fun i wr => ∃ k : Nat, k ≤ 4 ∧ i = .int .i64 k ∧ Hid (Blk wr w.heap.size 35 cs) ∧ Hid (Blk wr (w.heap.size + 1) 44 (edgeK cs width 0 0)) ∧ Hid (Blk wr (w.heap.size + 1 + 1) 44 (edgeK cs width content k)) ∧ Hid (Below w.heap.size w wr)) (fun i _ => 4 - (intOf i).toNat)
  case atStart => exact ⟨0, by omega, rfl, Lib.hid (nb3_1 _ _ _ rfl), Lib.hid (nb3_2 _ _ _ rfl), Lib.hid (nb3_3 _ _ _ rfl), Lib.hid (bl3 _ _ _ _)⟩
  case round =>
    obtain ⟨k, hk, rfl, hB0, hB1, hB2, hB⟩ := hrel
    have hz := hB2.out.lt
    by_cases hlt : k < 4
    · have c0 := hB0.out.cell
      obtain ⟨m1, m2⟩ := hs.marg hlt
      obtain ⟨q1, q2⟩ := hs.pad hlt
      have b1 := hs.bord hlt
      obtain ⟨v0, e0⟩ := edgeK_some cs width content k k (by omega)
      obtain ⟨v1, e1⟩ := edgeK_some cs width content k (4 + k) (by omega)
      obtain ⟨v2, e2⟩ := edgeK_some cs width content k (8 + k) (by omega)
      go_wp2_with fail
      refine (rlen_c _ _ _ _).mono ?_
      rintro e w1 ⟨rfl, hb1⟩
      clear c0
      have hA0 := Lib.hid (hB0.out.below' hb1)
      have hA1 := Lib.hid (hB1.out.below' hb1)
      have hA2 := Lib.hid (hB2.out.below' hb1)
      have hA := Lib.hid (hB.out.trans (hb1.mono (by omega)))
      have c0 := hA0.out.cell
      have hz1 := hb1.size
      clear hb1
      go_wp2_with fail
      refine (rlen_c _ _ _ _).mono ?_
      rintro e w2 ⟨rfl, hb2⟩
      clear c0
      have hC0 := Lib.hid (hA0.out.below' hb2)
      have hC1 := Lib.hid (hA1.out.below' hb2)
      have hC2 := Lib.hid (hA2.out.below' hb2)
      have hC := Lib.hid (hA.out.trans (hb2.mono (by omega)))
      clear hb2 hA0 hA1 hA2 hA hB0 hB1 hB2 hB
      have c0 := hC0.out.cell
      have c2 := hC2.out.cell
      have f2 := hC2.out.frozen
      go_wp2_with (go_at_call 30; refine (width_c _ _).mono ?_; rintro e w' ⟨rfl, rfl⟩)
      go_roundw
      case rel => exact ⟨k + 1, by omega, by go_num, Lib.hid (((hC0.out.far (by dsimp only; omega) _).far (by dsimp only; omega) _).far (by dsimp only; omega) _), Lib.hid (((hC1.out.far (by dsimp only; omega) _).far (by dsimp only; omega) _).far (by dsimp only; omega) _), Lib.hid (redgeK_succ cs width content hlt ▸ ((hC2.out.set_ _ _).set_ _ _).set_ _ _), Lib.hid (((hC.out.setCell (by dsimp only; omega) _).setCell (by dsimp only; omega) _).setCell (by dsimp only; omega) _)⟩
      case measure => simp [intOf]; omega
    · obtain rfl : k = 4 := by omega
      rw [edgeK_four] at hB2
      go_wp2_with (first | (refine wpList_load_row (by rfl) 44 _ (by rfl) (w.heap.size + 1 + 1) (by rfl) 44 _ (0, 0) _ hB2.out Try.underlying44 (by rfl) (by kernel_rfl) ?_) | (refine wpList_store_row (by rfl) 44 _ _ (by rfl) (w.heap.size + 1) _ (by rfl) (by rfl) 44 _ hB1.out (by kernel_rfl) (by rfl) (Sz.one _) ?_))
      refine bodyPost_ret (v := .agg (edgesM cs width content).cells) (results_cell_row Try.results25 _ _ (w.heap.size + 1) 44 _ (0, 0) _ (by rfl) (hB1.out.row _) Try.underlying44 rfl (by kernel_rfl)) (by rfl) ?_
      exact ⟨rfl, below_row hB.out (by omega) _⟩
end Go.Proofs.Ytkciiamllegclaa

/- Layer 17: Used of the program and of the reference: the used sizes. -/
import Derived.Test.YtkciiamllegclaaEdge
namespace Go.Proofs.Ytkciiamllegclaa
open Go.ChangeShapes Go.WideShapes Go.ChangeAt Go.RowKit
attribute [local go_sem ↓ high] run_max_i run_min_i

theorem sty_info {cs : Array Value} (hs : Sty cs) : (Try.prog.info? 35).map (·.size) = some cs.size := by rw [hs.1]; kernel_rfl
/-- A whole style is read. -/
theorem ld_sty {ops : Array Oper} {rest : List Oper} {o : Oper} {a : Act} {w : World} {Q : Exit → Act → World → Prop} (hgd : o.guard = none) (x : Operand) (ho : o.op = .load 35 x)
    (g : Nat) (hx : a.eval x = .pointer (some ⟨g, 0, none⟩)) {cs : Array Value} (hs : Sty cs) (hg : Blk w g 35 cs)
    (h : wpList Try.prog ops Q rest (a.put o.dst (.agg cs)) w) : wpList Try.prog ops Q (o :: rest) a w :=
  wpList_load_row hgd _ x ho g hx _ cs (0, 0) _ hg Try.underlying35 rfl (sty_info hs) h
/-- Whole sizes are read, and stored. -/
theorem ld_sz {ops : Array Oper} {rest : List Oper} {o : Oper} {a : Act} {w : World} {Q : Exit → Act → World → Prop} (hgd : o.guard = none) (x : Operand) (ho : o.op = .load 44 x)
    (g : Nat) (hx : a.eval x = .pointer (some ⟨g, 0, none⟩)) {z : Sz} (hg : Blk w g 44 z.cells)
    (h : wpList Try.prog ops Q rest (a.put o.dst (.agg z.cells)) w) : wpList Try.prog ops Q (o :: rest) a w :=
  wpList_load_row hgd _ x ho g hx _ z.cells (0, 0) _ hg Try.underlying44 rfl (by kernel_rfl) h
theorem st_sz {ops : Array Oper} {rest : List Oper} {o : Oper} {a : Act} {w : World} {Q : Exit → Act → World → Prop} (hgd : o.guard = none) (x y : Operand) (ho : o.op = .store 44 x y)
    (g : Nat) (hx : a.eval x = .pointer (some ⟨g, 0, none⟩)) {z : Sz} (hy : a.eval y = .agg z.cells) {t : TypeId} {old : Array Value} (hold : old.size = 13) (hg : Blk w g t old)
    (h : wpList Try.prog ops Q rest (a.put o.dst undef) (w.setRow g z.cells)) : wpList Try.prog ops Q (o :: rest) a w :=
  wpList_store_row hgd _ x y ho g z.cells hx hy t old hg (by kernel_rfl) hold (Sz.one z) h
theorem bd_lim (n : Int) : 0 ≤ lim n ∧ lim n ≤ 1048576 := by unfold lim; omega
theorem bd_edges (cs : Array Value) (width : Int) : -16777216 ≤ (edgesM cs width 0).sum ∧ (edgesM cs width 0).sum ≤ 16777216 := by
  have a := fun k v => lenM_bd k v width
  have := a (gi cs 16) (gi cs 17); have := a (gi cs 20) (gi cs 21); have := a (gi cs 24) (gi cs 25); have := a (gi cs 28) (gi cs 29)
  have e : (edgesM cs width 0).sum = 0 + (lenM (gi cs 16) (gi cs 17) width).1 + (lenM (gi cs 20) (gi cs 21) width).1 + min (max (gi cs 31) 0) 1048576 + min (max (gi cs 33) 0) 1048576 + max (lenM (gi cs 24) (gi cs 25) width).1 0 + max (lenM (gi cs 28) (gi cs 29) width).1 0 := rfl
  rw [e]
  omega
theorem used_rest (cs : Array Value) (width : Int) (hr : ¬ lim width - (used0 cs width).sum ≤ 0) : usedM cs width = if (lenM (gi cs 20) (gi cs 21) width).2 = false then
    (if (lenM (gi cs 16) (gi cs 17) width).2 = false then
      { used0 cs width with m3 := (lim width - (used0 cs width).sum) / 2, m1 := lim width - (used0 cs width).sum - (lim width - (used0 cs width).sum) / 2 }
    else { used0 cs width with m3 := lim width - (used0 cs width).sum })
  else (if (lenM (gi cs 16) (gi cs 17) width).2 = false then { used0 cs width with m1 := lim width - (used0 cs width).sum }
    else used0 cs width) := by unfold usedM; rw [if_neg hr]
def zero13 : Sz := ⟨0, 0, 0, 0, 0, 0, 0, 0, 0, 0, 0, 0, 0⟩
/-- Sizes with another width of the content. -/
def Sz.withC (z : Sz) (c : Int) : Sz := { z with c := c }

set_option maxHeartbeats 4000000 in
theorem used_c (cs : Array Value) (width : Int) (w : World) (hs : Sty cs) :
    Calls Try.prog 28 #[.agg cs, .int .i64 width] w fun e w' => e = .returned (.agg (usedM cs width).cells) ∧ Below w.heap.size w w' := by
  go_enter Try.func28, Try.ntmps28
  have S0 := nb2_1 w (.cells zero13.cells 44) (t := 35) (cs' := cs) rfl
  have h6 := hs.i 6
  have h7 := hs.i 7
  have h16 := hs.i 16
  have h17 := hs.i 17
  have h20 := hs.i 20
  have h21 := hs.i 21
  go_wp2_with (first | (refine ld_sty (by rfl) _ (by rfl) _ (by rfl) hs S0 ?_) | (go_at_call 52; refine (lim_c _ _).mono ?_; rintro e w' ⟨rfl, rfl⟩))
  clear S0
  refine (edges_c _ _ _ _ hs).mono ?_
  rintro e w1 ⟨rfl, hb1⟩
  have S1 : Hid (Blk w1 (w.heap.size) 35 (cs)) := Lib.hid ((nb2_1 _ _ rfl).below' hb1)
  have R1 : Hid (Blk w1 (w.heap.size + 1) 44 (zero13.cells)) := Lib.hid ((nb2_2 _ _ rfl).below' hb1)
  have T1 := Lib.hid ((bl2 _ _ _).trans (hb1.mono (by first | omega | (simp <;> omega))))
  have z1 := T1.out.size
  have y1 := hb1.size
  try simp at y1
  clear hb1
  have lS1 := S1.out.lt
  have lR1 := R1.out.lt
  have cS1 := S1.out.cell
  have fS1 := S1.out.frozen
  rw [show min (max width 0) 1048576 = lim width from rfl, edgesM_lim]
  go_wp2_with (refine ld_sty (by rfl) _ (by rfl) _ (by rfl) hs S1.out ?_)
  refine (len_c _ _ _ _).mono ?_
  rintro e w2 ⟨rfl, hb2⟩
  have S2 : Hid (Blk w2 (w.heap.size) 35 (cs)) := Lib.hid ((S1.out.alloc _).below' hb2)
  have R2 : Hid (Blk w2 (w.heap.size + 1) 44 (zero13.cells)) := Lib.hid ((R1.out.alloc _).below' hb2)
  have Z2 : Hid (Blk w2 (w1.heap.size) 44 ((edgesM cs width 0).cells)) := Lib.hid ((nb1_1 _  rfl).below' hb2)
  have T2 := Lib.hid ((T1.out.alloc (by first | omega | (simp <;> omega)) _).trans (hb2.mono (by first | omega | (simp <;> omega))))
  have z2 := T2.out.size
  have y2 := hb2.size
  try simp at y2
  clear hb2 cS1 fS1 S1 R1 T1
  have lS2 := S2.out.lt
  have lR2 := R2.out.lt
  have lZ2 := Z2.out.lt
  rw [lenM_lim]
  by_cases hok : (lenM (gi cs 6) (gi cs 7) width).2 = true
  ·
    have hu : Hid ((used0 cs width).cells = ((edgesM cs width 0).cells).setIfInBounds 12 (.int .i64 (clampM cs width ((lenM (gi cs 6) (gi cs 7) width).1)))) := by
      unfold used0
      simp only [hok, if_true, if_false, Bool.false_eq_true]
      exact rfl
    have be := bd_edges cs width
    have bu := used0_sum_bd cs width
    have bl := bd_lim width
    go_wp2_with (refine ld_sty (by rfl) _ (by rfl) _ (by rfl) hs S2.out ?_)
    refine (clamp_c _ _ _ _ hs).mono ?_
    rintro e w3 ⟨rfl, hb3⟩
    have S3 : Hid (Blk w3 (w.heap.size) 35 (cs)) := Lib.hid (S2.out.below' hb3)
    have R3 : Hid (Blk w3 (w.heap.size + 1) 44 (zero13.cells)) := Lib.hid (R2.out.below' hb3)
    have Z3 : Hid (Blk w3 (w1.heap.size) 44 ((edgesM cs width 0).cells)) := Lib.hid (Z2.out.below' hb3)
    have T3 := Lib.hid (T2.out.trans (hb3.mono (by first | omega | (simp <;> omega))))
    have z3 := T3.out.size
    have y3 := hb3.size
    try simp at y3
    clear hb3 S2 R2 Z2 T2
    have lS3 := S3.out.lt
    have lR3 := R3.out.lt
    have lZ3 := Z3.out.lt
    have cZ3 := Z3.out.cell
    have fZ3 := Z3.out.frozen
    rw [clampM_lim]
    have ZU : Hid (Blk (w3.setCell ⟨w1.heap.size, 12, none⟩ (.int .i64 (clampM cs width ((lenM (gi cs 6) (gi cs 7) width).1)))) (w1.heap.size) 44 (used0 cs width).cells) := Lib.hid (by rw [hu.out]; exact Z3.out.set_ 12 _)
    go_wp2_with (refine ld_sz (by rfl) _ (by rfl) _ (by rfl) (z := used0 cs width) ZU.out ?_)
    clear ZU
    refine (zsum_c _ (used0_small cs width) _).mono ?_
    rintro e w4 ⟨rfl, hb4⟩
    have S4 : Hid (Blk w4 (w.heap.size) 35 (cs)) := Lib.hid ((S3.out.off_ (by omega) _).below' hb4)
    have R4 : Hid (Blk w4 (w.heap.size + 1) 44 (zero13.cells)) := Lib.hid ((R3.out.off_ (by omega) _).below' hb4)
    have T4 := Lib.hid ((below_set T3.out (by omega) _).trans (hb4.mono (by first | omega | (simp <;> omega))))
    have z4 := T4.out.size
    have y4 := hb4.size
    try simp at y4
    have Z4 : Hid (Blk w4 (w1.heap.size) 44 (used0 cs width).cells) := Lib.hid ((show Blk (w3.setCell ⟨w1.heap.size, 12, none⟩ (.int .i64 (clampM cs width ((lenM (gi cs 6) (gi cs 7) width).1)))) (w1.heap.size) 44 (used0 cs width).cells by rw [hu.out]; exact Z3.out.set_ 12 _).below' hb4)
    clear hb4 cZ3 fZ3 S3 R3 Z3 T3
    have lS4 := S4.out.lt
    have lR4 := R4.out.lt
    have lZ4 := Z4.out.lt
    clear hu
    by_cases hr : lim width - (used0 cs width).sum ≤ 0
    ·
      have hu' := Lib.hid (show usedM cs width = used0 cs width by unfold usedM; rw [if_pos hr])
      have ZF : Hid (Blk w4 (w1.heap.size) 44 (Sz.cells ((used0 cs width)))) := Lib.hid Z4.out
      have RF : Hid (Blk w4 (w.heap.size + 1) 44 zero13.cells) := Lib.hid R4.out
      have TF : Hid (Below w.heap.size w w4) := Lib.hid T4.out
      go_wp2_with (first | (refine ld_sz (by rfl) _ (by rfl) _ (by rfl) (z := (used0 cs width)) ZF.out ?_) | (refine st_sz (by rfl) _ _ (by rfl) _ (by rfl) (z := (used0 cs width)) (by rfl) rfl RF.out ?_))
      refine bodyPost_ret (v := .agg (Sz.cells ((used0 cs width)))) (results_cell_row Try.results28 _ _ (w.heap.size + 1) 44 _ (0, 0) _ (by rfl) (RF.out.row _) Try.underlying44 rfl (by kernel_rfl)) (by rfl) ?_
      exact ⟨by rw [hu'.out], below_row TF.out (by omega) _⟩
    ·
      have hu2 := Lib.hid (used_rest cs width hr)
      have cS4 := S4.out.cell
      go_wp2_with (fail)
      refine (len_c _ _ _ _).mono ?_
      rintro e w5 ⟨rfl, hb5⟩
      have S5 : Hid (Blk w5 (w.heap.size) 35 (cs)) := Lib.hid (S4.out.below' hb5)
      have R5 : Hid (Blk w5 (w.heap.size + 1) 44 (zero13.cells)) := Lib.hid (R4.out.below' hb5)
      have Z5 : Hid (Blk w5 (w1.heap.size) 44 ((used0 cs width).cells)) := Lib.hid (Z4.out.below' hb5)
      have T5 := Lib.hid (T4.out.trans (hb5.mono (by first | omega | (simp <;> omega))))
      have z5 := T5.out.size
      have y5 := hb5.size
      try simp at y5
      clear hb5 cS4 S4 R4 Z4 T4
      have lS5 := S5.out.lt
      have lR5 := R5.out.lt
      have lZ5 := Z5.out.lt
      have cS5 := S5.out.cell
      have fS5 := S5.out.frozen
      rw [lenM_lim]
      go_wp2_with (fail)
      refine (len_c _ _ _ _).mono ?_
      rintro e w6 ⟨rfl, hb6⟩
      have S6 : Hid (Blk w6 (w.heap.size) 35 (cs)) := Lib.hid (S5.out.below' hb6)
      have R6 : Hid (Blk w6 (w.heap.size + 1) 44 (zero13.cells)) := Lib.hid (R5.out.below' hb6)
      have Z6 : Hid (Blk w6 (w1.heap.size) 44 ((used0 cs width).cells)) := Lib.hid (Z5.out.below' hb6)
      have T6 := Lib.hid (T5.out.trans (hb6.mono (by first | omega | (simp <;> omega))))
      have z6 := T6.out.size
      have y6 := hb6.size
      try simp at y6
      clear hb6 cS5 fS5 S5 R5 Z5 T5
      have lS6 := S6.out.lt
      have lR6 := R6.out.lt
      have lZ6 := Z6.out.lt
      have cZ6 := Z6.out.cell
      have fZ6 := Z6.out.frozen
      rw [lenM_lim]
      by_cases h3 : (lenM (gi cs 20) (gi cs 21) width).2 = false
      ·
        by_cases h1 : (lenM (gi cs 16) (gi cs 17) width).2 = false
        ·
          have hu' := Lib.hid (show usedM cs width = { used0 cs width with m3 := (lim width - (used0 cs width).sum) / 2, m1 := lim width - (used0 cs width).sum - (lim width - (used0 cs width).sum) / 2 } by rw [hu2.out]; simp only [h3, h1, if_true, if_false, Bool.true_eq_false])
          have ZF : Hid (Blk ((w6.setCell ⟨w1.heap.size, 3, none⟩ (.int .i64 ((lim width - (used0 cs width).sum) / 2))).setCell ⟨w1.heap.size, 1, none⟩ (.int .i64 (lim width - (used0 cs width).sum - (lim width - (used0 cs width).sum) / 2))) (w1.heap.size) 44 (Sz.cells ({ used0 cs width with m3 := (lim width - (used0 cs width).sum) / 2, m1 := lim width - (used0 cs width).sum - (lim width - (used0 cs width).sum) / 2 }))) := Lib.hid ((Z6.out.set_ 3 _).set_ 1 _)
          have RF : Hid (Blk ((w6.setCell ⟨w1.heap.size, 3, none⟩ (.int .i64 ((lim width - (used0 cs width).sum) / 2))).setCell ⟨w1.heap.size, 1, none⟩ (.int .i64 (lim width - (used0 cs width).sum - (lim width - (used0 cs width).sum) / 2))) (w.heap.size + 1) 44 zero13.cells) := Lib.hid ((R6.out.far (by first | omega | (dsimp only; omega)) _).far (by first | omega | (dsimp only; omega)) _)
          have TF : Hid (Below w.heap.size w ((w6.setCell ⟨w1.heap.size, 3, none⟩ (.int .i64 ((lim width - (used0 cs width).sum) / 2))).setCell ⟨w1.heap.size, 1, none⟩ (.int .i64 (lim width - (used0 cs width).sum - (lim width - (used0 cs width).sum) / 2)))) := Lib.hid ((T6.out.setCell (by first | omega | (dsimp only; omega)) _).setCell (by first | omega | (dsimp only; omega)) _)
          go_wp2_with (first | (refine ld_sz (by rfl) _ (by rfl) _ (by rfl) (z := { used0 cs width with m3 := (lim width - (used0 cs width).sum) / 2, m1 := lim width - (used0 cs width).sum - (lim width - (used0 cs width).sum) / 2 }) ZF.out ?_) | (refine st_sz (by rfl) _ _ (by rfl) _ (by rfl) (z := { used0 cs width with m3 := (lim width - (used0 cs width).sum) / 2, m1 := lim width - (used0 cs width).sum - (lim width - (used0 cs width).sum) / 2 }) (by rfl) rfl RF.out ?_))
          refine bodyPost_ret (v := .agg (Sz.cells ({ used0 cs width with m3 := (lim width - (used0 cs width).sum) / 2, m1 := lim width - (used0 cs width).sum - (lim width - (used0 cs width).sum) / 2 }))) (results_cell_row Try.results28 _ _ (w.heap.size + 1) 44 _ (0, 0) _ (by rfl) (RF.out.row _) Try.underlying44 rfl (by kernel_rfl)) (by rfl) ?_
          exact ⟨by rw [hu'.out], below_row TF.out (by omega) _⟩
        ·
          have h1' : (lenM (gi cs 16) (gi cs 17) width).2 = true := by simpa using h1
          clear h1
          have hu' := Lib.hid (show usedM cs width = { used0 cs width with m3 := lim width - (used0 cs width).sum } by rw [hu2.out]; simp only [h3, h1', if_true, if_false, Bool.true_eq_false])
          have ZF : Hid (Blk (w6.setCell ⟨w1.heap.size, 3, none⟩ (.int .i64 (lim width - (used0 cs width).sum))) (w1.heap.size) 44 (Sz.cells ({ used0 cs width with m3 := lim width - (used0 cs width).sum }))) := Lib.hid (Z6.out.set_ 3 _)
          have RF : Hid (Blk (w6.setCell ⟨w1.heap.size, 3, none⟩ (.int .i64 (lim width - (used0 cs width).sum))) (w.heap.size + 1) 44 zero13.cells) := Lib.hid (R6.out.far (by first | omega | (dsimp only; omega)) _)
          have TF : Hid (Below w.heap.size w (w6.setCell ⟨w1.heap.size, 3, none⟩ (.int .i64 (lim width - (used0 cs width).sum)))) := Lib.hid (T6.out.setCell (by first | omega | (dsimp only; omega)) _)
          go_wp2_with (first | (refine ld_sz (by rfl) _ (by rfl) _ (by rfl) (z := { used0 cs width with m3 := lim width - (used0 cs width).sum }) ZF.out ?_) | (refine st_sz (by rfl) _ _ (by rfl) _ (by rfl) (z := { used0 cs width with m3 := lim width - (used0 cs width).sum }) (by rfl) rfl RF.out ?_))
          refine bodyPost_ret (v := .agg (Sz.cells ({ used0 cs width with m3 := lim width - (used0 cs width).sum }))) (results_cell_row Try.results28 _ _ (w.heap.size + 1) 44 _ (0, 0) _ (by rfl) (RF.out.row _) Try.underlying44 rfl (by kernel_rfl)) (by rfl) ?_
          exact ⟨by rw [hu'.out], below_row TF.out (by omega) _⟩
      ·
        have h3' : (lenM (gi cs 20) (gi cs 21) width).2 = true := by simpa using h3
        clear h3
        by_cases h1 : (lenM (gi cs 16) (gi cs 17) width).2 = false
        ·
          have hu' := Lib.hid (show usedM cs width = { used0 cs width with m1 := lim width - (used0 cs width).sum } by rw [hu2.out]; simp only [h3', h1, if_true, if_false, Bool.true_eq_false])
          have ZF : Hid (Blk (w6.setCell ⟨w1.heap.size, 1, none⟩ (.int .i64 (lim width - (used0 cs width).sum))) (w1.heap.size) 44 (Sz.cells ({ used0 cs width with m1 := lim width - (used0 cs width).sum }))) := Lib.hid (Z6.out.set_ 1 _)
          have RF : Hid (Blk (w6.setCell ⟨w1.heap.size, 1, none⟩ (.int .i64 (lim width - (used0 cs width).sum))) (w.heap.size + 1) 44 zero13.cells) := Lib.hid (R6.out.far (by first | omega | (dsimp only; omega)) _)
          have TF : Hid (Below w.heap.size w (w6.setCell ⟨w1.heap.size, 1, none⟩ (.int .i64 (lim width - (used0 cs width).sum)))) := Lib.hid (T6.out.setCell (by first | omega | (dsimp only; omega)) _)
          go_wp2_with (first | (refine ld_sz (by rfl) _ (by rfl) _ (by rfl) (z := { used0 cs width with m1 := lim width - (used0 cs width).sum }) ZF.out ?_) | (refine st_sz (by rfl) _ _ (by rfl) _ (by rfl) (z := { used0 cs width with m1 := lim width - (used0 cs width).sum }) (by rfl) rfl RF.out ?_))
          refine bodyPost_ret (v := .agg (Sz.cells ({ used0 cs width with m1 := lim width - (used0 cs width).sum }))) (results_cell_row Try.results28 _ _ (w.heap.size + 1) 44 _ (0, 0) _ (by rfl) (RF.out.row _) Try.underlying44 rfl (by kernel_rfl)) (by rfl) ?_
          exact ⟨by rw [hu'.out], below_row TF.out (by omega) _⟩
        ·
          have h1' : (lenM (gi cs 16) (gi cs 17) width).2 = true := by simpa using h1
          clear h1
          have hu' := Lib.hid (show usedM cs width = used0 cs width by rw [hu2.out]; simp only [h3', h1', if_true, if_false, Bool.true_eq_false])
          have ZF : Hid (Blk w6 (w1.heap.size) 44 (Sz.cells (used0 cs width))) := Lib.hid Z6.out
          have RF : Hid (Blk w6 (w.heap.size + 1) 44 zero13.cells) := Lib.hid R6.out
          have TF : Hid (Below w.heap.size w w6) := Lib.hid T6.out
          go_wp2_with (first | (refine ld_sz (by rfl) _ (by rfl) _ (by rfl) (z := used0 cs width) ZF.out ?_) | (refine st_sz (by rfl) _ _ (by rfl) _ (by rfl) (z := used0 cs width) (by rfl) rfl RF.out ?_))
          refine bodyPost_ret (v := .agg (Sz.cells (used0 cs width))) (results_cell_row Try.results28 _ _ (w.heap.size + 1) 44 _ (0, 0) _ (by rfl) (RF.out.row _) Try.underlying44 rfl (by kernel_rfl)) (by rfl) ?_
          exact ⟨by rw [hu'.out], below_row TF.out (by omega) _⟩
  ·
    have hok' : (lenM (gi cs 6) (gi cs 7) width).2 = false := by simpa using hok
    clear hok
    have hu : Hid ((used0 cs width).cells = ((edgesM cs width 0).cells).setIfInBounds 12 (.int .i64 (clampM cs width (lim width - (edgesM cs width 0).sum)))) := by
      unfold used0
      simp only [hok', if_true, if_false, Bool.false_eq_true]
      exact rfl
    have be := bd_edges cs width
    have bu := used0_sum_bd cs width
    have bl := bd_lim width
    go_wp2_with (refine ld_sz (by rfl) _ (by rfl) _ (by rfl) Z2.out ?_)
    refine (zsum_c _ (edgesM_small cs width 0 (by omega)) _).mono ?_
    rintro e w3 ⟨rfl, hb3⟩
    have S3 : Hid (Blk w3 (w.heap.size) 35 (cs)) := Lib.hid (S2.out.below' hb3)
    have R3 : Hid (Blk w3 (w.heap.size + 1) 44 (zero13.cells)) := Lib.hid (R2.out.below' hb3)
    have Z3 : Hid (Blk w3 (w1.heap.size) 44 ((edgesM cs width 0).cells)) := Lib.hid (Z2.out.below' hb3)
    have T3 := Lib.hid (T2.out.trans (hb3.mono (by first | omega | (simp <;> omega))))
    have z3 := T3.out.size
    have y3 := hb3.size
    try simp at y3
    clear hb3 S2 R2 Z2 T2
    have lS3 := S3.out.lt
    have lR3 := R3.out.lt
    have lZ3 := Z3.out.lt
    go_wp2_with (refine ld_sty (by rfl) _ (by rfl) _ (by rfl) hs S3.out ?_)
    refine (clamp_c _ _ _ _ hs).mono ?_
    rintro e w4 ⟨rfl, hb4⟩
    have S4 : Hid (Blk w4 (w.heap.size) 35 (cs)) := Lib.hid (S3.out.below' hb4)
    have R4 : Hid (Blk w4 (w.heap.size + 1) 44 (zero13.cells)) := Lib.hid (R3.out.below' hb4)
    have Z4 : Hid (Blk w4 (w1.heap.size) 44 ((edgesM cs width 0).cells)) := Lib.hid (Z3.out.below' hb4)
    have T4 := Lib.hid (T3.out.trans (hb4.mono (by first | omega | (simp <;> omega))))
    have z4 := T4.out.size
    have y4 := hb4.size
    try simp at y4
    clear hb4 S3 R3 Z3 T3
    have lS4 := S4.out.lt
    have lR4 := R4.out.lt
    have lZ4 := Z4.out.lt
    have cZ4 := Z4.out.cell
    have fZ4 := Z4.out.frozen
    rw [clampM_lim]
    have ZU : Hid (Blk (w4.setCell ⟨w1.heap.size, 12, none⟩ (.int .i64 (clampM cs width (lim width - (edgesM cs width 0).sum)))) (w1.heap.size) 44 (used0 cs width).cells) := Lib.hid (by rw [hu.out]; exact Z4.out.set_ 12 _)
    go_wp2_with (refine ld_sz (by rfl) _ (by rfl) _ (by rfl) (z := used0 cs width) ZU.out ?_)
    clear ZU
    refine (zsum_c _ (used0_small cs width) _).mono ?_
    rintro e w5 ⟨rfl, hb5⟩
    have S5 : Hid (Blk w5 (w.heap.size) 35 (cs)) := Lib.hid ((S4.out.off_ (by omega) _).below' hb5)
    have R5 : Hid (Blk w5 (w.heap.size + 1) 44 (zero13.cells)) := Lib.hid ((R4.out.off_ (by omega) _).below' hb5)
    have T5 := Lib.hid ((below_set T4.out (by omega) _).trans (hb5.mono (by first | omega | (simp <;> omega))))
    have z5 := T5.out.size
    have y5 := hb5.size
    try simp at y5
    have Z5 : Hid (Blk w5 (w1.heap.size) 44 (used0 cs width).cells) := Lib.hid ((show Blk (w4.setCell ⟨w1.heap.size, 12, none⟩ (.int .i64 (clampM cs width (lim width - (edgesM cs width 0).sum)))) (w1.heap.size) 44 (used0 cs width).cells by rw [hu.out]; exact Z4.out.set_ 12 _).below' hb5)
    clear hb5 cZ4 fZ4 S4 R4 Z4 T4
    have lS5 := S5.out.lt
    have lR5 := R5.out.lt
    have lZ5 := Z5.out.lt
    clear hu
    by_cases hr : lim width - (used0 cs width).sum ≤ 0
    ·
      have hu' := Lib.hid (show usedM cs width = used0 cs width by unfold usedM; rw [if_pos hr])
      have ZF : Hid (Blk w5 (w1.heap.size) 44 (Sz.cells ((used0 cs width)))) := Lib.hid Z5.out
      have RF : Hid (Blk w5 (w.heap.size + 1) 44 zero13.cells) := Lib.hid R5.out
      have TF : Hid (Below w.heap.size w w5) := Lib.hid T5.out
      go_wp2_with (first | (refine ld_sz (by rfl) _ (by rfl) _ (by rfl) (z := (used0 cs width)) ZF.out ?_) | (refine st_sz (by rfl) _ _ (by rfl) _ (by rfl) (z := (used0 cs width)) (by rfl) rfl RF.out ?_))
      refine bodyPost_ret (v := .agg (Sz.cells ((used0 cs width)))) (results_cell_row Try.results28 _ _ (w.heap.size + 1) 44 _ (0, 0) _ (by rfl) (RF.out.row _) Try.underlying44 rfl (by kernel_rfl)) (by rfl) ?_
      exact ⟨by rw [hu'.out], below_row TF.out (by omega) _⟩
    ·
      have hu2 := Lib.hid (used_rest cs width hr)
      have cS5 := S5.out.cell
      go_wp2_with (fail)
      refine (len_c _ _ _ _).mono ?_
      rintro e w6 ⟨rfl, hb6⟩
      have S6 : Hid (Blk w6 (w.heap.size) 35 (cs)) := Lib.hid (S5.out.below' hb6)
      have R6 : Hid (Blk w6 (w.heap.size + 1) 44 (zero13.cells)) := Lib.hid (R5.out.below' hb6)
      have Z6 : Hid (Blk w6 (w1.heap.size) 44 ((used0 cs width).cells)) := Lib.hid (Z5.out.below' hb6)
      have T6 := Lib.hid (T5.out.trans (hb6.mono (by first | omega | (simp <;> omega))))
      have z6 := T6.out.size
      have y6 := hb6.size
      try simp at y6
      clear hb6 cS5 S5 R5 Z5 T5
      have lS6 := S6.out.lt
      have lR6 := R6.out.lt
      have lZ6 := Z6.out.lt
      have cS6 := S6.out.cell
      have fS6 := S6.out.frozen
      rw [lenM_lim]
      go_wp2_with (fail)
      refine (len_c _ _ _ _).mono ?_
      rintro e w7 ⟨rfl, hb7⟩
      have S7 : Hid (Blk w7 (w.heap.size) 35 (cs)) := Lib.hid (S6.out.below' hb7)
      have R7 : Hid (Blk w7 (w.heap.size + 1) 44 (zero13.cells)) := Lib.hid (R6.out.below' hb7)
      have Z7 : Hid (Blk w7 (w1.heap.size) 44 ((used0 cs width).cells)) := Lib.hid (Z6.out.below' hb7)
      have T7 := Lib.hid (T6.out.trans (hb7.mono (by first | omega | (simp <;> omega))))
      have z7 := T7.out.size
      have y7 := hb7.size
      try simp at y7
      clear hb7 cS6 fS6 S6 R6 Z6 T6
      have lS7 := S7.out.lt
      have lR7 := R7.out.lt
      have lZ7 := Z7.out.lt
      have cZ7 := Z7.out.cell
      have fZ7 := Z7.out.frozen
      rw [lenM_lim]
      by_cases h3 : (lenM (gi cs 20) (gi cs 21) width).2 = false
      ·
        by_cases h1 : (lenM (gi cs 16) (gi cs 17) width).2 = false
        ·
          have hu' := Lib.hid (show usedM cs width = { used0 cs width with m3 := (lim width - (used0 cs width).sum) / 2, m1 := lim width - (used0 cs width).sum - (lim width - (used0 cs width).sum) / 2 } by rw [hu2.out]; simp only [h3, h1, if_true, if_false, Bool.true_eq_false])
          have ZF : Hid (Blk ((w7.setCell ⟨w1.heap.size, 3, none⟩ (.int .i64 ((lim width - (used0 cs width).sum) / 2))).setCell ⟨w1.heap.size, 1, none⟩ (.int .i64 (lim width - (used0 cs width).sum - (lim width - (used0 cs width).sum) / 2))) (w1.heap.size) 44 (Sz.cells ({ used0 cs width with m3 := (lim width - (used0 cs width).sum) / 2, m1 := lim width - (used0 cs width).sum - (lim width - (used0 cs width).sum) / 2 }))) := Lib.hid ((Z7.out.set_ 3 _).set_ 1 _)
          have RF : Hid (Blk ((w7.setCell ⟨w1.heap.size, 3, none⟩ (.int .i64 ((lim width - (used0 cs width).sum) / 2))).setCell ⟨w1.heap.size, 1, none⟩ (.int .i64 (lim width - (used0 cs width).sum - (lim width - (used0 cs width).sum) / 2))) (w.heap.size + 1) 44 zero13.cells) := Lib.hid ((R7.out.far (by first | omega | (dsimp only; omega)) _).far (by first | omega | (dsimp only; omega)) _)
          have TF : Hid (Below w.heap.size w ((w7.setCell ⟨w1.heap.size, 3, none⟩ (.int .i64 ((lim width - (used0 cs width).sum) / 2))).setCell ⟨w1.heap.size, 1, none⟩ (.int .i64 (lim width - (used0 cs width).sum - (lim width - (used0 cs width).sum) / 2)))) := Lib.hid ((T7.out.setCell (by first | omega | (dsimp only; omega)) _).setCell (by first | omega | (dsimp only; omega)) _)
          go_wp2_with (first | (refine ld_sz (by rfl) _ (by rfl) _ (by rfl) (z := { used0 cs width with m3 := (lim width - (used0 cs width).sum) / 2, m1 := lim width - (used0 cs width).sum - (lim width - (used0 cs width).sum) / 2 }) ZF.out ?_) | (refine st_sz (by rfl) _ _ (by rfl) _ (by rfl) (z := { used0 cs width with m3 := (lim width - (used0 cs width).sum) / 2, m1 := lim width - (used0 cs width).sum - (lim width - (used0 cs width).sum) / 2 }) (by rfl) rfl RF.out ?_))
          refine bodyPost_ret (v := .agg (Sz.cells ({ used0 cs width with m3 := (lim width - (used0 cs width).sum) / 2, m1 := lim width - (used0 cs width).sum - (lim width - (used0 cs width).sum) / 2 }))) (results_cell_row Try.results28 _ _ (w.heap.size + 1) 44 _ (0, 0) _ (by rfl) (RF.out.row _) Try.underlying44 rfl (by kernel_rfl)) (by rfl) ?_
          exact ⟨by rw [hu'.out], below_row TF.out (by omega) _⟩
        ·
          have h1' : (lenM (gi cs 16) (gi cs 17) width).2 = true := by simpa using h1
          clear h1
          have hu' := Lib.hid (show usedM cs width = { used0 cs width with m3 := lim width - (used0 cs width).sum } by rw [hu2.out]; simp only [h3, h1', if_true, if_false, Bool.true_eq_false])
          have ZF : Hid (Blk (w7.setCell ⟨w1.heap.size, 3, none⟩ (.int .i64 (lim width - (used0 cs width).sum))) (w1.heap.size) 44 (Sz.cells ({ used0 cs width with m3 := lim width - (used0 cs width).sum }))) := Lib.hid (Z7.out.set_ 3 _)
          have RF : Hid (Blk (w7.setCell ⟨w1.heap.size, 3, none⟩ (.int .i64 (lim width - (used0 cs width).sum))) (w.heap.size + 1) 44 zero13.cells) := Lib.hid (R7.out.far (by first | omega | (dsimp only; omega)) _)
          have TF : Hid (Below w.heap.size w (w7.setCell ⟨w1.heap.size, 3, none⟩ (.int .i64 (lim width - (used0 cs width).sum)))) := Lib.hid (T7.out.setCell (by first | omega | (dsimp only; omega)) _)
          go_wp2_with (first | (refine ld_sz (by rfl) _ (by rfl) _ (by rfl) (z := { used0 cs width with m3 := lim width - (used0 cs width).sum }) ZF.out ?_) | (refine st_sz (by rfl) _ _ (by rfl) _ (by rfl) (z := { used0 cs width with m3 := lim width - (used0 cs width).sum }) (by rfl) rfl RF.out ?_))
          refine bodyPost_ret (v := .agg (Sz.cells ({ used0 cs width with m3 := lim width - (used0 cs width).sum }))) (results_cell_row Try.results28 _ _ (w.heap.size + 1) 44 _ (0, 0) _ (by rfl) (RF.out.row _) Try.underlying44 rfl (by kernel_rfl)) (by rfl) ?_
          exact ⟨by rw [hu'.out], below_row TF.out (by omega) _⟩
      ·
        have h3' : (lenM (gi cs 20) (gi cs 21) width).2 = true := by simpa using h3
        clear h3
        by_cases h1 : (lenM (gi cs 16) (gi cs 17) width).2 = false
        ·
          have hu' := Lib.hid (show usedM cs width = { used0 cs width with m1 := lim width - (used0 cs width).sum } by rw [hu2.out]; simp only [h3', h1, if_true, if_false, Bool.true_eq_false])
          have ZF : Hid (Blk (w7.setCell ⟨w1.heap.size, 1, none⟩ (.int .i64 (lim width - (used0 cs width).sum))) (w1.heap.size) 44 (Sz.cells ({ used0 cs width with m1 := lim width - (used0 cs width).sum }))) := Lib.hid (Z7.out.set_ 1 _)
          have RF : Hid (Blk (w7.setCell ⟨w1.heap.size, 1, none⟩ (.int .i64 (lim width - (used0 cs width).sum))) (w.heap.size + 1) 44 zero13.cells) := Lib.hid (R7.out.far (by first | omega | (dsimp only; omega)) _)
          have TF : Hid (Below w.heap.size w (w7.setCell ⟨w1.heap.size, 1, none⟩ (.int .i64 (lim width - (used0 cs width).sum)))) := Lib.hid (T7.out.setCell (by first | omega | (dsimp only; omega)) _)
          go_wp2_with (first | (refine ld_sz (by rfl) _ (by rfl) _ (by rfl) (z := { used0 cs width with m1 := lim width - (used0 cs width).sum }) ZF.out ?_) | (refine st_sz (by rfl) _ _ (by rfl) _ (by rfl) (z := { used0 cs width with m1 := lim width - (used0 cs width).sum }) (by rfl) rfl RF.out ?_))
          refine bodyPost_ret (v := .agg (Sz.cells ({ used0 cs width with m1 := lim width - (used0 cs width).sum }))) (results_cell_row Try.results28 _ _ (w.heap.size + 1) 44 _ (0, 0) _ (by rfl) (RF.out.row _) Try.underlying44 rfl (by kernel_rfl)) (by rfl) ?_
          exact ⟨by rw [hu'.out], below_row TF.out (by omega) _⟩
        ·
          have h1' : (lenM (gi cs 16) (gi cs 17) width).2 = true := by simpa using h1
          clear h1
          have hu' := Lib.hid (show usedM cs width = used0 cs width by rw [hu2.out]; simp only [h3', h1', if_true, if_false, Bool.true_eq_false])
          have ZF : Hid (Blk w7 (w1.heap.size) 44 (Sz.cells (used0 cs width))) := Lib.hid Z7.out
          have RF : Hid (Blk w7 (w.heap.size + 1) 44 zero13.cells) := Lib.hid R7.out
          have TF : Hid (Below w.heap.size w w7) := Lib.hid T7.out
          go_wp2_with (first | (refine ld_sz (by rfl) _ (by rfl) _ (by rfl) (z := used0 cs width) ZF.out ?_) | (refine st_sz (by rfl) _ _ (by rfl) _ (by rfl) (z := used0 cs width) (by rfl) rfl RF.out ?_))
          refine bodyPost_ret (v := .agg (Sz.cells (used0 cs width))) (results_cell_row Try.results28 _ _ (w.heap.size + 1) 44 _ (0, 0) _ (by rfl) (RF.out.row _) Try.underlying44 rfl (by kernel_rfl)) (by rfl) ?_
          exact ⟨by rw [hu'.out], below_row TF.out (by omega) _⟩

set_option maxHeartbeats 4000000 in
theorem rused_c (cs : Array Value) (width : Int) (w : World) (hs : Sty cs) :
    Calls Try.prog 29 #[.agg cs, .int .i64 width] w fun e w' => e = .returned (.agg (usedM cs width).cells) ∧ Below w.heap.size w w' := by
  go_enter Try.func29, Try.ntmps29
  have S0 := nb2_1 w (.cells zero13.cells 44) (t := 35) (cs' := cs) rfl
  have h6 := hs.i 6
  have h7 := hs.i 7
  have h16 := hs.i 16
  have h17 := hs.i 17
  have h20 := hs.i 20
  have h21 := hs.i 21
  go_wp2_with (first | (refine ld_sty (by rfl) _ (by rfl) _ (by rfl) hs S0 ?_) | (go_at_call 30; refine (width_c _ _).mono ?_; rintro e w' ⟨rfl, rfl⟩))
  clear S0
  refine (redges_c _ _ _ _ hs).mono ?_
  rintro e w1 ⟨rfl, hb1⟩
  have S1 : Hid (Blk w1 (w.heap.size) 35 (cs)) := Lib.hid ((nb2_1 _ _ rfl).below' hb1)
  have R1 : Hid (Blk w1 (w.heap.size + 1) 44 (zero13.cells)) := Lib.hid ((nb2_2 _ _ rfl).below' hb1)
  have T1 := Lib.hid ((bl2 _ _ _).trans (hb1.mono (by first | omega | (simp <;> omega))))
  have z1 := T1.out.size
  have y1 := hb1.size
  try simp at y1
  clear hb1
  have lS1 := S1.out.lt
  have lR1 := R1.out.lt
  have cS1 := S1.out.cell
  have fS1 := S1.out.frozen
  rw [show min (max width 0) 1048576 = lim width from rfl, edgesM_lim]
  go_wp2_with (refine ld_sty (by rfl) _ (by rfl) _ (by rfl) hs S1.out ?_)
  refine (rlen_c _ _ _ _).mono ?_
  rintro e w2 ⟨rfl, hb2⟩
  have S2 : Hid (Blk w2 (w.heap.size) 35 (cs)) := Lib.hid ((S1.out.alloc _).below' hb2)
  have R2 : Hid (Blk w2 (w.heap.size + 1) 44 (zero13.cells)) := Lib.hid ((R1.out.alloc _).below' hb2)
  have Z2 : Hid (Blk w2 (w1.heap.size) 44 ((edgesM cs width 0).cells)) := Lib.hid ((nb1_1 _  rfl).below' hb2)
  have T2 := Lib.hid ((T1.out.alloc (by first | omega | (simp <;> omega)) _).trans (hb2.mono (by first | omega | (simp <;> omega))))
  have z2 := T2.out.size
  have y2 := hb2.size
  try simp at y2
  clear hb2 cS1 fS1 S1 R1 T1
  have lS2 := S2.out.lt
  have lR2 := R2.out.lt
  have lZ2 := Z2.out.lt
  rw [lenM_lim]
  by_cases hok : (lenM (gi cs 6) (gi cs 7) width).2 = true
  ·
    have hu : Hid ((used0 cs width).cells = ((edgesM cs width 0).cells).setIfInBounds 12 (.int .i64 (clampM cs width ((lenM (gi cs 6) (gi cs 7) width).1)))) := by
      unfold used0
      simp only [hok, if_true, if_false, Bool.false_eq_true]
      exact rfl
    have be := bd_edges cs width
    have bu := used0_sum_bd cs width
    have bl := bd_lim width
    go_wp2_with (refine ld_sty (by rfl) _ (by rfl) _ (by rfl) hs S2.out ?_)
    refine (rclamp_c _ _ _ _ hs).mono ?_
    rintro e w3 ⟨rfl, hb3⟩
    have S3 : Hid (Blk w3 (w.heap.size) 35 (cs)) := Lib.hid (S2.out.below' hb3)
    have R3 : Hid (Blk w3 (w.heap.size + 1) 44 (zero13.cells)) := Lib.hid (R2.out.below' hb3)
    have Z3 : Hid (Blk w3 (w1.heap.size) 44 ((edgesM cs width 0).cells)) := Lib.hid (Z2.out.below' hb3)
    have T3 := Lib.hid (T2.out.trans (hb3.mono (by first | omega | (simp <;> omega))))
    have z3 := T3.out.size
    have y3 := hb3.size
    try simp at y3
    clear hb3 S2 R2 Z2 T2
    have lS3 := S3.out.lt
    have lR3 := R3.out.lt
    have lZ3 := Z3.out.lt
    have cZ3 := Z3.out.cell
    have fZ3 := Z3.out.frozen
    rw [clampM_lim]
    have ZU : Hid (Blk (w3.setCell ⟨w1.heap.size, 12, none⟩ (.int .i64 (clampM cs width ((lenM (gi cs 6) (gi cs 7) width).1)))) (w1.heap.size) 44 (used0 cs width).cells) := Lib.hid (by rw [hu.out]; exact Z3.out.set_ 12 _)
    go_wp2_with (refine ld_sz (by rfl) _ (by rfl) _ (by rfl) (z := used0 cs width) ZU.out ?_)
    clear ZU
    refine (rsum_c _ (used0_small cs width) _).mono ?_
    rintro e w4 ⟨rfl, hb4⟩
    have S4 : Hid (Blk w4 (w.heap.size) 35 (cs)) := Lib.hid ((S3.out.off_ (by omega) _).below' hb4)
    have R4 : Hid (Blk w4 (w.heap.size + 1) 44 (zero13.cells)) := Lib.hid ((R3.out.off_ (by omega) _).below' hb4)
    have T4 := Lib.hid ((below_set T3.out (by omega) _).trans (hb4.mono (by first | omega | (simp <;> omega))))
    have z4 := T4.out.size
    have y4 := hb4.size
    try simp at y4
    have Z4 : Hid (Blk w4 (w1.heap.size) 44 (used0 cs width).cells) := Lib.hid ((show Blk (w3.setCell ⟨w1.heap.size, 12, none⟩ (.int .i64 (clampM cs width ((lenM (gi cs 6) (gi cs 7) width).1)))) (w1.heap.size) 44 (used0 cs width).cells by rw [hu.out]; exact Z3.out.set_ 12 _).below' hb4)
    clear hb4 cZ3 fZ3 S3 R3 Z3 T3
    have lS4 := S4.out.lt
    have lR4 := R4.out.lt
    have lZ4 := Z4.out.lt
    clear hu
    have cS4 := S4.out.cell
    go_wp2_with (fail)
    refine (rlen_c _ _ _ _).mono ?_
    rintro e w5 ⟨rfl, hb5⟩
    have S5 : Hid (Blk w5 (w.heap.size) 35 (cs)) := Lib.hid (S4.out.below' hb5)
    have R5 : Hid (Blk w5 (w.heap.size + 1) 44 (zero13.cells)) := Lib.hid (R4.out.below' hb5)
    have Z5 : Hid (Blk w5 (w1.heap.size) 44 ((used0 cs width).cells)) := Lib.hid (Z4.out.below' hb5)
    have T5 := Lib.hid (T4.out.trans (hb5.mono (by first | omega | (simp <;> omega))))
    have z5 := T5.out.size
    have y5 := hb5.size
    try simp at y5
    clear hb5 cS4 S4 R4 Z4 T4
    have lS5 := S5.out.lt
    have lR5 := R5.out.lt
    have lZ5 := Z5.out.lt
    have cS5 := S5.out.cell
    have fS5 := S5.out.frozen
    rw [lenM_lim]
    go_wp2_with (fail)
    refine (rlen_c _ _ _ _).mono ?_
    rintro e w6 ⟨rfl, hb6⟩
    have S6 : Hid (Blk w6 (w.heap.size) 35 (cs)) := Lib.hid (S5.out.below' hb6)
    have R6 : Hid (Blk w6 (w.heap.size + 1) 44 (zero13.cells)) := Lib.hid (R5.out.below' hb6)
    have Z6 : Hid (Blk w6 (w1.heap.size) 44 ((used0 cs width).cells)) := Lib.hid (Z5.out.below' hb6)
    have T6 := Lib.hid (T5.out.trans (hb6.mono (by first | omega | (simp <;> omega))))
    have z6 := T6.out.size
    have y6 := hb6.size
    try simp at y6
    clear hb6 cS5 fS5 S5 R5 Z5 T5
    have lS6 := S6.out.lt
    have lR6 := R6.out.lt
    have lZ6 := Z6.out.lt
    rw [lenM_lim]
    by_cases hr : lim width - (used0 cs width).sum ≤ 0
    ·
      have hu' := Lib.hid (show usedM cs width = used0 cs width by unfold usedM; rw [if_pos hr])
      have ZF : Hid (Blk w6 (w1.heap.size) 44 (Sz.cells ((used0 cs width)))) := Lib.hid Z6.out
      have RF : Hid (Blk w6 (w.heap.size + 1) 44 zero13.cells) := Lib.hid R6.out
      have TF : Hid (Below w.heap.size w w6) := Lib.hid T6.out
      go_wp2_with (first | (refine ld_sz (by rfl) _ (by rfl) _ (by rfl) (z := (used0 cs width)) ZF.out ?_) | (refine st_sz (by rfl) _ _ (by rfl) _ (by rfl) (z := (used0 cs width)) (by rfl) rfl RF.out ?_))
      refine bodyPost_ret (v := .agg (Sz.cells ((used0 cs width)))) (results_cell_row Try.results29 _ _ (w.heap.size + 1) 44 _ (0, 0) _ (by rfl) (RF.out.row _) Try.underlying44 rfl (by kernel_rfl)) (by rfl) ?_
      exact ⟨by rw [hu'.out], below_row TF.out (by omega) _⟩
    ·
      have hu2 := Lib.hid (used_rest cs width hr)
      have cZ6 := Z6.out.cell
      have fZ6 := Z6.out.frozen
      by_cases h3 : (lenM (gi cs 20) (gi cs 21) width).2 = false
      ·
        by_cases h1 : (lenM (gi cs 16) (gi cs 17) width).2 = false
        ·
          have hu' := Lib.hid (show usedM cs width = { used0 cs width with m3 := (lim width - (used0 cs width).sum) / 2, m1 := lim width - (used0 cs width).sum - (lim width - (used0 cs width).sum) / 2 } by rw [hu2.out]; simp only [h3, h1, if_true, if_false, Bool.true_eq_false])
          have ZF : Hid (Blk ((w6.setCell ⟨w1.heap.size, 3, none⟩ (.int .i64 ((lim width - (used0 cs width).sum) / 2))).setCell ⟨w1.heap.size, 1, none⟩ (.int .i64 (lim width - (used0 cs width).sum - (lim width - (used0 cs width).sum) / 2))) (w1.heap.size) 44 (Sz.cells ({ used0 cs width with m3 := (lim width - (used0 cs width).sum) / 2, m1 := lim width - (used0 cs width).sum - (lim width - (used0 cs width).sum) / 2 }))) := Lib.hid ((Z6.out.set_ 3 _).set_ 1 _)
          have RF : Hid (Blk ((w6.setCell ⟨w1.heap.size, 3, none⟩ (.int .i64 ((lim width - (used0 cs width).sum) / 2))).setCell ⟨w1.heap.size, 1, none⟩ (.int .i64 (lim width - (used0 cs width).sum - (lim width - (used0 cs width).sum) / 2))) (w.heap.size + 1) 44 zero13.cells) := Lib.hid ((R6.out.far (by first | omega | (dsimp only; omega)) _).far (by first | omega | (dsimp only; omega)) _)
          have TF : Hid (Below w.heap.size w ((w6.setCell ⟨w1.heap.size, 3, none⟩ (.int .i64 ((lim width - (used0 cs width).sum) / 2))).setCell ⟨w1.heap.size, 1, none⟩ (.int .i64 (lim width - (used0 cs width).sum - (lim width - (used0 cs width).sum) / 2)))) := Lib.hid ((T6.out.setCell (by first | omega | (dsimp only; omega)) _).setCell (by first | omega | (dsimp only; omega)) _)
          go_wp2_with (first | (refine ld_sz (by rfl) _ (by rfl) _ (by rfl) (z := { used0 cs width with m3 := (lim width - (used0 cs width).sum) / 2, m1 := lim width - (used0 cs width).sum - (lim width - (used0 cs width).sum) / 2 }) ZF.out ?_) | (refine st_sz (by rfl) _ _ (by rfl) _ (by rfl) (z := { used0 cs width with m3 := (lim width - (used0 cs width).sum) / 2, m1 := lim width - (used0 cs width).sum - (lim width - (used0 cs width).sum) / 2 }) (by rfl) rfl RF.out ?_))
          refine bodyPost_ret (v := .agg (Sz.cells ({ used0 cs width with m3 := (lim width - (used0 cs width).sum) / 2, m1 := lim width - (used0 cs width).sum - (lim width - (used0 cs width).sum) / 2 }))) (results_cell_row Try.results29 _ _ (w.heap.size + 1) 44 _ (0, 0) _ (by rfl) (RF.out.row _) Try.underlying44 rfl (by kernel_rfl)) (by rfl) ?_
          exact ⟨by rw [hu'.out], below_row TF.out (by omega) _⟩
        ·
          have h1' : (lenM (gi cs 16) (gi cs 17) width).2 = true := by simpa using h1
          clear h1
          have hu' := Lib.hid (show usedM cs width = { used0 cs width with m3 := lim width - (used0 cs width).sum } by rw [hu2.out]; simp only [h3, h1', if_true, if_false, Bool.true_eq_false])
          have ZF : Hid (Blk (w6.setCell ⟨w1.heap.size, 3, none⟩ (.int .i64 (lim width - (used0 cs width).sum))) (w1.heap.size) 44 (Sz.cells ({ used0 cs width with m3 := lim width - (used0 cs width).sum }))) := Lib.hid (Z6.out.set_ 3 _)
          have RF : Hid (Blk (w6.setCell ⟨w1.heap.size, 3, none⟩ (.int .i64 (lim width - (used0 cs width).sum))) (w.heap.size + 1) 44 zero13.cells) := Lib.hid (R6.out.far (by first | omega | (dsimp only; omega)) _)
          have TF : Hid (Below w.heap.size w (w6.setCell ⟨w1.heap.size, 3, none⟩ (.int .i64 (lim width - (used0 cs width).sum)))) := Lib.hid (T6.out.setCell (by first | omega | (dsimp only; omega)) _)
          go_wp2_with (first | (refine ld_sz (by rfl) _ (by rfl) _ (by rfl) (z := { used0 cs width with m3 := lim width - (used0 cs width).sum }) ZF.out ?_) | (refine st_sz (by rfl) _ _ (by rfl) _ (by rfl) (z := { used0 cs width with m3 := lim width - (used0 cs width).sum }) (by rfl) rfl RF.out ?_))
          refine bodyPost_ret (v := .agg (Sz.cells ({ used0 cs width with m3 := lim width - (used0 cs width).sum }))) (results_cell_row Try.results29 _ _ (w.heap.size + 1) 44 _ (0, 0) _ (by rfl) (RF.out.row _) Try.underlying44 rfl (by kernel_rfl)) (by rfl) ?_
          exact ⟨by rw [hu'.out], below_row TF.out (by omega) _⟩
      ·
        have h3' : (lenM (gi cs 20) (gi cs 21) width).2 = true := by simpa using h3
        clear h3
        by_cases h1 : (lenM (gi cs 16) (gi cs 17) width).2 = false
        ·
          have hu' := Lib.hid (show usedM cs width = { used0 cs width with m1 := lim width - (used0 cs width).sum } by rw [hu2.out]; simp only [h3', h1, if_true, if_false, Bool.true_eq_false])
          have ZF : Hid (Blk (w6.setCell ⟨w1.heap.size, 1, none⟩ (.int .i64 (lim width - (used0 cs width).sum))) (w1.heap.size) 44 (Sz.cells ({ used0 cs width with m1 := lim width - (used0 cs width).sum }))) := Lib.hid (Z6.out.set_ 1 _)
          have RF : Hid (Blk (w6.setCell ⟨w1.heap.size, 1, none⟩ (.int .i64 (lim width - (used0 cs width).sum))) (w.heap.size + 1) 44 zero13.cells) := Lib.hid (R6.out.far (by first | omega | (dsimp only; omega)) _)
          have TF : Hid (Below w.heap.size w (w6.setCell ⟨w1.heap.size, 1, none⟩ (.int .i64 (lim width - (used0 cs width).sum)))) := Lib.hid (T6.out.setCell (by first | omega | (dsimp only; omega)) _)
          go_wp2_with (first | (refine ld_sz (by rfl) _ (by rfl) _ (by rfl) (z := { used0 cs width with m1 := lim width - (used0 cs width).sum }) ZF.out ?_) | (refine st_sz (by rfl) _ _ (by rfl) _ (by rfl) (z := { used0 cs width with m1 := lim width - (used0 cs width).sum }) (by rfl) rfl RF.out ?_))
          refine bodyPost_ret (v := .agg (Sz.cells ({ used0 cs width with m1 := lim width - (used0 cs width).sum }))) (results_cell_row Try.results29 _ _ (w.heap.size + 1) 44 _ (0, 0) _ (by rfl) (RF.out.row _) Try.underlying44 rfl (by kernel_rfl)) (by rfl) ?_
          exact ⟨by rw [hu'.out], below_row TF.out (by omega) _⟩
        ·
          have h1' : (lenM (gi cs 16) (gi cs 17) width).2 = true := by simpa using h1
          clear h1
          have hu' := Lib.hid (show usedM cs width = used0 cs width by rw [hu2.out]; simp only [h3', h1', if_true, if_false, Bool.true_eq_false])
          have ZF : Hid (Blk w6 (w1.heap.size) 44 (Sz.cells (used0 cs width))) := Lib.hid Z6.out
          have RF : Hid (Blk w6 (w.heap.size + 1) 44 zero13.cells) := Lib.hid R6.out
          have TF : Hid (Below w.heap.size w w6) := Lib.hid T6.out
          go_wp2_with (first | (refine ld_sz (by rfl) _ (by rfl) _ (by rfl) (z := used0 cs width) ZF.out ?_) | (refine st_sz (by rfl) _ _ (by rfl) _ (by rfl) (z := used0 cs width) (by rfl) rfl RF.out ?_))
          refine bodyPost_ret (v := .agg (Sz.cells (used0 cs width))) (results_cell_row Try.results29 _ _ (w.heap.size + 1) 44 _ (0, 0) _ (by rfl) (RF.out.row _) Try.underlying44 rfl (by kernel_rfl)) (by rfl) ?_
          exact ⟨by rw [hu'.out], below_row TF.out (by omega) _⟩
  ·
    have hok' : (lenM (gi cs 6) (gi cs 7) width).2 = false := by simpa using hok
    clear hok
    have hu : Hid ((used0 cs width).cells = ((edgesM cs width 0).cells).setIfInBounds 12 (.int .i64 (clampM cs width (lim width - (edgesM cs width 0).sum)))) := by
      unfold used0
      simp only [hok', if_true, if_false, Bool.false_eq_true]
      exact rfl
    have be := bd_edges cs width
    have bu := used0_sum_bd cs width
    have bl := bd_lim width
    go_wp2_with (refine ld_sz (by rfl) _ (by rfl) _ (by rfl) Z2.out ?_)
    refine (rsum_c _ (edgesM_small cs width 0 (by omega)) _).mono ?_
    rintro e w3 ⟨rfl, hb3⟩
    have S3 : Hid (Blk w3 (w.heap.size) 35 (cs)) := Lib.hid (S2.out.below' hb3)
    have R3 : Hid (Blk w3 (w.heap.size + 1) 44 (zero13.cells)) := Lib.hid (R2.out.below' hb3)
    have Z3 : Hid (Blk w3 (w1.heap.size) 44 ((edgesM cs width 0).cells)) := Lib.hid (Z2.out.below' hb3)
    have T3 := Lib.hid (T2.out.trans (hb3.mono (by first | omega | (simp <;> omega))))
    have z3 := T3.out.size
    have y3 := hb3.size
    try simp at y3
    clear hb3 S2 R2 Z2 T2
    have lS3 := S3.out.lt
    have lR3 := R3.out.lt
    have lZ3 := Z3.out.lt
    go_wp2_with (refine ld_sty (by rfl) _ (by rfl) _ (by rfl) hs S3.out ?_)
    refine (rclamp_c _ _ _ _ hs).mono ?_
    rintro e w4 ⟨rfl, hb4⟩
    have S4 : Hid (Blk w4 (w.heap.size) 35 (cs)) := Lib.hid (S3.out.below' hb4)
    have R4 : Hid (Blk w4 (w.heap.size + 1) 44 (zero13.cells)) := Lib.hid (R3.out.below' hb4)
    have Z4 : Hid (Blk w4 (w1.heap.size) 44 ((edgesM cs width 0).cells)) := Lib.hid (Z3.out.below' hb4)
    have T4 := Lib.hid (T3.out.trans (hb4.mono (by first | omega | (simp <;> omega))))
    have z4 := T4.out.size
    have y4 := hb4.size
    try simp at y4
    clear hb4 S3 R3 Z3 T3
    have lS4 := S4.out.lt
    have lR4 := R4.out.lt
    have lZ4 := Z4.out.lt
    have cZ4 := Z4.out.cell
    have fZ4 := Z4.out.frozen
    rw [clampM_lim]
    have ZU : Hid (Blk (w4.setCell ⟨w1.heap.size, 12, none⟩ (.int .i64 (clampM cs width (lim width - (edgesM cs width 0).sum)))) (w1.heap.size) 44 (used0 cs width).cells) := Lib.hid (by rw [hu.out]; exact Z4.out.set_ 12 _)
    go_wp2_with (refine ld_sz (by rfl) _ (by rfl) _ (by rfl) (z := used0 cs width) ZU.out ?_)
    clear ZU
    refine (rsum_c _ (used0_small cs width) _).mono ?_
    rintro e w5 ⟨rfl, hb5⟩
    have S5 : Hid (Blk w5 (w.heap.size) 35 (cs)) := Lib.hid ((S4.out.off_ (by omega) _).below' hb5)
    have R5 : Hid (Blk w5 (w.heap.size + 1) 44 (zero13.cells)) := Lib.hid ((R4.out.off_ (by omega) _).below' hb5)
    have T5 := Lib.hid ((below_set T4.out (by omega) _).trans (hb5.mono (by first | omega | (simp <;> omega))))
    have z5 := T5.out.size
    have y5 := hb5.size
    try simp at y5
    have Z5 : Hid (Blk w5 (w1.heap.size) 44 (used0 cs width).cells) := Lib.hid ((show Blk (w4.setCell ⟨w1.heap.size, 12, none⟩ (.int .i64 (clampM cs width (lim width - (edgesM cs width 0).sum)))) (w1.heap.size) 44 (used0 cs width).cells by rw [hu.out]; exact Z4.out.set_ 12 _).below' hb5)
    clear hb5 cZ4 fZ4 S4 R4 Z4 T4
    have lS5 := S5.out.lt
    have lR5 := R5.out.lt
    have lZ5 := Z5.out.lt
    clear hu
    have cS5 := S5.out.cell
    go_wp2_with (fail)
    refine (rlen_c _ _ _ _).mono ?_
    rintro e w6 ⟨rfl, hb6⟩
    have S6 : Hid (Blk w6 (w.heap.size) 35 (cs)) := Lib.hid (S5.out.below' hb6)
    have R6 : Hid (Blk w6 (w.heap.size + 1) 44 (zero13.cells)) := Lib.hid (R5.out.below' hb6)
    have Z6 : Hid (Blk w6 (w1.heap.size) 44 ((used0 cs width).cells)) := Lib.hid (Z5.out.below' hb6)
    have T6 := Lib.hid (T5.out.trans (hb6.mono (by first | omega | (simp <;> omega))))
    have z6 := T6.out.size
    have y6 := hb6.size
    try simp at y6
    clear hb6 cS5 S5 R5 Z5 T5
    have lS6 := S6.out.lt
    have lR6 := R6.out.lt
    have lZ6 := Z6.out.lt
    have cS6 := S6.out.cell
    have fS6 := S6.out.frozen
    rw [lenM_lim]
    go_wp2_with (fail)
    refine (rlen_c _ _ _ _).mono ?_
    rintro e w7 ⟨rfl, hb7⟩
    have S7 : Hid (Blk w7 (w.heap.size) 35 (cs)) := Lib.hid (S6.out.below' hb7)
    have R7 : Hid (Blk w7 (w.heap.size + 1) 44 (zero13.cells)) := Lib.hid (R6.out.below' hb7)
    have Z7 : Hid (Blk w7 (w1.heap.size) 44 ((used0 cs width).cells)) := Lib.hid (Z6.out.below' hb7)
    have T7 := Lib.hid (T6.out.trans (hb7.mono (by first | omega | (simp <;> omega))))
    have z7 := T7.out.size
    have y7 := hb7.size
    try simp at y7
    clear hb7 cS6 fS6 S6 R6 Z6 T6
    have lS7 := S7.out.lt
    have lR7 := R7.out.lt
    have lZ7 := Z7.out.lt
    rw [lenM_lim]
    by_cases hr : lim width - (used0 cs width).sum ≤ 0
    ·
      have hu' := Lib.hid (show usedM cs width = used0 cs width by unfold usedM; rw [if_pos hr])
      have ZF : Hid (Blk w7 (w1.heap.size) 44 (Sz.cells ((used0 cs width)))) := Lib.hid Z7.out
      have RF : Hid (Blk w7 (w.heap.size + 1) 44 zero13.cells) := Lib.hid R7.out
      have TF : Hid (Below w.heap.size w w7) := Lib.hid T7.out
      go_wp2_with (first | (refine ld_sz (by rfl) _ (by rfl) _ (by rfl) (z := (used0 cs width)) ZF.out ?_) | (refine st_sz (by rfl) _ _ (by rfl) _ (by rfl) (z := (used0 cs width)) (by rfl) rfl RF.out ?_))
      refine bodyPost_ret (v := .agg (Sz.cells ((used0 cs width)))) (results_cell_row Try.results29 _ _ (w.heap.size + 1) 44 _ (0, 0) _ (by rfl) (RF.out.row _) Try.underlying44 rfl (by kernel_rfl)) (by rfl) ?_
      exact ⟨by rw [hu'.out], below_row TF.out (by omega) _⟩
    ·
      have hu2 := Lib.hid (used_rest cs width hr)
      have cZ7 := Z7.out.cell
      have fZ7 := Z7.out.frozen
      by_cases h3 : (lenM (gi cs 20) (gi cs 21) width).2 = false
      ·
        by_cases h1 : (lenM (gi cs 16) (gi cs 17) width).2 = false
        ·
          have hu' := Lib.hid (show usedM cs width = { used0 cs width with m3 := (lim width - (used0 cs width).sum) / 2, m1 := lim width - (used0 cs width).sum - (lim width - (used0 cs width).sum) / 2 } by rw [hu2.out]; simp only [h3, h1, if_true, if_false, Bool.true_eq_false])
          have ZF : Hid (Blk ((w7.setCell ⟨w1.heap.size, 3, none⟩ (.int .i64 ((lim width - (used0 cs width).sum) / 2))).setCell ⟨w1.heap.size, 1, none⟩ (.int .i64 (lim width - (used0 cs width).sum - (lim width - (used0 cs width).sum) / 2))) (w1.heap.size) 44 (Sz.cells ({ used0 cs width with m3 := (lim width - (used0 cs width).sum) / 2, m1 := lim width - (used0 cs width).sum - (lim width - (used0 cs width).sum) / 2 }))) := Lib.hid ((Z7.out.set_ 3 _).set_ 1 _)
          have RF : Hid (Blk ((w7.setCell ⟨w1.heap.size, 3, none⟩ (.int .i64 ((lim width - (used0 cs width).sum) / 2))).setCell ⟨w1.heap.size, 1, none⟩ (.int .i64 (lim width - (used0 cs width).sum - (lim width - (used0 cs width).sum) / 2))) (w.heap.size + 1) 44 zero13.cells) := Lib.hid ((R7.out.far (by first | omega | (dsimp only; omega)) _).far (by first | omega | (dsimp only; omega)) _)
          have TF : Hid (Below w.heap.size w ((w7.setCell ⟨w1.heap.size, 3, none⟩ (.int .i64 ((lim width - (used0 cs width).sum) / 2))).setCell ⟨w1.heap.size, 1, none⟩ (.int .i64 (lim width - (used0 cs width).sum - (lim width - (used0 cs width).sum) / 2)))) := Lib.hid ((T7.out.setCell (by first | omega | (dsimp only; omega)) _).setCell (by first | omega | (dsimp only; omega)) _)
          go_wp2_with (first | (refine ld_sz (by rfl) _ (by rfl) _ (by rfl) (z := { used0 cs width with m3 := (lim width - (used0 cs width).sum) / 2, m1 := lim width - (used0 cs width).sum - (lim width - (used0 cs width).sum) / 2 }) ZF.out ?_) | (refine st_sz (by rfl) _ _ (by rfl) _ (by rfl) (z := { used0 cs width with m3 := (lim width - (used0 cs width).sum) / 2, m1 := lim width - (used0 cs width).sum - (lim width - (used0 cs width).sum) / 2 }) (by rfl) rfl RF.out ?_))
          refine bodyPost_ret (v := .agg (Sz.cells ({ used0 cs width with m3 := (lim width - (used0 cs width).sum) / 2, m1 := lim width - (used0 cs width).sum - (lim width - (used0 cs width).sum) / 2 }))) (results_cell_row Try.results29 _ _ (w.heap.size + 1) 44 _ (0, 0) _ (by rfl) (RF.out.row _) Try.underlying44 rfl (by kernel_rfl)) (by rfl) ?_
          exact ⟨by rw [hu'.out], below_row TF.out (by omega) _⟩
        ·
          have h1' : (lenM (gi cs 16) (gi cs 17) width).2 = true := by simpa using h1
          clear h1
          have hu' := Lib.hid (show usedM cs width = { used0 cs width with m3 := lim width - (used0 cs width).sum } by rw [hu2.out]; simp only [h3, h1', if_true, if_false, Bool.true_eq_false])
          have ZF : Hid (Blk (w7.setCell ⟨w1.heap.size, 3, none⟩ (.int .i64 (lim width - (used0 cs width).sum))) (w1.heap.size) 44 (Sz.cells ({ used0 cs width with m3 := lim width - (used0 cs width).sum }))) := Lib.hid (Z7.out.set_ 3 _)
          have RF : Hid (Blk (w7.setCell ⟨w1.heap.size, 3, none⟩ (.int .i64 (lim width - (used0 cs width).sum))) (w.heap.size + 1) 44 zero13.cells) := Lib.hid (R7.out.far (by first | omega | (dsimp only; omega)) _)
          have TF : Hid (Below w.heap.size w (w7.setCell ⟨w1.heap.size, 3, none⟩ (.int .i64 (lim width - (used0 cs width).sum)))) := Lib.hid (T7.out.setCell (by first | omega | (dsimp only; omega)) _)
          go_wp2_with (first | (refine ld_sz (by rfl) _ (by rfl) _ (by rfl) (z := { used0 cs width with m3 := lim width - (used0 cs width).sum }) ZF.out ?_) | (refine st_sz (by rfl) _ _ (by rfl) _ (by rfl) (z := { used0 cs width with m3 := lim width - (used0 cs width).sum }) (by rfl) rfl RF.out ?_))
          refine bodyPost_ret (v := .agg (Sz.cells ({ used0 cs width with m3 := lim width - (used0 cs width).sum }))) (results_cell_row Try.results29 _ _ (w.heap.size + 1) 44 _ (0, 0) _ (by rfl) (RF.out.row _) Try.underlying44 rfl (by kernel_rfl)) (by rfl) ?_
          exact ⟨by rw [hu'.out], below_row TF.out (by omega) _⟩
      ·
        have h3' : (lenM (gi cs 20) (gi cs 21) width).2 = true := by simpa using h3
        clear h3
        by_cases h1 : (lenM (gi cs 16) (gi cs 17) width).2 = false
        ·
          have hu' := Lib.hid (show usedM cs width = { used0 cs width with m1 := lim width - (used0 cs width).sum } by rw [hu2.out]; simp only [h3', h1, if_true, if_false, Bool.true_eq_false])
          have ZF : Hid (Blk (w7.setCell ⟨w1.heap.size, 1, none⟩ (.int .i64 (lim width - (used0 cs width).sum))) (w1.heap.size) 44 (Sz.cells ({ used0 cs width with m1 := lim width - (used0 cs width).sum }))) := Lib.hid (Z7.out.set_ 1 _)
          have RF : Hid (Blk (w7.setCell ⟨w1.heap.size, 1, none⟩ (.int .i64 (lim width - (used0 cs width).sum))) (w.heap.size + 1) 44 zero13.cells) := Lib.hid (R7.out.far (by first | omega | (dsimp only; omega)) _)
          have TF : Hid (Below w.heap.size w (w7.setCell ⟨w1.heap.size, 1, none⟩ (.int .i64 (lim width - (used0 cs width).sum)))) := Lib.hid (T7.out.setCell (by first | omega | (dsimp only; omega)) _)
          go_wp2_with (first | (refine ld_sz (by rfl) _ (by rfl) _ (by rfl) (z := { used0 cs width with m1 := lim width - (used0 cs width).sum }) ZF.out ?_) | (refine st_sz (by rfl) _ _ (by rfl) _ (by rfl) (z := { used0 cs width with m1 := lim width - (used0 cs width).sum }) (by rfl) rfl RF.out ?_))
          refine bodyPost_ret (v := .agg (Sz.cells ({ used0 cs width with m1 := lim width - (used0 cs width).sum }))) (results_cell_row Try.results29 _ _ (w.heap.size + 1) 44 _ (0, 0) _ (by rfl) (RF.out.row _) Try.underlying44 rfl (by kernel_rfl)) (by rfl) ?_
          exact ⟨by rw [hu'.out], below_row TF.out (by omega) _⟩
        ·
          have h1' : (lenM (gi cs 16) (gi cs 17) width).2 = true := by simpa using h1
          clear h1
          have hu' := Lib.hid (show usedM cs width = used0 cs width by rw [hu2.out]; simp only [h3', h1', if_true, if_false, Bool.true_eq_false])
          have ZF : Hid (Blk w7 (w1.heap.size) 44 (Sz.cells (used0 cs width))) := Lib.hid Z7.out
          have RF : Hid (Blk w7 (w.heap.size + 1) 44 zero13.cells) := Lib.hid R7.out
          have TF : Hid (Below w.heap.size w w7) := Lib.hid T7.out
          go_wp2_with (first | (refine ld_sz (by rfl) _ (by rfl) _ (by rfl) (z := used0 cs width) ZF.out ?_) | (refine st_sz (by rfl) _ _ (by rfl) _ (by rfl) (z := used0 cs width) (by rfl) rfl RF.out ?_))
          refine bodyPost_ret (v := .agg (Sz.cells (used0 cs width))) (results_cell_row Try.results29 _ _ (w.heap.size + 1) 44 _ (0, 0) _ (by rfl) (RF.out.row _) Try.underlying44 rfl (by kernel_rfl)) (by rfl) ?_
          exact ⟨by rw [hu'.out], below_row TF.out (by omega) _⟩
end Go.Proofs.Ytkciiamllegclaa

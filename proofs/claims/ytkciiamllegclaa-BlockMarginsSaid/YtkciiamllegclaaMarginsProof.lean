/- BlockMargins returns true for every three margins and every number. -/
import Derived.Test.YtkciiamllegclaaRows
import Derived.Test.YtkciiamllegclaaMargins
import Derived.Test.YtkciiamllegclaaFrame
namespace Go.Proofs.Ytkciiamllegclaa.blockMargins
open Go.ChangeShapes Go.WideShapes Go.ChangeAt Go.RowKit

theorem own : ownKnob Try.prog.godebug = none := by kernel_rfl
theorem laid : laidOutB Try.prog = true := by kernel_rfl
theorem read_ok : ∀ t ∈ Try.f3.params.toList, Try.prog.readableRec t = true ∧ t < Try.prog.types.size := by
  intro t ht
  rw [Try.params3] at ht
  simp only [List.mem_cons, List.not_mem_nil, or_false] at ht
  rcases ht with rfl | rfl
  · exact ⟨by kernel_rfl, of_decide_eq_true (by kernel_rfl)⟩
  · exact ⟨by kernel_rfl, of_decide_eq_true (by kernel_rfl)⟩
set_option maxRecDepth 100000 in
/-- A margin's two cells. -/
theorem margin_cells {H : Type} {enc : TypeId × Value → H} {W : World} {base : Nat} {spare : Nat → Bool} {held : Bool} {fuel : Nat} {cs : List Value} {x : DataW H × List MemPlace}
    (h : DataW.trod enc Try.prog W base spare held fuel 23 cs = some x) : ∃ p n : Int, cs = [.int .i64 p, .int .i64 n] := by
  obtain ⟨y0, y1, n, _, hl, h0, h1⟩ := trod_struct2 Try.underlying23 h
  have hc : Try.prog.cellsOf 23 = 2 := by kernel_rfl
  have hi : Try.prog.cellsOf 3 = 1 := by kernel_rfl
  rw [hc] at hl
  match cs, hl with
  | [c0, c1], _ =>
    simp only [hi, List.drop_zero, List.drop_succ_cons, List.take_succ_cons, List.take_zero] at h0 h1
    obtain ⟨p, e0, _, _⟩ := DataW.trod_int Try.underlying3 h0
    obtain ⟨q, e1, _, _⟩ := DataW.trod_int Try.underlying3 h1
    simp only [List.cons.injEq, and_true] at e0 e1
    exact ⟨p, q, by rw [e0, e1]⟩
set_option maxRecDepth 100000 in
theorem three_cells {H : Type} {enc : TypeId × Value → H} {W : World} {base : Nat} {spare : Nat → Bool} {held : Bool} {v : Value} {d : DataW H} {ps : List MemPlace}
    (h : DataW.Trod enc Try.prog W base spare held 24 v d ps) : ∃ a0 a1 b0 b1 c0 c1 : Int, v = .agg #[.int .i64 a0, .int .i64 a1, .int .i64 b0, .int .i64 b1, .int .i64 c0, .int .i64 c1] := by
  obtain ⟨fuel, hf⟩ := h
  obtain ⟨xs, m, _, _, hl, hx, hi⟩ := DataW.trod_array Try.underlying24 hf
  have hc : Try.prog.cellsOf 24 = 6 := by kernel_rfl
  have h2 : Try.prog.cellsOf 23 = 2 := by kernel_rfl
  rw [hc] at hl
  have hl' : v.cells.size = 6 := by simpa using hl
  obtain ⟨cs, rfl⟩ := agg_of_len (v := v) (by omega)
  obtain ⟨l⟩ := cs
  have hl2 : l.length = 6 := by simpa [Value.cells] using hl
  match l, hl2 with
  | [c0, c1, c2, c3, c4, c5], _ =>
    have g0 := hi 0 (by omega)
    have g1 := hi 1 (by omega)
    have g2 := hi 2 (by omega)
    rw [h2] at g0 g1 g2
    simp only [Value.cells, Nat.zero_mul, Nat.one_mul, List.drop_zero, List.drop_succ_cons, List.take_succ_cons, List.take_zero] at g0 g1 g2
    rw [List.getElem?_eq_getElem (by omega)] at g0 g1 g2
    obtain ⟨a0, a1, e0⟩ := margin_cells g0
    obtain ⟨b0, b1, e1⟩ := margin_cells g1
    obtain ⟨d0, d1, e2⟩ := margin_cells g2
    simp only [List.cons.injEq, and_true] at e0 e1 e2
    exact ⟨a0, a1, b0, b1, d0, d1, by rw [e0.1, e0.2, e1.1, e1.2, e2.1, e2.2]⟩
set_option maxRecDepth 100000 in
theorem lifted (os : Os) (started : os.Started) (H : Type) (enc : TypeId × Value → H) :
    ReturnsInHanded {} Try.checked os 3 .any (Rows.blockMarginsSpec.pre6 enc Try.prog Try.f3 Rows.blockMarginsRow.domain false) (Rows.blockMarginsSpec.post enc Try.prog Try.f3 false true false false) := by
  refine returnsInHanded_of_change (C := Try.checked) own started (by kernel_rfl) Try.func3
    (ChangeSpec.witness6 (enc := enc) (C := Try.checked) false ⟨#[], #[.agg #[.int .i64 0, .int .i64 0, .int .i64 0, .int .i64 0, .int .i64 0, .int .i64 0], .int .i64 0], []⟩ 8 (by kernel_rfl) (by kernel_rfl) (by kernel_rfl) (by kernel_rfl)) ?_
  intro W base args ds gs before hval0 hW hcnd _
  have hval : ∀ (j : Nat) t v, Try.f3.params[j]? = some t → args[j]? = some v → Value.okWide Try.prog W .any base t v := hval0
  have hW' := hW
  obtain ⟨p, q, hA0, hV, rfl, hfz, hnd⟩ := hW
  have hA : DataW.TrodAll enc Try.prog W 0 (fun _ => true) true Try.f3.params.toList args.toList ds p := hA0
  have hA' := hA
  rw [Try.params3] at hA hval
  obtain ⟨v0, v1, d0, d1, p0, p1, rfl, rfl, rfl, h0, h1⟩ := trodAll_two hA
  obtain ⟨rfl, rfl⟩ := trodVars_none hV
  obtain ⟨a0, a1, b0, b1, c0, c1, rfl⟩ := three_cells h0
  obtain ⟨n, rfl, rfl, rfl, wn⟩ := open_int Try.underlying3 (hval 1 3 v1 rfl rfl) h1
  simp only [List.append_nil] at hW'
  refine (margins_c a0 a1 b0 b1 c0 c1 n W (bounds_i64 wn)).mono fun e W' ⟨he, hb⟩ => ?_
  subst he
  exact ⟨_, rfl, law_post laid rfl (tb := 4) (by kernel_rfl) Try.underlying4 rfl rfl rfl read_ok hW' (by simp only [List.append_nil] at hA'; exact hA') hb⟩

theorem proved : Rows.BlockMarginsSaid :=
  OpenClaim.holds_of_wide 3 Try.f3 rfl rfl rfl rfl rfl rfl rfl ⟨rfl, rfl, rfl, rfl, rfl⟩ rfl rfl rfl rfl rfl (by kernel_rfl) Try.func3 (by kernel_rfl)
    (of_decide_eq_true (by kernel_rfl)) (by unfold Func.isWrapper; first | (rw [if_pos (by decide +kernel)]; kernel_rfl) | (rw [if_neg (by decide +kernel)]; exact ⟨rfl, rfl⟩))
    (fun os started H enc _ => lifted os started H enc)
#print axioms proved
end Go.Proofs.Ytkciiamllegclaa.blockMargins

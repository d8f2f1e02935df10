/- Layer 17: Stack of the program: fragments placed below each other. -/
import Derived.Test.YtkciiamllegclaaUsed
import Derived.Test.YtkciiamllegclaaLaws
import Derived.StillTailTactics
namespace Go.Proofs.Ytkciiamllegclaa
open Go.ChangeShapes Go.WideShapes Go.ChangeAt Go.RowKit
attribute [local go_sem ↓ high] run_max_i run_min_i

/-- The kinds of the 67 cells of a fragment. -/
def fragKinds : List Kd := List.replicate 7 (.int .i64) ++ [.str] ++ styleKinds ++ List.replicate 4 (.int .i64) ++ [.bool, .other]
abbrev Frag (f : Array Value) : Prop := Flat fragKinds f
theorem Frag.i {f : Array Value} (h : Frag f) (i : Nat) (hk : fragKinds[i]? = some (.int .i64) := by rfl) : f[i]? = some (.int .i64 (gi f i)) := Flat.int h i hk
theorem frag_size {f : Array Value} (h : Frag f) : f.size = 67 := h.1
theorem frag_info {f : Array Value} (h : f.size = 67) : (Try.prog.info? 60).map (·.size) = some f.size := by rw [h]; kernel_rfl
theorem frag_zero : (Try.prog.info? 60).map (fun i => (i.zero.map (·.cells.size), i.size, i.bytes)) = some (some 67, 67, 584) := by kernel_rfl

theorem frag_row : ∃ (i : TypeInfo) (z : Value), Try.prog.info? 60 = some i ∧ i.zero = some z ∧ i.size = 67 ∧ i.bytes = 584 ∧ z.cells.size = 67 := by
  have h := frag_zero
  cases hi : Try.prog.info? 60 with
  | none => rw [hi] at h; cases h
  | some i =>
    rw [hi] at h
    simp only [Option.map_some, Option.some.injEq, Prod.mk.injEq, Option.map_eq_some_iff] at h
    obtain ⟨⟨z, hz, hzs⟩, h1, h2⟩ := h
    exact ⟨i, z, rfl, hz, h1, h2, hzs⟩
structure StackSt where
  placed : List (Array Value)
  h : Int
  bp : Int
  bn : Int
  mp : Int
  mn : Int
  th : Bool
/-- Where the next fragment lies. -/
def stackY (s : StackSt) (f : Array Value) : Int := if s.th = true then 0 else wrap64 (s.h + wrap64 (max s.mp (gi f 61) + min s.mn (gi f 62)))
def stackStep (s : StackSt) (f : Array Value) : StackSt :=
  if gb f 65 = true then { s with placed := s.placed ++ [f.setIfInBounds 3 (.int .i64 (stackY s f))], mp := max s.mp (gi f 61), mn := min s.mn (gi f 62) }
  else { placed := s.placed ++ [f.setIfInBounds 3 (.int .i64 (stackY s f))], h := wrap64 (stackY s f + gi f 5),
         bp := if s.th = true then max s.mp (gi f 61) else s.bp, bn := if s.th = true then min s.mn (gi f 62) else s.bn, mp := gi f 63, mn := gi f 64, th := false }
/-- The margin before all. -/
def stackBp (s : StackSt) : Int := if s.th = true then s.mp else s.bp
def stackBn (s : StackSt) : Int := if s.th = true then s.mn else s.bn
/-- The state behind the first k fragments. -/
def stackK (fs : List (Array Value)) : Nat → StackSt
  | 0 => ⟨[], 0, 0, 0, 0, 0, true⟩
  | k + 1 => stackStep (stackK fs k) (fs.getD k #[])
theorem stackStep_len (s : StackSt) (f : Array Value) : (stackStep s f).placed.length = s.placed.length + 1 := by unfold stackStep; split <;> simp
theorem stackK_len (fs : List (Array Value)) : ∀ k, (stackK fs k).placed.length = k
  | 0 => rfl
  | k + 1 => by show (stackStep _ _).placed.length = _; rw [stackStep_len, stackK_len fs k]
theorem stackK_sizes (fs : List (Array Value)) (h : ∀ f ∈ fs, f.size = 67) : ∀ k, k ≤ fs.length → ∀ f ∈ (stackK fs k).placed, f.size = 67
  | 0, _, f, hf => by cases hf
  | k + 1, hk, f, hf => by
    have ih := stackK_sizes fs h k (by omega)
    have e : (stackK fs (k + 1)).placed = (stackK fs k).placed ++ [(fs.getD k #[]).setIfInBounds 3 (.int .i64 (stackY (stackK fs k) (fs.getD k #[])))] := by
      show (stackStep _ _).placed = _
      unfold stackStep; split <;> rfl
    rw [e, List.mem_append, List.mem_singleton] at hf
    rcases hf with hf | rfl
    · exact ih f hf
    · have hg : fs.getD k #[] = fs[k]'(by omega) := by simp [List.getD, List.getElem?_eq_getElem (show k < fs.length by omega)]
      rw [Array.size_setIfInBounds, hg]
      exact h _ (List.getElem_mem _)

theorem results_stack {W : World} {b1 b2 : Nat} {p1 n1 p2 n2 : Int} (hP : Blk W b1 23 #[.int .i64 p1, .int .i64 n1]) (hQ : Blk W b2 23 #[.int .i64 p2, .int .i64 n2]) (tmps : Array Value) {v : Value} {h : Int} {th : Bool}
    (e2 : tmps.getD 2 undef = v) (e3 : tmps.getD 3 undef = .int .i64 h) (e4 : tmps.getD 4 undef = .pointer (some ⟨b1, 0, none⟩)) (e5 : tmps.getD 5 undef = .pointer (some ⟨b2, 0, none⟩)) (e6 : tmps.getD 6 undef = .bool th) :
    (results Try.f32 tmps).run Try.prog W = .ok (.tuple #[v, .int .i64 h, .agg #[.int .i64 p1, .int .i64 n1], .agg #[.int .i64 p2, .int .i64 n2], .bool th]) W := by
  have cP := hP.cell
  have cQ := hQ.cell
  simp only [Array.getD_eq_getD_getElem?] at e2 e3 e4 e5 e6
  simp [results, Try.results32, go_sem, cP, cQ, e2, e3, e4, e5, e6]
set_option maxHeartbeats 4000000 in
set_option maxRecDepth 100000 in
theorem stack_pos (b o n c : Nat) (fs : List (Array Value)) (w : World) (hfs : ∀ f ∈ fs, Frag f) (hl : fs.length = n) (hn : n ≤ 1000000) (hpos : 0 < n) (hb : b < w.heap.size)
    (hr : ∀ (j : Nat) (f : Array Value), fs[j]? = some f → w.rangeAt b (o + j * 67) f.toList) :
    Calls Try.prog 32 #[.slice (some ⟨b, o, none⟩) n c] w fun e w' => ∃ v, e = .returned (.tuple #[v, .int .i64 (stackK fs n).h, .agg #[.int .i64 (stackBp (stackK fs n)), .int .i64 (stackBn (stackK fs n))], .agg #[.int .i64 (stackK fs n).mp, .int .i64 (stackK fs n).mn], .bool (stackK fs n).th]) ∧ w'.ownsRow w.heap.size 60 67 v n (cat (stackK fs n).placed) ∧ Below w.heap.size w w' := by
  obtain ⟨i0, z0, hi, hz, hsz, hby, hzs⟩ := frag_row
  replace hi := Lib.hid hi
  replace hz := Lib.hid hz
  replace hsz := Lib.hid hsz
  replace hby := Lib.hid hby
  replace hzs := Lib.hid hzs
  have Hr := Lib.hid hr
  clear hr
  have hl' := Lib.hid hl
  clear hl
  go_enter Try.func32, Try.ntmps32
  go_wp2_with fail
  go_loopw [2, 3, 6, 12] (fun v h t i wr => ∃ k : Nat, k ≤ n ∧ i = .int .i64 k ∧ h = .int .i64 (stackK fs k).h ∧ t = .bool (stackK fs k).th ∧ Hid (wr.ownsRow (w.heap.size + 3) 60 67 v k (cat (stackK fs k).placed)) ∧ Hid (Blk wr w.heap.size 23 #[.int .i64 (stackK fs k).bp, .int .i64 (stackK fs k).bn]) ∧ Hid (Blk wr (w.heap.size + 1) 23 #[.int .i64 0, .int .i64 0]) ∧ Hid (Blk wr (w.heap.size + 1 + 1) 23 #[.int .i64 (stackK fs k).mp, .int .i64 (stackK fs k).mn]) ∧ Hid (Below w.heap.size w wr)) (fun _ _ _ i _ => n - (intOf i).toNat)
  case atStart => exact ⟨0, by omega, rfl, rfl, rfl, Lib.hid (World.ownsRow_nil _ _ _ _), Lib.hid (nb3_1 _ _ _ rfl), Lib.hid (nb3_2 _ _ _ rfl), Lib.hid (nb3_3 _ _ _ rfl), Lib.hid (bl3 _ _ _ _)⟩
  case round =>
    obtain ⟨k, hk, rfl, rfl, rfl, hO, hP, hQ, hM, hT⟩ := hrel
    by_cases hlt : k < n
    ·
      obtain ⟨f, hf⟩ : ∃ f, fs[k]? = some f := ⟨_, List.getElem?_eq_getElem (by rw [hl'.out]; exact hlt)⟩
      have hff := hfs f (List.mem_of_getElem? hf)
      have hrg := Lib.hid (rangeAt_keep (Hr.out k f hf) (hT.out.block b hb))
      have hsucc := Lib.hid (show stackK fs (k + 1) = stackStep (stackK fs k) f by show stackStep _ _ = _; rw [show fs.getD k #[] = f by simp [List.getD, hf]])
      have f5 := hff.i 5
      have f61 := hff.i 61
      have f62 := hff.i 62
      have f63 := hff.i 63
      have f64 := hff.i 64
      have f65 : f[65]? = some (.bool (gb f 65)) := Flat.bool hff 65 rfl
      have f3 := hff.i 3
      clear hf hfs
      have hlen := stackK_len fs k
      have hlen' := Lib.hid hlen
      clear hlen
      generalize stackK fs k = s at *
      have hOL := Lib.hid hO.out.lt
      have hwr := hT.out.size
      have P0 := hP
      have Q0 := hQ
      have M0 := hM
      have T0 := hT
      have O0 := hO
      clear hP hQ hM hT hO
      have lP0 := P0.out.lt
      have lQ0 := Q0.out.lt
      have lM0 := M0.out.lt
      have cM0 := M0.out.cell
      by_cases hth : s.th = true
      ·
        go_wp2_with (first | ((with_reducible refine at_ld (ty := 60) ?_); refine ld_rng (by rfl) _ _ (by rfl) b (o + k * 67) (by rfl) hrg.out Try.underlying60 rfl (frag_info hff.1) ?_) | ((with_reducible refine at_st (ty := 60) ?_); refine st_new (by rfl) _ _ _ (by rfl) _ (by rfl) (by rfl) (by rfl) (frag_info hff.1) (by rw [hff.1]; rfl) hff.all1 ?_))
        refine (collapse_c _ _ _ _ _).mono ?_
        rintro e w1 ⟨rfl, hb1⟩
        have P1 := Lib.hid ((P0.out.alloc _).below' hb1)
        have Q1 := Lib.hid ((Q0.out.alloc _).below' hb1)
        have M1 := Lib.hid ((M0.out.alloc _).below' hb1)
        have F1 := Lib.hid ((nb1_1 _  rfl).below' hb1)
        have O1 := Lib.hid (own_below (O0.out.alloc _) hb1)
        have T1 := Lib.hid ((T0.out.alloc (by first | omega | (simp <;> omega)) _).trans (hb1.mono (by first | omega | (simp <;> omega))))
        have z1 := T1.out.size
        have y1 := hb1.size
        try simp at y1
        clear hb1 cM0 P0 Q0 M0 T0 O0
        have lP1 := P1.out.lt
        have lQ1 := Q1.out.lt
        have lM1 := M1.out.lt
        have lF1 := F1.out.lt
        have cP1 := P1.out.cell
        have fP1 := P1.out.frozen
        have cM1 := M1.out.cell
        have fM1 := M1.out.frozen
        have cF1 := F1.out.cell
        have fF1 := F1.out.frozen
        by_cases hem : gb f 65 = true
        ·
          have hst := Lib.hid (show stackStep s f = ⟨s.placed ++ [(f.setIfInBounds 3 (.int .i64 0))], s.h, s.bp, s.bn, (max s.mp (gi f 61)), (min s.mn (gi f 62)), s.th⟩ by unfold stackStep stackY; simp only [hth, hem, if_true, if_false, Bool.false_eq_true])
          have hf1 : Frag (f.setIfInBounds 3 (.int .i64 0)) := hff.set_ 3 rfl ⟨_, rfl, wf_any _ (by first | exact ⟨by omega, by omega⟩ | exact wrap64_bd _)⟩
          have hf1s := frag_size hf1
          go_wp2_with (first | ((with_reducible refine at_ld (ty := 60) ?_); refine ld_blk (by rfl) _ _ (by rfl) _ (by rfl) (t := 60) (f := (f.setIfInBounds 3 (.int .i64 0))) (by first | exact (((F1.out.off_ (by omega) _).off_ (by omega) _).set_ _ _) | (have hh := (((F1.out.off_ (by omega) _).off_ (by omega) _).set_ _ _); simpa using hh)) Try.underlying60 rfl (frag_info hf1s) ?_) | ((with_reducible refine at_sl ?_); refine wpList_slice_one (by rfl) 51 60 _ (by rfl) Try.underlying51 (f := (f.setIfInBounds 3 (.int .i64 0))) (by rfl) hi.out hz.out (hsz.out.trans hf1s.symm) (hzs.out.trans hf1s.symm) (by rw [hf1s]; omega) (by rw [hf1s]; omega) w1.heap.size (by simp only [size_setCell]) ?_) | (at_builtin; refine wpList_append_own _ (by rfl) _ _ 51 (by rfl) (w.heap.size + 3) 60 i0 z0 67 584 Try.underlying51 hi.out hz.out hsz.out hby.out hzs.out (by omega) _ k (cat s.placed) (by rfl) ((own_set (own_set (own_set O1.out (fun g hg => by have := hOL.out g hg; omega) _) (fun g hg => by have := hOL.out g hg; omega) _) (fun g hg => by have := hOL.out g hg; omega) _).alloc _) ⟨w1.heap.size, 0, none⟩ 1 1 (f.setIfInBounds 3 (.int .i64 0)).toList (by rfl) (by rw [Array.length_toList, hf1s]) (news_new _ _ _ _ (by simp only [size_setCell])) hf1.one' (by simp only [maxLen]; omega) (by omega) (by simp; omega) ?_))
          intro v' w9 hown' hgrow _
          have hown := Lib.hid hown'
          clear hown'
          have P9 := Lib.hid (((((P1.out.off_ (by omega) _).off_ (by omega) _).off_ (by omega) _).alloc _).grown hgrow (fun e => by have := hOL.out _ e.symm; omega))
          have Q9 := Lib.hid (((((Q1.out.off_ (by omega) _).off_ (by omega) _).off_ (by omega) _).alloc _).grown hgrow (fun e => by have := hOL.out _ e.symm; omega))
          have M9 := Lib.hid (((((M1.out.set_ _ _).set_ _ _).off_ (by omega) _).alloc _).grown hgrow (fun e => by have := hOL.out _ e.symm; omega))
          have T9 := Lib.hid (((below_set (below_set (below_set T1.out (by omega) _) (by omega) _) (by omega) _).alloc (by first | omega | (simp; omega)) _).grown hgrow (by first | omega | (simp; omega)) (fun g e => by have := hOL.out g e; omega))
          clear hgrow
          go_wp2_with fail
          go_roundw
          case rel =>
            refine ⟨k + 1, by omega, by go_num, ?_⟩
            rw [hsucc.out, hst.out]
            exact ⟨by first | rfl | simp, by first | rfl | rw [hth], Lib.hid (by rw [cat_append, cat_one, Array.toList_setIfInBounds]; exact hown.out), P9, Q9, M9, T9⟩
          case measure => simp [intOf]; omega
        ·
          have hem' : gb f 65 = false := by simpa using hem
          clear hem
          have hst := Lib.hid (show stackStep s f = ⟨s.placed ++ [(f.setIfInBounds 3 (.int .i64 0))], wrap64 (0 + gi f 5), (max s.mp (gi f 61)), (min s.mn (gi f 62)), gi f 63, gi f 64, false⟩ by unfold stackStep stackY; simp only [hth, hem', if_true, if_false, Bool.false_eq_true])
          have hf1 : Frag (f.setIfInBounds 3 (.int .i64 0)) := hff.set_ 3 rfl ⟨_, rfl, wf_any _ (by first | exact ⟨by omega, by omega⟩ | exact wrap64_bd _)⟩
          have hf1s := frag_size hf1
          go_wp2_with (first | ((with_reducible refine at_ld (ty := 60) ?_); refine ld_blk (by rfl) _ _ (by rfl) _ (by rfl) (t := 60) (f := (f.setIfInBounds 3 (.int .i64 0))) (by first | exact (((((((F1.out.off_ (by omega) _).off_ (by omega) _).set_ _ _).off_ (by omega) _).off_ (by omega) _).off_ (by omega) _).off_ (by omega) _) | (have hh := (((((((F1.out.off_ (by omega) _).off_ (by omega) _).set_ _ _).off_ (by omega) _).off_ (by omega) _).off_ (by omega) _).off_ (by omega) _); simpa using hh)) Try.underlying60 rfl (frag_info hf1s) ?_) | ((with_reducible refine at_sl ?_); refine wpList_slice_one (by rfl) 51 60 _ (by rfl) Try.underlying51 (f := (f.setIfInBounds 3 (.int .i64 0))) (by rfl) hi.out hz.out (hsz.out.trans hf1s.symm) (hzs.out.trans hf1s.symm) (by rw [hf1s]; omega) (by rw [hf1s]; omega) w1.heap.size (by simp only [size_setCell]) ?_) | (at_builtin; refine wpList_append_own _ (by rfl) _ _ 51 (by rfl) (w.heap.size + 3) 60 i0 z0 67 584 Try.underlying51 hi.out hz.out hsz.out hby.out hzs.out (by omega) _ k (cat s.placed) (by rfl) ((own_set (own_set (own_set (own_set (own_set (own_set (own_set O1.out (fun g hg => by have := hOL.out g hg; omega) _) (fun g hg => by have := hOL.out g hg; omega) _) (fun g hg => by have := hOL.out g hg; omega) _) (fun g hg => by have := hOL.out g hg; omega) _) (fun g hg => by have := hOL.out g hg; omega) _) (fun g hg => by have := hOL.out g hg; omega) _) (fun g hg => by have := hOL.out g hg; omega) _).alloc _) ⟨w1.heap.size, 0, none⟩ 1 1 (f.setIfInBounds 3 (.int .i64 0)).toList (by rfl) (by rw [Array.length_toList, hf1s]) (news_new _ _ _ _ (by simp only [size_setCell])) hf1.one' (by simp only [maxLen]; omega) (by omega) (by simp; omega) ?_))
          intro v' w9 hown' hgrow _
          have hown := Lib.hid hown'
          clear hown'
          have P9 := Lib.hid (((((((((P1.out.off_ (by omega) _).off_ (by omega) _).off_ (by omega) _).set_ _ _).set_ _ _).off_ (by omega) _).off_ (by omega) _).alloc _).grown hgrow (fun e => by have := hOL.out _ e.symm; omega))
          have Q9 := Lib.hid (((((((((Q1.out.off_ (by omega) _).off_ (by omega) _).off_ (by omega) _).off_ (by omega) _).off_ (by omega) _).off_ (by omega) _).off_ (by omega) _).alloc _).grown hgrow (fun e => by have := hOL.out _ e.symm; omega))
          have M9 := Lib.hid (((((((((M1.out.set_ _ _).set_ _ _).off_ (by omega) _).off_ (by omega) _).off_ (by omega) _).set_ _ _).set_ _ _).alloc _).grown hgrow (fun e => by have := hOL.out _ e.symm; omega))
          have T9 := Lib.hid (((below_set (below_set (below_set (below_set (below_set (below_set (below_set T1.out (by omega) _) (by omega) _) (by omega) _) (by omega) _) (by omega) _) (by omega) _) (by omega) _).alloc (by first | omega | (simp; omega)) _).grown hgrow (by first | omega | (simp; omega)) (fun g e => by have := hOL.out g e; omega))
          clear hgrow
          go_wp2_with fail
          go_roundw
          case rel =>
            refine ⟨k + 1, by omega, by go_num, ?_⟩
            rw [hsucc.out, hst.out]
            exact ⟨by first | rfl | simp, by first | rfl | rw [hth], Lib.hid (by rw [cat_append, cat_one, Array.toList_setIfInBounds]; exact hown.out), P9, Q9, M9, T9⟩
          case measure => simp [intOf]; omega
      ·
        have hth' : s.th = false := by simpa using hth
        clear hth
        go_wp2_with (first | ((with_reducible refine at_ld (ty := 60) ?_); refine ld_rng (by rfl) _ _ (by rfl) b (o + k * 67) (by rfl) hrg.out Try.underlying60 rfl (frag_info hff.1) ?_) | ((with_reducible refine at_st (ty := 60) ?_); refine st_new (by rfl) _ _ _ (by rfl) _ (by rfl) (by rfl) (by rfl) (frag_info hff.1) (by rw [hff.1]; rfl) hff.all1 ?_))
        refine (collapse_c _ _ _ _ _).mono ?_
        rintro e w1 ⟨rfl, hb1⟩
        have P1 := Lib.hid ((P0.out.alloc _).below' hb1)
        have Q1 := Lib.hid ((Q0.out.alloc _).below' hb1)
        have M1 := Lib.hid ((M0.out.alloc _).below' hb1)
        have F1 := Lib.hid ((nb1_1 _  rfl).below' hb1)
        have O1 := Lib.hid (own_below (O0.out.alloc _) hb1)
        have T1 := Lib.hid ((T0.out.alloc (by first | omega | (simp <;> omega)) _).trans (hb1.mono (by first | omega | (simp <;> omega))))
        have z1 := T1.out.size
        have y1 := hb1.size
        try simp at y1
        clear hb1 cM0 P0 Q0 M0 T0 O0
        have lP1 := P1.out.lt
        have lQ1 := Q1.out.lt
        have lM1 := M1.out.lt
        have lF1 := F1.out.lt
        have cP1 := P1.out.cell
        have fP1 := P1.out.frozen
        have cM1 := M1.out.cell
        have fM1 := M1.out.frozen
        have cF1 := F1.out.cell
        have fF1 := F1.out.frozen
        by_cases hem : gb f 65 = true
        ·
          go_wp2_with (fail)
          refine (msum_c _ _ _).mono ?_
          rintro e w2 ⟨rfl, hb2⟩
          have P2 := Lib.hid ((((P1.out.off_ (by omega) _).off_ (by omega) _).off_ (by omega) _).below' hb2)
          have Q2 := Lib.hid ((((Q1.out.off_ (by omega) _).off_ (by omega) _).off_ (by omega) _).below' hb2)
          have M2 := Lib.hid ((((M1.out.set_ _ _).set_ _ _).off_ (by omega) _).below' hb2)
          have F2 := Lib.hid ((((F1.out.off_ (by omega) _).off_ (by omega) _).set_ _ _).below' hb2)
          have O2 := Lib.hid (own_below (own_set (own_set (own_set O1.out (fun g hg => by have := hOL.out g hg; omega) _) (fun g hg => by have := hOL.out g hg; omega) _) (fun g hg => by have := hOL.out g hg; omega) _) hb2)
          have T2 := Lib.hid ((below_set (below_set (below_set T1.out (by omega) _) (by omega) _) (by omega) _).trans (hb2.mono (by first | omega | (simp <;> omega))))
          have z2 := T2.out.size
          have y2 := hb2.size
          try simp at y2
          clear hb2 cP1 fP1 cM1 fM1 cF1 fF1 P1 Q1 M1 F1 T1 O1
          have lP2 := P2.out.lt
          have lQ2 := Q2.out.lt
          have lM2 := M2.out.lt
          have lF2 := F2.out.lt
          have cP2 := P2.out.cell
          have fP2 := P2.out.frozen
          have cM2 := M2.out.cell
          have fM2 := M2.out.frozen
          have cF2 := F2.out.cell
          have fF2 := F2.out.frozen
          have e5 : (f.setIfInBounds 3 (.int .i64 0))[5]? = some (.int .i64 (gi f 5)) := by rw [Array.getElem?_setIfInBounds_ne (by omega)]; exact f5
          have e61 : (f.setIfInBounds 3 (.int .i64 0))[61]? = some (.int .i64 (gi f 61)) := by rw [Array.getElem?_setIfInBounds_ne (by omega)]; exact f61
          have e62 : (f.setIfInBounds 3 (.int .i64 0))[62]? = some (.int .i64 (gi f 62)) := by rw [Array.getElem?_setIfInBounds_ne (by omega)]; exact f62
          have e63 : (f.setIfInBounds 3 (.int .i64 0))[63]? = some (.int .i64 (gi f 63)) := by rw [Array.getElem?_setIfInBounds_ne (by omega)]; exact f63
          have e64 : (f.setIfInBounds 3 (.int .i64 0))[64]? = some (.int .i64 (gi f 64)) := by rw [Array.getElem?_setIfInBounds_ne (by omega)]; exact f64
          have e65 : (f.setIfInBounds 3 (.int .i64 0))[65]? = some (.bool (gb f 65)) := by rw [Array.getElem?_setIfInBounds_ne (by omega)]; exact f65
          have e3 : (f.setIfInBounds 3 (.int .i64 0))[3]? = some (.int .i64 0) := by simp [frag_size hff]
          have hst := Lib.hid (show stackStep s f = ⟨s.placed ++ [(f.setIfInBounds 3 (.int .i64 (wrap64 (s.h + wrap64 ((max s.mp (gi f 61)) + (min s.mn (gi f 62)))))))], s.h, s.bp, s.bn, (max s.mp (gi f 61)), (min s.mn (gi f 62)), s.th⟩ by unfold stackStep stackY; simp only [hth', hem, if_true, if_false, Bool.false_eq_true])
          have hf1 : Frag (f.setIfInBounds 3 (.int .i64 (wrap64 (s.h + wrap64 ((max s.mp (gi f 61)) + (min s.mn (gi f 62))))))) := hff.set_ 3 rfl ⟨_, rfl, wf_any _ (by first | exact ⟨by omega, by omega⟩ | exact wrap64_bd _)⟩
          have hf1s := frag_size hf1
          go_wp2_with (first | ((with_reducible refine at_ld (ty := 60) ?_); refine ld_blk (by rfl) _ _ (by rfl) _ (by rfl) (t := 60) (f := (f.setIfInBounds 3 (.int .i64 (wrap64 (s.h + wrap64 ((max s.mp (gi f 61)) + (min s.mn (gi f 62)))))))) (by first | exact (F2.out.set2_ _) | (have hh := (F2.out.set2_ _); simpa using hh)) Try.underlying60 rfl (frag_info hf1s) ?_) | ((with_reducible refine at_sl ?_); refine wpList_slice_one (by rfl) 51 60 _ (by rfl) Try.underlying51 (f := (f.setIfInBounds 3 (.int .i64 (wrap64 (s.h + wrap64 ((max s.mp (gi f 61)) + (min s.mn (gi f 62)))))))) (by rfl) hi.out hz.out (hsz.out.trans hf1s.symm) (hzs.out.trans hf1s.symm) (by rw [hf1s]; omega) (by rw [hf1s]; omega) w2.heap.size (by simp only [size_setCell]) ?_) | (at_builtin; refine wpList_append_own _ (by rfl) _ _ 51 (by rfl) (w.heap.size + 3) 60 i0 z0 67 584 Try.underlying51 hi.out hz.out hsz.out hby.out hzs.out (by omega) _ k (cat s.placed) (by rfl) ((own_set O2.out (fun g hg => by have := hOL.out g hg; omega) _).alloc _) ⟨w2.heap.size, 0, none⟩ 1 1 (f.setIfInBounds 3 (.int .i64 (wrap64 (s.h + wrap64 ((max s.mp (gi f 61)) + (min s.mn (gi f 62))))))).toList (by rfl) (by rw [Array.length_toList, hf1s]) (news_new _ _ _ _ (by simp only [size_setCell])) hf1.one' (by simp only [maxLen]; omega) (by omega) (by simp; omega) ?_))
          intro v' w9 hown' hgrow _
          have hown := Lib.hid hown'
          clear hown'
          have P9 := Lib.hid (((P2.out.off_ (by omega) _).alloc _).grown hgrow (fun e => by have := hOL.out _ e.symm; omega))
          have Q9 := Lib.hid (((Q2.out.off_ (by omega) _).alloc _).grown hgrow (fun e => by have := hOL.out _ e.symm; omega))
          have M9 := Lib.hid (((M2.out.off_ (by omega) _).alloc _).grown hgrow (fun e => by have := hOL.out _ e.symm; omega))
          have T9 := Lib.hid (((below_set T2.out (by omega) _).alloc (by first | omega | (simp; omega)) _).grown hgrow (by first | omega | (simp; omega)) (fun g e => by have := hOL.out g e; omega))
          clear hgrow
          go_wp2_with fail
          go_roundw
          case rel =>
            refine ⟨k + 1, by omega, by go_num, ?_⟩
            rw [hsucc.out, hst.out]
            exact ⟨by first | rfl | simp, by first | rfl | rw [hth'], Lib.hid (by rw [cat_append, cat_one, Array.toList_setIfInBounds]; exact hown.out), P9, Q9, M9, T9⟩
          case measure => simp [intOf]; omega
        ·
          have hem' : gb f 65 = false := by simpa using hem
          clear hem
          go_wp2_with (fail)
          refine (msum_c _ _ _).mono ?_
          rintro e w2 ⟨rfl, hb2⟩
          have P2 := Lib.hid ((((P1.out.off_ (by omega) _).off_ (by omega) _).off_ (by omega) _).below' hb2)
          have Q2 := Lib.hid ((((Q1.out.off_ (by omega) _).off_ (by omega) _).off_ (by omega) _).below' hb2)
          have M2 := Lib.hid ((((M1.out.set_ _ _).set_ _ _).off_ (by omega) _).below' hb2)
          have F2 := Lib.hid ((((F1.out.off_ (by omega) _).off_ (by omega) _).set_ _ _).below' hb2)
          have O2 := Lib.hid (own_below (own_set (own_set (own_set O1.out (fun g hg => by have := hOL.out g hg; omega) _) (fun g hg => by have := hOL.out g hg; omega) _) (fun g hg => by have := hOL.out g hg; omega) _) hb2)
          have T2 := Lib.hid ((below_set (below_set (below_set T1.out (by omega) _) (by omega) _) (by omega) _).trans (hb2.mono (by first | omega | (simp <;> omega))))
          have z2 := T2.out.size
          have y2 := hb2.size
          try simp at y2
          clear hb2 cP1 fP1 cM1 fM1 cF1 fF1 P1 Q1 M1 F1 T1 O1
          have lP2 := P2.out.lt
          have lQ2 := Q2.out.lt
          have lM2 := M2.out.lt
          have lF2 := F2.out.lt
          have cP2 := P2.out.cell
          have fP2 := P2.out.frozen
          have cM2 := M2.out.cell
          have fM2 := M2.out.frozen
          have cF2 := F2.out.cell
          have fF2 := F2.out.frozen
          have e5 : (f.setIfInBounds 3 (.int .i64 0))[5]? = some (.int .i64 (gi f 5)) := by rw [Array.getElem?_setIfInBounds_ne (by omega)]; exact f5
          have e61 : (f.setIfInBounds 3 (.int .i64 0))[61]? = some (.int .i64 (gi f 61)) := by rw [Array.getElem?_setIfInBounds_ne (by omega)]; exact f61
          have e62 : (f.setIfInBounds 3 (.int .i64 0))[62]? = some (.int .i64 (gi f 62)) := by rw [Array.getElem?_setIfInBounds_ne (by omega)]; exact f62
          have e63 : (f.setIfInBounds 3 (.int .i64 0))[63]? = some (.int .i64 (gi f 63)) := by rw [Array.getElem?_setIfInBounds_ne (by omega)]; exact f63
          have e64 : (f.setIfInBounds 3 (.int .i64 0))[64]? = some (.int .i64 (gi f 64)) := by rw [Array.getElem?_setIfInBounds_ne (by omega)]; exact f64
          have e65 : (f.setIfInBounds 3 (.int .i64 0))[65]? = some (.bool (gb f 65)) := by rw [Array.getElem?_setIfInBounds_ne (by omega)]; exact f65
          have e3 : (f.setIfInBounds 3 (.int .i64 0))[3]? = some (.int .i64 0) := by simp [frag_size hff]
          have hst := Lib.hid (show stackStep s f = ⟨s.placed ++ [(f.setIfInBounds 3 (.int .i64 (wrap64 (s.h + wrap64 ((max s.mp (gi f 61)) + (min s.mn (gi f 62)))))))], wrap64 ((wrap64 (s.h + wrap64 ((max s.mp (gi f 61)) + (min s.mn (gi f 62))))) + gi f 5), s.bp, s.bn, gi f 63, gi f 64, false⟩ by unfold stackStep stackY; simp only [hth', hem', if_true, if_false, Bool.false_eq_true])
          have hf1 : Frag (f.setIfInBounds 3 (.int .i64 (wrap64 (s.h + wrap64 ((max s.mp (gi f 61)) + (min s.mn (gi f 62))))))) := hff.set_ 3 rfl ⟨_, rfl, wf_any _ (by first | exact ⟨by omega, by omega⟩ | exact wrap64_bd _)⟩
          have hf1s := frag_size hf1
          go_wp2_with (first | ((with_reducible refine at_ld (ty := 60) ?_); refine ld_blk (by rfl) _ _ (by rfl) _ (by rfl) (t := 60) (f := (f.setIfInBounds 3 (.int .i64 (wrap64 (s.h + wrap64 ((max s.mp (gi f 61)) + (min s.mn (gi f 62)))))))) (by first | exact (((F2.out.set2_ _).off_ (by omega) _).off_ (by omega) _) | (have hh := (((F2.out.set2_ _).off_ (by omega) _).off_ (by omega) _); simpa using hh)) Try.underlying60 rfl (frag_info hf1s) ?_) | ((with_reducible refine at_sl ?_); refine wpList_slice_one (by rfl) 51 60 _ (by rfl) Try.underlying51 (f := (f.setIfInBounds 3 (.int .i64 (wrap64 (s.h + wrap64 ((max s.mp (gi f 61)) + (min s.mn (gi f 62)))))))) (by rfl) hi.out hz.out (hsz.out.trans hf1s.symm) (hzs.out.trans hf1s.symm) (by rw [hf1s]; omega) (by rw [hf1s]; omega) w2.heap.size (by simp only [size_setCell]) ?_) | (at_builtin; refine wpList_append_own _ (by rfl) _ _ 51 (by rfl) (w.heap.size + 3) 60 i0 z0 67 584 Try.underlying51 hi.out hz.out hsz.out hby.out hzs.out (by omega) _ k (cat s.placed) (by rfl) ((own_set (own_set (own_set O2.out (fun g hg => by have := hOL.out g hg; omega) _) (fun g hg => by have := hOL.out g hg; omega) _) (fun g hg => by have := hOL.out g hg; omega) _).alloc _) ⟨w2.heap.size, 0, none⟩ 1 1 (f.setIfInBounds 3 (.int .i64 (wrap64 (s.h + wrap64 ((max s.mp (gi f 61)) + (min s.mn (gi f 62))))))).toList (by rfl) (by rw [Array.length_toList, hf1s]) (news_new _ _ _ _ (by simp only [size_setCell])) hf1.one' (by simp only [maxLen]; omega) (by omega) (by simp; omega) ?_))
          intro v' w9 hown' hgrow _
          have hown := Lib.hid hown'
          clear hown'
          have P9 := Lib.hid (((((P2.out.off_ (by omega) _).off_ (by omega) _).off_ (by omega) _).alloc _).grown hgrow (fun e => by have := hOL.out _ e.symm; omega))
          have Q9 := Lib.hid (((((Q2.out.off_ (by omega) _).off_ (by omega) _).off_ (by omega) _).alloc _).grown hgrow (fun e => by have := hOL.out _ e.symm; omega))
          have M9 := Lib.hid (((((M2.out.off_ (by omega) _).set_ _ _).set_ _ _).alloc _).grown hgrow (fun e => by have := hOL.out _ e.symm; omega))
          have T9 := Lib.hid (((below_set (below_set (below_set T2.out (by omega) _) (by omega) _) (by omega) _).alloc (by first | omega | (simp; omega)) _).grown hgrow (by first | omega | (simp; omega)) (fun g e => by have := hOL.out g e; omega))
          clear hgrow
          go_wp2_with fail
          go_roundw
          case rel =>
            refine ⟨k + 1, by omega, by go_num, ?_⟩
            rw [hsucc.out, hst.out]
            exact ⟨by first | rfl | simp, by first | rfl | rw [hth'], Lib.hid (by rw [cat_append, cat_one, Array.toList_setIfInBounds]; exact hown.out), P9, Q9, M9, T9⟩
          case measure => simp [intOf]; omega
    · obtain rfl : k = n := by omega
      clear hlt
      generalize hs : stackK fs k = s at *
      replace hs := Lib.hid hs
      obtain ⟨pl, h, bp, bn, mp, mn, th⟩ := s
      have hOL := Lib.hid hO.out.lt
      have lM := hM.out.lt
      cases th
      · dsimp only at hO hP hQ hM hT ⊢
        have cM := hM.out.cell
        have cP := hP.out.cell
        have fP := hP.out.frozen
        have cQ := hQ.out.cell
        have fQ := hQ.out.frozen
        go_wp2_with fail
        go_region
        go_wp2_with fail
        have P1 := hP.out
        have Q1 := hQ.out
        have O1 := hO.out
        have T1 := hT.out
        replace P1 := P1.set_ 0 (.int .i64 bp)
        replace Q1 := Q1.off_ (b := w.heap.size) (o := 0) (s := none) (by omega) (.int .i64 bp)
        replace O1 := own_set O1 (b := w.heap.size) (o := 0) (s := none) (fun g hg => by have := hOL.out g hg; omega) (.int .i64 bp)
        replace T1 := below_set T1 (b := w.heap.size) (o := 0) (s := none) (by omega) (.int .i64 bp)
        replace P1 := P1.set_ 1 (.int .i64 bn)
        replace Q1 := Q1.off_ (b := w.heap.size) (o := 1) (s := none) (by omega) (.int .i64 bn)
        replace O1 := own_set O1 (b := w.heap.size) (o := 1) (s := none) (fun g hg => by have := hOL.out g hg; omega) (.int .i64 bn)
        replace T1 := below_set T1 (b := w.heap.size) (o := 1) (s := none) (by omega) (.int .i64 bn)
        replace P1 := P1.off_ (b := w.heap.size + 1) (o := 0) (s := none) (by omega) (.int .i64 mp)
        replace Q1 := Q1.set_ 0 (.int .i64 mp)
        replace O1 := own_set O1 (b := w.heap.size + 1) (o := 0) (s := none) (fun g hg => by have := hOL.out g hg; omega) (.int .i64 mp)
        replace T1 := below_set T1 (b := w.heap.size + 1) (o := 0) (s := none) (by omega) (.int .i64 mp)
        replace P1 := P1.off_ (b := w.heap.size + 1) (o := 1) (s := none) (by omega) (.int .i64 mn)
        replace Q1 := Q1.set_ 1 (.int .i64 mn)
        replace O1 := own_set O1 (b := w.heap.size + 1) (o := 1) (s := none) (fun g hg => by have := hOL.out g hg; omega) (.int .i64 mn)
        replace T1 := below_set T1 (b := w.heap.size + 1) (o := 1) (s := none) (by omega) (.int .i64 mn)
        simp only [List.setIfInBounds_toArray, List.set_cons_zero, List.set_cons_succ] at P1 Q1
        refine bodyPost_ret (v := .tuple #[u2, .int .i64 h, .agg #[.int .i64 bp, .int .i64 bn], .agg #[.int .i64 mp, .int .i64 mn], .bool false]) (results_stack P1.drew Q1.drew _ ?_ ?_ ?_ ?_ ?_) (by rfl) ?_
        · rfl
        · rfl
        · rfl
        · rfl
        · rfl
        rw [hs.out]
        exact ⟨u2, rfl, own_more (own_drew1 O1) (Nat.le_add_right _ 3), T1.drew⟩
      · dsimp only at hO hP hQ hM hT ⊢
        have cM := hM.out.cell
        have cP := hP.out.cell
        have fP := hP.out.frozen
        have cQ := hQ.out.cell
        have fQ := hQ.out.frozen
        go_wp2_with fail
        go_region
        go_wp2_with fail
        have P1 := hP.out
        have Q1 := hQ.out
        have O1 := hO.out
        have T1 := hT.out
        replace P1 := P1.set_ 0 (.int .i64 mp)
        replace Q1 := Q1.off_ (b := w.heap.size) (o := 0) (s := none) (by omega) (.int .i64 mp)
        replace O1 := own_set O1 (b := w.heap.size) (o := 0) (s := none) (fun g hg => by have := hOL.out g hg; omega) (.int .i64 mp)
        replace T1 := below_set T1 (b := w.heap.size) (o := 0) (s := none) (by omega) (.int .i64 mp)
        replace P1 := P1.set_ 1 (.int .i64 mn)
        replace Q1 := Q1.off_ (b := w.heap.size) (o := 1) (s := none) (by omega) (.int .i64 mn)
        replace O1 := own_set O1 (b := w.heap.size) (o := 1) (s := none) (fun g hg => by have := hOL.out g hg; omega) (.int .i64 mn)
        replace T1 := below_set T1 (b := w.heap.size) (o := 1) (s := none) (by omega) (.int .i64 mn)
        replace P1 := P1.set_ 0 (.int .i64 mp)
        replace Q1 := Q1.off_ (b := w.heap.size) (o := 0) (s := none) (by omega) (.int .i64 mp)
        replace O1 := own_set O1 (b := w.heap.size) (o := 0) (s := none) (fun g hg => by have := hOL.out g hg; omega) (.int .i64 mp)
        replace T1 := below_set T1 (b := w.heap.size) (o := 0) (s := none) (by omega) (.int .i64 mp)
        replace P1 := P1.set_ 1 (.int .i64 mn)
        replace Q1 := Q1.off_ (b := w.heap.size) (o := 1) (s := none) (by omega) (.int .i64 mn)
        replace O1 := own_set O1 (b := w.heap.size) (o := 1) (s := none) (fun g hg => by have := hOL.out g hg; omega) (.int .i64 mn)
        replace T1 := below_set T1 (b := w.heap.size) (o := 1) (s := none) (by omega) (.int .i64 mn)
        replace P1 := P1.off_ (b := w.heap.size + 1) (o := 0) (s := none) (by omega) (.int .i64 mp)
        replace Q1 := Q1.set_ 0 (.int .i64 mp)
        replace O1 := own_set O1 (b := w.heap.size + 1) (o := 0) (s := none) (fun g hg => by have := hOL.out g hg; omega) (.int .i64 mp)
        replace T1 := below_set T1 (b := w.heap.size + 1) (o := 0) (s := none) (by omega) (.int .i64 mp)
        replace P1 := P1.off_ (b := w.heap.size + 1) (o := 1) (s := none) (by omega) (.int .i64 mn)
        replace Q1 := Q1.set_ 1 (.int .i64 mn)
        replace O1 := own_set O1 (b := w.heap.size + 1) (o := 1) (s := none) (fun g hg => by have := hOL.out g hg; omega) (.int .i64 mn)
        replace T1 := below_set T1 (b := w.heap.size + 1) (o := 1) (s := none) (by omega) (.int .i64 mn)
        simp only [List.setIfInBounds_toArray, List.set_cons_zero, List.set_cons_succ] at P1 Q1
        refine bodyPost_ret (v := .tuple #[u2, .int .i64 h, .agg #[.int .i64 mp, .int .i64 mn], .agg #[.int .i64 mp, .int .i64 mn], .bool true]) (results_stack P1.drew Q1.drew _ ?_ ?_ ?_ ?_ ?_) (by rfl) ?_
        · rfl
        · rfl
        · rfl
        · rfl
        · rfl
        rw [hs.out]
        exact ⟨u2, rfl, own_more (own_drew1 O1) (Nat.le_add_right _ 3), T1.drew⟩
end Go.Proofs.Ytkciiamllegclaa

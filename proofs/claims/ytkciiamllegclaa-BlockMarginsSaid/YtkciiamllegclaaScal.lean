/- The functions of layer 17 (program and reference) that compute with numbers and small structs alone: each returns what its plain function says, and leaves older memory as it was. -/
import Derived.Test.YtkciiamllegclaaModel
import Derived.Test.YtkciiamllegclaaProg
namespace Go.Proofs.Ytkciiamllegclaa
open Go.ChangeShapes Go.WideShapes Go.ChangeAt Go.RowKit
attribute [local go_sem ↓ high] run_max_i run_min_i


theorem collapse_c (p n p' n' : Int) (w : World) :
    Calls Try.prog 14 #[.agg #[.int .i64 p, .int .i64 n], .agg #[.int .i64 p', .int .i64 n']] w fun e w' => e = .returned (.agg #[.int .i64 (max p p'), .int .i64 (min n n')]) ∧ Below w.heap.size w w' := by
  go_enter Try.func14, Try.ntmps14
  go_wp2
  exact bodyPost_ret (v := .agg #[.int .i64 (max p p'), .int .i64 (min n n')]) (by simp [results, Try.results14, go_sem]) rfl ⟨rfl, bl3 _ _ _ _⟩
theorem join_c (p n p' n' : Int) (w : World) :
    Calls Try.prog 15 #[.agg #[.int .i64 p, .int .i64 n], .agg #[.int .i64 p', .int .i64 n']] w fun e w' => e = .returned (.agg #[.int .i64 (max p p'), .int .i64 (min n n')]) ∧ Below w.heap.size w w' := by
  go_enter Try.func15, Try.ntmps15
  go_wp2
  exact bodyPost_ret (v := .agg #[.int .i64 (max p p'), .int .i64 (min n n')]) (by simp [results, Try.results15, go_sem]) rfl ⟨rfl, bl3 _ _ _ _⟩
theorem msum_c (p n : Int) (w : World) :
    Calls Try.prog 16 #[.agg #[.int .i64 p, .int .i64 n]] w fun e w' => e = .returned (.int .i64 (wrap64 (p + n))) ∧ Below w.heap.size w w' := by
  go_enter Try.func16, Try.ntmps16
  go_wp2
  go_ret
  exact ⟨rfl, bl1 _ _⟩
theorem size_c (p n : Int) (w : World) :
    Calls Try.prog 54 #[.agg #[.int .i64 p, .int .i64 n]] w fun e w' => e = .returned (.int .i64 (wrap64 (p + n))) ∧ Below w.heap.size w w' := by
  go_enter Try.func54, Try.ntmps54
  go_wp2
  go_ret
  exact ⟨rfl, bl1 _ _⟩
theorem of_c (n : Int) (w : World) :
    Calls Try.prog 17 #[.int .i64 n] w fun e w' => e = .returned (.agg #[.int .i64 (max n 0), .int .i64 (min n 0)]) ∧ Below w.heap.size w w' := by
  go_enter Try.func17, Try.ntmps17
  go_wp2
  exact bodyPost_ret (v := .agg #[.int .i64 (max n 0), .int .i64 (min n 0)]) (by simp [results, Try.results17, go_sem]) rfl ⟨rfl, bl1 _ _⟩
theorem rof_c (n : Int) (w : World) :
    Calls Try.prog 18 #[.int .i64 n] w fun e w' => e = .returned (.agg #[.int .i64 (max n 0), .int .i64 (min n 0)]) ∧ Below w.heap.size w w' := by
  go_enter Try.func18, Try.ntmps18
  go_wp2
  exact bodyPost_ret (v := .agg #[.int .i64 (max n 0), .int .i64 (min n 0)]) (by simp [results, Try.results18, go_sem]) rfl ⟨rfl, bl1 _ _⟩
theorem lim_c (n : Int) (w : World) :
    Calls Try.prog 52 #[.int .i64 n] w fun e w' => e = .returned (.int .i64 (min (max n 0) 1048576)) ∧ w = w' := by
  go_enter Try.func52, Try.ntmps52
  go_wp2
  go_ret
  exact ⟨rfl, rfl⟩
theorem width_c (n : Int) (w : World) :
    Calls Try.prog 30 #[.int .i64 n] w fun e w' => e = .returned (.int .i64 (min (max n 0) 1048576)) ∧ w = w' := by
  go_enter Try.func30, Try.ntmps30
  go_wp2
  go_ret
  exact ⟨rfl, rfl⟩
theorem rlim_c (n : Int) (w : World) :
    Calls Try.prog 53 #[.int .i64 n] w fun e w' => e = .returned (.int .i64 (min (max n (-1048576)) 1048576)) ∧ w = w' := by
  go_enter Try.func53, Try.ntmps53
  go_wp2
  go_ret
  exact ⟨rfl, rfl⟩
theorem px_c (n : Int) (w : World) :
    Calls Try.prog 50 #[.int .i64 n] w fun e w' => e = .returned (.agg #[.int .i64 1, .int .i64 n]) ∧ Below w.heap.size w w' := by
  go_enter Try.func50, Try.ntmps50
  go_wp2
  exact bodyPost_ret (v := .agg #[.int .i64 1, .int .i64 n]) (by simp [results, Try.results50, go_sem]) rfl ⟨rfl, bl1 _ _⟩
theorem small_c (k v : Int) (w : World) :
    Calls Try.prog 51 #[.agg #[.int .i64 k, .int .i64 v]] w fun e w' => e = .returned (.bool (decide (-16777216 ≤ v) && decide (v ≤ 16777216))) ∧ Below w.heap.size w w' := by
  by_cases h : -16777216 ≤ v
  · have hd : decide (-16777216 ≤ v) = true := by simpa using h
    go_enter Try.func51, Try.ntmps51
    go_wp2
    go_ret
    exact ⟨by simp [hd], bl1 _ _⟩
  · have hd : decide (-16777216 ≤ v) = false := by simpa using h
    go_enter Try.func51, Try.ntmps51
    go_wp2
    go_ret
    exact ⟨by simp, bl1 _ _⟩
theorem len_c (k v base : Int) (w : World) :
    Calls Try.prog 20 #[.agg #[.int .i64 k, .int .i64 v], .int .i64 base] w fun e w' => e = .returned (.tuple #[.int .i64 (lenM k v base).1, .bool (lenM k v base).2]) ∧ Below w.heap.size w w' := by
  by_cases h1 : k = 1
  · subst h1
    rw [lenM_px]
    go_enter Try.func20, Try.ntmps20
    go_wp2_with fail
    go_ret2
    exact ⟨rfl, bl1 _ _⟩
  · by_cases h2 : k = 2
    · subst h2
      rw [lenM_pc]
      go_enter Try.func20, Try.ntmps20
      go_wp2_with (go_at_call 52; refine (lim_c _ _).mono ?_; rintro e w' ⟨rfl, rfl⟩)
      rw [wrap_mul]
      go_ret2
      exact ⟨rfl, bl1 _ _⟩
    · rw [lenM_no h1 h2]
      go_enter Try.func20, Try.ntmps20
      go_wp2_with fail
      go_ret2
      exact ⟨rfl, bl1 _ _⟩
theorem quiet_left {P : Program} {f : FuncId} {args : Array Value} {w : World} {n : Nat} {v : Value}
    (h : Calls P f args (w.drewN n) fun e w' => e = .returned v ∧ w.drewN n = w') : Calls P f args (w.drewN n) fun e w'' => e = .returned v ∧ ∃ m, w'' = w.drewN m :=
  h.mono fun _ _ ⟨he, hm⟩ => ⟨he, n, hm.symm⟩
theorem rlen_c (k v base : Int) (w : World) :
    Calls Try.prog 21 #[.agg #[.int .i64 k, .int .i64 v], .int .i64 base] w fun e w' => e = .returned (.tuple #[.int .i64 (lenM k v base).1, .bool (lenM k v base).2]) ∧ Below w.heap.size w w' := by
  by_cases h1 : k = 1
  · subst h1
    rw [lenM_px]
    go_enter Try.func21, Try.ntmps21
    go_wp2_with (go_at_call 53; refine (rlim_c _ _).mono ?_; rintro e w' ⟨rfl, rfl⟩)
    go_ret2
    exact ⟨rfl, bl1 _ _⟩
  · by_cases h2 : k = 2
    · subst h2
      rw [lenM_pc]
      go_enter Try.func21, Try.ntmps21
      go_wp2_with fail
      go_quiet (first | (go_at_call 30; exact quiet_left (width_c _ _)) | (go_at_call 53; exact quiet_left (rlim_c _ _)))
      go_wp2_with fail
      rw [wrap_mul]
      go_ret2
      exact ⟨rfl, below_drewN (bl1 _ _) _⟩
    · rw [lenM_no h1 h2]
      go_enter Try.func21, Try.ntmps21
      go_wp2_with fail
      go_ret2
      exact ⟨rfl, bl1 _ _⟩
end Go.Proofs.Ytkciiamllegclaa

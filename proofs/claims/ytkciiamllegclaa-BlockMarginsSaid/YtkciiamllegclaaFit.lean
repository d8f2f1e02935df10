/- Layer 17: fit: the fixed example holds. -/
import Derived.Test.YtkciiamllegclaaStack
namespace Go.Proofs.Ytkciiamllegclaa
open Go.ChangeShapes Go.WideShapes Go.ChangeAt Go.RowKit
attribute [local go_sem ↓ high] run_max_i run_min_i

def fitSty : Array Value := #[.int .i64 0, .int .i64 0, .int .i64 0, .int .i64 0, .int .i64 0, .int .i64 0, .int .i64 1, .int .i64 100, .int .i64 0, .int .i64 0, .int .i64 0, .int .i64 0, .int .i64 0, .int .i64 0, .int .i64 0, .int .i64 0, .int .i64 0, .int .i64 0, .int .i64 0, .int .i64 0, .int .i64 0, .int .i64 0, .int .i64 0, .int .i64 0, .int .i64 0, .int .i64 0, .int .i64 0, .int .i64 0, .int .i64 0, .int .i64 0, .int .i64 0, .int .i64 0, .int .i64 0, .int .i64 0, .string ByteArray.empty, .string ByteArray.empty, .string ByteArray.empty, .int .i64 0, .int .i64 0, .int .i64 0, .int .i64 0, .int .i64 0, .int .i64 0, .bool false, .int .i64 0, .int .i64 0, .int .i64 0, .int .i64 0, .int .i64 0, .int .i64 0, .bool false, .int .i64 0, .int .i64 0]
def fitFrag : Array Value := #[.int .i64 0, .int .i64 0, .int .i64 0, .int .i64 0, .int .i64 0, .int .i64 20, .int .i64 0, .string ByteArray.empty, .int .i64 0, .int .i64 0, .int .i64 0, .int .i64 0, .int .i64 0, .int .i64 0, .int .i64 0, .int .i64 0, .int .i64 0, .int .i64 0, .int .i64 0, .int .i64 0, .int .i64 0, .int .i64 0, .int .i64 0, .int .i64 0, .int .i64 0, .int .i64 0, .int .i64 0, .int .i64 0, .int .i64 0, .int .i64 0, .int .i64 0, .int .i64 0, .int .i64 0, .int .i64 0, .int .i64 0, .int .i64 0, .int .i64 0, .int .i64 0, .int .i64 0, .int .i64 0, .int .i64 0, .int .i64 0, .string ByteArray.empty, .string ByteArray.empty, .string ByteArray.empty, .int .i64 0, .int .i64 0, .int .i64 0, .int .i64 0, .int .i64 0, .int .i64 0, .bool false, .int .i64 0, .int .i64 0, .int .i64 0, .int .i64 0, .int .i64 0, .int .i64 0, .bool false, .int .i64 0, .int .i64 0, .int .i64 10, .int .i64 0, .int .i64 10, .int .i64 0, .bool false, .slice none 0 0]
theorem fitSty_ok : Sty fitSty := Flat.ofB (by kernel_rfl)
theorem fitFrag_ok : Frag fitFrag := Flat.ofB (by kernel_rfl)
theorem fitZ : (usedM fitSty 301).c = 100 ∧ (usedM fitSty 301).m3 = 100 ∧ (usedM fitSty 301).m1 = 101 := ⟨by kernel_rfl, by kernel_rfl, by kernel_rfl⟩
theorem fitS : (stackK [fitFrag, fitFrag] 2).h = 50 ∧ stackBp (stackK [fitFrag, fitFrag] 2) = 10 ∧ stackBn (stackK [fitFrag, fitFrag] 2) = 0 ∧ (stackK [fitFrag, fitFrag] 2).mp = 10 ∧ (stackK [fitFrag, fitFrag] 2).mn = 0 ∧ (stackK [fitFrag, fitFrag] 2).th = false := ⟨by kernel_rfl, by kernel_rfl, by kernel_rfl, by kernel_rfl, by kernel_rfl, by kernel_rfl⟩
set_option maxHeartbeats 4000000 in
set_option maxRecDepth 100000 in
theorem fit_c (w : World) : Calls Try.prog 13 #[] w fun e w' => e = .returned (.bool true) ∧ Below w.heap.size w w' := by
  go_enter Try.func13, Try.ntmps13
  go_wp2_with fail
  refine (px_c _ _).mono ?_
  rintro e w1 ⟨rfl, hb1⟩
  have T1 := Lib.hid hb1
  clear hb1
  go_wp2_with fail
  refine (used_c fitSty 301 _ fitSty_ok).mono ?_
  rintro e w2 ⟨rfl, hb2⟩
  have T2 := Lib.hid (T1.out.trans (hb2.mono T1.out.size))
  clear hb2 T1
  obtain ⟨zc, z3, z1⟩ := fitZ
  generalize usedM fitSty 301 = z at *
  replace zc := Lib.hid zc
  replace z3 := Lib.hid z3
  replace z1 := Lib.hid z1
  have z2 := T2.out.size
  go_wp2_with fail
  refine (of_c _ _).mono ?_
  rintro e w3 ⟨rfl, hb3⟩
  have Z3 : Hid (Blk w3 (w2.heap.size) 44 (z.cells)) := Lib.hid ((nb1_1 _  rfl).below' hb3)
  have T3 := Lib.hid ((T2.out.alloc (by first | omega | (simp <;> omega)) _).trans (hb3.mono (by first | omega | (simp <;> omega))))
  have z3 := T3.out.size
  have y3 := hb3.size
  try simp at y3
  clear hb3 T2
  have lZ3 := Z3.out.lt
  go_wp2_with fail
  refine (of_c _ _).mono ?_
  rintro e w4 ⟨rfl, hb4⟩
  have Z4 : Hid (Blk w4 (w2.heap.size) 44 (z.cells)) := Lib.hid (Z3.out.below' hb4)
  have T4 := Lib.hid (T3.out.trans (hb4.mono (by first | omega | (simp <;> omega))))
  have z4 := T4.out.size
  have y4 := hb4.size
  try simp at y4
  clear hb4 Z3 T3
  have lZ4 := Z4.out.lt
  go_wp2_with fail
  refine (of_c _ _).mono ?_
  rintro e w5 ⟨rfl, hb5⟩
  have Z5 : Hid (Blk w5 (w2.heap.size) 44 (z.cells)) := Lib.hid (Z4.out.below' hb5)
  have T5 := Lib.hid (T4.out.trans (hb5.mono (by first | omega | (simp <;> omega))))
  have z5 := T5.out.size
  have y5 := hb5.size
  try simp at y5
  clear hb5 Z4 T4
  have lZ5 := Z5.out.lt
  go_wp2_with fail
  refine (of_c _ _).mono ?_
  rintro e w6 ⟨rfl, hb6⟩
  have Z6 : Hid (Blk w6 (w2.heap.size) 44 (z.cells)) := Lib.hid (Z5.out.below' hb6)
  have T6 := Lib.hid (T5.out.trans (hb6.mono (by first | omega | (simp <;> omega))))
  have z6 := T6.out.size
  have y6 := hb6.size
  try simp at y6
  clear hb6 Z5 T5
  have lZ6 := Z6.out.lt
  go_wp2_with fail
  have FB := Lib.hid (Blk.new w6 60 (fitFrag ++ fitFrag))
  refine (stack_pos w6.heap.size 0 2 2 [fitFrag, fitFrag] _ ?_ rfl (by omega) (by omega) ?_ ?_).mono ?_
  · intro f hf
    simp only [List.mem_cons, List.not_mem_nil, or_false, or_self] at hf
    subst hf
    exact fitFrag_ok
  · simp
  · exact range_of_cat (t := 60) (cs := fitFrag ++ fitFrag) (fs := [fitFrag, fitFrag]) FB.out (by kernel_rfl) (fun f hf => by simp only [List.mem_cons, List.not_mem_nil, or_false, or_self] at hf; subst hf; exact fitFrag_ok.1)
  rintro e w7 ⟨v, rfl, hown, hb7⟩
  obtain ⟨s1, s2, s3, s4, s5, s6⟩ := fitS
  rw [s1, s2, s3, s4, s5, s6]
  have Z7 := Lib.hid ((Z6.out.alloc _).below' hb7)
  have T7 := Lib.hid ((T6.out.alloc (by first | omega | (simp; omega)) _).trans (hb7.mono (by first | omega | (simp; omega))))
  clear hb7 hown s1 s2 s3 s4 s5 s6 FB
  have lZ7 := Z7.out.lt
  have cZ7 := Z7.out.cell
  have z7 := T7.out.size
  go_wp2_with fail
  refine (msum_c _ _ _).mono ?_
  rintro e w8 ⟨rfl, hb8⟩
  rw [show wrap64 (10 + 0) = 10 from by rw [IntWalk.wrap64_in _ ⟨by omega, by omega⟩]; rfl]
  have T8 := Lib.hid (((T7.out.alloc (by omega) _).alloc (by simp; omega) _).trans (hb8.mono (by simp; omega)))
  have c8 := ((nb2_2 w7 (t := 23) (cs' := #[.int .i64 10, .int .i64 0]) (.cells #[.int .i64 10, .int .i64 0] 23) rfl).below' hb8).cell
  have y8 := hb8.size
  simp at y8
  clear hb8 cZ7
  go_wp2_with fail
  refine (msum_c _ _ _).mono ?_
  rintro e w9 ⟨rfl, hb9⟩
  rw [show wrap64 (10 + 0) = 10 from by rw [IntWalk.wrap64_in _ ⟨by omega, by omega⟩]; rfl]
  have T9 := Lib.hid (T8.out.trans (hb9.mono (by omega)))
  clear hb9
  go_wp2_with fail
  go_ret
  exact ⟨rfl, T9.out⟩
end Go.Proofs.Ytkciiamllegclaa

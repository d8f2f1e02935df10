/- Layer 17, plain: Stack of the program and of the reference; fragments compared. No program in sight. -/
import Derived.Test.YtkciiamllegclaaSdQb
namespace Go.Proofs.Ytkciiamllegclaa
set_option linter.all false
open Go.RowKit
set_option linter.unusedSimpArgs false
def placedOf (r : (List TBlockFragment) × Int × TBlockMargin × TBlockMargin × Bool) : TKnapsackref17Placed := ⟨r.1, r.2.1, r.2.2.1, r.2.2.2.1, r.2.2.2.2⟩
theorem stack_l4 (K : Kn) (n : Nat) (L : List TBlockFragment) : ∀ (m : Nat) (i h : Int) (b : TBlockMargin) (t : Bool) (mm : TBlockMargin) (l : List TBlockFragment),
    g_ref17_Stack_l4 K n L m i h b t mm l = (g_block_Stack_l4 K n L m h t i b mm l).map placedOf
  | 0, _, _, _, _, _, _ => rfl
  | m + 1, i, h, b, t, mm, l => by
    simp only [g_ref17_Stack_l4, g_ref17_Stack_l4_b, g_block_Stack_l4, g_block_Stack_l4_b, g_block_Collapse, g_ref17_Join, g_ref17_Size, g_api_BlockMargin_Sum, Option.bind_some, g_ref17_Stack_j1, g_ref17_Stack_j2, g_ref17_Stack_j3, g_ref17_Stack_j5, g_block_Stack_j1, g_block_Stack_j2, g_block_Stack_j3, g_block_Stack_j5, stack_l4 K n L m, ite_map, chk_map, Option.map_some, placedOf]
theorem stack_eq (K : Kn) (n : Nat) (L : List TBlockFragment) : g_ref17_Stack K n L = (g_block_Stack K n L).map placedOf := stack_l4 K n L n _ _ _ _ _ _
theorem stack_tot_l4 (K : Kn) (n : Nat) (L : List TBlockFragment) (hL : (L.length : Int) ≤ 9223372036854775807) : ∀ (m : Nat) (i h : Int) (b : TBlockMargin) (t : Bool) (mm : TBlockMargin) (l : List TBlockFragment), 0 ≤ i → i ≤ L.length → (L.length : Int) < m + i → ((l.length : Int) + L.length) * 584 ≤ 140737488355328 + i * 584 →
    ∃ r, g_block_Stack_l4 K n L m h t i b mm l = some r ∧ (r.1.length : Int) = l.length + L.length - i ∧ (∀ f ∈ r.1, f ∈ l ∨ ∃ g ∈ L, f.Kids = g.Kids) := by
  intro m
  induction m with
  | zero => intro i _ _ _ _ _ h0 h1 h2 _; omega
  | succ m ih =>
    intro i h b t mm l h0 h1 h2 h3
    simp only [g_block_Stack_l4, g_block_Stack_l4_b]
    by_cases hi : i < (L.length : Int)
    · have hin := inb_of h0 hi
      have hw : w64 (i + 1) = i + 1 := w64_id (by omega) (by omega)
      have hf : fits (l.length + 1) 584 = true := fits_of (by omega) (by omega)
      have key : ∀ (h' : Int) (t' : Bool) (b' mm' : TBlockMargin) (y : Int), ∃ r, g_block_Stack_l4 K n L m h' t' (i + 1) b' mm' (l ++ [{ L.getD i.toNat default with Y := y }]) = some r ∧ (r.1.length : Int) = l.length + L.length - i ∧ (∀ f ∈ r.1, f ∈ l ∨ ∃ g ∈ L, f.Kids = g.Kids) := by
        intro h' t' b' mm' y
        obtain ⟨r, hr, hlen, hk⟩ := ih (i + 1) h' b' t' mm' (l ++ [{ L.getD i.toNat default with Y := y }]) (by omega) (by omega) (by omega) (by simp only [List.length_append, List.length_cons, List.length_nil]; omega)
        refine ⟨r, hr, by rw [hlen]; simp only [List.length_append, List.length_cons, List.length_nil]; omega, fun f hf => ?_⟩
        rcases hk f hf with hm | hm
        · rcases List.mem_append.1 hm with hm | hm
          · exact .inl hm
          · right
            have hlt : i.toNat < L.length := by omega
            refine ⟨L[i.toNat], List.getElem_mem _, ?_⟩
            simp only [List.mem_cons, List.not_mem_nil, or_false] at hm
            rw [hm, getD_get hlt]
        · exact .inr hm
      simp only [hi, decide_true, if_true, hin, chk_true, g_block_Collapse, g_api_BlockMargin_Sum, Option.bind_some, g_block_Stack_j1, g_block_Stack_j2, g_block_Stack_j3, List.length_cons, List.length_nil, Nat.zero_add, hf, hw]
      repeat (first | exact key _ _ _ _ _ | split)
    · have : decide (i < (L.length : Int)) = false := by simpa using hi
      simp only [this, Bool.false_eq_true, if_false, g_block_Stack_j5]
      split <;> exact ⟨_, rfl, by show (l.length : Int) = _; omega, fun f hf => .inl hf⟩
theorem stack_tot (K : Kn) (n : Nat) (L : List TBlockFragment) (hn : L.length < n) (hL : L.length * 584 ≤ 140737488355328) : ∃ r, g_block_Stack K n L = some r ∧ r.1.length = L.length ∧ ∀ f ∈ r.1, ∃ g ∈ L, f.Kids = g.Kids := by
  obtain ⟨r, h1, hlen, h2⟩ := stack_tot_l4 K n L (by omega) n 0 0 zTBlockMargin true zTBlockMargin [] (by omega) (by omega) (by omega) (by simp; omega)
  exact ⟨r, h1, by simp only [List.length_nil] at hlen; omega, fun f hf => (h2 f hf).elim (fun h => by cases h) (fun h => h)⟩
theorem fit_true (K : Kn) (n : Nat) : g_law17_fit K (n + 5) = some true := by kernel_rfl
theorem qStyle_refl (s : TCascadeStyle) : qTCascadeStyle s s = true := by simp [qTCascadeStyle, qTCascadeLength]
theorem qMargin_refl (s : TBlockMargin) : qTBlockMargin s s = true := by simp [qTBlockMargin]
theorem same_leaf (K : Kn) (n : Nat) (f : TBlockFragment) (hk : f.Kids = []) : g_ref17_Same K (n + 1) f f = some true := by
  unfold g_ref17_Same
  simp [qStyle_refl, qMargin_refl, g_ref17_Same_j1, g_ref17_Same_l2, g_ref17_Same_l2_b, hk]
end Go.Proofs.Ytkciiamllegclaa

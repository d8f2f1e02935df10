/- Layer 17, plain: Stack of the program and of the reference; fragments compared. No program in sight. -/
import Derived.Test.YtkciiamllegclaaSoQb
namespace Go.Proofs.Ytkciiamllegclaa
set_option linter.all false
open Go.RowKit
set_option linter.unusedSimpArgs false
def placedOf (r : (List TBlockFragment) × Int × TBlockMargin × TBlockMargin × Bool) : TKnapsackref17Placed := ⟨r.1, r.2.1, r.2.2.1, r.2.2.2.1, r.2.2.2.2⟩
theorem stack_l4 (K : Kn) (n : Nat) (L : List TBlockFragment) : ∀ (m : Nat) (i h : Int) (b : TBlockMargin) (t : Bool) (mm : TBlockMargin) (l : List TBlockFragment),
    g_ref17_Stack_l4 K n L m i h b t mm l = (g_block_Stack_l4 K n L m h t i b mm l).map placedOf
  | 0, _, _, _, _, _, _ => rfl
  | m + 1, i, h, b, t, mm, l => by
    simp only [g_ref17_Stack_l4, g_ref17_Stack_l4_b, g_block_Stack_l4, g_block_Stack_l4_b, g_block_Collapse, g_ref17_Join, g_ref17_Size, g_api_BlockMargin_Sum, Option.bind_some, g_ref17_Stack_j1, g_ref17_Stack_j2, g_ref17_Stack_j3, g_ref17_Stack_j5, g_block_Stack_j1, g_block_Stack_j2, g_block_Stack_j3, g_block_Stack_j5, stack_l4 K n L m, ite_map, chk_map, Option.map_some, placedOf]
theorem stack_eq (K : Kn) (n : Nat) (L : List TBlockFragment) : g_ref17_Stack K n L = (g_block_Stack K n L).map placedOf := stack_l4 K n L n _ _ _ _ _ _
theorem stack_tot_l4 (K : Kn) (n : Nat) (L : List TBlockFragment) (hL : (L.length : Int) ≤ 9223372036854775807) : ∀ (m : Nat) (i h : Int) (b : TBlockMargin) (t : Bool) (mm : TBlockMargin) (l : List TBlockFragment), 0 ≤ i → i ≤ L.length → (L.length : Int) < m + i → ((l.length : Int) + L.length) * 584 ≤ 140737488355328 + i * 584 →
    ∃ r, g_block_Stack_l4 K n L m h t i b mm l = some r ∧ (r.1.length : Int) = l.length + L.length - i ∧ (∀ f ∈ r.1, f ∈ l ∨ ∃ g ∈ L, f.Kids = g.Kids) := by
  intro m
  induction m with
  | zero => intro i _ _ _ _ _ h0 h1 h2 _; omega
  | succ m ih =>
    intro i h b t mm l h0 h1 h2 h3
    simp only [g_block_Stack_l4, g_block_Stack_l4_b]
    by_cases hi : i < (L.length : Int)
    · have hin := inb_of h0 hi
      have hw : w64 (i + 1) = i + 1 := w64_id (by omega) (by omega)
      have hf : fits (l.length + 1) 584 = true := fits_of (by omega) (by omega)
      have key : ∀ (h' : Int) (t' : Bool) (b' mm' : TBlockMargin) (y : Int), ∃ r, g_block_Stack_l4 K n L m h' t' (i + 1) b' mm' (l ++ [{ L.getD i.toNat default with Y := y }]) = some r ∧ (r.1.length : Int) = l.length + L.length - i ∧ (∀ f ∈ r.1, f ∈ l ∨ ∃ g ∈ L, f.Kids = g.Kids) := by
        intro h' t' b' mm' y
        obtain ⟨r, hr, hlen, hk⟩ := ih (i + 1) h' b' t' mm' (l ++ [{ L.getD i.toNat default with Y := y }]) (by omega) (by omega) (by omega) (by simp only [List.length_append, List.length_cons, List.length_nil]; omega)
        refine ⟨r, hr, by rw [hlen]; simp only [List.length_append, List.length_cons, List.length_nil]; omega, fun f hf => ?_⟩
        rcases hk f hf with hm | hm
        · rcases List.mem_append.1 hm with hm | hm
          · exact .inl hm
          · right
            have hlt : i.toNat < L.length := by omega
            refine ⟨L[i.toNat], List.getElem_mem _, ?_⟩
            simp only [List.mem_cons, List.not_mem_nil, or_false] at hm
            rw [hm, getD_get hlt]
        · exact .inr hm
      simp only [hi, decide_true, if_true, hin, chk_true, g_block_Collapse, g_api_BlockMargin_Sum, Option.bind_some, g_block_Stack_j1, g_block_Stack_j2, g_block_Stack_j3, List.length_cons, List.length_nil, Nat.zero_add, hf, hw]
      repeat (first | exact key _ _ _ _ _ | split)
    · have : decide (i < (L.length : Int)) = false := by simpa using hi
      simp only [this, Bool.false_eq_true, if_false, g_block_Stack_j5]
      split <;> exact ⟨_, rfl, by show (l.length : Int) = _; omega, fun f hf => .inl hf⟩
theorem stack_tot (K : Kn) (n : Nat) (L : List TBlockFragment) (hn : L.length < n) (hL : L.length * 584 ≤ 140737488355328) : ∃ r, g_block_Stack K n L = some r ∧ r.1.length = L.length ∧ ∀ f ∈ r.1, ∃ g ∈ L, f.Kids = g.Kids := by
  obtain ⟨r, h1, hlen, h2⟩ := stack_tot_l4 K n L (by omega) n 0 0 zTBlockMargin true zTBlockMargin [] (by omega) (by omega) (by omega) (by simp; omega)
  exact ⟨r, h1, by simp only [List.length_nil] at hlen; omega, fun f hf => (h2 f hf).elim (fun h => by cases h) (fun h => h)⟩
theorem fit_true (K : Kn) (n : Nat) : g_law17_fit K (n + 5) = some true := by kernel_rfl
theorem qStyle_refl (s : TCascadeStyle) : qTCascadeStyle s s = true := by simp [qTCascadeStyle, qTCascadeLength]
theorem qMargin_refl (s : TBlockMargin) : qTBlockMargin s s = true := by simp [qTBlockMargin]
theorem same_leaf (K : Kn) (n : Nat) (f : TBlockFragment) (hk : f.Kids = []) : g_ref17_Same K (n + 1) f f = some true := by
  unfold g_ref17_Same
  simp [qStyle_refl, qMargin_refl, g_ref17_Same_j1, g_ref17_Same_l2, g_ref17_Same_l2_b, hk]
theorem same_loop (n k : Nat) (l : List TBlockFragment) (hl : l.length ≤ 9223372036854775807) (hk : ∀ f ∈ l, f.Kids = []) : ∀ (m : Nat) (i : Int), 0 ≤ i → i ≤ l.length → l.length < m + i → g_law17_same_l1 (KN (n + 2)) k l l m i = some true
  | 0, i, h0, h1, h2 => by omega
  | m + 1, i, h0, h1, h2 => by
    simp only [g_law17_same_l1, g_law17_same_l1_b]
    by_cases hi : i < (l.length : Int)
    · have hlt : i.toNat < l.length := by omega
      have hkk : (l.getD i.toNat default).Kids = [] := by rw [getD_get hlt]; exact hk _ (List.getElem_mem _)
      have hs : (KN (n + 2)).k_g_ref17_Same (l.getD i.toNat default) (l.getD i.toNat default) = some true := same_leaf _ n _ hkk
      simp only [hi, decide_true, if_true, inb_of h0 hi, chk_true, hs, Option.bind_some, Bool.not_true, Bool.false_eq_true, if_false, w64_id (n := i + 1) (by omega) (by omega)]
      exact same_loop n k l hl hk m (i + 1) (by omega) (by omega) (by omega)
    · simp [hi]
theorem same_refl (n k : Nat) (l : List TBlockFragment) (hl : l.length ≤ 9223372036854775807) (hk : ∀ f ∈ l, f.Kids = []) (hn : l.length < k) : g_law17_same (KN (n + 2)) k l l = some true := by
  unfold g_law17_same
  simp [same_loop n k l hl hk k 0 (by omega) (by omega) (by omega)]
/-- What calm says of a fragment. -/
structure CalmF (x : TBlockFragment) : Prop where
  kids : x.Kids = []
  bp : x.Before.Pos ≤ 1099511627776
  ap : x.After.Pos ≤ 1099511627776
/-- calm. -/
theorem calm_in (K : Kn) (n : Nat) (L : List TBlockFragment) (i : Int) (L1 : Int → Option Bool) (m : Nat) : g_law17_calm_l2 K n L i L1 (m + 8) 0 = some false ∨ (CalmF (L.getD i.toNat default) ∧ g_law17_calm_l2 K n L i L1 (m + 8) 0 = L1 (w64 (i + 1))) := by
  generalize hx : L.getD i.toNat default = x
  have e : g_law17_calm_l2 K n L i L1 (m + 8) 0 = if (x.X < -1099511627776 ∨ x.X > 1099511627776) ∨ (x.Y < -1099511627776 ∨ x.Y > 1099511627776) ∨ (x.H < -1099511627776 ∨ x.H > 1099511627776) ∨ (x.Before.Pos < -1099511627776 ∨ x.Before.Pos > 1099511627776) ∨ (x.Before.Neg < -1099511627776 ∨ x.Before.Neg > 1099511627776) ∨ (x.After.Pos < -1099511627776 ∨ x.After.Pos > 1099511627776) ∨ (x.After.Neg < -1099511627776 ∨ x.After.Neg > 1099511627776) then some false else if x.Kids.length > 0 then some false else L1 (w64 (i + 1)) := by
    have w1 : w64 (0 + 1) = 1 := rfl
    have w2 : w64 (1 + 1) = 2 := rfl
    have w3 : w64 (2 + 1) = 3 := rfl
    have w4 : w64 (3 + 1) = 4 := rfl
    have w5 : w64 (4 + 1) = 5 := rfl
    have w6 : w64 (5 + 1) = 6 := rfl
    have w7 : w64 (6 + 1) = 7 := rfl
    have step : ∀ (m : Nat) (k : Int) (y : Int), inb k 7 = true → ([x.X, x.Y, x.H, x.Before.Pos, x.Before.Neg, x.After.Pos, x.After.Neg] : List Int).getD k.toNat default = y → g_law17_calm_l2 K n L i L1 (m + 1) k = if (y < -1099511627776 ∨ y > 1099511627776) then some false else g_law17_calm_l2 K n L i L1 m (w64 (k + 1)) := by
      intro m k y hk hy
      have hk' := inb_spec hk
      have hd : decide (k < (([x.X, x.Y, x.H, x.Before.Pos, x.Before.Neg, x.After.Pos, x.After.Neg] : List Int).length : Int)) = true := by simp only [List.length_cons, List.length_nil]; simp; omega
      have hk2 : inb k ([x.X, x.Y, x.H, x.Before.Pos, x.Before.Neg, x.After.Pos, x.After.Neg] : List Int).length = true := hk
      simp only [g_law17_calm_l2, g_law17_calm_l2_b, g_law17_calm_j1, hx, hd, hk2, chk_true, if_true, hy]
      by_cases c1 : y < -1099511627776
      · simp [c1]
      · by_cases c2 : y > 1099511627776 <;> simp [c1, c2]
    have last : ∀ (m : Nat), g_law17_calm_l2 K n L i L1 (m + 1) 7 = if x.Kids.length > 0 then some false else L1 (w64 (i + 1)) := by
      intro m
      simp only [g_law17_calm_l2, g_law17_calm_l2_b, hx]
      simp
    rw [step (m + 7) 0 x.X rfl rfl, w1, step (m + 6) 1 x.Y rfl rfl, w2, step (m + 5) 2 x.H rfl rfl, w3, step (m + 4) 3 x.Before.Pos rfl rfl, w4, step (m + 3) 4 x.Before.Neg rfl rfl, w5, step (m + 2) 5 x.After.Pos rfl rfl, w6, step (m + 1) 6 x.After.Neg rfl rfl, w7, last m]
    generalize (if x.Kids.length > 0 then some false else L1 (w64 (i + 1))) = R
    repeat (first | rfl | (split <;> rename_i hc <;> simp only [hc, true_or, false_or, or_true, if_true]))
  rw [e]
  split
  · exact .inl rfl
  · rename_i hr
    split
    · exact .inl rfl
    · rename_i h
      exact .inr ⟨⟨List.eq_nil_of_length_eq_zero (by omega), by omega, by omega⟩, rfl⟩
theorem calm_loop (K : Kn) (n : Nat) (L : List TBlockFragment) (hL : (L.length : Int) ≤ 9223372036854775807) (hn : 8 ≤ n) : ∀ (m : Nat) (i : Int), 0 ≤ i → i ≤ L.length → (L.length : Int) < m + i →
    ∃ b, g_law17_calm_l3 K n L m i = some b ∧ (b = true → L.length ≤ 30 ∧ ∀ k, i.toNat ≤ k → k < L.length → CalmF (L.getD k default)) := by
  intro m
  induction m with
  | zero => intro i h0 h1 h2; omega
  | succ m ih =>
    intro i h0 h1 h2
    simp only [g_law17_calm_l3, g_law17_calm_l3_b]
    by_cases hi : i < (L.length : Int)
    · obtain ⟨b, hb, hk⟩ := ih (i + 1) (by omega) (by omega) (by omega)
      simp only [hi, decide_true, if_true, inb_of h0 hi, chk_true]
      obtain ⟨q, rfl⟩ : ∃ q, n = q + 8 := ⟨n - 8, by omega⟩
      rcases calm_in K (q + 8) L i (g_law17_calm_l3 K (q + 8) L m) q with h | ⟨h, h'⟩
      · exact ⟨false, h, fun e => by cases e⟩
      · rw [h', w64_id (by omega) (by omega)]
        refine ⟨b, hb, fun e => ⟨(hk e).1, fun k h3 h4 => ?_⟩⟩
        by_cases e2 : k = i.toNat
        · subst e2; exact h
        · exact (hk e).2 k (by omega) h4
    · have hd : decide (i < (L.length : Int)) = false := by simpa using hi
      simp only [hd, Bool.false_eq_true, if_false]
      exact ⟨_, rfl, fun e => ⟨by have := of_decide_eq_true e; omega, fun k h3 h4 => by omega⟩⟩
theorem calm_tot (K : Kn) (n : Nat) (L : List TBlockFragment) (hL : (L.length : Int) ≤ 9223372036854775807) (hn : 8 ≤ n) (hn2 : L.length < n) : ∃ b, g_law17_calm K n L = some b ∧ (b = true → L.length ≤ 30 ∧ ∀ f ∈ L, CalmF f) := by
  obtain ⟨b, h1, h2⟩ := calm_loop K n L hL hn n 0 (by omega) (by omega) (by omega)
  refine ⟨b, h1, fun e => ⟨(h2 e).1, fun f hf => ?_⟩⟩
  obtain ⟨k, hk, rfl⟩ := List.mem_iff_getElem.1 hf
  have := (h2 e).2 k (by simp) hk
  rwa [getD_get hk] at this
theorem blockStack (L : List TBlockFragment) (hL : (L.length : Int) ≤ 9223372036854775807) : ∃ n, g_law17_BlockStack (KN n) n L = some true := by
  refine ⟨L.length + 10, ?_⟩
  have hK : KN (L.length + 10) = KN ((L.length + 8) + 2) := rfl
  obtain ⟨b, hb, hc⟩ := calm_tot (KN (L.length + 10)) (L.length + 10) L hL (by omega) (by omega)
  unfold g_law17_BlockStack
  rw [show L.length + 10 = (L.length + 5) + 5 from rfl, fit_true, show (L.length + 5) + 5 = L.length + 10 from rfl]
  simp only [Option.bind_some, Bool.not_true, Bool.false_eq_true, if_false, hb]
  cases b with
  | false => simp
  | true =>
    obtain ⟨h30, hk⟩ := hc rfl
    obtain ⟨r, hr, hlen, hrk⟩ := stack_tot (KN (L.length + 10)) (L.length + 10) L (by omega) (by omega)
    have hkid : ∀ f ∈ r.1, f.Kids = [] := fun f hf => by
      obtain ⟨g, hg, e⟩ := hrk f hf
      rw [e]; exact (hk g hg).kids
    simp only [Bool.not_true, Bool.false_eq_true, if_false, hr, Option.bind_some, stack_eq, Option.map_some, placedOf]
    have hs := same_refl (L.length + 8) (L.length + 10) r.1 (by omega) hkid (by omega)
    rw [← hK] at hs
    simp [hs, qMargin_refl, g_law17_BlockStack_j1]
end Go.Proofs.Ytkciiamllegclaa

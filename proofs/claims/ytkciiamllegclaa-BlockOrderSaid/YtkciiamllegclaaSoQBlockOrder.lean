/- BlockOrder, plain: true of every list that can be handed in. -/
import Derived.Test.YtkciiamllegclaaSoQStack
import Derived.Test.YtkciiamllegclaaSoGop
namespace Go.Proofs.Ytkciiamllegclaa.QBlockOrder
set_option linter.all false
open Go.RowKit
def plc (h : Int) (mm : TBlockMargin) : List TBlockFragment → List TBlockFragment × Int
  | [] => ([], h)
  | f :: r =>
    let y := w64 (h + max mm.Pos f.Before.Pos)
    ({ f with Y := y } :: (plc (w64 (y + f.H)) f.After r).1, (plc (w64 (y + f.H)) f.After r).2)
structure GoodF (f : TBlockFragment) : Prop where
  e : f.Empty = false
  bn : f.Before.Neg = 0
  an : f.After.Neg = 0
  bp : 0 ≤ f.Before.Pos ∧ f.Before.Pos ≤ 1099511627776
  ap : 0 ≤ f.After.Pos ∧ f.After.Pos ≤ 1099511627776
theorem drop_at {L : List TBlockFragment} {i : Nat} (h : i < L.length) : L.drop i = L.getD i default :: L.drop (i + 1) := by
  rw [getD_get h]; exact List.drop_eq_getElem_cons h
theorem stack_loop (K : Kn) (n : Nat) (L : List TBlockFragment) (hL : L.length ≤ 30) (hg : ∀ f ∈ L, GoodF f) : ∀ (m : Nat) (i : Nat) (h : Int) (b mm : TBlockMargin) (l : List TBlockFragment), i ≤ L.length → L.length < m + i → l.length ≤ i → mm.Neg = 0 → 0 ≤ mm.Pos → mm.Pos ≤ 1099511627776 →
    ∃ q, g_block_Stack_l4 K n L m h false i b mm l = some (l ++ (plc h mm (L.drop i)).1, (plc h mm (L.drop i)).2, b, q, false) := by
  intro m
  induction m with
  | zero => intro i _ _ _ _ h1 h2; omega
  | succ m ih =>
    intro i h b mm l h1 h2 hl hn hp hp2
    simp only [g_block_Stack_l4, g_block_Stack_l4_b]
    by_cases hi : i < L.length
    · have hlt : (i : Int) < (L.length : Int) := by omega
      have hgf := hg L[i] (List.getElem_mem _)
      have hget := getD_get hi
      have hne : (!L[i].Empty) = true := by rw [hgf.e]; rfl
      have hto : ((i : Int)).toNat = i := by omega
      simp only [hlt, decide_true, if_true, inb_of (by omega) hlt, chk_true, g_block_Collapse, g_api_BlockMargin_Sum, Option.bind_some, hto, hget, g_block_Stack_j1, g_block_Stack_j2, g_block_Stack_j3, hne, hn, hgf.bn, Bool.not_false, if_true]
      have w1 : w64 (max mm.Pos L[i].Before.Pos + min 0 0) = max mm.Pos L[i].Before.Pos := by
        have := hgf.bp; rw [w64_id (by omega) (by omega)]; omega
      have w2 : w64 ((i : Int) + 1) = ((i + 1 : Nat) : Int) := by rw [w64_id (by omega) (by omega)]; omega
      have hf : fits (l.length + ([{ L[i] with Y := w64 (h + max mm.Pos L[i].Before.Pos) }] : List TBlockFragment).length) 584 = true := fits_of (by simp only [List.length_cons, List.length_nil]; omega) (by omega)
      simp only [w1, w2, hf, chk_true, Bool.false_eq_true, if_false, if_true]
      obtain ⟨q, hq⟩ := ih (i + 1) (w64 (w64 (h + max mm.Pos L[i].Before.Pos) + L[i].H)) b L[i].After (l ++ [{ L[i] with Y := w64 (h + max mm.Pos L[i].Before.Pos) }]) (by omega) (by omega) (by simp; omega) hgf.an hgf.ap.1 hgf.ap.2
      refine ⟨q, ?_⟩
      rw [hq, List.drop_eq_getElem_cons hi]
      simp [plc]
    · have hd : decide ((i : Int) < (L.length : Int)) = false := by simp; omega
      have hdr : L.drop i = [] := List.drop_eq_nil_of_le (by omega)
      simp only [hd, Bool.false_eq_true, if_false, g_block_Stack_j5, hdr, plc, List.append_nil]
      exact ⟨_, rfl⟩
theorem law_loop (K : Kn) (n : Nat) (L : List TBlockFragment) (hL : L.length ≤ 30) (v7 : (List TBlockFragment) × Int × TBlockMargin × TBlockMargin × Bool) (hlen : v7.1.length = L.length) : ∀ (m : Nat) (i : Nat) (bt : Int), 1 ≤ i → i ≤ L.length → L.length < m + i →
    v7.1.drop i = (plc bt (L.getD (i - 1) default).After (L.drop i)).1 → v7.2.1 = (plc bt (L.getD (i - 1) default).After (L.drop i)).2 → g_law17_BlockOrder_l5 K n L v7 m bt i = some true := by
  intro m
  induction m with
  | zero => intro i _ _ h1 h2; omega
  | succ m ih =>
    intro i bt h0 h1 h2 e1 e2
    simp only [g_law17_BlockOrder_l5, g_law17_BlockOrder_l5_b]
    by_cases hi : i < L.length
    · have hlt : (i : Int) < (v7.1.length : Int) := by omega
      have hto : ((i : Int)).toNat = i := by omega
      have w0 : w64 ((i : Int) - 1) = ((i - 1 : Nat) : Int) := by rw [w64_id (by omega) (by omega)]; omega
      have w1 : w64 ((i : Int) + 1) = ((i + 1 : Nat) : Int) := by rw [w64_id (by omega) (by omega)]; omega
      have hto2 : (((i - 1 : Nat) : Int)).toNat = i - 1 := by omega
      have hip : decide ((i : Int) > 0) = true := by simp; omega
      rw [drop_at hi, drop_at (L := v7.1) (by omega)] at e1
      rw [drop_at hi] at e2
      simp only [plc, List.cons.injEq] at e1 e2
      obtain ⟨e3, e4⟩ := e1
      have hne : ((i : Int) == 0) = false := by simp; omega
      simp only [hlt, decide_true, if_true, inb_of (by omega) hlt, chk_true, hip, w0, w1, hto, hto2, inb_of (i := ((i - 1 : Nat) : Int)) (n := L.length) (by omega) (by omega), e3, hne, bne_self_eq_false, Bool.false_eq_true, if_false, g_law17_BlockOrder_j4]
      refine ih (i + 1) _ (by omega) (by omega) (by omega) ?_ ?_
      · rw [Nat.add_sub_cancel]; exact e4
      · rw [Nat.add_sub_cancel]; exact e2
    · have hd : decide ((i : Int) < (v7.1.length : Int)) = false := by simp; omega
      have hdr : L.drop i = [] := List.drop_eq_nil_of_le (by omega)
      rw [hdr] at e2
      simp only [plc] at e2
      simp only [hd, Bool.false_eq_true, if_false, e2, beq_self_eq_true]
theorem final (K : Kn) (n : Nat) (L : List TBlockFragment) (hL : L.length ≤ 30) (hn : L.length + 1 < n) (hg : ∀ f ∈ L, GoodF f) : ((g_block_Stack K n L).bind fun v7 =>
    if ((v7.1.length : Int) != (L.length : Int)) = true then g_law17_BlockOrder_j3 K n L v7 true else g_law17_BlockOrder_j3 K n L v7 (!(v7.2.2.2.2 == ((L.length : Int) == 0)))) = some true := by
  obtain ⟨n', rfl⟩ : ∃ n', n = n' + 1 := ⟨n - 1, by omega⟩
  cases hLc : L with
  | nil =>
    subst hLc
    simp [g_block_Stack, g_block_Stack_l4, g_block_Stack_l4_b, g_block_Stack_j5, g_law17_BlockOrder_j3, g_law17_BlockOrder_l5, g_law17_BlockOrder_l5_b]
  | cons f r =>
    rw [← hLc]
    have hpos : 0 < L.length := by rw [hLc]; simp
    have h0f : L.getD 0 default = f := by rw [hLc]; rfl
    have hd1 : L.drop 1 = r := by rw [hLc]; rfl
    have hgf := hg f (by rw [hLc]; simp)
    have hlt : (0 : Int) < (L.length : Int) := by omega
    have hne0 : (!f.Empty) = true := by rw [hgf.e]; rfl
    have hto : ((0 : Int)).toNat = 0 := rfl
    have w1 : w64 (0 + 1) = ((1 : Nat) : Int) := rfl
    have hf : fits (([] : List TBlockFragment).length + ([{ f with Y := 0 }] : List TBlockFragment).length) 584 = true := fits_of (by simp) (by omega)
    obtain ⟨q, hq⟩ := stack_loop K (n' + 1) L hL hg n' 1 (w64 (0 + f.H)) { Pos := max zTBlockMargin.Pos f.Before.Pos, Neg := min zTBlockMargin.Neg f.Before.Neg } f.After ([] ++ [{ f with Y := 0 }]) (by omega) (by omega) (by simp) hgf.an hgf.ap.1 hgf.ap.2
    have hs : g_block_Stack K (n' + 1) L = some ([] ++ [{ f with Y := 0 }] ++ (plc (w64 (0 + f.H)) f.After (L.drop 1)).1, (plc (w64 (0 + f.H)) f.After (L.drop 1)).2, { Pos := max zTBlockMargin.Pos f.Before.Pos, Neg := min zTBlockMargin.Neg f.Before.Neg }, q, false) := by
      unfold g_block_Stack
      rw [← hq]
      simp only [g_block_Stack_l4, g_block_Stack_l4_b, hlt, decide_true, if_true, inb_of (by omega) hlt, chk_true, g_block_Collapse, Option.bind_some, hto, h0f, Bool.not_true, Bool.false_eq_true, if_false, g_block_Stack_j1, hne0, g_block_Stack_j2, g_block_Stack_j3, hf, w1]
    have hpl : ∀ (l : List TBlockFragment) h mm, (plc h mm l).1.length = l.length := by
      intro l
      induction l with
      | nil => intro h mm; rfl
      | cons g r ih => intro h mm; simp [plc, ih]
    obtain ⟨v7, hv⟩ : ∃ v : (List TBlockFragment) × Int × TBlockMargin × TBlockMargin × Bool, v = ([] ++ [{ f with Y := 0 }] ++ (plc (w64 (0 + f.H)) f.After (L.drop 1)).1, (plc (w64 (0 + f.H)) f.After (L.drop 1)).2, { Pos := max zTBlockMargin.Pos f.Before.Pos, Neg := min zTBlockMargin.Neg f.Before.Neg }, q, false) := ⟨_, rfl⟩
    rw [← hv] at hs
    rw [hs]
    simp only [Option.bind_some]
    have hv1 : v7.1 = { f with Y := 0 } :: (plc (w64 (0 + f.H)) f.After (L.drop 1)).1 := by rw [hv]; rfl
    have hv2 : v7.2.1 = (plc (w64 (0 + f.H)) f.After (L.drop 1)).2 := by rw [hv]
    have hv3 : v7.2.2.2.2 = false := by rw [hv]
    have hlen : v7.1.length = L.length := by rw [hv1, List.length_cons, hpl, List.length_drop]; omega
    have hne : ((L.length : Int) == 0) = false := by rw [beq_eq_false_iff_ne]; omega
    simp only [hlen, bne_self_eq_false, Bool.false_eq_true, if_false, hv3, hne, beq_self_eq_true, Bool.not_true, g_law17_BlockOrder_j3]
    have hlt7 : (0 : Int) < (v7.1.length : Int) := by omega
    have h70 : v7.1.getD 0 default = { f with Y := 0 } := by rw [hv1]; rfl
    simp only [g_law17_BlockOrder_l5, g_law17_BlockOrder_l5_b, hlt7, decide_true, if_true, inb_of (by omega) hlt7, chk_true, hto, h70, w1]
    have e0 : decide ((0 : Int) > 0) = false := rfl
    simp only [e0, Bool.false_eq_true, if_false, beq_self_eq_true, if_true, bne_self_eq_false, g_law17_BlockOrder_j4, hto, h70, w1]
    refine law_loop K (n' + 1) L hL v7 hlen n' 1 _ (by omega) (by omega) (by omega) ?_ ?_
    · rw [hv1, h0f]; rfl
    · rw [hv2, h0f]
theorem first_loop (K : Kn) (n : Nat) (L : List TBlockFragment) (hL : L.length ≤ 30) (hn : L.length + 1 < n) (hc : ∀ f ∈ L, CalmF f) : ∀ (m : Nat) (i : Nat), i ≤ L.length → L.length < m + i → (∀ k, k < i → ∀ h : k < L.length, GoodF L[k]) → g_law17_BlockOrder_l2 K n L m i = some true := by
  intro m
  induction m with
  | zero => intro i h1 h2; omega
  | succ m ih =>
    intro i h1 h2 hg
    simp only [g_law17_BlockOrder_l2, g_law17_BlockOrder_l2_b]
    by_cases hi : i < L.length
    · have hlt : (i : Int) < (L.length : Int) := by omega
      have hto : ((i : Int)).toNat = i := by omega
      have w1 : w64 ((i : Int) + 1) = ((i + 1 : Nat) : Int) := by rw [w64_id (by omega) (by omega)]; omega
      have hcf := hc L[i] (List.getElem_mem _)
      simp only [hlt, decide_true, if_true, inb_of (by omega) hlt, chk_true, hto, getD_get hi, g_law17_BlockOrder_j1, w1]
      have bp := hcf.bp
      have ap := hcf.ap
      by_cases c1 : L[i].H < 0
      · simp [c1]
      cases c2 : L[i].Empty
      · by_cases c3 : L[i].Before.Neg = 0
        · by_cases c4 : L[i].After.Neg = 0
          · by_cases c5 : L[i].Before.Pos < 0
            · simp [c1, c3, c4, c5]
            · by_cases c6 : L[i].After.Pos < 0
              · simp [c1, c3, c4, c5, c6]
              · simp only [c1, c3, c4, c5, c6, decide_false, Bool.false_eq_true, if_false, bne_self_eq_false]
                refine ih (i + 1) (by omega) (by omega) (fun k hk hkl => ?_)
                by_cases e : k = i
                · subst e; exact ⟨c2, c3, c4, ⟨by omega, bp⟩, ⟨by omega, ap⟩⟩
                · exact hg k (by omega) hkl
          · simp [c1, c3, c4]
        · simp [c1, c3]
      · simp [c1]
    · have hd : decide ((i : Int) < (L.length : Int)) = false := by simp; omega
      simp only [hd, Bool.false_eq_true, if_false]
      refine final K n L hL hn (fun f hf => ?_)
      obtain ⟨k, hk, rfl⟩ := List.mem_iff_getElem.1 hf
      exact hg k (by omega) hk
theorem holds (x0 : (List TBlockFragment)) (h0 : HasT Try.prog 51 ((eSl eTBlockFragment) x0)) : ∃ n, g_law17_BlockOrder (KN n) n x0 = some true := by
  obtain ⟨l, hl, hm, _⟩ := h0.sl_inv Try.underlying51
  simp only [eSl, List.cons.injEq, AV.sl.injEq, and_true] at hl
  have hlen : l.length = x0.length := by rw [← hl, List.length_map]
  have hm' : l.length ≤ 9223372036854775807 := hm
  refine ⟨x0.length + 10, ?_⟩
  obtain ⟨b, hb, hc⟩ := calm_tot (KN (x0.length + 10)) (x0.length + 10) x0 (by omega) (by omega) (by omega)
  unfold g_law17_BlockOrder
  rw [show x0.length + 10 = (x0.length + 5) + 5 from rfl, fit_true, show (x0.length + 5) + 5 = x0.length + 10 from rfl]
  simp only [Option.bind_some, Bool.not_true, Bool.false_eq_true, if_false, hb]
  cases b with
  | false => simp
  | true =>
    obtain ⟨h30, hk⟩ := hc rfl
    simp only [Bool.not_true, Bool.false_eq_true, if_false]
    exact first_loop _ _ x0 h30 (by omega) hk (x0.length + 10) 0 (by omega) (by omega) (fun k hk => by omega)
end Go.Proofs.Ytkciiamllegclaa.QBlockOrder

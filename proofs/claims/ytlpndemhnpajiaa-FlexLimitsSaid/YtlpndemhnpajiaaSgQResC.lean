/- Sizes of flex items: the program's Resolve. No program in sight. -/
import Derived.Test.YtlpndemhnpajiaaSgQResB
namespace Go.Proofs.Ytlpndemhnpajiaa
set_option linter.all false
open Go.RowKit
namespace Rs
open Sh (share wts lim mx sm_nn sm_le)
open QSort (wn chk_inb iteT iteF sb)
variable {K : Kn} {n : Nat}
theorem normal_ok (x : TFlexItem) : g_flex_normal K n x = some (nrm x) := rfl
theorem hyp_ok (x : TFlexItem) : g_flex_hypothetical K n x = some (hyp x) := rfl
theorem hyp_bd (x : TFlexItem) : 0 ≤ hyp x ∧ hyp x ≤ 1048576 := by
  have h := nrm_ok x none (.inl rfl)
  have h1 := cl_bd h (nrm x).Base
  have h2 := h.l
  dsimp only at h1 h2
  unfold hyp; omega
def st0 (x : TFlexItem) : TFlexState := ⟨nrm x, 0, 0, hyp x, false⟩
theorem hyps_bd (l : List TFlexItem) (hl : l.length ≤ 1000) (n : Nat) : 0 ≤ sm ((l.take n).map hyp) ∧ sm ((l.take n).map hyp) ≤ 1048576000 := by
  refine ⟨sm_nn _ (fun x hx => ?_), ?_⟩
  · obtain ⟨y, _, rfl⟩ := List.mem_map.1 hx; exact (hyp_bd y).1
  · have := sm_le (c := 1048576) ((l.take n).map hyp) (fun x hx => by obtain ⟨y, _, rfl⟩ := List.mem_map.1 hx; exact (hyp_bd y).2)
    have h2 : (((l.take n).map hyp).length : Int) ≤ 1000 := by simp; omega
    have := Int.mul_le_mul_of_nonneg_right h2 (show (0 : Int) ≤ 1048576 by omega)
    omega
theorem z_state : (zTFlexState : TFlexState) = ⟨zTFlexItem, 0, 0, 0, false⟩ := rfl
theorem a_l1 (l : List TFlexItem) (sp : Int) (hl : l.length ≤ 1000) : ∀ (m i : Nat), i ≤ l.length → l.length < m + i →
    g_flex_Resolve_l1 K n l sp m (sm ((l.take i).map hyp)) (i : Int) ((l.take i).map st0 ++ List.replicate (l.length - i) zTFlexState) = g_flex_Resolve_j2 K n sp (l.map st0) (sgn (grows l sp)) := by
  intro m
  induction m with
  | zero => intro i h1 h2; omega
  | succ m ih =>
    intro i h1 h2
    simp only [g_flex_Resolve_l1, g_flex_Resolve_l1_b]
    by_cases hi : i < l.length
    · obtain ⟨k, ek⟩ : ∃ k, l.length - i = k + 1 := ⟨l.length - i - 1, by omega⟩
      have la : ((l.take i).map st0 ++ List.replicate (l.length - i) zTFlexState).length = l.length := by simp; omega
      have es : List.set ((l.take i).map st0 ++ List.replicate (l.length - i) zTFlexState) i (st0 (l.getD i default)) = (l.take (i + 1)).map st0 ++ List.replicate (l.length - (i + 1)) zTFlexState := by
        rw [ek, List.replicate_succ, show l.length - (i + 1) = k by omega, getD_take_succ hi, List.map_append]
        have : i = ((l.take i).map st0).length := by simp; omega
        conv => lhs; arg 2; rw [this]
        simp
      have lb : ((l.take (i + 1)).map st0 ++ List.replicate (l.length - (i + 1)) zTFlexState).length = l.length := by simp; omega
      have eg : ((l.take (i + 1)).map st0 ++ List.replicate (l.length - (i + 1)) zTFlexState).getD i default = st0 (l.getD i default) := by
        rw [getD_take_succ hi, List.map_append, List.append_assoc, List.getD_eq_getElem?_getD, List.getElem?_append_right (by simp; omega)]
        have : i - ((l.take i).map st0).length = 0 := by simp; omega
        rw [this]; rfl
      have h0 := hyps_bd l hl i; have h3 := hyps_bd l hl (i + 1)
      have e1 : sm ((l.take (i + 1)).map hyp) = sm ((l.take i).map hyp) + hyp (l.getD i default) := by rw [getD_take_succ hi, List.map_append, sm_app]; simp [sm]
      rw [iteT (by omega), chk_inb (by omega), tnat, normal_ok, hyp_ok]
      simp only [sb]
      rw [la, chk_inb (by omega)]
      rw [show ({ (zTFlexState : TFlexState) with Item := nrm (l.getD i default), size := hyp (l.getD i default) } : TFlexState) = st0 (l.getD i default) from rfl, es, lb, chk_inb (by omega), eg]
      rw [show (st0 (l.getD i default)).size = hyp (l.getD i default) from rfl, w64_id (by omega) (by omega), ← e1, wn (n := (i : Int) + 1) (k := i + 1) (by omega) (by omega)]
      exact ih (i + 1) (by omega) (by omega)
    · obtain rfl : i = l.length := by omega
      rw [iteF (by omega), take_self, Nat.sub_self, List.replicate_zero, List.append_nil]
      by_cases h : sm (l.map hyp) < sp
      · rw [iteT h]; unfold grows sgn; rw [if_pos (by simpa using h)]
      · rw [iteF h]; unfold grows sgn; rw [if_neg (by simpa using h)]
def st1 (g : Bool) (x : TFlexItem) : TFlexState := ⟨nrm x, fac g (nrm x), wgt g (nrm x), hyp x, fix0 g (nrm x) (hyp x)⟩
theorem set_set {α : Type} (L : List α) (i : Nat) (a b : α) : List.set (List.set L i a) i b = List.set L i b := by simp
theorem getD_set_self {L : List TFlexState} {i : Nat} {a : TFlexState} (h : i < L.length) : (List.set L i a).getD i default = a := by rw [getD_get (by simpa using h)]; simp
theorem a_l5 (g : Bool) (l : List TFlexItem) (sp : Int) (hl : l.length ≤ 1000) : ∀ (m i : Nat), i ≤ l.length → l.length < m + i →
    g_flex_Resolve_l5 K n sp (l.map st0) (sgn g) m (i : Int) ((l.take i).map (st1 g) ++ (l.drop i).map st0) = g_flex_Resolve_l6 K n sp (sgn g) n (l.map (st1 g)) := by
  intro m
  induction m with
  | zero => intro i h1 h2; omega
  | succ m ih =>
    intro i h1 h2
    simp only [g_flex_Resolve_l5, g_flex_Resolve_l5_b, List.length_map]
    by_cases hi : i < l.length
    · have ed : (l.drop i).map st0 = st0 (l.getD i default) :: (l.drop (i + 1)).map st0 := by rw [List.drop_eq_getElem_cons hi, getD_get hi]; rfl
      have ll : ((l.take i).map (st1 g) ++ (l.drop i).map st0).length = l.length := by simp; omega
      have eg : ((l.take i).map (st1 g) ++ (l.drop i).map st0).getD i default = st0 (l.getD i default) := by
        rw [ed, List.getD_eq_getElem?_getD, List.getElem?_append_right (by simp; omega)]
        have : i - ((l.take i).map (st1 g)).length = 0 := by simp; omega
        rw [this]; rfl
      have es : List.set ((l.take i).map (st1 g) ++ (l.drop i).map st0) i (st1 g (l.getD i default)) = (l.take (i + 1)).map (st1 g) ++ (l.drop (i + 1)).map st0 := by
        rw [ed, getD_take_succ hi, List.map_append]
        have : i = ((l.take i).map (st1 g)).length := by simp; omega
        conv => lhs; arg 2; rw [this]
        simp
      have hk := nrm_ok (l.getD i default) none (.inl rfl)
      have hw := wgt_bd (g := false) hk
      have hb := hk.b; have hs := hk.s
      have hm : 0 ≤ (nrm (l.getD i default)).Base * (nrm (l.getD i default)).Shrink ∧ (nrm (l.getD i default)).Base * (nrm (l.getD i default)).Shrink ≤ 1048576 * 1048576 := ⟨Int.mul_nonneg hb.1 hs.1, Int.mul_le_mul hb.2 hs.2 hs.1 (by omega)⟩
      rw [iteT (by omega), chk_inb (by omega)]
      simp only [tnat, sb, g_flex_Resolve_j3, g_flex_Resolve_j4, set_set, List.length_set, ll, getD_set_self (show i < ((l.take i).map (st1 g) ++ (l.drop i).map st0).length by omega), eg]
      have ewi : w64 ((i : Int) + 1) = ((i + 1 : Nat) : Int) := wn (by omega) (by omega)
      have ew : w64 (Int.tdiv (w64 ((st0 (l.getD i default)).Item.Base * (st0 (l.getD i default)).Item.Shrink)) 1000) = wgt false (nrm (l.getD i default)) := by
        show w64 (Int.tdiv (w64 ((nrm (l.getD i default)).Base * (nrm (l.getD i default)).Shrink)) 1000) = _
        rw [w64_id (n := (nrm (l.getD i default)).Base * (nrm (l.getD i default)).Shrink) (by omega) (by omega), Int.tdiv_eq_ediv_of_nonneg hm.1, w64_id (by omega) (by omega)]
        rfl
      have dt : decide (i < l.length) = true := by simpa using hi
      simp only [ewi, ew, dt, chk_true]
      have := ih (i + 1) (by omega) (by omega)
      rw [← es] at this
      rw [← this]
      cases g
      · rw [iteF (show ¬ sgn false > 0 by decide)]
        by_cases hc : (nrm (l.getD i default)).Base < hyp (l.getD i default)
        · have : (decide ((st0 (l.getD i default)).Item.Base < (st0 (l.getD i default)).size)) = true := decide_eq_true hc
          have e2 : fix0 false (nrm (l.getD i default)) (hyp (l.getD i default)) = true := by unfold fix0; rw [if_neg (by simp), decide_eq_true_eq]; exact .inr hc
          simp only [this, if_true]
          unfold st1; rw [e2]; rfl
        · have : (decide ((st0 (l.getD i default)).Item.Base < (st0 (l.getD i default)).size)) = false := decide_eq_false hc
          have e2 : fix0 false (nrm (l.getD i default)) (hyp (l.getD i default)) = ((nrm (l.getD i default)).Shrink == 0) := by unfold fix0; rw [if_neg (by simp), Bool.eq_iff_iff, decide_eq_true_eq, beq_iff_eq]; exact ⟨fun h => h.resolve_right hc, .inl⟩
          simp only [this, Bool.false_eq_true, if_false]
          unfold st1; rw [e2]; rfl
      · rw [iteT (show sgn true > 0 by decide)]
        by_cases hc : (nrm (l.getD i default)).Base > hyp (l.getD i default)
        · have : (decide ((st0 (l.getD i default)).Item.Base > (st0 (l.getD i default)).size)) = true := decide_eq_true hc
          have e2 : fix0 true (nrm (l.getD i default)) (hyp (l.getD i default)) = true := by unfold fix0; rw [if_pos rfl, decide_eq_true_eq]; exact .inr hc
          simp only [this, if_true]
          unfold st1; rw [e2]; rfl
        · have : (decide ((st0 (l.getD i default)).Item.Base > (st0 (l.getD i default)).size)) = false := decide_eq_false hc
          have e2 : fix0 true (nrm (l.getD i default)) (hyp (l.getD i default)) = ((nrm (l.getD i default)).Grow == 0) := by unfold fix0; rw [if_pos rfl, Bool.eq_iff_iff, decide_eq_true_eq, beq_iff_eq]; exact ⟨fun h => h.resolve_right hc, .inl⟩
          simp only [this, Bool.false_eq_true, if_false]
          unfold st1; rw [e2]; rfl
    · obtain rfl : i = l.length := by omega
      rw [iteF (by omega), take_self, List.drop_eq_nil_of_le (Nat.le_refl _), List.map_nil, List.append_nil]
theorem sim0 (g : Bool) (l : List TFlexItem) : Sim g (start g l) (l.map (st1 g)) := by
  refine ⟨by simp [start], fun k hk => ?_⟩
  have hk2 : k < l.length := by simpa [start] using hk
  rw [getD_get hk, getD_get (by simpa using hk2)]
  have e : (start g l)[k] = (nrm l[k], if fix0 g (nrm l[k]) (hyp l[k]) = true then some (hyp l[k]) else none) := by simp [start]
  rw [e, List.getElem_map]
  refine ⟨rfl, rfl, rfl, ?_, fun n hn => ?_⟩
  · show fix0 g (nrm l[k]) (hyp l[k]) = _
    cases h : fix0 g (nrm l[k]) (hyp l[k]) <;> simp
  · cases h : fix0 g (nrm l[k]) (hyp l[k])
    · rw [h] at hn; simp at hn
    · rw [h] at hn; simpa [st1] using hn
theorem a_l7 (L : List TFlexState) (hl : L.length ≤ 1000) : ∀ (m i : Nat), i ≤ L.length → L.length < m + i →
    g_flex_Resolve_l7 K n (false, L) m (i : Int) ((L.take i).map (fun (x : TFlexState) => x.size) ++ List.replicate (L.length - i) 0) = some (L.map fun (x : TFlexState) => x.size) := by
  intro m
  induction m with
  | zero => intro i h1 h2; omega
  | succ m ih =>
    intro i h1 h2
    simp only [g_flex_Resolve_l7, g_flex_Resolve_l7_b]
    by_cases hi : i < L.length
    · obtain ⟨k, ek⟩ : ∃ k, L.length - i = k + 1 := ⟨L.length - i - 1, by omega⟩
      have la : ((L.take i).map (fun (x : TFlexState) => x.size) ++ List.replicate (L.length - i) 0).length = L.length := by simp; omega
      rw [iteT (by omega), chk_inb (by omega), tnat, la, chk_inb (by omega), ek, Sh.set_rep (by simp; omega)]
      have : (L.take i).map (fun (x : TFlexState) => x.size) ++ [(L.getD i default).size] = (L.take (i + 1)).map (fun (x : TFlexState) => x.size) := by rw [getD_take_succ hi, List.map_append]; rfl
      rw [this, wn (n := (i : Int) + 1) (k := i + 1) (by omega) (by omega), show k = L.length - (i + 1) by omega]
      exact ih (i + 1) (by omega) (by omega)
    · obtain rfl : i = L.length := by omega
      rw [iteF (by omega), take_self, Nat.sub_self, List.replicate_zero, List.append_nil]
theorem a_l6 {lvl : Nat} (g : Bool) {sp : Int} (hs : -1125899906842624 ≤ sp ∧ sp ≤ 1125899906842624) (hn : 10001 < n) (hlv : 20010 ≤ lvl) : ∀ (m : Nat) (M : List It) (L : List TFlexState), opens M < m → Ok M → Sim g M L → M.length ≤ 1000 →
    g_flex_Resolve_l6 (KN lvl) n sp (sgn g) m L = some (sizes (run g sp M.length M)) := by
  intro m
  induction m with
  | zero => intro M L h; omega
  | succ m ih =>
    intro M L h hM hL hl
    simp only [g_flex_Resolve_l6, g_flex_Resolve_l6_b]
    have hr := resolve_ok (lvl := lvl) (n := n) hM hL hl hs hn hlv
    by_cases hz : opens M = 0
    · rw [if_pos hz] at hr
      rw [hr]
      simp only [sb, Bool.false_eq_true, if_false]
      rw [Sh.mkb_of (by rw [hL.len]; omega) (by rw [hL.len]; omega), chk_true, tnat]
      have := a_l7 (K := KN lvl) (n := n) L (by rw [hL.len]; omega) n 0 (by omega) (by rw [hL.len]; omega)
      rw [List.take_zero, List.map_nil, List.nil_append, Nat.sub_zero, show ((0 : Nat) : Int) = 0 from rfl] at this
      rw [this, run_zero hz]
      congr 1
      refine List.ext_getElem (by simp [sizes, hL.len]) (fun k h1 h2 => ?_)
      have hk : k < M.length := by simpa [sizes] using h2
      simp only [sizes, List.getElem_map]
      have ha := hL.at_ k hk
      rw [getD_get hk, getD_get (by simpa using h1)] at ha
      have ho : M[k].2.isSome = true := by
        have := List.countP_eq_zero.1 hz M[k] (List.getElem_mem _)
        cases h : M[k].2 with
        | none => rw [h] at this; simp at this
        | some z => rfl
      obtain ⟨z, ez⟩ := Option.isSome_iff_exists.1 ho
      rw [ha.s z ez, ez]; rfl
    · rw [if_neg hz] at hr
      obtain ⟨L', h1, h2⟩ := hr
      rw [h2]
      simp only [sb, if_true]
      have hro := round_opens (g := g) (sp := sp) hz
      rw [ih (round g sp M) L' (by omega) (round_ok hM) h1 (by rw [round_len]; exact hl)]
      congr 2
      have e1 : run g sp (M.length + 1) M = run g sp M.length (round g sp M) := by rw [run, if_neg hz]
      rw [round_len, ← e1]
      have := opens_le M
      exact run_more _ _ _ (by omega) (by omega)
/-- flex.Resolve -/
theorem flex_ok {lvl : Nat} (l : List TFlexItem) {sp : Int} (hl : l.length ≤ 1000) (hs : -1125899906842624 ≤ sp ∧ sp ≤ 1125899906842624) (hn : 10001 < n) (hlv : 20010 ≤ lvl) : g_flex_Resolve (KN lvl) n l sp = some (resolve l sp) := by
  unfold g_flex_Resolve
  rw [show min (max sp (-1125899906842624)) 1125899906842624 = sp by omega]
  simp only [sb]
  rw [Sh.mkb_of (by omega) (by omega), chk_true, tnat]
  have := a_l1 (K := KN lvl) (n := n) l sp hl n 0 (by omega) (by omega)
  rw [List.take_zero, List.map_nil, List.map_nil, List.nil_append, Nat.sub_zero, show ((0 : Nat) : Int) = 0 from rfl, show sm [] = 0 from rfl] at this
  rw [this]
  unfold g_flex_Resolve_j2
  have := a_l5 (K := KN lvl) (n := n) (grows l sp) l sp hl n 0 (by omega) (by omega)
  rw [List.take_zero, List.map_nil, List.nil_append, List.drop_zero, show ((0 : Nat) : Int) = 0 from rfl] at this
  rw [this]
  have e : (start (grows l sp) l).length = l.length := by simp [start]
  have := opens_le (start (grows l sp) l)
  rw [a_l6 (grows l sp) hs hn hlv n (start (grows l sp) l) _ (by omega) (start_ok _ _) (sim0 _ _) (by omega), e]
  rfl
end Rs
end Go.Proofs.Ytlpndemhnpajiaa

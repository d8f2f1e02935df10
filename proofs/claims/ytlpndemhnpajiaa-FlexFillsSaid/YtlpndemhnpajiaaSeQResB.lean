/- Sizes of flex items: the program's rounds. No program in sight. -/
import Derived.Test.YtlpndemhnpajiaaSeQResA
namespace Go.Proofs.Ytlpndemhnpajiaa
set_option linter.all false
open Go.RowKit
namespace Rs
open Sh (share wts lim mx sm_nn sm_le)
open QSort (wn chk_inb iteT iteF sb)
instance : Inhabited It := ⟨(default, none)⟩
/-! The open positions. -/
def O (M : List It) (n : Nat) : List Int := ((List.range n).filter fun k => !(M.getD k default).2.isSome).map fun (k : Nat) => (k : Int)
theorem O_zero (M : List It) : O M 0 = [] := rfl
theorem O_succ (M : List It) (n : Nat) : O M (n + 1) = O M n ++ if (M.getD n default).2.isSome = true then [] else [(n : Int)] := by
  unfold O
  rw [List.range_succ, List.filter_append, List.map_append]
  congr 1
  cases h : (M.getD n default).2.isSome <;> simp only [List.filter_cons, List.filter_nil, h, Bool.not_false, Bool.not_true, if_true, Bool.false_eq_true, if_false, List.map_cons, List.map_nil]
theorem O_mem {M : List It} {n : Nat} {x : Int} : x ∈ O M n ↔ ∃ k : Nat, k < n ∧ x = k ∧ (M.getD k default).2.isSome = false := by
  simp only [O, List.mem_map, List.mem_filter, List.mem_range]
  constructor
  · rintro ⟨k, ⟨h1, h2⟩, rfl⟩; exact ⟨k, h1, rfl, by simpa using h2⟩
  · rintro ⟨k, h1, rfl, h2⟩; exact ⟨k, ⟨h1, by simpa using h2⟩, rfl⟩
theorem O_len (M : List It) (n : Nat) : (O M n).length ≤ n := by
  unfold O
  rw [List.length_map]
  have := List.length_filter_le (fun k => !(M.getD k default).2.isSome) (List.range n)
  rw [List.length_range] at this; exact this
theorem O_lt (M : List It) (n : Nat) : (O M n).Pairwise (· < ·) := by
  unfold O
  rw [List.pairwise_map]
  refine List.Pairwise.imp (fun h => ?_) (List.Pairwise.filter _ List.pairwise_lt_range)
  omega
/-- the k-th open position -/
theorem O_at {M : List It} {k : Nat} (hk : k < (O M M.length).length) : ∃ j : Nat, (O M M.length).getD k default = (j : Int) ∧ j < M.length ∧ (M.getD j default).2.isSome = false := by
  have hm : (O M M.length).getD k default ∈ O M M.length := by rw [getD_get hk]; exact List.getElem_mem _
  obtain ⟨j, h1, h2, h3⟩ := O_mem.1 hm
  exact ⟨j, h2, h1, h3⟩
theorem pick_snoc : ∀ (ws : List (Option Int)) (P : List Int) (o : Option Int) (p : Int), ws.length = P.length → pick (ws ++ [o]) (P ++ [p]) = pick ws P ++ if o.isSome = true then [p] else []
  | [], [], o, p, _ => by cases o <;> simp [pick]
  | [], _ :: _, o, p, h => by simp at h
  | _ :: _, [], o, p, h => by simp at h
  | none :: ws, x :: P, o, p, h => by
    have := pick_snoc ws P o p (by simpa using h)
    simp only [List.cons_append, pick, this]
  | some w :: ws, x :: P, o, p, h => by
    have := pick_snoc ws P o p (by simpa using h)
    simp only [List.cons_append, pick, this]
theorem opw_some (g : Bool) (p : It) : (opw g p).isSome = !p.2.isSome := by unfold opw; cases p.2 <;> simp
theorem getD_take_succ {α : Type} [Inhabited α] {L : List α} {n : Nat} (h : n < L.length) : L.take (n + 1) = L.take n ++ [L.getD n default] := by
  rw [List.take_succ_eq_append_getElem h, getD_get h]
theorem pick_take (g : Bool) (M : List It) (P : List Int) (hl : P.length = M.length) : ∀ n, n ≤ M.length → pick ((M.take n).map (opw g)) (P.take n) = (O M n).map fun j => P.getD j.toNat default
  | 0, _ => by simp [pick, O_zero]
  | n + 1, h => by
    rw [getD_take_succ (show n < M.length by omega), getD_take_succ (show n < P.length by omega), List.map_append, List.map_cons, List.map_nil, pick_snoc _ _ _ _ (by simp; omega), pick_take g M P hl n (by omega), O_succ, List.map_append, opw_some]
    congr 1
    cases (M.getD n default).2.isSome <;> simp
theorem op_take (g : Bool) (M : List It) {n : Nat} (h : n < M.length) : op ((M.take (n + 1)).map (opw g)) = op ((M.take n).map (opw g)) ++ if (M.getD n default).2.isSome = true then [] else [wgt g (M.getD n default).1] := by
  rw [getD_take_succ h]
  unfold op
  rw [List.map_append, List.filterMap_append]
  congr 1
  unfold opw
  cases hh : (M.getD n default).2.isSome <;> simp only [List.map_cons, List.map_nil, hh, if_true, Bool.false_eq_true, if_false] <;> rfl
theorem op_len (g : Bool) (M : List It) : ∀ n, n ≤ M.length → (op ((M.take n).map (opw g))).length = (O M n).length
  | 0, _ => by simp [op, O_zero]
  | n + 1, h => by
    rw [op_take g M (by omega), O_succ, List.length_append, List.length_append, op_len g M n (by omega)]
    cases (M.getD n default).2.isSome <;> simp
theorem sm_take1 (f : It → Int) (M : List It) {n : Nat} (h : n < M.length) : sm ((M.take (n + 1)).map f) = sm ((M.take n).map f) + f (M.getD n default) := by
  rw [getD_take_succ h, List.map_append, sm_app]; simp [sm]
theorem sm_O (F : Nat → Int) (M : List It) (h : ∀ k, (M.getD k default).2.isSome = true → F k = 0) : ∀ n, sm ((List.range n).map F) = sm ((O M n).map fun j => F j.toNat)
  | 0 => by simp [O_zero]
  | n + 1 => by
    rw [List.range_succ, List.map_append, sm_app, sm_O F M h n, O_succ, List.map_append, sm_app]
    congr 1
    cases hh : (M.getD n default).2.isSome
    · simp [sm]
    · simp [sm, h n hh]
theorem change_O (g : Bool) (sp : Int) (M : List It) : change g sp M = sm ((O M M.length).map fun j => dif g (M.getD j.toNat default) ((parts g sp M).getD j.toNat default)) := by
  rw [← sm_O (fun k => dif g (M.getD k default) ((parts g sp M).getD k default)) M (fun k hk => by unfold dif; rw [if_pos hk]) M.length]
  unfold change
  congr 1
  refine List.ext_getElem (by simp [parts_len]) (fun k h1 h2 => ?_)
  have hk : k < M.length := by simpa using h2
  simp only [List.getElem_zipWith, List.getElem_map, List.getElem_range]
  rw [getD_get hk, getD_get (by rw [parts_len]; exact hk)]
theorem facs_take (g : Bool) (M : List It) {n : Nat} (h : n < M.length) : facs g (M.take (n + 1)) = facs g (M.take n) + if (M.getD n default).2.isSome = true then 0 else fac g (M.getD n default).1 := sm_take1 _ M h
/-! Bounds. -/
variable {g : Bool} {M : List It}
theorem Ok.at (h : Ok M) {k : Nat} (hk : k < M.length) : Ok1 (M.getD k default) := by rw [getD_get hk]; exact h _ (List.getElem_mem _)
theorem occ_bd {p : It} (h : Ok1 p) : 0 ≤ occ p ∧ occ p ≤ 1048576 := by
  unfold occ
  have := h.b; have := h.l
  cases hp : p.2 with
  | none => simp; omega
  | some n => have := h.z n hp; simp; omega
theorem fac_bd {p : It} (h : Ok1 p) : 0 ≤ fac g p.1 ∧ fac g p.1 ≤ 1048576 := by unfold fac; have := h.g; have := h.s; split <;> omega
theorem wgt_bd {p : It} (h : Ok1 p) : 0 ≤ wgt g p.1 ∧ wgt g p.1 ≤ 1099511628 := by
  unfold wgt
  have hb := h.b; have hg := h.g; have hs := h.s
  have : 0 ≤ p.1.Base * p.1.Shrink ∧ p.1.Base * p.1.Shrink ≤ 1048576 * 1048576 := ⟨Int.mul_nonneg hb.1 hs.1, Int.mul_le_mul hb.2 hs.2 hs.1 (by omega)⟩
  split <;> omega
theorem sm_bd2 {c : Int} (hc : 0 ≤ c) (f : It → Int) (hf : ∀ p ∈ M, 0 ≤ f p ∧ f p ≤ c) (n : Nat) (hn : M.length ≤ 1000) : 0 ≤ sm ((M.take n).map f) ∧ sm ((M.take n).map f) ≤ 1000 * c := by
  refine ⟨sm_nn _ (fun x hx => ?_), ?_⟩
  · obtain ⟨p, hp, rfl⟩ := List.mem_map.1 hx; exact (hf p (List.mem_of_mem_take hp)).1
  · have := sm_le (c := c) ((M.take n).map f) (fun x hx => by obtain ⟨p, hp, rfl⟩ := List.mem_map.1 hx; exact (hf p (List.mem_of_mem_take hp)).2)
    refine Int.le_trans this (Int.mul_le_mul_of_nonneg_right ?_ hc)
    simp; omega
theorem occs_bd (h : Ok M) (hn : M.length ≤ 1000) (n : Nat) : 0 ≤ sm ((M.take n).map occ) ∧ sm ((M.take n).map occ) ≤ 1048576000 := by
  have := sm_bd2 (M := M) (c := 1048576) (by omega) occ (fun p hp => occ_bd (h p hp)) n hn; omega
theorem facs_bd (h : Ok M) (hn : M.length ≤ 1000) (n : Nat) : 0 ≤ facs g (M.take n) ∧ facs g (M.take n) ≤ 1048576000 := by
  have := sm_bd2 (M := M) (c := 1048576) (by omega) (fun p => if p.2.isSome = true then 0 else fac g p.1) (fun p hp => by
    have := fac_bd (g := g) (h p hp)
    split <;> omega) n hn
  unfold facs; omega
theorem take_self {α : Type} (L : List α) : L.take L.length = L := List.take_of_length_le (Nat.le_refl _)
theorem room_bd (h : Ok M) (hn : M.length ≤ 1000) {sp : Int} (hs : -1125899906842624 ≤ sp ∧ sp ≤ 1125899906842624) : 0 ≤ room g sp M ∧ room g sp M ≤ 1125900955418624 := by
  have := occs_bd h hn M.length
  rw [take_self] at this
  unfold room; split <;> omega
theorem need_bd (h : Ok M) (hn : M.length ≤ 1000) {sp : Int} (hs : -1125899906842624 ≤ sp ∧ sp ≤ 1125899906842624) : 0 ≤ need g sp M ∧ need g sp M ≤ room g sp M := by
  have hr := room_bd (g := g) h hn hs
  have hf := facs_bd (g := g) h hn M.length
  rw [take_self] at hf
  unfold need
  split
  · have h1 : 0 ≤ room g sp M * facs g M := Int.mul_nonneg hr.1 hf.1
    have h2 : room g sp M * facs g M ≤ room g sp M * 1000 := Int.mul_le_mul_of_nonneg_left (by omega) hr.1
    omega
  · omega
theorem div_split (a f : Int) : a / 1000 * f + a % 1000 * f / 1000 = a * f / 1000 := by
  have h : a * f = 1000 * (a / 1000 * f) + a % 1000 * f := by
    have := Int.mul_ediv_add_emod a 1000
    calc a * f = (1000 * (a / 1000) + a % 1000) * f := by rw [this]
      _ = 1000 * (a / 1000 * f) + a % 1000 * f := by rw [Int.add_mul, Int.mul_assoc]
  rw [h]; omega
theorem opw_mem {w : Int} (h : Ok M) (hw : w ∈ zo (M.map (opw g))) : 0 ≤ w ∧ w ≤ 1099511628 := by
  obtain ⟨o, ho, rfl⟩ := List.mem_map.1 hw
  obtain ⟨p, hp, rfl⟩ := List.mem_map.1 ho
  unfold opw
  have := wgt_bd (g := g) (h p hp)
  split
  · simp
  · simpa using this
theorem wts_id {L : List Int} (h : ∀ w ∈ L, 0 ≤ w ∧ w ≤ 2147483647) : wts L = L := by
  unfold Sh.wts
  conv => rhs; rw [← List.map_id L]
  refine List.map_congr_left (fun w hw => ?_)
  have := h w hw
  unfold Sh.lim Sh.mx; simp; omega
theorem op_mem {w : Int} (h : Ok M) (hw : w ∈ op (M.map (opw g))) : 0 ≤ w ∧ w ≤ 1099511628 := by
  obtain ⟨o, ho, e⟩ := List.mem_filterMap.1 hw
  obtain ⟨p, hp, rfl⟩ := List.mem_map.1 ho
  unfold opw at e
  have := wgt_bd (g := g) (h p hp)
  split at e
  · cases e
  · simp at e; omega
theorem parts_open (h : Ok M) (sp : Int) : share (lim (need g sp M) mx) (wts (op (M.map (opw g)))) = (O M M.length).map fun j => (parts g sp M).getD j.toNat default := by
  rw [wts_id (fun w hw => by have := op_mem h hw; omega), ← share_open]
  unfold parts
  rw [wts_id (fun w hw => by have := opw_mem h hw; omega)]
  have := pick_take g M (share (lim (need g sp M) mx) (zo (M.map (opw g)))) (by rw [Sh.share_len]; simp [zo]) M.length (Nat.le_refl _)
  rw [take_self, List.take_of_length_le (by rw [Sh.share_len]; simp [zo])] at this
  exact this
theorem share_bd {T : Int} {W : List Int} (hW : ∀ w ∈ W, 0 ≤ w) (hT : 0 ≤ T) {k : Nat} (hk : k < W.length) : 0 ≤ (share T W).getD k default ∧ (share T W).getD k default ≤ T + 1 := by
  by_cases hS : sm W = 0
  · rw [Sh.share_nil hS, getD_get (by simpa using hk)]
    rw [List.getElem_replicate]; omega
  · rw [Sh.share_at hS hk]
    exact Sh.part_bd hW hT (by have := sm_nn W hW; omega) hk
theorem parts_bd (h : Ok M) (sp : Int) {k : Nat} (hk : k < M.length) : 0 ≤ (parts g sp M).getD k default ∧ (parts g sp M).getD k default ≤ 2147483648 := by
  have hb := Sh.lim_bd (n := need g sp M) (m := mx) (by decide)
  have := share_bd (T := lim (need g sp M) mx) (W := wts (zo (M.map (opw g)))) (fun w hw => (Sh.wts_bd _ w hw).1) hb.1 (k := k) (by rw [Sh.wts_len]; simpa [zo] using hk)
  unfold parts
  unfold Sh.mx at *
  omega
theorem ns_bd {p : It} (h : Ok1 p) {x : Int} (hx : 0 ≤ x ∧ x ≤ 2147483648) : -2147483648 ≤ ns g p.1 x ∧ ns g p.1 x ≤ 2148532224 := by
  have := h.b
  unfold ns; split <;> omega
/-! The program's states. -/
structure Rl (g : Bool) (p : It) (x : TFlexState) : Prop where
  it : x.Item = p.1
  f : x.factor = fac g p.1
  w : x.weight = wgt g p.1
  fx : x.fixed = p.2.isSome
  s : ∀ n, p.2 = some n → x.size = n
structure Sim (g : Bool) (M : List It) (L : List TFlexState) : Prop where
  len : L.length = M.length
  at_ : ∀ k, k < M.length → Rl g (M.getD k default) (L.getD k default)
def sgn (g : Bool) : Int := if g = true then 1 else -1
variable {K : Kn} {n : Nat} {L : List TFlexState}
theorem fits_ok {a b : Nat} (h : a ≤ 1001) (hb : b ≤ 1000) (hb2 : 0 < b) : fits a b = true := fits_of (Nat.le_trans (Nat.mul_le_mul h hb) (by decide)) hb2
/-- the first loop: what is left, the factors, the open ones -/
theorem r_l2 (hM : Ok M) (hL : Sim g M L) (hl : M.length ≤ 1000) {sp : Int} (hs : -1125899906842624 ≤ sp ∧ sp ≤ 1125899906842624) : ∀ (m i : Nat), i ≤ M.length → M.length < m + i →
    g_flex_resolve_l2 K n L (sgn g) m (sp - sm ((M.take i).map occ)) (facs g (M.take i)) (i : Int) (O M i) (op ((M.take i).map (opw g))) = if (O M M.length).length = 0 then some (false, L) else g_flex_resolve_j3 K n L (sgn g) (O M M.length) (op (M.map (opw g))) (need g sp M) := by
  intro m
  induction m with
  | zero => intro i h1 h2; omega
  | succ m ih =>
    intro i h1 h2
    simp only [g_flex_resolve_l2, g_flex_resolve_l2_b, hL.len]
    by_cases hi : i < M.length
    · have hr := hL.at_ i hi
      have hk := hM.at hi
      have o1 := occs_bd hM hl i; have o2 := occs_bd hM hl (i + 1)
      have f1 := facs_bd (g := g) hM hl i; have f2 := facs_bd (g := g) hM hl (i + 1)
      have e1 := sm_take1 occ M hi
      have e2 := facs_take g M hi
      have e3 := op_take g M hi
      have e4 := O_succ M i
      have ol := O_len M i
      have pl := op_len g M i (by omega)
      rw [iteT (by omega), chk_inb (by omega), tnat, hr.fx]
      simp only [g_flex_resolve_j1]
      have wi : w64 ((i : Int) + 1) = ((i + 1 : Nat) : Int) := wn (by omega) (by omega)
      rw [wi, hr.it, hr.f, hr.w]
      cases hx : (M.getD i default).2 with
      | some z =>
        simp only [hx, Option.isSome_some, if_true, List.append_nil] at e2 e3 e4 ⊢
        rw [hr.s z hx]
        have ez : occ (M.getD i default) = z := by unfold occ; rw [hx]; rfl
        rw [ez] at e1
        rw [w64_id (by omega) (by omega), show sp - sm ((M.take i).map occ) - z = sp - sm ((M.take (i + 1)).map occ) by omega, show facs g (M.take i) = facs g (M.take (i + 1)) by omega, ← e3, ← e4]
        exact ih (i + 1) (by omega) (by omega)
      | none =>
        simp only [hx, Option.isSome_none, Bool.false_eq_true, if_false] at e2 e3 e4 ⊢
        have ez : occ (M.getD i default) = (M.getD i default).1.Base := by unfold occ; rw [hx]; rfl
        rw [ez] at e1
        simp only [sb]
        rw [fits_ok (by simp only [List.length_cons, List.length_nil]; omega) (by omega) (by omega), fits_ok (by simp only [List.length_cons, List.length_nil]; omega) (by omega) (by omega), chk_true, chk_true, w64_id (by omega) (by omega), w64_id (by omega) (by omega),
          show sp - sm ((M.take i).map occ) - (M.getD i default).1.Base = sp - sm ((M.take (i + 1)).map occ) by omega, show facs g (M.take i) + fac g (M.getD i default).1 = facs g (M.take (i + 1)) by omega, ← e3, ← e4]
        exact ih (i + 1) (by omega) (by omega)
    · obtain rfl : i = M.length := by omega
      rw [iteF (by omega), take_self]
      have o1 := occs_bd hM hl M.length
      have f1 := facs_bd (g := g) hM hl M.length
      rw [take_self] at o1 f1
      have hroom := room_bd (g := g) hM hl hs
      have er : max (w64 ((sp - sm (M.map occ)) * sgn g)) 0 = room g sp M := by
        unfold room sgn
        cases g
        · simp only [Bool.false_eq_true, if_false]
          rw [w64_id (by omega) (by omega)]; omega
        · simp only [if_true]
          rw [w64_id (by omega) (by omega)]; omega
      rw [er]
      by_cases hz : (O M M.length).length = 0
      · rw [if_pos hz, if_pos (by simp [hz])]
      · rw [if_neg hz, if_neg (by rw [beq_iff_eq]; omega)]
        unfold need
        by_cases hf : facs g M < 1000
        · rw [iteT hf, if_pos hf]
          have d := div_split (room g sp M) (facs g M)
          have a1 : 0 ≤ room g sp M / 1000 * facs g M ∧ room g sp M / 1000 * facs g M ≤ 1125900955419 * 1000 := ⟨Int.mul_nonneg (by omega) f1.1, Int.mul_le_mul (by omega) (by omega) f1.1 (by omega)⟩
          have a2 : 0 ≤ room g sp M % 1000 * facs g M ∧ room g sp M % 1000 * facs g M ≤ 1000 * 1000 := ⟨Int.mul_nonneg (by omega) f1.1, Int.mul_le_mul (by omega) (by omega) f1.1 (by omega)⟩
          rw [Int.tdiv_eq_ediv_of_nonneg hroom.1, Int.tmod_eq_emod_of_nonneg hroom.1]
          rw [w64_id (n := room g sp M / 1000) (by omega) (by omega), w64_id (n := room g sp M / 1000 * facs g M) (by omega) (by omega), w64_id (n := room g sp M % 1000 * facs g M) (by omega) (by omega), Int.tdiv_eq_ediv_of_nonneg a2.1,
            w64_id (n := room g sp M % 1000 * facs g M / 1000) (by omega) (by omega), w64_id (by omega) (by omega), d]
        · rw [iteF hf, if_neg hf]
def nsL (g : Bool) (sp : Int) (M : List It) : List Int := (O M M.length).map fun j => ns g (M.getD j.toNat default).1 ((parts g sp M).getD j.toNat default)
def prL (g : Bool) (sp : Int) (M : List It) : List Int := (O M M.length).map fun j => (parts g sp M).getD j.toNat default
def dfL (g : Bool) (sp : Int) (M : List It) : List Int := (O M M.length).map fun j => dif g (M.getD j.toNat default) ((parts g sp M).getD j.toNat default)
theorem at_map {α : Type} [Inhabited α] (f : Int → α) (l : List Int) {k : Nat} (hk : k < l.length) : (l.map f).getD k default = f (l.getD k default) := by
  rw [getD_get (by simpa using hk), List.getElem_map, getD_get hk]
/-- the second loop: new sizes, and by how much the limits change them -/
theorem r_l4 (hM : Ok M) (hL : Sim g M L) (hl : M.length ≤ 1000) {sp : Int} : ∀ (m i : Nat), i ≤ (O M M.length).length → (O M M.length).length < m + i →
    g_flex_resolve_l4 K n L (sgn g) (O M M.length) m (sm ((dfL g sp M).take i)) (i : Int) ((nsL g sp M).take i ++ (prL g sp M).drop i) = g_flex_resolve_l7 K n (O M M.length) (change g sp M) (nsL g sp M) n 0 L := by
  have ol := O_len M M.length
  intro m
  induction m with
  | zero => intro i h1 h2; omega
  | succ m ih =>
    intro i h1 h2
    simp only [g_flex_resolve_l4, g_flex_resolve_l4_b, hL.len]
    have l1 : (nsL g sp M).length = (O M M.length).length := by simp [nsL]
    have l2 : (prL g sp M).length = (O M M.length).length := by simp [prL]
    have l3 : (dfL g sp M).length = (O M M.length).length := by simp [dfL]
    by_cases hi : i < (O M M.length).length
    · obtain ⟨j, e, hj, ho⟩ := O_at hi
      have hr := hL.at_ j hj
      have hk := hM.at hj
      have hp := parts_bd (g := g) hM sp hj
      have hn := ns_bd (g := g) hk hp
      have hc := cl_bd hk (ns g (M.getD j default).1 ((parts g sp M).getD j default))
      have hkl := hk.l
      have len : ((nsL g sp M).take i ++ (prL g sp M).drop i).length = (O M M.length).length := by simp [l1, l2]; omega
      have v1 : (prL g sp M).getD i default = (parts g sp M).getD j default := by unfold prL; rw [at_map _ _ hi, e, Int.toNat_natCast]
      have v2 : (nsL g sp M).getD i default = ns g (M.getD j default).1 ((parts g sp M).getD j default) := by unfold nsL; rw [at_map _ _ hi, e, Int.toNat_natCast]
      have v3 : (dfL g sp M).getD i default = cl (M.getD j default).1 ((nsL g sp M).getD i default) - (nsL g sp M).getD i default := by
        rw [v2]; unfold dfL; rw [at_map _ _ hi, e, Int.toNat_natCast]; unfold dif; rw [ho]; simp
      have ed : (prL g sp M).drop i = (parts g sp M).getD j default :: (prL g sp M).drop (i + 1) := by rw [List.drop_eq_getElem_cons (by omega), ← getD_get (by omega), v1]
      have g0 : ((nsL g sp M).take i ++ (prL g sp M).drop i).getD i default = (parts g sp M).getD j default := by
        rw [ed]; exact QSort.gd (by simp; omega)
      rw [iteT (by omega), chk_inb (by omega), tnat, e, len, chk_inb (by omega), chk_inb (by omega), tnat, g0, hr.it]
      simp only [sb]
      have ens : w64 ((M.getD j default).1.Base + w64 (sgn g * (parts g sp M).getD j default)) = (nsL g sp M).getD i default := by
        rw [v2]
        have := hk.b
        unfold ns at hn ⊢
        unfold sgn
        cases g
        · simp only [Bool.false_eq_true, if_false] at hn ⊢
          rw [w64_id (n := -1 * (parts false sp M).getD j default) (by omega) (by omega), w64_id (by omega) (by omega)]; omega
        · simp only [if_true] at hn ⊢
          rw [w64_id (n := 1 * (parts true sp M).getD j default) (by omega) (by omega), w64_id (by omega) (by omega)]; omega
      rw [ens]
      have es : List.set ((nsL g sp M).take i ++ (prL g sp M).drop i) i ((nsL g sp M).getD i default) = (nsL g sp M).take (i + 1) ++ (prL g sp M).drop (i + 1) := by
        rw [ed, getD_take_succ (by omega)]
        have : i = ((nsL g sp M).take i).length := by simp; omega
        conv => lhs; arg 2; rw [this]
        simp
      rw [es]
      have len2 : ((nsL g sp M).take (i + 1) ++ (prL g sp M).drop (i + 1)).length = (O M M.length).length := by simp [l1, l2]; omega
      have g1 : ((nsL g sp M).take (i + 1) ++ (prL g sp M).drop (i + 1)).getD i default = (nsL g sp M).getD i default := by
        rw [getD_take_succ (by omega), List.append_assoc]
        exact QSort.gd (by simp; omega)
      rw [chk_inb (by omega), len2, chk_inb (by omega), g1]
      simp only [g_flex_clamp, sb]
      have e5 : min (max ((nsL g sp M).getD i default) (M.getD j default).1.Min) (M.getD j default).1.Max = cl (M.getD j default).1 ((nsL g sp M).getD i default) := rfl
      rw [e5]
      have ew : w64 (cl (M.getD j default).1 ((nsL g sp M).getD i default) - (nsL g sp M).getD i default) = (dfL g sp M).getD i default := by rw [v3]; rw [v2]; exact w64_id (by omega) (by omega)
      have sb1 : ∀ i : Nat, -(1000 * 4294967296) ≤ sm ((dfL g sp M).take i) ∧ sm ((dfL g sp M).take i) ≤ 1000 * 4294967296 := by
        intro i
        have := sm_bd (B := 4294967296) (by omega) ((dfL g sp M).take i) (fun x hx => by
          have hx := List.mem_of_mem_take hx
          obtain ⟨y, hy, rfl⟩ := List.mem_map.1 hx
          obtain ⟨k, k1, rfl, k2⟩ := O_mem.1 hy
          rw [Int.toNat_natCast]
          have hk := hM.at k1
          have hp := parts_bd (g := g) hM sp k1
          have hn := ns_bd (g := g) hk hp
          have hc := cl_bd hk (ns g (M.getD k default).1 ((parts g sp M).getD k default))
          have := hk.l
          unfold dif
          rw [k2]
          simp only [Bool.false_eq_true, if_false]; omega)
        have hll : ((dfL g sp M).take i).length ≤ 1000 := by simp; omega
        omega
      have s1 := sb1 (i + 1)
      have e6 : sm ((dfL g sp M).take (i + 1)) = sm ((dfL g sp M).take i) + (dfL g sp M).getD i default := by rw [getD_take_succ (by omega), sm_app]; simp [sm]
      rw [ew, w64_id (n := sm ((dfL g sp M).take i) + (dfL g sp M).getD i default) (by omega) (by omega), ← e6, wn (n := (i : Int) + 1) (k := i + 1) (by omega) (by omega), chk_inb (by omega), chk_inb (by omega)]
      exact ih (i + 1) (by omega) (by omega)
    · rw [iteF (by omega)]
      rw [List.take_of_length_le (by omega), List.take_of_length_le (by omega), List.drop_eq_nil_of_le (by omega), List.append_nil]
      rw [change_O]; rfl
/-- the third loop: sizes are given -/
theorem r_l7 (hM : Ok M) (hl : M.length ≤ 1000) {sp : Int} : ∀ (m i : Nat) (L : List TFlexState), i ≤ (O M M.length).length → (O M M.length).length < m + i → L.length = M.length →
    (∀ k, k < M.length → Rl g (if (k : Int) ∈ (O M M.length).take i then (round g sp M).getD k default else M.getD k default) (L.getD k default)) →
    ∃ L', Sim g (round g sp M) L' ∧ g_flex_resolve_l7 K n (O M M.length) (change g sp M) (nsL g sp M) m (i : Int) L = some (true, L') := by
  have ol := O_len M M.length
  have l1 : (nsL g sp M).length = (O M M.length).length := by simp [nsL]
  intro m
  induction m with
  | zero => intro i L h1 h2; omega
  | succ m ih =>
    intro i L h1 h2 hL hR
    simp only [g_flex_resolve_l7, g_flex_resolve_l7_b]
    by_cases hi : i < (O M M.length).length
    · obtain ⟨j, e, hj, ho⟩ := O_at hi
      have hk := hM.at hj
      have v2 : (nsL g sp M).getD i default = ns g (M.getD j default).1 ((parts g sp M).getD j default) := by unfold nsL; rw [at_map _ _ hi, e, Int.toNat_natCast]
      have hnot : (j : Int) ∉ (O M M.length).take i := by
        intro hh
        obtain ⟨k, k1, k2, k3⟩ := QSort.mem_take_at hh
        have := QSort.pw_at (O_lt M M.length) k1 hi
        unfold QSort.at_ at this k3
        rw [k3, e] at this; omega
      have hr := hR j hj
      rw [if_neg hnot] at hr
      have ewi : w64 ((i : Int) + 1) = ((i + 1 : Nat) : Int) := wn (by omega) (by omega)
      rw [iteT (by omega), chk_inb (by omega), tnat, e, hL, chk_inb (by omega), tnat, l1]
      simp only [chk_inb (show (0 : Int) ≤ (i : Int) ∧ (i : Int) < ((O M M.length).length : Nat) by omega), g_flex_clamp, sb, hr.it, g_flex_resolve_j5, g_flex_resolve_j6, hL, ewi, Int.toNat_natCast, e]
      have e5 : min (max ((nsL g sp M).getD i default) (M.getD j default).1.Min) (M.getD j default).1.Max = cl (M.getD j default).1 ((nsL g sp M).getD i default) := rfl
      rw [e5]
      have hrj : (round g sp M).getD j default = step1 g (change g sp M) (M.getD j default) ((parts g sp M).getD j default) := by
        rw [getD_get (by rw [round_len]; exact hj), round_at g sp M hj, getD_get hj]
      have stay : ∀ k, k < M.length → k ≠ j → ((k : Int) ∈ (O M M.length).take (i + 1) ↔ (k : Int) ∈ (O M M.length).take i) := by
        intro k hk hkj
        rw [getD_take_succ hi, e, List.mem_append, List.mem_singleton]
        constructor
        · rintro (h | h)
          · exact h
          · omega
        · exact .inl
      have inn : (j : Int) ∈ (O M M.length).take (i + 1) := by rw [getD_take_succ hi, e]; simp
      have dt : decide (j < M.length) = true := by simpa using hj
      by_cases hf : fixq (change g sp M) (ns g (M.getD j default).1 ((parts g sp M).getD j default)) (cl (M.getD j default).1 (ns g (M.getD j default).1 ((parts g sp M).getD j default))) = true
      · -- it gets its size
        have hrj2 : (round g sp M).getD j default = ((M.getD j default).1, some (cl (M.getD j default).1 ((nsL g sp M).getD i default))) := by rw [hrj, v2]; unfold step1; rw [ho, if_neg (by simp), if_pos hf]
        have fin := ih (i + 1) (List.set (List.set L j ({ (List.getD L j default) with size := cl (M.getD j default).1 ((nsL g sp M).getD i default) } : TFlexState)) j ({ (List.getD (List.set L j ({ (List.getD L j default) with size := cl (M.getD j default).1 ((nsL g sp M).getD i default) } : TFlexState)) j default) with fixed := true } : TFlexState)) (by omega) (by omega) (by simpa using hL) (fun k hk => by
          by_cases hkj : k = j
          · subst hkj
            rw [if_pos inn, hrj2]
            have : List.getD (List.set L k ({ (List.getD L k default) with size := cl (M.getD k default).1 ((nsL g sp M).getD i default) } : TFlexState)) k default = ({ (List.getD L k default) with size := cl (M.getD k default).1 ((nsL g sp M).getD i default) } : TFlexState) := by
              rw [getD_get (by simp; omega)]; simp
            rw [this]
            have : ∀ z : TFlexState, List.getD (List.set (List.set L k ({ (List.getD L k default) with size := cl (M.getD k default).1 ((nsL g sp M).getD i default) } : TFlexState)) k z) k default = z := by
              intro z; rw [getD_get (by simp; omega)]; simp
            rw [this]
            exact ⟨hr.it, hr.f, hr.w, rfl, fun n hn => Option.some.inj hn⟩
          · have hh := hR k hk
            have : ∀ a b : TFlexState, List.getD (List.set (List.set L j a) j b) k default = L.getD k default := by
              intro a b; rw [getD_get (by simp; omega), getD_get (by omega)]; simp [List.getElem_set, show ¬ j = k by omega]
            rw [this]
            by_cases hm : (k : Int) ∈ (O M M.length).take i
            · rw [if_pos ((stay k hk hkj).2 hm)]; rwa [if_pos hm] at hh
            · rw [if_neg (fun h => hm ((stay k hk hkj).1 h))]; rwa [if_neg hm] at hh)
        simp only [hr.it] at fin
        unfold fixq at hf
        rw [decide_eq_true_eq, ← v2] at hf
        simp only [if_true, dt, chk_true]
        by_cases hc0 : change g sp M = 0
        · rw [if_pos (by simp [hc0])]; exact fin
        · rw [if_neg (by simp [hc0])]
          by_cases hc1 : change g sp M > 0
          · rw [iteT hc1, iteT (show cl (M.getD j default).1 ((nsL g sp M).getD i default) > (nsL g sp M).getD i default by omega)]; exact fin
          · rw [iteF hc1, iteT (show change g sp M < 0 by omega), iteT (show cl (M.getD j default).1 ((nsL g sp M).getD i default) < (nsL g sp M).getD i default by omega)]; exact fin
      · have hrj2 : (round g sp M).getD j default = M.getD j default := by rw [hrj]; unfold step1; rw [ho, if_neg (by simp), if_neg hf]
        have fin := ih (i + 1) L (by omega) (by omega) hL (fun k hk => by
          by_cases hkj : k = j
          · subst hkj
            rw [if_pos inn, hrj2]; exact hr
          · have hh := hR k hk
            by_cases hm : (k : Int) ∈ (O M M.length).take i
            · rw [if_pos ((stay k hk hkj).2 hm)]; rwa [if_pos hm] at hh
            · rw [if_neg (fun h => hm ((stay k hk hkj).1 h))]; rwa [if_neg hm] at hh)
        have hf2 : fixq (change g sp M) (ns g (M.getD j default).1 ((parts g sp M).getD j default)) (cl (M.getD j default).1 (ns g (M.getD j default).1 ((parts g sp M).getD j default))) = false := by simpa using hf
        unfold fixq at hf2
        rw [decide_eq_false_iff_not, ← v2] at hf2
        simp only [if_true, Bool.false_eq_true, if_false]
        rw [if_neg (by simp; omega)]
        by_cases hc1 : change g sp M > 0
        · rw [iteT hc1, iteF (show ¬ cl (M.getD j default).1 ((nsL g sp M).getD i default) > (nsL g sp M).getD i default by omega), iteF (show ¬ change g sp M < 0 by omega)]; exact fin
        · rw [iteF hc1]
          by_cases hc2 : change g sp M < 0
          · rw [iteT hc2, iteF (show ¬ cl (M.getD j default).1 ((nsL g sp M).getD i default) < (nsL g sp M).getD i default by omega)]; exact fin
          · rw [iteF hc2]; exact fin
    · rw [iteF (by omega)]
      refine ⟨L, ⟨by rw [hL, round_len], fun k hk => ?_⟩, rfl⟩
      rw [round_len] at hk
      have hh := hR k hk
      rw [List.take_of_length_le (by omega)] at hh
      by_cases hm : (k : Int) ∈ O M M.length
      · rwa [if_pos hm] at hh
      · rw [if_neg hm] at hh
        have hs : (M.getD k default).2.isSome = true := by
          rcases Bool.eq_false_or_eq_true (M.getD k default).2.isSome with h | h
          · exact h
          · exact absurd (O_mem.2 ⟨k, hk, rfl, h⟩) hm
        have : (round g sp M).getD k default = M.getD k default := by
          rw [getD_get (by rw [round_len]; exact hk), round_at g sp M hk, ← getD_get hk]
          unfold step1; rw [if_pos hs]
        rw [this]; exact hh
theorem opens_O (M : List It) : opens M = (O M M.length).length := by
  have : ∀ n, n ≤ M.length → (M.take n).countP (fun p => !p.2.isSome) = (O M n).length := by
    intro n
    induction n with
    | zero => intro _; rfl
    | succ n ih =>
      intro h
      rw [getD_take_succ (by omega), List.countP_append, ih (by omega), O_succ, List.length_append]
      congr 1
      cases hh : (M.getD n default).2.isSome <;> simp only [List.countP_cons, List.countP_nil, hh, Bool.not_false, Bool.not_true, if_true, Bool.false_eq_true, if_false, List.length_nil, List.length_cons]
  have h := this M.length (Nat.le_refl _)
  rw [take_self] at h
  exact h
/-- one round -/
theorem resolve_ok {lvl : Nat} (hM : Ok M) (hL : Sim g M L) (hl : M.length ≤ 1000) {sp : Int} (hs : -1125899906842624 ≤ sp ∧ sp ≤ 1125899906842624) (hn : 10001 < n) (hlv : 20010 ≤ lvl) :
    if opens M = 0 then g_flex_resolve (KN lvl) n L sp (sgn g) = some (false, L) else ∃ L', Sim g (round g sp M) L' ∧ g_flex_resolve (KN lvl) n L sp (sgn g) = some (true, L') := by
  have h := r_l2 (K := KN lvl) (n := n) hM hL hl hs n 0 (by omega) (by omega)
  have e1 : sp - sm ((M.take 0).map occ) = sp := by simp [sm]
  have ol := O_len M M.length
  unfold g_flex_resolve
  rw [e1, show facs g (M.take 0) = 0 from rfl, show ((0 : Nat) : Int) = 0 from rfl, O_zero, show op ((M.take 0).map (opw g)) = [] from rfl] at h
  rw [h, ← opens_O]
  by_cases hz : opens M = 0
  · rw [if_pos hz, if_pos hz]
  · rw [if_neg hz, if_neg hz]
    unfold g_flex_resolve_j3
    have pl := op_len g M M.length (Nat.le_refl _)
    rw [take_self] at pl
    rw [Sh.flex_ok _ _ (by omega) hn hlv, parts_open hM, sb]
    have h4 := r_l4 (K := KN lvl) (n := n) hM hL hl (sp := sp) n 0 (by omega) (by omega)
    rw [List.take_zero, List.take_zero, List.drop_zero, List.nil_append, show sm [] = 0 from rfl, show ((0 : Nat) : Int) = 0 from rfl] at h4
    unfold prL at h4
    rw [h4]
    obtain ⟨L', q1, q2⟩ := r_l7 (K := KN lvl) (n := n) (g := g) hM hl (sp := sp) n 0 L (by omega) (by omega) hL.len (fun k hk => by rw [if_neg (by simp)]; exact hL.at_ k hk)
    exact ⟨L', q1, q2⟩
end Rs
end Go.Proofs.Ytlpndemhnpajiaa

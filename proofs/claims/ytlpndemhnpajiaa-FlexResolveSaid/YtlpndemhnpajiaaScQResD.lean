/- Sizes of flex items: the reference's Resolve. No program in sight. -/
import Derived.Test.YtlpndemhnpajiaaScQResC
import Derived.Test.YtlpndemhnpajiaaScQMix
namespace Go.Proofs.Ytlpndemhnpajiaa
set_option linter.all false
open Go.RowKit
namespace Rs
open Sh (share wts lim mx sm_nn sm_le)
open QSort (wn chk_inb iteT iteF sb)
variable {K : Kn} {n : Nat} {g : Bool} {M : List It} {A : List TFlexItem} {S : List Int} {F : List Bool} {v7 v2 : Int}
theorem Normal_ok (x : TFlexItem) : g_ref19_Normal K n x = some (nrm x) := rfl
theorem Hyp_ok (x : TFlexItem) : g_ref19_Hypothetical K n x = some (hyp x) := rfl
/-- the reference's three lists -/
structure Rf (M : List It) (A : List TFlexItem) (S : List Int) (F : List Bool) : Prop where
  la : A.length = M.length
  ls : S.length = M.length
  lf : F.length = M.length
  a : ∀ k, k < M.length → A.getD k default = (M.getD k default).1
  f : ∀ k, k < M.length → F.getD k default = (M.getD k default).2.isSome
  s : ∀ k, k < M.length → ∀ z, (M.getD k default).2 = some z → S.getD k default = z
theorem zo_at (g : Bool) (M : List It) {k : Nat} (hk : k < M.length) : (zo (M.map (opw g))).getD k default = if (M.getD k default).2.isSome = true then 0 else wgt g (M.getD k default).1 := by
  rw [getD_get (by simpa [zo] using hk), getD_get hk]
  simp only [zo, List.getElem_map]
  unfold opw
  split <;> rfl
theorem zo_len (g : Bool) (M : List It) : (zo (M.map (opw g))).length = M.length := by simp [zo]
theorem b_l8 (hM : Ok M) (hR : Rf M A S F) (hl : M.length ≤ 1000) {sp : Int} (hs : -1125899906842624 ≤ sp ∧ sp ≤ 1125899906842624) (hg : decide (v7 < v2) = g) (v78 : Int) (L3 : Int → (List Int) → (List Bool) → Option (List Int)) : ∀ (m i : Nat), i ≤ M.length → M.length < m + i →
    g_ref19_Resolve_l8 K n v2 v7 A v78 S F L3 m (sp - sm ((M.take i).map occ)) (facs g (M.take i)) (i : Int) (mix i (zo (M.map (opw g))) (List.replicate M.length 0)) = g_ref19_Resolve_j10 K n v2 v7 A v78 S F (zo (M.map (opw g))) L3 (need g sp M) := by
  have zl : (zo (M.map (opw g))).length = (List.replicate M.length (0 : Int)).length := by rw [zo_len]; simp
  have rl : (List.replicate M.length (0 : Int)).length = M.length := by simp
  intro m
  induction m with
  | zero => intro i h1 h2; omega
  | succ m ih =>
    intro i h1 h2
    simp only [g_ref19_Resolve_l8, g_ref19_Resolve_l8_b, hR.la, hR.lf, hR.ls]
    by_cases hi : i < M.length
    · have hk := hM.at hi
      have o1 := occs_bd hM hl i; have o2 := occs_bd hM hl (i + 1)
      have f1 := facs_bd (g := g) hM hl i; have f2 := facs_bd (g := g) hM hl (i + 1)
      have e1 := sm_take1 occ M hi
      have e2 := facs_take g M hi
      have ez := zo_at g M hi
      have ewi : w64 ((i : Int) + 1) = ((i + 1 : Nat) : Int) := wn (by omega) (by omega)
      have ml : (mix i (zo (M.map (opw g))) (List.replicate M.length 0)).length = M.length := by rw [mix_len zl, rl]
      rw [iteT (by omega)]
      simp only [chk_inb (show (0 : Int) ≤ (i : Int) ∧ (i : Int) < (M.length : Nat) by omega), tnat, hR.f i hi, sb, hg, ml, List.length_set, g_ref19_Resolve_j6, g_ref19_Resolve_j7, ewi, hR.a i hi]
      cases hx : (M.getD i default).2 with
      | some z =>
        simp only [hx, Option.isSome_some, if_true] at e2 ez ⊢
        have eo : occ (M.getD i default) = z := by unfold occ; rw [hx]; rfl
        rw [eo] at e1
        rw [hR.s i hi z hx, w64_id (by omega) (by omega), show sp - sm ((M.take i).map occ) - z = sp - sm ((M.take (i + 1)).map occ) by omega, show facs g (M.take i) = facs g (M.take (i + 1)) by omega]
        have := mix_keep zl (i := i) (by rw [rl]; exact hi) (by rw [ez, getD_get (by rw [rl]; exact hi), List.getElem_replicate])
        rw [← this]
        exact ih (i + 1) (by omega) (by omega)
      | none =>
        simp only [hx, Option.isSome_none, Bool.false_eq_true, if_false] at e2 ez ⊢
        have eo : occ (M.getD i default) = (M.getD i default).1.Base := by unfold occ; rw [hx]; rfl
        rw [eo] at e1
        have hb := hk.b; have hss := hk.s
        have hm : 0 ≤ (M.getD i default).1.Base * (M.getD i default).1.Shrink ∧ (M.getD i default).1.Base * (M.getD i default).1.Shrink ≤ 1048576 * 1048576 := ⟨Int.mul_nonneg hb.1 hss.1, Int.mul_le_mul hb.2 hss.2 hss.1 (by omega)⟩
        have ew : w64 (Int.tdiv (w64 ((M.getD i default).1.Base * (M.getD i default).1.Shrink)) 1000) = wgt false (M.getD i default).1 := by
          rw [w64_id (n := (M.getD i default).1.Base * (M.getD i default).1.Shrink) (by omega) (by omega), Int.tdiv_eq_ediv_of_nonneg hm.1, w64_id (by omega) (by omega)]; rfl
        rw [ew, w64_id (n := sp - sm ((M.take i).map occ) - (M.getD i default).1.Base) (by omega) (by omega), show sp - sm ((M.take i).map occ) - (M.getD i default).1.Base = sp - sm ((M.take (i + 1)).map occ) by omega]
        have em := mix_set zl (i := i) (by rw [rl]; exact hi)
        rw [ez] at em
        have := ih (i + 1) (by omega) (by omega)
        rw [← em] at this
        rw [← this]
        cases g
        · simp only [Bool.false_eq_true, if_false]
          have : (M.getD i default).1.Shrink = fac false (M.getD i default).1 := rfl
          rw [this, w64_id (by omega) (by omega), ← e2]
        · simp only [if_true]
          have : (M.getD i default).1.Grow = fac true (M.getD i default).1 := rfl
          have h3 : wgt true (M.getD i default).1 = fac true (M.getD i default).1 := rfl
          rw [set_set, this, h3, w64_id (by omega) (by omega), ← e2]
    · obtain rfl : i = M.length := by omega
      rw [iteF (by omega), take_self]
      have mf := mix_full zl
      rw [rl] at mf
      have o1 := occs_bd hM hl M.length
      have f1 := facs_bd (g := g) hM hl M.length
      rw [take_self] at o1 f1
      have hroom := room_bd (g := g) hM hl hs
      rw [mf, hg, w64_id (n := 0 - (sp - sm (M.map occ))) (by omega) (by omega)]
      simp only [g_ref19_Resolve_j9]
      have fin : ∀ x, max x 0 = room g sp M → (if decide (facs g M < 1000) = true then g_ref19_Resolve_j10 K n v2 v7 A v78 S F (zo (M.map (opw g))) L3 (w64 (Int.tdiv (w64 (max x 0 * facs g M)) 1000)) else g_ref19_Resolve_j10 K n v2 v7 A v78 S F (zo (M.map (opw g))) L3 (max x 0)) = g_ref19_Resolve_j10 K n v2 v7 A v78 S F (zo (M.map (opw g))) L3 (need g sp M) := by
        intro x hx
        rw [hx]
        unfold need
        by_cases hf : facs g M < 1000
        · rw [iteT hf, if_pos hf]
          have a1 : 0 ≤ room g sp M * facs g M ∧ room g sp M * facs g M ≤ 1125900955418624 * 1000 := ⟨Int.mul_nonneg hroom.1 f1.1, Int.mul_le_mul hroom.2 (by omega) f1.1 (by omega)⟩
          rw [w64_id (n := room g sp M * facs g M) (by omega) (by omega), Int.tdiv_eq_ediv_of_nonneg a1.1, w64_id (by omega) (by omega)]
        · rw [iteF hf, if_neg hf]
      cases g
      · simp only [Bool.not_false, if_true]
        exact fin _ (by unfold room; simp only [Bool.false_eq_true, if_false]; congr 1; omega)
      · simp only [Bool.not_true, Bool.false_eq_true, if_false]
        exact fin _ (by unfold room; simp only [if_true])
def nsR (g : Bool) (sp : Int) (M : List It) (S : List Int) : List Int := tab M.length fun k => if (M.getD k default).2.isSome = true then S.getD k default else ns g (M.getD k default).1 ((parts g sp M).getD k default)
def lmR (g : Bool) (sp : Int) (M : List It) : List Int := tab M.length fun k => if (M.getD k default).2.isSome = true then 0 else cl (M.getD k default).1 (ns g (M.getD k default).1 ((parts g sp M).getD k default))
def dfR (g : Bool) (sp : Int) (M : List It) : List Int := tab M.length fun k => dif g (M.getD k default) ((parts g sp M).getD k default)
theorem change_R (g : Bool) (sp : Int) (M : List It) : change g sp M = sm (dfR g sp M) := by
  unfold change
  congr 1
  refine List.ext_getElem (by simp [parts_len, dfR, tab]) (fun k h1 h2 => ?_)
  have hk : k < M.length := by simpa [dfR, tab] using h2
  simp only [List.getElem_zipWith, dfR, tab, List.getElem_map, List.getElem_range]
  rw [getD_get hk, getD_get (by rw [parts_len]; exact hk)]
theorem dif_bd (hM : Ok M) (sp : Int) {k : Nat} (hk : k < M.length) : -4294967296 ≤ dif g (M.getD k default) ((parts g sp M).getD k default) ∧ dif g (M.getD k default) ((parts g sp M).getD k default) ≤ 4294967296 := by
  have hk1 := hM.at hk
  have hp := parts_bd (g := g) hM sp hk
  have hn := ns_bd (g := g) hk1 hp
  have hc := cl_bd hk1 (ns g (M.getD k default).1 ((parts g sp M).getD k default))
  have := hk1.l
  unfold dif
  split <;> omega
theorem dfR_bd (hM : Ok M) (hl : M.length ≤ 1000) (sp : Int) (i : Nat) : -(1000 * 4294967296) ≤ sm ((dfR g sp M).take i) ∧ sm ((dfR g sp M).take i) ≤ 1000 * 4294967296 := by
  have := sm_bd (B := 4294967296) (by omega) ((dfR g sp M).take i) (fun x hx => by
    have hx := List.mem_of_mem_take hx
    unfold dfR tab at hx
    obtain ⟨k, hk, rfl⟩ := List.mem_map.1 hx
    exact dif_bd hM sp (List.mem_range.1 hk))
  have hll : ((dfR g sp M).take i).length ≤ 1000 := by simp [dfR, tab]; omega
  omega
theorem b_l13 (hM : Ok M) (hR : Rf M A S F) (hl : M.length ≤ 1000) {sp : Int} (hg : decide (v7 < v2) = g) (v78 : Int) (L3 : Int → (List Int) → (List Bool) → Option (List Int)) : ∀ (m i : Nat), i ≤ M.length → M.length < m + i →
    g_ref19_Resolve_l13 K n v2 v7 A v78 F (parts g sp M) L3 m (sm ((dfR g sp M).take i)) (i : Int) (mix i (nsR g sp M S) S) (mix i (lmR g sp M) (List.replicate M.length 0)) = g_ref19_Resolve_l16 K n v2 v7 A (change g sp M) (lmR g sp M) L3 n v78 0 (nsR g sp M S) F := by
  have nl : (nsR g sp M S).length = S.length := by rw [hR.ls]; simp [nsR, tab]
  have ll : (lmR g sp M).length = (List.replicate M.length (0 : Int)).length := by simp [lmR, tab]
  have rl : (List.replicate M.length (0 : Int)).length = M.length := by simp
  have dl : (dfR g sp M).length = M.length := by simp [dfR, tab]
  have sl := hR.ls
  intro m
  induction m with
  | zero => intro i h1 h2; omega
  | succ m ih =>
    intro i h1 h2
    simp only [g_ref19_Resolve_l13, g_ref19_Resolve_l13_b, hR.la, hR.lf, hR.ls]
    by_cases hi : i < M.length
    · have hk := hM.at hi
      have hp := parts_bd (g := g) hM sp hi
      have hn := ns_bd (g := g) hk hp
      have hd := dif_bd (g := g) hM sp hi
      have d1 := dfR_bd (g := g) hM hl sp i; have d2 := dfR_bd (g := g) hM hl sp (i + 1)
      have ewi : w64 ((i : Int) + 1) = ((i + 1 : Nat) : Int) := wn (by omega) (by omega)
      have m1 : (mix i (nsR g sp M S) S).length = M.length := by rw [mix_len nl, hR.ls]
      have m2 : (mix i (lmR g sp M) (List.replicate M.length 0)).length = M.length := by rw [mix_len ll, rl]
      have en : (nsR g sp M S).getD i default = _ := tab_at hi
      have el : (lmR g sp M).getD i default = _ := tab_at hi
      have ed : (dfR g sp M).getD i default = _ := tab_at hi
      have es : sm ((dfR g sp M).take (i + 1)) = sm ((dfR g sp M).take i) + (dfR g sp M).getD i default := by rw [getD_take_succ (by omega), sm_app]; simp [sm]
      have s1 := mix_set nl (i := i) (by omega)
      have s2 := mix_set ll (i := i) (by omega)
      have n1 := mix_len (i := i + 1) nl; have n2 := mix_len (i := i + 1) ll
      have gn := mix_get_succ nl (i := i) (by omega)
      have gl := mix_get_succ ll (i := i) (by omega)
      rw [iteT (by omega)]
      simp only [chk_inb (show (0 : Int) ≤ (i : Int) ∧ (i : Int) < (M.length : Nat) by omega), tnat, hR.f i hi, sb, hg, m1, m2, parts_len, List.length_set, g_ref19_Resolve_j11, g_ref19_Resolve_j12, ewi, hR.a i hi, hR.la]
      cases hx : (M.getD i default).2 with
      | some z =>
        have hs : (M.getD i default).2.isSome = true := by rw [hx]; rfl
        rw [if_pos hs] at en el
        have ed2 : (dfR g sp M).getD i default = 0 := by rw [ed]; unfold dif; rw [if_pos hs]
        simp only [Option.isSome_some, if_true]
        rw [← mix_keep nl (by omega) en, ← mix_keep ll (by omega) (by rw [el, getD_get (by omega), List.getElem_replicate]), show sm ((dfR g sp M).take i) = sm ((dfR g sp M).take (i + 1)) by omega]
        exact ih (i + 1) (by omega) (by omega)
      | none =>
        have hs : ¬ (M.getD i default).2.isSome = true := by rw [hx]; simp
        rw [if_neg hs] at en el
        have ed2 : (dfR g sp M).getD i default = (lmR g sp M).getD i default - (nsR g sp M S).getD i default := by rw [ed, en, el]; unfold dif; rw [if_neg hs]
        have hb := hk.b
        have fin : ∀ L : List Int, L = mix (i + 1) (nsR g sp M S) S → (chk (inb (i : Int) L.length) (chk (inb (i : Int) (List.set (mix i (lmR g sp M) (List.replicate M.length 0)) i (min (max (List.getD L i default) (M.getD i default).1.Min) (M.getD i default).1.Max)).length) (chk (inb (i : Int) L.length)
            (g_ref19_Resolve_l13 K n v2 v7 A v78 F (parts g sp M) L3 m (w64 (sm ((dfR g sp M).take i) + w64 (List.getD (List.set (mix i (lmR g sp M) (List.replicate M.length 0)) i (min (max (List.getD L i default) (M.getD i default).1.Min) (M.getD i default).1.Max)) i default - List.getD L i default))) ((i + 1 : Nat) : Int) L (List.set (mix i (lmR g sp M) (List.replicate M.length 0)) i (min (max (List.getD L i default) (M.getD i default).1.Min) (M.getD i default).1.Max)))))) = g_ref19_Resolve_l16 K n v2 v7 A (change g sp M) (lmR g sp M) L3 n v78 0 (nsR g sp M S) F := by
          intro L hL
          subst hL
          have ec : min (max ((nsR g sp M S).getD i default) (M.getD i default).1.Min) (M.getD i default).1.Max = (lmR g sp M).getD i default := by rw [en, el]; rfl
          rw [gn, ec, s2, n1, n2, hR.ls, rl, chk_inb (by omega), chk_inb (by omega), chk_inb (by omega), gl, w64_id (n := (lmR g sp M).getD i default - (nsR g sp M S).getD i default) (by omega) (by omega), ← ed2, w64_id (by omega) (by omega), ← es]
          exact ih (i + 1) (by omega) (by omega)
        simp only [Option.isSome_none, Bool.false_eq_true, if_false]
        cases g
        · simp only [Bool.false_eq_true, if_false]
          have : w64 ((M.getD i default).1.Base - (parts false sp M).getD i default) = (nsR false sp M S).getD i default := by
            rw [en]; unfold ns at hn ⊢; simp only [Bool.false_eq_true, if_false] at hn ⊢; exact w64_id (by omega) (by omega)
          rw [this]
          have f := fin _ s1
          simp only [n1, n2, s1, s2, List.length_set, hR.ls, m2, chk_inb (show (0 : Int) ≤ (i : Int) ∧ (i : Int) < (M.length : Nat) by omega)] at f ⊢
          exact f
        · simp only [if_true]
          have : w64 ((M.getD i default).1.Base + (parts true sp M).getD i default) = (nsR true sp M S).getD i default := by
            rw [en]; unfold ns at hn ⊢; simp only [if_true] at hn ⊢; exact w64_id (by omega) (by omega)
          rw [set_set, this]
          have f := fin _ s1
          simp only [n1, n2, s1, s2, List.length_set, hR.ls, m2, chk_inb (show (0 : Int) ≤ (i : Int) ∧ (i : Int) < (M.length : Nat) by omega)] at f ⊢
          exact f
    · obtain rfl : i = M.length := by omega
      rw [iteF (by omega), List.take_of_length_le (by omega), ← change_R]
      have e1 := mix_full nl
      have e2 := mix_full ll
      rw [hR.ls] at e1; rw [rl] at e2
      rw [e1, e2]
theorem opens_mix {R : List It} (h : R.length = M.length) {i : Nat} (hi : i < M.length) : opens (mix (i + 1) R M) + (if (M.getD i default).2.isSome = true then 0 else 1) = opens (mix i R M) + (if (R.getD i default).2.isSome = true then 0 else 1) := by
  rw [mix_succ h hi]
  unfold mix opens
  rw [List.drop_eq_getElem_cons hi, ← getD_get hi, List.countP_append, List.countP_append, List.countP_cons, List.countP_cons]
  cases (M.getD i default).2.isSome <;> cases (R.getD i default).2.isSome <;> simp <;> omega
/-- the sizes and marks behind a round -/
def szR (g : Bool) (sp : Int) (M : List It) (S : List Int) : List Int := tab M.length fun k => if (M.getD k default).2.isSome = true then S.getD k default else ((round g sp M).getD k default).2.getD ((nsR g sp M S).getD k default)
def fxR (g : Bool) (sp : Int) (M : List It) : List Bool := tab M.length fun k => ((round g sp M).getD k default).2.isSome
theorem round_getD (g : Bool) (sp : Int) (M : List It) {k : Nat} (hk : k < M.length) : (round g sp M).getD k default = step1 g (change g sp M) (M.getD k default) ((parts g sp M).getD k default) := by
  rw [getD_get (by rw [round_len]; exact hk), round_at g sp M hk, getD_get hk]
theorem b_l16 (hM : Ok M) (hR : Rf M A S F) (hl : M.length ≤ 1000) {sp : Int} (L3 : Int → (List Int) → (List Bool) → Option (List Int)) : ∀ (m i : Nat), i ≤ M.length → M.length < m + i →
    g_ref19_Resolve_l16 K n v2 v7 A (change g sp M) (lmR g sp M) L3 m ((opens (mix i (round g sp M) M) : Nat) : Int) (i : Int) (mix i (szR g sp M S) (nsR g sp M S)) (mix i (fxR g sp M) F) = L3 ((opens (round g sp M) : Nat) : Int) (szR g sp M S) (fxR g sp M) := by
  have nl : (nsR g sp M S).length = M.length := by simp [nsR, tab]
  have zl : (szR g sp M S).length = (nsR g sp M S).length := by rw [nl]; simp [szR, tab]
  have fl : (fxR g sp M).length = F.length := by rw [hR.lf]; simp [fxR, tab]
  have ll : (lmR g sp M).length = M.length := by simp [lmR, tab]
  have rl := round_len g sp M
  intro m
  induction m with
  | zero => intro i h1 h2; omega
  | succ m ih =>
    intro i h1 h2
    simp only [g_ref19_Resolve_l16, g_ref19_Resolve_l16_b, hR.la]
    by_cases hi : i < M.length
    · have m1 : (mix i (szR g sp M S) (nsR g sp M S)).length = M.length := by rw [mix_len zl, nl]
      have m2 : (mix i (fxR g sp M) F).length = M.length := by rw [mix_len fl, hR.lf]
      have g1 := mix_at zl (i := i) (by omega)
      have g2 := mix_at fl (i := i) (by rw [hR.lf]; exact hi)
      have es : (szR g sp M S).getD i default = _ := tab_at hi
      have ef : (fxR g sp M).getD i default = _ := tab_at hi
      have en : (nsR g sp M S).getD i default = _ := tab_at hi
      have el : (lmR g sp M).getD i default = _ := tab_at hi
      have er := round_getD g sp M hi
      have om := opens_mix (R := round g sp M) rl hi
      have oo := opens_le (mix i (round g sp M) M)
      rw [mix_len rl] at oo
      have s1 := mix_set zl (i := i) (by omega)
      have s2 := mix_set fl (i := i) (by rw [hR.lf]; exact hi)
      have ewi : w64 ((i : Int) + 1) = ((i + 1 : Nat) : Int) := wn (by omega) (by omega)
      have fin := ih (i + 1) (by omega) (by omega)
      rw [iteT (by omega)]
      simp only [chk_inb (show (0 : Int) ≤ (i : Int) ∧ (i : Int) < (M.length : Nat) by omega), tnat, m1, m2, ll, g1, g2, hR.f i hi, g_ref19_Resolve_j14, g_ref19_Resolve_j15, ewi]
      by_cases hs : (M.getD i default).2.isSome = true
      · have er2 : (round g sp M).getD i default = M.getD i default := by rw [er]; unfold step1; rw [if_pos hs]
        rw [if_pos hs] at es en
        rw [mix_keep zl (by omega) (by rw [es, en]), mix_keep fl (by rw [hR.lf]; exact hi) (by rw [ef, er2, hR.f i hi])] at fin
        rw [er2, if_pos hs] at om
        rw [show opens (mix (i + 1) (round g sp M) M) = opens (mix i (round g sp M) M) by omega] at fin
        simp only [hs, Bool.not_true, Bool.false_eq_true, if_false]
        exact fin
      · have hs2 : (M.getD i default).2.isSome = false := by simpa using hs
        rw [if_neg hs] at es en el om
        simp only [hs2, Bool.not_false, if_true]
        by_cases hf : fixq (change g sp M) (ns g (M.getD i default).1 ((parts g sp M).getD i default)) (cl (M.getD i default).1 (ns g (M.getD i default).1 ((parts g sp M).getD i default))) = true
        · have er2 : (round g sp M).getD i default = ((M.getD i default).1, some ((lmR g sp M).getD i default)) := by rw [er, el]; unfold step1; rw [if_neg hs, if_pos hf]
          rw [er2] at es ef om
          have es2 : (szR g sp M S).getD i default = (lmR g sp M).getD i default := es
          have ef2 : (fxR g sp M).getD i default = true := ef
          simp only [Option.isSome_some, if_true] at om
          have om2 : opens (mix (i + 1) (round g sp M) M) + 1 = opens (mix i (round g sp M) M) := by omega
          have ow : w64 (((opens (mix i (round g sp M) M) : Nat) : Int) - 1) = ((opens (mix (i + 1) (round g sp M) M) : Nat) : Int) := wn (by omega) (by omega)
          rw [es2] at s1; rw [ef2] at s2
          rw [← s1, ← s2] at fin
          rw [ow]
          unfold fixq at hf
          rw [decide_eq_true_eq, ← el, ← en] at hf
          by_cases hc0 : change g sp M = 0
          · rw [if_pos (by rw [beq_iff_eq]; exact hc0)]; exact fin
          · rw [if_neg (by rw [beq_iff_eq]; exact hc0)]
            by_cases hc1 : change g sp M > 0
            · rw [iteT hc1, iteT (show (lmR g sp M).getD i default > (nsR g sp M S).getD i default by omega)]; exact fin
            · rw [iteF hc1, iteT (show change g sp M < 0 by omega), iteT (show (lmR g sp M).getD i default < (nsR g sp M S).getD i default by omega)]; exact fin
        · have er2 : (round g sp M).getD i default = M.getD i default := by rw [er]; unfold step1; rw [if_neg hs, if_neg hf]
          have hx : (M.getD i default).2 = none := by cases h : (M.getD i default).2 with
            | none => rfl
            | some z => rw [h] at hs; simp at hs
          rw [er2] at es ef om
          rw [hx] at es
          have es2 : (szR g sp M S).getD i default = (nsR g sp M S).getD i default := es
          rw [mix_keep zl (by omega) es2, mix_keep fl (by rw [hR.lf]; exact hi) (by rw [ef, hR.f i hi])] at fin
          rw [if_neg hs] at om
          rw [show opens (mix (i + 1) (round g sp M) M) = opens (mix i (round g sp M) M) by omega] at fin
          have hf2 : fixq (change g sp M) (ns g (M.getD i default).1 ((parts g sp M).getD i default)) (cl (M.getD i default).1 (ns g (M.getD i default).1 ((parts g sp M).getD i default))) = false := by simpa using hf
          unfold fixq at hf2
          rw [decide_eq_false_iff_not, ← el, ← en] at hf2
          rw [if_neg (by rw [beq_iff_eq]; omega)]
          simp only [Bool.false_eq_true, if_false]
          by_cases hc1 : change g sp M > 0
          · rw [iteT hc1, iteF (show ¬ (lmR g sp M).getD i default > (nsR g sp M S).getD i default by omega), iteF (show ¬ change g sp M < 0 by omega)]; exact fin
          · rw [iteF hc1]
            by_cases hc2 : change g sp M < 0
            · rw [iteT hc2, iteF (show ¬ (lmR g sp M).getD i default < (nsR g sp M S).getD i default by omega)]; exact fin
            · rw [iteF hc2]; exact fin
    · obtain rfl : i = M.length := by omega
      rw [iteF (by omega)]
      have e1 := mix_full zl
      have e2 := mix_full fl
      have e3 := mix_full rl
      rw [nl] at e1; rw [hR.lf] at e2
      rw [e1, e2, e3]
theorem rf_round (hR : Rf M A S F) (g : Bool) (sp : Int) : Rf (round g sp M) A (szR g sp M S) (fxR g sp M) := by
  have rl := round_len g sp M
  refine ⟨by rw [rl, hR.la], by rw [rl]; simp [szR, tab], by rw [rl]; simp [fxR, tab], fun k hk => ?_, fun k hk => ?_, fun k hk z hz => ?_⟩
  · rw [rl] at hk
    rw [round_getD g sp M hk, hR.a k hk]; unfold step1; split
    · rfl
    · split <;> rfl
  · rw [rl] at hk
    exact tab_at hk
  · rw [rl] at hk
    have e : (szR g sp M S).getD k default = _ := tab_at hk
    rw [e]
    by_cases hs : (M.getD k default).2.isSome = true
    · rw [if_pos hs]
      have : (round g sp M).getD k default = M.getD k default := by rw [round_getD g sp M hk]; unfold step1; rw [if_pos hs]
      rw [this] at hz
      exact hR.s k hk z hz
    · rw [if_neg hs, hz]; rfl
/-- all rounds -/
theorem b_l17 {sp : Int} (hs : -1125899906842624 ≤ sp ∧ sp ≤ 1125899906842624) (hn : 10001 < n) (hg : decide (v7 < sp) = g) : ∀ (m : Nat) (M : List It) (S : List Int) (F : List Bool), opens M < m → Ok M → Rf M A S F → M.length ≤ 1000 →
    g_ref19_Resolve_l17 K n sp v7 A m ((opens M : Nat) : Int) S F = some (sizes (run g sp M.length M)) := by
  intro m
  induction m with
  | zero => intro M S F h; omega
  | succ m ih =>
    intro M S F h hM hR hl
    simp only [g_ref19_Resolve_l17, g_ref19_Resolve_l17_b]
    by_cases hz : opens M = 0
    · rw [iteF (by omega), run_zero hz]
      congr 1
      refine tab_ext (by simp [sizes, hR.ls]) (fun k hk => ?_)
      have hk : k < M.length := by simpa [sizes] using hk
      have ho : (M.getD k default).2.isSome = true := by
        have := List.countP_eq_zero.1 hz (M.getD k default) (by rw [getD_get hk]; exact List.getElem_mem _)
        cases h : (M.getD k default).2 with
        | none => rw [h] at this; simp at this
        | some z => rfl
      obtain ⟨z, ez⟩ := Option.isSome_iff_exists.1 ho
      rw [hR.s k hk z ez]
      have : (sizes M).getD k default = (M.getD k default).2.getD 0 := by
        rw [getD_get (by simpa [sizes] using hk), getD_get hk]; simp [sizes]
      rw [this, ez]; rfl
    · rw [iteT (by omega), hR.la, Sh.mkb_of (by omega) (by omega), chk_true, tnat]
      have h8 := b_l8 (K := K) (n := n) (v2 := sp) (v7 := v7) hM hR hl hs hg ((opens M : Nat) : Int) (g_ref19_Resolve_l17 K n sp v7 A m) n 0 (by omega) (by omega)
      rw [List.take_zero, List.map_nil, show sm [] = 0 from rfl, Int.sub_zero, show facs g [] = 0 from rfl, mix_zero, show ((0 : Nat) : Int) = 0 from rfl] at h8
      rw [h8]
      unfold g_ref19_Resolve_j10
      rw [Sh.ref_ok _ _ (by rw [zo_len]; omega) hn, sb, hR.la, Sh.mkb_of (by omega) (by omega), chk_true, tnat]
      have h13 := b_l13 (K := K) (n := n) (v2 := sp) (v7 := v7) hM hR hl (sp := sp) hg ((opens M : Nat) : Int) (g_ref19_Resolve_l17 K n sp v7 A m) n 0 (by omega) (by omega)
      rw [List.take_zero, show sm [] = 0 from rfl, mix_zero, mix_zero, show ((0 : Nat) : Int) = 0 from rfl] at h13
      unfold parts at h13
      rw [h13]
      have h16 := b_l16 (K := K) (n := n) (v2 := sp) (v7 := v7) (g := g) hM hR hl (sp := sp) (g_ref19_Resolve_l17 K n sp v7 A m) n 0 (by omega) (by omega)
      rw [mix_zero, mix_zero, mix_zero, show ((0 : Nat) : Int) = 0 from rfl] at h16
      rw [h16]
      have hro := round_opens (g := g) (sp := sp) hz
      rw [ih (round g sp M) _ _ (by omega) (round_ok hM) (rf_round hR g sp) (by rw [round_len]; exact hl)]
      congr 2
      have e1 : run g sp (M.length + 1) M = run g sp M.length (round g sp M) := by rw [run, if_neg hz]
      rw [round_len, ← e1]
      have := opens_le M
      exact run_more _ _ _ (by omega) (by omega)
/-! the beginning -/
def fx0 (g : Bool) (l : List TFlexItem) : List Bool := l.map fun x => fix0 g (nrm x) (hyp x)
theorem rf0 (g : Bool) (l : List TFlexItem) : Rf (start g l) (l.map nrm) (l.map hyp) (fx0 g l) := by
  have sl : (start g l).length = l.length := by simp [start]
  have sat : ∀ k, k < l.length → (start g l).getD k default = (nrm (l.getD k default), if fix0 g (nrm (l.getD k default)) (hyp (l.getD k default)) = true then some (hyp (l.getD k default)) else none) := by
    intro k hk
    rw [getD_get (by omega), getD_get hk]; simp [start]
  refine ⟨by simp [sl], by simp [sl], by simp [sl, fx0], fun k hk => ?_, fun k hk => ?_, fun k hk z hz => ?_⟩
  · rw [sl] at hk
    rw [sat k hk, getD_get (by simpa using hk), getD_get hk]; simp
  · rw [sl] at hk
    rw [sat k hk, getD_get (by simpa [fx0] using hk), getD_get hk]
    simp only [fx0, List.getElem_map]
    cases fix0 g (nrm l[k]) (hyp l[k]) <;> rfl
  · rw [sl] at hk
    rw [sat k hk] at hz
    rw [getD_get (by simpa using hk), List.getElem_map, ← getD_get hk]
    split at hz
    · exact Option.some.inj hz
    · cases hz
theorem opens_start (g : Bool) (l : List TFlexItem) : opens (start g l) = l.countP fun x => !fix0 g (nrm x) (hyp x) := by
  unfold opens start
  rw [List.countP_map]
  refine List.countP_congr (fun x _ => ?_)
  simp only [Function.comp_apply]
  cases fix0 g (nrm x) (hyp x) <;> simp
theorem b_l1 (l : List TFlexItem) (sp : Int) (hl : l.length ≤ 1000) : ∀ (m i : Nat), i ≤ l.length → l.length < m + i →
    g_ref19_Resolve_l1 K n l sp m (sm ((l.take i).map hyp)) (i : Int) ((l.take i).map nrm) ((l.take i).map hyp) = g_ref19_Resolve_l5 K n sp (sm (l.map hyp)) (l.map nrm) (l.map hyp) n 0 0 [] := by
  intro m
  induction m with
  | zero => intro i h1 h2; omega
  | succ m ih =>
    intro i h1 h2
    simp only [g_ref19_Resolve_l1, g_ref19_Resolve_l1_b]
    by_cases hi : i < l.length
    · have h0 := hyps_bd l hl i; have h3 := hyps_bd l hl (i + 1)
      have e0 : (l.take (i + 1)).map hyp = (l.take i).map hyp ++ [hyp (l.getD i default)] := by rw [getD_take_succ hi, List.map_append]; rfl
      have e2 : (l.take (i + 1)).map nrm = (l.take i).map nrm ++ [nrm (l.getD i default)] := by rw [getD_take_succ hi, List.map_append]; rfl
      have e1 : sm ((l.take (i + 1)).map hyp) = sm ((l.take i).map hyp) + hyp (l.getD i default) := by rw [e0, sm_app]; simp [sm]
      have ll : ((l.take i).map nrm).length = i := by simp; omega
      have l2 : ((l.take i).map hyp).length = i := by simp; omega
      have l3 : ((l.take i).map hyp ++ [hyp (l.getD i default)]).length = i + 1 := by simp; omega
      have eg : ((l.take i).map hyp ++ [hyp (l.getD i default)]).getD i default = hyp (l.getD i default) := QSort.gd (A := (l.take i).map hyp) (B := []) l2.symm
      rw [iteT (by omega), chk_inb (by omega), tnat, Normal_ok, Hyp_ok]
      simp only [sb]
      rw [ll, l2, l3, fits_ok (by simp only [List.length_cons, List.length_nil]; omega) (by omega) (by omega), fits_ok (by simp only [List.length_cons, List.length_nil]; omega) (by omega) (by omega), chk_true, chk_true, chk_inb (by omega), eg, w64_id (by omega) (by omega), ← e1, wn (n := (i : Int) + 1) (k := i + 1) (by omega) (by omega), ← e0, ← e2, chk_inb (by omega)]
      exact ih (i + 1) (by omega) (by omega)
    · obtain rfl : i = l.length := by omega
      rw [iteF (by omega), take_self]
theorem b_l5 (l : List TFlexItem) (sp : Int) (hl : l.length ≤ 1000) : ∀ (m i : Nat), i ≤ l.length → l.length < m + i →
    g_ref19_Resolve_l5 K n sp (sm (l.map hyp)) (l.map nrm) (l.map hyp) m ((opens (start (grows l sp) (l.take i)) : Nat) : Int) (i : Int) (fx0 (grows l sp) (l.take i)) =
    g_ref19_Resolve_l17 K n sp (sm (l.map hyp)) (l.map nrm) n ((opens (start (grows l sp) l) : Nat) : Int) (l.map hyp) (fx0 (grows l sp) l) := by
  intro m
  induction m with
  | zero => intro i h1 h2; omega
  | succ m ih =>
    intro i h1 h2
    simp only [g_ref19_Resolve_l5, g_ref19_Resolve_l5_b, List.length_map]
    by_cases hi : i < l.length
    · have a1 : (l.map nrm).getD i default = nrm (l.getD i default) := by rw [getD_get (by simpa using hi), List.getElem_map, getD_get hi]
      have a2 : (l.map hyp).getD i default = hyp (l.getD i default) := by rw [getD_get (by simpa using hi), List.getElem_map, getD_get hi]
      have ewi : w64 ((i : Int) + 1) = ((i + 1 : Nat) : Int) := wn (by omega) (by omega)
      have ef : fx0 (grows l sp) (l.take (i + 1)) = fx0 (grows l sp) (l.take i) ++ [fix0 (grows l sp) (nrm (l.getD i default)) (hyp (l.getD i default))] := by unfold fx0; rw [getD_take_succ hi, List.map_append]; rfl
      have eo : opens (start (grows l sp) (l.take (i + 1))) = opens (start (grows l sp) (l.take i)) + if fix0 (grows l sp) (nrm (l.getD i default)) (hyp (l.getD i default)) = true then 0 else 1 := by
        rw [opens_start, opens_start, getD_take_succ hi, List.countP_append]
        congr 1
        cases h : fix0 (grows l sp) (nrm (l.getD i default)) (hyp (l.getD i default)) <;> simp only [List.countP_cons, List.countP_nil, h] <;> rfl
      have ob := opens_le (start (grows l sp) (l.take i))
      have ol : (start (grows l sp) (l.take i)).length ≤ i := by simp [start]; omega
      have fl : (fx0 (grows l sp) (l.take i)).length = i := by simp [fx0]; omega
      have fin := ih (i + 1) (by omega) (by omega)
      have j3 : ∀ b, b = fix0 (grows l sp) (nrm (l.getD i default)) (hyp (l.getD i default)) → g_ref19_Resolve_j3 K n sp (sm (l.map hyp)) (l.map nrm) (l.map hyp) ((opens (start (grows l sp) (l.take i)) : Nat) : Int) (i : Int) (fx0 (grows l sp) (l.take i)) (g_ref19_Resolve_l5 K n sp (sm (l.map hyp)) (l.map nrm) (l.map hyp) m) b = g_ref19_Resolve_l17 K n sp (sm (l.map hyp)) (l.map nrm) n ((opens (start (grows l sp) l) : Nat) : Int) (l.map hyp) (fx0 (grows l sp) l) := by
        intro b hb
        subst hb
        simp only [g_ref19_Resolve_j3, g_ref19_Resolve_j4]
        rw [fits_ok (by simp only [List.length_cons, List.length_nil]; omega) (by omega) (by omega), chk_true, ewi, ← fin, ef, eo]
        cases h : fix0 (grows l sp) (nrm (l.getD i default)) (hyp (l.getD i default))
        · simp only [Bool.not_false, if_true, Bool.false_eq_true, if_false]
          rw [wn (n := ((opens (start (grows l sp) (l.take i)) : Nat) : Int) + 1) (k := opens (start (grows l sp) (l.take i)) + 1) (by omega) (by omega)]
        · simp only [Bool.not_true, Bool.false_eq_true, if_false, if_true, Nat.add_zero]
      rw [iteT (by omega)]
      simp only [chk_inb (show (0 : Int) ≤ (i : Int) ∧ (i : Int) < (l.length : Nat) by omega), tnat, a1, a2, g_ref19_Resolve_j2, List.length_map]
      by_cases hgr : sm (l.map hyp) < sp
      · have eg : grows l sp = true := by unfold grows; simpa using hgr
        simp only [hgr, decide_true, if_true]
        have e2 : ∀ b : Bool, (b = true ↔ (nrm (l.getD i default)).Grow = 0 ∨ (nrm (l.getD i default)).Base > hyp (l.getD i default)) → b = fix0 (grows l sp) (nrm (l.getD i default)) (hyp (l.getD i default)) := by
          intro b hb
          rw [eg]; unfold fix0; rw [if_pos rfl, Bool.eq_iff_iff, hb, decide_eq_true_eq]
        by_cases hc : (nrm (l.getD i default)).Grow = 0
        · have : ((nrm (l.getD i default)).Grow == 0) = true := by rw [beq_iff_eq]; exact hc
          simp only [this, if_true]
          split <;> exact j3 _ (e2 _ ⟨fun _ => .inl hc, fun _ => rfl⟩)
        · have : ((nrm (l.getD i default)).Grow == 0) = false := by rw [beq_eq_false_iff_ne]; exact hc
          simp only [this, Bool.false_eq_true, if_false]
          split <;> exact j3 _ (e2 _ ⟨fun h => .inr (of_decide_eq_true h), fun h => decide_eq_true (h.resolve_left hc)⟩)
      · have eg : grows l sp = false := by unfold grows; simpa using hgr
        have hd : decide (sm (l.map hyp) < sp) = false := decide_eq_false hgr
        simp only [hd, Bool.false_eq_true, if_false]
        have e2 : ∀ b : Bool, (b = true ↔ (nrm (l.getD i default)).Shrink = 0 ∨ (nrm (l.getD i default)).Base < hyp (l.getD i default)) → b = fix0 (grows l sp) (nrm (l.getD i default)) (hyp (l.getD i default)) := by
          intro b hb
          rw [eg]; unfold fix0; rw [if_neg (by simp), Bool.eq_iff_iff, hb, decide_eq_true_eq]
        by_cases hc : (nrm (l.getD i default)).Shrink = 0
        · have : ((nrm (l.getD i default)).Shrink == 0) = true := by rw [beq_iff_eq]; exact hc
          rw [if_pos this]
          exact j3 _ (e2 _ ⟨fun _ => .inl hc, fun _ => rfl⟩)
        · have : ¬ ((nrm (l.getD i default)).Shrink == 0) = true := by rw [beq_iff_eq]; exact hc
          rw [if_neg this]
          exact j3 _ (e2 _ ⟨fun h => .inr (of_decide_eq_true h), fun h => decide_eq_true (h.resolve_left hc)⟩)
    · obtain rfl : i = l.length := by omega
      rw [iteF (by omega), take_self]
/-- knapsackref19.Resolve -/
theorem ref_ok (l : List TFlexItem) {sp : Int} (hl : l.length ≤ 1000) (hs : -1125899906842624 ≤ sp ∧ sp ≤ 1125899906842624) (hn : 10001 < n) : g_ref19_Resolve K n l sp = some (resolve l sp) := by
  unfold g_ref19_Resolve
  have := b_l1 (K := K) (n := n) l sp hl n 0 (by omega) (by omega)
  rw [List.take_zero, List.map_nil, List.map_nil, show ((0 : Nat) : Int) = 0 from rfl, show sm [] = 0 from rfl] at this
  rw [this]
  have := b_l5 (K := K) (n := n) l sp hl n 0 (by omega) (by omega)
  rw [List.take_zero, show opens (start (grows l sp) []) = 0 from rfl, show fx0 (grows l sp) [] = [] from rfl, show ((0 : Nat) : Int) = 0 from rfl] at this
  rw [this]
  have e : (start (grows l sp) l).length = l.length := by simp [start]
  have := opens_le (start (grows l sp) l)
  rw [b_l17 (g := grows l sp) hs hn rfl n (start (grows l sp) l) _ _ (by omega) (start_ok _ _) (rf0 _ _) (by omega), e]
  rfl
end Rs
end Go.Proofs.Ytlpndemhnpajiaa

/- FlexFills, plain: true of all bases, factors and spaces. -/
import Derived.Test.YtlpndemhnpajiaaSeQResC
import Derived.Test.YtlpndemhnpajiaaSeQMix
import Derived.Test.YtlpndemhnpajiaaSeGop
namespace Go.Proofs.Ytlpndemhnpajiaa.QFlexFills
set_option linter.all false
open Go.RowKit
open QSort (wn chk_inb iteT iteF sb)
open Rs
open Sh (share wts lim mx sm_nn sm_le)
variable {K : Kn} {n : Nat}
def U16 (L : List Int) : Prop := ∀ x ∈ L, 0 ≤ x ∧ x ≤ 65535
theorem U16.at {L : List Int} (h : U16 L) {k : Nat} (hk : k < L.length) : 0 ≤ L.getD k default ∧ L.getD k default ≤ 65535 := h _ (by rw [getD_get hk]; exact List.getElem_mem _)
def item (b f : Int) : TFlexItem := ⟨b, f, 1000, 0, 1048576⟩
def its (B F : List Int) : List TFlexItem := tab B.length fun k => item (B.getD k default) (F.getD k default)
theorem nrm_item {b f : Int} (hb : 0 ≤ b ∧ b ≤ 65535) (hf : 0 ≤ f ∧ f ≤ 65535) : nrm (item b f) = item b f := by
  unfold nrm item Sh.lim
  congr 1 <;> simp only [] <;> omega
theorem hyp_item {b f : Int} (hb : 0 ≤ b ∧ b ≤ 65535) (hf : 0 ≤ f ∧ f ≤ 65535) : hyp (item b f) = b := by
  unfold hyp; rw [nrm_item hb hf]; unfold cl item; simp only []; omega
theorem sm_tab (f g : Nat → Int) : ∀ n, (∀ k, k < n → f k = g k) → sm (tab n f) = sm (tab n g)
  | 0, _ => rfl
  | n + 1, h => by rw [tab_succ, tab_succ, sm_app, sm_app, sm_tab f g n (fun k hk => h k (by omega)), h n (by omega)]
theorem tab_getD (L : List Int) : tab L.length (fun k => L.getD k default) = L := tab_ext (tab_len _ _) (fun k hk => tab_at hk)
theorem sm_tab_add (f g : Nat → Int) : ∀ n, sm (tab n fun k => f k + g k) = sm (tab n f) + sm (tab n g)
  | 0 => rfl
  | n + 1 => by rw [tab_succ, tab_succ, tab_succ, sm_app, sm_app, sm_app, sm_tab_add f g n]; simp only [sm]; omega
theorem sm_tab_sub (f g : Nat → Int) : ∀ n, sm (tab n fun k => f k - g k) = sm (tab n f) - sm (tab n g)
  | 0 => rfl
  | n + 1 => by rw [tab_succ, tab_succ, tab_succ, sm_app, sm_app, sm_app, sm_tab_sub f g n]; simp only [sm]; omega
theorem sm_tab_zero (f : Nat → Int) : ∀ n, (∀ k, k < n → f k = 0) → sm (tab n f) = 0
  | 0, _ => rfl
  | n + 1, h => by rw [tab_succ, sm_app, sm_tab_zero f n (fun k hk => h k (by omega))]; simp only [sm, h n (by omega)]; omega
theorem map_tab {α β : Type} (f : α → β) (g : Nat → α) (n : Nat) : (tab n g).map f = tab n fun k => f (g k) := by simp [tab]
theorem tab_congr {α : Type} (f g : Nat → α) (n : Nat) (h : ∀ k, k < n → f k = g k) : tab n f = tab n g := by
  unfold tab
  exact List.map_congr_left (fun k hk => h k (List.mem_range.1 hk))
/-- the model's state at the beginning -/
theorem start_its {B F : List Int} (hB : U16 B) (hF : U16 F) (hl : B.length ≤ F.length) (g : Bool) : Rs.start g (its B F) = tab B.length fun k => (item (B.getD k default) (F.getD k default), if g = true ∧ F.getD k default = 0 then some (B.getD k default) else none) := by
  unfold Rs.start its
  rw [map_tab]
  refine tab_congr _ _ _ (fun k hk => ?_)
  have b := hB.at hk; have f := hF.at (show k < F.length by omega)
  rw [nrm_item b f, hyp_item b f]
  congr 1
  unfold fix0 item
  cases g
  · simp
  · simp only [if_true, true_and]
    by_cases hz : F.getD k default = 0
    · rw [if_pos (by rw [decide_eq_true_eq]; exact .inl hz), if_pos hz]
    · rw [if_neg (by rw [decide_eq_true_eq]; omega), if_neg hz]
/-- zero weights get nothing -/
theorem share_w0 {T : Int} {W : List Int} {k : Nat} (hk : k < W.length) (h : W.getD k default = 0) : (share T W).getD k default = 0 := by
  by_cases hS : sm W = 0
  · rw [Sh.share_nil hS, getD_get (by simpa using hk), List.getElem_replicate]
  · rw [Sh.share_at hS hk]
    unfold Sh.part
    rw [h, q_zero, if_neg]; simp
    unfold Sh.win
    rw [h, r_zero]; omega
/-- one round in which nothing is limited -/
theorem calm (g : Bool) (sp : Int) (M : List It) (h : ∀ k, k < M.length → (M.getD k default).2.isSome = false → cl (M.getD k default).1 (ns g (M.getD k default).1 ((parts g sp M).getD k default)) = ns g (M.getD k default).1 ((parts g sp M).getD k default))
    (h2 : ∀ k, k < M.length → ∀ z, (M.getD k default).2 = some z → z = ns g (M.getD k default).1 ((parts g sp M).getD k default)) :
    sizes (run g sp M.length M) = tab M.length fun k => ns g (M.getD k default).1 ((parts g sp M).getD k default) := by
  have hc : change g sp M = 0 := by
    have e : List.zipWith (dif g) M (parts g sp M) = tab M.length fun k => dif g (M.getD k default) ((parts g sp M).getD k default) := by
      refine tab_ext (by rw [List.length_zipWith, parts_len, tab_len]; omega) (fun k hk => ?_)
      rw [tab_len] at hk
      rw [tab_at hk, getD_get (by rw [List.length_zipWith, parts_len]; omega), List.getElem_zipWith, getD_get hk, getD_get (by rw [parts_len]; exact hk)]
    unfold change
    rw [e]
    refine sm_tab_zero _ _ (fun k hk => ?_)
    unfold dif
    split
    · rfl
    · rename_i hs
      rw [h k hk (by simpa using hs)]; omega
  have hr : ∀ k, k < M.length → ((round g sp M).getD k default).2 = some (ns g (M.getD k default).1 ((parts g sp M).getD k default)) := by
    intro k hk
    rw [getD_get (by rw [round_len]; exact hk), round_at g sp M hk, ← getD_get hk, hc]
    unfold step1
    cases hx : (M.getD k default).2 with
    | some z =>
      simp only [Option.isSome_some, if_true]
      rw [hx, h2 k hk z hx]
    | none =>
      simp only [Option.isSome_none, Bool.false_eq_true, if_false]
      rw [if_pos (by unfold fixq; simp), h k hk (by rw [hx]; rfl)]
  have ho : opens (round g sp M) = 0 := by
    unfold opens
    rw [List.countP_eq_zero]
    intro p hp
    obtain ⟨k, hk, e⟩ := List.getElem_of_mem hp
    have hk2 : k < M.length := by rw [round_len] at hk; exact hk
    have := hr k hk2
    rw [getD_get hk, e] at this
    rw [this]; simp
  have e1 : run g sp (M.length + 1) M = if opens M = 0 then M else round g sp M := by
    rw [run]; split
    · rfl
    · rw [run_zero ho]
  have ol := opens_le M
  rw [run_more M.length (M.length + 1) M (by omega) (by omega), e1]
  refine tab_ext (by split <;> simp [sizes, tab, round_len]) (fun k hk => ?_)
  rw [tab_len] at hk
  rw [tab_at hk]
  split
  · rename_i hz
    have hs := List.countP_eq_zero.1 hz (M.getD k default) (by rw [getD_get hk]; exact List.getElem_mem _)
    have e : (sizes M).getD k default = (M.getD k default).2.getD 0 := by rw [getD_get (by simpa [sizes] using hk), getD_get hk]; simp [sizes]
    rw [e]
    cases hx : (M.getD k default).2 with
    | none => rw [hx] at hs; simp at hs
    | some z => rw [← h2 k hk z hx]; rfl
  · have e : (sizes (round g sp M)).getD k default = ((round g sp M).getD k default).2.getD 0 := by rw [getD_get (by simpa [sizes, round_len] using hk), getD_get (by rw [round_len]; exact hk)]; simp [sizes]
    rw [e, hr k hk]; rfl
/-- what the law asks of the sizes -/
structure Good (B F : List Int) (sp : Int) (Z : List Int) : Prop where
  len : Z.length = B.length
  up : sm B < sp → ∀ k, k < B.length → B.getD k default ≤ Z.getD k default
  down : sp ≤ sm B → ∀ k, k < B.length → Z.getD k default ≤ B.getD k default
  nn : ∀ k, k < B.length → 0 ≤ Z.getD k default ∧ Z.getD k default ≤ 1048576
  le : sm B < sp → sm (F.take B.length) < 1000 → sm Z ≤ sp
  eq : (sm B < sp → 1000 ≤ sm (F.take B.length)) → sm Z = sp
theorem fills {B F : List Int} (hB : U16 B) (hF : U16 F) (hl : B.length ≤ F.length) (h20 : B.length ≤ 20) (h0 : 0 < B.length) {sp : Int} (hsp : 0 ≤ sp ∧ sp ≤ 65535) : Good B F sp (Rs.resolve (its B F) sp) := by
  have il : (its B F).length = B.length := by simp [its, tab]
  have hyps : (its B F).map hyp = B := by
    unfold its
    rw [map_tab]
    conv => rhs; rw [← tab_getD B]
    exact tab_congr _ _ _ (fun k hk => hyp_item (hB.at hk) (hF.at (by omega)))
  have smB : 0 ≤ sm B ∧ sm B ≤ 20 * 65535 := by
    refine ⟨sm_nn _ (fun x hx => (hB x hx).1), ?_⟩
    have := sm_le (c := 65535) B (fun x hx => (hB x hx).2); omega
  have hg : grows (its B F) sp = decide (sm B < sp) := by unfold grows; rw [hyps]
  have hS := start_its hB hF hl (grows (its B F) sp)
  have ml : (Rs.start (grows (its B F) sp) (its B F)).length = B.length := by rw [hS, tab_len]
  have hok := start_ok (grows (its B F) sp) (its B F)
  have at1 : ∀ k, k < B.length → (Rs.start (grows (its B F) sp) (its B F)).getD k default = (item (B.getD k default) (F.getD k default), if grows (its B F) sp = true ∧ F.getD k default = 0 then some (B.getD k default) else none) := fun k hk => by rw [hS]; exact tab_at hk
  have eocc : (Rs.start (grows (its B F) sp) (its B F)).map occ = B := by
    rw [hS, map_tab]
    conv => rhs; rw [← tab_getD B]
    refine tab_congr _ _ _ (fun k hk => ?_)
    unfold occ
    dsimp only
    split <;> rfl
  unfold Rs.resolve
  generalize hM : Rs.start (grows (its B F) sp) (its B F) = M at *
  generalize hgg : grows (its B F) sp = g at *
  rw [il]
  have Flen : (F.take B.length).length = B.length := by simp; omega
  have Fat : ∀ k, k < B.length → (F.take B.length).getD k default = F.getD k default := fun k hk => by
    rw [getD_get (by omega), getD_get (by omega : k < F.length)]; simp
  cases hgb : g with
  | true =>
    subst hgb
    have hlt : sm B < sp := by simpa using hg.symm
    have efac : M.map (fun p => if p.2.isSome = true then 0 else fac true p.1) = F.take B.length := by
      rw [hS, map_tab]
      refine tab_ext (by rw [tab_len, Flen]) (fun k hk => ?_)
      rw [Flen] at hk
      rw [tab_at hk, Fat k hk]
      by_cases hz : F.getD k default = 0
      · simp only [hz, and_self, if_true, Option.isSome_some]
      · simp only [hz, and_false, if_false, Option.isSome_none, Bool.false_eq_true]; rfl
    have ew : zo (M.map (opw true)) = F.take B.length := by
      rw [hS, map_tab]
      unfold zo
      rw [map_tab]
      refine tab_ext (by rw [tab_len, Flen]) (fun k hk => ?_)
      rw [Flen] at hk
      rw [tab_at hk, Fat k hk]
      unfold opw
      by_cases hz : F.getD k default = 0
      · simp only [hz, and_self, if_true, Option.isSome_some]; rfl
      · simp only [hz, and_false, if_false, Option.isSome_none, Bool.false_eq_true]; rfl
    have smF : 0 ≤ sm (F.take B.length) ∧ sm (F.take B.length) ≤ 20 * 65535 := by
      have hm : ∀ x ∈ F.take B.length, 0 ≤ x ∧ x ≤ 65535 := fun x hx => hF x (List.mem_of_mem_take hx)
      refine ⟨sm_nn _ (fun x hx => (hm x hx).1), ?_⟩
      have := sm_le (c := 65535) _ (fun x hx => (hm x hx).2); omega
    have eroom : room true sp M = sp - sm B := by unfold room; rw [eocc]; simp only [if_true]; omega
    have efacs : facs true M = sm (F.take B.length) := by unfold facs; rw [efac]
    have hneed : 0 ≤ need true sp M ∧ need true sp M ≤ sp - sm B ∧ (1000 ≤ sm (F.take B.length) → need true sp M = sp - sm B) := by
      unfold need
      rw [eroom, efacs]
      have h1 : 0 ≤ (sp - sm B) * sm (F.take B.length) := Int.mul_nonneg (by omega) smF.1
      split
      · have h2 : (sp - sm B) * sm (F.take B.length) ≤ (sp - sm B) * 1000 := Int.mul_le_mul_of_nonneg_left (by omega) (by omega)
        omega
      · omega
    have ewts : wts (F.take B.length) = F.take B.length := wts_id (fun w hw => by have := hF w (List.mem_of_mem_take hw); omega)
    have elim : lim (need true sp M) mx = need true sp M := by unfold Sh.lim Sh.mx; omega
    have eP : parts true sp M = share (need true sp M) (F.take B.length) := by unfold parts; rw [ew, ewts, elim]
    have hP : ∀ k, k < B.length → 0 ≤ (parts true sp M).getD k default ∧ (parts true sp M).getD k default ≤ 65536 := fun k hk => by
      rw [eP]
      have := share_bd (T := need true sp M) (W := F.take B.length) (fun w hw => (hF w (List.mem_of_mem_take hw)).1) hneed.1 (k := k) (by omega)
      omega
    have ens : ∀ k, k < B.length → ns true (M.getD k default).1 ((parts true sp M).getD k default) = B.getD k default + (parts true sp M).getD k default := fun k hk => by rw [at1 k hk]; rfl
    have hsz := calm true sp M (fun k hk hs => by
      rw [ml] at hk
      rw [ens k hk, at1 k hk]
      have := hP k hk; have := hB.at hk
      unfold cl item; dsimp only; omega) (fun k hk z hz => by
      rw [ml] at hk
      rw [ens k hk]
      rw [at1 k hk] at hz
      dsimp only at hz
      split at hz
      · rename_i hh
        injection hz with hz
        rw [eP, share_w0 (by omega) (by rw [Fat k hk]; exact hh.2)]; omega
      · cases hz)
    rw [ml] at hsz
    rw [hsz]
    have zat : ∀ k, k < B.length → (tab B.length fun k => ns true (M.getD k default).1 ((parts true sp M).getD k default)).getD k default = B.getD k default + (parts true sp M).getD k default := fun k hk => by rw [tab_at hk, ens k hk]
    have zsum : sm (tab B.length fun k => ns true (M.getD k default).1 ((parts true sp M).getD k default)) = sm B + sm (parts true sp M) := by
      rw [sm_tab _ (fun k => B.getD k default + (parts true sp M).getD k default) _ ens, sm_tab_add, tab_getD]
      have : B.length = (parts true sp M).length := by rw [parts_len, ml]
      rw [this, tab_getD]
    have psum : sm (parts true sp M) = if sm (F.take B.length) = 0 then 0 else need true sp M := by
      rw [eP]
      split
      · rename_i hz; rw [Sh.share_nil hz, Sh.sm_rep]
      · rename_i hz; exact Sh.share_sum (fun w hw => (hF w (List.mem_of_mem_take hw)).1) hz (by omega)
    refine ⟨tab_len _ _, fun _ k hk => ?_, fun h => by omega, fun k hk => ?_, fun _ hf => ?_, fun h => ?_⟩
    · rw [zat k hk]; have := hP k hk; omega
    · rw [zat k hk]; have := hP k hk; have := hB.at hk; omega
    · rw [zsum, psum]; split <;> omega
    · have h3 := h hlt
      rw [zsum, psum, if_neg (by omega)]
      have := hneed.2.2 h3; omega
  | false =>
    subst hgb
    have hge : sp ≤ sm B := by
      have : ¬ sm B < sp := by simpa using hg.symm
      omega
    have none2 : ∀ k, k < B.length → (M.getD k default).2 = none := fun k hk => by rw [at1 k hk]; simp
    have efac : facs false M = 1000 * B.length := by
      unfold facs
      rw [hS, map_tab]
      have : ∀ n : Nat, sm (tab n fun k => (1000 : Int)) = 1000 * n := by
        intro n
        induction n with
        | zero => rfl
        | succ n ih => rw [tab_succ, sm_app, ih]; simp only [sm]; omega
      rw [← this]
      refine sm_tab _ _ _ (fun k hk => ?_)
      simp only [Bool.false_eq_true, false_and, if_false, Option.isSome_none]; rfl
    have ew : zo (M.map (opw false)) = B := by
      rw [hS, map_tab]
      unfold zo
      rw [map_tab]
      refine tab_ext (by rw [tab_len]) (fun k hk => ?_)
      rw [tab_at hk]
      unfold opw
      simp only [Bool.false_eq_true, false_and, if_false, Option.isSome_none]
      show B.getD k default * 1000 / 1000 = _
      exact Int.mul_ediv_cancel _ (by omega)
    have eroom : room false sp M = sm B - sp := by unfold room; rw [eocc]; simp only [Bool.false_eq_true, if_false]; omega
    have hneed : need false sp M = sm B - sp := by unfold need; rw [eroom, efac, if_neg (by omega)]
    have ewts : wts B = B := wts_id (fun w hw => by have := hB w hw; omega)
    have elim : lim (need false sp M) mx = need false sp M := by unfold Sh.lim Sh.mx; omega
    have eP : parts false sp M = share (need false sp M) B := by unfold parts; rw [ew, ewts, elim]
    have hP : ∀ k, k < B.length → 0 ≤ (parts false sp M).getD k default ∧ (parts false sp M).getD k default ≤ B.getD k default := fun k hk => by
      rw [eP]
      have hb := hB.at hk
      by_cases hS0 : sm B = 0
      · rw [Sh.share_nil hS0, getD_get (by simpa using hk), List.getElem_replicate]; omega
      · rw [Sh.share_at hS0 hk]
        have h1 := Sh.part_bd (T := need false sp M) (fun w hw => (hB w hw).1) (by omega) (by omega) hk
        refine ⟨h1.1, ?_⟩
        have h2 := (Sh.part_close (T := need false sp M) (W := B) (by omega) k).1
        have h3 : need false sp M * B.getD k default ≤ sm B * B.getD k default := Int.mul_le_mul_of_nonneg_right (by omega) hb.1
        have h4 : Sh.part (need false sp M) B k * sm B < (B.getD k default + 1) * sm B := by
          rw [Int.add_mul, Int.one_mul, Int.mul_comm (B.getD k default)]; omega
        have := Int.lt_of_mul_lt_mul_right h4 (by omega)
        omega
    have ens : ∀ k, k < B.length → ns false (M.getD k default).1 ((parts false sp M).getD k default) = B.getD k default - (parts false sp M).getD k default := fun k hk => by rw [at1 k hk]; rfl
    have hsz := calm false sp M (fun k hk hs => by
      rw [ml] at hk
      rw [ens k hk, at1 k hk]
      have := hP k hk; have := hB.at hk
      unfold cl item; dsimp only; omega) (fun k hk z hz => by
      rw [ml] at hk
      rw [none2 k hk] at hz; cases hz)
    rw [ml] at hsz
    rw [hsz]
    have zat : ∀ k, k < B.length → (tab B.length fun k => ns false (M.getD k default).1 ((parts false sp M).getD k default)).getD k default = B.getD k default - (parts false sp M).getD k default := fun k hk => by rw [tab_at hk, ens k hk]
    have zsum : sm (tab B.length fun k => ns false (M.getD k default).1 ((parts false sp M).getD k default)) = sm B - sm (parts false sp M) := by
      rw [sm_tab _ (fun k => B.getD k default - (parts false sp M).getD k default) _ ens, sm_tab_sub, tab_getD]
      have : B.length = (parts false sp M).length := by rw [parts_len, ml]
      rw [this, tab_getD]
    have psum : sm (parts false sp M) = if sm B = 0 then 0 else need false sp M := by
      rw [eP]
      split
      · rename_i hz; rw [Sh.share_nil hz, Sh.sm_rep]
      · rename_i hz; exact Sh.share_sum (fun w hw => (hB w hw).1) hz (by omega)
    refine ⟨tab_len _ _, fun h => by omega, fun _ k hk => ?_, fun k hk => ?_, fun h => by omega, fun _ => ?_⟩
    · rw [zat k hk]; have := hP k hk; omega
    · rw [zat k hk]; have := hP k hk; have := hB.at hk; omega
    · rw [zsum, psum]; split <;> omega
theorem u16w {L : List Int} (h : U16 L) {k : Nat} (hk : k < L.length) : w64 (L.getD k default) = L.getD k default := by have := h.at hk; exact w64_id (by omega) (by omega)
theorem check {B F Z : List Int} (hB : U16 B) {sp : Int} (hsp : 0 ≤ sp ∧ sp ≤ 65535) (hG : Good B F sp Z) (h20 : B.length ≤ 20) (hn : 30 < n) : ∀ (m i : Nat), i ≤ B.length → B.length < m + i → g_law19_FlexFills_l4 K n B sp (sm B) (sm (F.take B.length)) Z m (i : Int) = some true := by
  intro m
  induction m with
  | zero => intro i h1 h2; omega
  | succ m ih =>
    intro i h1 h2
    simp only [g_law19_FlexFills_l4, g_law19_FlexFills_l4_b, hG.len, w64_id (show -9223372036854775808 ≤ sp by omega) (by omega)]
    by_cases hi : i < B.length
    · have hz := hG.nn i hi
      have ewi : w64 ((i : Int) + 1) = ((i + 1 : Nat) : Int) := wn (by omega) (by omega)
      have fin := ih (i + 1) (by omega) (by omega)
      have d0 : decide (Z.getD i default < 0) = false := by rw [decide_eq_false_iff_not]; omega
      rw [iteT (by omega)]
      simp only [chk_inb (show (0 : Int) ≤ (i : Int) ∧ (i : Int) < (B.length : Nat) by omega), tnat, g_law19_FlexFills_j3, ewi, u16w hB hi, d0, fin]
      by_cases hc : sm B < sp
      · have := hG.up hc i hi
        rw [iteT hc, iteF (show ¬ Z.getD i default < B.getD i default by omega), iteF (show ¬ sm B ≥ sp by omega)]; rfl
      · have := hG.down (by omega) i hi
        rw [iteF hc, iteT (show sm B ≥ sp by omega), iteF (show ¬ Z.getD i default > B.getD i default by omega)]; rfl
    · rw [iteF (by omega)]
      have hs := sum_ok K Z (B := 1048576) (by omega) (fun x hx => by
        obtain ⟨k, hk, e⟩ := QSort.mem_at hx
        unfold QSort.at_ at e
        have := hG.nn k (by rw [← hG.len]; exact hk)
        omega) (by rw [hG.len]; omega) (by rw [hG.len]; omega) (n := n) (by rw [hG.len]; omega)
      simp only [g_law19_FlexFills_j5, hs, sb, w64_id (show -9223372036854775808 ≤ sp by omega) (by omega)]
      by_cases hc : sm B < sp
      · rw [iteT hc]
        by_cases hf : sm (F.take B.length) < 1000
        · rw [iteT hf]
          have := hG.le hc hf
          simpa using this
        · rw [iteF hf]
          have := hG.eq (fun _ => by omega)
          simpa using this
      · rw [iteF hc]
        have := hG.eq (fun h => absurd h hc)
        simp [this]
theorem build {B F : List Int} (lvl : Nat) (hB : U16 B) (hF : U16 F) (hl : B.length ≤ F.length) (h20 : B.length ≤ 20) (h0 : 0 < B.length) {sp : Int} (hsp : 0 ≤ sp ∧ sp ≤ 65535) (hn : 10001 < n) (hlv : 20010 ≤ lvl) : ∀ (m i : Nat), i ≤ B.length → B.length < m + i →
    g_law19_FlexFills_l2 (KN lvl) n B F sp m (sm (B.take i)) (sm (F.take i)) (i : Int) (tab i fun k => item (B.getD k default) (F.getD k default)) = some true := by
  intro m
  induction m with
  | zero => intro i h1 h2; omega
  | succ m ih =>
    intro i h1 h2
    simp only [g_law19_FlexFills_l2, g_law19_FlexFills_l2_b]
    by_cases hi : i < B.length
    · have hb := hB.at hi
      have hf := hF.at (show i < F.length by omega)
      have e1 : sm (B.take (i + 1)) = sm (B.take i) + B.getD i default := Sh.sm_take_succ hi
      have e2 : sm (F.take (i + 1)) = sm (F.take i) + F.getD i default := Sh.sm_take_succ (by omega)
      have b1 : ∀ L : List Int, U16 L → ∀ j, j ≤ 20 → 0 ≤ sm (L.take j) ∧ sm (L.take j) ≤ 20 * 65535 := fun L hL j hj => by
        have hm : ∀ x ∈ L.take j, 0 ≤ x ∧ x ≤ 65535 := fun x hx => hL x (List.mem_of_mem_take hx)
        refine ⟨sm_nn _ (fun x hx => (hm x hx).1), ?_⟩
        have := sm_le (c := 65535) _ (fun x hx => (hm x hx).2)
        have h3 : (L.take j).length ≤ 20 := by simp; omega
        omega
      have c1 := b1 B hB i (by omega); have c2 := b1 F hF i (by omega)
      have ewi : w64 ((i : Int) + 1) = ((i + 1 : Nat) : Int) := wn (by omega) (by omega)
      have fin := ih (i + 1) (by omega) (by omega)
      rw [tab_succ] at fin
      rw [iteT (by omega)]
      simp only [chk_inb (show (0 : Int) ≤ (i : Int) ∧ (i : Int) < (B.length : Nat) by omega), chk_inb (show (0 : Int) ≤ (i : Int) ∧ (i : Int) < (F.length : Nat) by omega), tnat, ewi, u16w hB hi, u16w hF (show i < F.length by omega), sb, tab_len]
      rw [fits_ok (by simp only [List.length_cons, List.length_nil]; omega) (by omega) (by omega), chk_true, w64_id (by omega) (by omega), w64_id (by omega) (by omega), ← e1, ← e2]
      exact fin
    · obtain rfl : i = B.length := by omega
      rw [iteF (by omega), List.take_of_length_le (Nat.le_refl _)]
      have il : (its B F).length = B.length := by simp [its, tab]
      have e : (tab B.length fun k => item (B.getD k default) (F.getD k default)) = its B F := rfl
      rw [e, w64_id (show -9223372036854775808 ≤ sp by omega) (by omega), flex_ok (its B F) (by omega) (by omega) hn hlv, sb, if_neg (by rw [resolve_len]; simp)]
      exact check hB hsp (fills hB hF hl h20 h0 hsp) h20 (by omega) n 0 (by omega) (by omega)
theorem u16_of {L : List Int} (h : HasT Try.prog 31 ((eSl (eInt .u16)) L)) : U16 L := by
  intro x hx
  obtain ⟨l, e, _, _, hh⟩ := h.sl_inv Try.underlying31
  injection e with e _; injection e with e
  have hm : (eInt .u16) x ∈ l := by rw [← e]; exact List.mem_map_of_mem hx
  obtain ⟨k, e2, hr⟩ := (hh _ hm).int_inv Try.underlying32
  injection e2 with e2 _; injection e2 with _ e2; subst e2
  simpa [Lit.wf, IntKind.min, IntKind.max, IntKind.signed, IntKind.bits] using hr
theorem holds (x0 : (List Int)) (x1 : (List Int)) (x2 : Int) (h0 : HasT Try.prog 31 ((eSl (eInt .u16)) x0)) (h1 : HasT Try.prog 31 ((eSl (eInt .u16)) x1)) (h2 : HasT Try.prog 32 ((eInt .u16) x2)) : ∃ n, g_law19_FlexFills (KN n) n x0 x1 x2 = some true := by
  refine ⟨20010, ?_⟩
  unfold g_law19_FlexFills
  rw [fit_ok' (by omega)]
  have hs : 0 ≤ x2 ∧ x2 ≤ 65535 := by
    obtain ⟨k, e2, hr⟩ := h2.int_inv Try.underlying32
    injection e2 with e2 _; injection e2 with _ e2; subst e2
    simpa [Lit.wf, IntKind.min, IntKind.max, IntKind.signed, IntKind.bits] using hr
  simp only [Option.bind_some, Bool.not_true, Bool.false_eq_true, if_false, g_law19_FlexFills_j1]
  by_cases hc : (x0.length : Int) > 20
  · rw [iteT hc]; rfl
  · rw [iteF hc]
    by_cases hc2 : (x1.length : Int) < (x0.length : Int)
    · rw [iteT hc2]; rfl
    · rw [iteF hc2]
      by_cases hz : x0.length = 0
      · rw [if_pos (by simp [hz])]
      · rw [if_neg (by rw [beq_iff_eq]; omega)]
        exact build 20010 (u16_of h0) (u16_of h1) (by omega) (by omega) (by omega) hs (by omega) (by omega) 20010 0 (by omega) (by omega)
end Go.Proofs.Ytlpndemhnpajiaa.QFlexFills

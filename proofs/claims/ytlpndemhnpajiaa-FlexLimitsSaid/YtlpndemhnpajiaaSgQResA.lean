/- Sizes of flex items, as plain lists: rounds in which what is left is shared among the items that are not fixed. No program in sight. -/
import Derived.Test.YtlpndemhnpajiaaSgQShareC
namespace Go.Proofs.Ytlpndemhnpajiaa
set_option linter.all false
open Go.RowKit
namespace Rs
open Sh (share wts lim mx q r left win part)
/-! Weights of 0 get nothing and change nothing. -/
def aux (T S l : Int) : List Int → List Int → List Int
  | _, [] => []
  | A, w :: B => (q T S w + if 0 < r T S w ∧ ((A.countP (fun x => decide (r T S w ≤ r T S x)) + B.countP (fun x => decide (r T S w < r T S x)) : Nat) : Int) < l then 1 else 0) :: aux T S l (A ++ [w]) B
theorem aux_len (T S l : Int) : ∀ (B A : List Int), (aux T S l A B).length = B.length
  | [], A => rfl
  | w :: B, A => by simp [aux, aux_len T S l B]
theorem aux_at (T S l : Int) : ∀ (B A : List Int) (k : Nat), k < B.length → (aux T S l A B).getD k default = q T S (B.getD k default) + if 0 < r T S (B.getD k default) ∧ (((A ++ B.take k).countP (fun x => decide (r T S (B.getD k default) ≤ r T S x)) + (B.drop (k + 1)).countP (fun x => decide (r T S (B.getD k default) < r T S x)) : Nat) : Int) < l then 1 else 0
  | [], A, k, h => by simp at h
  | w :: B, A, 0, h => by simp [aux]
  | w :: B, A, k + 1, h => by
    have := aux_at T S l B (A ++ [w]) k (by simpa using h)
    simp only [aux, List.getD_cons_succ, this, List.take_succ_cons, List.drop_succ_cons, List.append_assoc, List.singleton_append]
theorem share_aux (T : Int) (W : List Int) (hS : sm W ≠ 0) : share T W = aux T (sm W) (left T W) [] W := by
  refine List.ext_getElem (by rw [Sh.share_len, aux_len]) (fun k h1 h2 => ?_)
  have hk : k < W.length := by rw [Sh.share_len] at h1; exact h1
  rw [← getD_get h1, ← getD_get h2, Sh.share_at hS hk, aux_at _ _ _ _ _ _ hk]
  rfl
def zo (ws : List (Option Int)) : List Int := ws.map fun o => o.getD 0
def op (ws : List (Option Int)) : List Int := ws.filterMap id
/-- what stands where there is a weight -/
def pick : List (Option Int) → List Int → List Int
  | some _ :: ws, p :: P => p :: pick ws P
  | none :: ws, _ :: P => pick ws P
  | _, _ => []
theorem sm_zo : ∀ ws : List (Option Int), sm (zo ws) = sm (op ws)
  | [] => rfl
  | some w :: ws => by have := sm_zo ws; simp only [zo, op] at *; simp [sm, this]
  | none :: ws => by have := sm_zo ws; simp only [zo, op] at *; simp [sm, this]
theorem q_zero (T S : Int) : q T S 0 = 0 := by simp [q]
theorem r_zero (T S : Int) : r T S 0 = 0 := by simp [r]
theorem sm_q_zo (T S : Int) : ∀ ws : List (Option Int), sm ((zo ws).map (q T S)) = sm ((op ws).map (q T S))
  | [] => rfl
  | some w :: ws => by
    have := sm_q_zo T S ws
    have e1 : zo (some w :: ws) = w :: zo ws := rfl
    have e2 : op (some w :: ws) = w :: op ws := rfl
    rw [e1, e2, List.map_cons, List.map_cons, sm, sm, this]
  | none :: ws => by
    have := sm_q_zo T S ws
    have e1 : zo (none :: ws) = 0 :: zo ws := rfl
    have e2 : op (none :: ws) = op ws := rfl
    rw [e1, e2, List.map_cons, sm, this, q_zero]; omega
theorem count_zo (p : Int → Bool) (hp : p 0 = false) : ∀ ws : List (Option Int), (zo ws).countP p = (op ws).countP p
  | [] => rfl
  | some w :: ws => by have := count_zo p hp ws; simp only [zo, op] at *; simp [List.countP_cons, this]
  | none :: ws => by have := count_zo p hp ws; simp only [zo, op] at *; simp [List.countP_cons, this, hp]
theorem pick_aux (T S l : Int) : ∀ (ws : List (Option Int)) (A A' : List Int), (∀ x, 0 < x → A.countP (fun y => decide (x ≤ r T S y)) = A'.countP (fun y => decide (x ≤ r T S y))) →
    pick ws (aux T S l A (zo ws)) = aux T S l A' (op ws)
  | [], A, A', h => rfl
  | some w :: ws, A, A', h => by
    have ih := pick_aux T S l ws (A ++ [w]) (A' ++ [w]) (fun x hx => by rw [List.countP_append, List.countP_append, h x hx])
    have e1 : zo (some w :: ws) = w :: zo ws := rfl
    have e2 : op (some w :: ws) = w :: op ws := rfl
    rw [e1, e2]
    simp only [aux, pick, ih]
    congr 2
    by_cases hr : 0 < r T S w
    · rw [h _ hr, count_zo _ (by simp [r_zero]; omega)]
    · rw [if_neg (fun hh => hr hh.1), if_neg (fun hh => hr hh.1)]
  | none :: ws, A, A', h => by
    have ih := pick_aux T S l ws (A ++ [0]) A' (fun x hx => by
      rw [List.countP_append, h x hx]; simp [r_zero]; omega)
    have e1 : zo (none :: ws) = 0 :: zo ws := rfl
    have e2 : op (none :: ws) = op ws := rfl
    rw [e1, e2]
    simp only [aux, pick, ih]
theorem pick_rep : ∀ ws : List (Option Int), pick ws (List.replicate ws.length 0) = List.replicate (op ws).length 0
  | [] => rfl
  | some w :: ws => by simp [pick, op, List.replicate_succ]; exact pick_rep ws
  | none :: ws => by simp [pick, op, List.replicate_succ]; exact pick_rep ws
/-- sharing among the open ones alone -/
theorem share_open (T : Int) (ws : List (Option Int)) : pick ws (share T (zo ws)) = share T (op ws) := by
  by_cases hS : sm (zo ws) = 0
  · rw [Sh.share_nil hS, Sh.share_nil (by rw [← sm_zo]; exact hS)]
    have : (zo ws).length = ws.length := by simp [zo]
    rw [this]; exact pick_rep ws
  · rw [share_aux T _ hS, share_aux T _ (by rw [← sm_zo]; exact hS)]
    have e : left T (zo ws) = left T (op ws) := by unfold left; rw [sm_q_zo, sm_zo]
    rw [e, sm_zo]
    exact pick_aux T _ _ ws [] [] (fun _ _ => rfl)

/-! Items, some of which have their size. -/
def fac (g : Bool) (it : TFlexItem) : Int := if g = true then it.Grow else it.Shrink
def wgt (g : Bool) (it : TFlexItem) : Int := if g = true then it.Grow else it.Base * it.Shrink / 1000
abbrev It := TFlexItem × Option Int
def occ (p : It) : Int := p.2.getD p.1.Base
def opw (g : Bool) (p : It) : Option Int := if p.2.isSome = true then none else some (wgt g p.1)
def facs (g : Bool) (M : List It) : Int := sm (M.map fun p => if p.2.isSome = true then 0 else fac g p.1)
def room (g : Bool) (sp : Int) (M : List It) : Int := max (if g = true then sp - sm (M.map occ) else - (sp - sm (M.map occ))) 0
def need (g : Bool) (sp : Int) (M : List It) : Int := if facs g M < 1000 then room g sp M * facs g M / 1000 else room g sp M
def parts (g : Bool) (sp : Int) (M : List It) : List Int := share (lim (need g sp M) mx) (wts (zo (M.map (opw g))))
def ns (g : Bool) (it : TFlexItem) (p : Int) : Int := if g = true then it.Base + p else it.Base - p
def cl (it : TFlexItem) (n : Int) : Int := min (max n it.Min) it.Max
def dif (g : Bool) (p : It) (x : Int) : Int := if p.2.isSome = true then 0 else cl p.1 (ns g p.1 x) - ns g p.1 x
def change (g : Bool) (sp : Int) (M : List It) : Int := sm (List.zipWith (dif g) M (parts g sp M))
def fixq (c n l : Int) : Bool := decide (c = 0 ∨ (0 < c ∧ n < l) ∨ (c < 0 ∧ l < n))
def step1 (g : Bool) (c : Int) (p : It) (x : Int) : It := if p.2.isSome = true then p else if fixq c (ns g p.1 x) (cl p.1 (ns g p.1 x)) = true then (p.1, some (cl p.1 (ns g p.1 x))) else p
def round (g : Bool) (sp : Int) (M : List It) : List It := List.zipWith (step1 g (change g sp M)) M (parts g sp M)
def opens (M : List It) : Nat := M.countP fun p => !p.2.isSome
def run (g : Bool) (sp : Int) : Nat → List It → List It
  | 0, M => M
  | k + 1, M => if opens M = 0 then M else run g sp k (round g sp M)
def nrm (x : TFlexItem) : TFlexItem := ⟨lim x.Base 1048576, lim x.Grow 1048576, lim x.Shrink 1048576, lim x.Min 1048576, max (lim x.Max 1048576) (lim x.Min 1048576)⟩
def hyp (x : TFlexItem) : Int := cl (nrm x) (nrm x).Base
def grows (l : List TFlexItem) (sp : Int) : Bool := decide (sm (l.map hyp) < sp)
def fix0 (g : Bool) (it : TFlexItem) (s : Int) : Bool := if g = true then decide (it.Grow = 0 ∨ it.Base > s) else decide (it.Shrink = 0 ∨ it.Base < s)
def start (g : Bool) (l : List TFlexItem) : List It := l.map fun x => (nrm x, if fix0 g (nrm x) (hyp x) = true then some (hyp x) else none)
def sizes (M : List It) : List Int := M.map fun p => p.2.getD 0
/-- the sizes of the items of a line -/
def resolve (l : List TFlexItem) (sp : Int) : List Int := sizes (run (grows l sp) sp l.length (start (grows l sp) l))
/-- numbers in their ranges -/
structure Ok1 (p : It) : Prop where
  b : 0 ≤ p.1.Base ∧ p.1.Base ≤ 1048576
  g : 0 ≤ p.1.Grow ∧ p.1.Grow ≤ 1048576
  s : 0 ≤ p.1.Shrink ∧ p.1.Shrink ≤ 1048576
  l : 0 ≤ p.1.Min ∧ p.1.Min ≤ p.1.Max ∧ p.1.Max ≤ 1048576
  z : ∀ n, p.2 = some n → p.1.Min ≤ n ∧ n ≤ p.1.Max
def Ok (M : List It) : Prop := ∀ p ∈ M, Ok1 p
theorem lim_bd (n : Int) : 0 ≤ lim n 1048576 ∧ lim n 1048576 ≤ 1048576 := Sh.lim_bd (by omega)
theorem nrm_ok (x : TFlexItem) (o : Option Int) (h : o = none ∨ o = some (hyp x)) : Ok1 (nrm x, o) := by
  have a1 := lim_bd x.Base; have a2 := lim_bd x.Grow; have a3 := lim_bd x.Shrink; have a4 := lim_bd x.Min; have a5 := lim_bd x.Max
  refine ⟨a1, a2, a3, by simp only [nrm]; omega, fun n hn => ?_⟩
  rcases h with rfl | rfl
  · cases hn
  · injection hn with hn; subst hn
    simp only [hyp, cl, nrm]; omega
theorem start_ok (g : Bool) (l : List TFlexItem) : Ok (start g l) := by
  intro p hp
  obtain ⟨x, _, rfl⟩ := List.mem_map.1 hp
  refine nrm_ok x _ ?_
  split <;> simp
theorem cl_bd {p : It} (h : Ok1 p) (n : Int) : p.1.Min ≤ cl p.1 n ∧ cl p.1 n ≤ p.1.Max := by have := h.l; unfold cl; omega
theorem step_ok {g : Bool} {c : Int} {p : It} (h : Ok1 p) (x : Int) : Ok1 (step1 g c p x) := by
  unfold step1
  split
  · exact h
  · split
    · refine ⟨h.b, h.g, h.s, h.l, fun n hn => ?_⟩
      injection hn with hn; subst hn; exact cl_bd h _
    · exact h
theorem parts_len (g : Bool) (sp : Int) (M : List It) : (parts g sp M).length = M.length := by unfold parts; rw [Sh.share_len, Sh.wts_len]; simp [zo]
theorem round_len (g : Bool) (sp : Int) (M : List It) : (round g sp M).length = M.length := by unfold round; rw [List.length_zipWith, parts_len]; omega
theorem round_at (g : Bool) (sp : Int) (M : List It) {k : Nat} (hk : k < M.length) : (round g sp M)[k]'(by rw [round_len]; exact hk) = step1 g (change g sp M) M[k] ((parts g sp M).getD k default) := by
  unfold round
  rw [List.getElem_zipWith, getD_get (by rw [parts_len]; exact hk)]
theorem round_ok {g : Bool} {sp : Int} {M : List It} (h : Ok M) : Ok (round g sp M) := by
  intro p hp
  obtain ⟨k, hk, e⟩ := List.getElem_of_mem hp
  have hk2 : k < M.length := by rw [round_len] at hk; exact hk
  rw [round_at g sp M hk2] at e
  subst e
  exact step_ok (h _ (List.getElem_mem _)) _
theorem run_ok {g : Bool} {sp : Int} : ∀ (k : Nat) {M : List It}, Ok M → Ok (run g sp k M)
  | 0, M, h => h
  | k + 1, M, h => by
    unfold run
    split
    · exact h
    · exact run_ok k (round_ok h)
theorem run_len {g : Bool} {sp : Int} : ∀ (k : Nat) (M : List It), (run g sp k M).length = M.length
  | 0, M => rfl
  | k + 1, M => by
    unfold run
    split
    · rfl
    · rw [run_len k, round_len]
theorem resolve_len (l : List TFlexItem) (sp : Int) : (resolve l sp).length = l.length := by simp [resolve, sizes, run_len, start]
/-- in each round an item gets its size -/
theorem opens_zip (g : Bool) (c : Int) : ∀ (M : List It) (P : List Int), M.length = P.length → opens (List.zipWith (step1 g c) M P) ≤ opens M ∧
    ((∃ k, ∃ h : k < M.length, ∃ h2 : k < P.length, M[k].2.isSome = false ∧ fixq c (ns g M[k].1 P[k]) (cl M[k].1 (ns g M[k].1 P[k])) = true) → opens (List.zipWith (step1 g c) M P) < opens M)
  | [], P, _ => ⟨by simp [opens], fun ⟨k, h, _⟩ => by simp at h⟩
  | p :: M, [], h => by simp at h
  | p :: M, x :: P, h => by
    have ih := opens_zip g c M P (by simpa using h)
    have e1 : opens (p :: M) = opens M + (if (!p.2.isSome) = true then 1 else 0) := by simp [opens, List.countP_cons]
    have e2 : opens (List.zipWith (step1 g c) (p :: M) (x :: P)) = opens (List.zipWith (step1 g c) M P) + (if (!(step1 g c p x).2.isSome) = true then 1 else 0) := by simp [opens, List.countP_cons]
    have one : (if (!(step1 g c p x).2.isSome) = true then 1 else 0) ≤ (if (!p.2.isSome) = true then 1 else 0) := by
      unfold step1
      by_cases hs : p.2.isSome = true
      · rw [if_pos hs]; exact Nat.le_refl _
      · rw [if_neg hs]
        by_cases hf : fixq c (ns g p.1 x) (cl p.1 (ns g p.1 x)) = true
        · rw [if_pos hf]; simp
        · rw [if_neg hf]; exact Nat.le_refl _
    refine ⟨by rw [e1, e2]; omega, fun ⟨k, h1, h2, h3, h4⟩ => ?_⟩
    cases k with
    | zero =>
      simp only [List.getElem_cons_zero] at h3 h4
      have : (if (!(step1 g c p x).2.isSome) = true then 1 else 0) = 0 := by
        have : step1 g c p x = (p.1, some (cl p.1 (ns g p.1 x))) := by unfold step1; rw [if_neg (by rw [h3]; simp), if_pos h4]
        rw [this]; rfl
      rw [e1, e2, this, h3]; simp; omega
    | succ k =>
      simp only [List.getElem_cons_succ] at h3 h4
      have := ih.2 ⟨k, by simpa using h1, by simpa using h2, h3, h4⟩
      rw [e1, e2]; omega
theorem sm_pos : ∀ L : List Int, 0 < sm L → ∃ k, ∃ h : k < L.length, 0 < L[k]
  | [], h => by simp [sm] at h
  | x :: L, h => by
    simp only [sm] at h
    by_cases hx : 0 < x
    · exact ⟨0, by simp, hx⟩
    · obtain ⟨k, hk, h2⟩ := sm_pos L (by omega)
      exact ⟨k + 1, by simpa using hk, by simpa using h2⟩
theorem sm_neg : ∀ L : List Int, sm L < 0 → ∃ k, ∃ h : k < L.length, L[k] < 0
  | [], h => by simp [sm] at h
  | x :: L, h => by
    simp only [sm] at h
    by_cases hx : x < 0
    · exact ⟨0, by simp, hx⟩
    · obtain ⟨k, hk, h2⟩ := sm_neg L (by omega)
      exact ⟨k + 1, by simpa using hk, by simpa using h2⟩
theorem round_opens {g : Bool} {sp : Int} {M : List It} (h : opens M ≠ 0) : opens (round g sp M) < opens M := by
  have hl := parts_len g sp M
  refine (opens_zip g (change g sp M) M (parts g sp M) hl.symm).2 ?_
  rcases Int.lt_trichotomy (change g sp M) 0 with hc | hc | hc
  · obtain ⟨k, hk, h2⟩ := sm_neg _ hc
    simp only [List.length_zipWith, hl, Nat.min_self] at hk
    rw [List.getElem_zipWith] at h2
    unfold dif at h2
    by_cases hs : M[k].2.isSome = true
    · rw [if_pos hs] at h2; omega
    · rw [if_neg hs] at h2
      refine ⟨k, hk, by omega, by simpa using hs, ?_⟩
      unfold fixq; rw [decide_eq_true_eq]; omega
  · have : 0 < opens M := by omega
    obtain ⟨p, hp, h2⟩ := List.countP_pos_iff.1 this
    obtain ⟨k, hk, rfl⟩ := List.getElem_of_mem hp
    refine ⟨k, hk, by omega, by simpa using h2, ?_⟩
    unfold fixq; rw [decide_eq_true_eq]; omega
  · obtain ⟨k, hk, h2⟩ := sm_pos _ hc
    simp only [List.length_zipWith, hl, Nat.min_self] at hk
    rw [List.getElem_zipWith] at h2
    unfold dif at h2
    by_cases hs : M[k].2.isSome = true
    · rw [if_pos hs] at h2; omega
    · rw [if_neg hs] at h2
      refine ⟨k, hk, by omega, by simpa using hs, ?_⟩
      unfold fixq; rw [decide_eq_true_eq]; omega
theorem opens_le (M : List It) : opens M ≤ M.length := List.countP_le_length
theorem run_zero {g : Bool} {sp : Int} {M : List It} (h : opens M = 0) : ∀ k, run g sp k M = M
  | 0 => rfl
  | k + 1 => by unfold run; rw [if_pos h]
theorem run_done {g : Bool} {sp : Int} : ∀ (k : Nat) (M : List It), opens M ≤ k → opens (run g sp k M) = 0
  | 0, M, h => by unfold run; omega
  | k + 1, M, h => by
    unfold run
    split
    · assumption
    · rename_i h2
      exact run_done k _ (by have := round_opens (g := g) (sp := sp) h2; omega)
/-- more rounds change nothing -/
theorem run_more {g : Bool} {sp : Int} : ∀ (k j : Nat) (M : List It), opens M ≤ k → opens M ≤ j → run g sp k M = run g sp j M
  | 0, j, M, h, _ => by rw [run_zero (by omega), run_zero (by omega)]
  | k + 1, 0, M, _, h => by rw [run_zero (by omega), run_zero (by omega)]
  | k + 1, j + 1, M, h, h2 => by
    unfold run
    split
    · rfl
    · rename_i h3
      have := round_opens (g := g) (sp := sp) h3
      exact run_more k j _ (by omega) (by omega)
end Rs
end Go.Proofs.Ytlpndemhnpajiaa

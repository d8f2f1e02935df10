/- A cut in the midst of a region; a guarded group that ends in one bool. No program in sight. -/
import Derived.Test.YtlpndemhnpajiaaActl
namespace Go.Proofs.Ytlpndemhnpajiaa
set_option linter.all false
open Go.RowKit

theorem oper_mono {P : Program} {o : Oper} {a : Act} {w : World} {K K' : Act → World → Prop} {Q Q' : Exit → Act → World → Prop} (h : ∀ a w, K a w → K' a w) (hQ : ∀ e a w, e ≠ .normal → Q e a w → Q' e a w)
    (hh : o.wp P a w K Q) : o.wp P a w K' Q' := by
  unfold Oper.wp at *
  generalize (execOp a.eval o).run P w = r at *
  cases r with
  | ok n w' =>
    cases n <;> simp only [Oper.upon] at hh ⊢ <;>
      first
        | exact h _ _ hh
        | exact Calls.mono hh (fun e w'' he => by cases e <;> first | exact h _ _ he | exact hQ _ _ _ (by simp) he | (obtain ⟨a1, w1, h1⟩ := he; exact ⟨a1, w1, hQ _ _ _ (by simp) h1⟩))
        | exact Rows.mono hh (fun _ _ he => h _ _ he)
  | halt x w' => cases x <;> simp only [Oper.upon] at hh ⊢ <;> first | exact hQ _ _ _ (by simp) hh | exact hh

theorem wpList_cut {P : Program} {all : Array Oper} {Q Q' : Exit → Act → World → Prop} {l2 : List Oper} (hn : ∀ a w, Q .normal a w → wpList P all Q' l2 a w) (hQ : ∀ e a w, e ≠ .normal → Q e a w → Q' e a w) :
    ∀ (l1 : List Oper) (a : Act) (w : World), wpList P all Q l1 a w → wpList P all Q' (l1 ++ l2) a w
  | [], a, w, h => hn a w h
  | o :: r, a, w, h => by
    simp only [List.cons_append]
    unfold wpList at h ⊢
    split at h
    · rename_i hw
      rw [if_pos hw]
      exact h.imp (oper_mono (fun a w h => wpList_cut hn hQ r a w h) hQ) (fun ⟨h1, a1, w1, h2⟩ => ⟨h1, a1, w1, hQ _ _ _ (by simp) h2⟩)
    · rename_i hw
      rw [if_neg hw]
      exact wpList_cut hn hQ r _ _ h

section
variable {cx : Cx} {Q : Exit → Act → World → Prop} {ks : List Kont} {s : AS}
theorem kw_l {P : Program} {b : Act → World → Prop} {e : Exit} {a : Act} {w : World} (he : e ≠ .normal) (h : Kw P Q (.l b :: ks) e a w) : Kw P Q ks e a w := by
  cases e <;> first | exact absurd rfl he | exact h
/-- In the midst of a region: what stands first leads to a family of states. -/
theorem ot_cut {X : Type} (k : Nat) (st : X → AS) (I : X → Prop) {all : Array Oper} {l : List Oper} (h1 : OT cx Q (.l (Meet cx st I) :: ks) all (l.take k) s) (h2 : ∀ x, I x → OT cx Q ks all (l.drop k) (st x)) : OT cx Q ks all l s := fun a w ι hs => by
  rw [← List.take_append_drop k l]
  exact wpList_cut (fun a w h => by obtain ⟨x, ι', hx, hs'⟩ := h; exact h2 x hx a w ι' hs') (fun e a w he h => kw_l he h) _ _ _ (h1 a w ι hs)
theorem ot_id {all : Array Oper} {l : List Oper} (h : OT cx Q ks all l s) : OT cx Q ks all l s := h
theorem ve_id {e : Exit} (h : VE cx Q ks e s) : VE cx Q ks e s := h
theorem ot_onl {all : Array Oper} {o og : Oper} {r : List Oper} {j d : Nat} {b : Bool} (hg : o.guard = some (j, b)) (hj : all.toList[j]? = some og) (hd : og.dst = some d) (hv : look d s.t = some (.bool b)) (k : OT cx Q ks all ({ o with guard := none } :: r) s) : OT cx Q ks all (o :: r) s :=
  ot_on hg (by rw [← Array.getElem?_toList]; exact hj) hd hv k
theorem ot_offl {all : Array Oper} {o og : Oper} {r : List Oper} {j d : Nat} {b : Bool} (hg : o.guard = some (j, b)) (hj : all.toList[j]? = some og) (hd : og.dst = some d) (hv : look d s.t = some (.bool (!b))) (k : OT cx Q ks all r (s.drop o.dst)) : OT cx Q ks all (o :: r) s :=
  ot_off hg (by rw [← Array.getElem?_toList]; exact hj) hd hv k
/-- One more slot. -/
def AS.more (s : AS) (d : Nat) (v : AV) : AS := { s with t := (d, v) :: s.t }
/-- A group of operations of which one bool is used later on. -/
theorem ot_gate (k d : Nat) (I : Bool → Prop) {all : Array Oper} {l : List Oper} (h1 : OT cx Q (.l (Meet cx (fun b => s.more d (.bool b)) I) :: ks) all (l.take k) s) (h2 : ∀ b, I b → OT cx Q ks all (l.drop k) (s.more d (.bool b))) : OT cx Q ks all l s :=
  ot_cut k (fun b => s.more d (.bool b)) I h1 h2
/-- The same of a value. -/
theorem ot_gatev (k d : Nat) {X : Type} (f : X → AV) (I : X → Prop) {all : Array Oper} {l : List Oper} (h1 : OT cx Q (.l (Meet cx (fun b => s.more d (f b)) I) :: ks) all (l.take k) s) (h2 : ∀ b, I b → OT cx Q ks all (l.drop k) (s.more d (f b))) : OT cx Q ks all l s :=
  ot_cut k (fun b => s.more d (f b)) I h1 h2
end
end Go.Proofs.Ytlpndemhnpajiaa

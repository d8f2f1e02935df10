/- A region that draws its order, whose operations read old memory and whose callees make new memory: one walk in the order of the text serves every order. No program in sight. -/
import Derived.Test.YtkciiamllegclaaLaws
namespace Go.Proofs.Ytkciiamllegclaa
open Go.ChangeShapes Go.WideShapes Go.ChangeAt Go.RowKit

/-- A world that keeps all that W held. -/
structure Late (W : World) where
  w : World
  h : Below W.heap.size W w
instance (W : World) : Nonempty (Late W) := ⟨⟨W, Below.refl _ _⟩⟩
theorem Late.cell {W : World} (x : Late W) {b : Nat} (hb : b < W.heap.size) (o : Nat) : x.w.cell? ⟨b, o, none⟩ = W.cell? ⟨b, o, none⟩ := x.h.cell (p := ⟨b, o, none⟩) hb
theorem Late.blk {W : World} (x : Late W) {g : Nat} {t : TypeId} {cs : Array Value} (h : Blk W g t cs) : Blk x.w g t cs := h.below' x.h
theorem Late.cells {W : World} {g : Nat} {t : TypeId} {cs : Array Value} (h : Blk W g t cs) : ∀ (x : Late W) (i : Nat), x.w.cell? ⟨g, i, none⟩ = cs[i]? := fun x i => (x.blk h).cell i
theorem late_of {P : Program} {f : FuncId} {args : Array Value} {W : World} {x : Late W} {v : Value}
    (h : Calls P f args x.w fun e w' => e = .returned v ∧ Below x.w.heap.size x.w w') : Calls P f args x.w fun e w'' => e = .returned v ∧ ∃ y : Late W, w'' = y.w :=
  h.mono fun _ _ ⟨he, hm⟩ => ⟨he, ⟨_, x.h.trans (hm.mono x.h.size)⟩, rfl⟩
theorem late_same {P : Program} {f : FuncId} {args : Array Value} {W : World} {x : Late W} {v : Value}
    (h : Calls P f args x.w fun e w' => e = .returned v ∧ x.w = w') : Calls P f args x.w fun e w'' => e = .returned v ∧ ∃ y : Late W, w'' = y.w :=
  h.mono fun _ _ ⟨he, hm⟩ => ⟨he, x, hm.symm⟩
theorem wpQuiet_mono {P : Program} {ops : Array Oper} {C : World → Prop} {Q Q' : Act → Prop} (h : ∀ a, Q a → Q' a) : ∀ (l : List Oper) (a : Act), wpQuiet P ops C Q l a → wpQuiet P ops C Q' l a
  | [], a, hh => h a hh
  | o :: l, a, hh => by
    unfold wpQuiet at hh ⊢
    split
    · rename_i hw
      rw [if_pos hw] at hh
      exact Oper.quiet_mono (fun a' => wpQuiet_mono h l a') hh
    · rename_i hw
      rw [if_neg hw] at hh
      exact wpQuiet_mono h l _ hh
theorem wp_region_late {P : Program} {id : Nat} {Q : Exit → Act → World → Prop} {a : Act} {w : World} {l : List Oper} (hm : P.follows .mixedOrders = true) (hB : Region.lexB .any l.toArray = true)
    (h : wpQuiet P l.toArray (fun w' => ∃ x : Late w, w' = x.w) (fun a' => ∀ x : Late w, Q .normal a' x.w) l a) : (Code.region id l.toArray true).wp P Q a w :=
  wp_region_quiet (C := fun w' => ∃ x : Late w, w' = x.w) hm hB ⟨⟨_, (Below.refl _ _).drew⟩, rfl⟩ (wpQuiet_mono (fun a' hx w' hw' => by obtain ⟨x, rfl⟩ := hw'; exact hx x) _ _ (by simpa using h))
end Go.Proofs.Ytkciiamllegclaa

/- Types of layer 19's program as Lean types, with their cells. Made by a program. -/
import Derived.Test.YtlpndemhnpajiaaVz
namespace Go.Proofs.Ytlpndemhnpajiaa
open Go.RowKit
set_option maxRecDepth 20000
set_option linter.all false
set_option linter.unusedVariables false
set_option linter.unusedSimpArgs false

structure TFlexItem where
  Base : Int
  Grow : Int
  Shrink : Int
  Min : Int
  Max : Int
def zTFlexItem : TFlexItem := ⟨0, 0, 0, 0, 0⟩
instance : Inhabited TFlexItem := ⟨zTFlexItem⟩
def qTFlexItem (x y : TFlexItem) : Bool := ((x.Base == y.Base) && ((x.Grow == y.Grow) && ((x.Shrink == y.Shrink) && ((x.Min == y.Min) && ((x.Max == y.Max) && true)))))
def eTFlexItem (x : TFlexItem) : List AV := [.int .i64 x.Base, .int .i64 x.Grow, .int .i64 x.Shrink, .int .i64 x.Min, .int .i64 x.Max]
theorem eTFlexItem_len (x : TFlexItem) : (eTFlexItem x).length = 5 := rfl
structure TFlexState where
  Item : TFlexItem
  factor : Int
  weight : Int
  size : Int
  fixed : Bool
def zTFlexState : TFlexState := ⟨⟨0, 0, 0, 0, 0⟩, 0, 0, 0, false⟩
instance : Inhabited TFlexState := ⟨zTFlexState⟩
def qTFlexState (x y : TFlexState) : Bool := ((qTFlexItem x.Item y.Item) && ((x.factor == y.factor) && ((x.weight == y.weight) && ((x.size == y.size) && ((x.fixed == y.fixed) && true)))))
def eTFlexState (x : TFlexState) : List AV := [.int .i64 x.Item.Base, .int .i64 x.Item.Grow, .int .i64 x.Item.Shrink, .int .i64 x.Item.Min, .int .i64 x.Item.Max, .int .i64 x.factor, .int .i64 x.weight, .int .i64 x.size, .bool x.fixed]
theorem eTFlexState_len (x : TFlexState) : (eTFlexState x).length = 9 := rfl
/-- Function values: functions of their own, and closures with what their captured variables hold. -/
inductive Fv where
  | fn (id : Nat)
  | c36 (a0 : (List Int))
instance : Inhabited Fv := ⟨.fn 0⟩
def Fv.id : Fv → Nat
  | .fn i => i
  | .c36 _ => 36
def Fv.caps : Fv → List AV
  | .fn _ => []
  | .c36 a0 => [.cptr [.sl (List.map (eInt .i64) a0)]]
def eFv (v : Fv) : List AV := [.fn v.id v.caps]

/-- Calls that come back, and calls of function values. -/
structure Kn where
  k_g_slices_symMergeCmpFunc_int : (List Int) → Int → Int → Int → Fv → Option (List Int)
  d_Int_Int__Int : Fv → Int → Int → Option Int
end Go.Proofs.Ytlpndemhnpajiaa

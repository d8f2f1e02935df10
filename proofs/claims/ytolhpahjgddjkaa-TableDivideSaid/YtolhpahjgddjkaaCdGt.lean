/- Types of layer 20's program as Lean types, with their cells. Made by a program. -/
import Derived.Test.YtolhpahjgddjkaaCdVq
namespace Go.Proofs.Ytolhpahjgddjkaa
open Go.RowKit
set_option maxRecDepth 20000
set_option linter.all false
set_option linter.unusedVariables false
set_option linter.unusedSimpArgs false
structure ac where
  Row:Int
  Col:Int
  Rows:Int
  Cols:Int
def zTTablePlace:ac:=⟨0,0,0,0⟩
instance:Inhabited ac:=⟨zTTablePlace⟩
def qTTablePlace (x y:ac):Bool:=((x.Row == y.Row) && ((x.Col == y.Col) && ((x.Rows == y.Rows) && ((x.Cols == y.Cols) && true))))
def aD (x:ac):List AV:=[.int .i64 x.Row,.int .i64 x.Col,.int .i64 x.Rows,.int .i64 x.Cols]
theorem jf (x:ac):(aD x).length=4:=rfl
structure aw where
  Least:Int
  Most:Int
def zTTableColumn:aw:=⟨0,0⟩
instance:Inhabited aw:=⟨zTTableColumn⟩
def aB (x:aw):List AV:=[.int .i64 x.Least,.int .i64 x.Most]
theorem gn (x:aw):(aB x).length=2:=rfl
inductive Fv where
  | fn (id:Nat)
  | c59 (a0:(List Int))
instance:Inhabited Fv:=⟨.fn 0⟩
def Fv.id:Fv→Nat
  | .fn i=>i
  | .c59 _=>59
def Fv.caps:Fv→List AV
  | .fn _=>[]
  | .c59 a0=>[.cptr [.sl (List.map (eInt .i64) a0)]]
structure Kn where
  co:(List Int)→Int→Int→Int→Fv→Option (List Int)
  bM:Fv→Int→Int→Option Int
  gq:Fv→Int→Option Bool
end Go.Proofs.Ytolhpahjgddjkaa

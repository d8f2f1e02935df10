/- Types of layer 20's program as Lean types, with their cells. Made by a program. -/
import Derived.Test.YtolhpahjgddjkaaCpVq
namespace Go.Proofs.Ytolhpahjgddjkaa
open Go.RowKit
set_option maxRecDepth 20000
set_option linter.all false
set_option linter.unusedVariables false
set_option linter.unusedSimpArgs false
structure aa where
  Row:Int
  Col:Int
  Rows:Int
  Cols:Int
def zTTablePlace:aa:=⟨0,0,0,0⟩
instance:Inhabited aa:=⟨zTTablePlace⟩
def bw (x y:aa):Bool:=((x.Row == y.Row) && ((x.Col == y.Col) && ((x.Rows == y.Rows) && ((x.Cols == y.Cols) && true))))
def ab (x:aa):List AV:=[.int .i64 x.Row,.int .i64 x.Col,.int .i64 x.Rows,.int .i64 x.Cols]
theorem bK (x:aa):(ab x).length=4:=rfl
structure bS where
  Least:Int
  Most:Int
def zTTableColumn:bS:=⟨0,0⟩
instance:Inhabited bS:=⟨zTTableColumn⟩
def bv (x:bS):List AV:=[.int .i64 x.Least,.int .i64 x.Most]
theorem iB (x:bS):(bv x).length=2:=rfl
inductive Fv where
  | fn (id:Nat)
  | c59 (a0:(List Int))
instance:Inhabited Fv:=⟨.fn 0⟩
def Fv.id:Fv→Nat
  | .fn i=>i
  | .c59 _=>59
def Fv.caps:Fv→List AV
  | .fn _=>[]
  | .c59 a0=>[.cptr [.sl (List.map (eInt .i64) a0)]]
structure Kn where
  dn:(List Int)→Int→Int→Int→Fv→Option (List Int)
  bH:Fv→Int→Int→Option Int
  eN:Fv→Int→Option Bool
end Go.Proofs.Ytolhpahjgddjkaa

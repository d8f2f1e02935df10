/- Types of layer 20's program as Lean types, with their cells. Made by a program. -/
import Derived.Test.YtolhpahjgddjkaaChVq
namespace Go.Proofs.Ytolhpahjgddjkaa
open Go.RowKit
set_option maxRecDepth 20000
set_option linter.all false
set_option linter.unusedVariables false
set_option linter.unusedSimpArgs false
structure aa where
  Row:Int
  Col:Int
  Rows:Int
  Cols:Int
def gV:aa:=⟨0,0,0,0⟩
instance:Inhabited aa:=⟨gV⟩
def qTTablePlace (x y:aa):Bool:=((x.Row == y.Row) && ((x.Col == y.Col) && ((x.Rows == y.Rows) && ((x.Cols == y.Cols) && true))))
def ag (x:aa):List AV:=[.int .i64 x.Row,.int .i64 x.Col,.int .i64 x.Rows,.int .i64 x.Cols]
theorem ci (x:aa):(ag x).length=4:=rfl
structure bO where
  Least:Int
  Most:Int
def zTTableColumn:bO:=⟨0,0⟩
instance:Inhabited bO:=⟨zTTableColumn⟩
def bv (x:bO):List AV:=[.int .i64 x.Least,.int .i64 x.Most]
theorem kJ (x:bO):(bv x).length=2:=rfl
inductive Fv where
  | fn (id:Nat)
  | c31 (a0:Int)
  | c59 (a0:(List Int))
  | c65 (a0:Fv) (a1:(List aa))
instance:Inhabited Fv:=⟨.fn 0⟩
def Fv.id:Fv→Nat
  | .fn i=>i
  | .c31 _=>31
  | .c59 _=>59
  | .c65 _ _=>65
def Fv.caps:Fv→List AV
  | .fn _=>[]
  | .c31 a0=>[.cptr [.int .i64 a0]]
  | .c59 a0=>[.cptr [.sl (List.map (eInt .i64) a0)]]
  | .c65 a0 a1=>[.cptr [.fn a0.id a0.caps],.cptr [.sl (List.map ag a1)]]
structure Kn where
  ce:(List Int)→Int→Int→Int→Fv→Option (List Int)
  bC:Fv→Int→Int→Option Int
  gf:Fv→Int→Option Bool
  ee:Fv→aa→Option Bool
  cf:Fv→aa→Option Int
end Go.Proofs.Ytolhpahjgddjkaa

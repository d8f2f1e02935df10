/- Types of layer 20's program as Lean types, with their cells. Made by a program. -/
import Derived.Test.YtolhpahjgddjkaaCmVq
namespace Go.Proofs.Ytolhpahjgddjkaa
open Go.RowKit
set_option maxRecDepth 20000
set_option linter.all false
set_option linter.unusedVariables false
set_option linter.unusedSimpArgs false
structure ab where
  Row:Int
  Col:Int
  Rows:Int
  Cols:Int
def kz:ab:=⟨0,0,0,0⟩
instance:Inhabited ab:=⟨kz⟩
def qTTablePlace (x y:ab):Bool:=((x.Row == y.Row) && ((x.Col == y.Col) && ((x.Rows == y.Rows) && ((x.Cols == y.Cols) && true))))
def am (x:ab):List AV:=[.int .i64 x.Row,.int .i64 x.Col,.int .i64 x.Rows,.int .i64 x.Cols]
theorem c8 (x:ab):(am x).length=4:=rfl
structure aa where
  Least:Int
  Most:Int
def ct:aa:=⟨0,0⟩
instance:Inhabited aa:=⟨ct⟩
def df (x y:aa):Bool:=((x.Least == y.Least) && ((x.Most == y.Most) && true))
def ag (x:aa):List AV:=[.int .i64 x.Least,.int .i64 x.Most]
theorem ce (x:aa):(ag x).length=2:=rfl
inductive Fv where
  | fn (id:Nat)
  | c36 (a0:Int)
  | c59 (a0:(List Int))
  | c65 (a0:Fv) (a1:(List ab))
instance:Inhabited Fv:=⟨.fn 0⟩
def Fv.id:Fv→Nat
  | .fn i=>i
  | .c36 _=>36
  | .c59 _=>59
  | .c65 _ _=>65
def Fv.caps:Fv→List AV
  | .fn _=>[]
  | .c36 a0=>[.cptr [.int .i64 a0]]
  | .c59 a0=>[.cptr [.sl (List.map (eInt .i64) a0)]]
  | .c65 a0 a1=>[.cptr [.fn a0.id a0.caps],.cptr [.sl (List.map am a1)]]
structure Kn where
  cS:(List Int)→Int→Int→Int→Fv→Option (List Int)
  bZ:Fv→Int→Int→Option Int
  gH:Fv→Int→Option Bool
  fP:Fv→ab→Option Bool
  cX:Fv→ab→Option Int
end Go.Proofs.Ytolhpahjgddjkaa

/- A region that draws its order, with one operation behind all others. No program in sight. -/
import Derived.Test.YtolhpahjgddjkaaCcVx
import Derived.Test.YtolhpahjgddjkaaCcCut
namespace Go.Proofs.Ytolhpahjgddjkaa
set_option linter.all false
open Go.RowKit
def clo (ops:Array Oper):Nat→List Nat→List Nat
  | 0,S=>S
  | j+1,S=>match S.contains j with
    | true=>clo ops j (S++(match ops[j]? with | some o=>edgesOf o | none=>[]))
    | false=>clo ops j S
theorem su {ops:Array Oper} {listed:Array Bool} (cl:∀ (i:Nat) (o:Oper),ops[i]?=some o→listed[i]?=some true→∀ j∈edgesOf o,listed[j]?=some true):∀ (n:Nat) (S:List Nat),(∀ j∈S,listed[j]?=some true)→∀ j∈clo ops n S,listed[j]?=some true
  | 0,S,h,j,hj=>h j hj
  | n+1,S,h,j,hj=>by
    unfold clo at hj
    split at hj
    · rename_i hc
      have hn:n∈S:=by simpa using hc
      refine su cl n _ (fun i hi=>?_) j hj
      rcases List.mem_append.1 hi with hi | hi
      · exact h i hi
      · split at hi
        · rename_i o ho; exact cl n o ho (h n hn) i hi
        · cases hi
    · exact su cl n S h j hj
end Go.Proofs.Ytolhpahjgddjkaa

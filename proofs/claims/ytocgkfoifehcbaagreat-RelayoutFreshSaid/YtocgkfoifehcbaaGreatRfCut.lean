/- A cut in the midst of a region; a guarded group that ends in one bool. No program in sight. -/
import Derived.Test.YtocgkfoifehcbaaGreatRfActl
namespace Go.Proofs.YtocgkfoifehcbaaGreat
set_option linter.all false
open Go.RowKit
theorem I0{P:Program}{o:Oper}{a:Act}{w:World}{K K':Act→World→Prop}{Q Q':Exit→Act→World→Prop}(h:∀a w,K a w→K' a w)(hQ:∀e a w,e ≠ .normal→Q e a w→Q' e a w)
  (hh:o.wp P a w K Q):o.wp P a w K' Q':=by
 unfold Oper.wp at *;generalize (execOp a.eval o).run P w=r at *;cases r with
 | ok n w' =>
  cases n<;>simp only[Oper.upon]at hh⊢ <;>
   first
    | exact h _ _ hh
    | exact Calls.mono hh (fun e w'' he=>by cases e<;>first|exact h _ _ he|exact hQ _ _ _ (by simp) he|(obtain⟨a1,w1,h1⟩:=he;exact⟨a1,w1,hQ _ _ _ (by simp) h1⟩))
    | exact Rows.mono hh (fun _ _ he=>h _ _ he)
 | halt x w'=>cases x<;>simp only[Oper.upon]at hh⊢<;>first|exact hQ _ _ _ (by simp) hh|exact hh
section
variable{cx:Cx}{Q:Exit→Act→World→Prop}{ks:List aq}{s:AS}
theorem oW{all:Array Oper}{o og:Oper}{r:List Oper}{j d:Nat}{b:Bool}(hg:o.guard=some (j,b))(hj:all.toList[j]?=some og)(hd:og.dst=some d)(hv:look d s.t=some (.bool b))(k:OT cx Q ks all ({ o with guard:=none }::r) s):OT cx Q ks all (o::r) s :=
 VG hg (by rw[←Array.getElem?_toList];exact hj) hd hv k
end
end Go.Proofs.YtocgkfoifehcbaaGreat

/- A cut in the midst of a region; a guarded group that ends in one bool. No program in sight. -/
import Derived.Test.YtocgkfoifehcbaaGreatRdActl
namespace Go.Proofs.YtocgkfoifehcbaaGreat
set_option linter.all false
open Go.RowKit
abbrev dt:=List aq
theorem Rx{P:Program}{o:Oper}{a:Act}{w:World}{K d:Act→World→Prop}{Q f:Exit→Act→World→Prop}(h:∀a w,K a w→d a w)(j:∀e a w,e ≠ .normal→Q e a w→f e a w)
  (b:o.wp P a w K Q):o.wp P a w d f:=by
 unfold Oper.wp at *;generalize (execOp a.eval o).run P w=r at *;cases r with
 | ok n w' =>
  cases n<;>simp only[Oper.upon]at b⊢ <;>
   first
    | grind
    | exact Calls.mono b (fun e k c=>by cases e<;>first|grind|grind|(obtain⟨g,l,i⟩:=c;exact⟨g,l,j _ _ _ (by simp) i⟩))
    | exact Rows.mono b (fun _ _ c=>h _ _ c)
 | halt x w'=>cases x<;>simp only[Oper.upon]at b⊢<;>first|grind|grind
section
variable{a:Cx}{Q:Exit→Act→World→Prop}{c:dt}{s:AS}
theorem vR{e:Array Oper}{o f}{r}{j d:Nat}{b}(h:o.guard=some (j,b))(i:e.toList[j]?=some f)(g:f.dst=some d)(l:look d s.t=some (.bool b))(k:OT a Q c e ({ o with guard:=none }::r) s):OT a Q c e (o::r) s :=by grind[aad]
end
end Go.Proofs.YtocgkfoifehcbaaGreat

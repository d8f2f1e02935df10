/- Sharing a number in proportion to weights: the program's and the reference's functions give the parts. No program in sight. -/
import Derived.Test.YtlpndemhnpajiaaSkQShareA
namespace Go.Proofs.Ytlpndemhnpajiaa
set_option linter.all false
open Go.RowKit
namespace Sh
open QSort (wn chk_inb iteT iteF sb)
variable {K : Kn} {n : Nat}
theorem slb_of {a b : Int} {n : Nat} (h0 : 0 ≤ a) (h1 : a ≤ b) (h2 : b ≤ n) : slb a b n = true := by simp [slb, h0, h1, h2]
end Sh
end Go.Proofs.Ytlpndemhnpajiaa

/- What is asked of calls that come back. Made by a program. -/
import Derived.Test.YtkciiamllegclaaSvGf
import Derived.Test.YtkciiamllegclaaProg
namespace Go.Proofs.Ytkciiamllegclaa
open Go.RowKit
set_option maxRecDepth 20000
set_option linter.all false
noncomputable section
theorem af{α β}{f:α→β}(x:α):f x=f x:=rfl
abbrev aT:=Try.prog
abbrev be:AV:=.tup []
abbrev bf x:=(⟨60,67,lm ap x⟩:bw)
end
variable[ZX]
structure au(K:Kn):Prop where
 fD:∀{a0:eq} {a1:Int} {r:(ai×Int)},K.fD a0 a1=some r→aF Try.prog 35 [.sl (List.map aJ a0),.int .i64 a1] (fun v _=>v=.tup [.agg (aY r.1),.int .i64 r.2])
 de:∀{a0:ai} {a1:Int} {r:aa},K.de a0 a1=some r→aF Try.prog 36 [.agg (aY a0),.int .i64 a1] (fun v _=>v=.agg (ak r))
 i7:∀{a0:aa} {a1:aa} {r:Bool},K.i7 a0 a1=some r→aF Try.prog 38 [.agg (ak a0),.agg (ak a1)] (fun v _=>v=.bool r)
 gS:∀{f:Nat} {a0:aa} {a1:aa} {r:Bool},K.gS f a0 a1=some r→bW Try.prog f=true∧aF Try.prog f [.agg (ak a0),.agg (ak a1)] (fun v _=>v=.bool r)
end Go.Proofs.Ytkciiamllegclaa

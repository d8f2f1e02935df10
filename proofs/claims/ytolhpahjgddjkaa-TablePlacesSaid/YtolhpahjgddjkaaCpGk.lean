/- What is asked of calls that come back. Made by a program. -/
import Derived.Test.YtolhpahjgddjkaaCpGf
import Derived.Test.YtolhpahjgddjkaaProg
namespace Go.Proofs.Ytolhpahjgddjkaa
open Go.RowKit
set_option maxRecDepth 20000
set_option linter.all false
set_option linter.unusedVariables false
set_option linter.unusedSimpArgs false
structure KnOk (K:Kn):Prop where
  dn:∀ {a0:(List Int)} {a1:Int} {a2:Int} {a3:Int} {a4:Fv} {r:(List Int)},K.dn a0 a1 a2 a3 a4=some r→AIO Try.prog 81 [.ref 0,.int .i64 a1,.int .i64 a2,.int .i64 a3,.fn a4.id a4.caps] 0 ⟨3,1,List.map (eInt .i64) a0⟩ (fun v s=>v = .tup []∧look 0 s.r=some ⟨3,1,List.map (eInt .i64) r⟩)
  bH:∀ {f:Fv} {a0:Int} {a1:Int} {r:Int},K.bH f a0 a1=some r→callable Try.prog f.id=true∧ACalls Try.prog f.id ([.int .i64 a0,.int .i64 a1]++f.caps) (fun v _=>v = .int .i64 r)
  eN:∀ {f:Fv} {a0:Int} {r:Bool},K.eN f a0=some r→callable Try.prog f.id=true∧ACalls Try.prog f.id ([.int .i64 a0]++f.caps) (fun v _=>v = .bool r)
end Go.Proofs.Ytolhpahjgddjkaa

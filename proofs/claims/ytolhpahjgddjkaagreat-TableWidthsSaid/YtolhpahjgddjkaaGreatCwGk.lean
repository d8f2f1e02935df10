/- What is asked of calls that come back. Made by a program. -/
import Derived.Test.YtolhpahjgddjkaaGreatCwGf
import Derived.Test.YtolhpahjgddjkaaGreatProg
namespace Go.Proofs.YtolhpahjgddjkaaGreat
open Go.RowKit
set_option maxRecDepth 20000
set_option linter.all false
set_option linter.unusedVariables false
set_option linter.unusedSimpArgs false
structure am(K:Kn):Prop where
 zQ:∀{a0:ac} {r:(Int×Int)},K.zQ a0=some r→aQ Tryz.prog 31 [.agg (aI a0)] (fun v _=>v=.tup [.int .i64 r.1,.int .i64 r.2])
 ke:∀{a0:(List Int)} {a1:Int} {a2:Int} {a3:Int} {a4:Fv} {r:(List Int)},K.ke a0 a1 a2 a3 a4=some r→jO Tryz.prog 102 [.ref 0,.int .i64 a1,.int .i64 a2,.int .i64 a3,.fn a4.id a4.aN] 0 ⟨3,1,List.map (ab .i64) a0⟩ (fun v s=>v=.tup []∧look 0 s.r=some ⟨3,1,List.map (ab .i64) r⟩)
 gR:∀{f:Fv} {a0:Int} {a1:Int} {r:Int},K.gR f a0 a1=some r→dD Tryz.prog f.id=true∧aQ Tryz.prog f.id ([.int .i64 a0,.int .i64 a1]++f.aN) (fun v _=>v=.int .i64 r)
 vo:∀{f:Fv} {a0:Int} {r:Bool},K.vo f a0=some r→dD Tryz.prog f.id=true∧aQ Tryz.prog f.id ([.int .i64 a0]++f.aN) (fun v _=>v=.bool r)
 wH:∀{f:Fv} {a0:(List ac)} {a1:aE} {a2:Int} {r:((List ag)×Int)},K.wH f a0 a1 a2=some r→dD Tryz.prog f.id=true∧aQ Tryz.prog f.id ([.sl (List.map az a0),.agg (aD a1),.int .i64 a2]++f.aN) (fun v _=>v=.tup [.sl (List.map ay r.1),.int .i64 r.2])
 yn:∀{f:Fv} {a0:(List ac)} {a1:aE} {r:(Int×Int)},K.yn f a0 a1=some r→dD Tryz.prog f.id=true∧aQ Tryz.prog f.id ([.sl (List.map az a0),.agg (aD a1)]++f.aN) (fun v _=>v=.tup [.int .i64 r.1,.int .i64 r.2])
 Aq:∀{f:Fv} {a0:ac} {a1:Int} {r:ag},K.Aq f a0 a1=some r→dD Tryz.prog f.id=true∧aQ Tryz.prog f.id ([.agg (aI a0),.int .i64 a1]++f.aN) (fun v _=>v=.agg (aZ r))
 kT:∀{f:Fv} {a0:ac} {r:Bool},K.kT f a0=some r→dD Tryz.prog f.id=true∧aQ Tryz.prog f.id ([.agg (aI a0)]++f.aN) (fun v _=>v=.bool r)
 yV:∀{f:Fv} {a0:ac} {r:(Int×Int)},K.yV f a0=some r→dD Tryz.prog f.id=true∧aQ Tryz.prog f.id ([.agg (aI a0)]++f.aN) (fun v _=>v=.tup [.int .i64 r.1,.int .i64 r.2])
 tm:∀{f:Fv} {a0:ah} {r:Bool},K.tm f a0=some r→dD Tryz.prog f.id=true∧aQ Tryz.prog f.id ([.agg (aA a0)]++f.aN) (fun v _=>v=.bool r)
 kE:∀{f:Fv} {a0:ah} {r:Int},K.kE f a0=some r→dD Tryz.prog f.id=true∧aQ Tryz.prog f.id ([.agg (aA a0)]++f.aN) (fun v _=>v=.int .i64 r)
end Go.Proofs.YtolhpahjgddjkaaGreat

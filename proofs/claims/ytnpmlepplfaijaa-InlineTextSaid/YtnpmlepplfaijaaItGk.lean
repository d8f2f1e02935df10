/- What is asked of calls that come back. Made by a program. -/
import Derived.Test.YtnpmlepplfaijaaItGf
import Derived.Test.YtnpmlepplfaijaaProg
namespace Go.Proofs.Ytnpmlepplfaijaa
open Go.RowKit
set_option maxRecDepth 20000
set_option linter.all false
set_option linter.unusedVariables false
set_option linter.unusedSimpArgs false
structure ak(K:Kn):Prop where
 qf:∀{a0:(List ag)} {r:ByteArray},K.qf a0=some r→aH Try.prog 21 [.sl (List.map aF a0)] (fun v _=>v=.str r)
 rA:∀{a0:(List bB)} {a1:Int} {a2:Int} {r:((List ag)×Int)},K.rA a0 a1 a2=some r→aH Try.prog 34 [.sl (List.map bu a0),.int .i64 a1,.int .u8 a2] (fun v _=>v=.tup [.sl (List.map aF r.1),.int .i64 r.2])
 qz:∀{a0:(List ag)} {a1:Int} {a2:(List aj)} {r:(Int×(List aj))},K.qz a0 a1 a2=some r→gE Try.prog 66 [.sl (List.map aF a0),.ptr 1 0,.ptr 2 0,.ptr 3 0] [(1,[.int .i64 a1]),(2,[.fno 66 [.ptr 1 0,.ptr 2 0,.ptr 3 0]]),(3,[.ref 9])] 9 ⟨99,5,List.map aw a2⟩ [9,1,2,3,1000001,1000002,1000003] (fun v s=>v=.tup []∧dL s.o [(1,[.int .i64 r.1]),(2,[.fno 66 [.ptr 1 0,.ptr 2 0,.ptr 3 0]]),(3,[.ref 9])]∧look 9 s.r=some ⟨99,5,List.map aw r.2⟩)
 ou:∀{f:Fv} {a0:(List ag)} {a1:aB} {a2:Int} {r:((List af)×Int)},K.ou f a0 a1 a2=some r→cj Try.prog f.id=true∧aH Try.prog f.id ([.sl (List.map aF a0),.agg (aA a1),.int .i64 a2]++f.aN) (fun v _=>v=.tup [.sl (List.map az r.1),.int .i64 r.2])
 rY:∀{f:Fv} {a0:(List ag)} {a1:aB} {r:(Int×Int)},K.rY f a0 a1=some r→cj Try.prog f.id=true∧aH Try.prog f.id ([.sl (List.map aF a0),.agg (aA a1)]++f.aN) (fun v _=>v=.tup [.int .i64 r.1,.int .i64 r.2])
 sw:∀{f:Fv} {a0:ag} {a1:Int} {r:af},K.sw f a0 a1=some r→cj Try.prog f.id=true∧aH Try.prog f.id ([.agg (aS a0),.int .i64 a1]++f.aN) (fun v _=>v=.agg (aG r))
 ob:∀{f:Fv} {a0:ag} {r:Bool},K.ob f a0=some r→cj Try.prog f.id=true∧aH Try.prog f.id ([.agg (aS a0)]++f.aN) (fun v _=>v=.bool r)
 sd:∀{f:Fv} {a0:ag} {r:(Int×Int)},K.sd f a0=some r→cj Try.prog f.id=true∧aH Try.prog f.id ([.agg (aS a0)]++f.aN) (fun v _=>v=.tup [.int .i64 r.1,.int .i64 r.2])
 kD:∀{f:Fv} {a0:ag} {r:aq},K.kD f a0=some r→cj Try.prog f.id=true∧aH Try.prog f.id ([.agg (aS a0)]++f.aN) (fun v _=>v=.agg (aI r))
end Go.Proofs.Ytnpmlepplfaijaa

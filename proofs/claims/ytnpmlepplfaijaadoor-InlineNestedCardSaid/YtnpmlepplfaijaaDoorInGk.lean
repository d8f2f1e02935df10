/- What is asked of calls that come back. Made by a program. -/
import Derived.Test.YtnpmlepplfaijaaDoorInGf
import Derived.Test.YtnpmlepplfaijaaDoorProg
namespace Go.Proofs.YtnpmlepplfaijaaDoor
open Go.RowKit
set_option maxRecDepth 20000
set_option linter.all false
set_option linter.unusedVariables false
set_option linter.unusedSimpArgs false
structure aq(K:Kn):Prop where
 rh:∀{a0:(List au)} {a1:Int} {a2:(List ao)} {r:(Int×(List ao))},K.rh a0 a1 a2=some r→gG Tryd.prog 51 [.sl (List.map aW a0),.ptr 1 0,.ptr 2 0,.ptr 3 0] [(1,[.int .i64 a1]),(2,[.fno 51 [.ptr 1 0,.ptr 2 0,.ptr 3 0]]),(3,[.ref 9])] 9 ⟨93,5,List.map az a2⟩ [9,1,2,3,1000001,1000002,1000003] (fun v s=>v=.tup []∧dZ s.o [(1,[.int .i64 r.1]),(2,[.fno 51 [.ptr 1 0,.ptr 2 0,.ptr 3 0]]),(3,[.ref 9])]∧look 9 s.r=some ⟨93,5,List.map az r.2⟩)
 po:∀{f:Fv} {a0:(List au)} {a1:aH} {a2:Int} {r:((List ae)×Int)},K.po f a0 a1 a2=some r→cc Tryd.prog f.id=true∧aS Tryd.prog f.id ([.sl (List.map aW a0),.agg (aG a1),.int .i64 a2]++f.aK) (fun v _=>v=.tup [.sl (List.map ax r.1),.int .i64 r.2])
 qB:∀{f:Fv} {a0:(List au)} {a1:aH} {r:(Int×Int)},K.qB f a0 a1=some r→cc Tryd.prog f.id=true∧aS Tryd.prog f.id ([.sl (List.map aW a0),.agg (aG a1)]++f.aK) (fun v _=>v=.tup [.int .i64 r.1,.int .i64 r.2])
 qc:∀{f:Fv} {a0:au} {a1:Int} {r:ae},K.qc f a0 a1=some r→cc Tryd.prog f.id=true∧aS Tryd.prog f.id ([.agg (aZ a0),.int .i64 a1]++f.aK) (fun v _=>v=.agg (aD r))
 rW:∀{f:Fv} {a0:au} {r:Bool},K.rW f a0=some r→cc Tryd.prog f.id=true∧aS Tryd.prog f.id ([.agg (aZ a0)]++f.aK) (fun v _=>v=.bool r)
 pX:∀{f:Fv} {a0:au} {r:(Int×Int)},K.pX f a0=some r→cc Tryd.prog f.id=true∧aS Tryd.prog f.id ([.agg (aZ a0)]++f.aK) (fun v _=>v=.tup [.int .i64 r.1,.int .i64 r.2])
 lq:∀{f:Fv} {a0:au} {r:aw},K.lq f a0=some r→cc Tryd.prog f.id=true∧aS Tryd.prog f.id ([.agg (aZ a0)]++f.aK) (fun v _=>v=.agg (aM r))
end Go.Proofs.YtnpmlepplfaijaaDoor

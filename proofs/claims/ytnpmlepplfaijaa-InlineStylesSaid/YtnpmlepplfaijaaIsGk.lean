/- What is asked of calls that come back. Made by a program. -/
import Derived.Test.YtnpmlepplfaijaaIsGf
import Derived.Test.YtnpmlepplfaijaaProg
namespace Go.Proofs.Ytnpmlepplfaijaa
open Go.RowKit
set_option maxRecDepth 20000
set_option linter.all false
set_option linter.unusedVariables false
set_option linter.unusedSimpArgs false
structure aj(K:Kn):Prop where
 nM:∀{a0:(List aq)} {a1:Int} {a2:(List aF)} {r:(Int×(List aF))},K.nM a0 a1 a2=some r→fy Try.prog 66 [.sl (List.map aO a0),.ptr 1 0,.ptr 2 0,.ptr 3 0] [(1,[.int .i64 a1]),(2,[.fno 66 [.ptr 1 0,.ptr 2 0,.ptr 3 0]]),(3,[.ref 9])] 9 ⟨99,5,List.map am a2⟩ [9,1,2,3,1000001,1000002,1000003] (fun v s=>v=.tup []∧dd s.o [(1,[.int .i64 r.1]),(2,[.fno 66 [.ptr 1 0,.ptr 2 0,.ptr 3 0]]),(3,[.ref 9])]∧look 9 s.r=some ⟨99,5,List.map am r.2⟩)
 lC:∀{f:Fv} {a0:(List aq)} {a1:aH} {a2:Int} {r:((List ae)×Int)},K.lC f a0 a1 a2=some r→bM Try.prog f.id=true∧aI Try.prog f.id ([.sl (List.map aO a0),.agg (au a1),.int .i64 a2]++f.aJ) (fun v _=>v=.tup [.sl (List.map az r.1),.int .i64 r.2])
 lG:∀{f:Fv} {a0:(List aq)} {a1:aH} {r:(Int×Int)},K.lG f a0 a1=some r→bM Try.prog f.id=true∧aI Try.prog f.id ([.sl (List.map aO a0),.agg (au a1)]++f.aJ) (fun v _=>v=.tup [.int .i64 r.1,.int .i64 r.2])
 lq:∀{f:Fv} {a0:aq} {a1:Int} {r:ae},K.lq f a0 a1=some r→bM Try.prog f.id=true∧aI Try.prog f.id ([.agg (aX a0),.int .i64 a1]++f.aJ) (fun v _=>v=.agg (aG r))
 nj:∀{f:Fv} {a0:aq} {r:Bool},K.nj f a0=some r→bM Try.prog f.id=true∧aI Try.prog f.id ([.agg (aX a0)]++f.aJ) (fun v _=>v=.bool r)
 ol:∀{f:Fv} {a0:aq} {r:(Int×Int)},K.ol f a0=some r→bM Try.prog f.id=true∧aI Try.prog f.id ([.agg (aX a0)]++f.aJ) (fun v _=>v=.tup [.int .i64 r.1,.int .i64 r.2])
 mP:∀{f:Fv} {a0:aq} {r:aB},K.mP f a0=some r→bM Try.prog f.id=true∧aI Try.prog f.id ([.agg (aX a0)]++f.aJ) (fun v _=>v=.agg (aE r))
end Go.Proofs.Ytnpmlepplfaijaa

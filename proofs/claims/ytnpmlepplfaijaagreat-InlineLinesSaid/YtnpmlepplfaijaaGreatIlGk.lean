/- What is asked of calls that come back. Made by a program. -/
import Derived.Test.YtnpmlepplfaijaaGreatIlGf
import Derived.Test.YtnpmlepplfaijaaGreatProg
namespace Go.Proofs.YtnpmlepplfaijaaGreat
open Go.RowKit
set_option maxRecDepth 20000
set_option linter.all false
set_option linter.unusedVariables false
set_option linter.unusedSimpArgs false
structure am(K:Kn):Prop where
 qJ:∀{a0:ab} {a1:ab} {r:Bool},K.qJ a0 a1=some r→aN Tryz.prog 13 [.agg (aC a0),.agg (aC a1)] (fun v _=>v=.bool r)
 y7:∀{a0:(List cc)} {a1:Int} {a2:Int} {r:((List ah)×Int)},K.y7 a0 a1 a2=some r→aN Tryz.prog 30 [.sl (List.map ce a0),.int .i64 a1,.int .u8 a2] (fun v _=>v=.tup [.sl (List.map aP r.1),.int .i64 r.2])
 yL:∀{a0:(List ah)} {a1:(List aK)} {r:(List aK)},K.yL a0 a1=some r→gm Tryz.prog 35 [.ref 9,.sl (List.map aP a0)] [] 9 ⟨54,64,List.map aQ a1⟩ [9] (fun v s=>v=.ref 9∧dt s.o []∧look 9 s.r=some ⟨54,64,List.map aQ r⟩)
 lI:∀{a0:ah} {r:(Int×Int)},K.lI a0=some r→aN Tryz.prog 83 [.agg (aX a0)] (fun v _=>v=.tup [.int .i64 r.1,.int .i64 r.2])
 xf:∀{a0:(List ah)} {a1:Int} {a2:(List au)} {r:(Int×(List au))},K.xf a0 a1 a2=some r→gm Tryz.prog 86 [.sl (List.map aP a0),.ptr 1 0,.ptr 2 0,.ptr 3 0] [(1,[.int .i64 a1]),(2,[.fno 86 [.ptr 1 0,.ptr 2 0,.ptr 3 0]]),(3,[.ref 9])] 9 ⟨101,5,List.map aM a2⟩ [9,1,2,3,1000001,1000002,1000003] (fun v s=>v=.tup []∧dt s.o [(1,[.int .i64 r.1]),(2,[.fno 86 [.ptr 1 0,.ptr 2 0,.ptr 3 0]]),(3,[.ref 9])]∧look 9 s.r=some ⟨101,5,List.map aM r.2⟩)
 lN:∀{a0:ah} {a1:aR} {a2:Bool} {r:ab},K.lN a0 a1 a2=some r→aN Tryz.prog 107 [.agg (aX a0),.agg (bi a1),.bool a2] (fun v _=>v=.agg (aC r))
 sh:∀{f:Fv} {a0:(List ah)} {a1:aF} {a2:Int} {r:((List ab)×Int)},K.sh f a0 a1 a2=some r→cF Tryz.prog f.id=true∧aN Tryz.prog f.id ([.sl (List.map aP a0),.agg (aI a1),.int .i64 a2]++f.ba) (fun v _=>v=.tup [.sl (List.map aB r.1),.int .i64 r.2])
 sZ:∀{f:Fv} {a0:(List ah)} {a1:aF} {r:(Int×Int)},K.sZ f a0 a1=some r→cF Tryz.prog f.id=true∧aN Tryz.prog f.id ([.sl (List.map aP a0),.agg (aI a1)]++f.ba) (fun v _=>v=.tup [.int .i64 r.1,.int .i64 r.2])
 n8:∀{f:Fv} {a0:ah} {a1:Int} {r:ab},K.n8 f a0 a1=some r→cF Tryz.prog f.id=true∧aN Tryz.prog f.id ([.agg (aX a0),.int .i64 a1]++f.ba) (fun v _=>v=.agg (aC r))
 jz:∀{f:Fv} {a0:ah} {r:Bool},K.jz f a0=some r→cF Tryz.prog f.id=true∧aN Tryz.prog f.id ([.agg (aX a0)]++f.ba) (fun v _=>v=.bool r)
 ye:∀{f:Fv} {a0:ah} {r:(Int×Int)},K.ye f a0=some r→cF Tryz.prog f.id=true∧aN Tryz.prog f.id ([.agg (aX a0)]++f.ba) (fun v _=>v=.tup [.int .i64 r.1,.int .i64 r.2])
 pC:∀{f:Fv} {a0:ah} {r:aH},K.pC f a0=some r→cF Tryz.prog f.id=true∧aN Tryz.prog f.id ([.agg (aX a0)]++f.ba) (fun v _=>v=.agg (bg r))
end Go.Proofs.YtnpmlepplfaijaaGreat

/- What is asked of calls that come back. Made by a program. -/
import Derived.Test.YtnpmlepplfaijaaGreatIrGf
import Derived.Test.YtnpmlepplfaijaaGreatProg
namespace Go.Proofs.YtnpmlepplfaijaaGreat
open Go.RowKit
set_option maxRecDepth 20000
set_option linter.all false
set_option linter.unusedVariables false
set_option linter.unusedSimpArgs false
structure aq(K:Kn):Prop where
 re:∀{a0:ae} {a1:ae} {r:Bool},K.re a0 a1=some r→aN Tryz.prog 13 [.agg (aF a0),.agg (aF a1)] (fun v _=>v=.bool r)
 wj:∀{a0:(List b9)} {a1:Int} {a2:Int} {r:((List aj)×Int)},K.wj a0 a1 a2=some r→aN Tryz.prog 30 [.sl (List.map cd a0),.int .i64 a1,.int .u8 a2] (fun v _=>v=.tup [.sl (List.map aO r.1),.int .i64 r.2])
 tZ:∀{a0:(List aj)} {a1:(List aI)} {r:(List aI)},K.tZ a0 a1=some r→f0 Tryz.prog 35 [.ref 9,.sl (List.map aO a0)] [] 9 ⟨54,64,List.map aD a1⟩ [9] (fun v s=>v=.ref 9∧dt s.o []∧look 9 s.r=some ⟨54,64,List.map aD r⟩)
 lr:∀{a0:aj} {r:(Int×Int)},K.lr a0=some r→aN Tryz.prog 83 [.agg (aV a0)] (fun v _=>v=.tup [.int .i64 r.1,.int .i64 r.2])
 wz:∀{a0:(List aj)} {a1:Int} {a2:(List ax)} {r:(Int×(List ax))},K.wz a0 a1 a2=some r→f0 Tryz.prog 86 [.sl (List.map aO a0),.ptr 1 0,.ptr 2 0,.ptr 3 0] [(1,[.int .i64 a1]),(2,[.fno 86 [.ptr 1 0,.ptr 2 0,.ptr 3 0]]),(3,[.ref 9])] 9 ⟨101,5,List.map aK a2⟩ [9,1,2,3,1000001,1000002,1000003] (fun v s=>v=.tup []∧dt s.o [(1,[.int .i64 r.1]),(2,[.fno 86 [.ptr 1 0,.ptr 2 0,.ptr 3 0]]),(3,[.ref 9])]∧look 9 s.r=some ⟨101,5,List.map aK r.2⟩)
 lv:∀{a0:aj} {a1:aP} {a2:Bool} {r:ae},K.lv a0 a1 a2=some r→aN Tryz.prog 107 [.agg (aV a0),.agg (bg a1),.bool a2] (fun v _=>v=.agg (aF r))
 pL:∀{f:Fv} {a0:(List aj)} {a1:aJ} {a2:Int} {r:((List ae)×Int)},K.pL f a0 a1 a2=some r→cB Tryz.prog f.id=true∧aN Tryz.prog f.id ([.sl (List.map aO a0),.agg (aE a1),.int .i64 a2]++f.aX) (fun v _=>v=.tup [.sl (List.map aC r.1),.int .i64 r.2])
 tS:∀{f:Fv} {a0:(List aj)} {a1:aJ} {r:(Int×Int)},K.tS f a0 a1=some r→cB Tryz.prog f.id=true∧aN Tryz.prog f.id ([.sl (List.map aO a0),.agg (aE a1)]++f.aX) (fun v _=>v=.tup [.int .i64 r.1,.int .i64 r.2])
 mM:∀{f:Fv} {a0:aj} {a1:Int} {r:ae},K.mM f a0 a1=some r→cB Tryz.prog f.id=true∧aN Tryz.prog f.id ([.agg (aV a0),.int .i64 a1]++f.aX) (fun v _=>v=.agg (aF r))
 jn:∀{f:Fv} {a0:aj} {r:Bool},K.jn f a0=some r→cB Tryz.prog f.id=true∧aN Tryz.prog f.id ([.agg (aV a0)]++f.aX) (fun v _=>v=.bool r)
 ub:∀{f:Fv} {a0:aj} {r:(Int×Int)},K.ub f a0=some r→cB Tryz.prog f.id=true∧aN Tryz.prog f.id ([.agg (aV a0)]++f.aX) (fun v _=>v=.tup [.int .i64 r.1,.int .i64 r.2])
 qg:∀{f:Fv} {a0:aj} {r:aM},K.qg f a0=some r→cB Tryz.prog f.id=true∧aN Tryz.prog f.id ([.agg (aV a0)]++f.aX) (fun v _=>v=.agg (aY r))
end Go.Proofs.YtnpmlepplfaijaaGreat

/- What is asked of calls that come back. Made by a program. -/
import Derived.Test.YtnpmlepplfaijaaGreatIwGf
import Derived.Test.YtnpmlepplfaijaaGreatProg
namespace Go.Proofs.YtnpmlepplfaijaaGreat
open Go.RowKit
set_option maxRecDepth 20000
set_option linter.all false
set_option linter.unusedVariables false
set_option linter.unusedSimpArgs false
structure am(K:Kn):Prop where
 z3:∀{a0:ah} {a1:ah} {r:Bool},K.z3 a0 a1=some r→aO Tryz.prog 13 [.agg (aH a0),.agg (aH a1)] (fun v _=>v=.bool r)
 zR:∀{a0:(List ci)} {a1:Int} {a2:Int} {r:((List ai)×Int)},K.zR a0 a1 a2=some r→aO Tryz.prog 30 [.sl (List.map b9 a0),.int .i64 a1,.int .u8 a2] (fun v _=>v=.tup [.sl (List.map aQ r.1),.int .i64 r.2])
 Aa:∀{a0:(List ai)} {a1:(List aM)} {r:(List aM)},K.Aa a0 a1=some r→fl Tryz.prog 35 [.ref 9,.sl (List.map aQ a0)] [] 9 ⟨54,64,List.map aS a1⟩ [9] (fun v s=>v=.ref 9∧dh s.o []∧look 9 s.r=some ⟨54,64,List.map aS r⟩)
 jS:∀{a0:ai} {r:(Int×Int)},K.jS a0=some r→aO Tryz.prog 83 [.agg (aW a0)] (fun v _=>v=.tup [.int .i64 r.1,.int .i64 r.2])
 y9:∀{a0:(List ai)} {a1:Int} {a2:(List aw)} {r:(Int×(List aw))},K.y9 a0 a1 a2=some r→fl Tryz.prog 86 [.sl (List.map aQ a0),.ptr 1 0,.ptr 2 0,.ptr 3 0] [(1,[.int .i64 a1]),(2,[.fno 86 [.ptr 1 0,.ptr 2 0,.ptr 3 0]]),(3,[.ref 9])] 9 ⟨101,5,List.map au a2⟩ [9,1,2,3,1000001,1000002,1000003] (fun v s=>v=.tup []∧dh s.o [(1,[.int .i64 r.1]),(2,[.fno 86 [.ptr 1 0,.ptr 2 0,.ptr 3 0]]),(3,[.ref 9])]∧look 9 s.r=some ⟨101,5,List.map au r.2⟩)
 mw:∀{a0:ai} {a1:aV} {a2:Bool} {r:ah},K.mw a0 a1 a2=some r→aO Tryz.prog 107 [.agg (aW a0),.agg (bm a1),.bool a2] (fun v _=>v=.agg (aH r))
 rC:∀{f:Fv} {a0:(List ai)} {a1:aI} {a2:Int} {r:((List ah)×Int)},K.rC f a0 a1 a2=some r→cN Tryz.prog f.id=true∧aO Tryz.prog f.id ([.sl (List.map aQ a0),.agg (aJ a1),.int .i64 a2]++f.bb) (fun v _=>v=.tup [.sl (List.map aG r.1),.int .i64 r.2])
 tn:∀{f:Fv} {a0:(List ai)} {a1:aI} {r:(Int×Int)},K.tn f a0 a1=some r→cN Tryz.prog f.id=true∧aO Tryz.prog f.id ([.sl (List.map aQ a0),.agg (aJ a1)]++f.bb) (fun v _=>v=.tup [.int .i64 r.1,.int .i64 r.2])
 o7:∀{f:Fv} {a0:ai} {a1:Int} {r:ah},K.o7 f a0 a1=some r→cN Tryz.prog f.id=true∧aO Tryz.prog f.id ([.agg (aW a0),.int .i64 a1]++f.bb) (fun v _=>v=.agg (aH r))
 jn:∀{f:Fv} {a0:ai} {r:Bool},K.jn f a0=some r→cN Tryz.prog f.id=true∧aO Tryz.prog f.id ([.agg (aW a0)]++f.bb) (fun v _=>v=.bool r)
 lJ:∀{f:Fv} {a0:ai} {r:(Int×Int)},K.lJ f a0=some r→cN Tryz.prog f.id=true∧aO Tryz.prog f.id ([.agg (aW a0)]++f.bb) (fun v _=>v=.tup [.int .i64 r.1,.int .i64 r.2])
 rP:∀{f:Fv} {a0:ai} {r:ay},K.rP f a0=some r→cN Tryz.prog f.id=true∧aO Tryz.prog f.id ([.agg (aW a0)]++f.bb) (fun v _=>v=.agg (aN r))
end Go.Proofs.YtnpmlepplfaijaaGreat

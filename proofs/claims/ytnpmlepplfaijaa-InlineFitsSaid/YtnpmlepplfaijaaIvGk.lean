/- What is asked of calls that come back. Made by a program. -/
import Derived.Test.YtnpmlepplfaijaaIvGf
import Derived.Test.YtnpmlepplfaijaaProg
namespace Go.Proofs.Ytnpmlepplfaijaa
open Go.RowKit
set_option maxRecDepth 20000
set_option linter.all false
set_option linter.unusedVariables false
set_option linter.unusedSimpArgs false
structure aj(K:Kn):Prop where
 qE:∀{a0:(List bG)} {a1:Int} {a2:Int} {r:((List ai)×Int)},K.qE a0 a1 a2=some r→aN Try.prog 34 [.sl (List.map bC a0),.int .i64 a1,.int .u8 a2] (fun v _=>v=.tup [.sl (List.map aP r.1),.int .i64 r.2])
 o9:∀{a0:(List ai)} {a1:Int} {a2:(List ao)} {r:(Int×(List ao))},K.o9 a0 a1 a2=some r→fY Try.prog 66 [.sl (List.map aP a0),.ptr 1 0,.ptr 2 0,.ptr 3 0] [(1,[.int .i64 a1]),(2,[.fno 66 [.ptr 1 0,.ptr 2 0,.ptr 3 0]]),(3,[.ref 9])] 9 ⟨99,5,List.map av a2⟩ [9,1,2,3,1000001,1000002,1000003] (fun v s=>v=.tup []∧dn s.o [(1,[.int .i64 r.1]),(2,[.fno 66 [.ptr 1 0,.ptr 2 0,.ptr 3 0]]),(3,[.ref 9])]∧look 9 s.r=some ⟨99,5,List.map av r.2⟩)
 lY:∀{f:Fv} {a0:(List ai)} {a1:aF} {a2:Int} {r:((List af)×Int)},K.lY f a0 a1 a2=some r→bZ Try.prog f.id=true∧aN Try.prog f.id ([.sl (List.map aP a0),.agg (aA a1),.int .i64 a2]++f.aM) (fun v _=>v=.tup [.sl (List.map aB r.1),.int .i64 r.2])
 qL:∀{f:Fv} {a0:(List ai)} {a1:aF} {r:(Int×Int)},K.qL f a0 a1=some r→bZ Try.prog f.id=true∧aN Try.prog f.id ([.sl (List.map aP a0),.agg (aA a1)]++f.aM) (fun v _=>v=.tup [.int .i64 r.1,.int .i64 r.2])
 oH:∀{f:Fv} {a0:ai} {a1:Int} {r:af},K.oH f a0 a1=some r→bZ Try.prog f.id=true∧aN Try.prog f.id ([.agg (aV a0),.int .i64 a1]++f.aM) (fun v _=>v=.agg (aK r))
 nD:∀{f:Fv} {a0:ai} {r:Bool},K.nD f a0=some r→bZ Try.prog f.id=true∧aN Try.prog f.id ([.agg (aV a0)]++f.aM) (fun v _=>v=.bool r)
 o8:∀{f:Fv} {a0:ai} {r:(Int×Int)},K.o8 f a0=some r→bZ Try.prog f.id=true∧aN Try.prog f.id ([.agg (aV a0)]++f.aM) (fun v _=>v=.tup [.int .i64 r.1,.int .i64 r.2])
 jL:∀{f:Fv} {a0:ai} {r:aq},K.jL f a0=some r→bZ Try.prog f.id=true∧aN Try.prog f.id ([.agg (aV a0)]++f.aM) (fun v _=>v=.agg (ay r))
end Go.Proofs.Ytnpmlepplfaijaa

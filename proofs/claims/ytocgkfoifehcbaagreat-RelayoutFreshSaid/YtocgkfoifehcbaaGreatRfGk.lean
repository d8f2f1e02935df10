/- What is asked of calls that come back. Made by a program. -/
import Derived.Test.YtocgkfoifehcbaaGreatRfGf
import Derived.Test.YtocgkfoifehcbaaGreatProg
namespace Go.Proofs.YtocgkfoifehcbaaGreat
open Go.RowKit
set_option maxRecDepth 20000
set_option linter.all false
set_option linter.unusedVariables false
set_option linter.unusedSimpArgs false
structure ao[GS](K:Kn):Prop where
 sG:∀{a0:aa} {r:Int},K.sG a0=some r→aU Tryz.prog 15 [.agg (av a0)] (fun v _=>v=.int .i64 r)
 qt:∀{a0:aa} {a1:aa} {r:Int},K.qt a0 a1=some r→aU Tryz.prog 17 [.agg (av a0),.agg (av a1)] (fun v _=>v=.int .i64 r)
 pE:∀{a0:aa} {a1:aa} {r:Bool},K.pE a0 a1=some r→aU Tryz.prog 23 [.agg (av a0),.agg (av a1)] (fun v _=>v=.bool r)
 oJ:∀{a0:aa} {a1:aa} {r:Bool},K.oJ a0 a1=some r→aU Tryz.prog 24 [.agg (av a0),.agg (av a1)] (fun v _=>v=.bool r)
 vT:∀{a0:aa} {a1:aa} {r:Bool},K.vT a0 a1=some r→aU Tryz.prog 28 [.agg (av a0),.agg (av a1)] (fun v _=>v=.bool r)
 td:∀{a0:ai} {r:ai},K.td a0=some r→aU Tryz.prog 40 [.agg (aO a0)] (fun v _=>v=.agg (aO r))
 gY:∀{a0:(List aw)} {a1:Int} {r:(aa×Int)},K.gY a0 a1=some r→aU Tryz.prog 41 [.sl (List.map aA a0),.int .i64 a1] (fun v _=>v=.tup [.agg (av r.1),.int .i64 r.2])
 JT:∀{a0:aa} {a1:(List aw)} {r:aa},K.JT a0 a1=some r→aU Tryz.prog 42 [.agg (av a0),.sl (List.map aA a1)] (fun v _=>v=.agg (av r))
 qZ:∀{a0:ai} {r:ai},K.qZ a0=some r→aU Tryz.prog 73 [.agg (aO a0)] (fun v _=>v=.agg (aO r))
 px:∀{a0:eU} {a1:aa} {a2:(List Int)} {r:Unit},K.px a0 a1 a2=some r→aU Tryz.prog 76 [.agg (mh a0),.agg (av a1),.sl (List.map (ba .i64) a2)] (fun v _=>v=Bk r)
 tY:∀{a0:(List aa)} {a1:Int} {a2:(List aD)} {r:(Int×(List aD))},K.tY a0 a1 a2=some r→f8 Tryz.prog 175 [.sl (List.map aR a0),.ptr 1 0,.ptr 2 0,.ptr 3 0] [(1,[.int .i64 a1]),(2,[.fno 175 [.ptr 1 0,.ptr 2 0,.ptr 3 0]]),(3,[.ref 9])] 9 ⟨210,5,List.map am a2⟩ [9,1,2,3,1000001,1000002,1000003] (fun v s=>v=.tup []∧cj s.o [(1,[.int .i64 r.1]),(2,[.fno 175 [.ptr 1 0,.ptr 2 0,.ptr 3 0]]),(3,[.ref 9])]∧look 9 s.r=some ⟨210,5,List.map am r.2⟩)
 pS:∀{f:Fv} {a0:(List aa)} {a1:aJ} {a2:Int} {r:((List ai)×Int)},K.pS f a0 a1 a2=some r→cf Tryz.prog f.id=true∧aU Tryz.prog f.id ([.sl (List.map aR a0),.agg (aV a1),.int .i64 a2]++f.aP) (fun v _=>v=.tup [.sl (List.map aY r.1),.int .i64 r.2])
 uU:∀{f:Fv} {a0:(List aa)} {a1:aJ} {r:(Int×Int)},K.uU f a0 a1=some r→cf Tryz.prog f.id=true∧aU Tryz.prog f.id ([.sl (List.map aR a0),.agg (aV a1)]++f.aP) (fun v _=>v=.tup [.int .i64 r.1,.int .i64 r.2])
 gB:∀{f:Fv} {a0:aa} {a1:Int} {a2:Int} {a3:Int} {a4:(List aG)} {r:(ai×Int×Int×(List aG))},K.gB f a0 a1 a2 a3 a4=some r→cf Tryz.prog f.id=true∧eG Tryz.prog f.id ([.agg (av a0),.int .i64 a1]++f.aP) [(440001,List.set (bL (⟨[],a2,a3⟩:bH)) 0 (.ref 440009))] ⟨64,127,List.map bc a4⟩ (fun v s=>v=.agg (aO r.1)∧cj s.o [(440001,List.set (bL (⟨[],r.2.1,r.2.2.1⟩:bH)) 0 (.ref 440009))]∧look 440009 s.r=some ⟨64,127,List.map bc r.2.2.2⟩)
 l3:∀{f:Fv} {a0:aa} {a1:aa} {r:Bool},K.l3 f a0 a1=some r→cf Tryz.prog f.id=true∧aU Tryz.prog f.id ([.agg (av a0),.agg (av a1)]++f.aP) (fun v _=>v=.bool r)
 iq:∀{f:Fv} {a0:aa} {r:Bool},K.iq f a0=some r→cf Tryz.prog f.id=true∧aU Tryz.prog f.id ([.agg (av a0)]++f.aP) (fun v _=>v=.bool r)
 oC:∀{f:Fv} {a0:aa} {r:(Int×Int)},K.oC f a0=some r→cf Tryz.prog f.id=true∧aU Tryz.prog f.id ([.agg (av a0)]++f.aP) (fun v _=>v=.tup [.int .i64 r.1,.int .i64 r.2])
 nG:∀{f:Fv} {a0:aa} {r:au},K.nG f a0=some r→cf Tryz.prog f.id=true∧aU Tryz.prog f.id ([.agg (av a0)]++f.aP) (fun v _=>v=.agg (aI r))
 oK:∀{f:Fv} {a0:aG} {r:Bool},K.oK f a0=some r→cf Tryz.prog f.id=true∧aU Tryz.prog f.id ([.agg (bc a0)]++f.aP) (fun v _=>v=.bool r)
end Go.Proofs.YtocgkfoifehcbaaGreat

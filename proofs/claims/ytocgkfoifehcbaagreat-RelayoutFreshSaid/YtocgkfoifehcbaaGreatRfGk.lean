/- What is asked of calls that come back. Made by a program. -/
import Derived.Test.YtocgkfoifehcbaaGreatRfGf
import Derived.Test.YtocgkfoifehcbaaGreatProg
namespace Go.Proofs.YtocgkfoifehcbaaGreat
open Go.RowKit
set_option maxRecDepth 20000
set_option linter.all false
set_option linter.unusedVariables false
set_option linter.unusedSimpArgs false
structure ao[GS](K:Kn):Prop where
 sB:∀{a0:aa} {r:Int},K.sB a0=some r→aS Tryz.prog 15 [.agg (aw a0)] (fun v _=>v=.int .i64 r)
 pT:∀{a0:aa} {a1:aa} {r:Int},K.pT a0 a1=some r→aS Tryz.prog 17 [.agg (aw a0),.agg (aw a1)] (fun v _=>v=.int .i64 r)
 oe:∀{a0:aa} {a1:aa} {r:Bool},K.oe a0 a1=some r→aS Tryz.prog 23 [.agg (aw a0),.agg (aw a1)] (fun v _=>v=.bool r)
 nO:∀{a0:aa} {a1:aa} {r:Bool},K.nO a0 a1=some r→aS Tryz.prog 24 [.agg (aw a0),.agg (aw a1)] (fun v _=>v=.bool r)
 w7:∀{a0:aa} {a1:aa} {r:Bool},K.w7 a0 a1=some r→aS Tryz.prog 28 [.agg (aw a0),.agg (aw a1)] (fun v _=>v=.bool r)
 rO:∀{a0:ai} {r:ai},K.rO a0=some r→aS Tryz.prog 40 [.agg (aO a0)] (fun v _=>v=.agg (aO r))
 gY:∀{a0:(List av)} {a1:Int} {r:(aa×Int)},K.gY a0 a1=some r→aS Tryz.prog 41 [.sl (List.map aA a0),.int .i64 a1] (fun v _=>v=.tup [.agg (aw r.1),.int .i64 r.2])
 Dw:∀{a0:aa} {a1:(List av)} {r:aa},K.Dw a0 a1=some r→aS Tryz.prog 42 [.agg (aw a0),.sl (List.map aA a1)] (fun v _=>v=.agg (aw r))
 sG:∀{a0:ai} {r:ai},K.sG a0=some r→aS Tryz.prog 73 [.agg (aO a0)] (fun v _=>v=.agg (aO r))
 ny:∀{a0:fd} {a1:aa} {a2:(List Int)} {r:Unit},K.ny a0 a1 a2=some r→aS Tryz.prog 76 [.agg (mQ a0),.agg (aw a1),.sl (List.map (ba .i64) a2)] (fun v _=>v=zF r)
 uW:∀{a0:(List aa)} {a1:Int} {a2:(List aD)} {r:(Int×(List aD))},K.uW a0 a1 a2=some r→gg Tryz.prog 175 [.sl (List.map aR a0),.ptr 1 0,.ptr 2 0,.ptr 3 0] [(1,[.int .i64 a1]),(2,[.fno 175 [.ptr 1 0,.ptr 2 0,.ptr 3 0]]),(3,[.ref 9])] 9 ⟨210,5,List.map am a2⟩ [9,1,2,3,1000001,1000002,1000003] (fun v s=>v=.tup []∧cn s.o [(1,[.int .i64 r.1]),(2,[.fno 175 [.ptr 1 0,.ptr 2 0,.ptr 3 0]]),(3,[.ref 9])]∧look 9 s.r=some ⟨210,5,List.map am r.2⟩)
 rB:∀{f:Fv} {a0:(List aa)} {a1:aJ} {a2:Int} {r:((List ai)×Int)},K.rB f a0 a1 a2=some r→cf Tryz.prog f.id=true∧aS Tryz.prog f.id ([.sl (List.map aR a0),.agg (aV a1),.int .i64 a2]++f.aP) (fun v _=>v=.tup [.sl (List.map aY r.1),.int .i64 r.2])
 uE:∀{f:Fv} {a0:(List aa)} {a1:aJ} {r:(Int×Int)},K.uE f a0 a1=some r→cf Tryz.prog f.id=true∧aS Tryz.prog f.id ([.sl (List.map aR a0),.agg (aV a1)]++f.aP) (fun v _=>v=.tup [.int .i64 r.1,.int .i64 r.2])
 gm:∀{f:Fv} {a0:aa} {a1:Int} {a2:Int} {a3:Int} {a4:(List aG)} {r:(ai×Int×Int×(List aG))},K.gm f a0 a1 a2 a3 a4=some r→cf Tryz.prog f.id=true∧eG Tryz.prog f.id ([.agg (aw a0),.int .i64 a1]++f.aP) [(440001,List.set (bL (⟨[],a2,a3⟩:bH)) 0 (.ref 440009))] ⟨64,127,List.map bd a4⟩ (fun v s=>v=.agg (aO r.1)∧cn s.o [(440001,List.set (bL (⟨[],r.2.1,r.2.2.1⟩:bH)) 0 (.ref 440009))]∧look 440009 s.r=some ⟨64,127,List.map bd r.2.2.2⟩)
 ly:∀{f:Fv} {a0:aa} {a1:aa} {r:Bool},K.ly f a0 a1=some r→cf Tryz.prog f.id=true∧aS Tryz.prog f.id ([.agg (aw a0),.agg (aw a1)]++f.aP) (fun v _=>v=.bool r)
 iQ:∀{f:Fv} {a0:aa} {r:Bool},K.iQ f a0=some r→cf Tryz.prog f.id=true∧aS Tryz.prog f.id ([.agg (aw a0)]++f.aP) (fun v _=>v=.bool r)
 nP:∀{f:Fv} {a0:aa} {r:(Int×Int)},K.nP f a0=some r→cf Tryz.prog f.id=true∧aS Tryz.prog f.id ([.agg (aw a0)]++f.aP) (fun v _=>v=.tup [.int .i64 r.1,.int .i64 r.2])
 ol:∀{f:Fv} {a0:aa} {r:au},K.ol f a0=some r→cf Tryz.prog f.id=true∧aS Tryz.prog f.id ([.agg (aw a0)]++f.aP) (fun v _=>v=.agg (aI r))
 nh:∀{f:Fv} {a0:aG} {r:Bool},K.nh f a0=some r→cf Tryz.prog f.id=true∧aS Tryz.prog f.id ([.agg (bd a0)]++f.aP) (fun v _=>v=.bool r)
end Go.Proofs.YtocgkfoifehcbaaGreat

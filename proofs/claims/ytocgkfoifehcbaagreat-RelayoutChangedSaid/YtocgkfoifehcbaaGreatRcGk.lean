/- What is asked of calls that come back. Made by a program. -/
import Derived.Test.YtocgkfoifehcbaaGreatRcGf
import Derived.Test.YtocgkfoifehcbaaGreatProg
namespace Go.Proofs.YtocgkfoifehcbaaGreat
open Go.RowKit
set_option maxRecDepth 20000
set_option linter.all false
set_option linter.unusedVariables false
set_option linter.unusedSimpArgs false
structure ak[GS](K:Kn):Prop where
 nj:∀{a0:ah} {a1:ah} {r:Bool},K.nj a0 a1=some r→aW Tryz.prog 23 [.agg (ap a0),.agg (ap a1)] (fun v _=>v=.bool r)
 mQ:∀{a0:ah} {a1:ah} {r:Bool},K.mQ a0 a1=some r→aW Tryz.prog 24 [.agg (ap a0),.agg (ap a1)] (fun v _=>v=.bool r)
 lP:∀{a0:ah} {a1:ah} {a2:(List Int)} {r:(List Int)},K.lP a0 a1 a2=some r→ex Tryz.prog 26 [.agg (ap a0),.agg (ap a1),.ref 9] [] 9 ⟨3,1,List.map (af .i64) a2⟩ [9] (fun v s=>v=.ref 9∧bW s.o []∧look 9 s.r=some ⟨3,1,List.map (af .i64) r⟩)
 tx:∀{a0:ah} {a1:ah} {r:Bool},K.tx a0 a1=some r→aW Tryz.prog 28 [.agg (ap a0),.agg (ap a1)] (fun v _=>v=.bool r)
 um:∀{a0:aj} {r:aj},K.um a0=some r→aW Tryz.prog 40 [.agg (aI a0)] (fun v _=>v=.agg (aI r))
 gQ:∀{a0:(List aM)} {a1:Int} {r:(ah×Int)},K.gQ a0 a1=some r→aW Tryz.prog 41 [.sl (List.map aH a0),.int .i64 a1] (fun v _=>v=.tup [.agg (ap r.1),.int .i64 r.2])
 Hb:∀{a0:ah} {a1:(List aM)} {r:ah},K.Hb a0 a1=some r→aW Tryz.prog 42 [.agg (ap a0),.sl (List.map aH a1)] (fun v _=>v=.agg (ap r))
 l8:∀{a0:ah} {a1:ah} {a2:(List Int)} {r:(ah×(List Int))},K.l8 a0 a1 a2=some r→ex Tryz.prog 61 [.agg (ap a0),.ptr 3 0,.ptr 1 0,.ptr 2 0] [(1,ap a1),(2,[.fno 61 [.ptr 3 0,.ptr 1 0,.ptr 2 0]]),(3,[.ref 9])] 9 ⟨3,1,List.map (af .i64) a2⟩ [9,1,2,3,1000001,1000002,1000003] (fun v s=>v=.tup []∧bW s.o [(1,ap r.1),(2,[.fno 61 [.ptr 3 0,.ptr 1 0,.ptr 2 0]]),(3,[.ref 9])]∧look 9 s.r=some ⟨3,1,List.map (af .i64) r.2⟩)
 s5:∀{a0:aj} {r:aj},K.s5 a0=some r→aW Tryz.prog 73 [.agg (aI a0)] (fun v _=>v=.agg (aI r))
 yT:∀{a0:fP} {a1:ah} {a2:(List Int)} {r:Unit},K.yT a0 a1 a2=some r→aW Tryz.prog 76 [.agg (kw a0),.agg (ap a1),.sl (List.map (af .i64) a2)] (fun v _=>v=fe r)
 tZ:∀{a0:(List ah)} {a1:Int} {a2:(List bh)} {r:(Int×(List bh))},K.tZ a0 a1 a2=some r→ex Tryz.prog 175 [.sl (List.map aF a0),.ptr 1 0,.ptr 2 0,.ptr 3 0] [(1,[.int .i64 a1]),(2,[.fno 175 [.ptr 1 0,.ptr 2 0,.ptr 3 0]]),(3,[.ref 9])] 9 ⟨210,5,List.map aw a2⟩ [9,1,2,3,1000001,1000002,1000003] (fun v s=>v=.tup []∧bW s.o [(1,[.int .i64 r.1]),(2,[.fno 175 [.ptr 1 0,.ptr 2 0,.ptr 3 0]]),(3,[.ref 9])]∧look 9 s.r=some ⟨210,5,List.map aw r.2⟩)
 l9:∀{a0:(List Int)} {a1:Int} {a2:Int} {a3:Int} {a4:Fv} {r:(List Int)},K.l9 a0 a1 a2 a3 a4=some r→gW Tryz.prog 190 [.ref 0,.int .i64 a1,.int .i64 a2,.int .i64 a3,.fn a4.id a4.aK] 0 ⟨3,1,List.map (af .i64) a0⟩ (fun v s=>v=fe r∧look 0 s.r=some ⟨3,1,List.map (af .i64) r⟩)
 fA:∀{f:Fv} {a0:Int} {a1:Int} {r:Int},K.fA f a0 a1=some r→co Tryz.prog f.id=true∧aW Tryz.prog f.id ([.int .i64 a0,.int .i64 a1]++f.aK) (fun v _=>v=.int .i64 r)
 yv:∀{f:Fv} {a0:(List ah)} {a1:aX} {a2:Int} {r:((List aj)×Int)},K.yv f a0 a1 a2=some r→co Tryz.prog f.id=true∧aW Tryz.prog f.id ([.sl (List.map aF a0),.agg (aE a1),.int .i64 a2]++f.aK) (fun v _=>v=.tup [.sl (List.map aL r.1),.int .i64 r.2])
 xg:∀{f:Fv} {a0:(List ah)} {a1:aX} {r:(Int×Int)},K.xg f a0 a1=some r→co Tryz.prog f.id=true∧aW Tryz.prog f.id ([.sl (List.map aF a0),.agg (aE a1)]++f.aK) (fun v _=>v=.tup [.int .i64 r.1,.int .i64 r.2])
 gR:∀{f:Fv} {a0:ah} {a1:Int} {a2:Int} {a3:Int} {a4:(List aA)} {r:(aj×Int×Int×(List aA))},K.gR f a0 a1 a2 a3 a4=some r→co Tryz.prog f.id=true∧dA Tryz.prog f.id ([.agg (ap a0),.int .i64 a1]++f.aK) [(440001,List.set (bt (⟨[],a2,a3⟩:bq)) 0 (.ref 440009))] ⟨64,127,List.map aY a4⟩ (fun v s=>v=.agg (aI r.1)∧bW s.o [(440001,List.set (bt (⟨[],r.2.1,r.2.2.1⟩:bq)) 0 (.ref 440009))]∧look 440009 s.r=some ⟨64,127,List.map aY r.2.2.2⟩)
 j6:∀{f:Fv} {a0:ah} {a1:ah} {r:Bool},K.j6 f a0 a1=some r→co Tryz.prog f.id=true∧aW Tryz.prog f.id ([.agg (ap a0),.agg (ap a1)]++f.aK) (fun v _=>v=.bool r)
 mF:∀{f:Fv} {a0:ah} {r:Bool},K.mF f a0=some r→co Tryz.prog f.id=true∧aW Tryz.prog f.id ([.agg (ap a0)]++f.aK) (fun v _=>v=.bool r)
 ii:∀{f:Fv} {a0:ah} {r:(Int×Int)},K.ii f a0=some r→co Tryz.prog f.id=true∧aW Tryz.prog f.id ([.agg (ap a0)]++f.aK) (fun v _=>v=.tup [.int .i64 r.1,.int .i64 r.2])
 vE:∀{f:Fv} {a0:ah} {r:aD},K.vE f a0=some r→co Tryz.prog f.id=true∧aW Tryz.prog f.id ([.agg (ap a0)]++f.aK) (fun v _=>v=.agg (aS r))
 xe:∀{f:Fv} {a0:aA} {r:Bool},K.xe f a0=some r→co Tryz.prog f.id=true∧aW Tryz.prog f.id ([.agg (aY a0)]++f.aK) (fun v _=>v=.bool r)
end Go.Proofs.YtocgkfoifehcbaaGreat

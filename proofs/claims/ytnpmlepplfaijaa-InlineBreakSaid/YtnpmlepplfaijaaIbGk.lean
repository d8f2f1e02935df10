/- What is asked of calls that come back. Made by a program. -/
import Derived.Test.YtnpmlepplfaijaaIbGf
import Derived.Test.YtnpmlepplfaijaaProg
namespace Go.Proofs.Ytnpmlepplfaijaa
open Go.RowKit
set_option maxRecDepth 20000
set_option linter.all false
set_option linter.unusedVariables false
set_option linter.unusedSimpArgs false
structure ai(K:Kn):Prop where
 mK:∀{a0:(List aq)} {a1:Int} {a2:(List aC)} {r:(Int×(List aC))},K.mK a0 a1 a2=some r→fp Try.prog 66 [.sl (List.map aO a0),.ptr 1 0,.ptr 2 0,.ptr 3 0] [(1,[.int .i64 a1]),(2,[.fno 66 [.ptr 1 0,.ptr 2 0,.ptr 3 0]]),(3,[.ref 9])] 9 ⟨99,5,List.map am a2⟩ [9,1,2,3,1000001,1000002,1000003] (fun v s=>v=.tup []∧c8 s.o [(1,[.int .i64 r.1]),(2,[.fno 66 [.ptr 1 0,.ptr 2 0,.ptr 3 0]]),(3,[.ref 9])]∧look 9 s.r=some ⟨99,5,List.map am r.2⟩)
 lc:∀{f:Fv} {a0:(List aq)} {a1:aK} {a2:Int} {r:((List ae)×Int)},K.lc f a0 a1 a2=some r→bT Try.prog f.id=true∧aJ Try.prog f.id ([.sl (List.map aO a0),.agg (aA a1),.int .i64 a2]++f.aG) (fun v _=>v=.tup [.sl (List.map au r.1),.int .i64 r.2])
 nI:∀{f:Fv} {a0:(List aq)} {a1:aK} {r:(Int×Int)},K.nI f a0 a1=some r→bT Try.prog f.id=true∧aJ Try.prog f.id ([.sl (List.map aO a0),.agg (aA a1)]++f.aG) (fun v _=>v=.tup [.int .i64 r.1,.int .i64 r.2])
 lF:∀{f:Fv} {a0:aq} {a1:Int} {r:ae},K.lF f a0 a1=some r→bT Try.prog f.id=true∧aJ Try.prog f.id ([.agg (aW a0),.int .i64 a1]++f.aG) (fun v _=>v=.agg (aD r))
 ny:∀{f:Fv} {a0:aq} {r:Bool},K.ny f a0=some r→bT Try.prog f.id=true∧aJ Try.prog f.id ([.agg (aW a0)]++f.aG) (fun v _=>v=.bool r)
 nL:∀{f:Fv} {a0:aq} {r:(Int×Int)},K.nL f a0=some r→bT Try.prog f.id=true∧aJ Try.prog f.id ([.agg (aW a0)]++f.aG) (fun v _=>v=.tup [.int .i64 r.1,.int .i64 r.2])
 nX:∀{f:Fv} {a0:aq} {r:av},K.nX f a0=some r→bT Try.prog f.id=true∧aJ Try.prog f.id ([.agg (aW a0)]++f.aG) (fun v _=>v=.agg (ax r))
end Go.Proofs.Ytnpmlepplfaijaa

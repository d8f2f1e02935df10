/- What is asked of calls that come back. Made by a program. -/
import Derived.Test.YtocgkfoifehcbaaGreatRkGf
namespace Go.Proofs.YtocgkfoifehcbaaGreat
open Go.RowKit
set_option maxRecDepth 20000
set_option linter.all false
noncomputable section
abbrev af(x y:Int):Nat×List AV:=(440001,List.set (br (⟨[],x,y⟩:bq)) 0 (.ref 440009))
abbrev ap(x:Nat):List (Nat×Nat):=[(x,6),(x,10),(x,12),(x,14),(x,22),(x,16),(x,24),(x,18),(x,26),(x,20),(x,28)]
theorem aT{α β}{f:α→β}(x:α):f x=f x:=rfl
abbrev bb:=Tryz.prog
abbrev bf:AV:=.tup []
abbrev bk x:=(⟨3,1,lm (ak .i64) x⟩:co)
abbrev bt x:=(⟨64,127,lm aR x⟩:co)
abbrev bx x:=(⟨44,67,lm aN x⟩:co)
abbrev bY x:=(⟨48,59,lm aM x⟩:co)
abbrev b5 x:=(⟨220,9,lm bB x⟩:co)
abbrev b6 x:=(⟨165,62,lm aS x⟩:co)
abbrev b7 x:=(⟨210,5,lm aw x⟩:co)
abbrev g7:=ae×Int×Int×dO
end
structure ao[GS](K:Kn):Prop where
 yg:∀{a0:ae} {a1:ae} {r:Bool},K.yg a0 a1=some r→aX Tryz.prog 16 [.agg (aG a0),.agg (aG a1)] (fun v _=>v=.bool r)
 Bx:∀{a0:ab} {a1:ab} {r:Bool},K.Bx a0 a1=some r→aX Tryz.prog 28 [.agg (aB a0),.agg (aB a1)] (fun v _=>v=.bool r)
 w4:∀{a0:ae} {r:ae},K.w4 a0=some r→aX Tryz.prog 40 [.agg (aG a0)] (fun v _=>v=.agg (aG r))
 kW:∀{a0:h7} {a1:Int} {r:f6},K.kW a0 a1=some r→aX Tryz.prog 41 [.sl (List.map bp a0),.int .i64 a1] (fun v _=>v=.tup [.agg (aB r.1),.int .i64 r.2])
 RE:∀{a0:ab} {a1:h7} {r:ab},K.RE a0 a1=some r→aX Tryz.prog 42 [.agg (aB a0),.sl (List.map bp a1)] (fun v _=>v=.agg (aB r))
 xr:∀{a0:ae} {r:ae},K.xr a0=some r→aX Tryz.prog 73 [.agg (aG a0)] (fun v _=>v=.agg (aG r))
 vn:∀{a0:im} {a1:ab} {a2:ck} {r:Unit},K.vn a0 a1 a2=some r→aX Tryz.prog 76 [.agg (rb a0),.agg (aB a1),.sl (List.map (ak .i64) a2)] (fun v _=>v=nM r)
 DY:∀{a0:d4} {a1:Int} {a2:d6} {r:(Int×d6)},K.DY a0 a1 a2=some r→jw Tryz.prog 175 [.sl (List.map aM a0),.ptr 1 0,.ptr 2 0,.ptr 3 0] [(1,[.int .i64 a1]),(2,[.fno 175 [.ptr 1 0,.ptr 2 0,.ptr 3 0]]),(3,[.ref 9])] 9 ⟨210,5,List.map aw a2⟩ [9,1,2,3,1000001,1000002,1000003] (fun v s=>v=.tup []∧cy s.o [(1,[.int .i64 r.1]),(2,[.fno 175 [.ptr 1 0,.ptr 2 0,.ptr 3 0]]),(3,[.ref 9])]∧look 9 s.r=some ⟨210,5,List.map aw r.2⟩)
 sF:∀{f:Fv} {a0:Int} {a1:Int} {r:Int},K.sF f a0 a1=some r→cF Tryz.prog f.id=true∧aX Tryz.prog f.id ([.int .i64 a0,.int .i64 a1]++f.aO) (fun v _=>v=.int .i64 r)
 A9:∀{f:Fv} {a0:d4} {a1:aI} {a2:Int} {r:(dn×Int)},K.A9 f a0 a1 a2=some r→cF Tryz.prog f.id=true∧aX Tryz.prog f.id ([.sl (List.map aM a0),.agg (aH a1),.int .i64 a2]++f.aO) (fun v _=>v=.tup [.sl (List.map aN r.1),.int .i64 r.2])
 y7:∀{f:Fv} {a0:d4} {a1:aI} {r:em},K.y7 f a0 a1=some r→cF Tryz.prog f.id=true∧aX Tryz.prog f.id ([.sl (List.map aM a0),.agg (aH a1)]++f.aO) (fun v _=>v=.tup [.int .i64 r.1,.int .i64 r.2])
 de:∀{f:Fv} {a0:ab} {a1:Int} {a2:Int} {a3:Int} {a4:dO} {r:g7},K.de f a0 a1 a2 a3 a4=some r→cF Tryz.prog f.id=true∧eo Tryz.prog f.id ([.agg (aB a0),.int .i64 a1]++f.aO) [(440001,List.set (br (⟨[],a2,a3⟩:bq)) 0 (.ref 440009))] ⟨64,127,List.map aR a4⟩ (fun v s=>v=.agg (aG r.1)∧cy s.o [(440001,List.set (br (⟨[],r.2.1,r.2.2.1⟩:bq)) 0 (.ref 440009))]∧look 440009 s.r=some ⟨64,127,List.map aR r.2.2.2⟩)
 pb:∀{f:Fv} {a0:ab} {a1:ab} {r:Bool},K.pb f a0 a1=some r→cF Tryz.prog f.id=true∧aX Tryz.prog f.id ([.agg (aB a0),.agg (aB a1)]++f.aO) (fun v _=>v=.bool r)
 k9:∀{f:Fv} {a0:ab} {r:Bool},K.k9 f a0=some r→cF Tryz.prog f.id=true∧aX Tryz.prog f.id ([.agg (aB a0)]++f.aO) (fun v _=>v=.bool r)
 gm:∀{f:Fv} {a0:ab} {r:em},K.gm f a0=some r→cF Tryz.prog f.id=true∧aX Tryz.prog f.id ([.agg (aB a0)]++f.aO) (fun v _=>v=.tup [.int .i64 r.1,.int .i64 r.2])
 uD:∀{f:Fv} {a0:ab} {r:az},K.uD f a0=some r→cF Tryz.prog f.id=true∧aX Tryz.prog f.id ([.agg (aB a0)]++f.aO) (fun v _=>v=.agg (aS r))
 tx:∀{f:Fv} {a0:ay} {r:Bool},K.tx f a0=some r→cF Tryz.prog f.id=true∧aX Tryz.prog f.id ([.agg (aR a0)]++f.aO) (fun v _=>v=.bool r)
end Go.Proofs.YtocgkfoifehcbaaGreat

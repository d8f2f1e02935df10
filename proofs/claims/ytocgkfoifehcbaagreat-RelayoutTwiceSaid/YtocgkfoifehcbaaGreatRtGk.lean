/- What is asked of calls that come back. Made by a program. -/
import Derived.Test.YtocgkfoifehcbaaGreatRtGf
namespace Go.Proofs.YtocgkfoifehcbaaGreat
open Go.RowKit
set_option maxRecDepth 20000
set_option linter.all false
noncomputable section
abbrev af(x y:Int):Nat×List AV:=(440001,List.set (bA (⟨[],x,y⟩:bv)) 0 (.ref 440009))
abbrev ap(x:Nat):List (Nat×Nat):=[(x,6),(x,10),(x,12),(x,14),(x,22),(x,16),(x,24),(x,18),(x,26),(x,20),(x,28)]
theorem aT{α β}{f:α→β}(x:α):f x=f x:=rfl
abbrev bb:=Tryz.prog
abbrev bf:AV:=.tup []
abbrev bk x:=(⟨3,1,lm (ak .i64) x⟩:cg)
abbrev bt x:=(⟨64,127,lm aZ x⟩:cg)
abbrev bx x:=(⟨44,67,lm aO x⟩:cg)
abbrev bY x:=(⟨48,59,lm aK x⟩:cg)
abbrev b5 x:=(⟨220,9,lm bC x⟩:cg)
abbrev b6 x:=(⟨165,62,lm aX x⟩:cg)
abbrev b7 x:=(⟨210,5,lm aw x⟩:cg)
abbrev hF:=ae×Int×Int×dO
end
structure ao[GS](K:Kn):Prop where
 xE:∀{a0:ab} {r:Int},K.xE a0=some r→bc Tryz.prog 15 [.agg (aB a0)] (fun v _=>v=.int .i64 r)
 AM:∀{a0:ae} {a1:ae} {r:Bool},K.AM a0 a1=some r→bc Tryz.prog 16 [.agg (aG a0),.agg (aG a1)] (fun v _=>v=.bool r)
 Dq:∀{a0:ab} {a1:ab} {r:Bool},K.Dq a0 a1=some r→bc Tryz.prog 28 [.agg (aB a0),.agg (aB a1)] (fun v _=>v=.bool r)
 w5:∀{a0:ae} {r:ae},K.w5 a0=some r→bc Tryz.prog 40 [.agg (aG a0)] (fun v _=>v=.agg (aG r))
 kx:∀{a0:g7} {a1:Int} {r:f6},K.kx a0 a1=some r→bc Tryz.prog 41 [.sl (List.map aI a0),.int .i64 a1] (fun v _=>v=.tup [.agg (aB r.1),.int .i64 r.2])
 O5:∀{a0:ab} {a1:g7} {r:ab},K.O5 a0 a1=some r→bc Tryz.prog 42 [.agg (aB a0),.sl (List.map aI a1)] (fun v _=>v=.agg (aB r))
 zf:∀{a0:ae} {r:ae},K.zf a0=some r→bc Tryz.prog 73 [.agg (aG a0)] (fun v _=>v=.agg (aG r))
 ug:∀{a0:gX} {a1:ab} {a2:ck} {r:Unit},K.ug a0 a1 a2=some r→bc Tryz.prog 76 [.agg (ri a0),.agg (aB a1),.sl (List.map (ak .i64) a2)] (fun v _=>v=nX r)
 D1:∀{a0:d3} {a1:Int} {a2:eb} {r:(Int×eb)},K.D1 a0 a1 a2=some r→jE Tryz.prog 175 [.sl (List.map aK a0),.ptr 1 0,.ptr 2 0,.ptr 3 0] [(1,[.int .i64 a1]),(2,[.fno 175 [.ptr 1 0,.ptr 2 0,.ptr 3 0]]),(3,[.ref 9])] 9 ⟨210,5,List.map aw a2⟩ [9,1,2,3,1000001,1000002,1000003] (fun v s=>v=.tup []∧cB s.o [(1,[.int .i64 r.1]),(2,[.fno 175 [.ptr 1 0,.ptr 2 0,.ptr 3 0]]),(3,[.ref 9])]∧look 9 s.r=some ⟨210,5,List.map aw r.2⟩)
 tM:∀{f:Fv} {a0:Int} {a1:Int} {r:Int},K.tM f a0 a1=some r→cK Tryz.prog f.id=true∧bc Tryz.prog f.id ([.int .i64 a0,.int .i64 a1]++f.aS) (fun v _=>v=.int .i64 r)
 wY:∀{f:Fv} {a0:d3} {a1:aP} {a2:Int} {r:(dn×Int)},K.wY f a0 a1 a2=some r→cK Tryz.prog f.id=true∧bc Tryz.prog f.id ([.sl (List.map aK a0),.agg (aH a1),.int .i64 a2]++f.aS) (fun v _=>v=.tup [.sl (List.map aO r.1),.int .i64 r.2])
 wK:∀{f:Fv} {a0:d3} {a1:aP} {r:em},K.wK f a0 a1=some r→cK Tryz.prog f.id=true∧bc Tryz.prog f.id ([.sl (List.map aK a0),.agg (aH a1)]++f.aS) (fun v _=>v=.tup [.int .i64 r.1,.int .i64 r.2])
 dw:∀{f:Fv} {a0:ab} {a1:Int} {a2:Int} {a3:Int} {a4:dO} {r:hF},K.dw f a0 a1 a2 a3 a4=some r→cK Tryz.prog f.id=true∧eP Tryz.prog f.id ([.agg (aB a0),.int .i64 a1]++f.aS) [(440001,List.set (bA (⟨[],a2,a3⟩:bv)) 0 (.ref 440009))] ⟨64,127,List.map aZ a4⟩ (fun v s=>v=.agg (aG r.1)∧cB s.o [(440001,List.set (bA (⟨[],r.2.1,r.2.2.1⟩:bv)) 0 (.ref 440009))]∧look 440009 s.r=some ⟨64,127,List.map aZ r.2.2.2⟩)
 pw:∀{f:Fv} {a0:ab} {a1:ab} {r:Bool},K.pw f a0 a1=some r→cK Tryz.prog f.id=true∧bc Tryz.prog f.id ([.agg (aB a0),.agg (aB a1)]++f.aS) (fun v _=>v=.bool r)
 ld:∀{f:Fv} {a0:ab} {r:Bool},K.ld f a0=some r→cK Tryz.prog f.id=true∧bc Tryz.prog f.id ([.agg (aB a0)]++f.aS) (fun v _=>v=.bool r)
 gv:∀{f:Fv} {a0:ab} {r:em},K.gv f a0=some r→cK Tryz.prog f.id=true∧bc Tryz.prog f.id ([.agg (aB a0)]++f.aS) (fun v _=>v=.tup [.int .i64 r.1,.int .i64 r.2])
 sy:∀{f:Fv} {a0:ab} {r:ay},K.sy f a0=some r→cK Tryz.prog f.id=true∧bc Tryz.prog f.id ([.agg (aB a0)]++f.aS) (fun v _=>v=.agg (aX r))
 uG:∀{f:Fv} {a0:aA} {r:Bool},K.uG f a0=some r→cK Tryz.prog f.id=true∧bc Tryz.prog f.id ([.agg (aZ a0)]++f.aS) (fun v _=>v=.bool r)
end Go.Proofs.YtocgkfoifehcbaaGreat

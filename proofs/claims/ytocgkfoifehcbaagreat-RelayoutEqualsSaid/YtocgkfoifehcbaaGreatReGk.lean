/- What is asked of calls that come back. Made by a program. -/
import Derived.Test.YtocgkfoifehcbaaGreatReGf
namespace Go.Proofs.YtocgkfoifehcbaaGreat
open Go.RowKit
set_option maxRecDepth 20000
set_option linter.all false
noncomputable section
abbrev af(x y:Int):Nat×List AV:=(440001,List.set (bq (⟨[],x,y⟩:bh)) 0 (.ref 440009))
abbrev ap(x:Nat):List (Nat×Nat):=[(x,6),(x,10),(x,12),(x,14),(x,22),(x,16),(x,24),(x,18),(x,26),(x,20),(x,28)]
theorem aT{α β}{f:α→β}(x:α):f x=f x:=rfl
abbrev bb:=Tryz.prog
abbrev be:AV:=.tup []
abbrev bf x:=(⟨3,1,lm (ak .i64) x⟩:bW)
abbrev bk x:=(⟨64,127,lm aU x⟩:bW)
abbrev bt x:=(⟨44,67,lm aQ x⟩:bW)
abbrev bx x:=(⟨48,59,lm aM x⟩:bW)
abbrev bY x:=(⟨220,9,lm bF x⟩:bW)
abbrev b5 x:=(⟨165,62,lm aZ x⟩:bW)
abbrev b6 x:=(⟨210,5,lm ax x⟩:bW)
abbrev g6:=ae×Int×Int×dt
end
structure ao[GS](K:Kn):Prop where
 wF:∀{a0:ae} {a1:ae} {r:Bool},K.wF a0 a1=some r→ba Tryz.prog 16 [.agg (aH a0),.agg (aH a1)] (fun v _=>v=.bool r)
 tq:∀{a0:ab} {a1:ab} {r:Bool},K.tq a0 a1=some r→ba Tryz.prog 23 [.agg (az a0),.agg (az a1)] (fun v _=>v=.bool r)
 uC:∀{a0:ab} {a1:ab} {r:Bool},K.uC a0 a1=some r→ba Tryz.prog 24 [.agg (az a0),.agg (az a1)] (fun v _=>v=.bool r)
 Df:∀{a0:ab} {a1:ab} {r:Bool},K.Df a0 a1=some r→ba Tryz.prog 28 [.agg (az a0),.agg (az a1)] (fun v _=>v=.bool r)
 zL:∀{a0:ae} {r:ae},K.zL a0=some r→ba Tryz.prog 40 [.agg (aH a0)] (fun v _=>v=.agg (aH r))
 kV:∀{a0:ew} {a1:Int} {r:eq},K.kV a0 a1=some r→ba Tryz.prog 41 [.sl (List.map aK a0),.int .i64 a1] (fun v _=>v=.tup [.agg (az r.1),.int .i64 r.2])
 Py:∀{a0:ab} {a1:ew} {r:ab},K.Py a0 a1=some r→ba Tryz.prog 42 [.agg (az a0),.sl (List.map aK a1)] (fun v _=>v=.agg (az r))
 yx:∀{a0:ae} {r:ae},K.yx a0=some r→ba Tryz.prog 73 [.agg (aH a0)] (fun v _=>v=.agg (aH r))
 rP:∀{a0:ib} {a1:ab} {a2:b7} {r:Unit},K.rP a0 a1 a2=some r→ba Tryz.prog 76 [.agg (pj a0),.agg (az a1),.sl (List.map (ak .i64) a2)] (fun v _=>v=nZ r)
 Bl:∀{a0:dO} {a1:Int} {a2:d6} {r:(Int×d6)},K.Bl a0 a1 a2=some r→jM Tryz.prog 175 [.sl (List.map aM a0),.ptr 1 0,.ptr 2 0,.ptr 3 0] [(1,[.int .i64 a1]),(2,[.fno 175 [.ptr 1 0,.ptr 2 0,.ptr 3 0]]),(3,[.ref 9])] 9 ⟨210,5,List.map ax a2⟩ [9,1,2,3,1000001,1000002,1000003] (fun v s=>v=.tup []∧cw s.o [(1,[.int .i64 r.1]),(2,[.fno 175 [.ptr 1 0,.ptr 2 0,.ptr 3 0]]),(3,[.ref 9])]∧look 9 s.r=some ⟨210,5,List.map ax r.2⟩)
 sE:∀{f:Fv} {a0:Int} {a1:Int} {r:Int},K.sE f a0 a1=some r→cG Tryz.prog f.id=true∧ba Tryz.prog f.id ([.int .i64 a0,.int .i64 a1]++f.aV) (fun v _=>v=.int .i64 r)
 wW:∀{f:Fv} {a0:dO} {a1:aR} {a2:Int} {r:(c6×Int)},K.wW f a0 a1 a2=some r→cG Tryz.prog f.id=true∧ba Tryz.prog f.id ([.sl (List.map aM a0),.agg (aI a1),.int .i64 a2]++f.aV) (fun v _=>v=.tup [.sl (List.map aQ r.1),.int .i64 r.2])
 xZ:∀{f:Fv} {a0:dO} {a1:aR} {r:eg},K.xZ f a0 a1=some r→cG Tryz.prog f.id=true∧ba Tryz.prog f.id ([.sl (List.map aM a0),.agg (aI a1)]++f.aV) (fun v _=>v=.tup [.int .i64 r.1,.int .i64 r.2])
 dp:∀{f:Fv} [PF f] {a0:ab} {a1:Int} {a2:Int} {a3:Int} {a4:dt} {r:g6},K.dp f a0 a1 a2 a3 a4=some r→cG Tryz.prog f.id=true∧d8 Tryz.prog f.id ([.agg (az a0),.int .i64 a1]++f.aV) [(440001,List.set (bq (⟨[],a2,a3⟩:bh)) 0 (.ref 440009))] ⟨64,127,List.map aU a4⟩ (fun v s=>v=.agg (aH r.1)∧cw s.o [(440001,List.set (bq (⟨[],r.2.1,r.2.2.1⟩:bh)) 0 (.ref 440009))]∧look 440009 s.r=some ⟨64,127,List.map aU r.2.2.2⟩)
 qZ:∀{f:Fv} {a0:ab} {a1:ab} {r:Bool},K.qZ f a0 a1=some r→cG Tryz.prog f.id=true∧ba Tryz.prog f.id ([.agg (az a0),.agg (az a1)]++f.aV) (fun v _=>v=.bool r)
 lR:∀{f:Fv} {a0:ab} {r:Bool},K.lR f a0=some r→cG Tryz.prog f.id=true∧ba Tryz.prog f.id ([.agg (az a0)]++f.aV) (fun v _=>v=.bool r)
 gI:∀{f:Fv} {a0:ab} {r:eg},K.gI f a0=some r→cG Tryz.prog f.id=true∧ba Tryz.prog f.id ([.agg (az a0)]++f.aV) (fun v _=>v=.tup [.int .i64 r.1,.int .i64 r.2])
 sB:∀{f:Fv} {a0:ab} {r:aB},K.sB f a0=some r→cG Tryz.prog f.id=true∧ba Tryz.prog f.id ([.agg (az a0)]++f.aV) (fun v _=>v=.agg (aZ r))
 vc:∀{f:Fv} {a0:aA} {r:Bool},K.vc f a0=some r→cG Tryz.prog f.id=true∧ba Tryz.prog f.id ([.agg (aU a0)]++f.aV) (fun v _=>v=.bool r)
end Go.Proofs.YtocgkfoifehcbaaGreat

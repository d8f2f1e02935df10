/- What is asked of calls that come back. Made by a program. -/
import Derived.Test.YtocgkfoifehcbaaGreatRdGf
namespace Go.Proofs.YtocgkfoifehcbaaGreat
open Go.RowKit
set_option maxRecDepth 20000
set_option linter.all false
noncomputable section
abbrev af(x y:Int):Nat×List AV:=(440001,List.set (bq (⟨[],x,y⟩:bm)) 0 (.ref 440009))
abbrev ap(x:Nat):List (Nat×Nat):=[(x,6),(x,10),(x,12),(x,14),(x,22),(x,16),(x,24),(x,18),(x,26),(x,20),(x,28)]
theorem aT{α β}{f:α→β}(x:α):f x=f x:=rfl
abbrev bb:=Tryz.prog
abbrev bf:AV:=.tup []
abbrev bk x:=(⟨3,1,lm (ak .i64) x⟩:cj)
abbrev bt x:=(⟨64,127,lm aK x⟩:cj)
abbrev bx x:=(⟨44,67,lm aM x⟩:cj)
abbrev bY x:=(⟨48,59,lm aL x⟩:cj)
abbrev b5 x:=(⟨220,9,lm bB x⟩:cj)
abbrev b6 x:=(⟨165,62,lm aW x⟩:cj)
abbrev b7 x:=(⟨210,5,lm av x⟩:cj)
abbrev hF:=ae×Int×Int×dO
end
structure am[GS](K:Kn):Prop where
 yD:∀{a0:ae} {a1:ae} {r:Bool},K.yD a0 a1=some r→aY Tryz.prog 16 [.agg (aG a0),.agg (aG a1)] (fun v _=>v=.bool r)
 BN:∀{a0:ab} {a1:ab} {r:Bool},K.BN a0 a1=some r→aY Tryz.prog 28 [.agg (aA a0),.agg (aA a1)] (fun v _=>v=.bool r)
 za:∀{a0:ab} {a1:Int} {r:Bool},K.za a0 a1=some r→aY Tryz.prog 29 [.agg (aA a0),.int .i64 a1] (fun v _=>v=.bool r)
 xC:∀{a0:ae} {r:ae},K.xC a0=some r→aY Tryz.prog 40 [.agg (aG a0)] (fun v _=>v=.agg (aG r))
 kI:∀{a0:h8} {a1:Int} {r:g6},K.kI a0 a1=some r→aY Tryz.prog 41 [.sl (List.map bp a0),.int .i64 a1] (fun v _=>v=.tup [.agg (aA r.1),.int .i64 r.2])
 PR:∀{a0:ab} {a1:h8} {r:ab},K.PR a0 a1=some r→aY Tryz.prog 42 [.agg (aA a0),.sl (List.map bp a1)] (fun v _=>v=.agg (aA r))
 Ch:∀{a0:ab} {a1:Int} {r:Bool},K.Ch a0 a1=some r→aY Tryz.prog 68 [.agg (aA a0),.int .i64 a1] (fun v _=>v=.bool r)
 yP:∀{a0:ae} {r:ae},K.yP a0=some r→aY Tryz.prog 73 [.agg (aG a0)] (fun v _=>v=.agg (aG r))
 tL:∀{a0:ib} {a1:ab} {a2:ck} {r:Unit},K.tL a0 a1 a2=some r→aY Tryz.prog 76 [.agg (pm a0),.agg (aA a1),.sl (List.map (ak .i64) a2)] (fun v _=>v=n6 r)
 D9:∀{a0:d6} {a1:Int} {a2:eb} {r:(Int×eb)},K.D9 a0 a1 a2=some r→iX Tryz.prog 175 [.sl (List.map aL a0),.ptr 1 0,.ptr 2 0,.ptr 3 0] [(1,[.int .i64 a1]),(2,[.fno 175 [.ptr 1 0,.ptr 2 0,.ptr 3 0]]),(3,[.ref 9])] 9 ⟨210,5,List.map av a2⟩ [9,1,2,3,1000001,1000002,1000003] (fun v s=>v=.tup []∧cq s.o [(1,[.int .i64 r.1]),(2,[.fno 175 [.ptr 1 0,.ptr 2 0,.ptr 3 0]]),(3,[.ref 9])]∧look 9 s.r=some ⟨210,5,List.map av r.2⟩)
 rX:∀{f:Fv} {a0:Int} {a1:Int} {r:Int},K.rX f a0 a1=some r→cI Tryz.prog f.id=true∧aY Tryz.prog f.id ([.int .i64 a0,.int .i64 a1]++f.aR) (fun v _=>v=.int .i64 r)
 yK:∀{f:Fv} {a0:d6} {a1:aN} {a2:Int} {r:(dn×Int)},K.yK f a0 a1 a2=some r→cI Tryz.prog f.id=true∧aY Tryz.prog f.id ([.sl (List.map aL a0),.agg (aH a1),.int .i64 a2]++f.aR) (fun v _=>v=.tup [.sl (List.map aM r.1),.int .i64 r.2])
 Ag:∀{f:Fv} {a0:d6} {a1:aN} {r:eq},K.Ag f a0 a1=some r→cI Tryz.prog f.id=true∧aY Tryz.prog f.id ([.sl (List.map aL a0),.agg (aH a1)]++f.aR) (fun v _=>v=.tup [.int .i64 r.1,.int .i64 r.2])
 dr:∀{f:Fv} {a0:ab} {a1:Int} {a2:Int} {a3:Int} {a4:dO} {r:hF},K.dr f a0 a1 a2 a3 a4=some r→cI Tryz.prog f.id=true∧eA Tryz.prog f.id ([.agg (aA a0),.int .i64 a1]++f.aR) [(440001,List.set (bq (⟨[],a2,a3⟩:bm)) 0 (.ref 440009))] ⟨64,127,List.map aK a4⟩ (fun v s=>v=.agg (aG r.1)∧cq s.o [(440001,List.set (bq (⟨[],r.2.1,r.2.2.1⟩:bm)) 0 (.ref 440009))]∧look 440009 s.r=some ⟨64,127,List.map aK r.2.2.2⟩)
 pP:∀{f:Fv} {a0:ab} {a1:ab} {r:Bool},K.pP f a0 a1=some r→cI Tryz.prog f.id=true∧aY Tryz.prog f.id ([.agg (aA a0),.agg (aA a1)]++f.aR) (fun v _=>v=.bool r)
 kR:∀{f:Fv} {a0:ab} {r:Bool},K.kR f a0=some r→cI Tryz.prog f.id=true∧aY Tryz.prog f.id ([.agg (aA a0)]++f.aR) (fun v _=>v=.bool r)
 gy:∀{f:Fv} {a0:ab} {r:eq},K.gy f a0=some r→cI Tryz.prog f.id=true∧aY Tryz.prog f.id ([.agg (aA a0)]++f.aR) (fun v _=>v=.tup [.int .i64 r.1,.int .i64 r.2])
 uE:∀{f:Fv} {a0:ab} {r:az},K.uE f a0=some r→cI Tryz.prog f.id=true∧aY Tryz.prog f.id ([.agg (aA a0)]++f.aR) (fun v _=>v=.agg (aW r))
 mw:∀{f:Fv} {a0:aw} {r:Bool},K.mw f a0=some r→cI Tryz.prog f.id=true∧aY Tryz.prog f.id ([.agg (aK a0)]++f.aR) (fun v _=>v=.bool r)
end Go.Proofs.YtocgkfoifehcbaaGreat

/- What is asked of calls that come back. Made by a program. -/
import Derived.Test.YtocgkfoifehcbaaGreatRpGf
namespace Go.Proofs.YtocgkfoifehcbaaGreat
open Go.RowKit
set_option maxRecDepth 20000
set_option linter.all false
noncomputable section
abbrev ac(x y:Int):Nat×List AV:=(440001,List.set (bw (⟨[],x,y⟩:bv)) 0 (.ref 440009))
abbrev af(x:Nat):List (Nat×Nat):=[(x,6),(x,10),(x,12),(x,14),(x,22),(x,16),(x,24),(x,18),(x,26),(x,20),(x,28)]
theorem ap{α β}{f:α→β}(x:α):f x=f x:=rfl
abbrev aT:=Tryz.prog
abbrev bb:AV:=.tup []
abbrev bc x:=(⟨3,1,lm (ak .i64) x⟩:bZ)
abbrev be x:=(⟨64,127,lm ba x⟩:bZ)
abbrev bf x:=(⟨44,67,lm aN x⟩:bZ)
abbrev bk x:=(⟨48,59,lm aP x⟩:bZ)
abbrev bt x:=(⟨220,9,lm bz x⟩:bZ)
abbrev bx x:=(⟨210,5,lm aX x⟩:bZ)
abbrev bY x:=(⟨5,1,lm (ak .u8) x⟩:bZ)
abbrev er:=ab×Int×Int×c6
end
structure am[GS](K:Kn):Prop where
 Ca:∀{a0:ag} {a1:ag} {r:Bool},K.Ca a0 a1=some r→aZ Tryz.prog 28 [.agg (aD a0),.agg (aD a1)] (fun v _=>v=.bool r)
 Al:∀{a0:ab} {r:ab},K.Al a0=some r→aZ Tryz.prog 40 [.agg (aC a0)] (fun v _=>v=.agg (aC r))
 k7:∀{a0:eq} {a1:Int} {r:eg},K.k7 a0 a1=some r→aZ Tryz.prog 41 [.sl (List.map aH a0),.int .i64 a1] (fun v _=>v=.tup [.agg (aD r.1),.int .i64 r.2])
 Ti:∀{a0:ag} {a1:eq} {r:ag},K.Ti a0 a1=some r→aZ Tryz.prog 42 [.agg (aD a0),.sl (List.map aH a1)] (fun v _=>v=.agg (aD r))
 xH:∀{a0:ab} {r:ab},K.xH a0=some r→aZ Tryz.prog 73 [.agg (aC a0)] (fun v _=>v=.agg (aC r))
 uL:∀{a0:iy} {a1:ag} {a2:b5} {r:Unit},K.uL a0 a1 a2=some r→aZ Tryz.prog 76 [.agg (qi a0),.agg (aD a1),.sl (List.map (ak .i64) a2)] (fun v _=>v=pr r)
 BB:∀{a0:dn} {a1:Int} {a2:dw} {r:(Int×dw)},K.BB a0 a1 a2=some r→lL Tryz.prog 175 [.sl (List.map aP a0),.ptr 1 0,.ptr 2 0,.ptr 3 0] [(1,[.int .i64 a1]),(2,[.fno 175 [.ptr 1 0,.ptr 2 0,.ptr 3 0]]),(3,[.ref 9])] 9 ⟨210,5,List.map aX a2⟩ [9,1,2,3,1000001,1000002,1000003] (fun v s=>v=.tup []∧cB s.o [(1,[.int .i64 r.1]),(2,[.fno 175 [.ptr 1 0,.ptr 2 0,.ptr 3 0]]),(3,[.ref 9])]∧look 9 s.r=some ⟨210,5,List.map aX r.2⟩)
 ta:∀{f:Fv} {a0:Int} {a1:Int} {r:Int},K.ta f a0 a1=some r→cN Tryz.prog f.id=true∧aZ Tryz.prog f.id ([.int .i64 a0,.int .i64 a1]++f.aV) (fun v _=>v=.int .i64 r)
 wH:∀{f:Fv} {a0:dn} {a1:aO} {a2:Int} {r:(b7×Int)},K.wH f a0 a1 a2=some r→cN Tryz.prog f.id=true∧aZ Tryz.prog f.id ([.sl (List.map aP a0),.agg (aG a1),.int .i64 a2]++f.aV) (fun v _=>v=.tup [.sl (List.map aN r.1),.int .i64 r.2])
 xX:∀{f:Fv} {a0:dn} {a1:aO} {r:eb},K.xX f a0 a1=some r→cN Tryz.prog f.id=true∧aZ Tryz.prog f.id ([.sl (List.map aP a0),.agg (aG a1)]++f.aV) (fun v _=>v=.tup [.int .i64 r.1,.int .i64 r.2])
 dE:∀{f:Fv} [PF f] {a0:ag} {a1:Int} {a2:Int} {a3:Int} {a4:c6} {r:er},K.dE f a0 a1 a2 a3 a4=some r→cN Tryz.prog f.id=true∧eO Tryz.prog f.id ([.agg (aD a0),.int .i64 a1]++f.aV) [(440001,List.set (bw (⟨[],a2,a3⟩:bv)) 0 (.ref 440009))] ⟨64,127,List.map ba a4⟩ (fun v s=>v=.agg (aC r.1)∧cB s.o [(440001,List.set (bw (⟨[],r.2.1,r.2.2.1⟩:bv)) 0 (.ref 440009))]∧look 440009 s.r=some ⟨64,127,List.map ba r.2.2.2⟩)
 sk:∀{f:Fv} {a0:ag} {a1:ag} {r:Bool},K.sk f a0 a1=some r→cN Tryz.prog f.id=true∧aZ Tryz.prog f.id ([.agg (aD a0),.agg (aD a1)]++f.aV) (fun v _=>v=.bool r)
 mh:∀{f:Fv} {a0:ag} {r:Bool},K.mh f a0=some r→cN Tryz.prog f.id=true∧aZ Tryz.prog f.id ([.agg (aD a0)]++f.aV) (fun v _=>v=.bool r)
 jD:∀{f:Fv} {a0:ag} {r:eb},K.jD f a0=some r→cN Tryz.prog f.id=true∧aZ Tryz.prog f.id ([.agg (aD a0)]++f.aV) (fun v _=>v=.tup [.int .i64 r.1,.int .i64 r.2])
 sQ:∀{f:Fv} {a0:ay} {r:Bool},K.sQ f a0=some r→cN Tryz.prog f.id=true∧aZ Tryz.prog f.id ([.agg (ba a0)]++f.aV) (fun v _=>v=.bool r)
end Go.Proofs.YtocgkfoifehcbaaGreat

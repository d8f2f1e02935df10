/- What is asked of calls that come back. Made by a program. -/
import Derived.Test.YtolhpahjgddjkaaCcGf
import Derived.Test.YtolhpahjgddjkaaProg
namespace Go.Proofs.Ytolhpahjgddjkaa
open Go.RowKit
set_option maxRecDepth 20000
set_option linter.all false
set_option linter.unusedVariables false
set_option linter.unusedSimpArgs false
structure KnOk (K:Kn):Prop where
  fT:∀ {a0:(List Int)} {a1:Int} {a2:Int} {a3:Int} {a4:Fv} {r:(List Int)},K.fT a0 a1 a2 a3 a4=some r→AIO Try.prog 81 [.ref 0,.int .i64 a1,.int .i64 a2,.int .i64 a3,.fn a4.id a4.caps] 0 ⟨3,1,List.map (eInt .i64) a0⟩ (fun v s=>v = .tup []∧look 0 s.r=some ⟨3,1,List.map (eInt .i64) r⟩)
  dP:∀ {f:Fv} {a0:Int} {a1:Int} {r:Int},K.dP f a0 a1=some r→callable Try.prog f.id=true∧ACalls Try.prog f.id ([.int .i64 a0,.int .i64 a1]++f.caps) (fun v _=>v = .int .i64 r)
  oA:∀ {f:Fv} {a0:Int} {r:Bool},K.oA f a0=some r→callable Try.prog f.id=true∧ACalls Try.prog f.id ([.int .i64 a0]++f.caps) (fun v _=>v = .bool r)
  oZ:∀ {f:Fv} {a0:(List ab)} {a1:aG} {a2:Int} {r:((List aa)×Int)},K.oZ f a0 a1 a2=some r→callable Try.prog f.id=true∧ACalls Try.prog f.id ([.sl (List.map ax a0),.agg (aO a1),.int .i64 a2]++f.caps) (fun v _=>v = .tup [.sl (List.map ao r.1),.int .i64 r.2])
  nz:∀ {f:Fv} {a0:(List ab)} {a1:aG} {r:(Int×Int)},K.nz f a0 a1=some r→callable Try.prog f.id=true∧ACalls Try.prog f.id ([.sl (List.map ax a0),.agg (aO a1)]++f.caps) (fun v _=>v = .tup [.int .i64 r.1,.int .i64 r.2])
  q6:∀ {f:Fv} {a0:ab} {a1:Int} {r:aa},K.q6 f a0 a1=some r→callable Try.prog f.id=true∧ACalls Try.prog f.id ([.agg (aF a0),.int .i64 a1]++f.caps) (fun v _=>v = .agg (aD r))
  gM:∀ {f:Fv} {a0:ab} {r:Bool},K.gM f a0=some r→callable Try.prog f.id=true∧ACalls Try.prog f.id ([.agg (aF a0)]++f.caps) (fun v _=>v = .bool r)
  qc:∀ {f:Fv} {a0:ab} {r:(Int×Int)},K.qc f a0=some r→callable Try.prog f.id=true∧ACalls Try.prog f.id ([.agg (aF a0)]++f.caps) (fun v _=>v = .tup [.int .i64 r.1,.int .i64 r.2])
  l4:∀ {f:Fv} {a0:ae} {r:Bool},K.l4 f a0=some r→callable Try.prog f.id=true∧ACalls Try.prog f.id ([.agg (aC a0)]++f.caps) (fun v _=>v = .bool r)
  fW:∀ {f:Fv} {a0:ae} {r:Int},K.fW f a0=some r→callable Try.prog f.id=true∧ACalls Try.prog f.id ([.agg (aC a0)]++f.caps) (fun v _=>v = .int .i64 r)
end Go.Proofs.Ytolhpahjgddjkaa

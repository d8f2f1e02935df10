/- What is asked of calls that come back. Made by a program. -/
import Derived.Test.YtolhpahjgddjkaaCoGf
import Derived.Test.YtolhpahjgddjkaaProg
namespace Go.Proofs.Ytolhpahjgddjkaa
open Go.RowKit
set_option maxRecDepth 20000
set_option linter.all false
set_option linter.unusedVariables false
set_option linter.unusedSimpArgs false
structure KnOk (K:Kn):Prop where
  nR:∀ {a0:aa} {a1:aa} {r:Bool},K.nR a0 a1=some r→ACalls Try.prog 24 [.agg (aC a0),.agg (aC a1)] (fun v _=>v = .bool r)
  fS:∀ {a0:(List Int)} {a1:Int} {a2:Int} {a3:Int} {a4:Fv} {r:(List Int)},K.fS a0 a1 a2 a3 a4=some r→AIO Try.prog 81 [.ref 0,.int .i64 a1,.int .i64 a2,.int .i64 a3,.fn a4.id a4.caps] 0 ⟨3,1,List.map (eInt .i64) a0⟩ (fun v s=>v = .tup []∧look 0 s.r=some ⟨3,1,List.map (eInt .i64) r⟩)
  dS:∀ {f:Fv} {a0:Int} {a1:Int} {r:Int},K.dS f a0 a1=some r→callable Try.prog f.id=true∧ACalls Try.prog f.id ([.int .i64 a0,.int .i64 a1]++f.caps) (fun v _=>v = .int .i64 r)
  pi:∀ {f:Fv} {a0:Int} {r:Bool},K.pi f a0=some r→callable Try.prog f.id=true∧ACalls Try.prog f.id ([.int .i64 a0]++f.caps) (fun v _=>v = .bool r)
  oa:∀ {f:Fv} {a0:(List ab)} {a1:aG} {a2:Int} {r:((List aa)×Int)},K.oa f a0 a1 a2=some r→callable Try.prog f.id=true∧ACalls Try.prog f.id ([.sl (List.map aw a0),.agg (aO a1),.int .i64 a2]++f.caps) (fun v _=>v = .tup [.sl (List.map am r.1),.int .i64 r.2])
  pk:∀ {f:Fv} {a0:(List ab)} {a1:aG} {r:(Int×Int)},K.pk f a0 a1=some r→callable Try.prog f.id=true∧ACalls Try.prog f.id ([.sl (List.map aw a0),.agg (aO a1)]++f.caps) (fun v _=>v = .tup [.int .i64 r.1,.int .i64 r.2])
  qO:∀ {f:Fv} {a0:ab} {a1:Int} {r:aa},K.qO f a0 a1=some r→callable Try.prog f.id=true∧ACalls Try.prog f.id ([.agg (aH a0),.int .i64 a1]++f.caps) (fun v _=>v = .agg (aC r))
  gp:∀ {f:Fv} {a0:ab} {r:Bool},K.gp f a0=some r→callable Try.prog f.id=true∧ACalls Try.prog f.id ([.agg (aH a0)]++f.caps) (fun v _=>v = .bool r)
  qr:∀ {f:Fv} {a0:ab} {r:(Int×Int)},K.qr f a0=some r→callable Try.prog f.id=true∧ACalls Try.prog f.id ([.agg (aH a0)]++f.caps) (fun v _=>v = .tup [.int .i64 r.1,.int .i64 r.2])
  kn:∀ {f:Fv} {a0:ae} {r:Bool},K.kn f a0=some r→callable Try.prog f.id=true∧ACalls Try.prog f.id ([.agg (aB a0)]++f.caps) (fun v _=>v = .bool r)
  fO:∀ {f:Fv} {a0:ae} {r:Int},K.fO f a0=some r→callable Try.prog f.id=true∧ACalls Try.prog f.id ([.agg (aB a0)]++f.caps) (fun v _=>v = .int .i64 r)
end Go.Proofs.Ytolhpahjgddjkaa

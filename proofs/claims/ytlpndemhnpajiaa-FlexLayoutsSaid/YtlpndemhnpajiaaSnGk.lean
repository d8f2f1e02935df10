/- What is asked of calls that come back. Made by a program. -/
import Derived.Test.YtlpndemhnpajiaaSnGf
import Derived.Test.YtlpndemhnpajiaaProg
namespace Go.Proofs.Ytlpndemhnpajiaa
open Go.RowKit
set_option maxRecDepth 20000
set_option linter.all false
set_option linter.unusedVariables false
set_option linter.unusedSimpArgs false
structure KnOk (K:Kn):Prop where
  sX:∀ {a0:aa} {a1:aa} {r:Bool},K.sX a0 a1=some r→ACalls Try.prog 31 [.agg (az a0),.agg (az a1)] (fun v _=>v = .bool r)
  ox:∀ {a0:(List bU)} {a1:Int} {r:(ab×Int)},K.ox a0 a1=some r→ACalls Try.prog 43 [.sl (List.map bg a0),.int .i64 a1] (fun v _=>v = .tup [.agg (ax r.1),.int .i64 r.2])
  gJ:∀ {a0:ab} {r:(Int×Int)},K.gJ a0=some r→ACalls Try.prog 59 [.agg (ax a0)] (fun v _=>v = .tup [.int .i64 r.1,.int .i64 r.2])
  dq:∀ {a0:ab} {a1:Int} {r:aa},K.dq a0 a1=some r→ACalls Try.prog 91 [.agg (ax a0),.int .i64 a1] (fun v _=>v = .agg (az r))
  ik:∀ {a0:(List Int)} {a1:Int} {a2:Int} {a3:Int} {a4:Fv} {r:(List Int)},K.ik a0 a1 a2 a3 a4=some r→AIO Try.prog 97 [.ref 0,.int .i64 a1,.int .i64 a2,.int .i64 a3,.fn a4.id a4.caps] 0 ⟨3,1,List.map (eInt .i64) a0⟩ (fun v s=>v = .tup []∧look 0 s.r=some ⟨3,1,List.map (eInt .i64) r⟩)
  eF:∀ {f:Fv} {a0:Int} {a1:Int} {r:Int},K.eF f a0 a1=some r→callable Try.prog f.id=true∧ACalls Try.prog f.id ([.int .i64 a0,.int .i64 a1]++f.caps) (fun v _=>v = .int .i64 r)
  iX:∀ {f:Fv} {a0:(List ab)} {a1:aE} {a2:Int} {r:((List aa)×Int)},K.iX f a0 a1 a2=some r→callable Try.prog f.id=true∧ACalls Try.prog f.id ([.sl (List.map aB a0),.agg (aL a1),.int .i64 a2]++f.caps) (fun v _=>v = .tup [.sl (List.map au r.1),.int .i64 r.2])
  lL:∀ {f:Fv} {a0:(List ab)} {a1:aE} {r:(Int×Int)},K.lL f a0 a1=some r→callable Try.prog f.id=true∧ACalls Try.prog f.id ([.sl (List.map aB a0),.agg (aL a1)]++f.caps) (fun v _=>v = .tup [.int .i64 r.1,.int .i64 r.2])
  dD:∀ {f:Fv} {a0:ab} {a1:Int} {r:aa},K.dD f a0 a1=some r→callable Try.prog f.id=true∧ACalls Try.prog f.id ([.agg (ax a0),.int .i64 a1]++f.caps) (fun v _=>v = .agg (az r))
  fr:∀ {f:Fv} {a0:ab} {r:Bool},K.fr f a0=some r→callable Try.prog f.id=true∧ACalls Try.prog f.id ([.agg (ax a0)]++f.caps) (fun v _=>v = .bool r)
  eM:∀ {f:Fv} {a0:ab} {r:(Int×Int)},K.eM f a0=some r→callable Try.prog f.id=true∧ACalls Try.prog f.id ([.agg (ax a0)]++f.caps) (fun v _=>v = .tup [.int .i64 r.1,.int .i64 r.2])
end Go.Proofs.Ytlpndemhnpajiaa

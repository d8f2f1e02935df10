/- What is asked of calls that come back. Made by a program. -/
import Derived.Test.YtlpndemhnpajiaaSkGf
import Derived.Test.YtlpndemhnpajiaaProg
namespace Go.Proofs.Ytlpndemhnpajiaa
open Go.RowKit
set_option maxRecDepth 20000
set_option linter.all false
set_option linter.unusedVariables false
set_option linter.unusedSimpArgs false
structure KnOk (K : Kn) : Prop where
  k_g_ref17_Tree : ∀ {a0 : (List TKnapsackref17Spec)} {a1 : Int} {r : (TBoxtreeBox × Int)}, K.k_g_ref17_Tree a0 a1 = some r → ACalls Try.prog 43 [.sl (List.map eTKnapsackref17Spec a0), .int .i64 a1] (fun v _ => v = .tup [.agg (xTBoxtreeBox r.1), .int .i64 r.2])
  k_g_slices_symMergeCmpFunc_int : ∀ {a0 : (List Int)} {a1 : Int} {a2 : Int} {a3 : Int} {a4 : Fv} {r : (List Int)}, K.k_g_slices_symMergeCmpFunc_int a0 a1 a2 a3 a4 = some r → AIO Try.prog 97 [.ref 0, .int .i64 a1, .int .i64 a2, .int .i64 a3, .fn a4.id a4.caps] 0 ⟨3, 1, List.map (eInt .i64) a0⟩ (fun v s => v = .tup [] ∧ look 0 s.r = some ⟨3, 1, List.map (eInt .i64) r⟩)
  d_Int_Int__Int : ∀ {f : Fv} {a0 : Int} {a1 : Int} {r : Int}, K.d_Int_Int__Int f a0 a1 = some r → callable Try.prog f.id = true ∧ ACalls Try.prog f.id ([.int .i64 a0, .int .i64 a1] ++ f.caps) (fun v _ => v = .int .i64 r)
end Go.Proofs.Ytlpndemhnpajiaa

/- What is asked of calls that come back. Made by a program. -/
import Derived.Test.YtlpndemhnpajiaaSmGf
import Derived.Test.YtlpndemhnpajiaaProg
namespace Go.Proofs.Ytlpndemhnpajiaa
open Go.RowKit
set_option maxRecDepth 20000
set_option linter.all false
set_option linter.unusedVariables false
set_option linter.unusedSimpArgs false
structure KnOk (K : Kn) : Prop where
  k_g_ref17_Tree : ∀ {a0 : (List TKnapsackref17Spec)} {a1 : Int} {r : (TBoxtreeBox × Int)}, K.k_g_ref17_Tree a0 a1 = some r → ACalls Try.prog 43 [.sl (List.map eTKnapsackref17Spec a0), .int .i64 a1] (fun v _ => v = .tup [.agg (xTBoxtreeBox r.1), .int .i64 r.2])
  k_g_ref17_Widths : ∀ {a0 : TBoxtreeBox} {r : (Int × Int)}, K.k_g_ref17_Widths a0 = some r → ACalls Try.prog 59 [.agg (xTBoxtreeBox a0)] (fun v _ => v = .tup [.int .i64 r.1, .int .i64 r.2])
  k_g_slices_symMergeCmpFunc_int : ∀ {a0 : (List Int)} {a1 : Int} {a2 : Int} {a3 : Int} {a4 : Fv} {r : (List Int)}, K.k_g_slices_symMergeCmpFunc_int a0 a1 a2 a3 a4 = some r → AIO Try.prog 97 [.ref 0, .int .i64 a1, .int .i64 a2, .int .i64 a3, .fn a4.id a4.caps] 0 ⟨3, 1, List.map (eInt .i64) a0⟩ (fun v s => v = .tup [] ∧ look 0 s.r = some ⟨3, 1, List.map (eInt .i64) r⟩)
  d_Int_Int__Int : ∀ {f : Fv} {a0 : Int} {a1 : Int} {r : Int}, K.d_Int_Int__Int f a0 a1 = some r → callable Try.prog f.id = true ∧ ACalls Try.prog f.id ([.int .i64 a0, .int .i64 a1] ++ f.caps) (fun v _ => v = .int .i64 r)
  d_ListTBoxtreeBox_TCascadeStyle_Int__ListTBlockFragmentInt : ∀ {f : Fv} {a0 : (List TBoxtreeBox)} {a1 : TCascadeStyle} {a2 : Int} {r : ((List TBlockFragment) × Int)}, K.d_ListTBoxtreeBox_TCascadeStyle_Int__ListTBlockFragmentInt f a0 a1 a2 = some r → callable Try.prog f.id = true ∧ ACalls Try.prog f.id ([.sl (List.map eTBoxtreeBox a0), .agg (eTCascadeStyle a1), .int .i64 a2] ++ f.caps) (fun v _ => v = .tup [.sl (List.map eTBlockFragment r.1), .int .i64 r.2])
  d_ListTBoxtreeBox_TCascadeStyle__IntInt : ∀ {f : Fv} {a0 : (List TBoxtreeBox)} {a1 : TCascadeStyle} {r : (Int × Int)}, K.d_ListTBoxtreeBox_TCascadeStyle__IntInt f a0 a1 = some r → callable Try.prog f.id = true ∧ ACalls Try.prog f.id ([.sl (List.map eTBoxtreeBox a0), .agg (eTCascadeStyle a1)] ++ f.caps) (fun v _ => v = .tup [.int .i64 r.1, .int .i64 r.2])
  d_TBoxtreeBox_Int__TBlockFragment : ∀ {f : Fv} {a0 : TBoxtreeBox} {a1 : Int} {r : TBlockFragment}, K.d_TBoxtreeBox_Int__TBlockFragment f a0 a1 = some r → callable Try.prog f.id = true ∧ ACalls Try.prog f.id ([.agg (xTBoxtreeBox a0), .int .i64 a1] ++ f.caps) (fun v _ => v = .agg (xTBlockFragment r))
  d_TBoxtreeBox__Bool : ∀ {f : Fv} {a0 : TBoxtreeBox} {r : Bool}, K.d_TBoxtreeBox__Bool f a0 = some r → callable Try.prog f.id = true ∧ ACalls Try.prog f.id ([.agg (xTBoxtreeBox a0)] ++ f.caps) (fun v _ => v = .bool r)
  d_TBoxtreeBox__IntInt : ∀ {f : Fv} {a0 : TBoxtreeBox} {r : (Int × Int)}, K.d_TBoxtreeBox__IntInt f a0 = some r → callable Try.prog f.id = true ∧ ACalls Try.prog f.id ([.agg (xTBoxtreeBox a0)] ++ f.caps) (fun v _ => v = .tup [.int .i64 r.1, .int .i64 r.2])
end Go.Proofs.Ytlpndemhnpajiaa

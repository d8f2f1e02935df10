/- What is asked of calls that come back. Made by a program. -/
import Derived.Test.YtkciiamllegclaaSdGf
import Derived.Test.YtkciiamllegclaaProg
namespace Go.Proofs.Ytkciiamllegclaa
open Go.RowKit
set_option maxRecDepth 20000
set_option linter.all false
set_option linter.unusedVariables false
set_option linter.unusedSimpArgs false

structure KnOk (K : Kn) : Prop where
  k_g_ref17_Tree : ∀ {a0 : (List TKnapsackref17Spec)} {a1 : Int} {r : (TBoxtreeBox × Int)}, K.k_g_ref17_Tree a0 a1 = some r → ACalls Try.prog 35 [.sl (List.map eTKnapsackref17Spec a0), .int .i64 a1] (fun v _ => v = .tup [.agg (xTBoxtreeBox r.1), .int .i64 r.2])
  k_g_ref17_Layout : ∀ {a0 : TBoxtreeBox} {a1 : Int} {r : TBlockFragment}, K.k_g_ref17_Layout a0 a1 = some r → ACalls Try.prog 36 [.agg (xTBoxtreeBox a0), .int .i64 a1] (fun v _ => v = .agg (xTBlockFragment r))
  k_g_ref17_Same : ∀ {a0 : TBlockFragment} {a1 : TBlockFragment} {r : Bool}, K.k_g_ref17_Same a0 a1 = some r → ACalls Try.prog 38 [.agg (xTBlockFragment a0), .agg (xTBlockFragment a1)] (fun v _ => v = .bool r)
  k_g_ref17_Widths : ∀ {a0 : TBoxtreeBox} {r : (Int × Int)}, K.k_g_ref17_Widths a0 = some r → ACalls Try.prog 47 [.agg (xTBoxtreeBox a0)] (fun v _ => v = .tup [.int .i64 r.1, .int .i64 r.2])
  d_ListTBoxtreeBox_TCascadeStyle_Int__ListTBlockFragmentInt : ∀ {f : Nat} {a0 : (List TBoxtreeBox)} {a1 : TCascadeStyle} {a2 : Int} {r : ((List TBlockFragment) × Int)}, K.d_ListTBoxtreeBox_TCascadeStyle_Int__ListTBlockFragmentInt f a0 a1 a2 = some r → callable Try.prog f = true ∧ ACalls Try.prog f [.sl (List.map eTBoxtreeBox a0), .agg (eTCascadeStyle a1), .int .i64 a2] (fun v _ => v = .tup [.sl (List.map eTBlockFragment r.1), .int .i64 r.2])
  d_ListTBoxtreeBox_TCascadeStyle__IntInt : ∀ {f : Nat} {a0 : (List TBoxtreeBox)} {a1 : TCascadeStyle} {r : (Int × Int)}, K.d_ListTBoxtreeBox_TCascadeStyle__IntInt f a0 a1 = some r → callable Try.prog f = true ∧ ACalls Try.prog f [.sl (List.map eTBoxtreeBox a0), .agg (eTCascadeStyle a1)] (fun v _ => v = .tup [.int .i64 r.1, .int .i64 r.2])
  d_TBoxtreeBox_Int__TBlockFragment : ∀ {f : Nat} {a0 : TBoxtreeBox} {a1 : Int} {r : TBlockFragment}, K.d_TBoxtreeBox_Int__TBlockFragment f a0 a1 = some r → callable Try.prog f = true ∧ ACalls Try.prog f [.agg (xTBoxtreeBox a0), .int .i64 a1] (fun v _ => v = .agg (xTBlockFragment r))
  d_TBoxtreeBox__Bool : ∀ {f : Nat} {a0 : TBoxtreeBox} {r : Bool}, K.d_TBoxtreeBox__Bool f a0 = some r → callable Try.prog f = true ∧ ACalls Try.prog f [.agg (xTBoxtreeBox a0)] (fun v _ => v = .bool r)
  d_TBoxtreeBox__IntInt : ∀ {f : Nat} {a0 : TBoxtreeBox} {r : (Int × Int)}, K.d_TBoxtreeBox__IntInt f a0 = some r → callable Try.prog f = true ∧ ACalls Try.prog f [.agg (xTBoxtreeBox a0)] (fun v _ => v = .tup [.int .i64 r.1, .int .i64 r.2])
end Go.Proofs.Ytkciiamllegclaa

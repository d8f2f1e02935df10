/- Layer 19's functions as plain Lean functions: K stands for calls that come back, n bounds the rounds of loops. Made by a program. -/
import Derived.Test.YtlpndemhnpajiaaSmGt
namespace Go.Proofs.Ytlpndemhnpajiaa
open Go.RowKit
set_option maxRecDepth 20000
set_option linter.all false
set_option linter.unusedVariables false
set_option linter.unusedSimpArgs false
noncomputable section
def g_law19_equal_l1_b (K : Kn) (n : Nat) (v1 : (List Int)) (v2 : (List Int)) (L1 : Int → Option Bool) (v4 : Int) : Option Bool :=
  if (decide (v4 < (v1.length : Int))) = true then
    chk (inb v4 v1.length) (
    chk (inb v4 v2.length) (
    (some ((List.getD v1 (v4).toNat default) != (List.getD v2 (v4).toNat default))).bind fun v5 =>
    if v5 = true then
      some false
    else
      L1 (w64 (v4 + 1))))
  else
    some true
def g_law19_equal_l1 (K : Kn) (n : Nat) (v1 : (List Int)) (v2 : (List Int)) : Nat → Int → Option Bool
  | 0 => fun _ => none
  | m + 1 => g_law19_equal_l1_b K n v1 v2 (g_law19_equal_l1 K n v1 v2 m)
def g_law19_equal (K : Kn) (n : Nat) (v1 : (List Int)) (v2 : (List Int)) : Option Bool :=
  if ((v1.length : Int) != (v2.length : Int)) = true then
    some false
  else
    g_law19_equal_l1 K n v1 v2 n 0
def g_flex_limit (K : Kn) (n : Nat) (v1 : Int) (v2 : Int) : Option Int :=
  some (min (max v1 0) v2)
def g_slices_insertionSortCmpFunc_int_j1 (K : Kn) (n : Nat) (v2 : Int) (v3 : Int) (v4 : Fv) (v11 : Int) (v15 : Int) (v16 : (List Int)) (L1 : Int → (List Int) → Option (List Int)) (L2 : Int → (List Int) → Option (List Int)) (v18 : Bool) : Option (List Int) :=
  if v18 = true then
    chk (inb (w64 (v15 - 1)) v16.length) (
    chk (inb v15 v16.length) (
    chk (inb v15 v16.length) (
    chk (inb (w64 (v15 - 1)) (List.set v16 (v15).toNat (List.getD v16 ((w64 (v15 - 1))).toNat default)).length) (
    L2 (w64 (v15 - 1)) (List.set (List.set v16 (v15).toNat (List.getD v16 ((w64 (v15 - 1))).toNat default)) ((w64 (v15 - 1))).toNat (List.getD v16 (v15).toNat default))))))
  else
    L1 (w64 (v11 + 1)) v16
def g_slices_insertionSortCmpFunc_int_l2_b (K : Kn) (n : Nat) (v2 : Int) (v3 : Int) (v4 : Fv) (v11 : Int) (L1 : Int → (List Int) → Option (List Int)) (L2 : Int → (List Int) → Option (List Int)) (v15 : Int) (v16 : (List Int)) : Option (List Int) :=
  if (decide (v15 > v2)) = true then
    chk (inb v15 v16.length) (
    chk (inb (w64 (v15 - 1)) v16.length) (
    (K.d_Int_Int__Int v4 (List.getD v16 (v15).toNat default) (List.getD v16 ((w64 (v15 - 1))).toNat default)).bind fun v17 =>
    g_slices_insertionSortCmpFunc_int_j1 K n v2 v3 v4 v11 v15 v16 L1 L2 (decide (v17 < 0))))
  else
    g_slices_insertionSortCmpFunc_int_j1 K n v2 v3 v4 v11 v15 v16 L1 L2 false
def g_slices_insertionSortCmpFunc_int_l2 (K : Kn) (n : Nat) (v2 : Int) (v3 : Int) (v4 : Fv) (v11 : Int) (L1 : Int → (List Int) → Option (List Int)) : Nat → Int → (List Int) → Option (List Int)
  | 0 => fun _ _ => none
  | m + 1 => g_slices_insertionSortCmpFunc_int_l2_b K n v2 v3 v4 v11 L1 (g_slices_insertionSortCmpFunc_int_l2 K n v2 v3 v4 v11 L1 m)
def g_slices_insertionSortCmpFunc_int_l3_b (K : Kn) (n : Nat) (v2 : Int) (v3 : Int) (v4 : Fv) (L1 : Int → (List Int) → Option (List Int)) (v11 : Int) (v12 : (List Int)) : Option (List Int) :=
  if (decide (v11 < v3)) = true then
    g_slices_insertionSortCmpFunc_int_l2 K n v2 v3 v4 v11 L1 n v11 v12
  else
    some v12
def g_slices_insertionSortCmpFunc_int_l3 (K : Kn) (n : Nat) (v2 : Int) (v3 : Int) (v4 : Fv) : Nat → Int → (List Int) → Option (List Int)
  | 0 => fun _ _ => none
  | m + 1 => g_slices_insertionSortCmpFunc_int_l3_b K n v2 v3 v4 (g_slices_insertionSortCmpFunc_int_l3 K n v2 v3 v4 m)
def g_slices_insertionSortCmpFunc_int (K : Kn) (n : Nat) (v1 : (List Int)) (v2 : Int) (v3 : Int) (v4 : Fv) : Option (List Int) :=
  g_slices_insertionSortCmpFunc_int_l3 K n v2 v3 v4 n (w64 (v2 + 1)) v1
def g_slices_swapRangeCmpFunc_int_l1_b (K : Kn) (n : Nat) (v2 : Int) (v3 : Int) (v4 : Int) (L1 : Int → (List Int) → Option (List Int)) (v6 : Int) (v7 : (List Int)) : Option (List Int) :=
  if (decide (v6 < v4)) = true then
    chk (inb (w64 (v3 + v6)) v7.length) (
    chk (inb (w64 (v2 + v6)) v7.length) (
    chk (inb (w64 (v2 + v6)) v7.length) (
    chk (inb (w64 (v3 + v6)) (List.set v7 ((w64 (v2 + v6))).toNat (List.getD v7 ((w64 (v3 + v6))).toNat default)).length) (
    L1 (w64 (v6 + 1)) (List.set (List.set v7 ((w64 (v2 + v6))).toNat (List.getD v7 ((w64 (v3 + v6))).toNat default)) ((w64 (v3 + v6))).toNat (List.getD v7 ((w64 (v2 + v6))).toNat default))))))
  else
    some v7
def g_slices_swapRangeCmpFunc_int_l1 (K : Kn) (n : Nat) (v2 : Int) (v3 : Int) (v4 : Int) : Nat → Int → (List Int) → Option (List Int)
  | 0 => fun _ _ => none
  | m + 1 => g_slices_swapRangeCmpFunc_int_l1_b K n v2 v3 v4 (g_slices_swapRangeCmpFunc_int_l1 K n v2 v3 v4 m)
def g_slices_swapRangeCmpFunc_int (K : Kn) (n : Nat) (v1 : (List Int)) (v2 : Int) (v3 : Int) (v4 : Int) (v5 : Fv) : Option (List Int) :=
  g_slices_swapRangeCmpFunc_int_l1 K n v2 v3 v4 n 0 v1
def g_slices_rotateCmpFunc_int_j1 (K : Kn) (n : Nat) (v3 : Int) (v5 : Fv) (L1 : Int → Int → (List Int) → Option (List Int)) (v16 : Int) (v17 : Int) (v18 : (List Int)) : Option (List Int) :=
  L1 v16 v17 v18
def g_slices_rotateCmpFunc_int_l2_b (K : Kn) (n : Nat) (v3 : Int) (v5 : Fv) (L1 : Int → Int → (List Int) → Option (List Int)) (v11 : Int) (v12 : Int) (v13 : (List Int)) : Option (List Int) :=
  if (v11 != v12) = true then
    if (decide (v11 > v12)) = true then
      (g_slices_swapRangeCmpFunc_int K n v13 (w64 (v3 - v11)) v3 v12 v5).bind fun v14 =>
      g_slices_rotateCmpFunc_int_j1 K n v3 v5 L1 (w64 (v11 - v12)) v12 v14
    else
      (g_slices_swapRangeCmpFunc_int K n v13 (w64 (v3 - v11)) (w64 ((w64 (v3 + v12)) - v11)) v11 v5).bind fun v15 =>
      g_slices_rotateCmpFunc_int_j1 K n v3 v5 L1 v11 (w64 (v12 - v11)) v15
  else
    (g_slices_swapRangeCmpFunc_int K n v13 (w64 (v3 - v11)) v3 v11 v5).bind fun v19 =>
    some v19
def g_slices_rotateCmpFunc_int_l2 (K : Kn) (n : Nat) (v3 : Int) (v5 : Fv) : Nat → Int → Int → (List Int) → Option (List Int)
  | 0 => fun _ _ _ => none
  | m + 1 => g_slices_rotateCmpFunc_int_l2_b K n v3 v5 (g_slices_rotateCmpFunc_int_l2 K n v3 v5 m)
def g_slices_rotateCmpFunc_int (K : Kn) (n : Nat) (v1 : (List Int)) (v2 : Int) (v3 : Int) (v4 : Int) (v5 : Fv) : Option (List Int) :=
  g_slices_rotateCmpFunc_int_l2 K n v3 v5 n (w64 (v3 - v2)) (w64 (v4 - v3)) v1
def g_slices_symMergeCmpFunc_int_j1 (K : Kn) (n : Nat) (v1 : (List Int)) (v2 : Int) (v5 : Fv) (L1 : Int → Int → Option (List Int)) (v14 : Int) (v15 : Int) : Option (List Int) :=
  L1 v14 v15
def g_slices_symMergeCmpFunc_int_l3_b (K : Kn) (n : Nat) (v10 : Int) (L2 : Int → (List Int) → Option (List Int)) (v16 : Int) (v17 : (List Int)) : Option (List Int) :=
  if (decide (v16 < (w64 (v10 - 1)))) = true then
    chk (inb (w64 (v16 + 1)) v17.length) (
    chk (inb v16 v17.length) (
    chk (inb v16 v17.length) (
    chk (inb (w64 (v16 + 1)) (List.set v17 (v16).toNat (List.getD v17 ((w64 (v16 + 1))).toNat default)).length) (
    L2 (w64 (v16 + 1)) (List.set (List.set v17 (v16).toNat (List.getD v17 ((w64 (v16 + 1))).toNat default)) ((w64 (v16 + 1))).toNat (List.getD v17 (v16).toNat default))))))
  else
    some v17
def g_slices_symMergeCmpFunc_int_l3 (K : Kn) (n : Nat) (v10 : Int) : Nat → Int → (List Int) → Option (List Int)
  | 0 => fun _ _ => none
  | m + 1 => g_slices_symMergeCmpFunc_int_l3_b K n v10 (g_slices_symMergeCmpFunc_int_l3 K n v10 m)
def g_slices_symMergeCmpFunc_int_l2_b (K : Kn) (n : Nat) (v1 : (List Int)) (v2 : Int) (v5 : Fv) (L1 : Int → Int → Option (List Int)) (v10 : Int) (v11 : Int) : Option (List Int) :=
  if (decide (v10 < v11)) = true then
    (some (w64 ((IntKind.wrap .u64 (w64 (v10 + v11))) / 2))).bind fun v12 =>
    chk (inb v12 v1.length) (
    chk (inb v2 v1.length) (
    (K.d_Int_Int__Int v5 (List.getD v1 (v12).toNat default) (List.getD v1 (v2).toNat default)).bind fun v13 =>
    if (decide (v13 < 0)) = true then
      g_slices_symMergeCmpFunc_int_j1 K n v1 v2 v5 L1 (w64 (v12 + 1)) v11
    else
      g_slices_symMergeCmpFunc_int_j1 K n v1 v2 v5 L1 v10 v12))
  else
    g_slices_symMergeCmpFunc_int_l3 K n v10 n v2 v1
def g_slices_symMergeCmpFunc_int_l2 (K : Kn) (n : Nat) (v1 : (List Int)) (v2 : Int) (v5 : Fv) : Nat → Int → Int → Option (List Int)
  | 0 => fun _ _ => none
  | m + 1 => g_slices_symMergeCmpFunc_int_l2_b K n v1 v2 v5 (g_slices_symMergeCmpFunc_int_l2 K n v1 v2 v5 m)
def g_slices_symMergeCmpFunc_int_j4 (K : Kn) (n : Nat) (v1 : (List Int)) (v3 : Int) (v5 : Fv) (L3 : Int → Int → Option (List Int)) (v26 : Int) (v27 : Int) : Option (List Int) :=
  L3 v26 v27
def g_slices_symMergeCmpFunc_int_l6_b (K : Kn) (n : Nat) (v22 : Int) (L4 : Int → (List Int) → Option (List Int)) (v28 : Int) (v29 : (List Int)) : Option (List Int) :=
  if (decide (v28 > v22)) = true then
    chk (inb (w64 (v28 - 1)) v29.length) (
    chk (inb v28 v29.length) (
    chk (inb v28 v29.length) (
    chk (inb (w64 (v28 - 1)) (List.set v29 (v28).toNat (List.getD v29 ((w64 (v28 - 1))).toNat default)).length) (
    L4 (w64 (v28 - 1)) (List.set (List.set v29 (v28).toNat (List.getD v29 ((w64 (v28 - 1))).toNat default)) ((w64 (v28 - 1))).toNat (List.getD v29 (v28).toNat default))))))
  else
    some v29
def g_slices_symMergeCmpFunc_int_l6 (K : Kn) (n : Nat) (v22 : Int) : Nat → Int → (List Int) → Option (List Int)
  | 0 => fun _ _ => none
  | m + 1 => g_slices_symMergeCmpFunc_int_l6_b K n v22 (g_slices_symMergeCmpFunc_int_l6 K n v22 m)
def g_slices_symMergeCmpFunc_int_l5_b (K : Kn) (n : Nat) (v1 : (List Int)) (v3 : Int) (v5 : Fv) (L3 : Int → Int → Option (List Int)) (v22 : Int) (v23 : Int) : Option (List Int) :=
  if (decide (v22 < v23)) = true then
    (some (w64 ((IntKind.wrap .u64 (w64 (v22 + v23))) / 2))).bind fun v24 =>
    chk (inb v3 v1.length) (
    chk (inb v24 v1.length) (
    (K.d_Int_Int__Int v5 (List.getD v1 (v3).toNat default) (List.getD v1 (v24).toNat default)).bind fun v25 =>
    if (!(decide (v25 < 0))) = true then
      g_slices_symMergeCmpFunc_int_j4 K n v1 v3 v5 L3 (w64 (v24 + 1)) v23
    else
      g_slices_symMergeCmpFunc_int_j4 K n v1 v3 v5 L3 v22 v24))
  else
    g_slices_symMergeCmpFunc_int_l6 K n v22 n v3 v1
def g_slices_symMergeCmpFunc_int_l5 (K : Kn) (n : Nat) (v1 : (List Int)) (v3 : Int) (v5 : Fv) : Nat → Int → Int → Option (List Int)
  | 0 => fun _ _ => none
  | m + 1 => g_slices_symMergeCmpFunc_int_l5_b K n v1 v3 v5 (g_slices_symMergeCmpFunc_int_l5 K n v1 v3 v5 m)
def g_slices_symMergeCmpFunc_int_j8 (K : Kn) (n : Nat) (v1 : (List Int)) (v2 : Int) (v3 : Int) (v4 : Int) (v5 : Fv) (v30 : Int) (v31 : Int) (L5 : Int → Int → Option (List Int)) (v43 : Int) (v44 : Int) : Option (List Int) :=
  L5 v43 v44
def g_slices_symMergeCmpFunc_int_j15 (K : Kn) (n : Nat) (v53 : (List Int)) : Option (List Int) :=
  some v53
def g_slices_symMergeCmpFunc_int_j14 (K : Kn) (n : Nat) (v4 : Int) (v5 : Fv) (v30 : Int) (v31 : Int) (v39 : Int) (v50 : (List Int)) (v51 : Bool) : Option (List Int) :=
  if v51 = true then
    (K.k_g_slices_symMergeCmpFunc_int v50 v30 (w64 (v31 - v39)) v4 v5).bind fun v52 =>
    g_slices_symMergeCmpFunc_int_j15 K n v52
  else
    g_slices_symMergeCmpFunc_int_j15 K n v50
def g_slices_symMergeCmpFunc_int_j13 (K : Kn) (n : Nat) (v4 : Int) (v5 : Fv) (v30 : Int) (v31 : Int) (v39 : Int) (v50 : (List Int)) : Option (List Int) :=
  if (decide (v30 < (w64 (v31 - v39)))) = true then
    g_slices_symMergeCmpFunc_int_j14 K n v4 v5 v30 v31 v39 v50 (decide ((w64 (v31 - v39)) < v4))
  else
    g_slices_symMergeCmpFunc_int_j14 K n v4 v5 v30 v31 v39 v50 false
def g_slices_symMergeCmpFunc_int_j12 (K : Kn) (n : Nat) (v2 : Int) (v4 : Int) (v5 : Fv) (v30 : Int) (v31 : Int) (v39 : Int) (v47 : (List Int)) (v48 : Bool) : Option (List Int) :=
  if v48 = true then
    (K.k_g_slices_symMergeCmpFunc_int v47 v2 v39 v30 v5).bind fun v49 =>
    g_slices_symMergeCmpFunc_int_j13 K n v4 v5 v30 v31 v39 v49
  else
    g_slices_symMergeCmpFunc_int_j13 K n v4 v5 v30 v31 v39 v47
def g_slices_symMergeCmpFunc_int_j11 (K : Kn) (n : Nat) (v2 : Int) (v4 : Int) (v5 : Fv) (v30 : Int) (v31 : Int) (v39 : Int) (v47 : (List Int)) : Option (List Int) :=
  if (decide (v2 < v39)) = true then
    g_slices_symMergeCmpFunc_int_j12 K n v2 v4 v5 v30 v31 v39 v47 (decide (v39 < v30))
  else
    g_slices_symMergeCmpFunc_int_j12 K n v2 v4 v5 v30 v31 v39 v47 false
def g_slices_symMergeCmpFunc_int_j10 (K : Kn) (n : Nat) (v1 : (List Int)) (v2 : Int) (v3 : Int) (v4 : Int) (v5 : Fv) (v30 : Int) (v31 : Int) (v39 : Int) (v45 : Bool) : Option (List Int) :=
  if v45 = true then
    (g_slices_rotateCmpFunc_int K n v1 v39 v3 (w64 (v31 - v39)) v5).bind fun v46 =>
    g_slices_symMergeCmpFunc_int_j11 K n v2 v4 v5 v30 v31 v39 v46
  else
    g_slices_symMergeCmpFunc_int_j11 K n v2 v4 v5 v30 v31 v39 v1
def g_slices_symMergeCmpFunc_int_l9_b (K : Kn) (n : Nat) (v1 : (List Int)) (v2 : Int) (v3 : Int) (v4 : Int) (v5 : Fv) (v30 : Int) (v31 : Int) (L5 : Int → Int → Option (List Int)) (v39 : Int) (v40 : Int) : Option (List Int) :=
  if (decide (v39 < v40)) = true then
    (some (w64 ((IntKind.wrap .u64 (w64 (v39 + v40))) / 2))).bind fun v41 =>
    chk (inb (w64 ((w64 (v31 - 1)) - v41)) v1.length) (
    chk (inb v41 v1.length) (
    (K.d_Int_Int__Int v5 (List.getD v1 ((w64 ((w64 (v31 - 1)) - v41))).toNat default) (List.getD v1 (v41).toNat default)).bind fun v42 =>
    if (!(decide (v42 < 0))) = true then
      g_slices_symMergeCmpFunc_int_j8 K n v1 v2 v3 v4 v5 v30 v31 L5 (w64 (v41 + 1)) v40
    else
      g_slices_symMergeCmpFunc_int_j8 K n v1 v2 v3 v4 v5 v30 v31 L5 v39 v41))
  else
    if (decide (v39 < v3)) = true then
      g_slices_symMergeCmpFunc_int_j10 K n v1 v2 v3 v4 v5 v30 v31 v39 (decide (v3 < (w64 (v31 - v39))))
    else
      g_slices_symMergeCmpFunc_int_j10 K n v1 v2 v3 v4 v5 v30 v31 v39 false
def g_slices_symMergeCmpFunc_int_l9 (K : Kn) (n : Nat) (v1 : (List Int)) (v2 : Int) (v3 : Int) (v4 : Int) (v5 : Fv) (v30 : Int) (v31 : Int) : Nat → Int → Int → Option (List Int)
  | 0 => fun _ _ => none
  | m + 1 => g_slices_symMergeCmpFunc_int_l9_b K n v1 v2 v3 v4 v5 v30 v31 (g_slices_symMergeCmpFunc_int_l9 K n v1 v2 v3 v4 v5 v30 v31 m)
def g_slices_symMergeCmpFunc_int_j7 (K : Kn) (n : Nat) (v1 : (List Int)) (v2 : Int) (v3 : Int) (v4 : Int) (v5 : Fv) (v30 : Int) (v31 : Int) (v33 : Int) (v34 : Int) : Option (List Int) :=
  g_slices_symMergeCmpFunc_int_l9 K n v1 v2 v3 v4 v5 v30 v31 n v33 v34
def g_slices_symMergeCmpFunc_int (K : Kn) (n : Nat) (v1 : (List Int)) (v2 : Int) (v3 : Int) (v4 : Int) (v5 : Fv) : Option (List Int) :=
  if ((w64 (v3 - v2)) == 1) = true then
    g_slices_symMergeCmpFunc_int_l2 K n v1 v2 v5 n v3 v4
  else
    if ((w64 (v4 - v3)) == 1) = true then
      g_slices_symMergeCmpFunc_int_l5 K n v1 v3 v5 n v2 v3
    else
      (some (w64 ((IntKind.wrap .u64 (w64 (v2 + v4))) / 2))).bind fun v30 =>
      (some (w64 ((w64 ((IntKind.wrap .u64 (w64 (v2 + v4))) / 2)) + v3))).bind fun v31 =>
      (some (decide (v3 > (w64 ((IntKind.wrap .u64 (w64 (v2 + v4))) / 2))))).bind fun v32 =>
      if v32 = true then
        g_slices_symMergeCmpFunc_int_j7 K n v1 v2 v3 v4 v5 v30 v31 (w64 (v31 - v4)) v30
      else
        g_slices_symMergeCmpFunc_int_j7 K n v1 v2 v3 v4 v5 v30 v31 v2 v3
def g_slices_stableCmpFunc_int_j3 (K : Kn) (n : Nat) (v2 : Int) (v3 : Fv) (v17 : Int) (L2 : Int → (List Int) → Option (List Int)) (v25 : (List Int)) : Option (List Int) :=
  L2 (w64 (v17 * 2)) v25
def g_slices_stableCmpFunc_int_l2_b (K : Kn) (n : Nat) (v2 : Int) (v3 : Fv) (v17 : Int) (L2 : Int → (List Int) → Option (List Int)) (L3 : Int → Int → (List Int) → Option (List Int)) (v20 : Int) (v21 : Int) (v22 : (List Int)) : Option (List Int) :=
  if (decide (v21 ≤ v2)) = true then
    (g_slices_symMergeCmpFunc_int K n v22 v20 (w64 (v20 + v17)) v21 v3).bind fun v23 =>
    L3 v21 (w64 (v21 + (w64 (2 * v17)))) v23
  else
    if (decide ((w64 (v20 + v17)) < v2)) = true then
      (g_slices_symMergeCmpFunc_int K n v22 v20 (w64 (v20 + v17)) v2 v3).bind fun v24 =>
      g_slices_stableCmpFunc_int_j3 K n v2 v3 v17 L2 v24
    else
      g_slices_stableCmpFunc_int_j3 K n v2 v3 v17 L2 v22
def g_slices_stableCmpFunc_int_l2 (K : Kn) (n : Nat) (v2 : Int) (v3 : Fv) (v17 : Int) (L2 : Int → (List Int) → Option (List Int)) : Nat → Int → Int → (List Int) → Option (List Int)
  | 0 => fun _ _ _ => none
  | m + 1 => g_slices_stableCmpFunc_int_l2_b K n v2 v3 v17 L2 (g_slices_stableCmpFunc_int_l2 K n v2 v3 v17 L2 m)
def g_slices_stableCmpFunc_int_l4_b (K : Kn) (n : Nat) (v2 : Int) (v3 : Fv) (L2 : Int → (List Int) → Option (List Int)) (v17 : Int) (v18 : (List Int)) : Option (List Int) :=
  if (decide (v17 < v2)) = true then
    g_slices_stableCmpFunc_int_l2 K n v2 v3 v17 L2 n 0 (w64 (2 * v17)) v18
  else
    some v18
def g_slices_stableCmpFunc_int_l4 (K : Kn) (n : Nat) (v2 : Int) (v3 : Fv) : Nat → Int → (List Int) → Option (List Int)
  | 0 => fun _ _ => none
  | m + 1 => g_slices_stableCmpFunc_int_l4_b K n v2 v3 (g_slices_stableCmpFunc_int_l4 K n v2 v3 m)
def g_slices_stableCmpFunc_int_l1_b (K : Kn) (n : Nat) (v2 : Int) (v3 : Fv) (L1 : Int → Int → (List Int) → Option (List Int)) (v5 : Int) (v6 : Int) (v7 : (List Int)) : Option (List Int) :=
  if (decide (v6 ≤ v2)) = true then
    (g_slices_insertionSortCmpFunc_int K n v7 v5 v6 v3).bind fun v8 =>
    L1 v6 (w64 (v6 + 20)) v8
  else
    (g_slices_insertionSortCmpFunc_int K n v7 v5 v2 v3).bind fun v9 =>
    g_slices_stableCmpFunc_int_l4 K n v2 v3 n 20 v9
def g_slices_stableCmpFunc_int_l1 (K : Kn) (n : Nat) (v2 : Int) (v3 : Fv) : Nat → Int → Int → (List Int) → Option (List Int)
  | 0 => fun _ _ _ => none
  | m + 1 => g_slices_stableCmpFunc_int_l1_b K n v2 v3 (g_slices_stableCmpFunc_int_l1 K n v2 v3 m)
def g_slices_stableCmpFunc_int (K : Kn) (n : Nat) (v1 : (List Int)) (v2 : Int) (v3 : Fv) : Option (List Int) :=
  g_slices_stableCmpFunc_int_l1 K n v2 v3 n 0 20 v1
def g_slices_SortStableFunc_int_int (K : Kn) (n : Nat) (v1 : (List Int)) (v2 : Fv) : Option (List Int) :=
  (g_slices_stableCmpFunc_int K n v1 (v1.length : Int) v2).bind fun v3 =>
  some v3
def g_cmp_isNaN_int (K : Kn) (n : Nat) (v1 : Int) : Option Bool :=
  some (v1 != v1)
def g_cmp_Compare_int (K : Kn) (n : Nat) (v1 : Int) (v2 : Int) : Option Int :=
  (g_cmp_isNaN_int K n v1).bind fun v3 =>
  (g_cmp_isNaN_int K n v2).bind fun v4 =>
  if v3 = true then
    if v4 = true then
      some 0
    else
      some (-1)
  else
    if v4 = true then
      some 1
    else
      if (decide (v1 < v2)) = true then
        some (-1)
      else
        if (decide (v1 > v2)) = true then
          some 1
        else
          some 0
def g_flex_Share_1 (K : Kn) (n : Nat) (v1 : Int) (v2 : Int) (v3 : (List Int)) : Option Int :=
  chk (inb v2 v3.length) (
  chk (inb v1 v3.length) (
  (g_cmp_Compare_int K n (List.getD v3 (v2).toNat default) (List.getD v3 (v1).toNat default)).bind fun v4 =>
  some v4))
def g_flex_Share_l3_b (K : Kn) (n : Nat) (L3 : (List Int) → Int → Int → (List Int) → Option (List Int)) (v26 : (List Int)) (v27 : Int) (v28 : Int) (v29 : (List Int)) : Option (List Int) :=
  if (decide (v28 < v27)) = true then
    chk (inb v28 v26.length) (
    chk (inb (List.getD v26 (v28).toNat default) v29.length) (
    chk (inb (List.getD v26 (v28).toNat default) v29.length) (
    L3 v26 v27 (w64 (v28 + 1)) (List.set v29 ((List.getD v26 (v28).toNat default)).toNat (w64 ((List.getD v29 ((List.getD v26 (v28).toNat default)).toNat default) + 1))))))
  else
    some v29
def g_flex_Share_l3 (K : Kn) (n : Nat) : Nat → (List Int) → Int → Int → (List Int) → Option (List Int)
  | 0 => fun _ _ _ _ => none
  | m + 1 => g_flex_Share_l3_b K n (g_flex_Share_l3 K n m)
def g_flex_Share_l2_b (K : Kn) (n : Nat) (v2 : (List Int)) (v3 : Int) (v8 : Int) (L2 : Int → Int → (List Int) → (List Int) → (List Int) → Option (List Int)) (v14 : Int) (v15 : Int) (v16 : (List Int)) (v17 : (List Int)) (v18 : (List Int)) : Option (List Int) :=
  if (decide (v15 < (v2.length : Int))) = true then
    chk (inb v15 v2.length) (
    (g_flex_limit K n (List.getD v2 (v15).toNat default) 2147483647).bind fun v19 =>
    chk ((v8 != 0)) (
    chk ((v8 != 0)) (
    chk (inb v15 v16.length) (
    chk (inb v15 v17.length) (
    chk (inb v15 v18.length) (
    (some (List.set v16 (v15).toNat (w64 (Int.tdiv (w64 (v3 * v19)) v8)))).bind fun v20 =>
    (some (List.set v17 (v15).toNat (Int.tmod (w64 (v3 * v19)) v8))).bind fun v21 =>
    chk (inb v15 v20.length) (
    L2 (w64 (v14 - (List.getD v20 (v15).toNat default))) (w64 (v15 + 1)) v20 v21 (List.set v18 (v15).toNat v15))))))))
  else
    (g_slices_SortStableFunc_int_int K n v18 (Fv.c36 v17)).bind fun v22 =>
    chk (slb (0 : Int) v14 v22.length) (
    g_flex_Share_l3 K n n (List.drop ((0 : Int)).toNat (List.take (v14).toNat v22)) ((List.drop ((0 : Int)).toNat (List.take (v14).toNat v22)).length : Int) 0 v16)
def g_flex_Share_l2 (K : Kn) (n : Nat) (v2 : (List Int)) (v3 : Int) (v8 : Int) : Nat → Int → Int → (List Int) → (List Int) → (List Int) → Option (List Int)
  | 0 => fun _ _ _ _ _ => none
  | m + 1 => g_flex_Share_l2_b K n v2 v3 v8 (g_flex_Share_l2 K n v2 v3 v8 m)
def g_flex_Share_l1_b (K : Kn) (n : Nat) (v2 : (List Int)) (v3 : Int) (v4 : (List Int)) (v5 : (List Int)) (v6 : (List Int)) (L1 : Int → Int → Option (List Int)) (v8 : Int) (v9 : Int) : Option (List Int) :=
  if (decide (v9 < (v2.length : Int))) = true then
    chk (inb v9 v2.length) (
    (g_flex_limit K n (List.getD v2 (v9).toNat default) 2147483647).bind fun v10 =>
    L1 (w64 (v8 + v10)) (w64 (v9 + 1)))
  else
    if (v8 == 0) = true then
      some v4
    else
      g_flex_Share_l2 K n v2 v3 v8 n v3 0 v4 v5 v6
def g_flex_Share_l1 (K : Kn) (n : Nat) (v2 : (List Int)) (v3 : Int) (v4 : (List Int)) (v5 : (List Int)) (v6 : (List Int)) : Nat → Int → Int → Option (List Int)
  | 0 => fun _ _ => none
  | m + 1 => g_flex_Share_l1_b K n v2 v3 v4 v5 v6 (g_flex_Share_l1 K n v2 v3 v4 v5 v6 m)
def g_flex_Share (K : Kn) (n : Nat) (v1 : Int) (v2 : (List Int)) : Option (List Int) :=
  (g_flex_limit K n v1 2147483647).bind fun v3 =>
  chk (mkb (v2.length : Int) 8) (
  (some (List.replicate ((v2.length : Int)).toNat (0 : Int))).bind fun v4 =>
  chk (mkb (v2.length : Int) 8) (
  (some (List.replicate ((v2.length : Int)).toNat (0 : Int))).bind fun v5 =>
  chk (mkb (v2.length : Int) 8) (
  (some (List.replicate ((v2.length : Int)).toNat (0 : Int))).bind fun v6 =>
  g_flex_Share_l1 K n v2 v3 v4 v5 v6 n 0 0)))
def g_flex_normal (K : Kn) (n : Nat) (v1 : TFlexItem) : Option TFlexItem :=
  (g_flex_limit K n v1.Base 1048576).bind fun v2 =>
  (g_flex_limit K n v1.Grow 1048576).bind fun v3 =>
  (g_flex_limit K n v1.Shrink 1048576).bind fun v4 =>
  (g_flex_limit K n v1.Min 1048576).bind fun v5 =>
  (g_flex_limit K n v1.Max 1048576).bind fun v6 =>
  some (⟨v2, v3, v4, v5, (max v6 v5)⟩ : TFlexItem)
def g_flex_clamp (K : Kn) (n : Nat) (v1 : TFlexItem) (v2 : Int) : Option Int :=
  some (min (max v2 v1.Min) v1.Max)
def g_flex_hypothetical (K : Kn) (n : Nat) (v1 : TFlexItem) : Option Int :=
  (g_flex_normal K n v1).bind fun v2 =>
  (g_flex_clamp K n v2 v2.Base).bind fun v3 =>
  some v3
def g_flex_resolve_j1 (K : Kn) (n : Nat) (v1 : (List TFlexState)) (v3 : Int) (v18 : Int) (L1 : Int → Int → Int → (List Int) → (List Int) → Option (Bool × (List TFlexState))) (v23 : Int) (v24 : Int) (v25 : (List Int)) (v26 : (List Int)) : Option (Bool × (List TFlexState)) :=
  L1 v23 v24 (w64 (v18 + 1)) v25 v26
def g_flex_resolve_j6 (K : Kn) (n : Nat) (v19 : (List Int)) (v31 : Int) (v33 : (List Int)) (v39 : Int) (L3 : Int → (List TFlexState) → Option (Bool × (List TFlexState))) (v43 : (List TFlexState)) : Option (Bool × (List TFlexState)) :=
  L3 (w64 (v39 + 1)) v43
def g_flex_resolve_j5 (K : Kn) (n : Nat) (v19 : (List Int)) (v31 : Int) (v33 : (List Int)) (v39 : Int) (v40 : (List TFlexState)) (v41 : Int) (L3 : Int → (List TFlexState) → Option (Bool × (List TFlexState))) (v42 : Bool) : Option (Bool × (List TFlexState)) :=
  if v42 = true then
    chk (decide (((List.getD v19 (v39).toNat default)).toNat < v40.length)) (
    g_flex_resolve_j6 K n v19 v31 v33 v39 L3 (List.set (List.set v40 ((List.getD v19 (v39).toNat default)).toNat ({ (List.getD v40 ((List.getD v19 (v39).toNat default)).toNat default) with size := v41 } : TFlexState)) ((List.getD v19 (v39).toNat default)).toNat ({ (List.getD (List.set v40 ((List.getD v19 (v39).toNat default)).toNat ({ (List.getD v40 ((List.getD v19 (v39).toNat default)).toNat default) with size := v41 } : TFlexState)) ((List.getD v19 (v39).toNat default)).toNat default) with fixed := true } : TFlexState)))
  else
    g_flex_resolve_j6 K n v19 v31 v33 v39 L3 v40
def g_flex_resolve_l7_b (K : Kn) (n : Nat) (v19 : (List Int)) (v31 : Int) (v33 : (List Int)) (L3 : Int → (List TFlexState) → Option (Bool × (List TFlexState))) (v39 : Int) (v40 : (List TFlexState)) : Option (Bool × (List TFlexState)) :=
  if (decide (v39 < (v19.length : Int))) = true then
    chk (inb v39 v19.length) (
    chk (inb (List.getD v19 (v39).toNat default) v40.length) (
    chk (inb v39 v33.length) (
    (g_flex_clamp K n ((List.getD v40 ((List.getD v19 (v39).toNat default)).toNat default).Item) (List.getD v33 (v39).toNat default)).bind fun v41 =>
    if (v31 == 0) = true then
      g_flex_resolve_j5 K n v19 v31 v33 v39 v40 v41 L3 true
    else
      if (decide (v31 > 0)) = true then
        chk (inb v39 v33.length) (
        if (decide (v41 > (List.getD v33 (v39).toNat default))) = true then
          g_flex_resolve_j5 K n v19 v31 v33 v39 v40 v41 L3 true
        else
          if (decide (v31 < 0)) = true then
            chk (inb v39 v33.length) (
            g_flex_resolve_j5 K n v19 v31 v33 v39 v40 v41 L3 (decide (v41 < (List.getD v33 (v39).toNat default))))
          else
            g_flex_resolve_j5 K n v19 v31 v33 v39 v40 v41 L3 false)
      else
        if (decide (v31 < 0)) = true then
          chk (inb v39 v33.length) (
          g_flex_resolve_j5 K n v19 v31 v33 v39 v40 v41 L3 (decide (v41 < (List.getD v33 (v39).toNat default))))
        else
          g_flex_resolve_j5 K n v19 v31 v33 v39 v40 v41 L3 false)))
  else
    some (true, v40)
def g_flex_resolve_l7 (K : Kn) (n : Nat) (v19 : (List Int)) (v31 : Int) (v33 : (List Int)) : Nat → Int → (List TFlexState) → Option (Bool × (List TFlexState))
  | 0 => fun _ _ => none
  | m + 1 => g_flex_resolve_l7_b K n v19 v31 v33 (g_flex_resolve_l7 K n v19 v31 v33 m)
def g_flex_resolve_l4_b (K : Kn) (n : Nat) (v1 : (List TFlexState)) (v3 : Int) (v19 : (List Int)) (L2 : Int → Int → (List Int) → Option (Bool × (List TFlexState))) (v31 : Int) (v32 : Int) (v33 : (List Int)) : Option (Bool × (List TFlexState)) :=
  if (decide (v32 < (v19.length : Int))) = true then
    chk (inb v32 v19.length) (
    chk (inb (List.getD v19 (v32).toNat default) v1.length) (
    chk (inb v32 v33.length) (
    chk (inb v32 v33.length) (
    (some (List.set v33 (v32).toNat (w64 ((((List.getD v1 ((List.getD v19 (v32).toNat default)).toNat default).Item).Base) + (w64 (v3 * (List.getD v33 (v32).toNat default))))))).bind fun v34 =>
    chk (inb (List.getD v19 (v32).toNat default) v1.length) (
    chk (inb v32 v34.length) (
    (g_flex_clamp K n ((List.getD v1 ((List.getD v19 (v32).toNat default)).toNat default).Item) (List.getD v34 (v32).toNat default)).bind fun v35 =>
    chk (inb v32 v34.length) (
    L2 (w64 (v31 + (w64 (v35 - (List.getD v34 (v32).toNat default))))) (w64 (v32 + 1)) v34)))))))
  else
    g_flex_resolve_l7 K n v19 v31 v33 n 0 v1
def g_flex_resolve_l4 (K : Kn) (n : Nat) (v1 : (List TFlexState)) (v3 : Int) (v19 : (List Int)) : Nat → Int → Int → (List Int) → Option (Bool × (List TFlexState))
  | 0 => fun _ _ _ => none
  | m + 1 => g_flex_resolve_l4_b K n v1 v3 v19 (g_flex_resolve_l4 K n v1 v3 v19 m)
def g_flex_resolve_j3 (K : Kn) (n : Nat) (v1 : (List TFlexState)) (v3 : Int) (v19 : (List Int)) (v20 : (List Int)) (v27 : Int) : Option (Bool × (List TFlexState)) :=
  (g_flex_Share K n v27 v20).bind fun v28 =>
  g_flex_resolve_l4 K n v1 v3 v19 n 0 0 v28
def g_flex_resolve_l2_b (K : Kn) (n : Nat) (v1 : (List TFlexState)) (v3 : Int) (L1 : Int → Int → Int → (List Int) → (List Int) → Option (Bool × (List TFlexState))) (v16 : Int) (v17 : Int) (v18 : Int) (v19 : (List Int)) (v20 : (List Int)) : Option (Bool × (List TFlexState)) :=
  if (decide (v18 < (v1.length : Int))) = true then
    chk (inb v18 v1.length) (
    if (List.getD v1 (v18).toNat default).fixed = true then
      g_flex_resolve_j1 K n v1 v3 v18 L1 (w64 (v16 - ((List.getD v1 (v18).toNat default).size))) v17 v19 v20
    else
      (some (w64 (v16 - (((List.getD v1 (v18).toNat default).Item).Base)))).bind fun v21 =>
      (some (w64 (v17 + ((List.getD v1 (v18).toNat default).factor)))).bind fun v22 =>
      chk (fits (v19.length + ([v18] : (List Int)).length) 8) (
      chk (fits (v20.length + ([(List.getD v1 (v18).toNat default).weight] : (List Int)).length) 8) (
      g_flex_resolve_j1 K n v1 v3 v18 L1 v21 v22 (v19 ++ [v18]) (v20 ++ [(List.getD v1 (v18).toNat default).weight]))))
  else
    if ((v19.length : Int) == 0) = true then
      some (false, v1)
    else
      if (decide (v17 < 1000)) = true then
        g_flex_resolve_j3 K n v1 v3 v19 v20 (w64 ((w64 ((w64 (Int.tdiv (max (w64 (v16 * v3)) 0) 1000)) * v17)) + (w64 (Int.tdiv (w64 ((Int.tmod (max (w64 (v16 * v3)) 0) 1000) * v17)) 1000))))
      else
        g_flex_resolve_j3 K n v1 v3 v19 v20 (max (w64 (v16 * v3)) 0)
def g_flex_resolve_l2 (K : Kn) (n : Nat) (v1 : (List TFlexState)) (v3 : Int) : Nat → Int → Int → Int → (List Int) → (List Int) → Option (Bool × (List TFlexState))
  | 0 => fun _ _ _ _ _ => none
  | m + 1 => g_flex_resolve_l2_b K n v1 v3 (g_flex_resolve_l2 K n v1 v3 m)
def g_flex_resolve (K : Kn) (n : Nat) (v1 : (List TFlexState)) (v2 : Int) (v3 : Int) : Option (Bool × (List TFlexState)) :=
  g_flex_resolve_l2 K n v1 v3 n v2 0 0 [] []
def g_flex_Resolve_j4 (K : Kn) (n : Nat) (v3 : Int) (v10 : (List TFlexState)) (v14 : Int) (v19 : Int) (L2 : Int → (List TFlexState) → Option (List Int)) (v24 : (List TFlexState)) : Option (List Int) :=
  L2 (w64 (v19 + 1)) v24
def g_flex_Resolve_j3 (K : Kn) (n : Nat) (v3 : Int) (v10 : (List TFlexState)) (v14 : Int) (v19 : Int) (L2 : Int → (List TFlexState) → Option (List Int)) (v23 : (List TFlexState)) : Option (List Int) :=
  chk (decide ((v19).toNat < v23.length)) (
  if (List.getD v23 (v19).toNat default).fixed = true then
    g_flex_Resolve_j4 K n v3 v10 v14 v19 L2 (List.set v23 (v19).toNat ({ (List.getD v23 (v19).toNat default) with fixed := true } : TFlexState))
  else
    g_flex_Resolve_j4 K n v3 v10 v14 v19 L2 (List.set v23 (v19).toNat ({ (List.getD v23 (v19).toNat default) with fixed := (((List.getD v23 (v19).toNat default).factor) == 0) } : TFlexState)))
def g_flex_Resolve_l7_b (K : Kn) (n : Nat) (v27 : (Bool × (List TFlexState))) (L4 : Int → (List Int) → Option (List Int)) (v29 : Int) (v30 : (List Int)) : Option (List Int) :=
  if (decide (v29 < (v27.2.length : Int))) = true then
    chk (inb v29 v27.2.length) (
    chk (inb v29 v30.length) (
    L4 (w64 (v29 + 1)) (List.set v30 (v29).toNat ((List.getD v27.2 (v29).toNat default).size))))
  else
    some v30
def g_flex_Resolve_l7 (K : Kn) (n : Nat) (v27 : (Bool × (List TFlexState))) : Nat → Int → (List Int) → Option (List Int)
  | 0 => fun _ _ => none
  | m + 1 => g_flex_Resolve_l7_b K n v27 (g_flex_Resolve_l7 K n v27 m)
def g_flex_Resolve_l6_b (K : Kn) (n : Nat) (v3 : Int) (v14 : Int) (L3 : (List TFlexState) → Option (List Int)) (v26 : (List TFlexState)) : Option (List Int) :=
  (g_flex_resolve K n v26 v3 v14).bind fun v27 =>
  if v27.1 = true then
    L3 v27.2
  else
    chk (mkb (v27.2.length : Int) 8) (
    (some (List.replicate ((v27.2.length : Int)).toNat (0 : Int))).bind fun v28 =>
    g_flex_Resolve_l7 K n v27 n 0 v28)
def g_flex_Resolve_l6 (K : Kn) (n : Nat) (v3 : Int) (v14 : Int) : Nat → (List TFlexState) → Option (List Int)
  | 0 => fun _ => none
  | m + 1 => g_flex_Resolve_l6_b K n v3 v14 (g_flex_Resolve_l6 K n v3 v14 m)
def g_flex_Resolve_l5_b (K : Kn) (n : Nat) (v3 : Int) (v10 : (List TFlexState)) (v14 : Int) (L2 : Int → (List TFlexState) → Option (List Int)) (v19 : Int) (v20 : (List TFlexState)) : Option (List Int) :=
  if (decide (v19 < (v10.length : Int))) = true then
    chk (inb v19 v20.length) (
    if (decide (v14 > 0)) = true then
      (some (List.set (List.set v20 (v19).toNat ({ (List.getD v20 (v19).toNat default) with factor := ((List.getD v20 (v19).toNat default).Item).Grow } : TFlexState)) (v19).toNat ({ (List.getD (List.set v20 (v19).toNat ({ (List.getD v20 (v19).toNat default) with factor := ((List.getD v20 (v19).toNat default).Item).Grow } : TFlexState)) (v19).toNat default) with weight := ((List.getD v20 (v19).toNat default).Item).Grow } : TFlexState))).bind fun v21 =>
      g_flex_Resolve_j3 K n v3 v10 v14 v19 L2 (List.set v21 (v19).toNat ({ (List.getD v21 (v19).toNat default) with fixed := (decide ((((List.getD v21 (v19).toNat default).Item).Base) > ((List.getD v21 (v19).toNat default).size))) } : TFlexState))
    else
      (some (List.set (List.set v20 (v19).toNat ({ (List.getD v20 (v19).toNat default) with factor := ((List.getD v20 (v19).toNat default).Item).Shrink } : TFlexState)) (v19).toNat ({ (List.getD (List.set v20 (v19).toNat ({ (List.getD v20 (v19).toNat default) with factor := ((List.getD v20 (v19).toNat default).Item).Shrink } : TFlexState)) (v19).toNat default) with weight := (w64 (Int.tdiv (w64 ((((List.getD v20 (v19).toNat default).Item).Base) * (((List.getD v20 (v19).toNat default).Item).Shrink))) 1000)) } : TFlexState))).bind fun v22 =>
      g_flex_Resolve_j3 K n v3 v10 v14 v19 L2 (List.set v22 (v19).toNat ({ (List.getD v22 (v19).toNat default) with fixed := (decide ((((List.getD v22 (v19).toNat default).Item).Base) < ((List.getD v22 (v19).toNat default).size))) } : TFlexState)))
  else
    g_flex_Resolve_l6 K n v3 v14 n v20
def g_flex_Resolve_l5 (K : Kn) (n : Nat) (v3 : Int) (v10 : (List TFlexState)) (v14 : Int) : Nat → Int → (List TFlexState) → Option (List Int)
  | 0 => fun _ _ => none
  | m + 1 => g_flex_Resolve_l5_b K n v3 v10 v14 (g_flex_Resolve_l5 K n v3 v10 v14 m)
def g_flex_Resolve_j2 (K : Kn) (n : Nat) (v3 : Int) (v10 : (List TFlexState)) (v14 : Int) : Option (List Int) :=
  g_flex_Resolve_l5 K n v3 v10 v14 n 0 v10
def g_flex_Resolve_l1_b (K : Kn) (n : Nat) (v1 : (List TFlexItem)) (v3 : Int) (L1 : Int → Int → (List TFlexState) → Option (List Int)) (v8 : Int) (v9 : Int) (v10 : (List TFlexState)) : Option (List Int) :=
  if (decide (v9 < (v1.length : Int))) = true then
    chk (inb v9 v1.length) (
    (g_flex_normal K n (List.getD v1 (v9).toNat default)).bind fun v11 =>
    (g_flex_hypothetical K n (List.getD v1 (v9).toNat default)).bind fun v12 =>
    chk (inb v9 v10.length) (
    (some (List.set v10 (v9).toNat ({ zTFlexState with Item := v11, size := v12 } : TFlexState))).bind fun v13 =>
    chk (inb v9 v13.length) (
    L1 (w64 (v8 + ((List.getD v13 (v9).toNat default).size))) (w64 (v9 + 1)) v13)))
  else
    if (decide (v8 < v3)) = true then
      g_flex_Resolve_j2 K n v3 v10 1
    else
      g_flex_Resolve_j2 K n v3 v10 (-1)
def g_flex_Resolve_l1 (K : Kn) (n : Nat) (v1 : (List TFlexItem)) (v3 : Int) : Nat → Int → Int → (List TFlexState) → Option (List Int)
  | 0 => fun _ _ _ => none
  | m + 1 => g_flex_Resolve_l1_b K n v1 v3 (g_flex_Resolve_l1 K n v1 v3 m)
def g_flex_Resolve (K : Kn) (n : Nat) (v1 : (List TFlexItem)) (v2 : Int) : Option (List Int) :=
  (some (min (max v2 (-1125899906842624)) 1125899906842624)).bind fun v3 =>
  chk (mkb (v1.length : Int) 72) (
  (some (List.replicate ((v1.length : Int)).toNat (zTFlexState : TFlexState))).bind fun v4 =>
  g_flex_Resolve_l1 K n v1 v3 n 0 0 v4)
def g_law19_fit_j1 (K : Kn) (n : Nat) (v5 : Bool) : Option Bool :=
  some v5
def g_law19_fit (K : Kn) (n : Nat) : Option Bool :=
  (g_flex_Share K n 10 [1, 2, 4]).bind fun v1 =>
  (g_flex_Resolve K n [(⟨50, 1000, 0, 0, 60⟩ : TFlexItem), (⟨50, 3000, 0, 0, 900⟩ : TFlexItem)] 200).bind fun v2 =>
  (g_law19_equal K n v1 [1, 3, 6]).bind fun v3 =>
  if v3 = true then
    (g_law19_equal K n v2 [60, 140]).bind fun v4 =>
    g_law19_fit_j1 K n v4
  else
    g_law19_fit_j1 K n false
def g_ref17_small_j1 (K : Kn) (n : Nat) (v2 : Bool) : Option Bool :=
  some v2
def g_ref17_small (K : Kn) (n : Nat) (v1 : TCascadeLength) : Option Bool :=
  if (decide (v1.Value ≥ (-16777216))) = true then
    g_ref17_small_j1 K n (decide (v1.Value ≤ 16777216))
  else
    g_ref17_small_j1 K n false
def g_ref17_Few_j5 (K : Kn) (n : Nat) (v1 : (List TKnapsackref17Spec)) (v2 : Int) (v23 : Int) (L1 : Int → Option Bool) (v43 : Bool) : Option Bool :=
  if v43 = true then
    some false
  else
    L1 (w64 (v23 + 1))
def g_ref17_Few_j4 (K : Kn) (n : Nat) (v1 : (List TKnapsackref17Spec)) (v2 : Int) (v23 : Int) (L1 : Int → Option Bool) (v40 : Bool) : Option Bool :=
  if v40 = true then
    some false
  else
    (g_ref17_small K n ((((List.getD v1 (v23).toNat default).Style).Margin).a3)).bind fun v41 =>
    if (!v41) = true then
      g_ref17_Few_j5 K n v1 v2 v23 L1 true
    else
      (g_ref17_small K n ((((List.getD v1 (v23).toNat default).Style).Padding).a3)).bind fun v42 =>
      g_ref17_Few_j5 K n v1 v2 v23 L1 (!v42)
def g_ref17_Few_j3 (K : Kn) (n : Nat) (v1 : (List TKnapsackref17Spec)) (v2 : Int) (v23 : Int) (L1 : Int → Option Bool) (v37 : Bool) : Option Bool :=
  if v37 = true then
    some false
  else
    (g_ref17_small K n ((((List.getD v1 (v23).toNat default).Style).Margin).a2)).bind fun v38 =>
    if (!v38) = true then
      g_ref17_Few_j4 K n v1 v2 v23 L1 true
    else
      (g_ref17_small K n ((((List.getD v1 (v23).toNat default).Style).Padding).a2)).bind fun v39 =>
      g_ref17_Few_j4 K n v1 v2 v23 L1 (!v39)
def g_ref17_Few_j2 (K : Kn) (n : Nat) (v1 : (List TKnapsackref17Spec)) (v2 : Int) (v23 : Int) (L1 : Int → Option Bool) (v34 : Bool) : Option Bool :=
  if v34 = true then
    some false
  else
    (g_ref17_small K n ((((List.getD v1 (v23).toNat default).Style).Margin).a1)).bind fun v35 =>
    if (!v35) = true then
      g_ref17_Few_j3 K n v1 v2 v23 L1 true
    else
      (g_ref17_small K n ((((List.getD v1 (v23).toNat default).Style).Padding).a1)).bind fun v36 =>
      g_ref17_Few_j3 K n v1 v2 v23 L1 (!v36)
def g_ref17_Few_j1 (K : Kn) (n : Nat) (v1 : (List TKnapsackref17Spec)) (v2 : Int) (v23 : Int) (L1 : Int → Option Bool) (v31 : Bool) : Option Bool :=
  if v31 = true then
    some false
  else
    (g_ref17_small K n ((((List.getD v1 (v23).toNat default).Style).Margin).a0)).bind fun v32 =>
    if (!v32) = true then
      g_ref17_Few_j2 K n v1 v2 v23 L1 true
    else
      (g_ref17_small K n ((((List.getD v1 (v23).toNat default).Style).Padding).a0)).bind fun v33 =>
      g_ref17_Few_j2 K n v1 v2 v23 L1 (!v33)
def g_ref17_Few_l6_b (K : Kn) (n : Nat) (v1 : (List TKnapsackref17Spec)) (v2 : Int) (L1 : Int → Option Bool) (v23 : Int) : Option Bool :=
  if (decide (v23 < (v1.length : Int))) = true then
    chk (inb v23 v1.length) (
    chk (inb v23 v1.length) (
    if (decide ((((List.getD v1 (v23).toNat default).Text).size : Int) > 60)) = true then
      g_ref17_Few_j1 K n v1 v2 v23 L1 true
    else
      (g_ref17_small K n (((List.getD v1 (v23).toNat default).Style).Left)).bind fun v24 =>
      if (!v24) = true then
        g_ref17_Few_j1 K n v1 v2 v23 L1 true
      else
        (g_ref17_small K n (((List.getD v1 (v23).toNat default).Style).Top)).bind fun v25 =>
        if (!v25) = true then
          g_ref17_Few_j1 K n v1 v2 v23 L1 true
        else
          (g_ref17_small K n (((List.getD v1 (v23).toNat default).Style).Width)).bind fun v26 =>
          if (!v26) = true then
            g_ref17_Few_j1 K n v1 v2 v23 L1 true
          else
            (g_ref17_small K n (((List.getD v1 (v23).toNat default).Style).Height)).bind fun v27 =>
            if (!v27) = true then
              g_ref17_Few_j1 K n v1 v2 v23 L1 true
            else
              (g_ref17_small K n (((List.getD v1 (v23).toNat default).Style).MinWidth)).bind fun v28 =>
              if (!v28) = true then
                g_ref17_Few_j1 K n v1 v2 v23 L1 true
              else
                (g_ref17_small K n (((List.getD v1 (v23).toNat default).Style).MaxWidth)).bind fun v29 =>
                if (!v29) = true then
                  g_ref17_Few_j1 K n v1 v2 v23 L1 true
                else
                  (g_ref17_small K n (((List.getD v1 (v23).toNat default).Style).Basis)).bind fun v30 =>
                  if (!v30) = true then
                    g_ref17_Few_j1 K n v1 v2 v23 L1 true
                  else
                    if (decide ((((List.getD v1 (v23).toNat default).Style).LineHeight) < 0)) = true then
                      g_ref17_Few_j1 K n v1 v2 v23 L1 true
                    else
                      if (decide ((((List.getD v1 (v23).toNat default).Style).LineHeight) > 65536)) = true then
                        g_ref17_Few_j1 K n v1 v2 v23 L1 true
                      else
                        if (decide ((((List.getD v1 (v23).toNat default).Style).FontSize) < 0)) = true then
                          g_ref17_Few_j1 K n v1 v2 v23 L1 true
                        else
                          if (decide ((((List.getD v1 (v23).toNat default).Style).FontSize) > 65536)) = true then
                            g_ref17_Few_j1 K n v1 v2 v23 L1 true
                          else
                            if (decide ((((List.getD v1 (v23).toNat default).Style).Grow) < 0)) = true then
                              g_ref17_Few_j1 K n v1 v2 v23 L1 true
                            else
                              if (decide ((((List.getD v1 (v23).toNat default).Style).Grow) > 1048576)) = true then
                                g_ref17_Few_j1 K n v1 v2 v23 L1 true
                              else
                                if (decide ((((List.getD v1 (v23).toNat default).Style).Shrink) < 0)) = true then
                                  g_ref17_Few_j1 K n v1 v2 v23 L1 true
                                else
                                  g_ref17_Few_j1 K n v1 v2 v23 L1 (decide ((((List.getD v1 (v23).toNat default).Style).Shrink) > 1048576))))
  else
    some (decide ((v1.length : Int) ≤ v2))
def g_ref17_Few_l6 (K : Kn) (n : Nat) (v1 : (List TKnapsackref17Spec)) (v2 : Int) : Nat → Int → Option Bool
  | 0 => fun _ => none
  | m + 1 => g_ref17_Few_l6_b K n v1 v2 (g_ref17_Few_l6 K n v1 v2 m)
def g_ref17_Few (K : Kn) (n : Nat) (v1 : (List TKnapsackref17Spec)) (v2 : Int) : Option Bool :=
  g_ref17_Few_l6 K n v1 v2 n 0
def g_law19_fits_j1 (K : Kn) (n : Nat) (v3 : Bool) : Option Bool :=
  some v3
def g_law19_fits (K : Kn) (n : Nat) (v1 : (List TKnapsackref17Spec)) : Option Bool :=
  (g_ref17_Few K n v1 16).bind fun v2 =>
  if v2 = true then
    if (decide ((v1.length : Int) > 1)) = true then
      chk (inb (1 : Int) v1.length) (
      chk (inb (0 : Int) v1.length) (
      if (decide (((List.getD v1 (1 : Int).toNat default).Depth) > ((List.getD v1 (0 : Int).toNat default).Depth))) = true then
        chk (inb (1 : Int) v1.length) (
        g_law19_fits_j1 K n ((Int.tmod ((List.getD v1 (1 : Int).toNat default).Kind) 2) == 0))
      else
        g_law19_fits_j1 K n false))
    else
      g_law19_fits_j1 K n false
  else
    g_law19_fits_j1 K n false
def g_ref17_Tree_j2 (K : Kn) (n : Nat) (v1 : (List TKnapsackref17Spec)) (v2 : Int) (v3 : Bool) (v8 : Int) (v9 : (List TBoxtreeBox)) (L1 : Int → (List TBoxtreeBox) → Option (TBoxtreeBox × Int)) (v10 : Bool) : Option (TBoxtreeBox × Int) :=
  if v10 = true then
    if v3 = true then
      (K.k_g_ref17_Tree v1 v8).bind fun v11 =>
      chk (fits (v9.length + ([v11.1] : (List TBoxtreeBox)).length) 520) (
      L1 v11.2 (v9 ++ [v11.1]))
    else
      chk (inb v8 v1.length) (
      chk (inb v8 v1.length) (
      chk (fits (v9.length + ([({ zTBoxtreeBox with Kind := 3, Style := (List.getD v1 (v8).toNat default).Style, Text := (List.getD v1 (v8).toNat default).Text } : TBoxtreeBox)] : (List TBoxtreeBox)).length) 520) (
      L1 (w64 (v8 + 1)) (v9 ++ [({ zTBoxtreeBox with Kind := 3, Style := (List.getD v1 (v8).toNat default).Style, Text := (List.getD v1 (v8).toNat default).Text } : TBoxtreeBox)]))))
  else
    some ((⟨1, (w64 (10 + v2)), (List.getD v1 (v2).toNat default).Style, ⟨#[]⟩, 0, 0, v9⟩ : TBoxtreeBox), v8)
def g_ref17_Tree_l3_b (K : Kn) (n : Nat) (v1 : (List TKnapsackref17Spec)) (v2 : Int) (v3 : Bool) (L1 : Int → (List TBoxtreeBox) → Option (TBoxtreeBox × Int)) (v8 : Int) (v9 : (List TBoxtreeBox)) : Option (TBoxtreeBox × Int) :=
  if (decide (v8 < (v1.length : Int))) = true then
    chk (inb v8 v1.length) (
    g_ref17_Tree_j2 K n v1 v2 v3 v8 v9 L1 (decide (((List.getD v1 (v8).toNat default).Depth) > ((List.getD v1 (v2).toNat default).Depth))))
  else
    g_ref17_Tree_j2 K n v1 v2 v3 v8 v9 L1 false
def g_ref17_Tree_l3 (K : Kn) (n : Nat) (v1 : (List TKnapsackref17Spec)) (v2 : Int) (v3 : Bool) : Nat → Int → (List TBoxtreeBox) → Option (TBoxtreeBox × Int)
  | 0 => fun _ _ => none
  | m + 1 => g_ref17_Tree_l3_b K n v1 v2 v3 (g_ref17_Tree_l3 K n v1 v2 v3 m)
def g_ref17_Tree_j1 (K : Kn) (n : Nat) (v1 : (List TKnapsackref17Spec)) (v2 : Int) (v3 : Bool) : Option (TBoxtreeBox × Int) :=
  g_ref17_Tree_l3 K n v1 v2 v3 n (w64 (v2 + 1)) []
def g_ref17_Tree (K : Kn) (n : Nat) (v1 : (List TKnapsackref17Spec)) (v2 : Int) : Option (TBoxtreeBox × Int) :=
  chk (inb v2 v1.length) (
  chk (inb v2 v1.length) (
  if (decide ((w64 (v2 + 1)) < (v1.length : Int))) = true then
    chk (inb (w64 (v2 + 1)) v1.length) (
    if (decide (((List.getD v1 ((w64 (v2 + 1))).toNat default).Depth) > ((List.getD v1 (v2).toNat default).Depth))) = true then
      chk (inb (w64 (v2 + 1)) v1.length) (
      g_ref17_Tree_j1 K n v1 v2 ((Int.tmod ((List.getD v1 ((w64 (v2 + 1))).toNat default).Kind) 2) == 0))
    else
      g_ref17_Tree_j1 K n v1 v2 false)
  else
    g_ref17_Tree_j1 K n v1 v2 false))
def g_law19_box (K : Kn) (n : Nat) (v1 : (List TKnapsackref17Spec)) : Option TBoxtreeBox :=
  (g_ref17_Tree K n v1 0).bind fun v2 =>
  some ({ v2.1 with Kind := 6 } : TBoxtreeBox)
def g_flex_fixed_j11 (K : Kn) (n : Nat) (v13 : TCascadeStyle) : Option TCascadeStyle :=
  some v13
def g_flex_fixed_j10 (K : Kn) (n : Nat) (v12 : TCascadeStyle) : Option TCascadeStyle :=
  if (v12.Padding.a3.Kind == 2) = true then
    g_flex_fixed_j11 K n ({ v12 with Padding := ⟨v12.Padding.a0, v12.Padding.a1, v12.Padding.a2, zTCascadeLength⟩ } : TCascadeStyle)
  else
    g_flex_fixed_j11 K n v12
def g_flex_fixed_j9 (K : Kn) (n : Nat) (v11 : TCascadeStyle) : Option TCascadeStyle :=
  if (v11.Margin.a3.Kind == 2) = true then
    g_flex_fixed_j10 K n ({ v11 with Margin := ⟨v11.Margin.a0, v11.Margin.a1, v11.Margin.a2, zTCascadeLength⟩ } : TCascadeStyle)
  else
    g_flex_fixed_j10 K n v11
def g_flex_fixed_j8 (K : Kn) (n : Nat) (v10 : TCascadeStyle) : Option TCascadeStyle :=
  if (v10.Padding.a2.Kind == 2) = true then
    g_flex_fixed_j9 K n ({ v10 with Padding := ⟨v10.Padding.a0, v10.Padding.a1, zTCascadeLength, v10.Padding.a3⟩ } : TCascadeStyle)
  else
    g_flex_fixed_j9 K n v10
def g_flex_fixed_j7 (K : Kn) (n : Nat) (v9 : TCascadeStyle) : Option TCascadeStyle :=
  if (v9.Margin.a2.Kind == 2) = true then
    g_flex_fixed_j8 K n ({ v9 with Margin := ⟨v9.Margin.a0, v9.Margin.a1, zTCascadeLength, v9.Margin.a3⟩ } : TCascadeStyle)
  else
    g_flex_fixed_j8 K n v9
def g_flex_fixed_j6 (K : Kn) (n : Nat) (v8 : TCascadeStyle) : Option TCascadeStyle :=
  if (v8.Padding.a1.Kind == 2) = true then
    g_flex_fixed_j7 K n ({ v8 with Padding := ⟨v8.Padding.a0, zTCascadeLength, v8.Padding.a2, v8.Padding.a3⟩ } : TCascadeStyle)
  else
    g_flex_fixed_j7 K n v8
def g_flex_fixed_j5 (K : Kn) (n : Nat) (v7 : TCascadeStyle) : Option TCascadeStyle :=
  if (v7.Margin.a1.Kind == 2) = true then
    g_flex_fixed_j6 K n ({ v7 with Margin := ⟨v7.Margin.a0, zTCascadeLength, v7.Margin.a2, v7.Margin.a3⟩ } : TCascadeStyle)
  else
    g_flex_fixed_j6 K n v7
def g_flex_fixed_j4 (K : Kn) (n : Nat) (v6 : TCascadeStyle) : Option TCascadeStyle :=
  if (v6.Padding.a0.Kind == 2) = true then
    g_flex_fixed_j5 K n ({ v6 with Padding := ⟨zTCascadeLength, v6.Padding.a1, v6.Padding.a2, v6.Padding.a3⟩ } : TCascadeStyle)
  else
    g_flex_fixed_j5 K n v6
def g_flex_fixed_j3 (K : Kn) (n : Nat) (v5 : TCascadeStyle) : Option TCascadeStyle :=
  if (v5.Margin.a0.Kind == 2) = true then
    g_flex_fixed_j4 K n ({ v5 with Margin := ⟨zTCascadeLength, v5.Margin.a1, v5.Margin.a2, v5.Margin.a3⟩ } : TCascadeStyle)
  else
    g_flex_fixed_j4 K n v5
def g_flex_fixed_j2 (K : Kn) (n : Nat) (v4 : TCascadeStyle) : Option TCascadeStyle :=
  if (v4.MaxWidth.Kind == 2) = true then
    g_flex_fixed_j3 K n ({ v4 with MaxWidth := zTCascadeLength } : TCascadeStyle)
  else
    g_flex_fixed_j3 K n v4
def g_flex_fixed_j1 (K : Kn) (n : Nat) (v3 : TCascadeStyle) : Option TCascadeStyle :=
  if (v3.MinWidth.Kind == 2) = true then
    g_flex_fixed_j2 K n ({ v3 with MinWidth := zTCascadeLength } : TCascadeStyle)
  else
    g_flex_fixed_j2 K n v3
def g_flex_fixed (K : Kn) (n : Nat) (v1 : TCascadeStyle) : Option TCascadeStyle :=
  if (v1.Width.Kind == 2) = true then
    g_flex_fixed_j1 K n ({ v1 with Width := zTCascadeLength } : TCascadeStyle)
  else
    g_flex_fixed_j1 K n v1
def g_block_limit (K : Kn) (n : Nat) (v1 : Int) : Option Int :=
  some (min (max v1 0) 1048576)
def g_block_Length_j1 (K : Kn) (n : Nat) (v4 : Int) : Option (Int × Bool) :=
  some ((min (max v4 (-1048576)) 1048576), true)
def g_block_Length (K : Kn) (n : Nat) (v1 : TCascadeLength) (v2 : Int) : Option (Int × Bool) :=
  if (v1.Kind == 1) = true then
    g_block_Length_j1 K n v1.Value
  else
    if (v1.Kind == 2) = true then
      (g_block_limit K n v2).bind fun v3 =>
      g_block_Length_j1 K n (w64 (Int.tdiv (w64 (v3 * (min (max v1.Value (-1000000)) 1000000))) 10000))
    else
      some (0, false)
def g_block_Flow_j1 (K : Kn) (n : Nat) (v2 : Bool) : Option Bool :=
  some v2
def g_block_Flow (K : Kn) (n : Nat) (v1 : TBoxtreeBox) : Option Bool :=
  if (v1.Kind == 3) = true then
    g_block_Flow_j1 K n true
  else
    g_block_Flow_j1 K n (v1.Style.Position != 2)
def g_flex_Order_1 (K : Kn) (n : Nat) (v1 : Int) (v2 : Int) (v3 : (List TBoxtreeBox)) : Option Int :=
  chk (inb v1 v3.length) (
  chk (inb v2 v3.length) (
  (g_cmp_Compare_int K n (((List.getD v3 (v1).toNat default).Style).Order) (((List.getD v3 (v2).toNat default).Style).Order)).bind fun v4 =>
  some v4))
def g_flex_Order_j1 (K : Kn) (n : Nat) (v1 : (List TBoxtreeBox)) (v6 : Int) (L1 : Int → (List Int) → Option (List Int)) (v9 : (List Int)) : Option (List Int) :=
  L1 (w64 (v6 + 1)) v9
def g_flex_Order_l2_b (K : Kn) (n : Nat) (v1 : (List TBoxtreeBox)) (L1 : Int → (List Int) → Option (List Int)) (v6 : Int) (v7 : (List Int)) : Option (List Int) :=
  if (decide (v6 < (v1.length : Int))) = true then
    chk (inb v6 v1.length) (
    (g_block_Flow K n (List.getD v1 (v6).toNat default)).bind fun v8 =>
    if v8 = true then
      chk (fits (v7.length + ([v6] : (List Int)).length) 8) (
      g_flex_Order_j1 K n v1 v6 L1 (v7 ++ [v6]))
    else
      g_flex_Order_j1 K n v1 v6 L1 v7)
  else
    (g_slices_SortStableFunc_int_int K n v7 (Fv.c45 v1)).bind fun v10 =>
    some v10
def g_flex_Order_l2 (K : Kn) (n : Nat) (v1 : (List TBoxtreeBox)) : Nat → Int → (List Int) → Option (List Int)
  | 0 => fun _ _ => none
  | m + 1 => g_flex_Order_l2_b K n v1 (g_flex_Order_l2 K n v1 m)
def g_flex_Order (K : Kn) (n : Nat) (v1 : (List TBoxtreeBox)) : Option (List Int) :=
  g_flex_Order_l2 K n v1 n 0 []
def g_flex_items_l1_b (K : Kn) (n : Nat) (v1 : TBoxtreeBox) (v2 : (List Int)) (L1 : Int → (List TBoxtreeBox) → Option (List TBoxtreeBox)) (v3 : Int) (v4 : (List TBoxtreeBox)) : Option (List TBoxtreeBox) :=
  if (decide (v3 < (v2.length : Int))) = true then
    chk (inb v3 v2.length) (
    chk (inb (List.getD v2 (v3).toNat default) v1.Kids.length) (
    chk (fits (v4.length + ([(List.getD v1.Kids ((List.getD v2 (v3).toNat default)).toNat default)] : (List TBoxtreeBox)).length) 520) (
    L1 (w64 (v3 + 1)) (v4 ++ [(List.getD v1.Kids ((List.getD v2 (v3).toNat default)).toNat default)]))))
  else
    some v4
def g_flex_items_l1 (K : Kn) (n : Nat) (v1 : TBoxtreeBox) (v2 : (List Int)) : Nat → Int → (List TBoxtreeBox) → Option (List TBoxtreeBox)
  | 0 => fun _ _ => none
  | m + 1 => g_flex_items_l1_b K n v1 v2 (g_flex_items_l1 K n v1 v2 m)
def g_flex_items (K : Kn) (n : Nat) (v1 : TBoxtreeBox) : Option (List TBoxtreeBox) :=
  (g_flex_Order K n v1.Kids).bind fun v2 =>
  g_flex_items_l1 K n v1 v2 n 0 []
def g_block_Edges (K : Kn) (n : Nat) (v1 : TCascadeStyle) (v2 : Int) (v3 : Int) : Option TBlockSizes :=
  (g_block_Length K n v1.Margin.a0 v2).bind fun v4 =>
  (g_block_limit K n v1.Border.a0).bind fun v5 =>
  (g_block_Length K n v1.Padding.a0 v2).bind fun v6 =>
  (g_block_Length K n v1.Margin.a1 v2).bind fun v7 =>
  (g_block_limit K n v1.Border.a1).bind fun v8 =>
  (g_block_Length K n v1.Padding.a1 v2).bind fun v9 =>
  (g_block_Length K n v1.Margin.a2 v2).bind fun v10 =>
  (g_block_limit K n v1.Border.a2).bind fun v11 =>
  (g_block_Length K n v1.Padding.a2 v2).bind fun v12 =>
  (g_block_Length K n v1.Margin.a3 v2).bind fun v13 =>
  (g_block_limit K n v1.Border.a3).bind fun v14 =>
  (g_block_Length K n v1.Padding.a3 v2).bind fun v15 =>
  some (⟨⟨v4.1, v7.1, v10.1, v13.1⟩, ⟨v5, v8, v11, v14⟩, ⟨(max v6.1 0), (max v9.1 0), (max v12.1 0), (max v15.1 0)⟩, v3⟩ : TBlockSizes)
def g_block_Clamp_j2 (K : Kn) (n : Nat) (v7 : Int) : Option Int :=
  some v7
def g_block_Clamp_j1 (K : Kn) (n : Nat) (v1 : TCascadeStyle) (v2 : Int) (v5 : Int) : Option Int :=
  (g_block_Length K n v1.MinWidth v2).bind fun v6 =>
  if v6.2 = true then
    g_block_Clamp_j2 K n (max v5 v6.1)
  else
    g_block_Clamp_j2 K n v5
def g_block_Clamp (K : Kn) (n : Nat) (v1 : TCascadeStyle) (v2 : Int) (v3 : Int) : Option Int :=
  (g_block_Length K n v1.MaxWidth v2).bind fun v4 =>
  if v4.2 = true then
    g_block_Clamp_j1 K n v1 v2 (min (max v3 0) (max v4.1 0))
  else
    g_block_Clamp_j1 K n v1 v2 (max v3 0)
def g_api_BlockSizes_Sum (K : Kn) (n : Nat) (v1 : TBlockSizes) : Option Int :=
  some (w64 ((w64 ((w64 ((w64 ((w64 ((w64 (v1.Content + v1.Margin.a1)) + v1.Margin.a3)) + v1.Border.a1)) + v1.Border.a3)) + v1.Padding.a1)) + v1.Padding.a3))
def g_flex_Widths_1 (K : Kn) (n : Nat) (v1 : Int) (v2 : TCascadeStyle) : Option Int :=
  (g_flex_limit K n v1 1048576).bind fun v3 =>
  (g_block_Clamp K n v2 0 v3).bind fun v4 =>
  (g_block_Edges K n v2 0 v4).bind fun v5 =>
  (g_api_BlockSizes_Sum K n v5).bind fun v6 =>
  some v6
def g_flex_Widths_j2 (K : Kn) (n : Nat) (v1 : TBoxtreeBox) (v2 : TBlockEnv) (v3 : TCascadeStyle) (v5 : (List TBoxtreeBox)) (v12 : Int) (L1 : Int → Int → Int → Option (Int × Int)) (v15 : Int) (v16 : Int) : Option (Int × Int) :=
  L1 v15 v16 (w64 (v12 + 1))
def g_flex_Widths_j1 (K : Kn) (n : Nat) (v1 : TBoxtreeBox) (v2 : TBlockEnv) (v3 : TCascadeStyle) (v5 : (List TBoxtreeBox)) (v11 : Int) (v12 : Int) (v13 : (Int × Int)) (L1 : Int → Int → Int → Option (Int × Int)) (v14 : Int) : Option (Int × Int) :=
  g_flex_Widths_j2 K n v1 v2 v3 v5 v12 L1 v14 (w64 (v11 + v13.2))
def g_flex_Widths_j4 (K : Kn) (n : Nat) (v3 : TCascadeStyle) (v17 : Int) (v18 : Int) : Option (Int × Int) :=
  (g_flex_Widths_1 K n v17 v3).bind fun v19 =>
  (g_flex_Widths_1 K n v18 v3).bind fun v20 =>
  some (v19, v20)
def g_flex_Widths_l3_b (K : Kn) (n : Nat) (v1 : TBoxtreeBox) (v2 : TBlockEnv) (v3 : TCascadeStyle) (v5 : (List TBoxtreeBox)) (L1 : Int → Int → Int → Option (Int × Int)) (v10 : Int) (v11 : Int) (v12 : Int) : Option (Int × Int) :=
  if (decide (v12 < (v5.length : Int))) = true then
    chk (inb v12 v5.length) (
    (K.d_TBoxtreeBox__IntInt v2.Widths (List.getD v5 (v12).toNat default)).bind fun v13 =>
    if (v1.Style.Direction == 1) = true then
      g_flex_Widths_j2 K n v1 v2 v3 v5 v12 L1 (max v10 v13.1) (max v11 v13.2)
    else
      if v1.Style.Wrap = true then
        g_flex_Widths_j1 K n v1 v2 v3 v5 v11 v12 v13 L1 (max v10 v13.1)
      else
        g_flex_Widths_j1 K n v1 v2 v3 v5 v11 v12 v13 L1 (w64 (v10 + v13.1)))
  else
    g_flex_Widths_j4 K n v3 v10 v11
def g_flex_Widths_l3 (K : Kn) (n : Nat) (v1 : TBoxtreeBox) (v2 : TBlockEnv) (v3 : TCascadeStyle) (v5 : (List TBoxtreeBox)) : Nat → Int → Int → Int → Option (Int × Int)
  | 0 => fun _ _ _ => none
  | m + 1 => g_flex_Widths_l3_b K n v1 v2 v3 v5 (g_flex_Widths_l3 K n v1 v2 v3 v5 m)
def g_flex_Widths (K : Kn) (n : Nat) (v1 : TBoxtreeBox) (v2 : TBlockEnv) : Option (Int × Int) :=
  (g_flex_fixed K n v1.Style).bind fun v3 =>
  (g_block_Length K n v3.Width 0).bind fun v4 =>
  if v4.2 = true then
    g_flex_Widths_j4 K n v3 v4.1 v4.1
  else
    (g_flex_items K n v1).bind fun v5 =>
    g_flex_Widths_l3 K n v1 v2 v3 v5 n 0 0 0
def g_law17_Env (K : Kn) (n : Nat) : Option TBlockEnv :=
  some (⟨(Fv.fn 54), (Fv.fn 55), (Fv.fn 56), (Fv.fn 57)⟩ : TBlockEnv)
def g_ref17_In_j1 (K : Kn) (n : Nat) (v2 : Bool) : Option Bool :=
  some v2
def g_ref17_In (K : Kn) (n : Nat) (v1 : TBoxtreeBox) : Option Bool :=
  if (v1.Kind == 3) = true then
    g_ref17_In_j1 K n true
  else
    g_ref17_In_j1 K n (v1.Style.Position != 2)
def g_ref17_Inside_j1 (K : Kn) (n : Nat) (v1 : TBoxtreeBox) (v8 : Int) (L1 : Int → (List TBoxtreeBox) → Option (List TBoxtreeBox)) (v11 : (List TBoxtreeBox)) : Option (List TBoxtreeBox) :=
  L1 (w64 (v8 + 1)) v11
def g_ref17_Inside_l2_b (K : Kn) (n : Nat) (v1 : TBoxtreeBox) (L1 : Int → (List TBoxtreeBox) → Option (List TBoxtreeBox)) (v8 : Int) (v9 : (List TBoxtreeBox)) : Option (List TBoxtreeBox) :=
  if (decide (v8 < (v1.Kids.length : Int))) = true then
    chk (inb v8 v1.Kids.length) (
    (g_ref17_In K n (List.getD v1.Kids (v8).toNat default)).bind fun v10 =>
    if v10 = true then
      chk (inb v8 v1.Kids.length) (
      chk (fits (v9.length + ([(List.getD v1.Kids (v8).toNat default)] : (List TBoxtreeBox)).length) 520) (
      g_ref17_Inside_j1 K n v1 v8 L1 (v9 ++ [(List.getD v1.Kids (v8).toNat default)])))
    else
      g_ref17_Inside_j1 K n v1 v8 L1 v9)
  else
    some v9
def g_ref17_Inside_l2 (K : Kn) (n : Nat) (v1 : TBoxtreeBox) : Nat → Int → (List TBoxtreeBox) → Option (List TBoxtreeBox)
  | 0 => fun _ _ => none
  | m + 1 => g_ref17_Inside_l2_b K n v1 (g_ref17_Inside_l2 K n v1 m)
def g_ref17_Inside (K : Kn) (n : Nat) (v1 : TBoxtreeBox) : Option (List TBoxtreeBox) :=
  g_ref17_Inside_l2 K n v1 n 0 []
def g_ref17_auto (K : Kn) (n : Nat) (v1 : TCascadeLength) : Option TCascadeLength :=
  if (v1.Kind == 2) = true then
    some zTCascadeLength
  else
    some v1
def g_ref17_plain (K : Kn) (n : Nat) (v1 : TCascadeStyle) : Option TCascadeStyle :=
  (g_ref17_auto K n v1.Margin.a0).bind fun v2 =>
  (g_ref17_auto K n v1.Padding.a0).bind fun v3 =>
  (g_ref17_auto K n v1.Margin.a1).bind fun v4 =>
  (g_ref17_auto K n v1.Padding.a1).bind fun v5 =>
  (g_ref17_auto K n v1.Margin.a2).bind fun v6 =>
  (g_ref17_auto K n v1.Padding.a2).bind fun v7 =>
  (g_ref17_auto K n v1.Margin.a3).bind fun v8 =>
  (g_ref17_auto K n v1.Padding.a3).bind fun v9 =>
  (g_ref17_auto K n v1.Width).bind fun v10 =>
  (g_ref17_auto K n v1.MinWidth).bind fun v11 =>
  (g_ref17_auto K n v1.MaxWidth).bind fun v12 =>
  some ({ v1 with Width := v10, MinWidth := v11, MaxWidth := v12, Margin := ⟨v2, v4, v6, v8⟩, Padding := ⟨v3, v5, v7, v9⟩ } : TCascadeStyle)
def g_ref17_Width (K : Kn) (n : Nat) (v1 : Int) : Option Int :=
  some (min (max v1 0) 1048576)
def g_ref17_limit (K : Kn) (n : Nat) (v1 : Int) : Option Int :=
  some (min (max v1 (-1048576)) 1048576)
def g_ref17_pixels (K : Kn) (n : Nat) (v1 : TCascadeLength) : Option (Int × Bool) :=
  if (v1.Kind != 1) = true then
    some (0, false)
  else
    (g_ref17_limit K n v1.Value).bind fun v2 =>
    some ((max v2 0), true)
def g_ref17_Sum (K : Kn) (n : Nat) (v1 : TBlockSizes) : Option Int :=
  some (w64 ((w64 ((w64 ((w64 ((w64 ((w64 (v1.Content + v1.Margin.a1)) + v1.Margin.a3)) + v1.Border.a1)) + v1.Border.a3)) + v1.Padding.a1)) + v1.Padding.a3))
def g_ref17_Length (K : Kn) (n : Nat) (v1 : TCascadeLength) (v2 : Int) : Option (Int × Bool) :=
  if (v1.Kind == 1) = true then
    (g_ref17_limit K n v1.Value).bind fun v3 =>
    some (v3, true)
  else
    if (v1.Kind == 2) = true then
      (g_ref17_Width K n v2).bind fun v4 =>
      (g_ref17_limit K n (w64 (Int.tdiv (w64 (v4 * (min (max v1.Value (-1000000)) 1000000))) 10000))).bind fun v5 =>
      some (v5, true)
    else
      some (0, false)
def g_ref17_Edges (K : Kn) (n : Nat) (v1 : TCascadeStyle) (v2 : Int) (v3 : Int) : Option TBlockSizes :=
  (g_ref17_Length K n v1.Margin.a0 v2).bind fun v4 =>
  (g_ref17_Length K n v1.Padding.a0 v2).bind fun v5 =>
  (g_ref17_Width K n v1.Border.a0).bind fun v6 =>
  (g_ref17_Length K n v1.Margin.a1 v2).bind fun v7 =>
  (g_ref17_Length K n v1.Padding.a1 v2).bind fun v8 =>
  (g_ref17_Width K n v1.Border.a1).bind fun v9 =>
  (g_ref17_Length K n v1.Margin.a2 v2).bind fun v10 =>
  (g_ref17_Length K n v1.Padding.a2 v2).bind fun v11 =>
  (g_ref17_Width K n v1.Border.a2).bind fun v12 =>
  (g_ref17_Length K n v1.Margin.a3 v2).bind fun v13 =>
  (g_ref17_Length K n v1.Padding.a3 v2).bind fun v14 =>
  (g_ref17_Width K n v1.Border.a3).bind fun v15 =>
  some (⟨⟨v4.1, v7.1, v10.1, v13.1⟩, ⟨v6, v9, v12, v15⟩, ⟨(max v5.1 0), (max v8.1 0), (max v11.1 0), (max v14.1 0)⟩, v3⟩ : TBlockSizes)
def g_ref17_Clamp_j2 (K : Kn) (n : Nat) (v7 : Int) : Option Int :=
  some v7
def g_ref17_Clamp_j1 (K : Kn) (n : Nat) (v1 : TCascadeStyle) (v2 : Int) (v5 : Int) : Option Int :=
  (g_ref17_Length K n v1.MinWidth v2).bind fun v6 =>
  if v6.2 = true then
    g_ref17_Clamp_j2 K n (max v5 v6.1)
  else
    g_ref17_Clamp_j2 K n v5
def g_ref17_Clamp (K : Kn) (n : Nat) (v1 : TCascadeStyle) (v2 : Int) (v3 : Int) : Option Int :=
  (g_ref17_Length K n v1.MaxWidth v2).bind fun v4 =>
  if v4.2 = true then
    g_ref17_Clamp_j1 K n v1 v2 (min (max v3 0) (max v4.1 0))
  else
    g_ref17_Clamp_j1 K n v1 v2 (max v3 0)
def g_ref17_Framed_j1 (K : Kn) (n : Nat) (v4 : TCascadeStyle) (v8 : Int) (v9 : Int) : Option (Int × Int) :=
  (g_ref17_Edges K n v4 0 0).bind fun v10 =>
  (g_ref17_Sum K n v10).bind fun v11 =>
  (g_ref17_Clamp K n v4 0 v8).bind fun v12 =>
  (g_ref17_Clamp K n v4 0 v9).bind fun v13 =>
  some ((w64 (v12 + v11)), (w64 (v13 + v11)))
def g_ref17_Framed (K : Kn) (n : Nat) (v1 : TCascadeStyle) (v2 : Int) (v3 : Int) : Option (Int × Int) :=
  (g_ref17_plain K n v1).bind fun v4 =>
  (g_ref17_Width K n v2).bind fun v5 =>
  (g_ref17_Width K n v3).bind fun v6 =>
  (g_ref17_pixels K n v4.Width).bind fun v7 =>
  if v7.2 = true then
    g_ref17_Framed_j1 K n v4 v7.1 v7.1
  else
    g_ref17_Framed_j1 K n v4 v5 v6
def g_ref17_Spread_l1_b (K : Kn) (n : Nat) (v1 : (List TBoxtreeBox)) (L1 : Int → Int → Int → Option (Int × Int)) (v3 : Int) (v4 : Int) (v5 : Int) : Option (Int × Int) :=
  if (decide (v5 < (v1.length : Int))) = true then
    chk (inb v5 v1.length) (
    L1 (max v3 (w64 (8 * (((List.getD v1 (v5).toNat default).Text).size : Int)))) (w64 (v4 + (w64 (8 * (((List.getD v1 (v5).toNat default).Text).size : Int))))) (w64 (v5 + 1)))
  else
    some (v3, v4)
def g_ref17_Spread_l1 (K : Kn) (n : Nat) (v1 : (List TBoxtreeBox)) : Nat → Int → Int → Int → Option (Int × Int)
  | 0 => fun _ _ _ => none
  | m + 1 => g_ref17_Spread_l1_b K n v1 (g_ref17_Spread_l1 K n v1 m)
def g_ref17_Spread (K : Kn) (n : Nat) (v1 : (List TBoxtreeBox)) (v2 : TCascadeStyle) : Option (Int × Int) :=
  g_ref17_Spread_l1 K n v1 n 0 0 0
def g_ref17_outer_l1_b (K : Kn) (n : Nat) (v2 : (List TBoxtreeBox)) (L1 : Int → Option Bool) (v4 : Int) : Option Bool :=
  if (decide (v4 < (v2.length : Int))) = true then
    chk (inb v4 v2.length) (
    (some (((List.getD v2 (v4).toNat default).Kind) == 1)).bind fun v5 =>
    if v5 = true then
      some true
    else
      L1 (w64 (v4 + 1)))
  else
    some false
def g_ref17_outer_l1 (K : Kn) (n : Nat) (v2 : (List TBoxtreeBox)) : Nat → Int → Option Bool
  | 0 => fun _ => none
  | m + 1 => g_ref17_outer_l1_b K n v2 (g_ref17_outer_l1 K n v2 m)
def g_ref17_outer (K : Kn) (n : Nat) (v1 : TBoxtreeBox) : Option Bool :=
  (g_ref17_Inside K n v1).bind fun v2 =>
  g_ref17_outer_l1 K n v2 n 0
def g_ref17_contents_l1_b (K : Kn) (n : Nat) (v2 : (List TBoxtreeBox)) (L1 : Int → Int → Int → Option (Int × Int)) (v8 : Int) (v9 : Int) (v10 : Int) : Option (Int × Int) :=
  if (decide (v10 < (v2.length : Int))) = true then
    chk (inb v10 v2.length) (
    (K.k_g_ref17_Widths (List.getD v2 (v10).toNat default)).bind fun v11 =>
    L1 (max v8 v11.1) (max v9 v11.2) (w64 (v10 + 1)))
  else
    (g_ref17_Width K n v8).bind fun v12 =>
    (g_ref17_Width K n v9).bind fun v13 =>
    some (v12, v13)
def g_ref17_contents_l1 (K : Kn) (n : Nat) (v2 : (List TBoxtreeBox)) : Nat → Int → Int → Int → Option (Int × Int)
  | 0 => fun _ _ _ => none
  | m + 1 => g_ref17_contents_l1_b K n v2 (g_ref17_contents_l1 K n v2 m)
def g_ref17_contents (K : Kn) (n : Nat) (v1 : TBoxtreeBox) : Option (Int × Int) :=
  (g_ref17_Inside K n v1).bind fun v2 =>
  (g_ref17_outer K n v1).bind fun v3 =>
  if (!v3) = true then
    (g_ref17_Spread K n v2 v1.Style).bind fun v4 =>
    (g_ref17_Width K n v4.1).bind fun v5 =>
    (g_ref17_Width K n v4.2).bind fun v6 =>
    some (v5, v6)
  else
    g_ref17_contents_l1 K n v2 n 0 0 0
def g_ref17_Widths (K : Kn) (n : Nat) (v1 : TBoxtreeBox) : Option (Int × Int) :=
  (g_ref17_contents K n v1).bind fun v2 =>
  (g_ref17_Framed K n v1.Style v2.1 v2.2).bind fun v3 =>
  some (v3.1, v3.2)
def g_ref19_Widths_j2 (K : Kn) (n : Nat) (v1 : TBoxtreeBox) (v2 : (List TBoxtreeBox)) (v9 : Int) (L1 : Int → Int → Int → Option (Int × Int)) (v12 : Int) (v13 : Int) : Option (Int × Int) :=
  L1 v12 v13 (w64 (v9 + 1))
def g_ref19_Widths_j1 (K : Kn) (n : Nat) (v1 : TBoxtreeBox) (v2 : (List TBoxtreeBox)) (v8 : Int) (v9 : Int) (v10 : (Int × Int)) (L1 : Int → Int → Int → Option (Int × Int)) (v11 : Int) : Option (Int × Int) :=
  g_ref19_Widths_j2 K n v1 v2 v9 L1 v11 (w64 (v8 + v10.2))
def g_ref19_Widths_l3_b (K : Kn) (n : Nat) (v1 : TBoxtreeBox) (v2 : (List TBoxtreeBox)) (L1 : Int → Int → Int → Option (Int × Int)) (v7 : Int) (v8 : Int) (v9 : Int) : Option (Int × Int) :=
  if (decide (v9 < (v2.length : Int))) = true then
    chk (inb v9 v2.length) (
    (g_ref17_Widths K n (List.getD v2 (v9).toNat default)).bind fun v10 =>
    if (v1.Style.Direction == 1) = true then
      g_ref19_Widths_j2 K n v1 v2 v9 L1 (max v7 v10.1) (max v8 v10.2)
    else
      if v1.Style.Wrap = true then
        g_ref19_Widths_j1 K n v1 v2 v8 v9 v10 L1 (max v7 v10.1)
      else
        g_ref19_Widths_j1 K n v1 v2 v8 v9 v10 L1 (w64 (v7 + v10.1)))
  else
    (g_ref17_Framed K n v1.Style v7 v8).bind fun v14 =>
    some (v14.1, v14.2)
def g_ref19_Widths_l3 (K : Kn) (n : Nat) (v1 : TBoxtreeBox) (v2 : (List TBoxtreeBox)) : Nat → Int → Int → Int → Option (Int × Int)
  | 0 => fun _ _ _ => none
  | m + 1 => g_ref19_Widths_l3_b K n v1 v2 (g_ref19_Widths_l3 K n v1 v2 m)
def g_ref19_Widths (K : Kn) (n : Nat) (v1 : TBoxtreeBox) : Option (Int × Int) :=
  (g_ref17_Inside K n v1).bind fun v2 =>
  g_ref19_Widths_l3 K n v1 v2 n 0 0 0
def g_law19_FlexWidths_j1 (K : Kn) (n : Nat) (v9 : Bool) : Option Bool :=
  some v9
def g_law19_FlexWidths (K : Kn) (n : Nat) (v1 : (List TKnapsackref17Spec)) : Option Bool :=
  (g_law19_fit K n ).bind fun v2 =>
  if (!v2) = true then
    some false
  else
    (g_law19_fits K n v1).bind fun v3 =>
    if (!v3) = true then
      some true
    else
      (g_law19_box K n v1).bind fun v4 =>
      (g_law17_Env K n ).bind fun v5 =>
      (g_flex_Widths K n v4 v5).bind fun v6 =>
      (g_law19_box K n v1).bind fun v7 =>
      (g_ref19_Widths K n v7).bind fun v8 =>
      if (v6.1 == v8.1) = true then
        g_law19_FlexWidths_j1 K n (v6.2 == v8.2)
      else
        g_law19_FlexWidths_j1 K n false
def g_slices_IndexFunc_BoxtreeBox_BoxtreeBox_l1_b (K : Kn) (n : Nat) (v1 : (List TBoxtreeBox)) (v2 : Fv) (L1 : Int → Option Int) (v4 : Int) : Option Int :=
  if (decide (v4 < (v1.length : Int))) = true then
    chk (inb v4 v1.length) (
    (K.d_TBoxtreeBox__Bool v2 (List.getD v1 (v4).toNat default)).bind fun v5 =>
    if v5 = true then
      some v4
    else
      L1 (w64 (v4 + 1)))
  else
    some (-1)
def g_slices_IndexFunc_BoxtreeBox_BoxtreeBox_l1 (K : Kn) (n : Nat) (v1 : (List TBoxtreeBox)) (v2 : Fv) : Nat → Int → Option Int
  | 0 => fun _ => none
  | m + 1 => g_slices_IndexFunc_BoxtreeBox_BoxtreeBox_l1_b K n v1 v2 (g_slices_IndexFunc_BoxtreeBox_BoxtreeBox_l1 K n v1 v2 m)
def g_slices_IndexFunc_BoxtreeBox_BoxtreeBox (K : Kn) (n : Nat) (v1 : (List TBoxtreeBox)) (v2 : Fv) : Option Int :=
  g_slices_IndexFunc_BoxtreeBox_BoxtreeBox_l1 K n v1 v2 n 0
def g_slices_ContainsFunc_BoxtreeBox_BoxtreeBox (K : Kn) (n : Nat) (v1 : (List TBoxtreeBox)) (v2 : Fv) : Option Bool :=
  (g_slices_IndexFunc_BoxtreeBox_BoxtreeBox K n v1 v2).bind fun v3 =>
  some (decide (v3 ≥ 0))
def g_block_flow_j1 (K : Kn) (n : Nat) (v1 : TBoxtreeBox) (v8 : Int) (L1 : Int → (List TBoxtreeBox) → Option ((List TBoxtreeBox) × Bool)) (v11 : (List TBoxtreeBox)) : Option ((List TBoxtreeBox) × Bool) :=
  L1 (w64 (v8 + 1)) v11
def g_block_flow_l2_b (K : Kn) (n : Nat) (v1 : TBoxtreeBox) (L1 : Int → (List TBoxtreeBox) → Option ((List TBoxtreeBox) × Bool)) (v8 : Int) (v9 : (List TBoxtreeBox)) : Option ((List TBoxtreeBox) × Bool) :=
  if (decide (v8 < (v1.Kids.length : Int))) = true then
    chk (inb v8 v1.Kids.length) (
    (g_block_Flow K n (List.getD v1.Kids (v8).toNat default)).bind fun v10 =>
    if v10 = true then
      chk (fits (v9.length + ([(List.getD v1.Kids (v8).toNat default)] : (List TBoxtreeBox)).length) 520) (
      g_block_flow_j1 K n v1 v8 L1 (v9 ++ [(List.getD v1.Kids (v8).toNat default)]))
    else
      g_block_flow_j1 K n v1 v8 L1 v9)
  else
    (g_slices_ContainsFunc_BoxtreeBox_BoxtreeBox K n v9 (Fv.fn 111)).bind fun v12 =>
    some (v9, v12)
def g_block_flow_l2 (K : Kn) (n : Nat) (v1 : TBoxtreeBox) : Nat → Int → (List TBoxtreeBox) → Option ((List TBoxtreeBox) × Bool)
  | 0 => fun _ _ => none
  | m + 1 => g_block_flow_l2_b K n v1 (g_block_flow_l2 K n v1 m)
def g_block_flow (K : Kn) (n : Nat) (v1 : TBoxtreeBox) : Option ((List TBoxtreeBox) × Bool) :=
  g_block_flow_l2 K n v1 n 0 []
def g_boxtree_Outer_j1 (K : Kn) (n : Nat) (v2 : Bool) : Option Bool :=
  some v2
def g_boxtree_Outer (K : Kn) (n : Nat) (v1 : TBoxtreeBox) : Option Bool :=
  if (v1.Kind == 1) = true then
    g_boxtree_Outer_j1 K n true
  else
    if (v1.Kind == 6) = true then
      g_boxtree_Outer_j1 K n true
    else
      g_boxtree_Outer_j1 K n (v1.Kind == 7)
def g_block_fixed_j11 (K : Kn) (n : Nat) (v13 : TCascadeStyle) : Option TCascadeStyle :=
  some v13
def g_block_fixed_j10 (K : Kn) (n : Nat) (v12 : TCascadeStyle) : Option TCascadeStyle :=
  if (v12.Padding.a3.Kind == 2) = true then
    g_block_fixed_j11 K n ({ v12 with Padding := ⟨v12.Padding.a0, v12.Padding.a1, v12.Padding.a2, zTCascadeLength⟩ } : TCascadeStyle)
  else
    g_block_fixed_j11 K n v12
def g_block_fixed_j9 (K : Kn) (n : Nat) (v11 : TCascadeStyle) : Option TCascadeStyle :=
  if (v11.Margin.a3.Kind == 2) = true then
    g_block_fixed_j10 K n ({ v11 with Margin := ⟨v11.Margin.a0, v11.Margin.a1, v11.Margin.a2, zTCascadeLength⟩ } : TCascadeStyle)
  else
    g_block_fixed_j10 K n v11
def g_block_fixed_j8 (K : Kn) (n : Nat) (v10 : TCascadeStyle) : Option TCascadeStyle :=
  if (v10.Padding.a2.Kind == 2) = true then
    g_block_fixed_j9 K n ({ v10 with Padding := ⟨v10.Padding.a0, v10.Padding.a1, zTCascadeLength, v10.Padding.a3⟩ } : TCascadeStyle)
  else
    g_block_fixed_j9 K n v10
def g_block_fixed_j7 (K : Kn) (n : Nat) (v9 : TCascadeStyle) : Option TCascadeStyle :=
  if (v9.Margin.a2.Kind == 2) = true then
    g_block_fixed_j8 K n ({ v9 with Margin := ⟨v9.Margin.a0, v9.Margin.a1, zTCascadeLength, v9.Margin.a3⟩ } : TCascadeStyle)
  else
    g_block_fixed_j8 K n v9
def g_block_fixed_j6 (K : Kn) (n : Nat) (v8 : TCascadeStyle) : Option TCascadeStyle :=
  if (v8.Padding.a1.Kind == 2) = true then
    g_block_fixed_j7 K n ({ v8 with Padding := ⟨v8.Padding.a0, zTCascadeLength, v8.Padding.a2, v8.Padding.a3⟩ } : TCascadeStyle)
  else
    g_block_fixed_j7 K n v8
def g_block_fixed_j5 (K : Kn) (n : Nat) (v7 : TCascadeStyle) : Option TCascadeStyle :=
  if (v7.Margin.a1.Kind == 2) = true then
    g_block_fixed_j6 K n ({ v7 with Margin := ⟨v7.Margin.a0, zTCascadeLength, v7.Margin.a2, v7.Margin.a3⟩ } : TCascadeStyle)
  else
    g_block_fixed_j6 K n v7
def g_block_fixed_j4 (K : Kn) (n : Nat) (v6 : TCascadeStyle) : Option TCascadeStyle :=
  if (v6.Padding.a0.Kind == 2) = true then
    g_block_fixed_j5 K n ({ v6 with Padding := ⟨zTCascadeLength, v6.Padding.a1, v6.Padding.a2, v6.Padding.a3⟩ } : TCascadeStyle)
  else
    g_block_fixed_j5 K n v6
def g_block_fixed_j3 (K : Kn) (n : Nat) (v5 : TCascadeStyle) : Option TCascadeStyle :=
  if (v5.Margin.a0.Kind == 2) = true then
    g_block_fixed_j4 K n ({ v5 with Margin := ⟨zTCascadeLength, v5.Margin.a1, v5.Margin.a2, v5.Margin.a3⟩ } : TCascadeStyle)
  else
    g_block_fixed_j4 K n v5
def g_block_fixed_j2 (K : Kn) (n : Nat) (v4 : TCascadeStyle) : Option TCascadeStyle :=
  if (v4.MaxWidth.Kind == 2) = true then
    g_block_fixed_j3 K n ({ v4 with MaxWidth := zTCascadeLength } : TCascadeStyle)
  else
    g_block_fixed_j3 K n v4
def g_block_fixed_j1 (K : Kn) (n : Nat) (v3 : TCascadeStyle) : Option TCascadeStyle :=
  if (v3.MinWidth.Kind == 2) = true then
    g_block_fixed_j2 K n ({ v3 with MinWidth := zTCascadeLength } : TCascadeStyle)
  else
    g_block_fixed_j2 K n v3
def g_block_fixed (K : Kn) (n : Nat) (v1 : TCascadeStyle) : Option TCascadeStyle :=
  if (v1.Width.Kind == 2) = true then
    g_block_fixed_j1 K n ({ v1 with Width := zTCascadeLength } : TCascadeStyle)
  else
    g_block_fixed_j1 K n v1
def g_block_inside_l1_b (K : Kn) (n : Nat) (v2 : TBlockEnv) (v6 : ((List TBoxtreeBox) × Bool)) (L1 : Int → Int → Int → Option (Int × Int)) (v11 : Int) (v12 : Int) (v13 : Int) : Option (Int × Int) :=
  if (decide (v13 < (v6.1.length : Int))) = true then
    chk (inb v13 v6.1.length) (
    (K.d_TBoxtreeBox__IntInt v2.Widths (List.getD v6.1 (v13).toNat default)).bind fun v14 =>
    L1 (max v11 v14.1) (max v12 v14.2) (w64 (v13 + 1)))
  else
    (g_block_limit K n v11).bind fun v15 =>
    (g_block_limit K n v12).bind fun v16 =>
    some (v15, v16)
def g_block_inside_l1 (K : Kn) (n : Nat) (v2 : TBlockEnv) (v6 : ((List TBoxtreeBox) × Bool)) : Nat → Int → Int → Int → Option (Int × Int)
  | 0 => fun _ _ _ => none
  | m + 1 => g_block_inside_l1_b K n v2 v6 (g_block_inside_l1 K n v2 v6 m)
def g_block_inside (K : Kn) (n : Nat) (v1 : TBoxtreeBox) (v2 : TBlockEnv) : Option (Int × Int) :=
  (g_block_fixed K n v1.Style).bind fun v3 =>
  (g_block_Length K n v3.Width 0).bind fun v4 =>
  if v4.2 = true then
    (g_block_limit K n v4.1).bind fun v5 =>
    some (v5, v5)
  else
    (g_block_flow K n v1).bind fun v6 =>
    if (!v6.2) = true then
      (K.d_ListTBoxtreeBox_TCascadeStyle__IntInt v2.Spread v6.1 v1.Style).bind fun v7 =>
      (g_block_limit K n v7.1).bind fun v8 =>
      (g_block_limit K n v7.2).bind fun v9 =>
      some (v8, v9)
    else
      g_block_inside_l1 K n v2 v6 n 0 0 0
def g_block_Widths (K : Kn) (n : Nat) (v1 : TBoxtreeBox) (v2 : TBlockEnv) : Option (Int × Int) :=
  (g_block_inside K n v1 v2).bind fun v3 =>
  (g_block_fixed K n v1.Style).bind fun v4 =>
  (g_block_Clamp K n v4 0 v3.1).bind fun v5 =>
  (g_block_Edges K n v4 0 v5).bind fun v6 =>
  (g_api_BlockSizes_Sum K n v6).bind fun v7 =>
  (g_block_Clamp K n v4 0 v3.2).bind fun v8 =>
  (g_block_Edges K n v4 0 v8).bind fun v9 =>
  (g_api_BlockSizes_Sum K n v9).bind fun v10 =>
  some (v7, v10)
def g_law17_spread (K : Kn) (n : Nat) (v1 : TBoxtreeBox) : Option (Int × Int) :=
  (g_law17_Env K n ).bind fun v2 =>
  (g_block_Widths K n v1 v2).bind fun v3 =>
  some (v3.1, v3.2)
def KN : Nat → Kn
  | 0 => ⟨fun _ _ => none, fun _ => none, fun _ _ _ _ _ => none, fun _ _ _ => none, fun _ _ _ _ => none, fun _ _ _ => none, fun _ _ _ => none, fun _ _ => none, fun _ _ => none⟩
  | n + 1 => ⟨fun a0 a1 => g_ref17_Tree (KN n) n a0 a1,
    fun a0 => g_ref17_Widths (KN n) n a0,
    fun a0 a1 a2 a3 a4 => g_slices_symMergeCmpFunc_int (KN n) n a0 a1 a2 a3 a4,
    fun f a0 a1 => match f with | .fn i => none | .c36 x0 => g_flex_Share_1 (KN n) n a0 a1 x0 | .c45 x0 => g_flex_Order_1 (KN n) n a0 a1 x0 | .c50 x0 => none,
    fun f a0 a1 a2 => match f with | .fn i => none | .c36 x0 => none | .c45 x0 => none | .c50 x0 => none,
    fun f a0 a1 => match f with | .fn i => if Nat.beq i 57 = true then g_ref17_Spread (KN n) n a0 a1 else none | .c36 x0 => none | .c45 x0 => none | .c50 x0 => none,
    fun f a0 a1 => match f with | .fn i => none | .c36 x0 => none | .c45 x0 => none | .c50 x0 => none,
    fun f a0 => match f with | .fn i => if Nat.beq i 111 = true then g_boxtree_Outer (KN n) n a0 else none | .c36 x0 => none | .c45 x0 => none | .c50 x0 => none,
    fun f a0 => match f with | .fn i => if Nat.beq i 55 = true then g_law17_spread (KN n) n a0 else none | .c36 x0 => none | .c45 x0 => none | .c50 x0 => none⟩
end
end Go.Proofs.Ytlpndemhnpajiaa

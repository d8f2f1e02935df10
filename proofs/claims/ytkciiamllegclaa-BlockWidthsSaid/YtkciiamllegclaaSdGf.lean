/- Layer 17's functions as plain Lean functions: K stands for calls that come back, n bounds the rounds of loops. Made by a program. -/
import Derived.Test.YtkciiamllegclaaSdGt
namespace Go.Proofs.Ytkciiamllegclaa
open Go.RowKit
set_option maxRecDepth 20000
set_option linter.all false
set_option linter.unusedVariables false
set_option linter.unusedSimpArgs false

noncomputable section
def g_api_BlockMargin_Sum (K : Kn) (n : Nat) (v1 : TBlockMargin) : Option Int :=
  some (w64 (v1.Pos + v1.Neg))
def g_block_Of (K : Kn) (n : Nat) (v1 : Int) : Option TBlockMargin :=
  some (⟨(max v1 0), (min v1 0)⟩ : TBlockMargin)
def g_block_limit (K : Kn) (n : Nat) (v1 : Int) : Option Int :=
  some (min (max v1 0) 1048576)
def g_block_Length_j1 (K : Kn) (n : Nat) (v4 : Int) : Option (Int × Bool) :=
  some ((min (max v4 (-1048576)) 1048576), true)
def g_block_Length (K : Kn) (n : Nat) (v1 : TCascadeLength) (v2 : Int) : Option (Int × Bool) :=
  if (v1.Kind == 1) = true then
    g_block_Length_j1 K n v1.Value
  else
    if (v1.Kind == 2) = true then
      (g_block_limit K n v2).bind fun v3 =>
      g_block_Length_j1 K n (w64 (Int.tdiv (w64 (v3 * (min (max v1.Value (-1000000)) 1000000))) 10000))
    else
      some (0, false)
def g_block_Clamp_j2 (K : Kn) (n : Nat) (v7 : Int) : Option Int :=
  some v7
def g_block_Clamp_j1 (K : Kn) (n : Nat) (v1 : TCascadeStyle) (v2 : Int) (v5 : Int) : Option Int :=
  (g_block_Length K n v1.MinWidth v2).bind fun v6 =>
  if v6.2 = true then
    g_block_Clamp_j2 K n (max v5 v6.1)
  else
    g_block_Clamp_j2 K n v5
def g_block_Clamp (K : Kn) (n : Nat) (v1 : TCascadeStyle) (v2 : Int) (v3 : Int) : Option Int :=
  (g_block_Length K n v1.MaxWidth v2).bind fun v4 =>
  if v4.2 = true then
    g_block_Clamp_j1 K n v1 v2 (min (max v3 0) (max v4.1 0))
  else
    g_block_Clamp_j1 K n v1 v2 (max v3 0)
def g_block_Edges (K : Kn) (n : Nat) (v1 : TCascadeStyle) (v2 : Int) (v3 : Int) : Option TBlockSizes :=
  (g_block_Length K n v1.Margin.a0 v2).bind fun v4 =>
  (g_block_limit K n v1.Border.a0).bind fun v5 =>
  (g_block_Length K n v1.Padding.a0 v2).bind fun v6 =>
  (g_block_Length K n v1.Margin.a1 v2).bind fun v7 =>
  (g_block_limit K n v1.Border.a1).bind fun v8 =>
  (g_block_Length K n v1.Padding.a1 v2).bind fun v9 =>
  (g_block_Length K n v1.Margin.a2 v2).bind fun v10 =>
  (g_block_limit K n v1.Border.a2).bind fun v11 =>
  (g_block_Length K n v1.Padding.a2 v2).bind fun v12 =>
  (g_block_Length K n v1.Margin.a3 v2).bind fun v13 =>
  (g_block_limit K n v1.Border.a3).bind fun v14 =>
  (g_block_Length K n v1.Padding.a3 v2).bind fun v15 =>
  some (⟨⟨v4.1, v7.1, v10.1, v13.1⟩, ⟨v5, v8, v11, v14⟩, ⟨(max v6.1 0), (max v9.1 0), (max v12.1 0), (max v15.1 0)⟩, v3⟩ : TBlockSizes)
def g_api_BlockSizes_Sum (K : Kn) (n : Nat) (v1 : TBlockSizes) : Option Int :=
  some (w64 ((w64 ((w64 ((w64 ((w64 ((w64 (v1.Content + v1.Margin.a1)) + v1.Margin.a3)) + v1.Border.a1)) + v1.Border.a3)) + v1.Padding.a1)) + v1.Padding.a3))
def g_block_Used_j3 (K : Kn) (n : Nat) (v4 : TBlockSizes) (v8 : Int) (v13 : (V4 Int)) : Option TBlockSizes :=
  some ({ v4 with Margin := v13, Content := v8 } : TBlockSizes)
def g_block_Used_j2 (K : Kn) (n : Nat) (v3 : Int) (v4 : TBlockSizes) (v8 : Int) (v9 : Int) (v10 : (Int × Bool)) (v11 : (Int × Bool)) (v12 : Bool) : Option TBlockSizes :=
  if v12 = true then
    g_block_Used_j3 K n v4 v8 ⟨v4.Margin.a0, (w64 ((w64 (v3 - v9)) - (w64 (Int.tdiv (w64 (v3 - v9)) 2)))), v4.Margin.a2, (w64 (Int.tdiv (w64 (v3 - v9)) 2))⟩
  else
    if (!v10.2) = true then
      g_block_Used_j3 K n v4 v8 ⟨v4.Margin.a0, v4.Margin.a1, v4.Margin.a2, (w64 (v3 - v9))⟩
    else
      if (!v11.2) = true then
        g_block_Used_j3 K n v4 v8 ⟨v4.Margin.a0, (w64 (v3 - v9)), v4.Margin.a2, v4.Margin.a3⟩
      else
        g_block_Used_j3 K n v4 v8 v4.Margin
def g_block_Used_j1 (K : Kn) (n : Nat) (v1 : TCascadeStyle) (v3 : Int) (v4 : TBlockSizes) (v7 : Int) : Option TBlockSizes :=
  (g_block_Clamp K n v1 v3 v7).bind fun v8 =>
  (g_api_BlockSizes_Sum K n ({ v4 with Content := v8 } : TBlockSizes)).bind fun v9 =>
  if (decide ((w64 (v3 - v9)) ≤ 0)) = true then
    some ({ v4 with Content := v8 } : TBlockSizes)
  else
    (g_block_Length K n v1.Margin.a3 v3).bind fun v10 =>
    (g_block_Length K n v1.Margin.a1 v3).bind fun v11 =>
    if (!v10.2) = true then
      g_block_Used_j2 K n v3 v4 v8 v9 v10 v11 (!v11.2)
    else
      g_block_Used_j2 K n v3 v4 v8 v9 v10 v11 false
def g_block_Used (K : Kn) (n : Nat) (v1 : TCascadeStyle) (v2 : Int) : Option TBlockSizes :=
  (g_block_limit K n v2).bind fun v3 =>
  (g_block_Edges K n v1 v3 0).bind fun v4 =>
  (g_block_Length K n v1.Width v3).bind fun v5 =>
  if (!v5.2) = true then
    (g_api_BlockSizes_Sum K n v4).bind fun v6 =>
    g_block_Used_j1 K n v1 v3 v4 (w64 (v3 - v6))
  else
    g_block_Used_j1 K n v1 v3 v4 v5.1
def g_block_Collapse (K : Kn) (n : Nat) (v1 : TBlockMargin) (v2 : TBlockMargin) : Option TBlockMargin :=
  some (⟨(max v1.Pos v2.Pos), (min v1.Neg v2.Neg)⟩ : TBlockMargin)
def g_block_Stack_j3 (K : Kn) (n : Nat) (v1 : (List TBlockFragment)) (v18 : Int) (v21 : (List TBlockFragment)) (v24 : Int) (L1 : Int → Bool → Int → TBlockMargin → TBlockMargin → (List TBlockFragment) → Option ((List TBlockFragment) × Int × TBlockMargin × TBlockMargin × Bool)) (v26 : Int) (v27 : Bool) (v28 : TBlockMargin) (v29 : TBlockMargin) : Option ((List TBlockFragment) × Int × TBlockMargin × TBlockMargin × Bool) :=
  chk (fits (v21.length + ([({ (List.getD v1 (v18).toNat default) with Y := v24 } : TBlockFragment)] : (List TBlockFragment)).length) 584) (
  L1 v26 v27 (w64 (v18 + 1)) v28 v29 (v21 ++ [({ (List.getD v1 (v18).toNat default) with Y := v24 } : TBlockFragment)]))
def g_block_Stack_j2 (K : Kn) (n : Nat) (v1 : (List TBlockFragment)) (v18 : Int) (v21 : (List TBlockFragment)) (v22 : TBlockMargin) (v24 : Int) (L1 : Int → Bool → Int → TBlockMargin → TBlockMargin → (List TBlockFragment) → Option ((List TBlockFragment) × Int × TBlockMargin × TBlockMargin × Bool)) (v25 : TBlockMargin) : Option ((List TBlockFragment) × Int × TBlockMargin × TBlockMargin × Bool) :=
  g_block_Stack_j3 K n v1 v18 v21 v24 L1 (w64 (v24 + ((List.getD v1 (v18).toNat default).H))) false v25 ((List.getD v1 (v18).toNat default).After)
def g_block_Stack_j1 (K : Kn) (n : Nat) (v1 : (List TBlockFragment)) (v16 : Int) (v17 : Bool) (v18 : Int) (v19 : TBlockMargin) (v21 : (List TBlockFragment)) (v22 : TBlockMargin) (L1 : Int → Bool → Int → TBlockMargin → TBlockMargin → (List TBlockFragment) → Option ((List TBlockFragment) × Int × TBlockMargin × TBlockMargin × Bool)) (v24 : Int) : Option ((List TBlockFragment) × Int × TBlockMargin × TBlockMargin × Bool) :=
  if (!(List.getD v1 (v18).toNat default).Empty) = true then
    if v17 = true then
      g_block_Stack_j2 K n v1 v18 v21 v22 v24 L1 v22
    else
      g_block_Stack_j2 K n v1 v18 v21 v22 v24 L1 v19
  else
    g_block_Stack_j3 K n v1 v18 v21 v24 L1 v16 v17 v19 v22
def g_block_Stack_j5 (K : Kn) (n : Nat) (v16 : Int) (v17 : Bool) (v20 : TBlockMargin) (v21 : (List TBlockFragment)) (v30 : TBlockMargin) : Option ((List TBlockFragment) × Int × TBlockMargin × TBlockMargin × Bool) :=
  some (v21, v16, v30, v20, v17)
def g_block_Stack_l4_b (K : Kn) (n : Nat) (v1 : (List TBlockFragment)) (L1 : Int → Bool → Int → TBlockMargin → TBlockMargin → (List TBlockFragment) → Option ((List TBlockFragment) × Int × TBlockMargin × TBlockMargin × Bool)) (v16 : Int) (v17 : Bool) (v18 : Int) (v19 : TBlockMargin) (v20 : TBlockMargin) (v21 : (List TBlockFragment)) : Option ((List TBlockFragment) × Int × TBlockMargin × TBlockMargin × Bool) :=
  if (decide (v18 < (v1.length : Int))) = true then
    chk (inb v18 v1.length) (
    (g_block_Collapse K n v20 ((List.getD v1 (v18).toNat default).Before)).bind fun v22 =>
    if (!v17) = true then
      (g_api_BlockMargin_Sum K n v22).bind fun v23 =>
      g_block_Stack_j1 K n v1 v16 v17 v18 v19 v21 v22 L1 (w64 (v16 + v23))
    else
      g_block_Stack_j1 K n v1 v16 v17 v18 v19 v21 v22 L1 0)
  else
    if v17 = true then
      g_block_Stack_j5 K n v16 v17 v20 v21 v20
    else
      g_block_Stack_j5 K n v16 v17 v20 v21 v19
def g_block_Stack_l4 (K : Kn) (n : Nat) (v1 : (List TBlockFragment)) : Nat → Int → Bool → Int → TBlockMargin → TBlockMargin → (List TBlockFragment) → Option ((List TBlockFragment) × Int × TBlockMargin × TBlockMargin × Bool)
  | 0 => fun _ _ _ _ _ _ => none
  | m + 1 => g_block_Stack_l4_b K n v1 (g_block_Stack_l4 K n v1 m)
def g_block_Stack (K : Kn) (n : Nat) (v1 : (List TBlockFragment)) : Option ((List TBlockFragment) × Int × TBlockMargin × TBlockMargin × Bool) :=
  g_block_Stack_l4 K n v1 n 0 true 0 zTBlockMargin zTBlockMargin []
def g_law17_px (K : Kn) (n : Nat) (v1 : Int) : Option TCascadeLength :=
  some (⟨1, v1⟩ : TCascadeLength)
def g_law17_fit_j1 (K : Kn) (n : Nat) (v10 : Bool) : Option Bool :=
  some v10
def g_law17_fit (K : Kn) (n : Nat) : Option Bool :=
  (g_law17_px K n 100).bind fun v1 =>
  (g_block_Used K n ({ zTCascadeStyle with Width := v1 } : TCascadeStyle) 301).bind fun v2 =>
  (g_block_Of K n 10).bind fun v3 =>
  (g_block_Of K n 10).bind fun v4 =>
  (g_block_Of K n 10).bind fun v5 =>
  (g_block_Of K n 10).bind fun v6 =>
  (g_block_Stack K n [({ zTBlockFragment with H := 20, Before := v3, After := v4 } : TBlockFragment), ({ zTBlockFragment with H := 20, Before := v5, After := v6 } : TBlockFragment)]).bind fun v7 =>
  if (v2.Content == 100) = true then
    if (v2.Margin.a3 == 100) = true then
      if (v2.Margin.a1 == 101) = true then
        if (v7.2.1 == 50) = true then
          (g_api_BlockMargin_Sum K n v7.2.2.1).bind fun v8 =>
          if (v8 == 10) = true then
            (g_api_BlockMargin_Sum K n v7.2.2.2.1).bind fun v9 =>
            if (v9 == 10) = true then
              g_law17_fit_j1 K n (!v7.2.2.2.2)
            else
              g_law17_fit_j1 K n false
          else
            g_law17_fit_j1 K n false
        else
          g_law17_fit_j1 K n false
      else
        g_law17_fit_j1 K n false
    else
      g_law17_fit_j1 K n false
  else
    g_law17_fit_j1 K n false
def g_ref17_small_j1 (K : Kn) (n : Nat) (v2 : Bool) : Option Bool :=
  some v2
def g_ref17_small (K : Kn) (n : Nat) (v1 : TCascadeLength) : Option Bool :=
  if (decide (v1.Value ≥ (-16777216))) = true then
    g_ref17_small_j1 K n (decide (v1.Value ≤ 16777216))
  else
    g_ref17_small_j1 K n false
def g_ref17_Few_j5 (K : Kn) (n : Nat) (v1 : (List TKnapsackref17Spec)) (v2 : Int) (v23 : Int) (L1 : Int → Option Bool) (v43 : Bool) : Option Bool :=
  if v43 = true then
    some false
  else
    L1 (w64 (v23 + 1))
def g_ref17_Few_j4 (K : Kn) (n : Nat) (v1 : (List TKnapsackref17Spec)) (v2 : Int) (v23 : Int) (L1 : Int → Option Bool) (v40 : Bool) : Option Bool :=
  if v40 = true then
    some false
  else
    (g_ref17_small K n ((((List.getD v1 (v23).toNat default).Style).Margin).a3)).bind fun v41 =>
    if (!v41) = true then
      g_ref17_Few_j5 K n v1 v2 v23 L1 true
    else
      (g_ref17_small K n ((((List.getD v1 (v23).toNat default).Style).Padding).a3)).bind fun v42 =>
      g_ref17_Few_j5 K n v1 v2 v23 L1 (!v42)
def g_ref17_Few_j3 (K : Kn) (n : Nat) (v1 : (List TKnapsackref17Spec)) (v2 : Int) (v23 : Int) (L1 : Int → Option Bool) (v37 : Bool) : Option Bool :=
  if v37 = true then
    some false
  else
    (g_ref17_small K n ((((List.getD v1 (v23).toNat default).Style).Margin).a2)).bind fun v38 =>
    if (!v38) = true then
      g_ref17_Few_j4 K n v1 v2 v23 L1 true
    else
      (g_ref17_small K n ((((List.getD v1 (v23).toNat default).Style).Padding).a2)).bind fun v39 =>
      g_ref17_Few_j4 K n v1 v2 v23 L1 (!v39)
def g_ref17_Few_j2 (K : Kn) (n : Nat) (v1 : (List TKnapsackref17Spec)) (v2 : Int) (v23 : Int) (L1 : Int → Option Bool) (v34 : Bool) : Option Bool :=
  if v34 = true then
    some false
  else
    (g_ref17_small K n ((((List.getD v1 (v23).toNat default).Style).Margin).a1)).bind fun v35 =>
    if (!v35) = true then
      g_ref17_Few_j3 K n v1 v2 v23 L1 true
    else
      (g_ref17_small K n ((((List.getD v1 (v23).toNat default).Style).Padding).a1)).bind fun v36 =>
      g_ref17_Few_j3 K n v1 v2 v23 L1 (!v36)
def g_ref17_Few_j1 (K : Kn) (n : Nat) (v1 : (List TKnapsackref17Spec)) (v2 : Int) (v23 : Int) (L1 : Int → Option Bool) (v31 : Bool) : Option Bool :=
  if v31 = true then
    some false
  else
    (g_ref17_small K n ((((List.getD v1 (v23).toNat default).Style).Margin).a0)).bind fun v32 =>
    if (!v32) = true then
      g_ref17_Few_j2 K n v1 v2 v23 L1 true
    else
      (g_ref17_small K n ((((List.getD v1 (v23).toNat default).Style).Padding).a0)).bind fun v33 =>
      g_ref17_Few_j2 K n v1 v2 v23 L1 (!v33)
def g_ref17_Few_l6_b (K : Kn) (n : Nat) (v1 : (List TKnapsackref17Spec)) (v2 : Int) (L1 : Int → Option Bool) (v23 : Int) : Option Bool :=
  if (decide (v23 < (v1.length : Int))) = true then
    chk (inb v23 v1.length) (
    chk (inb v23 v1.length) (
    if (decide ((((List.getD v1 (v23).toNat default).Text).size : Int) > 60)) = true then
      g_ref17_Few_j1 K n v1 v2 v23 L1 true
    else
      (g_ref17_small K n (((List.getD v1 (v23).toNat default).Style).Left)).bind fun v24 =>
      if (!v24) = true then
        g_ref17_Few_j1 K n v1 v2 v23 L1 true
      else
        (g_ref17_small K n (((List.getD v1 (v23).toNat default).Style).Top)).bind fun v25 =>
        if (!v25) = true then
          g_ref17_Few_j1 K n v1 v2 v23 L1 true
        else
          (g_ref17_small K n (((List.getD v1 (v23).toNat default).Style).Width)).bind fun v26 =>
          if (!v26) = true then
            g_ref17_Few_j1 K n v1 v2 v23 L1 true
          else
            (g_ref17_small K n (((List.getD v1 (v23).toNat default).Style).Height)).bind fun v27 =>
            if (!v27) = true then
              g_ref17_Few_j1 K n v1 v2 v23 L1 true
            else
              (g_ref17_small K n (((List.getD v1 (v23).toNat default).Style).MinWidth)).bind fun v28 =>
              if (!v28) = true then
                g_ref17_Few_j1 K n v1 v2 v23 L1 true
              else
                (g_ref17_small K n (((List.getD v1 (v23).toNat default).Style).MaxWidth)).bind fun v29 =>
                if (!v29) = true then
                  g_ref17_Few_j1 K n v1 v2 v23 L1 true
                else
                  (g_ref17_small K n (((List.getD v1 (v23).toNat default).Style).Basis)).bind fun v30 =>
                  if (!v30) = true then
                    g_ref17_Few_j1 K n v1 v2 v23 L1 true
                  else
                    if (decide ((((List.getD v1 (v23).toNat default).Style).LineHeight) < 0)) = true then
                      g_ref17_Few_j1 K n v1 v2 v23 L1 true
                    else
                      if (decide ((((List.getD v1 (v23).toNat default).Style).LineHeight) > 65536)) = true then
                        g_ref17_Few_j1 K n v1 v2 v23 L1 true
                      else
                        if (decide ((((List.getD v1 (v23).toNat default).Style).FontSize) < 0)) = true then
                          g_ref17_Few_j1 K n v1 v2 v23 L1 true
                        else
                          if (decide ((((List.getD v1 (v23).toNat default).Style).FontSize) > 65536)) = true then
                            g_ref17_Few_j1 K n v1 v2 v23 L1 true
                          else
                            if (decide ((((List.getD v1 (v23).toNat default).Style).Grow) < 0)) = true then
                              g_ref17_Few_j1 K n v1 v2 v23 L1 true
                            else
                              if (decide ((((List.getD v1 (v23).toNat default).Style).Grow) > 1048576)) = true then
                                g_ref17_Few_j1 K n v1 v2 v23 L1 true
                              else
                                if (decide ((((List.getD v1 (v23).toNat default).Style).Shrink) < 0)) = true then
                                  g_ref17_Few_j1 K n v1 v2 v23 L1 true
                                else
                                  g_ref17_Few_j1 K n v1 v2 v23 L1 (decide ((((List.getD v1 (v23).toNat default).Style).Shrink) > 1048576))))
  else
    some (decide ((v1.length : Int) ≤ v2))
def g_ref17_Few_l6 (K : Kn) (n : Nat) (v1 : (List TKnapsackref17Spec)) (v2 : Int) : Nat → Int → Option Bool
  | 0 => fun _ => none
  | m + 1 => g_ref17_Few_l6_b K n v1 v2 (g_ref17_Few_l6 K n v1 v2 m)
def g_ref17_Few (K : Kn) (n : Nat) (v1 : (List TKnapsackref17Spec)) (v2 : Int) : Option Bool :=
  g_ref17_Few_l6 K n v1 v2 n 0
def g_ref17_Tree_j2 (K : Kn) (n : Nat) (v1 : (List TKnapsackref17Spec)) (v2 : Int) (v3 : Bool) (v8 : Int) (v9 : (List TBoxtreeBox)) (L1 : Int → (List TBoxtreeBox) → Option (TBoxtreeBox × Int)) (v10 : Bool) : Option (TBoxtreeBox × Int) :=
  if v10 = true then
    if v3 = true then
      (K.k_g_ref17_Tree v1 v8).bind fun v11 =>
      chk (fits (v9.length + ([v11.1] : (List TBoxtreeBox)).length) 520) (
      L1 v11.2 (v9 ++ [v11.1]))
    else
      chk (inb v8 v1.length) (
      chk (inb v8 v1.length) (
      chk (fits (v9.length + ([({ zTBoxtreeBox with Kind := 3, Style := (List.getD v1 (v8).toNat default).Style, Text := (List.getD v1 (v8).toNat default).Text } : TBoxtreeBox)] : (List TBoxtreeBox)).length) 520) (
      L1 (w64 (v8 + 1)) (v9 ++ [({ zTBoxtreeBox with Kind := 3, Style := (List.getD v1 (v8).toNat default).Style, Text := (List.getD v1 (v8).toNat default).Text } : TBoxtreeBox)]))))
  else
    some ((⟨1, (w64 (10 + v2)), (List.getD v1 (v2).toNat default).Style, ⟨#[]⟩, 0, 0, v9⟩ : TBoxtreeBox), v8)
def g_ref17_Tree_l3_b (K : Kn) (n : Nat) (v1 : (List TKnapsackref17Spec)) (v2 : Int) (v3 : Bool) (L1 : Int → (List TBoxtreeBox) → Option (TBoxtreeBox × Int)) (v8 : Int) (v9 : (List TBoxtreeBox)) : Option (TBoxtreeBox × Int) :=
  if (decide (v8 < (v1.length : Int))) = true then
    chk (inb v8 v1.length) (
    g_ref17_Tree_j2 K n v1 v2 v3 v8 v9 L1 (decide (((List.getD v1 (v8).toNat default).Depth) > ((List.getD v1 (v2).toNat default).Depth))))
  else
    g_ref17_Tree_j2 K n v1 v2 v3 v8 v9 L1 false
def g_ref17_Tree_l3 (K : Kn) (n : Nat) (v1 : (List TKnapsackref17Spec)) (v2 : Int) (v3 : Bool) : Nat → Int → (List TBoxtreeBox) → Option (TBoxtreeBox × Int)
  | 0 => fun _ _ => none
  | m + 1 => g_ref17_Tree_l3_b K n v1 v2 v3 (g_ref17_Tree_l3 K n v1 v2 v3 m)
def g_ref17_Tree_j1 (K : Kn) (n : Nat) (v1 : (List TKnapsackref17Spec)) (v2 : Int) (v3 : Bool) : Option (TBoxtreeBox × Int) :=
  g_ref17_Tree_l3 K n v1 v2 v3 n (w64 (v2 + 1)) []
def g_ref17_Tree (K : Kn) (n : Nat) (v1 : (List TKnapsackref17Spec)) (v2 : Int) : Option (TBoxtreeBox × Int) :=
  chk (inb v2 v1.length) (
  chk (inb v2 v1.length) (
  if (decide ((w64 (v2 + 1)) < (v1.length : Int))) = true then
    chk (inb (w64 (v2 + 1)) v1.length) (
    if (decide (((List.getD v1 ((w64 (v2 + 1))).toNat default).Depth) > ((List.getD v1 (v2).toNat default).Depth))) = true then
      chk (inb (w64 (v2 + 1)) v1.length) (
      g_ref17_Tree_j1 K n v1 v2 ((Int.tmod ((List.getD v1 ((w64 (v2 + 1))).toNat default).Kind) 2) == 0))
    else
      g_ref17_Tree_j1 K n v1 v2 false)
  else
    g_ref17_Tree_j1 K n v1 v2 false))
def g_ref17_Width (K : Kn) (n : Nat) (v1 : Int) : Option Int :=
  some (min (max v1 0) 1048576)
def g_ref17_limit (K : Kn) (n : Nat) (v1 : Int) : Option Int :=
  some (min (max v1 (-1048576)) 1048576)
def g_ref17_Length (K : Kn) (n : Nat) (v1 : TCascadeLength) (v2 : Int) : Option (Int × Bool) :=
  if (v1.Kind == 1) = true then
    (g_ref17_limit K n v1.Value).bind fun v3 =>
    some (v3, true)
  else
    if (v1.Kind == 2) = true then
      (g_ref17_Width K n v2).bind fun v4 =>
      (g_ref17_limit K n (w64 (Int.tdiv (w64 (v4 * (min (max v1.Value (-1000000)) 1000000))) 10000))).bind fun v5 =>
      some (v5, true)
    else
      some (0, false)
def g_ref17_Clamp_j2 (K : Kn) (n : Nat) (v7 : Int) : Option Int :=
  some v7
def g_ref17_Clamp_j1 (K : Kn) (n : Nat) (v1 : TCascadeStyle) (v2 : Int) (v5 : Int) : Option Int :=
  (g_ref17_Length K n v1.MinWidth v2).bind fun v6 =>
  if v6.2 = true then
    g_ref17_Clamp_j2 K n (max v5 v6.1)
  else
    g_ref17_Clamp_j2 K n v5
def g_ref17_Clamp (K : Kn) (n : Nat) (v1 : TCascadeStyle) (v2 : Int) (v3 : Int) : Option Int :=
  (g_ref17_Length K n v1.MaxWidth v2).bind fun v4 =>
  if v4.2 = true then
    g_ref17_Clamp_j1 K n v1 v2 (min (max v3 0) (max v4.1 0))
  else
    g_ref17_Clamp_j1 K n v1 v2 (max v3 0)
def g_ref17_Edges (K : Kn) (n : Nat) (v1 : TCascadeStyle) (v2 : Int) (v3 : Int) : Option TBlockSizes :=
  (g_ref17_Length K n v1.Margin.a0 v2).bind fun v4 =>
  (g_ref17_Length K n v1.Padding.a0 v2).bind fun v5 =>
  (g_ref17_Width K n v1.Border.a0).bind fun v6 =>
  (g_ref17_Length K n v1.Margin.a1 v2).bind fun v7 =>
  (g_ref17_Length K n v1.Padding.a1 v2).bind fun v8 =>
  (g_ref17_Width K n v1.Border.a1).bind fun v9 =>
  (g_ref17_Length K n v1.Margin.a2 v2).bind fun v10 =>
  (g_ref17_Length K n v1.Padding.a2 v2).bind fun v11 =>
  (g_ref17_Width K n v1.Border.a2).bind fun v12 =>
  (g_ref17_Length K n v1.Margin.a3 v2).bind fun v13 =>
  (g_ref17_Length K n v1.Padding.a3 v2).bind fun v14 =>
  (g_ref17_Width K n v1.Border.a3).bind fun v15 =>
  some (⟨⟨v4.1, v7.1, v10.1, v13.1⟩, ⟨v6, v9, v12, v15⟩, ⟨(max v5.1 0), (max v8.1 0), (max v11.1 0), (max v14.1 0)⟩, v3⟩ : TBlockSizes)
def g_ref17_Sum (K : Kn) (n : Nat) (v1 : TBlockSizes) : Option Int :=
  some (w64 ((w64 ((w64 ((w64 ((w64 ((w64 (v1.Content + v1.Margin.a1)) + v1.Margin.a3)) + v1.Border.a1)) + v1.Border.a3)) + v1.Padding.a1)) + v1.Padding.a3))
def g_ref17_Used_j3 (K : Kn) (n : Nat) (v4 : TBlockSizes) (v8 : Int) (v13 : (V4 Int)) : Option TBlockSizes :=
  some ({ v4 with Margin := v13, Content := v8 } : TBlockSizes)
def g_ref17_Used_j2 (K : Kn) (n : Nat) (v3 : Int) (v4 : TBlockSizes) (v8 : Int) (v9 : Int) (v10 : (Int × Bool)) (v11 : (Int × Bool)) (v12 : Bool) : Option TBlockSizes :=
  if v12 = true then
    g_ref17_Used_j3 K n v4 v8 ⟨v4.Margin.a0, (w64 ((w64 (v3 - v9)) - (w64 (Int.tdiv (w64 (v3 - v9)) 2)))), v4.Margin.a2, (w64 (Int.tdiv (w64 (v3 - v9)) 2))⟩
  else
    if (!v10.2) = true then
      g_ref17_Used_j3 K n v4 v8 ⟨v4.Margin.a0, v4.Margin.a1, v4.Margin.a2, (w64 (v3 - v9))⟩
    else
      if (!v11.2) = true then
        g_ref17_Used_j3 K n v4 v8 ⟨v4.Margin.a0, (w64 (v3 - v9)), v4.Margin.a2, v4.Margin.a3⟩
      else
        g_ref17_Used_j3 K n v4 v8 v4.Margin
def g_ref17_Used_j1 (K : Kn) (n : Nat) (v1 : TCascadeStyle) (v3 : Int) (v4 : TBlockSizes) (v7 : Int) : Option TBlockSizes :=
  (g_ref17_Clamp K n v1 v3 v7).bind fun v8 =>
  (g_ref17_Sum K n ({ v4 with Content := v8 } : TBlockSizes)).bind fun v9 =>
  (g_ref17_Length K n v1.Margin.a3 v3).bind fun v10 =>
  (g_ref17_Length K n v1.Margin.a1 v3).bind fun v11 =>
  if (decide ((w64 (v3 - v9)) ≤ 0)) = true then
    some ({ v4 with Content := v8 } : TBlockSizes)
  else
    if (!v10.2) = true then
      g_ref17_Used_j2 K n v3 v4 v8 v9 v10 v11 (!v11.2)
    else
      g_ref17_Used_j2 K n v3 v4 v8 v9 v10 v11 false
def g_ref17_Used (K : Kn) (n : Nat) (v1 : TCascadeStyle) (v2 : Int) : Option TBlockSizes :=
  (g_ref17_Width K n v2).bind fun v3 =>
  (g_ref17_Edges K n v1 v3 0).bind fun v4 =>
  (g_ref17_Length K n v1.Width v3).bind fun v5 =>
  if (!v5.2) = true then
    (g_ref17_Sum K n v4).bind fun v6 =>
    g_ref17_Used_j1 K n v1 v3 v4 (w64 (v3 - v6))
  else
    g_ref17_Used_j1 K n v1 v3 v4 v5.1
def g_ref17_Join (K : Kn) (n : Nat) (v1 : TBlockMargin) (v2 : TBlockMargin) : Option TBlockMargin :=
  some (⟨(max v1.Pos v2.Pos), (min v1.Neg v2.Neg)⟩ : TBlockMargin)
def g_ref17_Of (K : Kn) (n : Nat) (v1 : Int) : Option TBlockMargin :=
  some (⟨(max v1 0), (min v1 0)⟩ : TBlockMargin)
def g_ref17_Size (K : Kn) (n : Nat) (v1 : TBlockMargin) : Option Int :=
  some (w64 (v1.Pos + v1.Neg))
def g_ref17_Stack_j3 (K : Kn) (n : Nat) (v1 : (List TBlockFragment)) (v16 : Int) (v21 : (List TBlockFragment)) (v24 : Int) (L1 : Int → Int → TBlockMargin → Bool → TBlockMargin → (List TBlockFragment) → Option TKnapsackref17Placed) (v26 : Int) (v27 : TBlockMargin) (v28 : Bool) (v29 : TBlockMargin) : Option TKnapsackref17Placed :=
  chk (fits (v21.length + ([({ (List.getD v1 (v16).toNat default) with Y := v24 } : TBlockFragment)] : (List TBlockFragment)).length) 584) (
  L1 (w64 (v16 + 1)) v26 v27 v28 v29 (v21 ++ [({ (List.getD v1 (v16).toNat default) with Y := v24 } : TBlockFragment)]))
def g_ref17_Stack_j2 (K : Kn) (n : Nat) (v1 : (List TBlockFragment)) (v16 : Int) (v17 : Int) (v19 : Bool) (v21 : (List TBlockFragment)) (v22 : TBlockMargin) (v24 : Int) (L1 : Int → Int → TBlockMargin → Bool → TBlockMargin → (List TBlockFragment) → Option TKnapsackref17Placed) (v25 : TBlockMargin) : Option TKnapsackref17Placed :=
  g_ref17_Stack_j3 K n v1 v16 v21 v24 L1 (w64 (v24 + ((List.getD v1 (v16).toNat default).H))) v25 false ((List.getD v1 (v16).toNat default).After)
def g_ref17_Stack_j1 (K : Kn) (n : Nat) (v1 : (List TBlockFragment)) (v16 : Int) (v17 : Int) (v18 : TBlockMargin) (v19 : Bool) (v21 : (List TBlockFragment)) (v22 : TBlockMargin) (L1 : Int → Int → TBlockMargin → Bool → TBlockMargin → (List TBlockFragment) → Option TKnapsackref17Placed) (v24 : Int) : Option TKnapsackref17Placed :=
  if (!(List.getD v1 (v16).toNat default).Empty) = true then
    if v19 = true then
      g_ref17_Stack_j2 K n v1 v16 v17 v19 v21 v22 v24 L1 v22
    else
      g_ref17_Stack_j2 K n v1 v16 v17 v19 v21 v22 v24 L1 v18
  else
    g_ref17_Stack_j3 K n v1 v16 v21 v24 L1 v17 v18 v19 v22
def g_ref17_Stack_j5 (K : Kn) (n : Nat) (v17 : Int) (v19 : Bool) (v20 : TBlockMargin) (v21 : (List TBlockFragment)) (v30 : TBlockMargin) : Option TKnapsackref17Placed :=
  some (⟨v21, v17, v30, v20, v19⟩ : TKnapsackref17Placed)
def g_ref17_Stack_l4_b (K : Kn) (n : Nat) (v1 : (List TBlockFragment)) (L1 : Int → Int → TBlockMargin → Bool → TBlockMargin → (List TBlockFragment) → Option TKnapsackref17Placed) (v16 : Int) (v17 : Int) (v18 : TBlockMargin) (v19 : Bool) (v20 : TBlockMargin) (v21 : (List TBlockFragment)) : Option TKnapsackref17Placed :=
  if (decide (v16 < (v1.length : Int))) = true then
    chk (inb v16 v1.length) (
    (g_ref17_Join K n v20 ((List.getD v1 (v16).toNat default).Before)).bind fun v22 =>
    if (!v19) = true then
      (g_ref17_Size K n v22).bind fun v23 =>
      g_ref17_Stack_j1 K n v1 v16 v17 v18 v19 v21 v22 L1 (w64 (v17 + v23))
    else
      g_ref17_Stack_j1 K n v1 v16 v17 v18 v19 v21 v22 L1 0)
  else
    if v19 = true then
      g_ref17_Stack_j5 K n v17 v19 v20 v21 v20
    else
      g_ref17_Stack_j5 K n v17 v19 v20 v21 v18
def g_ref17_Stack_l4 (K : Kn) (n : Nat) (v1 : (List TBlockFragment)) : Nat → Int → Int → TBlockMargin → Bool → TBlockMargin → (List TBlockFragment) → Option TKnapsackref17Placed
  | 0 => fun _ _ _ _ _ _ => none
  | m + 1 => g_ref17_Stack_l4_b K n v1 (g_ref17_Stack_l4 K n v1 m)
def g_ref17_Stack (K : Kn) (n : Nat) (v1 : (List TBlockFragment)) : Option TKnapsackref17Placed :=
  g_ref17_Stack_l4 K n v1 n 0 0 zTBlockMargin true zTBlockMargin []
def g_ref17_Moved_j1 (K : Kn) (n : Nat) (v1 : TBlockFragment) (v3 : (Int × Bool)) (v5 : Int) : Option TBlockFragment :=
  some ({ v1 with X := (w64 (v1.X + v3.1)), Y := v5 } : TBlockFragment)
def g_ref17_Moved (K : Kn) (n : Nat) (v1 : TBlockFragment) (v2 : Int) : Option TBlockFragment :=
  if (v1.Style.Position != 1) = true then
    some v1
  else
    (g_ref17_Length K n v1.Style.Left v2).bind fun v3 =>
    if (v1.Style.Top.Kind == 1) = true then
      (g_ref17_Length K n v1.Style.Top 0).bind fun v4 =>
      g_ref17_Moved_j1 K n v1 v3 (w64 (v1.Y + v4.1))
    else
      g_ref17_Moved_j1 K n v1 v3 v1.Y
def g_ref17_Lines_j1 (K : Kn) (n : Nat) (v1 : (List TBoxtreeBox)) (v2 : TCascadeStyle) (v3 : Int) (v11 : Int) (L1 : Int → Int → (List TBlockFragment) → Option ((List TBlockFragment) × Int)) (v14 : Int) (v15 : (List TBlockFragment)) : Option ((List TBlockFragment) × Int) :=
  L1 v14 (w64 (v11 + 1)) v15
def g_ref17_Lines_l2_b (K : Kn) (n : Nat) (v1 : (List TBoxtreeBox)) (v2 : TCascadeStyle) (v3 : Int) (L1 : Int → Int → (List TBlockFragment) → Option ((List TBlockFragment) × Int)) (v10 : Int) (v11 : Int) (v12 : (List TBlockFragment)) : Option ((List TBlockFragment) × Int) :=
  if (decide (v11 < (v1.length : Int))) = true then
    chk (inb v11 v1.length) (
    (some (!(((List.getD v1 (v11).toNat default).Text).toList == (⟨#[]⟩ : ByteArray).toList))).bind fun v13 =>
    if v13 = true then
      chk (inb v11 v1.length) (
      chk (fits (v12.length + ([({ zTBlockFragment with Kind := 2, Y := v10, W := v3, H := v2.LineHeight, Text := (List.getD v1 (v11).toNat default).Text } : TBlockFragment)] : (List TBlockFragment)).length) 584) (
      g_ref17_Lines_j1 K n v1 v2 v3 v11 L1 (w64 (v10 + v2.LineHeight)) (v12 ++ [({ zTBlockFragment with Kind := 2, Y := v10, W := v3, H := v2.LineHeight, Text := (List.getD v1 (v11).toNat default).Text } : TBlockFragment)])))
    else
      g_ref17_Lines_j1 K n v1 v2 v3 v11 L1 v10 v12)
  else
    some (v12, v10)
def g_ref17_Lines_l2 (K : Kn) (n : Nat) (v1 : (List TBoxtreeBox)) (v2 : TCascadeStyle) (v3 : Int) : Nat → Int → Int → (List TBlockFragment) → Option ((List TBlockFragment) × Int)
  | 0 => fun _ _ _ => none
  | m + 1 => g_ref17_Lines_l2_b K n v1 v2 v3 (g_ref17_Lines_l2 K n v1 v2 v3 m)
def g_ref17_Lines (K : Kn) (n : Nat) (v1 : (List TBoxtreeBox)) (v2 : TCascadeStyle) (v3 : Int) : Option ((List TBlockFragment) × Int) :=
  g_ref17_Lines_l2 K n v1 v2 v3 n 0 0 []
def g_ref17_In_j1 (K : Kn) (n : Nat) (v2 : Bool) : Option Bool :=
  some v2
def g_ref17_In (K : Kn) (n : Nat) (v1 : TBoxtreeBox) : Option Bool :=
  if (v1.Kind == 3) = true then
    g_ref17_In_j1 K n true
  else
    g_ref17_In_j1 K n (v1.Style.Position != 2)
def g_ref17_Inside_j1 (K : Kn) (n : Nat) (v1 : TBoxtreeBox) (v8 : Int) (L1 : Int → (List TBoxtreeBox) → Option (List TBoxtreeBox)) (v11 : (List TBoxtreeBox)) : Option (List TBoxtreeBox) :=
  L1 (w64 (v8 + 1)) v11
def g_ref17_Inside_l2_b (K : Kn) (n : Nat) (v1 : TBoxtreeBox) (L1 : Int → (List TBoxtreeBox) → Option (List TBoxtreeBox)) (v8 : Int) (v9 : (List TBoxtreeBox)) : Option (List TBoxtreeBox) :=
  if (decide (v8 < (v1.Kids.length : Int))) = true then
    chk (inb v8 v1.Kids.length) (
    (g_ref17_In K n (List.getD v1.Kids (v8).toNat default)).bind fun v10 =>
    if v10 = true then
      chk (inb v8 v1.Kids.length) (
      chk (fits (v9.length + ([(List.getD v1.Kids (v8).toNat default)] : (List TBoxtreeBox)).length) 520) (
      g_ref17_Inside_j1 K n v1 v8 L1 (v9 ++ [(List.getD v1.Kids (v8).toNat default)])))
    else
      g_ref17_Inside_j1 K n v1 v8 L1 v9)
  else
    some v9
def g_ref17_Inside_l2 (K : Kn) (n : Nat) (v1 : TBoxtreeBox) : Nat → Int → (List TBoxtreeBox) → Option (List TBoxtreeBox)
  | 0 => fun _ _ => none
  | m + 1 => g_ref17_Inside_l2_b K n v1 (g_ref17_Inside_l2 K n v1 m)
def g_ref17_Inside (K : Kn) (n : Nat) (v1 : TBoxtreeBox) : Option (List TBoxtreeBox) :=
  g_ref17_Inside_l2 K n v1 n 0 []
def g_ref17_outer_l1_b (K : Kn) (n : Nat) (v2 : (List TBoxtreeBox)) (L1 : Int → Option Bool) (v4 : Int) : Option Bool :=
  if (decide (v4 < (v2.length : Int))) = true then
    chk (inb v4 v2.length) (
    (some (((List.getD v2 (v4).toNat default).Kind) == 1)).bind fun v5 =>
    if v5 = true then
      some true
    else
      L1 (w64 (v4 + 1)))
  else
    some false
def g_ref17_outer_l1 (K : Kn) (n : Nat) (v2 : (List TBoxtreeBox)) : Nat → Int → Option Bool
  | 0 => fun _ => none
  | m + 1 => g_ref17_outer_l1_b K n v2 (g_ref17_outer_l1 K n v2 m)
def g_ref17_outer (K : Kn) (n : Nat) (v1 : TBoxtreeBox) : Option Bool :=
  (g_ref17_Inside K n v1).bind fun v2 =>
  g_ref17_outer_l1 K n v2 n 0
def g_ref17_pixels (K : Kn) (n : Nat) (v1 : TCascadeLength) : Option (Int × Bool) :=
  if (v1.Kind != 1) = true then
    some (0, false)
  else
    (g_ref17_limit K n v1.Value).bind fun v2 =>
    some ((max v2 0), true)
def g_ref17_finish_j12 (K : Kn) (n : Nat) (v1 : TBoxtreeBox) (v2 : TBlockSizes) (v4 : Int) (v5 : Bool) (v14 : Int) (v15 : TBlockMargin) (v16 : TBlockMargin) (v17 : Bool) (v18 : (List TBlockFragment)) (v28 : Int) (v37 : TBlockMargin) (v38 : TBlockMargin) (v39 : Bool) (v59 : Int) (v60 : Int) (v61 : (List TBlockFragment)) (L2 : Int → Int → (List TBlockFragment) → Option TBlockFragment) (v65 : TBlockFragment) : Option TBlockFragment :=
  chk (fits (v61.length + ([v65] : (List TBlockFragment)).length) 584) (
  L2 (w64 (v59 + 1)) v60 (v61 ++ [v65]))
def g_ref17_finish_l13_b (K : Kn) (n : Nat) (v1 : TBoxtreeBox) (v2 : TBlockSizes) (v4 : Int) (v5 : Bool) (v14 : Int) (v15 : TBlockMargin) (v16 : TBlockMargin) (v17 : Bool) (v18 : (List TBlockFragment)) (v28 : Int) (v37 : TBlockMargin) (v38 : TBlockMargin) (v39 : Bool) (L2 : Int → Int → (List TBlockFragment) → Option TBlockFragment) (v59 : Int) (v60 : Int) (v61 : (List TBlockFragment)) : Option TBlockFragment :=
  if (decide (v59 < (v18.length : Int))) = true then
    chk (inb v59 v18.length) (
    (some (w64 (((List.getD v18 (v59).toNat default).X) + (w64 (v2.Border.a3 + v2.Padding.a3))))).bind fun v62 =>
    (some (w64 (((List.getD v18 (v59).toNat default).Y) + (w64 ((w64 (v2.Border.a0 + v2.Padding.a0)) + v28))))).bind fun v63 =>
    if v5 = true then
      (g_ref17_Moved K n ({ (List.getD v18 (v59).toNat default) with X := v62, Y := v63 } : TBlockFragment) v2.Content).bind fun v64 =>
      g_ref17_finish_j12 K n v1 v2 v4 v5 v14 v15 v16 v17 v18 v28 v37 v38 v39 v59 v60 v61 L2 v64
    else
      g_ref17_finish_j12 K n v1 v2 v4 v5 v14 v15 v16 v17 v18 v28 v37 v38 v39 v59 v60 v61 L2 ({ (List.getD v18 (v59).toNat default) with X := v62, Y := v63 } : TBlockFragment))
  else
    some (⟨1, v1.Node, v2.Margin.a3, 0, v4, v60, 0, ⟨#[]⟩, v1.Style, v37, v38, v39, v61⟩ : TBlockFragment)
def g_ref17_finish_l13 (K : Kn) (n : Nat) (v1 : TBoxtreeBox) (v2 : TBlockSizes) (v4 : Int) (v5 : Bool) (v14 : Int) (v15 : TBlockMargin) (v16 : TBlockMargin) (v17 : Bool) (v18 : (List TBlockFragment)) (v28 : Int) (v37 : TBlockMargin) (v38 : TBlockMargin) (v39 : Bool) : Nat → Int → Int → (List TBlockFragment) → Option TBlockFragment
  | 0 => fun _ _ _ => none
  | m + 1 => g_ref17_finish_l13_b K n v1 v2 v4 v5 v14 v15 v16 v17 v18 v28 v37 v38 v39 (g_ref17_finish_l13 K n v1 v2 v4 v5 v14 v15 v16 v17 v18 v28 v37 v38 v39 m)
def g_ref17_finish_j11 (K : Kn) (n : Nat) (v1 : TBoxtreeBox) (v2 : TBlockSizes) (v4 : Int) (v5 : Bool) (v14 : Int) (v15 : TBlockMargin) (v16 : TBlockMargin) (v17 : Bool) (v18 : (List TBlockFragment)) (v28 : Int) (v37 : TBlockMargin) (v38 : TBlockMargin) (v39 : Bool) (v40 : Int) : Option TBlockFragment :=
  g_ref17_finish_l13 K n v1 v2 v4 v5 v14 v15 v16 v17 v18 v28 v37 v38 v39 n 0 (w64 ((w64 ((w64 ((w64 (v40 + v2.Border.a0)) + v2.Border.a2)) + v2.Padding.a0)) + v2.Padding.a2)) []
def g_ref17_finish_j10 (K : Kn) (n : Nat) (v1 : TBoxtreeBox) (v2 : TBlockSizes) (v4 : Int) (v5 : Bool) (v14 : Int) (v15 : TBlockMargin) (v16 : TBlockMargin) (v17 : Bool) (v18 : (List TBlockFragment)) (v19 : (Int × Bool)) (v28 : Int) (v36 : Int) (v37 : TBlockMargin) (v38 : TBlockMargin) (v39 : Bool) : Option TBlockFragment :=
  if v19.2 = true then
    g_ref17_finish_j11 K n v1 v2 v4 v5 v14 v15 v16 v17 v18 v28 v37 v38 v39 v19.1
  else
    g_ref17_finish_j11 K n v1 v2 v4 v5 v14 v15 v16 v17 v18 v28 v37 v38 v39 (max v36 0)
def g_ref17_finish_j9 (K : Kn) (n : Nat) (v1 : TBoxtreeBox) (v2 : TBlockSizes) (v4 : Int) (v5 : Bool) (v14 : Int) (v15 : TBlockMargin) (v16 : TBlockMargin) (v17 : Bool) (v18 : (List TBlockFragment)) (v19 : (Int × Bool)) (v21 : Bool) (v22 : Bool) (v24 : TBlockMargin) (v28 : Int) (v29 : TBlockMargin) (v33 : Bool) : Option TBlockFragment :=
  if v33 = true then
    (g_ref17_Join K n v29 v24).bind fun v34 =>
    g_ref17_finish_j10 K n v1 v2 v4 v5 v14 v15 v16 v17 v18 v19 v28 0 v34 v34 true
  else
    if v22 = true then
      (g_ref17_Join K n v24 v15).bind fun v35 =>
      g_ref17_finish_j10 K n v1 v2 v4 v5 v14 v15 v16 v17 v18 v19 v28 0 v29 v35 false
    else
      if (!v21) = true then
        g_ref17_finish_j10 K n v1 v2 v4 v5 v14 v15 v16 v17 v18 v19 v28 v28 v29 v24 false
      else
        g_ref17_finish_j10 K n v1 v2 v4 v5 v14 v15 v16 v17 v18 v19 v28 0 v29 v24 false
def g_ref17_finish_j8 (K : Kn) (n : Nat) (v1 : TBoxtreeBox) (v2 : TBlockSizes) (v4 : Int) (v5 : Bool) (v14 : Int) (v15 : TBlockMargin) (v16 : TBlockMargin) (v17 : Bool) (v18 : (List TBlockFragment)) (v19 : (Int × Bool)) (v21 : Bool) (v22 : Bool) (v24 : TBlockMargin) (v28 : Int) (v29 : TBlockMargin) (v30 : Bool) : Option TBlockFragment :=
  if v30 = true then
    (g_ref17_Join K n v24 v16).bind fun v31 =>
    g_ref17_finish_j10 K n v1 v2 v4 v5 v14 v15 v16 v17 v18 v19 v28 (w64 (v28 + v14)) v29 v31 false
  else
    if (!v17) = true then
      (g_ref17_Size K n v16).bind fun v32 =>
      g_ref17_finish_j10 K n v1 v2 v4 v5 v14 v15 v16 v17 v18 v19 v28 (w64 ((w64 (v28 + v14)) + v32)) v29 v24 false
    else
      if v21 = true then
        g_ref17_finish_j9 K n v1 v2 v4 v5 v14 v15 v16 v17 v18 v19 v21 v22 v24 v28 v29 v22
      else
        g_ref17_finish_j9 K n v1 v2 v4 v5 v14 v15 v16 v17 v18 v19 v21 v22 v24 v28 v29 false
def g_ref17_finish_j7 (K : Kn) (n : Nat) (v1 : TBoxtreeBox) (v2 : TBlockSizes) (v4 : Int) (v5 : Bool) (v14 : Int) (v15 : TBlockMargin) (v16 : TBlockMargin) (v17 : Bool) (v18 : (List TBlockFragment)) (v19 : (Int × Bool)) (v21 : Bool) (v22 : Bool) (v24 : TBlockMargin) (v28 : Int) (v29 : TBlockMargin) : Option TBlockFragment :=
  if (!v17) = true then
    g_ref17_finish_j8 K n v1 v2 v4 v5 v14 v15 v16 v17 v18 v19 v21 v22 v24 v28 v29 v22
  else
    g_ref17_finish_j8 K n v1 v2 v4 v5 v14 v15 v16 v17 v18 v19 v21 v22 v24 v28 v29 false
def g_ref17_finish_j6 (K : Kn) (n : Nat) (v1 : TBoxtreeBox) (v2 : TBlockSizes) (v4 : Int) (v5 : Bool) (v14 : Int) (v15 : TBlockMargin) (v16 : TBlockMargin) (v17 : Bool) (v18 : (List TBlockFragment)) (v19 : (Int × Bool)) (v21 : Bool) (v22 : Bool) (v23 : TBlockMargin) (v24 : TBlockMargin) (v26 : Bool) : Option TBlockFragment :=
  if v26 = true then
    (g_ref17_Size K n v15).bind fun v27 =>
    g_ref17_finish_j7 K n v1 v2 v4 v5 v14 v15 v16 v17 v18 v19 v21 v22 v24 v27 v23
  else
    g_ref17_finish_j7 K n v1 v2 v4 v5 v14 v15 v16 v17 v18 v19 v21 v22 v24 0 v23
def g_ref17_finish_j5 (K : Kn) (n : Nat) (v1 : TBoxtreeBox) (v2 : TBlockSizes) (v4 : Int) (v5 : Bool) (v14 : Int) (v15 : TBlockMargin) (v16 : TBlockMargin) (v17 : Bool) (v18 : (List TBlockFragment)) (v19 : (Int × Bool)) (v21 : Bool) (v22 : Bool) : Option TBlockFragment :=
  (g_ref17_Of K n v2.Margin.a0).bind fun v23 =>
  (g_ref17_Of K n v2.Margin.a2).bind fun v24 =>
  if v21 = true then
    (g_ref17_Join K n v23 v15).bind fun v25 =>
    g_ref17_finish_j7 K n v1 v2 v4 v5 v14 v15 v16 v17 v18 v19 v21 v22 v24 0 v25
  else
    if (!v17) = true then
      g_ref17_finish_j6 K n v1 v2 v4 v5 v14 v15 v16 v17 v18 v19 v21 v22 v23 v24 true
    else
      g_ref17_finish_j6 K n v1 v2 v4 v5 v14 v15 v16 v17 v18 v19 v21 v22 v23 v24 (!v22)
def g_ref17_finish_j4 (K : Kn) (n : Nat) (v1 : TBoxtreeBox) (v2 : TBlockSizes) (v4 : Int) (v5 : Bool) (v14 : Int) (v15 : TBlockMargin) (v16 : TBlockMargin) (v17 : Bool) (v18 : (List TBlockFragment)) (v19 : (Int × Bool)) (v20 : Bool) (v21 : Bool) : Option TBlockFragment :=
  if v20 = true then
    if ((w64 (v2.Border.a2 + v2.Padding.a2)) == 0) = true then
      g_ref17_finish_j5 K n v1 v2 v4 v5 v14 v15 v16 v17 v18 v19 v21 (!v19.2)
    else
      g_ref17_finish_j5 K n v1 v2 v4 v5 v14 v15 v16 v17 v18 v19 v21 false
  else
    g_ref17_finish_j5 K n v1 v2 v4 v5 v14 v15 v16 v17 v18 v19 v21 false
def g_ref17_finish_j3 (K : Kn) (n : Nat) (v1 : TBoxtreeBox) (v2 : TBlockSizes) (v4 : Int) (v5 : Bool) (v14 : Int) (v15 : TBlockMargin) (v16 : TBlockMargin) (v17 : Bool) (v18 : (List TBlockFragment)) (v19 : (Int × Bool)) (v20 : Bool) : Option TBlockFragment :=
  if v20 = true then
    g_ref17_finish_j4 K n v1 v2 v4 v5 v14 v15 v16 v17 v18 v19 v20 ((w64 (v2.Border.a0 + v2.Padding.a0)) == 0)
  else
    g_ref17_finish_j4 K n v1 v2 v4 v5 v14 v15 v16 v17 v18 v19 v20 false
def g_ref17_finish_j2 (K : Kn) (n : Nat) (v1 : TBoxtreeBox) (v2 : TBlockSizes) (v3 : Bool) (v4 : Int) (v5 : Bool) (v14 : Int) (v15 : TBlockMargin) (v16 : TBlockMargin) (v17 : Bool) (v18 : (List TBlockFragment)) : Option TBlockFragment :=
  (g_ref17_pixels K n v1.Style.Height).bind fun v19 =>
  if v3 = true then
    g_ref17_finish_j3 K n v1 v2 v4 v5 v14 v15 v16 v17 v18 v19 (v1.Style.Overflow == 0)
  else
    g_ref17_finish_j3 K n v1 v2 v4 v5 v14 v15 v16 v17 v18 v19 false
def g_ref17_finish_l1_b (K : Kn) (n : Nat) (v1 : TBoxtreeBox) (v2 : TBlockSizes) (v3 : Bool) (v4 : Int) (v5 : Bool) (v6 : (List TBoxtreeBox)) (L1 : Int → (List TBlockFragment) → Option TBlockFragment) (v9 : Int) (v10 : (List TBlockFragment)) : Option TBlockFragment :=
  if (decide (v9 < (v6.length : Int))) = true then
    chk (inb v9 v6.length) (
    (K.k_g_ref17_Layout (List.getD v6 (v9).toNat default) v2.Content).bind fun v11 =>
    chk (fits (v10.length + ([v11] : (List TBlockFragment)).length) 584) (
    L1 (w64 (v9 + 1)) (v10 ++ [v11])))
  else
    (g_ref17_Stack K n v10).bind fun v12 =>
    g_ref17_finish_j2 K n v1 v2 v3 v4 v5 v12.Height v12.Before v12.After v12.Through v12.List
def g_ref17_finish_l1 (K : Kn) (n : Nat) (v1 : TBoxtreeBox) (v2 : TBlockSizes) (v3 : Bool) (v4 : Int) (v5 : Bool) (v6 : (List TBoxtreeBox)) : Nat → Int → (List TBlockFragment) → Option TBlockFragment
  | 0 => fun _ _ => none
  | m + 1 => g_ref17_finish_l1_b K n v1 v2 v3 v4 v5 v6 (g_ref17_finish_l1 K n v1 v2 v3 v4 v5 v6 m)
def g_ref17_finish (K : Kn) (n : Nat) (v1 : TBoxtreeBox) (v2 : TBlockSizes) (v3 : Bool) : Option TBlockFragment :=
  (some (w64 ((w64 ((w64 ((w64 (v2.Content + v2.Border.a1)) + v2.Border.a3)) + v2.Padding.a1)) + v2.Padding.a3))).bind fun v4 =>
  (g_ref17_outer K n v1).bind fun v5 =>
  (g_ref17_Inside K n v1).bind fun v6 =>
  if v5 = true then
    g_ref17_finish_l1 K n v1 v2 v3 v4 v5 v6 n 0 []
  else
    (g_ref17_Lines K n v6 v1.Style v2.Content).bind fun v13 =>
    g_ref17_finish_j2 K n v1 v2 v3 v4 v5 v13.2 zTBlockMargin zTBlockMargin ((v13.1.length : Int) == 0) v13.1
def g_ref17_Layout (K : Kn) (n : Nat) (v1 : TBoxtreeBox) (v2 : Int) : Option TBlockFragment :=
  (g_ref17_Used K n v1.Style v2).bind fun v3 =>
  (g_ref17_finish K n v1 v3 true).bind fun v4 =>
  some v4
def g_ref17_Same_l2_b (K : Kn) (n : Nat) (v1 : TBlockFragment) (v2 : TBlockFragment) (L1 : Int → Option Bool) (v6 : Int) : Option Bool :=
  if (decide (v6 < (v1.Kids.length : Int))) = true then
    chk (inb v6 v1.Kids.length) (
    chk (inb v6 v2.Kids.length) (
    (K.k_g_ref17_Same (List.getD v1.Kids (v6).toNat default) (List.getD v2.Kids (v6).toNat default)).bind fun v7 =>
    if (!v7) = true then
      some false
    else
      L1 (w64 (v6 + 1))))
  else
    some true
def g_ref17_Same_l2 (K : Kn) (n : Nat) (v1 : TBlockFragment) (v2 : TBlockFragment) : Nat → Int → Option Bool
  | 0 => fun _ => none
  | m + 1 => g_ref17_Same_l2_b K n v1 v2 (g_ref17_Same_l2 K n v1 v2 m)
def g_ref17_Same_j1 (K : Kn) (n : Nat) (v1 : TBlockFragment) (v2 : TBlockFragment) (v3 : Bool) : Option Bool :=
  if v3 = true then
    some false
  else
    g_ref17_Same_l2 K n v1 v2 n 0
def g_ref17_Same (K : Kn) (n : Nat) (v1 : TBlockFragment) (v2 : TBlockFragment) : Option Bool :=
  if (v1.Kind != v2.Kind) = true then
    g_ref17_Same_j1 K n v1 v2 true
  else
    if (v1.Node != v2.Node) = true then
      g_ref17_Same_j1 K n v1 v2 true
    else
      if (v1.X != v2.X) = true then
        g_ref17_Same_j1 K n v1 v2 true
      else
        if (v1.Y != v2.Y) = true then
          g_ref17_Same_j1 K n v1 v2 true
        else
          if (v1.W != v2.W) = true then
            g_ref17_Same_j1 K n v1 v2 true
          else
            if (v1.H != v2.H) = true then
              g_ref17_Same_j1 K n v1 v2 true
            else
              if (v1.Base != v2.Base) = true then
                g_ref17_Same_j1 K n v1 v2 true
              else
                if (!(v1.Text.toList == v2.Text.toList)) = true then
                  g_ref17_Same_j1 K n v1 v2 true
                else
                  if (!(qTCascadeStyle v1.Style v2.Style)) = true then
                    g_ref17_Same_j1 K n v1 v2 true
                  else
                    if (!(qTBlockMargin v1.Before v2.Before)) = true then
                      g_ref17_Same_j1 K n v1 v2 true
                    else
                      if (!(qTBlockMargin v1.After v2.After)) = true then
                        g_ref17_Same_j1 K n v1 v2 true
                      else
                        if (!(v1.Empty == v2.Empty)) = true then
                          g_ref17_Same_j1 K n v1 v2 true
                        else
                          g_ref17_Same_j1 K n v1 v2 ((v1.Kids.length : Int) != (v2.Kids.length : Int))
def g_block_Moved_j1 (K : Kn) (n : Nat) (v1 : TBlockFragment) (v3 : (Int × Bool)) (v5 : Int) : Option TBlockFragment :=
  some ({ v1 with X := (w64 (v1.X + v3.1)), Y := v5 } : TBlockFragment)
def g_block_Moved (K : Kn) (n : Nat) (v1 : TBlockFragment) (v2 : Int) : Option TBlockFragment :=
  if (v1.Style.Position != 1) = true then
    some v1
  else
    (g_block_Length K n v1.Style.Left v2).bind fun v3 =>
    if (v1.Style.Top.Kind == 1) = true then
      (g_block_Length K n v1.Style.Top 0).bind fun v4 =>
      g_block_Moved_j1 K n v1 v3 (w64 (v1.Y + v4.1))
    else
      g_block_Moved_j1 K n v1 v3 v1.Y
def g_block_Flow_j1 (K : Kn) (n : Nat) (v2 : Bool) : Option Bool :=
  some v2
def g_block_Flow (K : Kn) (n : Nat) (v1 : TBoxtreeBox) : Option Bool :=
  if (v1.Kind == 3) = true then
    g_block_Flow_j1 K n true
  else
    g_block_Flow_j1 K n (v1.Style.Position != 2)
def g_slices_IndexFunc_BoxtreeBox_BoxtreeBox_l1_b (K : Kn) (n : Nat) (v1 : (List TBoxtreeBox)) (v2 : Nat) (L1 : Int → Option Int) (v4 : Int) : Option Int :=
  if (decide (v4 < (v1.length : Int))) = true then
    chk (inb v4 v1.length) (
    (K.d_TBoxtreeBox__Bool v2 (List.getD v1 (v4).toNat default)).bind fun v5 =>
    if v5 = true then
      some v4
    else
      L1 (w64 (v4 + 1)))
  else
    some (-1)
def g_slices_IndexFunc_BoxtreeBox_BoxtreeBox_l1 (K : Kn) (n : Nat) (v1 : (List TBoxtreeBox)) (v2 : Nat) : Nat → Int → Option Int
  | 0 => fun _ => none
  | m + 1 => g_slices_IndexFunc_BoxtreeBox_BoxtreeBox_l1_b K n v1 v2 (g_slices_IndexFunc_BoxtreeBox_BoxtreeBox_l1 K n v1 v2 m)
def g_slices_IndexFunc_BoxtreeBox_BoxtreeBox (K : Kn) (n : Nat) (v1 : (List TBoxtreeBox)) (v2 : Nat) : Option Int :=
  g_slices_IndexFunc_BoxtreeBox_BoxtreeBox_l1 K n v1 v2 n 0
def g_slices_ContainsFunc_BoxtreeBox_BoxtreeBox (K : Kn) (n : Nat) (v1 : (List TBoxtreeBox)) (v2 : Nat) : Option Bool :=
  (g_slices_IndexFunc_BoxtreeBox_BoxtreeBox K n v1 v2).bind fun v3 =>
  some (decide (v3 ≥ 0))
def g_block_flow_j1 (K : Kn) (n : Nat) (v1 : TBoxtreeBox) (v8 : Int) (L1 : Int → (List TBoxtreeBox) → Option ((List TBoxtreeBox) × Bool)) (v11 : (List TBoxtreeBox)) : Option ((List TBoxtreeBox) × Bool) :=
  L1 (w64 (v8 + 1)) v11
def g_block_flow_l2_b (K : Kn) (n : Nat) (v1 : TBoxtreeBox) (L1 : Int → (List TBoxtreeBox) → Option ((List TBoxtreeBox) × Bool)) (v8 : Int) (v9 : (List TBoxtreeBox)) : Option ((List TBoxtreeBox) × Bool) :=
  if (decide (v8 < (v1.Kids.length : Int))) = true then
    chk (inb v8 v1.Kids.length) (
    (g_block_Flow K n (List.getD v1.Kids (v8).toNat default)).bind fun v10 =>
    if v10 = true then
      chk (fits (v9.length + ([(List.getD v1.Kids (v8).toNat default)] : (List TBoxtreeBox)).length) 520) (
      g_block_flow_j1 K n v1 v8 L1 (v9 ++ [(List.getD v1.Kids (v8).toNat default)]))
    else
      g_block_flow_j1 K n v1 v8 L1 v9)
  else
    (g_slices_ContainsFunc_BoxtreeBox_BoxtreeBox K n v9 72).bind fun v12 =>
    some (v9, v12)
def g_block_flow_l2 (K : Kn) (n : Nat) (v1 : TBoxtreeBox) : Nat → Int → (List TBoxtreeBox) → Option ((List TBoxtreeBox) × Bool)
  | 0 => fun _ _ => none
  | m + 1 => g_block_flow_l2_b K n v1 (g_block_flow_l2 K n v1 m)
def g_block_flow (K : Kn) (n : Nat) (v1 : TBoxtreeBox) : Option ((List TBoxtreeBox) × Bool) :=
  g_block_flow_l2 K n v1 n 0 []
def g_slices_Clone_BlockFragment_BlockFragment (K : Kn) (n : Nat) (v1 : (List TBlockFragment)) : Option (List TBlockFragment) :=
  both (List.isEmpty v1) (
    some []) (
    chk (fits (([] : List TBlockFragment).length + v1.length) 584) (
    some (([] : List TBlockFragment) ++ v1)))
def g_block_inner (K : Kn) (n : Nat) (v1 : TBlockSizes) : Option Int :=
  some (w64 ((w64 ((w64 (v1.Border.a3 + v1.Padding.a3)) + v1.Border.a1)) + v1.Padding.a1))
def g_boxtree_Outer_j1 (K : Kn) (n : Nat) (v2 : Bool) : Option Bool :=
  some v2
def g_boxtree_Outer (K : Kn) (n : Nat) (v1 : TBoxtreeBox) : Option Bool :=
  if (v1.Kind == 1) = true then
    g_boxtree_Outer_j1 K n true
  else
    if (v1.Kind == 6) = true then
      g_boxtree_Outer_j1 K n true
    else
      g_boxtree_Outer_j1 K n (v1.Kind == 7)
def g_block_layout_j10 (K : Kn) (n : Nat) (v1 : TBoxtreeBox) (v2 : TBlockSizes) (v6 : ((List TBoxtreeBox) × Bool)) (v19 : (List TBlockFragment)) (v25 : Int) (v33 : TBlockMargin) (v34 : TBlockMargin) (v35 : Bool) (v39 : Int) (v40 : Int) (v47 : Int) (L2 : Int → (List TBlockFragment) → Option TBlockFragment) (v54 : (List TBlockFragment)) : Option TBlockFragment :=
  L2 (w64 (v47 + 1)) v54
def g_block_layout_j9 (K : Kn) (n : Nat) (v1 : TBoxtreeBox) (v2 : TBlockSizes) (v6 : ((List TBoxtreeBox) × Bool)) (v19 : (List TBlockFragment)) (v25 : Int) (v33 : TBlockMargin) (v34 : TBlockMargin) (v35 : Bool) (v39 : Int) (v40 : Int) (v47 : Int) (v50 : (List TBlockFragment)) (L2 : Int → (List TBlockFragment) → Option TBlockFragment) (v52 : Bool) : Option TBlockFragment :=
  if v52 = true then
    chk (inb v47 v50.length) (
    (g_block_Moved K n (List.getD v50 (v47).toNat default) v2.Content).bind fun v53 =>
    chk (inb v47 v50.length) (
    g_block_layout_j10 K n v1 v2 v6 v19 v25 v33 v34 v35 v39 v40 v47 L2 (List.set v50 (v47).toNat v53)))
  else
    g_block_layout_j10 K n v1 v2 v6 v19 v25 v33 v34 v35 v39 v40 v47 L2 v50
def g_block_layout_l11_b (K : Kn) (n : Nat) (v1 : TBoxtreeBox) (v2 : TBlockSizes) (v6 : ((List TBoxtreeBox) × Bool)) (v19 : (List TBlockFragment)) (v25 : Int) (v33 : TBlockMargin) (v34 : TBlockMargin) (v35 : Bool) (v39 : Int) (v40 : Int) (L2 : Int → (List TBlockFragment) → Option TBlockFragment) (v47 : Int) (v48 : (List TBlockFragment)) : Option TBlockFragment :=
  if (decide (v47 < (v19.length : Int))) = true then
    chk (inb v47 v48.length) (
    chk (inb v47 v48.length) (
    (some (List.set v48 (v47).toNat ({ (List.getD v48 (v47).toNat default) with X := (w64 (((List.getD v48 (v47).toNat default).X) + (w64 (v2.Border.a3 + v2.Padding.a3)))) } : TBlockFragment))).bind fun v49 =>
    chk (inb v47 v49.length) (
    chk (inb v47 v49.length) (
    (some (List.set v49 (v47).toNat ({ (List.getD v49 (v47).toNat default) with Y := (w64 (((List.getD v49 (v47).toNat default).Y) + (w64 ((w64 (v2.Border.a0 + v2.Padding.a0)) + v25)))) } : TBlockFragment))).bind fun v50 =>
    if v6.2 = true then
      chk (inb v47 v6.1.length) (
      (g_boxtree_Outer K n (List.getD v6.1 (v47).toNat default)).bind fun v51 =>
      g_block_layout_j9 K n v1 v2 v6 v19 v25 v33 v34 v35 v39 v40 v47 v50 L2 v51)
    else
      g_block_layout_j9 K n v1 v2 v6 v19 v25 v33 v34 v35 v39 v40 v47 v50 L2 false))))
  else
    some (⟨1, v1.Node, v2.Margin.a3, 0, (w64 (v2.Content + v39)), v40, 0, ⟨#[]⟩, v1.Style, v33, v34, v35, v48⟩ : TBlockFragment)
def g_block_layout_l11 (K : Kn) (n : Nat) (v1 : TBoxtreeBox) (v2 : TBlockSizes) (v6 : ((List TBoxtreeBox) × Bool)) (v19 : (List TBlockFragment)) (v25 : Int) (v33 : TBlockMargin) (v34 : TBlockMargin) (v35 : Bool) (v39 : Int) (v40 : Int) : Nat → Int → (List TBlockFragment) → Option TBlockFragment
  | 0 => fun _ _ => none
  | m + 1 => g_block_layout_l11_b K n v1 v2 v6 v19 v25 v33 v34 v35 v39 v40 (g_block_layout_l11 K n v1 v2 v6 v19 v25 v33 v34 v35 v39 v40 m)
def g_block_layout_j8 (K : Kn) (n : Nat) (v1 : TBoxtreeBox) (v2 : TBlockSizes) (v6 : ((List TBoxtreeBox) × Bool)) (v19 : (List TBlockFragment)) (v25 : Int) (v33 : TBlockMargin) (v34 : TBlockMargin) (v35 : Bool) (v38 : Int) : Option TBlockFragment :=
  (g_block_inner K n v2).bind fun v39 =>
  (some (w64 ((w64 ((w64 ((w64 (v38 + v2.Border.a0)) + v2.Padding.a0)) + v2.Border.a2)) + v2.Padding.a2))).bind fun v40 =>
  g_block_layout_l11 K n v1 v2 v6 v19 v25 v33 v34 v35 v39 v40 n 0 v19
def g_block_layout_j7 (K : Kn) (n : Nat) (v1 : TBoxtreeBox) (v2 : TBlockSizes) (v6 : ((List TBoxtreeBox) × Bool)) (v19 : (List TBlockFragment)) (v25 : Int) (v32 : Int) (v33 : TBlockMargin) (v34 : TBlockMargin) (v35 : Bool) (v36 : (Int × Bool)) (v37 : Bool) : Option TBlockFragment :=
  if v37 = true then
    g_block_layout_j8 K n v1 v2 v6 v19 v25 v33 v34 v35 (max v36.1 0)
  else
    g_block_layout_j8 K n v1 v2 v6 v19 v25 v33 v34 v35 (max v32 0)
def g_block_layout_j6 (K : Kn) (n : Nat) (v1 : TBoxtreeBox) (v2 : TBlockSizes) (v6 : ((List TBoxtreeBox) × Bool)) (v19 : (List TBlockFragment)) (v25 : Int) (v32 : Int) (v33 : TBlockMargin) (v34 : TBlockMargin) (v35 : Bool) : Option TBlockFragment :=
  (g_block_Length K n v1.Style.Height 0).bind fun v36 =>
  if v36.2 = true then
    g_block_layout_j7 K n v1 v2 v6 v19 v25 v32 v33 v34 v35 v36 (v1.Style.Height.Kind == 1)
  else
    g_block_layout_j7 K n v1 v2 v6 v19 v25 v32 v33 v34 v35 v36 false
def g_block_layout_j5 (K : Kn) (n : Nat) (v1 : TBoxtreeBox) (v2 : TBlockSizes) (v4 : Bool) (v6 : ((List TBoxtreeBox) × Bool)) (v15 : Int) (v16 : Bool) (v17 : TBlockMargin) (v18 : TBlockMargin) (v19 : (List TBlockFragment)) (v21 : TBlockMargin) (v25 : Int) (v26 : TBlockMargin) (v27 : Bool) : Option TBlockFragment :=
  if v27 = true then
    (g_block_Collapse K n v26 v21).bind fun v28 =>
    g_block_layout_j6 K n v1 v2 v6 v19 v25 0 v28 v28 true
  else
    if v16 = true then
      if v4 = true then
        (g_block_Collapse K n v21 v17).bind fun v29 =>
        g_block_layout_j6 K n v1 v2 v6 v19 v25 v25 v26 v29 false
      else
        g_block_layout_j6 K n v1 v2 v6 v19 v25 v25 v26 v21 false
    else
      if v4 = true then
        (g_block_Collapse K n v21 v18).bind fun v30 =>
        g_block_layout_j6 K n v1 v2 v6 v19 v25 (w64 (v15 + v25)) v26 v30 false
      else
        (g_api_BlockMargin_Sum K n v18).bind fun v31 =>
        g_block_layout_j6 K n v1 v2 v6 v19 v25 (w64 (v15 + (w64 (v25 + v31)))) v26 v21 false
def g_block_layout_j4 (K : Kn) (n : Nat) (v1 : TBoxtreeBox) (v2 : TBlockSizes) (v3 : Bool) (v4 : Bool) (v6 : ((List TBoxtreeBox) × Bool)) (v15 : Int) (v16 : Bool) (v17 : TBlockMargin) (v18 : TBlockMargin) (v19 : (List TBlockFragment)) (v21 : TBlockMargin) (v25 : Int) (v26 : TBlockMargin) : Option TBlockFragment :=
  if v16 = true then
    if v3 = true then
      g_block_layout_j5 K n v1 v2 v4 v6 v15 v16 v17 v18 v19 v21 v25 v26 v4
    else
      g_block_layout_j5 K n v1 v2 v4 v6 v15 v16 v17 v18 v19 v21 v25 v26 false
  else
    g_block_layout_j5 K n v1 v2 v4 v6 v15 v16 v17 v18 v19 v21 v25 v26 false
def g_block_layout_j3 (K : Kn) (n : Nat) (v1 : TBoxtreeBox) (v2 : TBlockSizes) (v3 : Bool) (v4 : Bool) (v6 : ((List TBoxtreeBox) × Bool)) (v15 : Int) (v16 : Bool) (v17 : TBlockMargin) (v18 : TBlockMargin) (v19 : (List TBlockFragment)) (v20 : TBlockMargin) (v21 : TBlockMargin) (v23 : Bool) : Option TBlockFragment :=
  if v23 = true then
    (g_api_BlockMargin_Sum K n v17).bind fun v24 =>
    g_block_layout_j4 K n v1 v2 v3 v4 v6 v15 v16 v17 v18 v19 v21 v24 v20
  else
    g_block_layout_j4 K n v1 v2 v3 v4 v6 v15 v16 v17 v18 v19 v21 0 v20
def g_block_layout_j2 (K : Kn) (n : Nat) (v1 : TBoxtreeBox) (v2 : TBlockSizes) (v3 : Bool) (v4 : Bool) (v6 : ((List TBoxtreeBox) × Bool)) (v15 : Int) (v16 : Bool) (v17 : TBlockMargin) (v18 : TBlockMargin) (v19 : (List TBlockFragment)) : Option TBlockFragment :=
  (g_block_Of K n v2.Margin.a0).bind fun v20 =>
  (g_block_Of K n v2.Margin.a2).bind fun v21 =>
  if v3 = true then
    (g_block_Collapse K n v20 v17).bind fun v22 =>
    g_block_layout_j4 K n v1 v2 v3 v4 v6 v15 v16 v17 v18 v19 v21 0 v22
  else
    if (!v16) = true then
      g_block_layout_j3 K n v1 v2 v3 v4 v6 v15 v16 v17 v18 v19 v20 v21 true
    else
      g_block_layout_j3 K n v1 v2 v3 v4 v6 v15 v16 v17 v18 v19 v20 v21 (!v4)
def g_block_layout_l1_b (K : Kn) (n : Nat) (v1 : TBoxtreeBox) (v2 : TBlockSizes) (v3 : Bool) (v4 : Bool) (v5 : TBlockEnv) (v6 : ((List TBoxtreeBox) × Bool)) (L1 : Int → (List TBlockFragment) → Option TBlockFragment) (v9 : Int) (v10 : (List TBlockFragment)) : Option TBlockFragment :=
  if (decide (v9 < (v6.1.length : Int))) = true then
    chk (inb v9 v6.1.length) (
    (K.d_TBoxtreeBox_Int__TBlockFragment v5.Layout (List.getD v6.1 (v9).toNat default) v2.Content).bind fun v11 =>
    chk (fits (v10.length + ([v11] : (List TBlockFragment)).length) 584) (
    L1 (w64 (v9 + 1)) (v10 ++ [v11])))
  else
    (g_block_Stack K n v10).bind fun v12 =>
    g_block_layout_j2 K n v1 v2 v3 v4 v6 v12.2.1 v12.2.2.2.2 v12.2.2.1 v12.2.2.2.1 v12.1
def g_block_layout_l1 (K : Kn) (n : Nat) (v1 : TBoxtreeBox) (v2 : TBlockSizes) (v3 : Bool) (v4 : Bool) (v5 : TBlockEnv) (v6 : ((List TBoxtreeBox) × Bool)) : Nat → Int → (List TBlockFragment) → Option TBlockFragment
  | 0 => fun _ _ => none
  | m + 1 => g_block_layout_l1_b K n v1 v2 v3 v4 v5 v6 (g_block_layout_l1 K n v1 v2 v3 v4 v5 v6 m)
def g_block_layout (K : Kn) (n : Nat) (v1 : TBoxtreeBox) (v2 : TBlockSizes) (v3 : Bool) (v4 : Bool) (v5 : TBlockEnv) : Option TBlockFragment :=
  (g_block_flow K n v1).bind fun v6 =>
  if v6.2 = true then
    g_block_layout_l1 K n v1 v2 v3 v4 v5 v6 n 0 []
  else
    (K.d_ListTBoxtreeBox_TCascadeStyle_Int__ListTBlockFragmentInt v5.Lines v6.1 v1.Style v2.Content).bind fun v13 =>
    (g_slices_Clone_BlockFragment_BlockFragment K n v13.1).bind fun v14 =>
    g_block_layout_j2 K n v1 v2 v3 v4 v6 v13.2 ((v14.length : Int) == 0) zTBlockMargin zTBlockMargin v14
def g_block_Layout_j2 (K : Kn) (n : Nat) (v1 : TBoxtreeBox) (v3 : TBlockEnv) (v4 : TBlockSizes) (v5 : Bool) (v6 : Bool) : Option TBlockFragment :=
  (g_block_layout K n v1 v4 v5 v6 v3).bind fun v7 =>
  some v7
def g_block_Layout_j1 (K : Kn) (n : Nat) (v1 : TBoxtreeBox) (v3 : TBlockEnv) (v4 : TBlockSizes) (v5 : Bool) : Option TBlockFragment :=
  if (v1.Style.Overflow == 0) = true then
    if (v4.Border.a2 == 0) = true then
      if (v4.Padding.a2 == 0) = true then
        g_block_Layout_j2 K n v1 v3 v4 v5 (v1.Style.Height.Kind != 1)
      else
        g_block_Layout_j2 K n v1 v3 v4 v5 false
    else
      g_block_Layout_j2 K n v1 v3 v4 v5 false
  else
    g_block_Layout_j2 K n v1 v3 v4 v5 false
def g_block_Layout (K : Kn) (n : Nat) (v1 : TBoxtreeBox) (v2 : Int) (v3 : TBlockEnv) : Option TBlockFragment :=
  (g_block_Used K n v1.Style v2).bind fun v4 =>
  if (v1.Style.Overflow == 0) = true then
    if (v4.Border.a0 == 0) = true then
      g_block_Layout_j1 K n v1 v3 v4 (v4.Padding.a0 == 0)
    else
      g_block_Layout_j1 K n v1 v3 v4 false
  else
    g_block_Layout_j1 K n v1 v3 v4 false
def g_law17_Env (K : Kn) (n : Nat) : Option TBlockEnv :=
  some (⟨58, 59, 60, 61⟩ : TBlockEnv)
def g_law17_BlockLayouts_j1 (K : Kn) (n : Nat) (v1 : (List TKnapsackref17Spec)) (v2 : Int) (v5 : Bool) : Option Bool :=
  if v5 = true then
    some true
  else
    (g_ref17_Tree K n v1 0).bind fun v6 =>
    (g_law17_Env K n ).bind fun v14 =>
    (g_block_Layout K n v6.1 v2 v14).bind fun v15 =>
    (g_ref17_Layout K n v6.1 v2).bind fun v16 =>
    (g_ref17_Same K n v15 v16).bind fun v17 =>
    some v17
def g_law17_BlockLayouts (K : Kn) (n : Nat) (v1 : (List TKnapsackref17Spec)) (v2 : Int) : Option Bool :=
  (g_law17_fit K n ).bind fun v3 =>
  if (!v3) = true then
    some false
  else
    (g_ref17_Few K n v1 20).bind fun v4 =>
    if (!v4) = true then
      g_law17_BlockLayouts_j1 K n v1 v2 true
    else
      g_law17_BlockLayouts_j1 K n v1 v2 ((v1.length : Int) == 0)
def g_block_fixed_j11 (K : Kn) (n : Nat) (v13 : TCascadeStyle) : Option TCascadeStyle :=
  some v13
def g_block_fixed_j10 (K : Kn) (n : Nat) (v12 : TCascadeStyle) : Option TCascadeStyle :=
  if (v12.Padding.a3.Kind == 2) = true then
    g_block_fixed_j11 K n ({ v12 with Padding := ⟨v12.Padding.a0, v12.Padding.a1, v12.Padding.a2, zTCascadeLength⟩ } : TCascadeStyle)
  else
    g_block_fixed_j11 K n v12
def g_block_fixed_j9 (K : Kn) (n : Nat) (v11 : TCascadeStyle) : Option TCascadeStyle :=
  if (v11.Margin.a3.Kind == 2) = true then
    g_block_fixed_j10 K n ({ v11 with Margin := ⟨v11.Margin.a0, v11.Margin.a1, v11.Margin.a2, zTCascadeLength⟩ } : TCascadeStyle)
  else
    g_block_fixed_j10 K n v11
def g_block_fixed_j8 (K : Kn) (n : Nat) (v10 : TCascadeStyle) : Option TCascadeStyle :=
  if (v10.Padding.a2.Kind == 2) = true then
    g_block_fixed_j9 K n ({ v10 with Padding := ⟨v10.Padding.a0, v10.Padding.a1, zTCascadeLength, v10.Padding.a3⟩ } : TCascadeStyle)
  else
    g_block_fixed_j9 K n v10
def g_block_fixed_j7 (K : Kn) (n : Nat) (v9 : TCascadeStyle) : Option TCascadeStyle :=
  if (v9.Margin.a2.Kind == 2) = true then
    g_block_fixed_j8 K n ({ v9 with Margin := ⟨v9.Margin.a0, v9.Margin.a1, zTCascadeLength, v9.Margin.a3⟩ } : TCascadeStyle)
  else
    g_block_fixed_j8 K n v9
def g_block_fixed_j6 (K : Kn) (n : Nat) (v8 : TCascadeStyle) : Option TCascadeStyle :=
  if (v8.Padding.a1.Kind == 2) = true then
    g_block_fixed_j7 K n ({ v8 with Padding := ⟨v8.Padding.a0, zTCascadeLength, v8.Padding.a2, v8.Padding.a3⟩ } : TCascadeStyle)
  else
    g_block_fixed_j7 K n v8
def g_block_fixed_j5 (K : Kn) (n : Nat) (v7 : TCascadeStyle) : Option TCascadeStyle :=
  if (v7.Margin.a1.Kind == 2) = true then
    g_block_fixed_j6 K n ({ v7 with Margin := ⟨v7.Margin.a0, zTCascadeLength, v7.Margin.a2, v7.Margin.a3⟩ } : TCascadeStyle)
  else
    g_block_fixed_j6 K n v7
def g_block_fixed_j4 (K : Kn) (n : Nat) (v6 : TCascadeStyle) : Option TCascadeStyle :=
  if (v6.Padding.a0.Kind == 2) = true then
    g_block_fixed_j5 K n ({ v6 with Padding := ⟨zTCascadeLength, v6.Padding.a1, v6.Padding.a2, v6.Padding.a3⟩ } : TCascadeStyle)
  else
    g_block_fixed_j5 K n v6
def g_block_fixed_j3 (K : Kn) (n : Nat) (v5 : TCascadeStyle) : Option TCascadeStyle :=
  if (v5.Margin.a0.Kind == 2) = true then
    g_block_fixed_j4 K n ({ v5 with Margin := ⟨zTCascadeLength, v5.Margin.a1, v5.Margin.a2, v5.Margin.a3⟩ } : TCascadeStyle)
  else
    g_block_fixed_j4 K n v5
def g_block_fixed_j2 (K : Kn) (n : Nat) (v4 : TCascadeStyle) : Option TCascadeStyle :=
  if (v4.MaxWidth.Kind == 2) = true then
    g_block_fixed_j3 K n ({ v4 with MaxWidth := zTCascadeLength } : TCascadeStyle)
  else
    g_block_fixed_j3 K n v4
def g_block_fixed_j1 (K : Kn) (n : Nat) (v3 : TCascadeStyle) : Option TCascadeStyle :=
  if (v3.MinWidth.Kind == 2) = true then
    g_block_fixed_j2 K n ({ v3 with MinWidth := zTCascadeLength } : TCascadeStyle)
  else
    g_block_fixed_j2 K n v3
def g_block_fixed (K : Kn) (n : Nat) (v1 : TCascadeStyle) : Option TCascadeStyle :=
  if (v1.Width.Kind == 2) = true then
    g_block_fixed_j1 K n ({ v1 with Width := zTCascadeLength } : TCascadeStyle)
  else
    g_block_fixed_j1 K n v1
def g_block_inside_l1_b (K : Kn) (n : Nat) (v2 : TBlockEnv) (v6 : ((List TBoxtreeBox) × Bool)) (L1 : Int → Int → Int → Option (Int × Int)) (v11 : Int) (v12 : Int) (v13 : Int) : Option (Int × Int) :=
  if (decide (v13 < (v6.1.length : Int))) = true then
    chk (inb v13 v6.1.length) (
    (K.d_TBoxtreeBox__IntInt v2.Widths (List.getD v6.1 (v13).toNat default)).bind fun v14 =>
    L1 (max v11 v14.1) (max v12 v14.2) (w64 (v13 + 1)))
  else
    (g_block_limit K n v11).bind fun v15 =>
    (g_block_limit K n v12).bind fun v16 =>
    some (v15, v16)
def g_block_inside_l1 (K : Kn) (n : Nat) (v2 : TBlockEnv) (v6 : ((List TBoxtreeBox) × Bool)) : Nat → Int → Int → Int → Option (Int × Int)
  | 0 => fun _ _ _ => none
  | m + 1 => g_block_inside_l1_b K n v2 v6 (g_block_inside_l1 K n v2 v6 m)
def g_block_inside (K : Kn) (n : Nat) (v1 : TBoxtreeBox) (v2 : TBlockEnv) : Option (Int × Int) :=
  (g_block_fixed K n v1.Style).bind fun v3 =>
  (g_block_Length K n v3.Width 0).bind fun v4 =>
  if v4.2 = true then
    (g_block_limit K n v4.1).bind fun v5 =>
    some (v5, v5)
  else
    (g_block_flow K n v1).bind fun v6 =>
    if (!v6.2) = true then
      (K.d_ListTBoxtreeBox_TCascadeStyle__IntInt v2.Spread v6.1 v1.Style).bind fun v7 =>
      (g_block_limit K n v7.1).bind fun v8 =>
      (g_block_limit K n v7.2).bind fun v9 =>
      some (v8, v9)
    else
      g_block_inside_l1 K n v2 v6 n 0 0 0
def g_block_Widths (K : Kn) (n : Nat) (v1 : TBoxtreeBox) (v2 : TBlockEnv) : Option (Int × Int) :=
  (g_block_inside K n v1 v2).bind fun v3 =>
  (g_block_fixed K n v1.Style).bind fun v4 =>
  (g_block_Clamp K n v4 0 v3.1).bind fun v5 =>
  (g_block_Edges K n v4 0 v5).bind fun v6 =>
  (g_api_BlockSizes_Sum K n v6).bind fun v7 =>
  (g_block_Clamp K n v4 0 v3.2).bind fun v8 =>
  (g_block_Edges K n v4 0 v8).bind fun v9 =>
  (g_api_BlockSizes_Sum K n v9).bind fun v10 =>
  some (v7, v10)
def g_ref17_Spread_l1_b (K : Kn) (n : Nat) (v1 : (List TBoxtreeBox)) (L1 : Int → Int → Int → Option (Int × Int)) (v3 : Int) (v4 : Int) (v5 : Int) : Option (Int × Int) :=
  if (decide (v5 < (v1.length : Int))) = true then
    chk (inb v5 v1.length) (
    L1 (max v3 (w64 (8 * (((List.getD v1 (v5).toNat default).Text).size : Int)))) (w64 (v4 + (w64 (8 * (((List.getD v1 (v5).toNat default).Text).size : Int))))) (w64 (v5 + 1)))
  else
    some (v3, v4)
def g_ref17_Spread_l1 (K : Kn) (n : Nat) (v1 : (List TBoxtreeBox)) : Nat → Int → Int → Int → Option (Int × Int)
  | 0 => fun _ _ _ => none
  | m + 1 => g_ref17_Spread_l1_b K n v1 (g_ref17_Spread_l1 K n v1 m)
def g_ref17_Spread (K : Kn) (n : Nat) (v1 : (List TBoxtreeBox)) (v2 : TCascadeStyle) : Option (Int × Int) :=
  g_ref17_Spread_l1 K n v1 n 0 0 0
def g_ref17_contents_l1_b (K : Kn) (n : Nat) (v2 : (List TBoxtreeBox)) (L1 : Int → Int → Int → Option (Int × Int)) (v8 : Int) (v9 : Int) (v10 : Int) : Option (Int × Int) :=
  if (decide (v10 < (v2.length : Int))) = true then
    chk (inb v10 v2.length) (
    (K.k_g_ref17_Widths (List.getD v2 (v10).toNat default)).bind fun v11 =>
    L1 (max v8 v11.1) (max v9 v11.2) (w64 (v10 + 1)))
  else
    (g_ref17_Width K n v8).bind fun v12 =>
    (g_ref17_Width K n v9).bind fun v13 =>
    some (v12, v13)
def g_ref17_contents_l1 (K : Kn) (n : Nat) (v2 : (List TBoxtreeBox)) : Nat → Int → Int → Int → Option (Int × Int)
  | 0 => fun _ _ _ => none
  | m + 1 => g_ref17_contents_l1_b K n v2 (g_ref17_contents_l1 K n v2 m)
def g_ref17_contents (K : Kn) (n : Nat) (v1 : TBoxtreeBox) : Option (Int × Int) :=
  (g_ref17_Inside K n v1).bind fun v2 =>
  (g_ref17_outer K n v1).bind fun v3 =>
  if (!v3) = true then
    (g_ref17_Spread K n v2 v1.Style).bind fun v4 =>
    (g_ref17_Width K n v4.1).bind fun v5 =>
    (g_ref17_Width K n v4.2).bind fun v6 =>
    some (v5, v6)
  else
    g_ref17_contents_l1 K n v2 n 0 0 0
def g_ref17_auto (K : Kn) (n : Nat) (v1 : TCascadeLength) : Option TCascadeLength :=
  if (v1.Kind == 2) = true then
    some zTCascadeLength
  else
    some v1
def g_ref17_plain (K : Kn) (n : Nat) (v1 : TCascadeStyle) : Option TCascadeStyle :=
  (g_ref17_auto K n v1.Margin.a0).bind fun v2 =>
  (g_ref17_auto K n v1.Padding.a0).bind fun v3 =>
  (g_ref17_auto K n v1.Margin.a1).bind fun v4 =>
  (g_ref17_auto K n v1.Padding.a1).bind fun v5 =>
  (g_ref17_auto K n v1.Margin.a2).bind fun v6 =>
  (g_ref17_auto K n v1.Padding.a2).bind fun v7 =>
  (g_ref17_auto K n v1.Margin.a3).bind fun v8 =>
  (g_ref17_auto K n v1.Padding.a3).bind fun v9 =>
  (g_ref17_auto K n v1.Width).bind fun v10 =>
  (g_ref17_auto K n v1.MinWidth).bind fun v11 =>
  (g_ref17_auto K n v1.MaxWidth).bind fun v12 =>
  some ({ v1 with Width := v10, MinWidth := v11, MaxWidth := v12, Margin := ⟨v2, v4, v6, v8⟩, Padding := ⟨v3, v5, v7, v9⟩ } : TCascadeStyle)
def g_ref17_Framed_j1 (K : Kn) (n : Nat) (v4 : TCascadeStyle) (v8 : Int) (v9 : Int) : Option (Int × Int) :=
  (g_ref17_Edges K n v4 0 0).bind fun v10 =>
  (g_ref17_Sum K n v10).bind fun v11 =>
  (g_ref17_Clamp K n v4 0 v8).bind fun v12 =>
  (g_ref17_Clamp K n v4 0 v9).bind fun v13 =>
  some ((w64 (v12 + v11)), (w64 (v13 + v11)))
def g_ref17_Framed (K : Kn) (n : Nat) (v1 : TCascadeStyle) (v2 : Int) (v3 : Int) : Option (Int × Int) :=
  (g_ref17_plain K n v1).bind fun v4 =>
  (g_ref17_Width K n v2).bind fun v5 =>
  (g_ref17_Width K n v3).bind fun v6 =>
  (g_ref17_pixels K n v4.Width).bind fun v7 =>
  if v7.2 = true then
    g_ref17_Framed_j1 K n v4 v7.1 v7.1
  else
    g_ref17_Framed_j1 K n v4 v5 v6
def g_ref17_Widths (K : Kn) (n : Nat) (v1 : TBoxtreeBox) : Option (Int × Int) :=
  (g_ref17_contents K n v1).bind fun v2 =>
  (g_ref17_Framed K n v1.Style v2.1 v2.2).bind fun v3 =>
  some (v3.1, v3.2)
def g_block_Shrink_j1 (K : Kn) (n : Nat) (v1 : TBoxtreeBox) (v2 : Int) (v9 : Int) : Option Int :=
  (g_block_Clamp K n v1.Style v2 v9).bind fun v10 =>
  some v10
def g_block_Shrink (K : Kn) (n : Nat) (v1 : TBoxtreeBox) (v2 : Int) (v3 : TBlockEnv) : Option Int :=
  (g_block_Length K n v1.Style.Width v2).bind fun v4 =>
  if (!v4.2) = true then
    (g_block_inside K n v1 v3).bind fun v5 =>
    (g_block_limit K n v2).bind fun v6 =>
    (g_block_Edges K n v1.Style v2 0).bind fun v7 =>
    (g_api_BlockSizes_Sum K n v7).bind fun v8 =>
    g_block_Shrink_j1 K n v1 v2 (min (max (w64 (v6 - v8)) v5.1) v5.2)
  else
    g_block_Shrink_j1 K n v1 v2 v4.1
def g_ref17_Shrink_j1 (K : Kn) (n : Nat) (v1 : TBoxtreeBox) (v3 : Int) (v8 : Int) : Option Int :=
  (g_ref17_Clamp K n v1.Style v3 v8).bind fun v9 =>
  some v9
def g_ref17_Shrink (K : Kn) (n : Nat) (v1 : TBoxtreeBox) (v2 : Int) : Option Int :=
  (g_ref17_Width K n v2).bind fun v3 =>
  (g_ref17_Length K n v1.Style.Width v3).bind fun v4 =>
  if (!v4.2) = true then
    (g_ref17_contents K n v1).bind fun v5 =>
    (g_ref17_Edges K n v1.Style v3 0).bind fun v6 =>
    (g_ref17_Sum K n v6).bind fun v7 =>
    g_ref17_Shrink_j1 K n v1 v3 (min (max (w64 (v3 - v7)) v5.1) v5.2)
  else
    g_ref17_Shrink_j1 K n v1 v3 v4.1
def g_law17_BlockWidths_j2 (K : Kn) (n : Nat) (v14 : Bool) : Option Bool :=
  some v14
def g_law17_BlockWidths_j1 (K : Kn) (n : Nat) (v1 : (List TKnapsackref17Spec)) (v2 : Int) (v5 : Bool) : Option Bool :=
  if v5 = true then
    some true
  else
    (g_ref17_Tree K n v1 0).bind fun v6 =>
    (g_law17_Env K n ).bind fun v8 =>
    (g_block_Widths K n v6.1 v8).bind fun v9 =>
    (g_ref17_Widths K n v6.1).bind fun v10 =>
    if (v9.1 == v10.1) = true then
      if (v9.2 == v10.2) = true then
        if (decide (v9.1 ≤ v9.2)) = true then
          (g_law17_Env K n ).bind fun v11 =>
          (g_block_Shrink K n v6.1 v2 v11).bind fun v12 =>
          (g_ref17_Shrink K n v6.1 v2).bind fun v13 =>
          g_law17_BlockWidths_j2 K n (v12 == v13)
        else
          g_law17_BlockWidths_j2 K n false
      else
        g_law17_BlockWidths_j2 K n false
    else
      g_law17_BlockWidths_j2 K n false
def g_law17_BlockWidths (K : Kn) (n : Nat) (v1 : (List TKnapsackref17Spec)) (v2 : Int) : Option Bool :=
  (g_law17_fit K n ).bind fun v3 =>
  if (!v3) = true then
    some false
  else
    (g_ref17_Few K n v1 20).bind fun v4 =>
    if (!v4) = true then
      g_law17_BlockWidths_j1 K n v1 v2 true
    else
      g_law17_BlockWidths_j1 K n v1 v2 ((v1.length : Int) == 0)
def g_law17_lay (K : Kn) (n : Nat) (v1 : TBoxtreeBox) (v2 : Int) : Option TBlockFragment :=
  (g_law17_Env K n ).bind fun v3 =>
  (g_block_Layout K n v1 v2 v3).bind fun v4 =>
  some v4
def g_law17_spread (K : Kn) (n : Nat) (v1 : TBoxtreeBox) : Option (Int × Int) :=
  (g_law17_Env K n ).bind fun v2 =>
  (g_block_Widths K n v1 v2).bind fun v3 =>
  some (v3.1, v3.2)
def KN : Nat → Kn
  | 0 => ⟨fun _ _ => none, fun _ _ => none, fun _ _ => none, fun _ => none, fun _ _ _ _ => none, fun _ _ _ => none, fun _ _ _ => none, fun _ _ => none, fun _ _ => none⟩
  | n + 1 => ⟨fun a0 a1 => g_ref17_Tree (KN n) n a0 a1,
    fun a0 a1 => g_ref17_Layout (KN n) n a0 a1,
    fun a0 a1 => g_ref17_Same (KN n) n a0 a1,
    fun a0 => g_ref17_Widths (KN n) n a0,
    fun f a0 a1 a2 => if Nat.beq f 60 = true then g_ref17_Lines (KN n) n a0 a1 a2 else none,
    fun f a0 a1 => if Nat.beq f 61 = true then g_ref17_Spread (KN n) n a0 a1 else none,
    fun f a0 a1 => if Nat.beq f 58 = true then g_law17_lay (KN n) n a0 a1 else none,
    fun f a0 => if Nat.beq f 72 = true then g_boxtree_Outer (KN n) n a0 else none,
    fun f a0 => if Nat.beq f 59 = true then g_law17_spread (KN n) n a0 else none⟩
end
end Go.Proofs.Ytkciiamllegclaa

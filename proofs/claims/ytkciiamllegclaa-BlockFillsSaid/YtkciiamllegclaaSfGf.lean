/- Layer 17's functions as plain Lean functions: K stands for calls that come back, n bounds the rounds of loops. Made by a program. -/
import Derived.Test.YtkciiamllegclaaSfGt
namespace Go.Proofs.Ytkciiamllegclaa
open Go.RowKit
set_option maxRecDepth 20000
set_option linter.all false
set_option linter.unusedVariables false
set_option linter.unusedSimpArgs false

noncomputable section
/-! (knapsack/api.BlockMargin).Sum -/
def g_api_BlockMargin_Sum (K : Kn) (n : Nat) (v1 : TBlockMargin) : Option Int :=
  some (w64 (v1.Pos + v1.Neg))
/-! knapsack/block.Of -/
def g_block_Of (K : Kn) (n : Nat) (v1 : Int) : Option TBlockMargin :=
  some (⟨(max v1 0), (min v1 0)⟩ : TBlockMargin)
/-! knapsack/block.limit -/
def g_block_limit (K : Kn) (n : Nat) (v1 : Int) : Option Int :=
  some (min (max v1 0) 1048576)
/-! knapsack/block.Length -/
def g_block_Length_j1 (K : Kn) (n : Nat) (v4 : Int) : Option (Int × Bool) :=
  some ((min (max v4 (-1048576)) 1048576), true)
def g_block_Length (K : Kn) (n : Nat) (v1 : TCascadeLength) (v2 : Int) : Option (Int × Bool) :=
  if (v1.Kind == 1) = true then
    g_block_Length_j1 K n v1.Value
  else
    if (v1.Kind == 2) = true then
      (g_block_limit K n v2).bind fun v3 =>
      g_block_Length_j1 K n (w64 (Int.tdiv (w64 (v3 * (min (max v1.Value (-1000000)) 1000000))) 10000))
    else
      some (0, false)
/-! knapsack/block.Clamp -/
def g_block_Clamp_j2 (K : Kn) (n : Nat) (v7 : Int) : Option Int :=
  some v7
def g_block_Clamp_j1 (K : Kn) (n : Nat) (v1 : TCascadeStyle) (v2 : Int) (v5 : Int) : Option Int :=
  (g_block_Length K n v1.MinWidth v2).bind fun v6 =>
  if v6.2 = true then
    g_block_Clamp_j2 K n (max v5 v6.1)
  else
    g_block_Clamp_j2 K n v5
def g_block_Clamp (K : Kn) (n : Nat) (v1 : TCascadeStyle) (v2 : Int) (v3 : Int) : Option Int :=
  (g_block_Length K n v1.MaxWidth v2).bind fun v4 =>
  if v4.2 = true then
    g_block_Clamp_j1 K n v1 v2 (min (max v3 0) (max v4.1 0))
  else
    g_block_Clamp_j1 K n v1 v2 (max v3 0)
/-! knapsack/block.Edges -/
def g_block_Edges (K : Kn) (n : Nat) (v1 : TCascadeStyle) (v2 : Int) (v3 : Int) : Option TBlockSizes :=
  (g_block_Length K n v1.Margin.a0 v2).bind fun v4 =>
  (g_block_limit K n v1.Border.a0).bind fun v5 =>
  (g_block_Length K n v1.Padding.a0 v2).bind fun v6 =>
  (g_block_Length K n v1.Margin.a1 v2).bind fun v7 =>
  (g_block_limit K n v1.Border.a1).bind fun v8 =>
  (g_block_Length K n v1.Padding.a1 v2).bind fun v9 =>
  (g_block_Length K n v1.Margin.a2 v2).bind fun v10 =>
  (g_block_limit K n v1.Border.a2).bind fun v11 =>
  (g_block_Length K n v1.Padding.a2 v2).bind fun v12 =>
  (g_block_Length K n v1.Margin.a3 v2).bind fun v13 =>
  (g_block_limit K n v1.Border.a3).bind fun v14 =>
  (g_block_Length K n v1.Padding.a3 v2).bind fun v15 =>
  some (⟨⟨v4.1, v7.1, v10.1, v13.1⟩, ⟨v5, v8, v11, v14⟩, ⟨(max v6.1 0), (max v9.1 0), (max v12.1 0), (max v15.1 0)⟩, v3⟩ : TBlockSizes)
/-! (knapsack/api.BlockSizes).Sum -/
def g_api_BlockSizes_Sum (K : Kn) (n : Nat) (v1 : TBlockSizes) : Option Int :=
  some (w64 ((w64 ((w64 ((w64 ((w64 ((w64 (v1.Content + v1.Margin.a1)) + v1.Margin.a3)) + v1.Border.a1)) + v1.Border.a3)) + v1.Padding.a1)) + v1.Padding.a3))
/-! knapsack/block.Used -/
def g_block_Used_j3 (K : Kn) (n : Nat) (v4 : TBlockSizes) (v8 : Int) (v13 : (V4 Int)) : Option TBlockSizes :=
  some ({ v4 with Margin := v13, Content := v8 } : TBlockSizes)
def g_block_Used_j2 (K : Kn) (n : Nat) (v3 : Int) (v4 : TBlockSizes) (v8 : Int) (v9 : Int) (v10 : (Int × Bool)) (v11 : (Int × Bool)) (v12 : Bool) : Option TBlockSizes :=
  if v12 = true then
    g_block_Used_j3 K n v4 v8 ⟨v4.Margin.a0, (w64 ((w64 (v3 - v9)) - (w64 (Int.tdiv (w64 (v3 - v9)) 2)))), v4.Margin.a2, (w64 (Int.tdiv (w64 (v3 - v9)) 2))⟩
  else
    if (!v10.2) = true then
      g_block_Used_j3 K n v4 v8 ⟨v4.Margin.a0, v4.Margin.a1, v4.Margin.a2, (w64 (v3 - v9))⟩
    else
      if (!v11.2) = true then
        g_block_Used_j3 K n v4 v8 ⟨v4.Margin.a0, (w64 (v3 - v9)), v4.Margin.a2, v4.Margin.a3⟩
      else
        g_block_Used_j3 K n v4 v8 v4.Margin
def g_block_Used_j1 (K : Kn) (n : Nat) (v1 : TCascadeStyle) (v3 : Int) (v4 : TBlockSizes) (v7 : Int) : Option TBlockSizes :=
  (g_block_Clamp K n v1 v3 v7).bind fun v8 =>
  (g_api_BlockSizes_Sum K n ({ v4 with Content := v8 } : TBlockSizes)).bind fun v9 =>
  if (decide ((w64 (v3 - v9)) ≤ 0)) = true then
    some ({ v4 with Content := v8 } : TBlockSizes)
  else
    (g_block_Length K n v1.Margin.a3 v3).bind fun v10 =>
    (g_block_Length K n v1.Margin.a1 v3).bind fun v11 =>
    if (!v10.2) = true then
      g_block_Used_j2 K n v3 v4 v8 v9 v10 v11 (!v11.2)
    else
      g_block_Used_j2 K n v3 v4 v8 v9 v10 v11 false
def g_block_Used (K : Kn) (n : Nat) (v1 : TCascadeStyle) (v2 : Int) : Option TBlockSizes :=
  (g_block_limit K n v2).bind fun v3 =>
  (g_block_Edges K n v1 v3 0).bind fun v4 =>
  (g_block_Length K n v1.Width v3).bind fun v5 =>
  if (!v5.2) = true then
    (g_api_BlockSizes_Sum K n v4).bind fun v6 =>
    g_block_Used_j1 K n v1 v3 v4 (w64 (v3 - v6))
  else
    g_block_Used_j1 K n v1 v3 v4 v5.1
/-! knapsack/block.Collapse -/
def g_block_Collapse (K : Kn) (n : Nat) (v1 : TBlockMargin) (v2 : TBlockMargin) : Option TBlockMargin :=
  some (⟨(max v1.Pos v2.Pos), (min v1.Neg v2.Neg)⟩ : TBlockMargin)
/-! knapsack/block.Stack -/
def g_block_Stack_j3 (K : Kn) (n : Nat) (v1 : (List TBlockFragment)) (v14 : Int) (v17 : (List TBlockFragment)) (v20 : Int) (L1 : Int → Bool → Int → TBlockMargin → TBlockMargin → (List TBlockFragment) → Option ((List TBlockFragment) × Int × TBlockMargin × TBlockMargin × Bool)) (v22 : Int) (v23 : Bool) (v24 : TBlockMargin) (v25 : TBlockMargin) : Option ((List TBlockFragment) × Int × TBlockMargin × TBlockMargin × Bool) :=
  chk (fits (v17.length + ([({ (List.getD v1 (v14).toNat default) with Y := v20 } : TBlockFragment)] : (List TBlockFragment)).length) 584) (
  L1 v22 v23 (w64 (v14 + 1)) v24 v25 (v17 ++ [({ (List.getD v1 (v14).toNat default) with Y := v20 } : TBlockFragment)]))
def g_block_Stack_j2 (K : Kn) (n : Nat) (v1 : (List TBlockFragment)) (v14 : Int) (v17 : (List TBlockFragment)) (v18 : TBlockMargin) (v20 : Int) (L1 : Int → Bool → Int → TBlockMargin → TBlockMargin → (List TBlockFragment) → Option ((List TBlockFragment) × Int × TBlockMargin × TBlockMargin × Bool)) (v21 : TBlockMargin) : Option ((List TBlockFragment) × Int × TBlockMargin × TBlockMargin × Bool) :=
  g_block_Stack_j3 K n v1 v14 v17 v20 L1 (w64 (v20 + ((List.getD v1 (v14).toNat default).H))) false v21 ((List.getD v1 (v14).toNat default).After)
def g_block_Stack_j1 (K : Kn) (n : Nat) (v1 : (List TBlockFragment)) (v12 : Int) (v13 : Bool) (v14 : Int) (v15 : TBlockMargin) (v17 : (List TBlockFragment)) (v18 : TBlockMargin) (L1 : Int → Bool → Int → TBlockMargin → TBlockMargin → (List TBlockFragment) → Option ((List TBlockFragment) × Int × TBlockMargin × TBlockMargin × Bool)) (v20 : Int) : Option ((List TBlockFragment) × Int × TBlockMargin × TBlockMargin × Bool) :=
  if (!(List.getD v1 (v14).toNat default).Empty) = true then
    if v13 = true then
      g_block_Stack_j2 K n v1 v14 v17 v18 v20 L1 v18
    else
      g_block_Stack_j2 K n v1 v14 v17 v18 v20 L1 v15
  else
    g_block_Stack_j3 K n v1 v14 v17 v20 L1 v12 v13 v15 v18
def g_block_Stack_j5 (K : Kn) (n : Nat) (v12 : Int) (v13 : Bool) (v16 : TBlockMargin) (v17 : (List TBlockFragment)) (v26 : TBlockMargin) : Option ((List TBlockFragment) × Int × TBlockMargin × TBlockMargin × Bool) :=
  some (v17, v12, v26, v16, v13)
def g_block_Stack_l4_b (K : Kn) (n : Nat) (v1 : (List TBlockFragment)) (L1 : Int → Bool → Int → TBlockMargin → TBlockMargin → (List TBlockFragment) → Option ((List TBlockFragment) × Int × TBlockMargin × TBlockMargin × Bool)) (v12 : Int) (v13 : Bool) (v14 : Int) (v15 : TBlockMargin) (v16 : TBlockMargin) (v17 : (List TBlockFragment)) : Option ((List TBlockFragment) × Int × TBlockMargin × TBlockMargin × Bool) :=
  if (decide (v14 < (v1.length : Int))) = true then
    chk (inb v14 v1.length) (
    (g_block_Collapse K n v16 ((List.getD v1 (v14).toNat default).Before)).bind fun v18 =>
    if (!v13) = true then
      (g_api_BlockMargin_Sum K n v18).bind fun v19 =>
      g_block_Stack_j1 K n v1 v12 v13 v14 v15 v17 v18 L1 (w64 (v12 + v19))
    else
      g_block_Stack_j1 K n v1 v12 v13 v14 v15 v17 v18 L1 0)
  else
    if v13 = true then
      g_block_Stack_j5 K n v12 v13 v16 v17 v16
    else
      g_block_Stack_j5 K n v12 v13 v16 v17 v15
def g_block_Stack_l4 (K : Kn) (n : Nat) (v1 : (List TBlockFragment)) : Nat → Int → Bool → Int → TBlockMargin → TBlockMargin → (List TBlockFragment) → Option ((List TBlockFragment) × Int × TBlockMargin × TBlockMargin × Bool)
  | 0 => fun _ _ _ _ _ _ => none
  | m + 1 => g_block_Stack_l4_b K n v1 (g_block_Stack_l4 K n v1 m)
def g_block_Stack (K : Kn) (n : Nat) (v1 : (List TBlockFragment)) : Option ((List TBlockFragment) × Int × TBlockMargin × TBlockMargin × Bool) :=
  g_block_Stack_l4 K n v1 n 0 true 0 zTBlockMargin zTBlockMargin []
/-! knapsack/knapsacklaw17.px -/
def g_law17_px (K : Kn) (n : Nat) (v1 : Int) : Option TCascadeLength :=
  some (⟨1, v1⟩ : TCascadeLength)
/-! knapsack/knapsacklaw17.fit -/
def g_law17_fit_j1 (K : Kn) (n : Nat) (v10 : Bool) : Option Bool :=
  some v10
def g_law17_fit (K : Kn) (n : Nat) : Option Bool :=
  (g_law17_px K n 100).bind fun v1 =>
  (g_block_Used K n ({ zTCascadeStyle with Width := v1 } : TCascadeStyle) 301).bind fun v2 =>
  (g_block_Of K n 10).bind fun v3 =>
  (g_block_Of K n 10).bind fun v4 =>
  (g_block_Of K n 10).bind fun v5 =>
  (g_block_Of K n 10).bind fun v6 =>
  (g_block_Stack K n [({ zTBlockFragment with H := 20, Before := v3, After := v4 } : TBlockFragment), ({ zTBlockFragment with H := 20, Before := v5, After := v6 } : TBlockFragment)]).bind fun v7 =>
  if (v2.Content == 100) = true then
    if (v2.Margin.a3 == 100) = true then
      if (v2.Margin.a1 == 101) = true then
        if (v7.2.1 == 50) = true then
          (g_api_BlockMargin_Sum K n v7.2.2.1).bind fun v8 =>
          if (v8 == 10) = true then
            (g_api_BlockMargin_Sum K n v7.2.2.2.1).bind fun v9 =>
            if (v9 == 10) = true then
              g_law17_fit_j1 K n (!v7.2.2.2.2)
            else
              g_law17_fit_j1 K n false
          else
            g_law17_fit_j1 K n false
        else
          g_law17_fit_j1 K n false
      else
        g_law17_fit_j1 K n false
    else
      g_law17_fit_j1 K n false
  else
    g_law17_fit_j1 K n false
/-! knapsack/knapsackref17.small -/
def g_ref17_small_j1 (K : Kn) (n : Nat) (v2 : Bool) : Option Bool :=
  some v2
def g_ref17_small (K : Kn) (n : Nat) (v1 : TCascadeLength) : Option Bool :=
  if (decide (v1.Value ≥ (-16777216))) = true then
    g_ref17_small_j1 K n (decide (v1.Value ≤ 16777216))
  else
    g_ref17_small_j1 K n false
/-! knapsack/knapsackref17.Few -/
def g_ref17_Few_j5 (K : Kn) (n : Nat) (v1 : (List TKnapsackref17Spec)) (v2 : Int) (v23 : Int) (L1 : Int → Option Bool) (v43 : Bool) : Option Bool :=
  if v43 = true then
    some false
  else
    L1 (w64 (v23 + 1))
def g_ref17_Few_j4 (K : Kn) (n : Nat) (v1 : (List TKnapsackref17Spec)) (v2 : Int) (v23 : Int) (L1 : Int → Option Bool) (v40 : Bool) : Option Bool :=
  if v40 = true then
    some false
  else
    (g_ref17_small K n ((((List.getD v1 (v23).toNat default).Style).Margin).a3)).bind fun v41 =>
    if (!v41) = true then
      g_ref17_Few_j5 K n v1 v2 v23 L1 true
    else
      (g_ref17_small K n ((((List.getD v1 (v23).toNat default).Style).Padding).a3)).bind fun v42 =>
      g_ref17_Few_j5 K n v1 v2 v23 L1 (!v42)
def g_ref17_Few_j3 (K : Kn) (n : Nat) (v1 : (List TKnapsackref17Spec)) (v2 : Int) (v23 : Int) (L1 : Int → Option Bool) (v37 : Bool) : Option Bool :=
  if v37 = true then
    some false
  else
    (g_ref17_small K n ((((List.getD v1 (v23).toNat default).Style).Margin).a2)).bind fun v38 =>
    if (!v38) = true then
      g_ref17_Few_j4 K n v1 v2 v23 L1 true
    else
      (g_ref17_small K n ((((List.getD v1 (v23).toNat default).Style).Padding).a2)).bind fun v39 =>
      g_ref17_Few_j4 K n v1 v2 v23 L1 (!v39)
def g_ref17_Few_j2 (K : Kn) (n : Nat) (v1 : (List TKnapsackref17Spec)) (v2 : Int) (v23 : Int) (L1 : Int → Option Bool) (v34 : Bool) : Option Bool :=
  if v34 = true then
    some false
  else
    (g_ref17_small K n ((((List.getD v1 (v23).toNat default).Style).Margin).a1)).bind fun v35 =>
    if (!v35) = true then
      g_ref17_Few_j3 K n v1 v2 v23 L1 true
    else
      (g_ref17_small K n ((((List.getD v1 (v23).toNat default).Style).Padding).a1)).bind fun v36 =>
      g_ref17_Few_j3 K n v1 v2 v23 L1 (!v36)
def g_ref17_Few_j1 (K : Kn) (n : Nat) (v1 : (List TKnapsackref17Spec)) (v2 : Int) (v23 : Int) (L1 : Int → Option Bool) (v31 : Bool) : Option Bool :=
  if v31 = true then
    some false
  else
    (g_ref17_small K n ((((List.getD v1 (v23).toNat default).Style).Margin).a0)).bind fun v32 =>
    if (!v32) = true then
      g_ref17_Few_j2 K n v1 v2 v23 L1 true
    else
      (g_ref17_small K n ((((List.getD v1 (v23).toNat default).Style).Padding).a0)).bind fun v33 =>
      g_ref17_Few_j2 K n v1 v2 v23 L1 (!v33)
def g_ref17_Few_l6_b (K : Kn) (n : Nat) (v1 : (List TKnapsackref17Spec)) (v2 : Int) (L1 : Int → Option Bool) (v23 : Int) : Option Bool :=
  if (decide (v23 < (v1.length : Int))) = true then
    chk (inb v23 v1.length) (
    chk (inb v23 v1.length) (
    if (decide ((((List.getD v1 (v23).toNat default).Text).size : Int) > 60)) = true then
      g_ref17_Few_j1 K n v1 v2 v23 L1 true
    else
      (g_ref17_small K n (((List.getD v1 (v23).toNat default).Style).Left)).bind fun v24 =>
      if (!v24) = true then
        g_ref17_Few_j1 K n v1 v2 v23 L1 true
      else
        (g_ref17_small K n (((List.getD v1 (v23).toNat default).Style).Top)).bind fun v25 =>
        if (!v25) = true then
          g_ref17_Few_j1 K n v1 v2 v23 L1 true
        else
          (g_ref17_small K n (((List.getD v1 (v23).toNat default).Style).Width)).bind fun v26 =>
          if (!v26) = true then
            g_ref17_Few_j1 K n v1 v2 v23 L1 true
          else
            (g_ref17_small K n (((List.getD v1 (v23).toNat default).Style).Height)).bind fun v27 =>
            if (!v27) = true then
              g_ref17_Few_j1 K n v1 v2 v23 L1 true
            else
              (g_ref17_small K n (((List.getD v1 (v23).toNat default).Style).MinWidth)).bind fun v28 =>
              if (!v28) = true then
                g_ref17_Few_j1 K n v1 v2 v23 L1 true
              else
                (g_ref17_small K n (((List.getD v1 (v23).toNat default).Style).MaxWidth)).bind fun v29 =>
                if (!v29) = true then
                  g_ref17_Few_j1 K n v1 v2 v23 L1 true
                else
                  (g_ref17_small K n (((List.getD v1 (v23).toNat default).Style).Basis)).bind fun v30 =>
                  if (!v30) = true then
                    g_ref17_Few_j1 K n v1 v2 v23 L1 true
                  else
                    if (decide ((((List.getD v1 (v23).toNat default).Style).LineHeight) < 0)) = true then
                      g_ref17_Few_j1 K n v1 v2 v23 L1 true
                    else
                      if (decide ((((List.getD v1 (v23).toNat default).Style).LineHeight) > 65536)) = true then
                        g_ref17_Few_j1 K n v1 v2 v23 L1 true
                      else
                        if (decide ((((List.getD v1 (v23).toNat default).Style).FontSize) < 0)) = true then
                          g_ref17_Few_j1 K n v1 v2 v23 L1 true
                        else
                          if (decide ((((List.getD v1 (v23).toNat default).Style).FontSize) > 65536)) = true then
                            g_ref17_Few_j1 K n v1 v2 v23 L1 true
                          else
                            if (decide ((((List.getD v1 (v23).toNat default).Style).Grow) < 0)) = true then
                              g_ref17_Few_j1 K n v1 v2 v23 L1 true
                            else
                              if (decide ((((List.getD v1 (v23).toNat default).Style).Grow) > 1048576)) = true then
                                g_ref17_Few_j1 K n v1 v2 v23 L1 true
                              else
                                if (decide ((((List.getD v1 (v23).toNat default).Style).Shrink) < 0)) = true then
                                  g_ref17_Few_j1 K n v1 v2 v23 L1 true
                                else
                                  g_ref17_Few_j1 K n v1 v2 v23 L1 (decide ((((List.getD v1 (v23).toNat default).Style).Shrink) > 1048576))))
  else
    some (decide ((v1.length : Int) ≤ v2))
def g_ref17_Few_l6 (K : Kn) (n : Nat) (v1 : (List TKnapsackref17Spec)) (v2 : Int) : Nat → Int → Option Bool
  | 0 => fun _ => none
  | m + 1 => g_ref17_Few_l6_b K n v1 v2 (g_ref17_Few_l6 K n v1 v2 m)
def g_ref17_Few (K : Kn) (n : Nat) (v1 : (List TKnapsackref17Spec)) (v2 : Int) : Option Bool :=
  g_ref17_Few_l6 K n v1 v2 n 0
/-! knapsack/knapsackref17.Width -/
def g_ref17_Width (K : Kn) (n : Nat) (v1 : Int) : Option Int :=
  some (min (max v1 0) 1048576)
/-! knapsack/knapsackref17.limit -/
def g_ref17_limit (K : Kn) (n : Nat) (v1 : Int) : Option Int :=
  some (min (max v1 (-1048576)) 1048576)
/-! knapsack/knapsackref17.Length -/
def g_ref17_Length (K : Kn) (n : Nat) (v1 : TCascadeLength) (v2 : Int) : Option (Int × Bool) :=
  if (v1.Kind == 1) = true then
    (g_ref17_limit K n v1.Value).bind fun v3 =>
    some (v3, true)
  else
    if (v1.Kind == 2) = true then
      (g_ref17_Width K n v2).bind fun v4 =>
      (g_ref17_limit K n (w64 (Int.tdiv (w64 (v4 * (min (max v1.Value (-1000000)) 1000000))) 10000))).bind fun v5 =>
      some (v5, true)
    else
      some (0, false)
/-! knapsack/knapsackref17.Clamp -/
def g_ref17_Clamp_j2 (K : Kn) (n : Nat) (v7 : Int) : Option Int :=
  some v7
def g_ref17_Clamp_j1 (K : Kn) (n : Nat) (v1 : TCascadeStyle) (v2 : Int) (v5 : Int) : Option Int :=
  (g_ref17_Length K n v1.MinWidth v2).bind fun v6 =>
  if v6.2 = true then
    g_ref17_Clamp_j2 K n (max v5 v6.1)
  else
    g_ref17_Clamp_j2 K n v5
def g_ref17_Clamp (K : Kn) (n : Nat) (v1 : TCascadeStyle) (v2 : Int) (v3 : Int) : Option Int :=
  (g_ref17_Length K n v1.MaxWidth v2).bind fun v4 =>
  if v4.2 = true then
    g_ref17_Clamp_j1 K n v1 v2 (min (max v3 0) (max v4.1 0))
  else
    g_ref17_Clamp_j1 K n v1 v2 (max v3 0)
/-! knapsack/knapsackref17.Edges -/
def g_ref17_Edges (K : Kn) (n : Nat) (v1 : TCascadeStyle) (v2 : Int) (v3 : Int) : Option TBlockSizes :=
  (g_ref17_Length K n v1.Margin.a0 v2).bind fun v4 =>
  (g_ref17_Length K n v1.Padding.a0 v2).bind fun v5 =>
  (g_ref17_Width K n v1.Border.a0).bind fun v6 =>
  (g_ref17_Length K n v1.Margin.a1 v2).bind fun v7 =>
  (g_ref17_Length K n v1.Padding.a1 v2).bind fun v8 =>
  (g_ref17_Width K n v1.Border.a1).bind fun v9 =>
  (g_ref17_Length K n v1.Margin.a2 v2).bind fun v10 =>
  (g_ref17_Length K n v1.Padding.a2 v2).bind fun v11 =>
  (g_ref17_Width K n v1.Border.a2).bind fun v12 =>
  (g_ref17_Length K n v1.Margin.a3 v2).bind fun v13 =>
  (g_ref17_Length K n v1.Padding.a3 v2).bind fun v14 =>
  (g_ref17_Width K n v1.Border.a3).bind fun v15 =>
  some (⟨⟨v4.1, v7.1, v10.1, v13.1⟩, ⟨v6, v9, v12, v15⟩, ⟨(max v5.1 0), (max v8.1 0), (max v11.1 0), (max v14.1 0)⟩, v3⟩ : TBlockSizes)
/-! knapsack/knapsackref17.Sum -/
def g_ref17_Sum (K : Kn) (n : Nat) (v1 : TBlockSizes) : Option Int :=
  some (w64 ((w64 ((w64 ((w64 ((w64 ((w64 (v1.Content + v1.Margin.a1)) + v1.Margin.a3)) + v1.Border.a1)) + v1.Border.a3)) + v1.Padding.a1)) + v1.Padding.a3))
/-! knapsack/knapsackref17.Used -/
def g_ref17_Used_j3 (K : Kn) (n : Nat) (v4 : TBlockSizes) (v8 : Int) (v13 : (V4 Int)) : Option TBlockSizes :=
  some ({ v4 with Margin := v13, Content := v8 } : TBlockSizes)
def g_ref17_Used_j2 (K : Kn) (n : Nat) (v3 : Int) (v4 : TBlockSizes) (v8 : Int) (v9 : Int) (v10 : (Int × Bool)) (v11 : (Int × Bool)) (v12 : Bool) : Option TBlockSizes :=
  if v12 = true then
    g_ref17_Used_j3 K n v4 v8 ⟨v4.Margin.a0, (w64 ((w64 (v3 - v9)) - (w64 (Int.tdiv (w64 (v3 - v9)) 2)))), v4.Margin.a2, (w64 (Int.tdiv (w64 (v3 - v9)) 2))⟩
  else
    if (!v10.2) = true then
      g_ref17_Used_j3 K n v4 v8 ⟨v4.Margin.a0, v4.Margin.a1, v4.Margin.a2, (w64 (v3 - v9))⟩
    else
      if (!v11.2) = true then
        g_ref17_Used_j3 K n v4 v8 ⟨v4.Margin.a0, (w64 (v3 - v9)), v4.Margin.a2, v4.Margin.a3⟩
      else
        g_ref17_Used_j3 K n v4 v8 v4.Margin
def g_ref17_Used_j1 (K : Kn) (n : Nat) (v1 : TCascadeStyle) (v3 : Int) (v4 : TBlockSizes) (v7 : Int) : Option TBlockSizes :=
  (g_ref17_Clamp K n v1 v3 v7).bind fun v8 =>
  (g_ref17_Sum K n ({ v4 with Content := v8 } : TBlockSizes)).bind fun v9 =>
  (g_ref17_Length K n v1.Margin.a3 v3).bind fun v10 =>
  (g_ref17_Length K n v1.Margin.a1 v3).bind fun v11 =>
  if (decide ((w64 (v3 - v9)) ≤ 0)) = true then
    some ({ v4 with Content := v8 } : TBlockSizes)
  else
    if (!v10.2) = true then
      g_ref17_Used_j2 K n v3 v4 v8 v9 v10 v11 (!v11.2)
    else
      g_ref17_Used_j2 K n v3 v4 v8 v9 v10 v11 false
def g_ref17_Used (K : Kn) (n : Nat) (v1 : TCascadeStyle) (v2 : Int) : Option TBlockSizes :=
  (g_ref17_Width K n v2).bind fun v3 =>
  (g_ref17_Edges K n v1 v3 0).bind fun v4 =>
  (g_ref17_Length K n v1.Width v3).bind fun v5 =>
  if (!v5.2) = true then
    (g_ref17_Sum K n v4).bind fun v6 =>
    g_ref17_Used_j1 K n v1 v3 v4 (w64 (v3 - v6))
  else
    g_ref17_Used_j1 K n v1 v3 v4 v5.1
/-! knapsack/knapsacklaw17.BlockSizes -/
def g_law17_BlockSizes_j3 (K : Kn) (n : Nat) (v18 : Bool) : Option Bool :=
  some v18
def g_law17_BlockSizes_j2 (K : Kn) (n : Nat) (v1 : TKnapsackref17Spec) (v2 : Int) (v3 : Int) (v11 : Bool) : Option Bool :=
  if v11 = true then
    some false
  else
    (g_block_Edges K n v1.Style v2 v3).bind fun v12 =>
    (g_ref17_Edges K n v1.Style v2 v3).bind fun v13 =>
    if (qTBlockSizes v12 v13) = true then
      (g_api_BlockSizes_Sum K n v12).bind fun v14 =>
      (g_ref17_Sum K n v12).bind fun v15 =>
      if (v14 == v15) = true then
        (g_block_Used K n v1.Style v2).bind fun v16 =>
        (g_ref17_Used K n v1.Style v2).bind fun v17 =>
        g_law17_BlockSizes_j3 K n (qTBlockSizes v16 v17)
      else
        g_law17_BlockSizes_j3 K n false
    else
      g_law17_BlockSizes_j3 K n false
def g_law17_BlockSizes_j1 (K : Kn) (n : Nat) (v1 : TKnapsackref17Spec) (v2 : Int) (v3 : Int) (v6 : Bool) : Option Bool :=
  if v6 = true then
    some true
  else
    (g_block_Length K n v1.Style.Width v2).bind fun v7 =>
    (g_ref17_Length K n v1.Style.Width v2).bind fun v8 =>
    if (v7.1 != v8.1) = true then
      g_law17_BlockSizes_j2 K n v1 v2 v3 true
    else
      if (!(v7.2 == v8.2)) = true then
        g_law17_BlockSizes_j2 K n v1 v2 v3 true
      else
        (g_block_Clamp K n v1.Style v2 v3).bind fun v9 =>
        (g_ref17_Clamp K n v1.Style v2 v3).bind fun v10 =>
        g_law17_BlockSizes_j2 K n v1 v2 v3 (v9 != v10)
def g_law17_BlockSizes (K : Kn) (n : Nat) (v1 : TKnapsackref17Spec) (v2 : Int) (v3 : Int) : Option Bool :=
  (g_law17_fit K n ).bind fun v4 =>
  if (!v4) = true then
    some false
  else
    (g_ref17_Few K n [v1] 1).bind fun v5 =>
    if (!v5) = true then
      g_law17_BlockSizes_j1 K n v1 v2 v3 true
    else
      if (decide (v3 > 1099511627776)) = true then
        g_law17_BlockSizes_j1 K n v1 v2 v3 true
      else
        g_law17_BlockSizes_j1 K n v1 v2 v3 (decide (v3 < (-1099511627776)))
/-! knapsack/knapsacklaw17.BlockFills -/
def g_law17_BlockFills_j3 (K : Kn) (n : Nat) (v15 : Bool) : Option Bool :=
  some v15
def g_law17_BlockFills_j2 (K : Kn) (n : Nat) (v1 : TKnapsackref17Spec) (v5 : Int) (v6 : TBlockSizes) (v11 : Bool) : Option Bool :=
  if v11 = true then
    some true
  else
    (g_api_BlockSizes_Sum K n v6).bind fun v12 =>
    if (decide (v12 ≥ v5)) = true then
      (g_ref17_Edges K n v1.Style v5 0).bind fun v13 =>
      (g_ref17_Edges K n v1.Style v5 0).bind fun v14 =>
      g_law17_BlockFills_j3 K n (decide ((w64 (v6.Margin.a1 + v6.Margin.a3)) ≥ (w64 (v13.Margin.a1 + v14.Margin.a3))))
    else
      g_law17_BlockFills_j3 K n false
def g_law17_BlockFills_j1 (K : Kn) (n : Nat) (v1 : TKnapsackref17Spec) (v5 : Int) (v6 : TBlockSizes) (v10 : Bool) : Option Bool :=
  if v10 = true then
    some false
  else
    if (decide (v6.Content < 0)) = true then
      some false
    else
      if (v1.Style.Margin.a1.Kind != 0) = true then
        g_law17_BlockFills_j2 K n v1 v5 v6 (v1.Style.Margin.a3.Kind != 0)
      else
        g_law17_BlockFills_j2 K n v1 v5 v6 false
def g_law17_BlockFills (K : Kn) (n : Nat) (v1 : TKnapsackref17Spec) (v2 : Int) : Option Bool :=
  (g_law17_fit K n ).bind fun v3 =>
  if (!v3) = true then
    some false
  else
    (g_ref17_Few K n [v1] 1).bind fun v4 =>
    if (!v4) = true then
      some true
    else
      (g_ref17_Width K n v2).bind fun v5 =>
      (g_block_Used K n v1.Style v5).bind fun v6 =>
      (g_ref17_Edges K n v1.Style v5 0).bind fun v7 =>
      (g_ref17_Sum K n v7).bind fun v8 =>
      if (v1.Style.Width.Kind == 0) = true then
        if (v1.Style.MinWidth.Kind == 0) = true then
          if (v1.Style.MaxWidth.Kind == 0) = true then
            if (decide (v8 ≤ v5)) = true then
              (g_api_BlockSizes_Sum K n v6).bind fun v9 =>
              g_law17_BlockFills_j1 K n v1 v5 v6 (v9 != v5)
            else
              g_law17_BlockFills_j1 K n v1 v5 v6 false
          else
            g_law17_BlockFills_j1 K n v1 v5 v6 false
        else
          g_law17_BlockFills_j1 K n v1 v5 v6 false
      else
        g_law17_BlockFills_j1 K n v1 v5 v6 false
def KN : Nat → Kn
  | 0 => ⟨()⟩
  | n + 1 => ⟨()⟩
end
end Go.Proofs.Ytkciiamllegclaa

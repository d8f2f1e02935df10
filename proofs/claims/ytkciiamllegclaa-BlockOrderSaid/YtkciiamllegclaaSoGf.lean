/- Layer 17's functions as plain Lean functions: K stands for calls that come back, n bounds the rounds of loops. Made by a program. -/
import Derived.Test.YtkciiamllegclaaSoGt
namespace Go.Proofs.Ytkciiamllegclaa
open Go.RowKit
set_option maxRecDepth 20000
set_option linter.all false
set_option linter.unusedVariables false
set_option linter.unusedSimpArgs false

noncomputable section
/-! (knapsack/api.BlockMargin).Sum -/
def g_api_BlockMargin_Sum (K : Kn) (n : Nat) (v1 : TBlockMargin) : Option Int :=
  some (w64 (v1.Pos + v1.Neg))
/-! knapsack/block.Of -/
def g_block_Of (K : Kn) (n : Nat) (v1 : Int) : Option TBlockMargin :=
  some (⟨(max v1 0), (min v1 0)⟩ : TBlockMargin)
/-! knapsack/block.limit -/
def g_block_limit (K : Kn) (n : Nat) (v1 : Int) : Option Int :=
  some (min (max v1 0) 1048576)
/-! knapsack/block.Length -/
def g_block_Length_j1 (K : Kn) (n : Nat) (v4 : Int) : Option (Int × Bool) :=
  some ((min (max v4 (-1048576)) 1048576), true)
def g_block_Length (K : Kn) (n : Nat) (v1 : TCascadeLength) (v2 : Int) : Option (Int × Bool) :=
  if (v1.Kind == 1) = true then
    g_block_Length_j1 K n v1.Value
  else
    if (v1.Kind == 2) = true then
      (g_block_limit K n v2).bind fun v3 =>
      g_block_Length_j1 K n (w64 (Int.tdiv (w64 (v3 * (min (max v1.Value (-1000000)) 1000000))) 10000))
    else
      some (0, false)
/-! knapsack/block.Clamp -/
def g_block_Clamp_j2 (K : Kn) (n : Nat) (v7 : Int) : Option Int :=
  some v7
def g_block_Clamp_j1 (K : Kn) (n : Nat) (v1 : TCascadeStyle) (v2 : Int) (v5 : Int) : Option Int :=
  (g_block_Length K n v1.MinWidth v2).bind fun v6 =>
  if v6.2 = true then
    g_block_Clamp_j2 K n (max v5 v6.1)
  else
    g_block_Clamp_j2 K n v5
def g_block_Clamp (K : Kn) (n : Nat) (v1 : TCascadeStyle) (v2 : Int) (v3 : Int) : Option Int :=
  (g_block_Length K n v1.MaxWidth v2).bind fun v4 =>
  if v4.2 = true then
    g_block_Clamp_j1 K n v1 v2 (min (max v3 0) (max v4.1 0))
  else
    g_block_Clamp_j1 K n v1 v2 (max v3 0)
/-! knapsack/block.Edges -/
def g_block_Edges (K : Kn) (n : Nat) (v1 : TCascadeStyle) (v2 : Int) (v3 : Int) : Option TBlockSizes :=
  (g_block_Length K n v1.Margin.a0 v2).bind fun v4 =>
  (g_block_limit K n v1.Border.a0).bind fun v5 =>
  (g_block_Length K n v1.Padding.a0 v2).bind fun v6 =>
  (g_block_Length K n v1.Margin.a1 v2).bind fun v7 =>
  (g_block_limit K n v1.Border.a1).bind fun v8 =>
  (g_block_Length K n v1.Padding.a1 v2).bind fun v9 =>
  (g_block_Length K n v1.Margin.a2 v2).bind fun v10 =>
  (g_block_limit K n v1.Border.a2).bind fun v11 =>
  (g_block_Length K n v1.Padding.a2 v2).bind fun v12 =>
  (g_block_Length K n v1.Margin.a3 v2).bind fun v13 =>
  (g_block_limit K n v1.Border.a3).bind fun v14 =>
  (g_block_Length K n v1.Padding.a3 v2).bind fun v15 =>
  some (⟨⟨v4.1, v7.1, v10.1, v13.1⟩, ⟨v5, v8, v11, v14⟩, ⟨(max v6.1 0), (max v9.1 0), (max v12.1 0), (max v15.1 0)⟩, v3⟩ : TBlockSizes)
/-! (knapsack/api.BlockSizes).Sum -/
def g_api_BlockSizes_Sum (K : Kn) (n : Nat) (v1 : TBlockSizes) : Option Int :=
  some (w64 ((w64 ((w64 ((w64 ((w64 ((w64 (v1.Content + v1.Margin.a1)) + v1.Margin.a3)) + v1.Border.a1)) + v1.Border.a3)) + v1.Padding.a1)) + v1.Padding.a3))
/-! knapsack/block.Used -/
def g_block_Used_j3 (K : Kn) (n : Nat) (v4 : TBlockSizes) (v8 : Int) (v13 : (V4 Int)) : Option TBlockSizes :=
  some ({ v4 with Margin := v13, Content := v8 } : TBlockSizes)
def g_block_Used_j2 (K : Kn) (n : Nat) (v3 : Int) (v4 : TBlockSizes) (v8 : Int) (v9 : Int) (v10 : (Int × Bool)) (v11 : (Int × Bool)) (v12 : Bool) : Option TBlockSizes :=
  if v12 = true then
    g_block_Used_j3 K n v4 v8 ⟨v4.Margin.a0, (w64 ((w64 (v3 - v9)) - (w64 (Int.tdiv (w64 (v3 - v9)) 2)))), v4.Margin.a2, (w64 (Int.tdiv (w64 (v3 - v9)) 2))⟩
  else
    if (!v10.2) = true then
      g_block_Used_j3 K n v4 v8 ⟨v4.Margin.a0, v4.Margin.a1, v4.Margin.a2, (w64 (v3 - v9))⟩
    else
      if (!v11.2) = true then
        g_block_Used_j3 K n v4 v8 ⟨v4.Margin.a0, (w64 (v3 - v9)), v4.Margin.a2, v4.Margin.a3⟩
      else
        g_block_Used_j3 K n v4 v8 v4.Margin
def g_block_Used_j1 (K : Kn) (n : Nat) (v1 : TCascadeStyle) (v3 : Int) (v4 : TBlockSizes) (v7 : Int) : Option TBlockSizes :=
  (g_block_Clamp K n v1 v3 v7).bind fun v8 =>
  (g_api_BlockSizes_Sum K n ({ v4 with Content := v8 } : TBlockSizes)).bind fun v9 =>
  if (decide ((w64 (v3 - v9)) ≤ 0)) = true then
    some ({ v4 with Content := v8 } : TBlockSizes)
  else
    (g_block_Length K n v1.Margin.a3 v3).bind fun v10 =>
    (g_block_Length K n v1.Margin.a1 v3).bind fun v11 =>
    if (!v10.2) = true then
      g_block_Used_j2 K n v3 v4 v8 v9 v10 v11 (!v11.2)
    else
      g_block_Used_j2 K n v3 v4 v8 v9 v10 v11 false
def g_block_Used (K : Kn) (n : Nat) (v1 : TCascadeStyle) (v2 : Int) : Option TBlockSizes :=
  (g_block_limit K n v2).bind fun v3 =>
  (g_block_Edges K n v1 v3 0).bind fun v4 =>
  (g_block_Length K n v1.Width v3).bind fun v5 =>
  if (!v5.2) = true then
    (g_api_BlockSizes_Sum K n v4).bind fun v6 =>
    g_block_Used_j1 K n v1 v3 v4 (w64 (v3 - v6))
  else
    g_block_Used_j1 K n v1 v3 v4 v5.1
/-! knapsack/block.Collapse -/
def g_block_Collapse (K : Kn) (n : Nat) (v1 : TBlockMargin) (v2 : TBlockMargin) : Option TBlockMargin :=
  some (⟨(max v1.Pos v2.Pos), (min v1.Neg v2.Neg)⟩ : TBlockMargin)
/-! knapsack/block.Stack -/
def g_block_Stack_j3 (K : Kn) (n : Nat) (v1 : (List TBlockFragment)) (v14 : Int) (v17 : (List TBlockFragment)) (v20 : Int) (L1 : Int → Bool → Int → TBlockMargin → TBlockMargin → (List TBlockFragment) → Option ((List TBlockFragment) × Int × TBlockMargin × TBlockMargin × Bool)) (v22 : Int) (v23 : Bool) (v24 : TBlockMargin) (v25 : TBlockMargin) : Option ((List TBlockFragment) × Int × TBlockMargin × TBlockMargin × Bool) :=
  chk (fits (v17.length + ([({ (List.getD v1 (v14).toNat default) with Y := v20 } : TBlockFragment)] : (List TBlockFragment)).length) 584) (
  L1 v22 v23 (w64 (v14 + 1)) v24 v25 (v17 ++ [({ (List.getD v1 (v14).toNat default) with Y := v20 } : TBlockFragment)]))
def g_block_Stack_j2 (K : Kn) (n : Nat) (v1 : (List TBlockFragment)) (v14 : Int) (v17 : (List TBlockFragment)) (v18 : TBlockMargin) (v20 : Int) (L1 : Int → Bool → Int → TBlockMargin → TBlockMargin → (List TBlockFragment) → Option ((List TBlockFragment) × Int × TBlockMargin × TBlockMargin × Bool)) (v21 : TBlockMargin) : Option ((List TBlockFragment) × Int × TBlockMargin × TBlockMargin × Bool) :=
  g_block_Stack_j3 K n v1 v14 v17 v20 L1 (w64 (v20 + ((List.getD v1 (v14).toNat default).H))) false v21 ((List.getD v1 (v14).toNat default).After)
def g_block_Stack_j1 (K : Kn) (n : Nat) (v1 : (List TBlockFragment)) (v12 : Int) (v13 : Bool) (v14 : Int) (v15 : TBlockMargin) (v17 : (List TBlockFragment)) (v18 : TBlockMargin) (L1 : Int → Bool → Int → TBlockMargin → TBlockMargin → (List TBlockFragment) → Option ((List TBlockFragment) × Int × TBlockMargin × TBlockMargin × Bool)) (v20 : Int) : Option ((List TBlockFragment) × Int × TBlockMargin × TBlockMargin × Bool) :=
  if (!(List.getD v1 (v14).toNat default).Empty) = true then
    if v13 = true then
      g_block_Stack_j2 K n v1 v14 v17 v18 v20 L1 v18
    else
      g_block_Stack_j2 K n v1 v14 v17 v18 v20 L1 v15
  else
    g_block_Stack_j3 K n v1 v14 v17 v20 L1 v12 v13 v15 v18
def g_block_Stack_j5 (K : Kn) (n : Nat) (v12 : Int) (v13 : Bool) (v16 : TBlockMargin) (v17 : (List TBlockFragment)) (v26 : TBlockMargin) : Option ((List TBlockFragment) × Int × TBlockMargin × TBlockMargin × Bool) :=
  some (v17, v12, v26, v16, v13)
def g_block_Stack_l4_b (K : Kn) (n : Nat) (v1 : (List TBlockFragment)) (L1 : Int → Bool → Int → TBlockMargin → TBlockMargin → (List TBlockFragment) → Option ((List TBlockFragment) × Int × TBlockMargin × TBlockMargin × Bool)) (v12 : Int) (v13 : Bool) (v14 : Int) (v15 : TBlockMargin) (v16 : TBlockMargin) (v17 : (List TBlockFragment)) : Option ((List TBlockFragment) × Int × TBlockMargin × TBlockMargin × Bool) :=
  if (decide (v14 < (v1.length : Int))) = true then
    chk (inb v14 v1.length) (
    (g_block_Collapse K n v16 ((List.getD v1 (v14).toNat default).Before)).bind fun v18 =>
    if (!v13) = true then
      (g_api_BlockMargin_Sum K n v18).bind fun v19 =>
      g_block_Stack_j1 K n v1 v12 v13 v14 v15 v17 v18 L1 (w64 (v12 + v19))
    else
      g_block_Stack_j1 K n v1 v12 v13 v14 v15 v17 v18 L1 0)
  else
    if v13 = true then
      g_block_Stack_j5 K n v12 v13 v16 v17 v16
    else
      g_block_Stack_j5 K n v12 v13 v16 v17 v15
def g_block_Stack_l4 (K : Kn) (n : Nat) (v1 : (List TBlockFragment)) : Nat → Int → Bool → Int → TBlockMargin → TBlockMargin → (List TBlockFragment) → Option ((List TBlockFragment) × Int × TBlockMargin × TBlockMargin × Bool)
  | 0 => fun _ _ _ _ _ _ => none
  | m + 1 => g_block_Stack_l4_b K n v1 (g_block_Stack_l4 K n v1 m)
def g_block_Stack (K : Kn) (n : Nat) (v1 : (List TBlockFragment)) : Option ((List TBlockFragment) × Int × TBlockMargin × TBlockMargin × Bool) :=
  g_block_Stack_l4 K n v1 n 0 true 0 zTBlockMargin zTBlockMargin []
/-! knapsack/knapsacklaw17.px -/
def g_law17_px (K : Kn) (n : Nat) (v1 : Int) : Option TCascadeLength :=
  some (⟨1, v1⟩ : TCascadeLength)
/-! knapsack/knapsacklaw17.fit -/
def g_law17_fit_j1 (K : Kn) (n : Nat) (v10 : Bool) : Option Bool :=
  some v10
def g_law17_fit (K : Kn) (n : Nat) : Option Bool :=
  (g_law17_px K n 100).bind fun v1 =>
  (g_block_Used K n ({ zTCascadeStyle with Width := v1 } : TCascadeStyle) 301).bind fun v2 =>
  (g_block_Of K n 10).bind fun v3 =>
  (g_block_Of K n 10).bind fun v4 =>
  (g_block_Of K n 10).bind fun v5 =>
  (g_block_Of K n 10).bind fun v6 =>
  (g_block_Stack K n [({ zTBlockFragment with H := 20, Before := v3, After := v4 } : TBlockFragment), ({ zTBlockFragment with H := 20, Before := v5, After := v6 } : TBlockFragment)]).bind fun v7 =>
  if (v2.Content == 100) = true then
    if (v2.Margin.a3 == 100) = true then
      if (v2.Margin.a1 == 101) = true then
        if (v7.2.1 == 50) = true then
          (g_api_BlockMargin_Sum K n v7.2.2.1).bind fun v8 =>
          if (v8 == 10) = true then
            (g_api_BlockMargin_Sum K n v7.2.2.2.1).bind fun v9 =>
            if (v9 == 10) = true then
              g_law17_fit_j1 K n (!v7.2.2.2.2)
            else
              g_law17_fit_j1 K n false
          else
            g_law17_fit_j1 K n false
        else
          g_law17_fit_j1 K n false
      else
        g_law17_fit_j1 K n false
    else
      g_law17_fit_j1 K n false
  else
    g_law17_fit_j1 K n false
/-! knapsack/knapsacklaw17.calm -/
def g_law17_calm_j1 (K : Kn) (n : Nat) (v1 : (List TBlockFragment)) (v5 : Int) (v7 : Int) (L1 : Int → Option Bool) (L2 : Int → Option Bool) (v8 : Bool) : Option Bool :=
  if v8 = true then
    some false
  else
    L2 (w64 (v7 + 1))
def g_law17_calm_l2_b (K : Kn) (n : Nat) (v1 : (List TBlockFragment)) (v5 : Int) (L1 : Int → Option Bool) (L2 : Int → Option Bool) (v7 : Int) : Option Bool :=
  if (decide (v7 < (([(List.getD v1 (v5).toNat default).X, (List.getD v1 (v5).toNat default).Y, (List.getD v1 (v5).toNat default).H, ((List.getD v1 (v5).toNat default).Before).Pos, ((List.getD v1 (v5).toNat default).Before).Neg, ((List.getD v1 (v5).toNat default).After).Pos, ((List.getD v1 (v5).toNat default).After).Neg] : List Int).length : Int))) = true then
    chk (inb v7 ([(List.getD v1 (v5).toNat default).X, (List.getD v1 (v5).toNat default).Y, (List.getD v1 (v5).toNat default).H, ((List.getD v1 (v5).toNat default).Before).Pos, ((List.getD v1 (v5).toNat default).Before).Neg, ((List.getD v1 (v5).toNat default).After).Pos, ((List.getD v1 (v5).toNat default).After).Neg] : List Int).length) (
    if (decide ((List.getD ([(List.getD v1 (v5).toNat default).X, (List.getD v1 (v5).toNat default).Y, (List.getD v1 (v5).toNat default).H, ((List.getD v1 (v5).toNat default).Before).Pos, ((List.getD v1 (v5).toNat default).Before).Neg, ((List.getD v1 (v5).toNat default).After).Pos, ((List.getD v1 (v5).toNat default).After).Neg] : List Int) (v7).toNat default) < (-1099511627776))) = true then
      g_law17_calm_j1 K n v1 v5 v7 L1 L2 true
    else
      g_law17_calm_j1 K n v1 v5 v7 L1 L2 (decide ((List.getD ([(List.getD v1 (v5).toNat default).X, (List.getD v1 (v5).toNat default).Y, (List.getD v1 (v5).toNat default).H, ((List.getD v1 (v5).toNat default).Before).Pos, ((List.getD v1 (v5).toNat default).Before).Neg, ((List.getD v1 (v5).toNat default).After).Pos, ((List.getD v1 (v5).toNat default).After).Neg] : List Int) (v7).toNat default) > 1099511627776)))
  else
    if (decide ((((List.getD v1 (v5).toNat default).Kids).length : Int) > 0)) = true then
      some false
    else
      L1 (w64 (v5 + 1))
def g_law17_calm_l2 (K : Kn) (n : Nat) (v1 : (List TBlockFragment)) (v5 : Int) (L1 : Int → Option Bool) : Nat → Int → Option Bool
  | 0 => fun _ => none
  | m + 1 => g_law17_calm_l2_b K n v1 v5 L1 (g_law17_calm_l2 K n v1 v5 L1 m)
def g_law17_calm_l3_b (K : Kn) (n : Nat) (v1 : (List TBlockFragment)) (L1 : Int → Option Bool) (v5 : Int) : Option Bool :=
  if (decide (v5 < (v1.length : Int))) = true then
    chk (inb v5 v1.length) (
    g_law17_calm_l2 K n v1 v5 L1 n 0)
  else
    some (decide ((v1.length : Int) ≤ 30))
def g_law17_calm_l3 (K : Kn) (n : Nat) (v1 : (List TBlockFragment)) : Nat → Int → Option Bool
  | 0 => fun _ => none
  | m + 1 => g_law17_calm_l3_b K n v1 (g_law17_calm_l3 K n v1 m)
def g_law17_calm (K : Kn) (n : Nat) (v1 : (List TBlockFragment)) : Option Bool :=
  g_law17_calm_l3 K n v1 n 0
/-! knapsack/knapsackref17.Join -/
def g_ref17_Join (K : Kn) (n : Nat) (v1 : TBlockMargin) (v2 : TBlockMargin) : Option TBlockMargin :=
  some (⟨(max v1.Pos v2.Pos), (min v1.Neg v2.Neg)⟩ : TBlockMargin)
/-! knapsack/knapsackref17.Size -/
def g_ref17_Size (K : Kn) (n : Nat) (v1 : TBlockMargin) : Option Int :=
  some (w64 (v1.Pos + v1.Neg))
/-! knapsack/knapsackref17.Stack -/
def g_ref17_Stack_j3 (K : Kn) (n : Nat) (v1 : (List TBlockFragment)) (v12 : Int) (v17 : (List TBlockFragment)) (v20 : Int) (L1 : Int → Int → TBlockMargin → Bool → TBlockMargin → (List TBlockFragment) → Option TKnapsackref17Placed) (v22 : Int) (v23 : TBlockMargin) (v24 : Bool) (v25 : TBlockMargin) : Option TKnapsackref17Placed :=
  chk (fits (v17.length + ([({ (List.getD v1 (v12).toNat default) with Y := v20 } : TBlockFragment)] : (List TBlockFragment)).length) 584) (
  L1 (w64 (v12 + 1)) v22 v23 v24 v25 (v17 ++ [({ (List.getD v1 (v12).toNat default) with Y := v20 } : TBlockFragment)]))
def g_ref17_Stack_j2 (K : Kn) (n : Nat) (v1 : (List TBlockFragment)) (v12 : Int) (v13 : Int) (v15 : Bool) (v17 : (List TBlockFragment)) (v18 : TBlockMargin) (v20 : Int) (L1 : Int → Int → TBlockMargin → Bool → TBlockMargin → (List TBlockFragment) → Option TKnapsackref17Placed) (v21 : TBlockMargin) : Option TKnapsackref17Placed :=
  g_ref17_Stack_j3 K n v1 v12 v17 v20 L1 (w64 (v20 + ((List.getD v1 (v12).toNat default).H))) v21 false ((List.getD v1 (v12).toNat default).After)
def g_ref17_Stack_j1 (K : Kn) (n : Nat) (v1 : (List TBlockFragment)) (v12 : Int) (v13 : Int) (v14 : TBlockMargin) (v15 : Bool) (v17 : (List TBlockFragment)) (v18 : TBlockMargin) (L1 : Int → Int → TBlockMargin → Bool → TBlockMargin → (List TBlockFragment) → Option TKnapsackref17Placed) (v20 : Int) : Option TKnapsackref17Placed :=
  if (!(List.getD v1 (v12).toNat default).Empty) = true then
    if v15 = true then
      g_ref17_Stack_j2 K n v1 v12 v13 v15 v17 v18 v20 L1 v18
    else
      g_ref17_Stack_j2 K n v1 v12 v13 v15 v17 v18 v20 L1 v14
  else
    g_ref17_Stack_j3 K n v1 v12 v17 v20 L1 v13 v14 v15 v18
def g_ref17_Stack_j5 (K : Kn) (n : Nat) (v13 : Int) (v15 : Bool) (v16 : TBlockMargin) (v17 : (List TBlockFragment)) (v26 : TBlockMargin) : Option TKnapsackref17Placed :=
  some (⟨v17, v13, v26, v16, v15⟩ : TKnapsackref17Placed)
def g_ref17_Stack_l4_b (K : Kn) (n : Nat) (v1 : (List TBlockFragment)) (L1 : Int → Int → TBlockMargin → Bool → TBlockMargin → (List TBlockFragment) → Option TKnapsackref17Placed) (v12 : Int) (v13 : Int) (v14 : TBlockMargin) (v15 : Bool) (v16 : TBlockMargin) (v17 : (List TBlockFragment)) : Option TKnapsackref17Placed :=
  if (decide (v12 < (v1.length : Int))) = true then
    chk (inb v12 v1.length) (
    (g_ref17_Join K n v16 ((List.getD v1 (v12).toNat default).Before)).bind fun v18 =>
    if (!v15) = true then
      (g_ref17_Size K n v18).bind fun v19 =>
      g_ref17_Stack_j1 K n v1 v12 v13 v14 v15 v17 v18 L1 (w64 (v13 + v19))
    else
      g_ref17_Stack_j1 K n v1 v12 v13 v14 v15 v17 v18 L1 0)
  else
    if v15 = true then
      g_ref17_Stack_j5 K n v13 v15 v16 v17 v16
    else
      g_ref17_Stack_j5 K n v13 v15 v16 v17 v14
def g_ref17_Stack_l4 (K : Kn) (n : Nat) (v1 : (List TBlockFragment)) : Nat → Int → Int → TBlockMargin → Bool → TBlockMargin → (List TBlockFragment) → Option TKnapsackref17Placed
  | 0 => fun _ _ _ _ _ _ => none
  | m + 1 => g_ref17_Stack_l4_b K n v1 (g_ref17_Stack_l4 K n v1 m)
def g_ref17_Stack (K : Kn) (n : Nat) (v1 : (List TBlockFragment)) : Option TKnapsackref17Placed :=
  g_ref17_Stack_l4 K n v1 n 0 0 zTBlockMargin true zTBlockMargin []
/-! knapsack/knapsacklaw17.same -/
def g_law17_same_l1_b (K : Kn) (n : Nat) (v1 : (List TBlockFragment)) (v2 : (List TBlockFragment)) (L1 : Int → Option Bool) (v4 : Int) : Option Bool :=
  if (decide (v4 < (v1.length : Int))) = true then
    chk (inb v4 v1.length) (
    chk (inb v4 v2.length) (
    (K.k_g_ref17_Same (List.getD v1 (v4).toNat default) (List.getD v2 (v4).toNat default)).bind fun v5 =>
    if (!v5) = true then
      some false
    else
      L1 (w64 (v4 + 1))))
  else
    some true
def g_law17_same_l1 (K : Kn) (n : Nat) (v1 : (List TBlockFragment)) (v2 : (List TBlockFragment)) : Nat → Int → Option Bool
  | 0 => fun _ => none
  | m + 1 => g_law17_same_l1_b K n v1 v2 (g_law17_same_l1 K n v1 v2 m)
def g_law17_same (K : Kn) (n : Nat) (v1 : (List TBlockFragment)) (v2 : (List TBlockFragment)) : Option Bool :=
  if ((v1.length : Int) != (v2.length : Int)) = true then
    some false
  else
    g_law17_same_l1 K n v1 v2 n 0
/-! knapsack/knapsacklaw17.BlockStack -/
def g_law17_BlockStack_j1 (K : Kn) (n : Nat) (v7 : Bool) : Option Bool :=
  some v7
def g_law17_BlockStack (K : Kn) (n : Nat) (v1 : (List TBlockFragment)) : Option Bool :=
  (g_law17_fit K n ).bind fun v2 =>
  if (!v2) = true then
    some false
  else
    (g_law17_calm K n v1).bind fun v3 =>
    if (!v3) = true then
      some true
    else
      (g_block_Stack K n v1).bind fun v4 =>
      (g_ref17_Stack K n v1).bind fun v5 =>
      (g_law17_same K n v4.1 v5.List).bind fun v6 =>
      if v6 = true then
        if (v4.2.1 == v5.Height) = true then
          if (qTBlockMargin v4.2.2.1 v5.Before) = true then
            if (qTBlockMargin v4.2.2.2.1 v5.After) = true then
              g_law17_BlockStack_j1 K n (v4.2.2.2.2 == v5.Through)
            else
              g_law17_BlockStack_j1 K n false
          else
            g_law17_BlockStack_j1 K n false
        else
          g_law17_BlockStack_j1 K n false
      else
        g_law17_BlockStack_j1 K n false
/-! knapsack/knapsacklaw17.BlockOrder -/
def g_law17_BlockOrder_j1 (K : Kn) (n : Nat) (v1 : (List TBlockFragment)) (v5 : Int) (L1 : Int → Option Bool) (v6 : Bool) : Option Bool :=
  if v6 = true then
    some true
  else
    L1 (w64 (v5 + 1))
def g_law17_BlockOrder_j4 (K : Kn) (n : Nat) (v1 : (List TBlockFragment)) (v7 : ((List TBlockFragment) × Int × TBlockMargin × TBlockMargin × Bool)) (v10 : Int) (L2 : Int → Int → Option Bool) (v11 : Bool) : Option Bool :=
  if v11 = true then
    some false
  else
    L2 (w64 (((List.getD v7.1 (v10).toNat default).Y) + ((List.getD v7.1 (v10).toNat default).H))) (w64 (v10 + 1))
def g_law17_BlockOrder_l5_b (K : Kn) (n : Nat) (v1 : (List TBlockFragment)) (v7 : ((List TBlockFragment) × Int × TBlockMargin × TBlockMargin × Bool)) (L2 : Int → Int → Option Bool) (v9 : Int) (v10 : Int) : Option Bool :=
  if (decide (v10 < (v7.1.length : Int))) = true then
    chk (inb v10 v7.1.length) (
    if (decide (v10 > 0)) = true then
      chk (inb (w64 (v10 - 1)) v1.length) (
      if (((List.getD v7.1 (v10).toNat default).Y) != (w64 (v9 + (max (((List.getD v1 ((w64 (v10 - 1))).toNat default).After).Pos) (((List.getD v7.1 (v10).toNat default).Before).Pos))))) = true then
        g_law17_BlockOrder_j4 K n v1 v7 v10 L2 true
      else
        if (v10 == 0) = true then
          g_law17_BlockOrder_j4 K n v1 v7 v10 L2 (((List.getD v7.1 (v10).toNat default).Y) != 0)
        else
          g_law17_BlockOrder_j4 K n v1 v7 v10 L2 false)
    else
      if (v10 == 0) = true then
        g_law17_BlockOrder_j4 K n v1 v7 v10 L2 (((List.getD v7.1 (v10).toNat default).Y) != 0)
      else
        g_law17_BlockOrder_j4 K n v1 v7 v10 L2 false)
  else
    some (v7.2.1 == v9)
def g_law17_BlockOrder_l5 (K : Kn) (n : Nat) (v1 : (List TBlockFragment)) (v7 : ((List TBlockFragment) × Int × TBlockMargin × TBlockMargin × Bool)) : Nat → Int → Int → Option Bool
  | 0 => fun _ _ => none
  | m + 1 => g_law17_BlockOrder_l5_b K n v1 v7 (g_law17_BlockOrder_l5 K n v1 v7 m)
def g_law17_BlockOrder_j3 (K : Kn) (n : Nat) (v1 : (List TBlockFragment)) (v7 : ((List TBlockFragment) × Int × TBlockMargin × TBlockMargin × Bool)) (v8 : Bool) : Option Bool :=
  if v8 = true then
    some false
  else
    g_law17_BlockOrder_l5 K n v1 v7 n 0 0
def g_law17_BlockOrder_l2_b (K : Kn) (n : Nat) (v1 : (List TBlockFragment)) (L1 : Int → Option Bool) (v5 : Int) : Option Bool :=
  if (decide (v5 < (v1.length : Int))) = true then
    chk (inb v5 v1.length) (
    if (decide (((List.getD v1 (v5).toNat default).H) < 0)) = true then
      g_law17_BlockOrder_j1 K n v1 v5 L1 true
    else
      if (List.getD v1 (v5).toNat default).Empty = true then
        g_law17_BlockOrder_j1 K n v1 v5 L1 true
      else
        if ((((List.getD v1 (v5).toNat default).Before).Neg) != 0) = true then
          g_law17_BlockOrder_j1 K n v1 v5 L1 true
        else
          if ((((List.getD v1 (v5).toNat default).After).Neg) != 0) = true then
            g_law17_BlockOrder_j1 K n v1 v5 L1 true
          else
            if (decide ((((List.getD v1 (v5).toNat default).Before).Pos) < 0)) = true then
              g_law17_BlockOrder_j1 K n v1 v5 L1 true
            else
              g_law17_BlockOrder_j1 K n v1 v5 L1 (decide ((((List.getD v1 (v5).toNat default).After).Pos) < 0)))
  else
    (g_block_Stack K n v1).bind fun v7 =>
    if ((v7.1.length : Int) != (v1.length : Int)) = true then
      g_law17_BlockOrder_j3 K n v1 v7 true
    else
      g_law17_BlockOrder_j3 K n v1 v7 (!(v7.2.2.2.2 == ((v1.length : Int) == 0)))
def g_law17_BlockOrder_l2 (K : Kn) (n : Nat) (v1 : (List TBlockFragment)) : Nat → Int → Option Bool
  | 0 => fun _ => none
  | m + 1 => g_law17_BlockOrder_l2_b K n v1 (g_law17_BlockOrder_l2 K n v1 m)
def g_law17_BlockOrder (K : Kn) (n : Nat) (v1 : (List TBlockFragment)) : Option Bool :=
  (g_law17_fit K n ).bind fun v2 =>
  if (!v2) = true then
    some false
  else
    (g_law17_calm K n v1).bind fun v3 =>
    if (!v3) = true then
      some true
    else
      g_law17_BlockOrder_l2 K n v1 n 0
/-! knapsack/knapsackref17.Same -/
def g_ref17_Same_l2_b (K : Kn) (n : Nat) (v1 : TBlockFragment) (v2 : TBlockFragment) (L1 : Int → Option Bool) (v5 : Int) : Option Bool :=
  if (decide (v5 < (v1.Kids.length : Int))) = true then
    chk (inb v5 v1.Kids.length) (
    chk (inb v5 v2.Kids.length) (
    (K.k_g_ref17_Same (List.getD v1.Kids (v5).toNat default) (List.getD v2.Kids (v5).toNat default)).bind fun v6 =>
    if (!v6) = true then
      some false
    else
      L1 (w64 (v5 + 1))))
  else
    some true
def g_ref17_Same_l2 (K : Kn) (n : Nat) (v1 : TBlockFragment) (v2 : TBlockFragment) : Nat → Int → Option Bool
  | 0 => fun _ => none
  | m + 1 => g_ref17_Same_l2_b K n v1 v2 (g_ref17_Same_l2 K n v1 v2 m)
def g_ref17_Same_j1 (K : Kn) (n : Nat) (v1 : TBlockFragment) (v2 : TBlockFragment) (v3 : Bool) : Option Bool :=
  if v3 = true then
    some false
  else
    g_ref17_Same_l2 K n v1 v2 n 0
def g_ref17_Same (K : Kn) (n : Nat) (v1 : TBlockFragment) (v2 : TBlockFragment) : Option Bool :=
  if (v1.Kind != v2.Kind) = true then
    g_ref17_Same_j1 K n v1 v2 true
  else
    if (v1.Node != v2.Node) = true then
      g_ref17_Same_j1 K n v1 v2 true
    else
      if (v1.X != v2.X) = true then
        g_ref17_Same_j1 K n v1 v2 true
      else
        if (v1.Y != v2.Y) = true then
          g_ref17_Same_j1 K n v1 v2 true
        else
          if (v1.W != v2.W) = true then
            g_ref17_Same_j1 K n v1 v2 true
          else
            if (v1.H != v2.H) = true then
              g_ref17_Same_j1 K n v1 v2 true
            else
              if (v1.Base != v2.Base) = true then
                g_ref17_Same_j1 K n v1 v2 true
              else
                if (!(v1.Text.toList == v2.Text.toList)) = true then
                  g_ref17_Same_j1 K n v1 v2 true
                else
                  if (!(qTCascadeStyle v1.Style v2.Style)) = true then
                    g_ref17_Same_j1 K n v1 v2 true
                  else
                    if (!(qTBlockMargin v1.Before v2.Before)) = true then
                      g_ref17_Same_j1 K n v1 v2 true
                    else
                      if (!(qTBlockMargin v1.After v2.After)) = true then
                        g_ref17_Same_j1 K n v1 v2 true
                      else
                        if (!(v1.Empty == v2.Empty)) = true then
                          g_ref17_Same_j1 K n v1 v2 true
                        else
                          g_ref17_Same_j1 K n v1 v2 ((v1.Kids.length : Int) != (v2.Kids.length : Int))
def KN : Nat → Kn
  | 0 => ⟨fun _ _ => none⟩
  | n + 1 => ⟨fun a0 a1 => g_ref17_Same (KN n) n a0 a1⟩
end
end Go.Proofs.Ytkciiamllegclaa

/- Types of layer 19's program as Lean types, with their cells. Made by a program. -/
import Derived.Test.YtlpndemhnpajiaaSmVz
namespace Go.Proofs.Ytlpndemhnpajiaa
open Go.RowKit
set_option maxRecDepth 20000
set_option linter.all false
set_option linter.unusedVariables false
set_option linter.unusedSimpArgs false
structure TFlexItem where
  Base : Int
  Grow : Int
  Shrink : Int
  Min : Int
  Max : Int
def zTFlexItem : TFlexItem := ⟨0, 0, 0, 0, 0⟩
instance : Inhabited TFlexItem := ⟨zTFlexItem⟩
def eTFlexItem (x : TFlexItem) : List AV := [.int .i64 x.Base, .int .i64 x.Grow, .int .i64 x.Shrink, .int .i64 x.Min, .int .i64 x.Max]
theorem eTFlexItem_len (x : TFlexItem) : (eTFlexItem x).length = 5 := rfl
structure TCascadeLength where
  Kind : Int
  Value : Int
def zTCascadeLength : TCascadeLength := ⟨0, 0⟩
instance : Inhabited TCascadeLength := ⟨zTCascadeLength⟩
def eTCascadeLength (x : TCascadeLength) : List AV := [.int .i64 x.Kind, .int .i64 x.Value]
structure TCascadeStyle where
  Display : Int
  Position : Int
  Left : TCascadeLength
  Top : TCascadeLength
  Width : TCascadeLength
  Height : TCascadeLength
  MinWidth : TCascadeLength
  MaxWidth : TCascadeLength
  Margin : (V4 TCascadeLength)
  Padding : (V4 TCascadeLength)
  Border : (V4 Int)
  BorderColor : ByteArray
  Color : ByteArray
  Background : ByteArray
  FontSize : Int
  LineHeight : Int
  TextAlign : Int
  WhiteSpace : Int
  VAlign : Int
  Direction : Int
  Wrap : Bool
  Grow : Int
  Shrink : Int
  Basis : TCascadeLength
  Order : Int
  Z : Int
  ZAuto : Bool
  Overflow : Int
  Visibility : Int
def zTCascadeStyle : TCascadeStyle := ⟨0, 0, ⟨0, 0⟩, ⟨0, 0⟩, ⟨0, 0⟩, ⟨0, 0⟩, ⟨0, 0⟩, ⟨0, 0⟩, ⟨⟨0, 0⟩, ⟨0, 0⟩, ⟨0, 0⟩, ⟨0, 0⟩⟩, ⟨⟨0, 0⟩, ⟨0, 0⟩, ⟨0, 0⟩, ⟨0, 0⟩⟩, ⟨0, 0, 0, 0⟩, ⟨#[]⟩, ⟨#[]⟩, ⟨#[]⟩, 0, 0, 0, 0, 0, 0, false, 0, 0, ⟨0, 0⟩, 0, 0, false, 0, 0⟩
instance : Inhabited TCascadeStyle := ⟨zTCascadeStyle⟩
def eTCascadeStyle (x : TCascadeStyle) : List AV := [.int .i64 x.Display, .int .i64 x.Position, .int .i64 x.Left.Kind, .int .i64 x.Left.Value, .int .i64 x.Top.Kind, .int .i64 x.Top.Value, .int .i64 x.Width.Kind, .int .i64 x.Width.Value, .int .i64 x.Height.Kind, .int .i64 x.Height.Value, .int .i64 x.MinWidth.Kind, .int .i64 x.MinWidth.Value, .int .i64 x.MaxWidth.Kind, .int .i64 x.MaxWidth.Value, .int .i64 x.Margin.a0.Kind, .int .i64 x.Margin.a0.Value, .int .i64 x.Margin.a1.Kind, .int .i64 x.Margin.a1.Value, .int .i64 x.Margin.a2.Kind, .int .i64 x.Margin.a2.Value, .int .i64 x.Margin.a3.Kind, .int .i64 x.Margin.a3.Value, .int .i64 x.Padding.a0.Kind, .int .i64 x.Padding.a0.Value, .int .i64 x.Padding.a1.Kind, .int .i64 x.Padding.a1.Value, .int .i64 x.Padding.a2.Kind, .int .i64 x.Padding.a2.Value, .int .i64 x.Padding.a3.Kind, .int .i64 x.Padding.a3.Value, .int .i64 x.Border.a0, .int .i64 x.Border.a1, .int .i64 x.Border.a2, .int .i64 x.Border.a3, .str x.BorderColor, .str x.Color, .str x.Background, .int .i64 x.FontSize, .int .i64 x.LineHeight, .int .i64 x.TextAlign, .int .i64 x.WhiteSpace, .int .i64 x.VAlign, .int .i64 x.Direction, .bool x.Wrap, .int .i64 x.Grow, .int .i64 x.Shrink, .int .i64 x.Basis.Kind, .int .i64 x.Basis.Value, .int .i64 x.Order, .int .i64 x.Z, .bool x.ZAuto, .int .i64 x.Overflow, .int .i64 x.Visibility]
structure TKnapsackref17Spec where
  Depth : Int
  Kind : Int
  Text : ByteArray
  Rows : Int
  Cols : Int
  Style : TCascadeStyle
def zTKnapsackref17Spec : TKnapsackref17Spec := ⟨0, 0, ⟨#[]⟩, 0, 0, ⟨0, 0, ⟨0, 0⟩, ⟨0, 0⟩, ⟨0, 0⟩, ⟨0, 0⟩, ⟨0, 0⟩, ⟨0, 0⟩, ⟨⟨0, 0⟩, ⟨0, 0⟩, ⟨0, 0⟩, ⟨0, 0⟩⟩, ⟨⟨0, 0⟩, ⟨0, 0⟩, ⟨0, 0⟩, ⟨0, 0⟩⟩, ⟨0, 0, 0, 0⟩, ⟨#[]⟩, ⟨#[]⟩, ⟨#[]⟩, 0, 0, 0, 0, 0, 0, false, 0, 0, ⟨0, 0⟩, 0, 0, false, 0, 0⟩⟩
instance : Inhabited TKnapsackref17Spec := ⟨zTKnapsackref17Spec⟩
def eTKnapsackref17Spec (x : TKnapsackref17Spec) : List AV := [.int .u8 x.Depth, .int .u8 x.Kind, .str x.Text, .int .u8 x.Rows, .int .u8 x.Cols, .int .i64 x.Style.Display, .int .i64 x.Style.Position, .int .i64 x.Style.Left.Kind, .int .i64 x.Style.Left.Value, .int .i64 x.Style.Top.Kind, .int .i64 x.Style.Top.Value, .int .i64 x.Style.Width.Kind, .int .i64 x.Style.Width.Value, .int .i64 x.Style.Height.Kind, .int .i64 x.Style.Height.Value, .int .i64 x.Style.MinWidth.Kind, .int .i64 x.Style.MinWidth.Value, .int .i64 x.Style.MaxWidth.Kind, .int .i64 x.Style.MaxWidth.Value, .int .i64 x.Style.Margin.a0.Kind, .int .i64 x.Style.Margin.a0.Value, .int .i64 x.Style.Margin.a1.Kind, .int .i64 x.Style.Margin.a1.Value, .int .i64 x.Style.Margin.a2.Kind, .int .i64 x.Style.Margin.a2.Value, .int .i64 x.Style.Margin.a3.Kind, .int .i64 x.Style.Margin.a3.Value, .int .i64 x.Style.Padding.a0.Kind, .int .i64 x.Style.Padding.a0.Value, .int .i64 x.Style.Padding.a1.Kind, .int .i64 x.Style.Padding.a1.Value, .int .i64 x.Style.Padding.a2.Kind, .int .i64 x.Style.Padding.a2.Value, .int .i64 x.Style.Padding.a3.Kind, .int .i64 x.Style.Padding.a3.Value, .int .i64 x.Style.Border.a0, .int .i64 x.Style.Border.a1, .int .i64 x.Style.Border.a2, .int .i64 x.Style.Border.a3, .str x.Style.BorderColor, .str x.Style.Color, .str x.Style.Background, .int .i64 x.Style.FontSize, .int .i64 x.Style.LineHeight, .int .i64 x.Style.TextAlign, .int .i64 x.Style.WhiteSpace, .int .i64 x.Style.VAlign, .int .i64 x.Style.Direction, .bool x.Style.Wrap, .int .i64 x.Style.Grow, .int .i64 x.Style.Shrink, .int .i64 x.Style.Basis.Kind, .int .i64 x.Style.Basis.Value, .int .i64 x.Style.Order, .int .i64 x.Style.Z, .bool x.Style.ZAuto, .int .i64 x.Style.Overflow, .int .i64 x.Style.Visibility]
theorem eTKnapsackref17Spec_len (x : TKnapsackref17Spec) : (eTKnapsackref17Spec x).length = 58 := rfl
structure TBoxtreeBox where
  Kind : Int
  Node : Int
  Style : TCascadeStyle
  Text : ByteArray
  Rows : Int
  Cols : Int
  Kids : (List TBoxtreeBox)
def zTBoxtreeBox : TBoxtreeBox := ⟨0, 0, ⟨0, 0, ⟨0, 0⟩, ⟨0, 0⟩, ⟨0, 0⟩, ⟨0, 0⟩, ⟨0, 0⟩, ⟨0, 0⟩, ⟨⟨0, 0⟩, ⟨0, 0⟩, ⟨0, 0⟩, ⟨0, 0⟩⟩, ⟨⟨0, 0⟩, ⟨0, 0⟩, ⟨0, 0⟩, ⟨0, 0⟩⟩, ⟨0, 0, 0, 0⟩, ⟨#[]⟩, ⟨#[]⟩, ⟨#[]⟩, 0, 0, 0, 0, 0, 0, false, 0, 0, ⟨0, 0⟩, 0, 0, false, 0, 0⟩, ⟨#[]⟩, 0, 0, []⟩
instance : Inhabited TBoxtreeBox := ⟨zTBoxtreeBox⟩
mutual
def eTBoxtreeBox : TBoxtreeBox → List AV
  | ⟨Kind, Node, Style, Text, Rows, Cols, Kids⟩ => [.int .i64 Kind, .int .i64 Node, .int .i64 Style.Display, .int .i64 Style.Position, .int .i64 Style.Left.Kind, .int .i64 Style.Left.Value, .int .i64 Style.Top.Kind, .int .i64 Style.Top.Value, .int .i64 Style.Width.Kind, .int .i64 Style.Width.Value, .int .i64 Style.Height.Kind, .int .i64 Style.Height.Value, .int .i64 Style.MinWidth.Kind, .int .i64 Style.MinWidth.Value, .int .i64 Style.MaxWidth.Kind, .int .i64 Style.MaxWidth.Value, .int .i64 Style.Margin.a0.Kind, .int .i64 Style.Margin.a0.Value, .int .i64 Style.Margin.a1.Kind, .int .i64 Style.Margin.a1.Value, .int .i64 Style.Margin.a2.Kind, .int .i64 Style.Margin.a2.Value, .int .i64 Style.Margin.a3.Kind, .int .i64 Style.Margin.a3.Value, .int .i64 Style.Padding.a0.Kind, .int .i64 Style.Padding.a0.Value, .int .i64 Style.Padding.a1.Kind, .int .i64 Style.Padding.a1.Value, .int .i64 Style.Padding.a2.Kind, .int .i64 Style.Padding.a2.Value, .int .i64 Style.Padding.a3.Kind, .int .i64 Style.Padding.a3.Value, .int .i64 Style.Border.a0, .int .i64 Style.Border.a1, .int .i64 Style.Border.a2, .int .i64 Style.Border.a3, .str Style.BorderColor, .str Style.Color, .str Style.Background, .int .i64 Style.FontSize, .int .i64 Style.LineHeight, .int .i64 Style.TextAlign, .int .i64 Style.WhiteSpace, .int .i64 Style.VAlign, .int .i64 Style.Direction, .bool Style.Wrap, .int .i64 Style.Grow, .int .i64 Style.Shrink, .int .i64 Style.Basis.Kind, .int .i64 Style.Basis.Value, .int .i64 Style.Order, .int .i64 Style.Z, .bool Style.ZAuto, .int .i64 Style.Overflow, .int .i64 Style.Visibility, .str Text, .int .i64 Rows, .int .i64 Cols, .sl (eTBoxtreeBoxs Kids)]
def eTBoxtreeBoxs : List TBoxtreeBox → List (List AV)
  | [] => []
  | x :: r => eTBoxtreeBox x :: eTBoxtreeBoxs r
end
theorem eTBoxtreeBoxs_map : ∀ l : List TBoxtreeBox, eTBoxtreeBoxs l = l.map eTBoxtreeBox
  | [] => by simp [eTBoxtreeBoxs]
  | x :: r => by simp [eTBoxtreeBoxs, eTBoxtreeBoxs_map r]
def xTBoxtreeBox (x : TBoxtreeBox) : List AV := [.int .i64 x.Kind, .int .i64 x.Node, .int .i64 x.Style.Display, .int .i64 x.Style.Position, .int .i64 x.Style.Left.Kind, .int .i64 x.Style.Left.Value, .int .i64 x.Style.Top.Kind, .int .i64 x.Style.Top.Value, .int .i64 x.Style.Width.Kind, .int .i64 x.Style.Width.Value, .int .i64 x.Style.Height.Kind, .int .i64 x.Style.Height.Value, .int .i64 x.Style.MinWidth.Kind, .int .i64 x.Style.MinWidth.Value, .int .i64 x.Style.MaxWidth.Kind, .int .i64 x.Style.MaxWidth.Value, .int .i64 x.Style.Margin.a0.Kind, .int .i64 x.Style.Margin.a0.Value, .int .i64 x.Style.Margin.a1.Kind, .int .i64 x.Style.Margin.a1.Value, .int .i64 x.Style.Margin.a2.Kind, .int .i64 x.Style.Margin.a2.Value, .int .i64 x.Style.Margin.a3.Kind, .int .i64 x.Style.Margin.a3.Value, .int .i64 x.Style.Padding.a0.Kind, .int .i64 x.Style.Padding.a0.Value, .int .i64 x.Style.Padding.a1.Kind, .int .i64 x.Style.Padding.a1.Value, .int .i64 x.Style.Padding.a2.Kind, .int .i64 x.Style.Padding.a2.Value, .int .i64 x.Style.Padding.a3.Kind, .int .i64 x.Style.Padding.a3.Value, .int .i64 x.Style.Border.a0, .int .i64 x.Style.Border.a1, .int .i64 x.Style.Border.a2, .int .i64 x.Style.Border.a3, .str x.Style.BorderColor, .str x.Style.Color, .str x.Style.Background, .int .i64 x.Style.FontSize, .int .i64 x.Style.LineHeight, .int .i64 x.Style.TextAlign, .int .i64 x.Style.WhiteSpace, .int .i64 x.Style.VAlign, .int .i64 x.Style.Direction, .bool x.Style.Wrap, .int .i64 x.Style.Grow, .int .i64 x.Style.Shrink, .int .i64 x.Style.Basis.Kind, .int .i64 x.Style.Basis.Value, .int .i64 x.Style.Order, .int .i64 x.Style.Z, .bool x.Style.ZAuto, .int .i64 x.Style.Overflow, .int .i64 x.Style.Visibility, .str x.Text, .int .i64 x.Rows, .int .i64 x.Cols, .sl (List.map eTBoxtreeBox x.Kids)]
theorem xTBoxtreeBox_eq (x : TBoxtreeBox) : eTBoxtreeBox x = xTBoxtreeBox x := by
  cases x; simp only [eTBoxtreeBox, xTBoxtreeBox, eTBoxtreeBoxs_map]
theorem eTBoxtreeBox_len (x : TBoxtreeBox) : (eTBoxtreeBox x).length = 59 := by rw [xTBoxtreeBox_eq]; rfl
structure TBlockMargin where
  Pos : Int
  Neg : Int
def zTBlockMargin : TBlockMargin := ⟨0, 0⟩
instance : Inhabited TBlockMargin := ⟨zTBlockMargin⟩
structure TBlockFragment where
  Kind : Int
  Node : Int
  X : Int
  Y : Int
  W : Int
  H : Int
  Base : Int
  Text : ByteArray
  Style : TCascadeStyle
  Before : TBlockMargin
  After : TBlockMargin
  Empty : Bool
  Kids : (List TBlockFragment)
def zTBlockFragment : TBlockFragment := ⟨0, 0, 0, 0, 0, 0, 0, ⟨#[]⟩, ⟨0, 0, ⟨0, 0⟩, ⟨0, 0⟩, ⟨0, 0⟩, ⟨0, 0⟩, ⟨0, 0⟩, ⟨0, 0⟩, ⟨⟨0, 0⟩, ⟨0, 0⟩, ⟨0, 0⟩, ⟨0, 0⟩⟩, ⟨⟨0, 0⟩, ⟨0, 0⟩, ⟨0, 0⟩, ⟨0, 0⟩⟩, ⟨0, 0, 0, 0⟩, ⟨#[]⟩, ⟨#[]⟩, ⟨#[]⟩, 0, 0, 0, 0, 0, 0, false, 0, 0, ⟨0, 0⟩, 0, 0, false, 0, 0⟩, ⟨0, 0⟩, ⟨0, 0⟩, false, []⟩
instance : Inhabited TBlockFragment := ⟨zTBlockFragment⟩
mutual
def eTBlockFragment : TBlockFragment → List AV
  | ⟨Kind, Node, X, Y, W, H, Base, Text, Style, Before, After, Empty, Kids⟩ => [.int .i64 Kind, .int .i64 Node, .int .i64 X, .int .i64 Y, .int .i64 W, .int .i64 H, .int .i64 Base, .str Text, .int .i64 Style.Display, .int .i64 Style.Position, .int .i64 Style.Left.Kind, .int .i64 Style.Left.Value, .int .i64 Style.Top.Kind, .int .i64 Style.Top.Value, .int .i64 Style.Width.Kind, .int .i64 Style.Width.Value, .int .i64 Style.Height.Kind, .int .i64 Style.Height.Value, .int .i64 Style.MinWidth.Kind, .int .i64 Style.MinWidth.Value, .int .i64 Style.MaxWidth.Kind, .int .i64 Style.MaxWidth.Value, .int .i64 Style.Margin.a0.Kind, .int .i64 Style.Margin.a0.Value, .int .i64 Style.Margin.a1.Kind, .int .i64 Style.Margin.a1.Value, .int .i64 Style.Margin.a2.Kind, .int .i64 Style.Margin.a2.Value, .int .i64 Style.Margin.a3.Kind, .int .i64 Style.Margin.a3.Value, .int .i64 Style.Padding.a0.Kind, .int .i64 Style.Padding.a0.Value, .int .i64 Style.Padding.a1.Kind, .int .i64 Style.Padding.a1.Value, .int .i64 Style.Padding.a2.Kind, .int .i64 Style.Padding.a2.Value, .int .i64 Style.Padding.a3.Kind, .int .i64 Style.Padding.a3.Value, .int .i64 Style.Border.a0, .int .i64 Style.Border.a1, .int .i64 Style.Border.a2, .int .i64 Style.Border.a3, .str Style.BorderColor, .str Style.Color, .str Style.Background, .int .i64 Style.FontSize, .int .i64 Style.LineHeight, .int .i64 Style.TextAlign, .int .i64 Style.WhiteSpace, .int .i64 Style.VAlign, .int .i64 Style.Direction, .bool Style.Wrap, .int .i64 Style.Grow, .int .i64 Style.Shrink, .int .i64 Style.Basis.Kind, .int .i64 Style.Basis.Value, .int .i64 Style.Order, .int .i64 Style.Z, .bool Style.ZAuto, .int .i64 Style.Overflow, .int .i64 Style.Visibility, .int .i64 Before.Pos, .int .i64 Before.Neg, .int .i64 After.Pos, .int .i64 After.Neg, .bool Empty, .sl (eTBlockFragments Kids)]
def eTBlockFragments : List TBlockFragment → List (List AV)
  | [] => []
  | x :: r => eTBlockFragment x :: eTBlockFragments r
end
def xTBlockFragment (x : TBlockFragment) : List AV := [.int .i64 x.Kind, .int .i64 x.Node, .int .i64 x.X, .int .i64 x.Y, .int .i64 x.W, .int .i64 x.H, .int .i64 x.Base, .str x.Text, .int .i64 x.Style.Display, .int .i64 x.Style.Position, .int .i64 x.Style.Left.Kind, .int .i64 x.Style.Left.Value, .int .i64 x.Style.Top.Kind, .int .i64 x.Style.Top.Value, .int .i64 x.Style.Width.Kind, .int .i64 x.Style.Width.Value, .int .i64 x.Style.Height.Kind, .int .i64 x.Style.Height.Value, .int .i64 x.Style.MinWidth.Kind, .int .i64 x.Style.MinWidth.Value, .int .i64 x.Style.MaxWidth.Kind, .int .i64 x.Style.MaxWidth.Value, .int .i64 x.Style.Margin.a0.Kind, .int .i64 x.Style.Margin.a0.Value, .int .i64 x.Style.Margin.a1.Kind, .int .i64 x.Style.Margin.a1.Value, .int .i64 x.Style.Margin.a2.Kind, .int .i64 x.Style.Margin.a2.Value, .int .i64 x.Style.Margin.a3.Kind, .int .i64 x.Style.Margin.a3.Value, .int .i64 x.Style.Padding.a0.Kind, .int .i64 x.Style.Padding.a0.Value, .int .i64 x.Style.Padding.a1.Kind, .int .i64 x.Style.Padding.a1.Value, .int .i64 x.Style.Padding.a2.Kind, .int .i64 x.Style.Padding.a2.Value, .int .i64 x.Style.Padding.a3.Kind, .int .i64 x.Style.Padding.a3.Value, .int .i64 x.Style.Border.a0, .int .i64 x.Style.Border.a1, .int .i64 x.Style.Border.a2, .int .i64 x.Style.Border.a3, .str x.Style.BorderColor, .str x.Style.Color, .str x.Style.Background, .int .i64 x.Style.FontSize, .int .i64 x.Style.LineHeight, .int .i64 x.Style.TextAlign, .int .i64 x.Style.WhiteSpace, .int .i64 x.Style.VAlign, .int .i64 x.Style.Direction, .bool x.Style.Wrap, .int .i64 x.Style.Grow, .int .i64 x.Style.Shrink, .int .i64 x.Style.Basis.Kind, .int .i64 x.Style.Basis.Value, .int .i64 x.Style.Order, .int .i64 x.Style.Z, .bool x.Style.ZAuto, .int .i64 x.Style.Overflow, .int .i64 x.Style.Visibility, .int .i64 x.Before.Pos, .int .i64 x.Before.Neg, .int .i64 x.After.Pos, .int .i64 x.After.Neg, .bool x.Empty, .sl (List.map eTBlockFragment x.Kids)]
structure TFlexState where
  Item : TFlexItem
  factor : Int
  weight : Int
  size : Int
  fixed : Bool
def zTFlexState : TFlexState := ⟨⟨0, 0, 0, 0, 0⟩, 0, 0, 0, false⟩
instance : Inhabited TFlexState := ⟨zTFlexState⟩
def eTFlexState (x : TFlexState) : List AV := [.int .i64 x.Item.Base, .int .i64 x.Item.Grow, .int .i64 x.Item.Shrink, .int .i64 x.Item.Min, .int .i64 x.Item.Max, .int .i64 x.factor, .int .i64 x.weight, .int .i64 x.size, .bool x.fixed]
structure TBlockSizes where
  Margin : (V4 Int)
  Border : (V4 Int)
  Padding : (V4 Int)
  Content : Int
def zTBlockSizes : TBlockSizes := ⟨⟨0, 0, 0, 0⟩, ⟨0, 0, 0, 0⟩, ⟨0, 0, 0, 0⟩, 0⟩
instance : Inhabited TBlockSizes := ⟨zTBlockSizes⟩
def eTBlockSizes (x : TBlockSizes) : List AV := [.int .i64 x.Margin.a0, .int .i64 x.Margin.a1, .int .i64 x.Margin.a2, .int .i64 x.Margin.a3, .int .i64 x.Border.a0, .int .i64 x.Border.a1, .int .i64 x.Border.a2, .int .i64 x.Border.a3, .int .i64 x.Padding.a0, .int .i64 x.Padding.a1, .int .i64 x.Padding.a2, .int .i64 x.Padding.a3, .int .i64 x.Content]
inductive Fv where
  | fn (id : Nat)
  | c36 (a0 : (List Int))
  | c45 (a0 : (List TBoxtreeBox))
  | c50 (a0 : TCascadeStyle)
instance : Inhabited Fv := ⟨.fn 0⟩
def Fv.id : Fv → Nat
  | .fn i => i
  | .c36 _ => 36
  | .c45 _ => 45
  | .c50 _ => 50
def Fv.caps : Fv → List AV
  | .fn _ => []
  | .c36 a0 => [.cptr [.sl (List.map (eInt .i64) a0)]]
  | .c45 a0 => [.cptr [.sl (List.map eTBoxtreeBox a0)]]
  | .c50 a0 => [.cptr (eTCascadeStyle a0)]
structure TBlockEnv where
  Layout : Fv
  Widths : Fv
  Lines : Fv
  Spread : Fv
def zTBlockEnv : TBlockEnv := ⟨(Fv.fn 0), (Fv.fn 0), (Fv.fn 0), (Fv.fn 0)⟩
instance : Inhabited TBlockEnv := ⟨zTBlockEnv⟩
def eTBlockEnv (x : TBlockEnv) : List AV := [.fn x.Layout.id x.Layout.caps, .fn x.Widths.id x.Widths.caps, .fn x.Lines.id x.Lines.caps, .fn x.Spread.id x.Spread.caps]
structure Kn where
  k_g_ref17_Tree : (List TKnapsackref17Spec) → Int → Option (TBoxtreeBox × Int)
  k_g_ref17_Widths : TBoxtreeBox → Option (Int × Int)
  k_g_slices_symMergeCmpFunc_int : (List Int) → Int → Int → Int → Fv → Option (List Int)
  d_Int_Int__Int : Fv → Int → Int → Option Int
  d_ListTBoxtreeBox_TCascadeStyle_Int__ListTBlockFragmentInt : Fv → (List TBoxtreeBox) → TCascadeStyle → Int → Option ((List TBlockFragment) × Int)
  d_ListTBoxtreeBox_TCascadeStyle__IntInt : Fv → (List TBoxtreeBox) → TCascadeStyle → Option (Int × Int)
  d_TBoxtreeBox_Int__TBlockFragment : Fv → TBoxtreeBox → Int → Option TBlockFragment
  d_TBoxtreeBox__Bool : Fv → TBoxtreeBox → Option Bool
  d_TBoxtreeBox__IntInt : Fv → TBoxtreeBox → Option (Int × Int)
end Go.Proofs.Ytlpndemhnpajiaa

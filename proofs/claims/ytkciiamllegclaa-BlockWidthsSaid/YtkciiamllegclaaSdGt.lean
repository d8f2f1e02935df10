/- Types of layer 17's program as Lean types, with their cells. Made by a program. -/
import Derived.Test.YtkciiamllegclaaVy
namespace Go.Proofs.Ytkciiamllegclaa
open Go.RowKit
set_option maxRecDepth 20000
set_option linter.all false
set_option linter.unusedVariables false
set_option linter.unusedSimpArgs false

structure TBlockMargin where
  Pos : Int
  Neg : Int
def zTBlockMargin : TBlockMargin := ⟨0, 0⟩
instance : Inhabited TBlockMargin := ⟨zTBlockMargin⟩
def qTBlockMargin (x y : TBlockMargin) : Bool := ((x.Pos == y.Pos) && ((x.Neg == y.Neg) && true))
def eTBlockMargin (x : TBlockMargin) : List AV := [.int .i64 x.Pos, .int .i64 x.Neg]
theorem eTBlockMargin_len (x : TBlockMargin) : (eTBlockMargin x).length = 2 := rfl
structure TCascadeLength where
  Kind : Int
  Value : Int
def zTCascadeLength : TCascadeLength := ⟨0, 0⟩
instance : Inhabited TCascadeLength := ⟨zTCascadeLength⟩
def qTCascadeLength (x y : TCascadeLength) : Bool := ((x.Kind == y.Kind) && ((x.Value == y.Value) && true))
def eTCascadeLength (x : TCascadeLength) : List AV := [.int .i64 x.Kind, .int .i64 x.Value]
theorem eTCascadeLength_len (x : TCascadeLength) : (eTCascadeLength x).length = 2 := rfl
structure TCascadeStyle where
  Display : Int
  Position : Int
  Left : TCascadeLength
  Top : TCascadeLength
  Width : TCascadeLength
  Height : TCascadeLength
  MinWidth : TCascadeLength
  MaxWidth : TCascadeLength
  Margin : (V4 TCascadeLength)
  Padding : (V4 TCascadeLength)
  Border : (V4 Int)
  BorderColor : ByteArray
  Color : ByteArray
  Background : ByteArray
  FontSize : Int
  LineHeight : Int
  TextAlign : Int
  WhiteSpace : Int
  VAlign : Int
  Direction : Int
  Wrap : Bool
  Grow : Int
  Shrink : Int
  Basis : TCascadeLength
  Order : Int
  Z : Int
  ZAuto : Bool
  Overflow : Int
  Visibility : Int
def zTCascadeStyle : TCascadeStyle := ⟨0, 0, ⟨0, 0⟩, ⟨0, 0⟩, ⟨0, 0⟩, ⟨0, 0⟩, ⟨0, 0⟩, ⟨0, 0⟩, ⟨⟨0, 0⟩, ⟨0, 0⟩, ⟨0, 0⟩, ⟨0, 0⟩⟩, ⟨⟨0, 0⟩, ⟨0, 0⟩, ⟨0, 0⟩, ⟨0, 0⟩⟩, ⟨0, 0, 0, 0⟩, ⟨#[]⟩, ⟨#[]⟩, ⟨#[]⟩, 0, 0, 0, 0, 0, 0, false, 0, 0, ⟨0, 0⟩, 0, 0, false, 0, 0⟩
instance : Inhabited TCascadeStyle := ⟨zTCascadeStyle⟩
def qTCascadeStyle (x y : TCascadeStyle) : Bool := ((x.Display == y.Display) && ((x.Position == y.Position) && ((qTCascadeLength x.Left y.Left) && ((qTCascadeLength x.Top y.Top) && ((qTCascadeLength x.Width y.Width) && ((qTCascadeLength x.Height y.Height) && ((qTCascadeLength x.MinWidth y.MinWidth) && ((qTCascadeLength x.MaxWidth y.MaxWidth) && (((qTCascadeLength x.Margin.a0 y.Margin.a0) && ((qTCascadeLength x.Margin.a1 y.Margin.a1) && ((qTCascadeLength x.Margin.a2 y.Margin.a2) && ((qTCascadeLength x.Margin.a3 y.Margin.a3) && true)))) && (((qTCascadeLength x.Padding.a0 y.Padding.a0) && ((qTCascadeLength x.Padding.a1 y.Padding.a1) && ((qTCascadeLength x.Padding.a2 y.Padding.a2) && ((qTCascadeLength x.Padding.a3 y.Padding.a3) && true)))) && (((x.Border.a0 == y.Border.a0) && ((x.Border.a1 == y.Border.a1) && ((x.Border.a2 == y.Border.a2) && ((x.Border.a3 == y.Border.a3) && true)))) && ((x.BorderColor.toList == y.BorderColor.toList) && ((x.Color.toList == y.Color.toList) && ((x.Background.toList == y.Background.toList) && ((x.FontSize == y.FontSize) && ((x.LineHeight == y.LineHeight) && ((x.TextAlign == y.TextAlign) && ((x.WhiteSpace == y.WhiteSpace) && ((x.VAlign == y.VAlign) && ((x.Direction == y.Direction) && ((x.Wrap == y.Wrap) && ((x.Grow == y.Grow) && ((x.Shrink == y.Shrink) && ((qTCascadeLength x.Basis y.Basis) && ((x.Order == y.Order) && ((x.Z == y.Z) && ((x.ZAuto == y.ZAuto) && ((x.Overflow == y.Overflow) && ((x.Visibility == y.Visibility) && true)))))))))))))))))))))))))))))
def eTCascadeStyle (x : TCascadeStyle) : List AV := [.int .i64 x.Display, .int .i64 x.Position, .int .i64 x.Left.Kind, .int .i64 x.Left.Value, .int .i64 x.Top.Kind, .int .i64 x.Top.Value, .int .i64 x.Width.Kind, .int .i64 x.Width.Value, .int .i64 x.Height.Kind, .int .i64 x.Height.Value, .int .i64 x.MinWidth.Kind, .int .i64 x.MinWidth.Value, .int .i64 x.MaxWidth.Kind, .int .i64 x.MaxWidth.Value, .int .i64 x.Margin.a0.Kind, .int .i64 x.Margin.a0.Value, .int .i64 x.Margin.a1.Kind, .int .i64 x.Margin.a1.Value, .int .i64 x.Margin.a2.Kind, .int .i64 x.Margin.a2.Value, .int .i64 x.Margin.a3.Kind, .int .i64 x.Margin.a3.Value, .int .i64 x.Padding.a0.Kind, .int .i64 x.Padding.a0.Value, .int .i64 x.Padding.a1.Kind, .int .i64 x.Padding.a1.Value, .int .i64 x.Padding.a2.Kind, .int .i64 x.Padding.a2.Value, .int .i64 x.Padding.a3.Kind, .int .i64 x.Padding.a3.Value, .int .i64 x.Border.a0, .int .i64 x.Border.a1, .int .i64 x.Border.a2, .int .i64 x.Border.a3, .str x.BorderColor, .str x.Color, .str x.Background, .int .i64 x.FontSize, .int .i64 x.LineHeight, .int .i64 x.TextAlign, .int .i64 x.WhiteSpace, .int .i64 x.VAlign, .int .i64 x.Direction, .bool x.Wrap, .int .i64 x.Grow, .int .i64 x.Shrink, .int .i64 x.Basis.Kind, .int .i64 x.Basis.Value, .int .i64 x.Order, .int .i64 x.Z, .bool x.ZAuto, .int .i64 x.Overflow, .int .i64 x.Visibility]
theorem eTCascadeStyle_len (x : TCascadeStyle) : (eTCascadeStyle x).length = 53 := rfl
structure TKnapsackref17Spec where
  Depth : Int
  Kind : Int
  Text : ByteArray
  Rows : Int
  Cols : Int
  Style : TCascadeStyle
def zTKnapsackref17Spec : TKnapsackref17Spec := ⟨0, 0, ⟨#[]⟩, 0, 0, ⟨0, 0, ⟨0, 0⟩, ⟨0, 0⟩, ⟨0, 0⟩, ⟨0, 0⟩, ⟨0, 0⟩, ⟨0, 0⟩, ⟨⟨0, 0⟩, ⟨0, 0⟩, ⟨0, 0⟩, ⟨0, 0⟩⟩, ⟨⟨0, 0⟩, ⟨0, 0⟩, ⟨0, 0⟩, ⟨0, 0⟩⟩, ⟨0, 0, 0, 0⟩, ⟨#[]⟩, ⟨#[]⟩, ⟨#[]⟩, 0, 0, 0, 0, 0, 0, false, 0, 0, ⟨0, 0⟩, 0, 0, false, 0, 0⟩⟩
instance : Inhabited TKnapsackref17Spec := ⟨zTKnapsackref17Spec⟩
def qTKnapsackref17Spec (x y : TKnapsackref17Spec) : Bool := ((x.Depth == y.Depth) && ((x.Kind == y.Kind) && ((x.Text.toList == y.Text.toList) && ((x.Rows == y.Rows) && ((x.Cols == y.Cols) && ((qTCascadeStyle x.Style y.Style) && true))))))
def eTKnapsackref17Spec (x : TKnapsackref17Spec) : List AV := [.int .u8 x.Depth, .int .u8 x.Kind, .str x.Text, .int .u8 x.Rows, .int .u8 x.Cols, .int .i64 x.Style.Display, .int .i64 x.Style.Position, .int .i64 x.Style.Left.Kind, .int .i64 x.Style.Left.Value, .int .i64 x.Style.Top.Kind, .int .i64 x.Style.Top.Value, .int .i64 x.Style.Width.Kind, .int .i64 x.Style.Width.Value, .int .i64 x.Style.Height.Kind, .int .i64 x.Style.Height.Value, .int .i64 x.Style.MinWidth.Kind, .int .i64 x.Style.MinWidth.Value, .int .i64 x.Style.MaxWidth.Kind, .int .i64 x.Style.MaxWidth.Value, .int .i64 x.Style.Margin.a0.Kind, .int .i64 x.Style.Margin.a0.Value, .int .i64 x.Style.Margin.a1.Kind, .int .i64 x.Style.Margin.a1.Value, .int .i64 x.Style.Margin.a2.Kind, .int .i64 x.Style.Margin.a2.Value, .int .i64 x.Style.Margin.a3.Kind, .int .i64 x.Style.Margin.a3.Value, .int .i64 x.Style.Padding.a0.Kind, .int .i64 x.Style.Padding.a0.Value, .int .i64 x.Style.Padding.a1.Kind, .int .i64 x.Style.Padding.a1.Value, .int .i64 x.Style.Padding.a2.Kind, .int .i64 x.Style.Padding.a2.Value, .int .i64 x.Style.Padding.a3.Kind, .int .i64 x.Style.Padding.a3.Value, .int .i64 x.Style.Border.a0, .int .i64 x.Style.Border.a1, .int .i64 x.Style.Border.a2, .int .i64 x.Style.Border.a3, .str x.Style.BorderColor, .str x.Style.Color, .str x.Style.Background, .int .i64 x.Style.FontSize, .int .i64 x.Style.LineHeight, .int .i64 x.Style.TextAlign, .int .i64 x.Style.WhiteSpace, .int .i64 x.Style.VAlign, .int .i64 x.Style.Direction, .bool x.Style.Wrap, .int .i64 x.Style.Grow, .int .i64 x.Style.Shrink, .int .i64 x.Style.Basis.Kind, .int .i64 x.Style.Basis.Value, .int .i64 x.Style.Order, .int .i64 x.Style.Z, .bool x.Style.ZAuto, .int .i64 x.Style.Overflow, .int .i64 x.Style.Visibility]
theorem eTKnapsackref17Spec_len (x : TKnapsackref17Spec) : (eTKnapsackref17Spec x).length = 58 := rfl
structure TBlockSizes where
  Margin : (V4 Int)
  Border : (V4 Int)
  Padding : (V4 Int)
  Content : Int
def zTBlockSizes : TBlockSizes := ⟨⟨0, 0, 0, 0⟩, ⟨0, 0, 0, 0⟩, ⟨0, 0, 0, 0⟩, 0⟩
instance : Inhabited TBlockSizes := ⟨zTBlockSizes⟩
def qTBlockSizes (x y : TBlockSizes) : Bool := (((x.Margin.a0 == y.Margin.a0) && ((x.Margin.a1 == y.Margin.a1) && ((x.Margin.a2 == y.Margin.a2) && ((x.Margin.a3 == y.Margin.a3) && true)))) && (((x.Border.a0 == y.Border.a0) && ((x.Border.a1 == y.Border.a1) && ((x.Border.a2 == y.Border.a2) && ((x.Border.a3 == y.Border.a3) && true)))) && (((x.Padding.a0 == y.Padding.a0) && ((x.Padding.a1 == y.Padding.a1) && ((x.Padding.a2 == y.Padding.a2) && ((x.Padding.a3 == y.Padding.a3) && true)))) && ((x.Content == y.Content) && true))))
def eTBlockSizes (x : TBlockSizes) : List AV := [.int .i64 x.Margin.a0, .int .i64 x.Margin.a1, .int .i64 x.Margin.a2, .int .i64 x.Margin.a3, .int .i64 x.Border.a0, .int .i64 x.Border.a1, .int .i64 x.Border.a2, .int .i64 x.Border.a3, .int .i64 x.Padding.a0, .int .i64 x.Padding.a1, .int .i64 x.Padding.a2, .int .i64 x.Padding.a3, .int .i64 x.Content]
theorem eTBlockSizes_len (x : TBlockSizes) : (eTBlockSizes x).length = 13 := rfl
structure TBlockFragment where
  Kind : Int
  Node : Int
  X : Int
  Y : Int
  W : Int
  H : Int
  Base : Int
  Text : ByteArray
  Style : TCascadeStyle
  Before : TBlockMargin
  After : TBlockMargin
  Empty : Bool
  Kids : (List TBlockFragment)
def zTBlockFragment : TBlockFragment := ⟨0, 0, 0, 0, 0, 0, 0, ⟨#[]⟩, ⟨0, 0, ⟨0, 0⟩, ⟨0, 0⟩, ⟨0, 0⟩, ⟨0, 0⟩, ⟨0, 0⟩, ⟨0, 0⟩, ⟨⟨0, 0⟩, ⟨0, 0⟩, ⟨0, 0⟩, ⟨0, 0⟩⟩, ⟨⟨0, 0⟩, ⟨0, 0⟩, ⟨0, 0⟩, ⟨0, 0⟩⟩, ⟨0, 0, 0, 0⟩, ⟨#[]⟩, ⟨#[]⟩, ⟨#[]⟩, 0, 0, 0, 0, 0, 0, false, 0, 0, ⟨0, 0⟩, 0, 0, false, 0, 0⟩, ⟨0, 0⟩, ⟨0, 0⟩, false, []⟩
instance : Inhabited TBlockFragment := ⟨zTBlockFragment⟩
mutual
def eTBlockFragment : TBlockFragment → List AV
  | ⟨Kind, Node, X, Y, W, H, Base, Text, Style, Before, After, Empty, Kids⟩ => [.int .i64 Kind, .int .i64 Node, .int .i64 X, .int .i64 Y, .int .i64 W, .int .i64 H, .int .i64 Base, .str Text, .int .i64 Style.Display, .int .i64 Style.Position, .int .i64 Style.Left.Kind, .int .i64 Style.Left.Value, .int .i64 Style.Top.Kind, .int .i64 Style.Top.Value, .int .i64 Style.Width.Kind, .int .i64 Style.Width.Value, .int .i64 Style.Height.Kind, .int .i64 Style.Height.Value, .int .i64 Style.MinWidth.Kind, .int .i64 Style.MinWidth.Value, .int .i64 Style.MaxWidth.Kind, .int .i64 Style.MaxWidth.Value, .int .i64 Style.Margin.a0.Kind, .int .i64 Style.Margin.a0.Value, .int .i64 Style.Margin.a1.Kind, .int .i64 Style.Margin.a1.Value, .int .i64 Style.Margin.a2.Kind, .int .i64 Style.Margin.a2.Value, .int .i64 Style.Margin.a3.Kind, .int .i64 Style.Margin.a3.Value, .int .i64 Style.Padding.a0.Kind, .int .i64 Style.Padding.a0.Value, .int .i64 Style.Padding.a1.Kind, .int .i64 Style.Padding.a1.Value, .int .i64 Style.Padding.a2.Kind, .int .i64 Style.Padding.a2.Value, .int .i64 Style.Padding.a3.Kind, .int .i64 Style.Padding.a3.Value, .int .i64 Style.Border.a0, .int .i64 Style.Border.a1, .int .i64 Style.Border.a2, .int .i64 Style.Border.a3, .str Style.BorderColor, .str Style.Color, .str Style.Background, .int .i64 Style.FontSize, .int .i64 Style.LineHeight, .int .i64 Style.TextAlign, .int .i64 Style.WhiteSpace, .int .i64 Style.VAlign, .int .i64 Style.Direction, .bool Style.Wrap, .int .i64 Style.Grow, .int .i64 Style.Shrink, .int .i64 Style.Basis.Kind, .int .i64 Style.Basis.Value, .int .i64 Style.Order, .int .i64 Style.Z, .bool Style.ZAuto, .int .i64 Style.Overflow, .int .i64 Style.Visibility, .int .i64 Before.Pos, .int .i64 Before.Neg, .int .i64 After.Pos, .int .i64 After.Neg, .bool Empty, .sl (eTBlockFragments Kids)]
def eTBlockFragments : List TBlockFragment → List (List AV)
  | [] => []
  | x :: r => eTBlockFragment x :: eTBlockFragments r
end
theorem eTBlockFragments_map : ∀ l : List TBlockFragment, eTBlockFragments l = l.map eTBlockFragment
  | [] => by simp [eTBlockFragments]
  | x :: r => by simp [eTBlockFragments, eTBlockFragments_map r]
def xTBlockFragment (x : TBlockFragment) : List AV := [.int .i64 x.Kind, .int .i64 x.Node, .int .i64 x.X, .int .i64 x.Y, .int .i64 x.W, .int .i64 x.H, .int .i64 x.Base, .str x.Text, .int .i64 x.Style.Display, .int .i64 x.Style.Position, .int .i64 x.Style.Left.Kind, .int .i64 x.Style.Left.Value, .int .i64 x.Style.Top.Kind, .int .i64 x.Style.Top.Value, .int .i64 x.Style.Width.Kind, .int .i64 x.Style.Width.Value, .int .i64 x.Style.Height.Kind, .int .i64 x.Style.Height.Value, .int .i64 x.Style.MinWidth.Kind, .int .i64 x.Style.MinWidth.Value, .int .i64 x.Style.MaxWidth.Kind, .int .i64 x.Style.MaxWidth.Value, .int .i64 x.Style.Margin.a0.Kind, .int .i64 x.Style.Margin.a0.Value, .int .i64 x.Style.Margin.a1.Kind, .int .i64 x.Style.Margin.a1.Value, .int .i64 x.Style.Margin.a2.Kind, .int .i64 x.Style.Margin.a2.Value, .int .i64 x.Style.Margin.a3.Kind, .int .i64 x.Style.Margin.a3.Value, .int .i64 x.Style.Padding.a0.Kind, .int .i64 x.Style.Padding.a0.Value, .int .i64 x.Style.Padding.a1.Kind, .int .i64 x.Style.Padding.a1.Value, .int .i64 x.Style.Padding.a2.Kind, .int .i64 x.Style.Padding.a2.Value, .int .i64 x.Style.Padding.a3.Kind, .int .i64 x.Style.Padding.a3.Value, .int .i64 x.Style.Border.a0, .int .i64 x.Style.Border.a1, .int .i64 x.Style.Border.a2, .int .i64 x.Style.Border.a3, .str x.Style.BorderColor, .str x.Style.Color, .str x.Style.Background, .int .i64 x.Style.FontSize, .int .i64 x.Style.LineHeight, .int .i64 x.Style.TextAlign, .int .i64 x.Style.WhiteSpace, .int .i64 x.Style.VAlign, .int .i64 x.Style.Direction, .bool x.Style.Wrap, .int .i64 x.Style.Grow, .int .i64 x.Style.Shrink, .int .i64 x.Style.Basis.Kind, .int .i64 x.Style.Basis.Value, .int .i64 x.Style.Order, .int .i64 x.Style.Z, .bool x.Style.ZAuto, .int .i64 x.Style.Overflow, .int .i64 x.Style.Visibility, .int .i64 x.Before.Pos, .int .i64 x.Before.Neg, .int .i64 x.After.Pos, .int .i64 x.After.Neg, .bool x.Empty, .sl (List.map eTBlockFragment x.Kids)]
theorem xTBlockFragment_eq (x : TBlockFragment) : eTBlockFragment x = xTBlockFragment x := by
  cases x; simp only [eTBlockFragment, xTBlockFragment, eTBlockFragments_map]
theorem eTBlockFragment_len (x : TBlockFragment) : (eTBlockFragment x).length = 67 := by rw [xTBlockFragment_eq]; rfl
structure TKnapsackref17Placed where
  List : (List TBlockFragment)
  Height : Int
  Before : TBlockMargin
  After : TBlockMargin
  Through : Bool
def zTKnapsackref17Placed : TKnapsackref17Placed := ⟨[], 0, ⟨0, 0⟩, ⟨0, 0⟩, false⟩
instance : Inhabited TKnapsackref17Placed := ⟨zTKnapsackref17Placed⟩
def eTKnapsackref17Placed (x : TKnapsackref17Placed) : List AV := [.sl (List.map eTBlockFragment x.List), .int .i64 x.Height, .int .i64 x.Before.Pos, .int .i64 x.Before.Neg, .int .i64 x.After.Pos, .int .i64 x.After.Neg, .bool x.Through]
theorem eTKnapsackref17Placed_len (x : TKnapsackref17Placed) : (eTKnapsackref17Placed x).length = 7 := rfl
structure TBoxtreeBox where
  Kind : Int
  Node : Int
  Style : TCascadeStyle
  Text : ByteArray
  Rows : Int
  Cols : Int
  Kids : (List TBoxtreeBox)
def zTBoxtreeBox : TBoxtreeBox := ⟨0, 0, ⟨0, 0, ⟨0, 0⟩, ⟨0, 0⟩, ⟨0, 0⟩, ⟨0, 0⟩, ⟨0, 0⟩, ⟨0, 0⟩, ⟨⟨0, 0⟩, ⟨0, 0⟩, ⟨0, 0⟩, ⟨0, 0⟩⟩, ⟨⟨0, 0⟩, ⟨0, 0⟩, ⟨0, 0⟩, ⟨0, 0⟩⟩, ⟨0, 0, 0, 0⟩, ⟨#[]⟩, ⟨#[]⟩, ⟨#[]⟩, 0, 0, 0, 0, 0, 0, false, 0, 0, ⟨0, 0⟩, 0, 0, false, 0, 0⟩, ⟨#[]⟩, 0, 0, []⟩
instance : Inhabited TBoxtreeBox := ⟨zTBoxtreeBox⟩
mutual
def eTBoxtreeBox : TBoxtreeBox → List AV
  | ⟨Kind, Node, Style, Text, Rows, Cols, Kids⟩ => [.int .i64 Kind, .int .i64 Node, .int .i64 Style.Display, .int .i64 Style.Position, .int .i64 Style.Left.Kind, .int .i64 Style.Left.Value, .int .i64 Style.Top.Kind, .int .i64 Style.Top.Value, .int .i64 Style.Width.Kind, .int .i64 Style.Width.Value, .int .i64 Style.Height.Kind, .int .i64 Style.Height.Value, .int .i64 Style.MinWidth.Kind, .int .i64 Style.MinWidth.Value, .int .i64 Style.MaxWidth.Kind, .int .i64 Style.MaxWidth.Value, .int .i64 Style.Margin.a0.Kind, .int .i64 Style.Margin.a0.Value, .int .i64 Style.Margin.a1.Kind, .int .i64 Style.Margin.a1.Value, .int .i64 Style.Margin.a2.Kind, .int .i64 Style.Margin.a2.Value, .int .i64 Style.Margin.a3.Kind, .int .i64 Style.Margin.a3.Value, .int .i64 Style.Padding.a0.Kind, .int .i64 Style.Padding.a0.Value, .int .i64 Style.Padding.a1.Kind, .int .i64 Style.Padding.a1.Value, .int .i64 Style.Padding.a2.Kind, .int .i64 Style.Padding.a2.Value, .int .i64 Style.Padding.a3.Kind, .int .i64 Style.Padding.a3.Value, .int .i64 Style.Border.a0, .int .i64 Style.Border.a1, .int .i64 Style.Border.a2, .int .i64 Style.Border.a3, .str Style.BorderColor, .str Style.Color, .str Style.Background, .int .i64 Style.FontSize, .int .i64 Style.LineHeight, .int .i64 Style.TextAlign, .int .i64 Style.WhiteSpace, .int .i64 Style.VAlign, .int .i64 Style.Direction, .bool Style.Wrap, .int .i64 Style.Grow, .int .i64 Style.Shrink, .int .i64 Style.Basis.Kind, .int .i64 Style.Basis.Value, .int .i64 Style.Order, .int .i64 Style.Z, .bool Style.ZAuto, .int .i64 Style.Overflow, .int .i64 Style.Visibility, .str Text, .int .i64 Rows, .int .i64 Cols, .sl (eTBoxtreeBoxs Kids)]
def eTBoxtreeBoxs : List TBoxtreeBox → List (List AV)
  | [] => []
  | x :: r => eTBoxtreeBox x :: eTBoxtreeBoxs r
end
theorem eTBoxtreeBoxs_map : ∀ l : List TBoxtreeBox, eTBoxtreeBoxs l = l.map eTBoxtreeBox
  | [] => by simp [eTBoxtreeBoxs]
  | x :: r => by simp [eTBoxtreeBoxs, eTBoxtreeBoxs_map r]
def xTBoxtreeBox (x : TBoxtreeBox) : List AV := [.int .i64 x.Kind, .int .i64 x.Node, .int .i64 x.Style.Display, .int .i64 x.Style.Position, .int .i64 x.Style.Left.Kind, .int .i64 x.Style.Left.Value, .int .i64 x.Style.Top.Kind, .int .i64 x.Style.Top.Value, .int .i64 x.Style.Width.Kind, .int .i64 x.Style.Width.Value, .int .i64 x.Style.Height.Kind, .int .i64 x.Style.Height.Value, .int .i64 x.Style.MinWidth.Kind, .int .i64 x.Style.MinWidth.Value, .int .i64 x.Style.MaxWidth.Kind, .int .i64 x.Style.MaxWidth.Value, .int .i64 x.Style.Margin.a0.Kind, .int .i64 x.Style.Margin.a0.Value, .int .i64 x.Style.Margin.a1.Kind, .int .i64 x.Style.Margin.a1.Value, .int .i64 x.Style.Margin.a2.Kind, .int .i64 x.Style.Margin.a2.Value, .int .i64 x.Style.Margin.a3.Kind, .int .i64 x.Style.Margin.a3.Value, .int .i64 x.Style.Padding.a0.Kind, .int .i64 x.Style.Padding.a0.Value, .int .i64 x.Style.Padding.a1.Kind, .int .i64 x.Style.Padding.a1.Value, .int .i64 x.Style.Padding.a2.Kind, .int .i64 x.Style.Padding.a2.Value, .int .i64 x.Style.Padding.a3.Kind, .int .i64 x.Style.Padding.a3.Value, .int .i64 x.Style.Border.a0, .int .i64 x.Style.Border.a1, .int .i64 x.Style.Border.a2, .int .i64 x.Style.Border.a3, .str x.Style.BorderColor, .str x.Style.Color, .str x.Style.Background, .int .i64 x.Style.FontSize, .int .i64 x.Style.LineHeight, .int .i64 x.Style.TextAlign, .int .i64 x.Style.WhiteSpace, .int .i64 x.Style.VAlign, .int .i64 x.Style.Direction, .bool x.Style.Wrap, .int .i64 x.Style.Grow, .int .i64 x.Style.Shrink, .int .i64 x.Style.Basis.Kind, .int .i64 x.Style.Basis.Value, .int .i64 x.Style.Order, .int .i64 x.Style.Z, .bool x.Style.ZAuto, .int .i64 x.Style.Overflow, .int .i64 x.Style.Visibility, .str x.Text, .int .i64 x.Rows, .int .i64 x.Cols, .sl (List.map eTBoxtreeBox x.Kids)]
theorem xTBoxtreeBox_eq (x : TBoxtreeBox) : eTBoxtreeBox x = xTBoxtreeBox x := by
  cases x; simp only [eTBoxtreeBox, xTBoxtreeBox, eTBoxtreeBoxs_map]
theorem eTBoxtreeBox_len (x : TBoxtreeBox) : (eTBoxtreeBox x).length = 59 := by rw [xTBoxtreeBox_eq]; rfl
structure TBlockEnv where
  Layout : Nat
  Widths : Nat
  Lines : Nat
  Spread : Nat
def zTBlockEnv : TBlockEnv := ⟨0, 0, 0, 0⟩
instance : Inhabited TBlockEnv := ⟨zTBlockEnv⟩
def eTBlockEnv (x : TBlockEnv) : List AV := [.fn x.Layout, .fn x.Widths, .fn x.Lines, .fn x.Spread]
theorem eTBlockEnv_len (x : TBlockEnv) : (eTBlockEnv x).length = 4 := rfl

/-- Calls that come back, and calls of function values. -/
structure Kn where
  k_g_ref17_Tree : (List TKnapsackref17Spec) → Int → Option (TBoxtreeBox × Int)
  k_g_ref17_Layout : TBoxtreeBox → Int → Option TBlockFragment
  k_g_ref17_Same : TBlockFragment → TBlockFragment → Option Bool
  k_g_ref17_Widths : TBoxtreeBox → Option (Int × Int)
  d_ListTBoxtreeBox_TCascadeStyle_Int__ListTBlockFragmentInt : Nat → (List TBoxtreeBox) → TCascadeStyle → Int → Option ((List TBlockFragment) × Int)
  d_ListTBoxtreeBox_TCascadeStyle__IntInt : Nat → (List TBoxtreeBox) → TCascadeStyle → Option (Int × Int)
  d_TBoxtreeBox_Int__TBlockFragment : Nat → TBoxtreeBox → Int → Option TBlockFragment
  d_TBoxtreeBox__Bool : Nat → TBoxtreeBox → Option Bool
  d_TBoxtreeBox__IntInt : Nat → TBoxtreeBox → Option (Int × Int)
end Go.Proofs.Ytkciiamllegclaa

/- Types of layer 19's program as Lean types, with their cells. Made by a program. -/
import Derived.Test.YtlpndemhnpajiaaSnVz
namespace Go.Proofs.Ytlpndemhnpajiaa
open Go.RowKit
set_option maxRecDepth 20000
set_option linter.all false
set_option linter.unusedVariables false
set_option linter.unusedSimpArgs false
structure aw where
  Base:Int
  Grow:Int
  Shrink:Int
  Min:Int
  Max:Int
def gp:aw:=⟨0,0,0,0,0⟩
instance:Inhabited aw:=⟨gp⟩
def aF (x:aw):List AV:=[.int .i64 x.Base,.int .i64 x.Grow,.int .i64 x.Shrink,.int .i64 x.Min,.int .i64 x.Max]
theorem jv (x:aw):(aF x).length=5:=rfl
structure aQ where
  Kind:Int
  Value:Int
def bz:aQ:=⟨0,0⟩
instance:Inhabited aQ:=⟨bz⟩
def dX (x y:aQ):Bool:=((x.Kind == y.Kind) && ((x.Value == y.Value) && true))
def cE (x:aQ):List AV:=[.int .i64 x.Kind,.int .i64 x.Value]
structure aE where
  Display:Int
  Position:Int
  Left:aQ
  Top:aQ
  Width:aQ
  Height:aQ
  MinWidth:aQ
  MaxWidth:aQ
  Margin:(V4 aQ)
  Padding:(V4 aQ)
  Border:(V4 Int)
  BorderColor:ByteArray
  Color:ByteArray
  Background:ByteArray
  FontSize:Int
  LineHeight:Int
  TextAlign:Int
  WhiteSpace:Int
  VAlign:Int
  Direction:Int
  Wrap:Bool
  Grow:Int
  Shrink:Int
  Basis:aQ
  Order:Int
  Z:Int
  ZAuto:Bool
  Overflow:Int
  Visibility:Int
def cr:aE:=⟨0,0,⟨0,0⟩,⟨0,0⟩,⟨0,0⟩,⟨0,0⟩,⟨0,0⟩,⟨0,0⟩,⟨⟨0,0⟩,⟨0,0⟩,⟨0,0⟩,⟨0,0⟩⟩,⟨⟨0,0⟩,⟨0,0⟩,⟨0,0⟩,⟨0,0⟩⟩,⟨0,0,0,0⟩,⟨#[]⟩,⟨#[]⟩,⟨#[]⟩,0,0,0,0,0,0,false,0,0,⟨0,0⟩,0,0,false,0,0⟩
instance:Inhabited aE:=⟨cr⟩
def uZ (x y:aE):Bool:=((x.Display == y.Display) && ((x.Position == y.Position) && ((dX x.Left y.Left) && ((dX x.Top y.Top) && ((dX x.Width y.Width) && ((dX x.Height y.Height) && ((dX x.MinWidth y.MinWidth) && ((dX x.MaxWidth y.MaxWidth) && (((dX x.Margin.a0 y.Margin.a0) && ((dX x.Margin.a1 y.Margin.a1) && ((dX x.Margin.a2 y.Margin.a2) && ((dX x.Margin.a3 y.Margin.a3) && true)))) && (((dX x.Padding.a0 y.Padding.a0) && ((dX x.Padding.a1 y.Padding.a1) && ((dX x.Padding.a2 y.Padding.a2) && ((dX x.Padding.a3 y.Padding.a3) && true)))) && (((x.Border.a0 == y.Border.a0) && ((x.Border.a1 == y.Border.a1) && ((x.Border.a2 == y.Border.a2) && ((x.Border.a3 == y.Border.a3) && true)))) && ((x.BorderColor.toList == y.BorderColor.toList) && ((x.Color.toList == y.Color.toList) && ((x.Background.toList == y.Background.toList) && ((x.FontSize == y.FontSize) && ((x.LineHeight == y.LineHeight) && ((x.TextAlign == y.TextAlign) && ((x.WhiteSpace == y.WhiteSpace) && ((x.VAlign == y.VAlign) && ((x.Direction == y.Direction) && ((x.Wrap == y.Wrap) && ((x.Grow == y.Grow) && ((x.Shrink == y.Shrink) && ((dX x.Basis y.Basis) && ((x.Order == y.Order) && ((x.Z == y.Z) && ((x.ZAuto == y.ZAuto) && ((x.Overflow == y.Overflow) && ((x.Visibility == y.Visibility) && true)))))))))))))))))))))))))))))
def aL (x:aE):List AV:=[.int .i64 x.Display,.int .i64 x.Position,.int .i64 x.Left.Kind,.int .i64 x.Left.Value,.int .i64 x.Top.Kind,.int .i64 x.Top.Value,.int .i64 x.Width.Kind,.int .i64 x.Width.Value,.int .i64 x.Height.Kind,.int .i64 x.Height.Value,.int .i64 x.MinWidth.Kind,.int .i64 x.MinWidth.Value,.int .i64 x.MaxWidth.Kind,.int .i64 x.MaxWidth.Value,.int .i64 x.Margin.a0.Kind,.int .i64 x.Margin.a0.Value,.int .i64 x.Margin.a1.Kind,.int .i64 x.Margin.a1.Value,.int .i64 x.Margin.a2.Kind,.int .i64 x.Margin.a2.Value,.int .i64 x.Margin.a3.Kind,.int .i64 x.Margin.a3.Value,.int .i64 x.Padding.a0.Kind,.int .i64 x.Padding.a0.Value,.int .i64 x.Padding.a1.Kind,.int .i64 x.Padding.a1.Value,.int .i64 x.Padding.a2.Kind,.int .i64 x.Padding.a2.Value,.int .i64 x.Padding.a3.Kind,.int .i64 x.Padding.a3.Value,.int .i64 x.Border.a0,.int .i64 x.Border.a1,.int .i64 x.Border.a2,.int .i64 x.Border.a3,.str x.BorderColor,.str x.Color,.str x.Background,.int .i64 x.FontSize,.int .i64 x.LineHeight,.int .i64 x.TextAlign,.int .i64 x.WhiteSpace,.int .i64 x.VAlign,.int .i64 x.Direction,.bool x.Wrap,.int .i64 x.Grow,.int .i64 x.Shrink,.int .i64 x.Basis.Kind,.int .i64 x.Basis.Value,.int .i64 x.Order,.int .i64 x.Z,.bool x.ZAuto,.int .i64 x.Overflow,.int .i64 x.Visibility]
structure bU where
  Depth:Int
  Kind:Int
  Text:ByteArray
  Rows:Int
  Cols:Int
  Style:aE
def Cc:bU:=⟨0,0,⟨#[]⟩,0,0,⟨0,0,⟨0,0⟩,⟨0,0⟩,⟨0,0⟩,⟨0,0⟩,⟨0,0⟩,⟨0,0⟩,⟨⟨0,0⟩,⟨0,0⟩,⟨0,0⟩,⟨0,0⟩⟩,⟨⟨0,0⟩,⟨0,0⟩,⟨0,0⟩,⟨0,0⟩⟩,⟨0,0,0,0⟩,⟨#[]⟩,⟨#[]⟩,⟨#[]⟩,0,0,0,0,0,0,false,0,0,⟨0,0⟩,0,0,false,0,0⟩⟩
instance:Inhabited bU:=⟨Cc⟩
def bg (x:bU):List AV:=[.int .u8 x.Depth,.int .u8 x.Kind,.str x.Text,.int .u8 x.Rows,.int .u8 x.Cols,.int .i64 x.Style.Display,.int .i64 x.Style.Position,.int .i64 x.Style.Left.Kind,.int .i64 x.Style.Left.Value,.int .i64 x.Style.Top.Kind,.int .i64 x.Style.Top.Value,.int .i64 x.Style.Width.Kind,.int .i64 x.Style.Width.Value,.int .i64 x.Style.Height.Kind,.int .i64 x.Style.Height.Value,.int .i64 x.Style.MinWidth.Kind,.int .i64 x.Style.MinWidth.Value,.int .i64 x.Style.MaxWidth.Kind,.int .i64 x.Style.MaxWidth.Value,.int .i64 x.Style.Margin.a0.Kind,.int .i64 x.Style.Margin.a0.Value,.int .i64 x.Style.Margin.a1.Kind,.int .i64 x.Style.Margin.a1.Value,.int .i64 x.Style.Margin.a2.Kind,.int .i64 x.Style.Margin.a2.Value,.int .i64 x.Style.Margin.a3.Kind,.int .i64 x.Style.Margin.a3.Value,.int .i64 x.Style.Padding.a0.Kind,.int .i64 x.Style.Padding.a0.Value,.int .i64 x.Style.Padding.a1.Kind,.int .i64 x.Style.Padding.a1.Value,.int .i64 x.Style.Padding.a2.Kind,.int .i64 x.Style.Padding.a2.Value,.int .i64 x.Style.Padding.a3.Kind,.int .i64 x.Style.Padding.a3.Value,.int .i64 x.Style.Border.a0,.int .i64 x.Style.Border.a1,.int .i64 x.Style.Border.a2,.int .i64 x.Style.Border.a3,.str x.Style.BorderColor,.str x.Style.Color,.str x.Style.Background,.int .i64 x.Style.FontSize,.int .i64 x.Style.LineHeight,.int .i64 x.Style.TextAlign,.int .i64 x.Style.WhiteSpace,.int .i64 x.Style.VAlign,.int .i64 x.Style.Direction,.bool x.Style.Wrap,.int .i64 x.Style.Grow,.int .i64 x.Style.Shrink,.int .i64 x.Style.Basis.Kind,.int .i64 x.Style.Basis.Value,.int .i64 x.Style.Order,.int .i64 x.Style.Z,.bool x.Style.ZAuto,.int .i64 x.Style.Overflow,.int .i64 x.Style.Visibility]
theorem dU (x:bU):(bg x).length=58:=rfl
structure ab where
  Kind:Int
  Node:Int
  Style:aE
  Text:ByteArray
  Rows:Int
  Cols:Int
  Kids:(List ab)
def co:ab:=⟨0,0,⟨0,0,⟨0,0⟩,⟨0,0⟩,⟨0,0⟩,⟨0,0⟩,⟨0,0⟩,⟨0,0⟩,⟨⟨0,0⟩,⟨0,0⟩,⟨0,0⟩,⟨0,0⟩⟩,⟨⟨0,0⟩,⟨0,0⟩,⟨0,0⟩,⟨0,0⟩⟩,⟨0,0,0,0⟩,⟨#[]⟩,⟨#[]⟩,⟨#[]⟩,0,0,0,0,0,0,false,0,0,⟨0,0⟩,0,0,false,0,0⟩,⟨#[]⟩,0,0,[]⟩
instance:Inhabited ab:=⟨co⟩
mutual
def aB:ab→List AV
  | ⟨Kind,Node,Style,Text,Rows,Cols,Kids⟩=>[.int .i64 Kind,.int .i64 Node,.int .i64 Style.Display,.int .i64 Style.Position,.int .i64 Style.Left.Kind,.int .i64 Style.Left.Value,.int .i64 Style.Top.Kind,.int .i64 Style.Top.Value,.int .i64 Style.Width.Kind,.int .i64 Style.Width.Value,.int .i64 Style.Height.Kind,.int .i64 Style.Height.Value,.int .i64 Style.MinWidth.Kind,.int .i64 Style.MinWidth.Value,.int .i64 Style.MaxWidth.Kind,.int .i64 Style.MaxWidth.Value,.int .i64 Style.Margin.a0.Kind,.int .i64 Style.Margin.a0.Value,.int .i64 Style.Margin.a1.Kind,.int .i64 Style.Margin.a1.Value,.int .i64 Style.Margin.a2.Kind,.int .i64 Style.Margin.a2.Value,.int .i64 Style.Margin.a3.Kind,.int .i64 Style.Margin.a3.Value,.int .i64 Style.Padding.a0.Kind,.int .i64 Style.Padding.a0.Value,.int .i64 Style.Padding.a1.Kind,.int .i64 Style.Padding.a1.Value,.int .i64 Style.Padding.a2.Kind,.int .i64 Style.Padding.a2.Value,.int .i64 Style.Padding.a3.Kind,.int .i64 Style.Padding.a3.Value,.int .i64 Style.Border.a0,.int .i64 Style.Border.a1,.int .i64 Style.Border.a2,.int .i64 Style.Border.a3,.str Style.BorderColor,.str Style.Color,.str Style.Background,.int .i64 Style.FontSize,.int .i64 Style.LineHeight,.int .i64 Style.TextAlign,.int .i64 Style.WhiteSpace,.int .i64 Style.VAlign,.int .i64 Style.Direction,.bool Style.Wrap,.int .i64 Style.Grow,.int .i64 Style.Shrink,.int .i64 Style.Basis.Kind,.int .i64 Style.Basis.Value,.int .i64 Style.Order,.int .i64 Style.Z,.bool Style.ZAuto,.int .i64 Style.Overflow,.int .i64 Style.Visibility,.str Text,.int .i64 Rows,.int .i64 Cols,.sl (sL Kids)]
def sL:List ab→List (List AV)
  | []=>[]
  | x::r=>aB x::sL r
end
theorem wo:∀ l:List ab,sL l=l.map aB
  | []=>by simp [sL]
  | x::r=>by simp [sL,wo r]
def ax (x:ab):List AV:=[.int .i64 x.Kind,.int .i64 x.Node,.int .i64 x.Style.Display,.int .i64 x.Style.Position,.int .i64 x.Style.Left.Kind,.int .i64 x.Style.Left.Value,.int .i64 x.Style.Top.Kind,.int .i64 x.Style.Top.Value,.int .i64 x.Style.Width.Kind,.int .i64 x.Style.Width.Value,.int .i64 x.Style.Height.Kind,.int .i64 x.Style.Height.Value,.int .i64 x.Style.MinWidth.Kind,.int .i64 x.Style.MinWidth.Value,.int .i64 x.Style.MaxWidth.Kind,.int .i64 x.Style.MaxWidth.Value,.int .i64 x.Style.Margin.a0.Kind,.int .i64 x.Style.Margin.a0.Value,.int .i64 x.Style.Margin.a1.Kind,.int .i64 x.Style.Margin.a1.Value,.int .i64 x.Style.Margin.a2.Kind,.int .i64 x.Style.Margin.a2.Value,.int .i64 x.Style.Margin.a3.Kind,.int .i64 x.Style.Margin.a3.Value,.int .i64 x.Style.Padding.a0.Kind,.int .i64 x.Style.Padding.a0.Value,.int .i64 x.Style.Padding.a1.Kind,.int .i64 x.Style.Padding.a1.Value,.int .i64 x.Style.Padding.a2.Kind,.int .i64 x.Style.Padding.a2.Value,.int .i64 x.Style.Padding.a3.Kind,.int .i64 x.Style.Padding.a3.Value,.int .i64 x.Style.Border.a0,.int .i64 x.Style.Border.a1,.int .i64 x.Style.Border.a2,.int .i64 x.Style.Border.a3,.str x.Style.BorderColor,.str x.Style.Color,.str x.Style.Background,.int .i64 x.Style.FontSize,.int .i64 x.Style.LineHeight,.int .i64 x.Style.TextAlign,.int .i64 x.Style.WhiteSpace,.int .i64 x.Style.VAlign,.int .i64 x.Style.Direction,.bool x.Style.Wrap,.int .i64 x.Style.Grow,.int .i64 x.Style.Shrink,.int .i64 x.Style.Basis.Kind,.int .i64 x.Style.Basis.Value,.int .i64 x.Style.Order,.int .i64 x.Style.Z,.bool x.Style.ZAuto,.int .i64 x.Style.Overflow,.int .i64 x.Style.Visibility,.str x.Text,.int .i64 x.Rows,.int .i64 x.Cols,.sl (List.map aB x.Kids)]
theorem b9 (x:ab):aB x=ax x:=by
  cases x; simp only [aB,ax,wo]
theorem cj (x:ab):(aB x).length=59:=by rw [b9]; rfl
structure ah where
  Pos:Int
  Neg:Int
def cR:ah:=⟨0,0⟩
instance:Inhabited ah:=⟨cR⟩
def tz (x y:ah):Bool:=((x.Pos == y.Pos) && ((x.Neg == y.Neg) && true))
def bH (x:ah):List AV:=[.int .i64 x.Pos,.int .i64 x.Neg]
structure aa where
  Kind:Int
  Node:Int
  X:Int
  Y:Int
  W:Int
  H:Int
  Base:Int
  Text:ByteArray
  Style:aE
  Before:ah
  After:ah
  Empty:Bool
  Kids:(List aa)
def bv:aa:=⟨0,0,0,0,0,0,0,⟨#[]⟩,⟨0,0,⟨0,0⟩,⟨0,0⟩,⟨0,0⟩,⟨0,0⟩,⟨0,0⟩,⟨0,0⟩,⟨⟨0,0⟩,⟨0,0⟩,⟨0,0⟩,⟨0,0⟩⟩,⟨⟨0,0⟩,⟨0,0⟩,⟨0,0⟩,⟨0,0⟩⟩,⟨0,0,0,0⟩,⟨#[]⟩,⟨#[]⟩,⟨#[]⟩,0,0,0,0,0,0,false,0,0,⟨0,0⟩,0,0,false,0,0⟩,⟨0,0⟩,⟨0,0⟩,false,[]⟩
instance:Inhabited aa:=⟨bv⟩
mutual
def au:aa→List AV
  | ⟨Kind,Node,X,Y,W,H,Base,Text,Style,Before,After,Empty,Kids⟩=>[.int .i64 Kind,.int .i64 Node,.int .i64 X,.int .i64 Y,.int .i64 W,.int .i64 H,.int .i64 Base,.str Text,.int .i64 Style.Display,.int .i64 Style.Position,.int .i64 Style.Left.Kind,.int .i64 Style.Left.Value,.int .i64 Style.Top.Kind,.int .i64 Style.Top.Value,.int .i64 Style.Width.Kind,.int .i64 Style.Width.Value,.int .i64 Style.Height.Kind,.int .i64 Style.Height.Value,.int .i64 Style.MinWidth.Kind,.int .i64 Style.MinWidth.Value,.int .i64 Style.MaxWidth.Kind,.int .i64 Style.MaxWidth.Value,.int .i64 Style.Margin.a0.Kind,.int .i64 Style.Margin.a0.Value,.int .i64 Style.Margin.a1.Kind,.int .i64 Style.Margin.a1.Value,.int .i64 Style.Margin.a2.Kind,.int .i64 Style.Margin.a2.Value,.int .i64 Style.Margin.a3.Kind,.int .i64 Style.Margin.a3.Value,.int .i64 Style.Padding.a0.Kind,.int .i64 Style.Padding.a0.Value,.int .i64 Style.Padding.a1.Kind,.int .i64 Style.Padding.a1.Value,.int .i64 Style.Padding.a2.Kind,.int .i64 Style.Padding.a2.Value,.int .i64 Style.Padding.a3.Kind,.int .i64 Style.Padding.a3.Value,.int .i64 Style.Border.a0,.int .i64 Style.Border.a1,.int .i64 Style.Border.a2,.int .i64 Style.Border.a3,.str Style.BorderColor,.str Style.Color,.str Style.Background,.int .i64 Style.FontSize,.int .i64 Style.LineHeight,.int .i64 Style.TextAlign,.int .i64 Style.WhiteSpace,.int .i64 Style.VAlign,.int .i64 Style.Direction,.bool Style.Wrap,.int .i64 Style.Grow,.int .i64 Style.Shrink,.int .i64 Style.Basis.Kind,.int .i64 Style.Basis.Value,.int .i64 Style.Order,.int .i64 Style.Z,.bool Style.ZAuto,.int .i64 Style.Overflow,.int .i64 Style.Visibility,.int .i64 Before.Pos,.int .i64 Before.Neg,.int .i64 After.Pos,.int .i64 After.Neg,.bool Empty,.sl (rj Kids)]
def rj:List aa→List (List AV)
  | []=>[]
  | x::r=>au x::rj r
end
theorem wH:∀ l:List aa,rj l=l.map au
  | []=>by simp [rj]
  | x::r=>by simp [rj,wH r]
def az (x:aa):List AV:=[.int .i64 x.Kind,.int .i64 x.Node,.int .i64 x.X,.int .i64 x.Y,.int .i64 x.W,.int .i64 x.H,.int .i64 x.Base,.str x.Text,.int .i64 x.Style.Display,.int .i64 x.Style.Position,.int .i64 x.Style.Left.Kind,.int .i64 x.Style.Left.Value,.int .i64 x.Style.Top.Kind,.int .i64 x.Style.Top.Value,.int .i64 x.Style.Width.Kind,.int .i64 x.Style.Width.Value,.int .i64 x.Style.Height.Kind,.int .i64 x.Style.Height.Value,.int .i64 x.Style.MinWidth.Kind,.int .i64 x.Style.MinWidth.Value,.int .i64 x.Style.MaxWidth.Kind,.int .i64 x.Style.MaxWidth.Value,.int .i64 x.Style.Margin.a0.Kind,.int .i64 x.Style.Margin.a0.Value,.int .i64 x.Style.Margin.a1.Kind,.int .i64 x.Style.Margin.a1.Value,.int .i64 x.Style.Margin.a2.Kind,.int .i64 x.Style.Margin.a2.Value,.int .i64 x.Style.Margin.a3.Kind,.int .i64 x.Style.Margin.a3.Value,.int .i64 x.Style.Padding.a0.Kind,.int .i64 x.Style.Padding.a0.Value,.int .i64 x.Style.Padding.a1.Kind,.int .i64 x.Style.Padding.a1.Value,.int .i64 x.Style.Padding.a2.Kind,.int .i64 x.Style.Padding.a2.Value,.int .i64 x.Style.Padding.a3.Kind,.int .i64 x.Style.Padding.a3.Value,.int .i64 x.Style.Border.a0,.int .i64 x.Style.Border.a1,.int .i64 x.Style.Border.a2,.int .i64 x.Style.Border.a3,.str x.Style.BorderColor,.str x.Style.Color,.str x.Style.Background,.int .i64 x.Style.FontSize,.int .i64 x.Style.LineHeight,.int .i64 x.Style.TextAlign,.int .i64 x.Style.WhiteSpace,.int .i64 x.Style.VAlign,.int .i64 x.Style.Direction,.bool x.Style.Wrap,.int .i64 x.Style.Grow,.int .i64 x.Style.Shrink,.int .i64 x.Style.Basis.Kind,.int .i64 x.Style.Basis.Value,.int .i64 x.Style.Order,.int .i64 x.Style.Z,.bool x.Style.ZAuto,.int .i64 x.Style.Overflow,.int .i64 x.Style.Visibility,.int .i64 x.Before.Pos,.int .i64 x.Before.Neg,.int .i64 x.After.Pos,.int .i64 x.After.Neg,.bool x.Empty,.sl (List.map au x.Kids)]
theorem cp (x:aa):au x=az x:=by
  cases x; simp only [au,az,wH]
theorem dR (x:aa):(au x).length=67:=by rw [cp]; rfl
structure aI where
  Item:aw
  factor:Int
  weight:Int
  size:Int
  fixed:Bool
def eh:aI:=⟨⟨0,0,0,0,0⟩,0,0,0,false⟩
instance:Inhabited aI:=⟨eh⟩
def aZ (x:aI):List AV:=[.int .i64 x.Item.Base,.int .i64 x.Item.Grow,.int .i64 x.Item.Shrink,.int .i64 x.Item.Min,.int .i64 x.Item.Max,.int .i64 x.factor,.int .i64 x.weight,.int .i64 x.size,.bool x.fixed]
structure ay where
  Margin:(V4 Int)
  Border:(V4 Int)
  Padding:(V4 Int)
  Content:Int
def dp:ay:=⟨⟨0,0,0,0⟩,⟨0,0,0,0⟩,⟨0,0,0,0⟩,0⟩
instance:Inhabited ay:=⟨dp⟩
def bh (x:ay):List AV:=[.int .i64 x.Margin.a0,.int .i64 x.Margin.a1,.int .i64 x.Margin.a2,.int .i64 x.Margin.a3,.int .i64 x.Border.a0,.int .i64 x.Border.a1,.int .i64 x.Border.a2,.int .i64 x.Border.a3,.int .i64 x.Padding.a0,.int .i64 x.Padding.a1,.int .i64 x.Padding.a2,.int .i64 x.Padding.a3,.int .i64 x.Content]
structure bZ where
  List:(List aa)
  Height:Int
  Before:ah
  After:ah
  Through:Bool
def mE:bZ:=⟨[],0,⟨0,0⟩,⟨0,0⟩,false⟩
instance:Inhabited bZ:=⟨mE⟩
def cN (x:bZ):List AV:=[.sl (List.map au x.List),.int .i64 x.Height,.int .i64 x.Before.Pos,.int .i64 x.Before.Neg,.int .i64 x.After.Pos,.int .i64 x.After.Neg,.bool x.Through]
inductive Fv where
  | fn (id:Nat)
  | c36 (a0:(List Int))
  | c45 (a0:(List ab))
instance:Inhabited Fv:=⟨.fn 0⟩
def Fv.id:Fv→Nat
  | .fn i=>i
  | .c36 _=>36
  | .c45 _=>45
def Fv.caps:Fv→List AV
  | .fn _=>[]
  | .c36 a0=>[.cptr [.sl (List.map (eInt .i64) a0)]]
  | .c45 a0=>[.cptr [.sl (List.map aB a0)]]
structure bw where
  Layout:Fv
  Widths:Fv
  Lines:Fv
  Spread:Fv
def zTBlockEnv:bw:=⟨(Fv.fn 0),(Fv.fn 0),(Fv.fn 0),(Fv.fn 0)⟩
instance:Inhabited bw:=⟨zTBlockEnv⟩
def ce (x:bw):List AV:=[.fn x.Layout.id x.Layout.caps,.fn x.Widths.id x.Widths.caps,.fn x.Lines.id x.Lines.caps,.fn x.Spread.id x.Spread.caps]
structure Kn where
  sX:aa→aa→Option Bool
  ox:(List bU)→Int→Option (ab×Int)
  gJ:ab→Option (Int×Int)
  dq:ab→Int→Option aa
  ik:(List Int)→Int→Int→Int→Fv→Option (List Int)
  eF:Fv→Int→Int→Option Int
  iX:Fv→(List ab)→aE→Int→Option ((List aa)×Int)
  lL:Fv→(List ab)→aE→Option (Int×Int)
  dD:Fv→ab→Int→Option aa
  fr:Fv→ab→Option Bool
  eM:Fv→ab→Option (Int×Int)
end Go.Proofs.Ytlpndemhnpajiaa

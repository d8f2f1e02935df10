/- Types of layer 22z's program as Lean types, with their cells. Made by a program. -/
import Derived.Test.YtocgkfoifehcbaaGreatRpYr
import Derived.Test.YtocgkfoifehcbaaGreatRpYs
import Derived.Test.YtocgkfoifehcbaaGreatRpYv
namespace Go.Proofs.YtocgkfoifehcbaaGreat
open Go.RowKit
set_option maxRecDepth 20000
set_option linter.all false
structure cL where
 Kind:Int
 Value:Int
def cn:cL:=⟨0,0⟩
instance:Inhabited cL:=⟨cn⟩
def gk(x y:cL):Bool:=((x.Kind == y.Kind)&&((x.Value == y.Value)&&true))
def gu(x:cL):b6:=[.int .i64 x.Kind,.int .i64 x.Value]
structure aO where
 Display:Int
 Position:Int
 Left:cL
 Top:cL
 Width:cL
 Height:cL
 MinWidth:cL
 MaxWidth:cL
 Margin:(V4 cL)
 Padding:(V4 cL)
 Border:(V4 Int)
 BorderColor:ByteArray
 Color:ByteArray
 Background:ByteArray
 FontSize:Int
 LineHeight:Int
 TextAlign:Int
 WhiteSpace:Int
 VAlign:Int
 Direction:Int
 Wrap:Bool
 Grow:Int
 Shrink:Int
 Basis:cL
 Order:Int
 Z:Int
 ZAuto:Bool
 Overflow:Int
 Visibility:Int
def cu:aO:=⟨0,0,⟨0,0⟩,⟨0,0⟩,⟨0,0⟩,⟨0,0⟩,⟨0,0⟩,⟨0,0⟩,⟨⟨0,0⟩,⟨0,0⟩,⟨0,0⟩,⟨0,0⟩⟩,⟨⟨0,0⟩,⟨0,0⟩,⟨0,0⟩,⟨0,0⟩⟩,⟨0,0,0,0⟩,⟨#[]⟩,⟨#[]⟩,⟨#[]⟩,0,0,0,0,0,0,false,0,0,⟨0,0⟩,0,0,false,0,0⟩
instance:Inhabited aO:=⟨cu⟩
def ry(x y:aO):Bool:=((x.Display == y.Display)&&((x.Position == y.Position)&&((gk x.Left y.Left)&&((gk x.Top y.Top)&&((gk x.Width y.Width)&&((gk x.Height y.Height)&&((gk x.MinWidth y.MinWidth)&&((gk x.MaxWidth y.MaxWidth)&&(((gk x.Margin.a0 y.Margin.a0)&&((gk x.Margin.a1 y.Margin.a1)&&((gk x.Margin.a2 y.Margin.a2)&&((gk x.Margin.a3 y.Margin.a3)&&true))))&&(((gk x.Padding.a0 y.Padding.a0)&&((gk x.Padding.a1 y.Padding.a1)&&((gk x.Padding.a2 y.Padding.a2)&&((gk x.Padding.a3 y.Padding.a3)&&true))))&&(((x.Border.a0 == y.Border.a0)&&((x.Border.a1 == y.Border.a1)&&((x.Border.a2 == y.Border.a2)&&((x.Border.a3 == y.Border.a3)&&true))))&&((x.BorderColor.toList == y.BorderColor.toList)&&((x.Color.toList == y.Color.toList)&&((x.Background.toList == y.Background.toList)&&((x.FontSize == y.FontSize)&&((x.LineHeight == y.LineHeight)&&((x.TextAlign == y.TextAlign)&&((x.WhiteSpace == y.WhiteSpace)&&((x.VAlign == y.VAlign)&&((x.Direction == y.Direction)&&((x.Wrap == y.Wrap)&&((x.Grow == y.Grow)&&((x.Shrink == y.Shrink)&&((gk x.Basis y.Basis)&&((x.Order == y.Order)&&((x.Z == y.Z)&&((x.ZAuto == y.ZAuto)&&((x.Overflow == y.Overflow)&&((x.Visibility == y.Visibility)&&true)))))))))))))))))))))))))))))
def aG(x:aO):b6:=[.int .i64 x.Display,.int .i64 x.Position,.int .i64 x.Left.Kind,.int .i64 x.Left.Value,.int .i64 x.Top.Kind,.int .i64 x.Top.Value,.int .i64 x.Width.Kind,.int .i64 x.Width.Value,.int .i64 x.Height.Kind,.int .i64 x.Height.Value,.int .i64 x.MinWidth.Kind,.int .i64 x.MinWidth.Value,.int .i64 x.MaxWidth.Kind,.int .i64 x.MaxWidth.Value,.int .i64 x.Margin.a0.Kind,.int .i64 x.Margin.a0.Value,.int .i64 x.Margin.a1.Kind,.int .i64 x.Margin.a1.Value,.int .i64 x.Margin.a2.Kind,.int .i64 x.Margin.a2.Value,.int .i64 x.Margin.a3.Kind,.int .i64 x.Margin.a3.Value,.int .i64 x.Padding.a0.Kind,.int .i64 x.Padding.a0.Value,.int .i64 x.Padding.a1.Kind,.int .i64 x.Padding.a1.Value,.int .i64 x.Padding.a2.Kind,.int .i64 x.Padding.a2.Value,.int .i64 x.Padding.a3.Kind,.int .i64 x.Padding.a3.Value,.int .i64 x.Border.a0,.int .i64 x.Border.a1,.int .i64 x.Border.a2,.int .i64 x.Border.a3,.str x.BorderColor,.str x.Color,.str x.Background,.int .i64 x.FontSize,.int .i64 x.LineHeight,.int .i64 x.TextAlign,.int .i64 x.WhiteSpace,.int .i64 x.VAlign,.int .i64 x.Direction,.bool x.Wrap,.int .i64 x.Grow,.int .i64 x.Shrink,.int .i64 x.Basis.Kind,.int .i64 x.Basis.Value,.int .i64 x.Order,.int .i64 x.Z,.bool x.ZAuto,.int .i64 x.Overflow,.int .i64 x.Visibility]
structure aK where
 Depth:Int
 Kind:Int
 Text:ByteArray
 Rows:Int
 Cols:Int
 Style:aO
def uC:aK:=⟨0,0,⟨#[]⟩,0,0,⟨0,0,⟨0,0⟩,⟨0,0⟩,⟨0,0⟩,⟨0,0⟩,⟨0,0⟩,⟨0,0⟩,⟨⟨0,0⟩,⟨0,0⟩,⟨0,0⟩,⟨0,0⟩⟩,⟨⟨0,0⟩,⟨0,0⟩,⟨0,0⟩,⟨0,0⟩⟩,⟨0,0,0,0⟩,⟨#[]⟩,⟨#[]⟩,⟨#[]⟩,0,0,0,0,0,0,false,0,0,⟨0,0⟩,0,0,false,0,0⟩⟩
instance:Inhabited aK:=⟨uC⟩
def aH(x:aK):b6:=[.int .u8 x.Depth,.int .u8 x.Kind,.str x.Text,.int .u8 x.Rows,.int .u8 x.Cols,.int .i64 x.Style.Display,.int .i64 x.Style.Position,.int .i64 x.Style.Left.Kind,.int .i64 x.Style.Left.Value,.int .i64 x.Style.Top.Kind,.int .i64 x.Style.Top.Value,.int .i64 x.Style.Width.Kind,.int .i64 x.Style.Width.Value,.int .i64 x.Style.Height.Kind,.int .i64 x.Style.Height.Value,.int .i64 x.Style.MinWidth.Kind,.int .i64 x.Style.MinWidth.Value,.int .i64 x.Style.MaxWidth.Kind,.int .i64 x.Style.MaxWidth.Value,.int .i64 x.Style.Margin.a0.Kind,.int .i64 x.Style.Margin.a0.Value,.int .i64 x.Style.Margin.a1.Kind,.int .i64 x.Style.Margin.a1.Value,.int .i64 x.Style.Margin.a2.Kind,.int .i64 x.Style.Margin.a2.Value,.int .i64 x.Style.Margin.a3.Kind,.int .i64 x.Style.Margin.a3.Value,.int .i64 x.Style.Padding.a0.Kind,.int .i64 x.Style.Padding.a0.Value,.int .i64 x.Style.Padding.a1.Kind,.int .i64 x.Style.Padding.a1.Value,.int .i64 x.Style.Padding.a2.Kind,.int .i64 x.Style.Padding.a2.Value,.int .i64 x.Style.Padding.a3.Kind,.int .i64 x.Style.Padding.a3.Value,.int .i64 x.Style.Border.a0,.int .i64 x.Style.Border.a1,.int .i64 x.Style.Border.a2,.int .i64 x.Style.Border.a3,.str x.Style.BorderColor,.str x.Style.Color,.str x.Style.Background,.int .i64 x.Style.FontSize,.int .i64 x.Style.LineHeight,.int .i64 x.Style.TextAlign,.int .i64 x.Style.WhiteSpace,.int .i64 x.Style.VAlign,.int .i64 x.Style.Direction,.bool x.Style.Wrap,.int .i64 x.Style.Grow,.int .i64 x.Style.Shrink,.int .i64 x.Style.Basis.Kind,.int .i64 x.Style.Basis.Value,.int .i64 x.Style.Order,.int .i64 x.Style.Z,.bool x.Style.ZAuto,.int .i64 x.Style.Overflow,.int .i64 x.Style.Visibility]
theorem dJ(x:aK):(aH x).length=58:=rfl
structure fi where
 At:Int
 Kind:Int
 Spec:aK
def XL:fi:=⟨0,0,⟨0,0,⟨#[]⟩,0,0,⟨0,0,⟨0,0⟩,⟨0,0⟩,⟨0,0⟩,⟨0,0⟩,⟨0,0⟩,⟨0,0⟩,⟨⟨0,0⟩,⟨0,0⟩,⟨0,0⟩,⟨0,0⟩⟩,⟨⟨0,0⟩,⟨0,0⟩,⟨0,0⟩,⟨0,0⟩⟩,⟨0,0,0,0⟩,⟨#[]⟩,⟨#[]⟩,⟨#[]⟩,0,0,0,0,0,0,false,0,0,⟨0,0⟩,0,0,false,0,0⟩⟩⟩
instance:Inhabited fi:=⟨XL⟩
def eF(x:fi):b6:=[.int .u8 x.At,.int .u8 x.Kind,.int .u8 x.Spec.Depth,.int .u8 x.Spec.Kind,.str x.Spec.Text,.int .u8 x.Spec.Rows,.int .u8 x.Spec.Cols,.int .i64 x.Spec.Style.Display,.int .i64 x.Spec.Style.Position,.int .i64 x.Spec.Style.Left.Kind,.int .i64 x.Spec.Style.Left.Value,.int .i64 x.Spec.Style.Top.Kind,.int .i64 x.Spec.Style.Top.Value,.int .i64 x.Spec.Style.Width.Kind,.int .i64 x.Spec.Style.Width.Value,.int .i64 x.Spec.Style.Height.Kind,.int .i64 x.Spec.Style.Height.Value,.int .i64 x.Spec.Style.MinWidth.Kind,.int .i64 x.Spec.Style.MinWidth.Value,.int .i64 x.Spec.Style.MaxWidth.Kind,.int .i64 x.Spec.Style.MaxWidth.Value,.int .i64 x.Spec.Style.Margin.a0.Kind,.int .i64 x.Spec.Style.Margin.a0.Value,.int .i64 x.Spec.Style.Margin.a1.Kind,.int .i64 x.Spec.Style.Margin.a1.Value,.int .i64 x.Spec.Style.Margin.a2.Kind,.int .i64 x.Spec.Style.Margin.a2.Value,.int .i64 x.Spec.Style.Margin.a3.Kind,.int .i64 x.Spec.Style.Margin.a3.Value,.int .i64 x.Spec.Style.Padding.a0.Kind,.int .i64 x.Spec.Style.Padding.a0.Value,.int .i64 x.Spec.Style.Padding.a1.Kind,.int .i64 x.Spec.Style.Padding.a1.Value,.int .i64 x.Spec.Style.Padding.a2.Kind,.int .i64 x.Spec.Style.Padding.a2.Value,.int .i64 x.Spec.Style.Padding.a3.Kind,.int .i64 x.Spec.Style.Padding.a3.Value,.int .i64 x.Spec.Style.Border.a0,.int .i64 x.Spec.Style.Border.a1,.int .i64 x.Spec.Style.Border.a2,.int .i64 x.Spec.Style.Border.a3,.str x.Spec.Style.BorderColor,.str x.Spec.Style.Color,.str x.Spec.Style.Background,.int .i64 x.Spec.Style.FontSize,.int .i64 x.Spec.Style.LineHeight,.int .i64 x.Spec.Style.TextAlign,.int .i64 x.Spec.Style.WhiteSpace,.int .i64 x.Spec.Style.VAlign,.int .i64 x.Spec.Style.Direction,.bool x.Spec.Style.Wrap,.int .i64 x.Spec.Style.Grow,.int .i64 x.Spec.Style.Shrink,.int .i64 x.Spec.Style.Basis.Kind,.int .i64 x.Spec.Style.Basis.Value,.int .i64 x.Spec.Style.Order,.int .i64 x.Spec.Style.Z,.bool x.Spec.Style.ZAuto,.int .i64 x.Spec.Style.Overflow,.int .i64 x.Spec.Style.Visibility]
theorem Og(x:fi):(eF x).length=60:=rfl
structure ag where
 Kind:Int
 Node:Int
 Style:aO
 Text:ByteArray
 Rows:Int
 Cols:Int
 Kids:(List ag)
def dk:ag:=⟨0,0,⟨0,0,⟨0,0⟩,⟨0,0⟩,⟨0,0⟩,⟨0,0⟩,⟨0,0⟩,⟨0,0⟩,⟨⟨0,0⟩,⟨0,0⟩,⟨0,0⟩,⟨0,0⟩⟩,⟨⟨0,0⟩,⟨0,0⟩,⟨0,0⟩,⟨0,0⟩⟩,⟨0,0,0,0⟩,⟨#[]⟩,⟨#[]⟩,⟨#[]⟩,0,0,0,0,0,0,false,0,0,⟨0,0⟩,0,0,false,0,0⟩,⟨#[]⟩,0,0,[]⟩
instance:Inhabited ag:=⟨dk⟩
mutual
def aP:ag→b6
 | ⟨Kind,Node,Style,Text,Rows,a,Kids⟩=>[.int .i64 Kind,.int .i64 Node,.int .i64 Style.Display,.int .i64 Style.Position,.int .i64 Style.Left.Kind,.int .i64 Style.Left.Value,.int .i64 Style.Top.Kind,.int .i64 Style.Top.Value,.int .i64 Style.Width.Kind,.int .i64 Style.Width.Value,.int .i64 Style.Height.Kind,.int .i64 Style.Height.Value,.int .i64 Style.MinWidth.Kind,.int .i64 Style.MinWidth.Value,.int .i64 Style.MaxWidth.Kind,.int .i64 Style.MaxWidth.Value,.int .i64 Style.Margin.a0.Kind,.int .i64 Style.Margin.a0.Value,.int .i64 Style.Margin.a1.Kind,.int .i64 Style.Margin.a1.Value,.int .i64 Style.Margin.a2.Kind,.int .i64 Style.Margin.a2.Value,.int .i64 Style.Margin.a3.Kind,.int .i64 Style.Margin.a3.Value,.int .i64 Style.Padding.a0.Kind,.int .i64 Style.Padding.a0.Value,.int .i64 Style.Padding.a1.Kind,.int .i64 Style.Padding.a1.Value,.int .i64 Style.Padding.a2.Kind,.int .i64 Style.Padding.a2.Value,.int .i64 Style.Padding.a3.Kind,.int .i64 Style.Padding.a3.Value,.int .i64 Style.Border.a0,.int .i64 Style.Border.a1,.int .i64 Style.Border.a2,.int .i64 Style.Border.a3,.str Style.BorderColor,.str Style.Color,.str Style.Background,.int .i64 Style.FontSize,.int .i64 Style.LineHeight,.int .i64 Style.TextAlign,.int .i64 Style.WhiteSpace,.int .i64 Style.VAlign,.int .i64 Style.Direction,.bool Style.Wrap,.int .i64 Style.Grow,.int .i64 Style.Shrink,.int .i64 Style.Basis.Kind,.int .i64 Style.Basis.Value,.int .i64 Style.Order,.int .i64 Style.Z,.bool Style.ZAuto,.int .i64 Style.Overflow,.int .i64 Style.Visibility,.str Text,.int .i64 Rows,.int .i64 a,.sl (Aj Kids)]
def Aj:List ag→f7
 | []=>[]
 | x::r=>aP x::Aj r
end
theorem Ms:∀l:List ag,Aj l=l.map aP
 | []=>by simp[Aj]
 | x::r=>by simp[Aj,Ms r]
def aD(x:ag):b6:=[.int .i64 x.Kind,.int .i64 x.Node,.int .i64 x.Style.Display,.int .i64 x.Style.Position,.int .i64 x.Style.Left.Kind,.int .i64 x.Style.Left.Value,.int .i64 x.Style.Top.Kind,.int .i64 x.Style.Top.Value,.int .i64 x.Style.Width.Kind,.int .i64 x.Style.Width.Value,.int .i64 x.Style.Height.Kind,.int .i64 x.Style.Height.Value,.int .i64 x.Style.MinWidth.Kind,.int .i64 x.Style.MinWidth.Value,.int .i64 x.Style.MaxWidth.Kind,.int .i64 x.Style.MaxWidth.Value,.int .i64 x.Style.Margin.a0.Kind,.int .i64 x.Style.Margin.a0.Value,.int .i64 x.Style.Margin.a1.Kind,.int .i64 x.Style.Margin.a1.Value,.int .i64 x.Style.Margin.a2.Kind,.int .i64 x.Style.Margin.a2.Value,.int .i64 x.Style.Margin.a3.Kind,.int .i64 x.Style.Margin.a3.Value,.int .i64 x.Style.Padding.a0.Kind,.int .i64 x.Style.Padding.a0.Value,.int .i64 x.Style.Padding.a1.Kind,.int .i64 x.Style.Padding.a1.Value,.int .i64 x.Style.Padding.a2.Kind,.int .i64 x.Style.Padding.a2.Value,.int .i64 x.Style.Padding.a3.Kind,.int .i64 x.Style.Padding.a3.Value,.int .i64 x.Style.Border.a0,.int .i64 x.Style.Border.a1,.int .i64 x.Style.Border.a2,.int .i64 x.Style.Border.a3,.str x.Style.BorderColor,.str x.Style.Color,.str x.Style.Background,.int .i64 x.Style.FontSize,.int .i64 x.Style.LineHeight,.int .i64 x.Style.TextAlign,.int .i64 x.Style.WhiteSpace,.int .i64 x.Style.VAlign,.int .i64 x.Style.Direction,.bool x.Style.Wrap,.int .i64 x.Style.Grow,.int .i64 x.Style.Shrink,.int .i64 x.Style.Basis.Kind,.int .i64 x.Style.Basis.Value,.int .i64 x.Style.Order,.int .i64 x.Style.Z,.bool x.Style.ZAuto,.int .i64 x.Style.Overflow,.int .i64 x.Style.Visibility,.str x.Text,.int .i64 x.Rows,.int .i64 x.Cols,.sl (List.map aP x.Kids)]
theorem eE(x:ag):aP x=aD x:=by
 cases x;simp only[aP,aD,Ms]
theorem gB(x:ag):(aP x).length=59:=by rw[eE];rfl
structure bh where
 Pos:Int
 Neg:Int
def dD:bh:=⟨0,0⟩
instance:Inhabited bh:=⟨dD⟩
def c8(x:bh):b6:=[.int .i64 x.Pos,.int .i64 x.Neg]
structure ab where
 Kind:Int
 Node:Int
 X:Int
 Y:Int
 W:Int
 H:Int
 az:Int
 Text:ByteArray
 Style:aO
 Before:bh
 After:bh
 Empty:Bool
 Kids:(List ab)
def bU:ab:=⟨0,0,0,0,0,0,0,⟨#[]⟩,⟨0,0,⟨0,0⟩,⟨0,0⟩,⟨0,0⟩,⟨0,0⟩,⟨0,0⟩,⟨0,0⟩,⟨⟨0,0⟩,⟨0,0⟩,⟨0,0⟩,⟨0,0⟩⟩,⟨⟨0,0⟩,⟨0,0⟩,⟨0,0⟩,⟨0,0⟩⟩,⟨0,0,0,0⟩,⟨#[]⟩,⟨#[]⟩,⟨#[]⟩,0,0,0,0,0,0,false,0,0,⟨0,0⟩,0,0,false,0,0⟩,⟨0,0⟩,⟨0,0⟩,false,[]⟩
instance:Inhabited ab:=⟨bU⟩
mutual
def aN:ab→b6
 | ⟨Kind,Node,X,Y,W,H,az,Text,Style,Before,After,Empty,Kids⟩=>[.int .i64 Kind,.int .i64 Node,.int .i64 X,.int .i64 Y,.int .i64 W,.int .i64 H,.int .i64 az,.str Text,.int .i64 Style.Display,.int .i64 Style.Position,.int .i64 Style.Left.Kind,.int .i64 Style.Left.Value,.int .i64 Style.Top.Kind,.int .i64 Style.Top.Value,.int .i64 Style.Width.Kind,.int .i64 Style.Width.Value,.int .i64 Style.Height.Kind,.int .i64 Style.Height.Value,.int .i64 Style.MinWidth.Kind,.int .i64 Style.MinWidth.Value,.int .i64 Style.MaxWidth.Kind,.int .i64 Style.MaxWidth.Value,.int .i64 Style.Margin.a0.Kind,.int .i64 Style.Margin.a0.Value,.int .i64 Style.Margin.a1.Kind,.int .i64 Style.Margin.a1.Value,.int .i64 Style.Margin.a2.Kind,.int .i64 Style.Margin.a2.Value,.int .i64 Style.Margin.a3.Kind,.int .i64 Style.Margin.a3.Value,.int .i64 Style.Padding.a0.Kind,.int .i64 Style.Padding.a0.Value,.int .i64 Style.Padding.a1.Kind,.int .i64 Style.Padding.a1.Value,.int .i64 Style.Padding.a2.Kind,.int .i64 Style.Padding.a2.Value,.int .i64 Style.Padding.a3.Kind,.int .i64 Style.Padding.a3.Value,.int .i64 Style.Border.a0,.int .i64 Style.Border.a1,.int .i64 Style.Border.a2,.int .i64 Style.Border.a3,.str Style.BorderColor,.str Style.Color,.str Style.Background,.int .i64 Style.FontSize,.int .i64 Style.LineHeight,.int .i64 Style.TextAlign,.int .i64 Style.WhiteSpace,.int .i64 Style.VAlign,.int .i64 Style.Direction,.bool Style.Wrap,.int .i64 Style.Grow,.int .i64 Style.Shrink,.int .i64 Style.Basis.Kind,.int .i64 Style.Basis.Value,.int .i64 Style.Order,.int .i64 Style.Z,.bool Style.ZAuto,.int .i64 Style.Overflow,.int .i64 Style.Visibility,.int .i64 Before.Pos,.int .i64 Before.Neg,.int .i64 After.Pos,.int .i64 After.Neg,.bool Empty,.sl (Bg Kids)]
def Bg:List ab→f7
 | []=>[]
 | x::r=>aN x::Bg r
end
theorem Qs:∀l:List ab,Bg l=l.map aN
 | []=>by simp[Bg]
 | x::r=>by simp[Bg,Qs r]
def aC(x:ab):b6:=[.int .i64 x.Kind,.int .i64 x.Node,.int .i64 x.X,.int .i64 x.Y,.int .i64 x.W,.int .i64 x.H,.int .i64 x.az,.str x.Text,.int .i64 x.Style.Display,.int .i64 x.Style.Position,.int .i64 x.Style.Left.Kind,.int .i64 x.Style.Left.Value,.int .i64 x.Style.Top.Kind,.int .i64 x.Style.Top.Value,.int .i64 x.Style.Width.Kind,.int .i64 x.Style.Width.Value,.int .i64 x.Style.Height.Kind,.int .i64 x.Style.Height.Value,.int .i64 x.Style.MinWidth.Kind,.int .i64 x.Style.MinWidth.Value,.int .i64 x.Style.MaxWidth.Kind,.int .i64 x.Style.MaxWidth.Value,.int .i64 x.Style.Margin.a0.Kind,.int .i64 x.Style.Margin.a0.Value,.int .i64 x.Style.Margin.a1.Kind,.int .i64 x.Style.Margin.a1.Value,.int .i64 x.Style.Margin.a2.Kind,.int .i64 x.Style.Margin.a2.Value,.int .i64 x.Style.Margin.a3.Kind,.int .i64 x.Style.Margin.a3.Value,.int .i64 x.Style.Padding.a0.Kind,.int .i64 x.Style.Padding.a0.Value,.int .i64 x.Style.Padding.a1.Kind,.int .i64 x.Style.Padding.a1.Value,.int .i64 x.Style.Padding.a2.Kind,.int .i64 x.Style.Padding.a2.Value,.int .i64 x.Style.Padding.a3.Kind,.int .i64 x.Style.Padding.a3.Value,.int .i64 x.Style.Border.a0,.int .i64 x.Style.Border.a1,.int .i64 x.Style.Border.a2,.int .i64 x.Style.Border.a3,.str x.Style.BorderColor,.str x.Style.Color,.str x.Style.Background,.int .i64 x.Style.FontSize,.int .i64 x.Style.LineHeight,.int .i64 x.Style.TextAlign,.int .i64 x.Style.WhiteSpace,.int .i64 x.Style.VAlign,.int .i64 x.Style.Direction,.bool x.Style.Wrap,.int .i64 x.Style.Grow,.int .i64 x.Style.Shrink,.int .i64 x.Style.Basis.Kind,.int .i64 x.Style.Basis.Value,.int .i64 x.Style.Order,.int .i64 x.Style.Z,.bool x.Style.ZAuto,.int .i64 x.Style.Overflow,.int .i64 x.Style.Visibility,.int .i64 x.Before.Pos,.int .i64 x.Before.Neg,.int .i64 x.After.Pos,.int .i64 x.After.Neg,.bool x.Empty,.sl (List.map aN x.Kids)]
theorem dV(x:ab):aN x=aC x:=by
 cases x;simp only[aN,aC,Qs]
theorem ky(x:ab):(aN x).length=67:=by rw[dV];rfl
structure ay where
 Box:ag
 Width:Int
 Fragment:ab
def ahs:ay:=⟨⟨0,0,⟨0,0,⟨0,0⟩,⟨0,0⟩,⟨0,0⟩,⟨0,0⟩,⟨0,0⟩,⟨0,0⟩,⟨⟨0,0⟩,⟨0,0⟩,⟨0,0⟩,⟨0,0⟩⟩,⟨⟨0,0⟩,⟨0,0⟩,⟨0,0⟩,⟨0,0⟩⟩,⟨0,0,0,0⟩,⟨#[]⟩,⟨#[]⟩,⟨#[]⟩,0,0,0,0,0,0,false,0,0,⟨0,0⟩,0,0,false,0,0⟩,⟨#[]⟩,0,0,[]⟩,0,⟨0,0,0,0,0,0,0,⟨#[]⟩,⟨0,0,⟨0,0⟩,⟨0,0⟩,⟨0,0⟩,⟨0,0⟩,⟨0,0⟩,⟨0,0⟩,⟨⟨0,0⟩,⟨0,0⟩,⟨0,0⟩,⟨0,0⟩⟩,⟨⟨0,0⟩,⟨0,0⟩,⟨0,0⟩,⟨0,0⟩⟩,⟨0,0,0,0⟩,⟨#[]⟩,⟨#[]⟩,⟨#[]⟩,0,0,0,0,0,0,false,0,0,⟨0,0⟩,0,0,false,0,0⟩,⟨0,0⟩,⟨0,0⟩,false,[]⟩⟩
instance:Inhabited ay:=⟨ahs⟩
def ba(x:ay):b6:=[.int .i64 x.Box.Kind,.int .i64 x.Box.Node,.int .i64 x.Box.Style.Display,.int .i64 x.Box.Style.Position,.int .i64 x.Box.Style.Left.Kind,.int .i64 x.Box.Style.Left.Value,.int .i64 x.Box.Style.Top.Kind,.int .i64 x.Box.Style.Top.Value,.int .i64 x.Box.Style.Width.Kind,.int .i64 x.Box.Style.Width.Value,.int .i64 x.Box.Style.Height.Kind,.int .i64 x.Box.Style.Height.Value,.int .i64 x.Box.Style.MinWidth.Kind,.int .i64 x.Box.Style.MinWidth.Value,.int .i64 x.Box.Style.MaxWidth.Kind,.int .i64 x.Box.Style.MaxWidth.Value,.int .i64 x.Box.Style.Margin.a0.Kind,.int .i64 x.Box.Style.Margin.a0.Value,.int .i64 x.Box.Style.Margin.a1.Kind,.int .i64 x.Box.Style.Margin.a1.Value,.int .i64 x.Box.Style.Margin.a2.Kind,.int .i64 x.Box.Style.Margin.a2.Value,.int .i64 x.Box.Style.Margin.a3.Kind,.int .i64 x.Box.Style.Margin.a3.Value,.int .i64 x.Box.Style.Padding.a0.Kind,.int .i64 x.Box.Style.Padding.a0.Value,.int .i64 x.Box.Style.Padding.a1.Kind,.int .i64 x.Box.Style.Padding.a1.Value,.int .i64 x.Box.Style.Padding.a2.Kind,.int .i64 x.Box.Style.Padding.a2.Value,.int .i64 x.Box.Style.Padding.a3.Kind,.int .i64 x.Box.Style.Padding.a3.Value,.int .i64 x.Box.Style.Border.a0,.int .i64 x.Box.Style.Border.a1,.int .i64 x.Box.Style.Border.a2,.int .i64 x.Box.Style.Border.a3,.str x.Box.Style.BorderColor,.str x.Box.Style.Color,.str x.Box.Style.Background,.int .i64 x.Box.Style.FontSize,.int .i64 x.Box.Style.LineHeight,.int .i64 x.Box.Style.TextAlign,.int .i64 x.Box.Style.WhiteSpace,.int .i64 x.Box.Style.VAlign,.int .i64 x.Box.Style.Direction,.bool x.Box.Style.Wrap,.int .i64 x.Box.Style.Grow,.int .i64 x.Box.Style.Shrink,.int .i64 x.Box.Style.Basis.Kind,.int .i64 x.Box.Style.Basis.Value,.int .i64 x.Box.Style.Order,.int .i64 x.Box.Style.Z,.bool x.Box.Style.ZAuto,.int .i64 x.Box.Style.Overflow,.int .i64 x.Box.Style.Visibility,.str x.Box.Text,.int .i64 x.Box.Rows,.int .i64 x.Box.Cols,.sl (List.map aP x.Box.Kids),.int .i64 x.Width,.int .i64 x.Fragment.Kind,.int .i64 x.Fragment.Node,.int .i64 x.Fragment.X,.int .i64 x.Fragment.Y,.int .i64 x.Fragment.W,.int .i64 x.Fragment.H,.int .i64 x.Fragment.az,.str x.Fragment.Text,.int .i64 x.Fragment.Style.Display,.int .i64 x.Fragment.Style.Position,.int .i64 x.Fragment.Style.Left.Kind,.int .i64 x.Fragment.Style.Left.Value,.int .i64 x.Fragment.Style.Top.Kind,.int .i64 x.Fragment.Style.Top.Value,.int .i64 x.Fragment.Style.Width.Kind,.int .i64 x.Fragment.Style.Width.Value,.int .i64 x.Fragment.Style.Height.Kind,.int .i64 x.Fragment.Style.Height.Value,.int .i64 x.Fragment.Style.MinWidth.Kind,.int .i64 x.Fragment.Style.MinWidth.Value,.int .i64 x.Fragment.Style.MaxWidth.Kind,.int .i64 x.Fragment.Style.MaxWidth.Value,.int .i64 x.Fragment.Style.Margin.a0.Kind,.int .i64 x.Fragment.Style.Margin.a0.Value,.int .i64 x.Fragment.Style.Margin.a1.Kind,.int .i64 x.Fragment.Style.Margin.a1.Value,.int .i64 x.Fragment.Style.Margin.a2.Kind,.int .i64 x.Fragment.Style.Margin.a2.Value,.int .i64 x.Fragment.Style.Margin.a3.Kind,.int .i64 x.Fragment.Style.Margin.a3.Value,.int .i64 x.Fragment.Style.Padding.a0.Kind,.int .i64 x.Fragment.Style.Padding.a0.Value,.int .i64 x.Fragment.Style.Padding.a1.Kind,.int .i64 x.Fragment.Style.Padding.a1.Value,.int .i64 x.Fragment.Style.Padding.a2.Kind,.int .i64 x.Fragment.Style.Padding.a2.Value,.int .i64 x.Fragment.Style.Padding.a3.Kind,.int .i64 x.Fragment.Style.Padding.a3.Value,.int .i64 x.Fragment.Style.Border.a0,.int .i64 x.Fragment.Style.Border.a1,.int .i64 x.Fragment.Style.Border.a2,.int .i64 x.Fragment.Style.Border.a3,.str x.Fragment.Style.BorderColor,.str x.Fragment.Style.Color,.str x.Fragment.Style.Background,.int .i64 x.Fragment.Style.FontSize,.int .i64 x.Fragment.Style.LineHeight,.int .i64 x.Fragment.Style.TextAlign,.int .i64 x.Fragment.Style.WhiteSpace,.int .i64 x.Fragment.Style.VAlign,.int .i64 x.Fragment.Style.Direction,.bool x.Fragment.Style.Wrap,.int .i64 x.Fragment.Style.Grow,.int .i64 x.Fragment.Style.Shrink,.int .i64 x.Fragment.Style.Basis.Kind,.int .i64 x.Fragment.Style.Basis.Value,.int .i64 x.Fragment.Style.Order,.int .i64 x.Fragment.Style.Z,.bool x.Fragment.Style.ZAuto,.int .i64 x.Fragment.Style.Overflow,.int .i64 x.Fragment.Style.Visibility,.int .i64 x.Fragment.Before.Pos,.int .i64 x.Fragment.Before.Neg,.int .i64 x.Fragment.After.Pos,.int .i64 x.Fragment.After.Neg,.bool x.Fragment.Empty,.sl (List.map aN x.Fragment.Kids)]
theorem G5(x:ay):(ba x).length=127:=rfl
structure bv where
 List:(List ay)
 Fresh:Int
 Used:Int
def agL:bv:=⟨[],0,0⟩
instance:Inhabited bv:=⟨agL⟩
def bw(x:bv):b6:=[.sl (List.map ba x.List),.int .i64 x.Fresh,.int .i64 x.Used]
structure cb where
 Margin:(V4 Int)
 Border:(V4 Int)
 Padding:(V4 Int)
 Content:Int
def l8:cb:=⟨⟨0,0,0,0⟩,⟨0,0,0,0⟩,⟨0,0,0,0⟩,0⟩
instance:Inhabited cb:=⟨l8⟩
def cC(x:cb):b6:=[.int .i64 x.Margin.a0,.int .i64 x.Margin.a1,.int .i64 x.Margin.a2,.int .i64 x.Margin.a3,.int .i64 x.Border.a0,.int .i64 x.Border.a1,.int .i64 x.Border.a2,.int .i64 x.Border.a3,.int .i64 x.Padding.a0,.int .i64 x.Padding.a1,.int .i64 x.Padding.a2,.int .i64 x.Padding.a3,.int .i64 x.Content]
structure cU where
 X:Int
 Y:Int
 W:Int
 H:Int
def aeM:cU:=⟨0,0,0,0⟩
instance:Inhabited cU:=⟨aeM⟩
def Gw(x y:cU):Bool:=((x.X == y.X)&&((x.Y == y.Y)&&((x.W == y.W)&&((x.H == y.H)&&true))))
def ja(x:cU):b6:=[.int .i64 x.X,.int .i64 x.Y,.int .i64 x.W,.int .i64 x.H]
structure aQ where
 Node:Int
 Text:ByteArray
 Style:aO
 Width:Int
 Space:Int
 Above:Int
 Below:Int
 Glued:Bool
 Forced:Bool
 Box:(List ab)
def dX:aQ:=⟨0,⟨#[]⟩,⟨0,0,⟨0,0⟩,⟨0,0⟩,⟨0,0⟩,⟨0,0⟩,⟨0,0⟩,⟨0,0⟩,⟨⟨0,0⟩,⟨0,0⟩,⟨0,0⟩,⟨0,0⟩⟩,⟨⟨0,0⟩,⟨0,0⟩,⟨0,0⟩,⟨0,0⟩⟩,⟨0,0,0,0⟩,⟨#[]⟩,⟨#[]⟩,⟨#[]⟩,0,0,0,0,0,0,false,0,0,⟨0,0⟩,0,0,false,0,0⟩,0,0,0,0,false,false,[]⟩
instance:Inhabited aQ:=⟨dX⟩
def bp(x:aQ):b6:=[.int .i64 x.Node,.str x.Text,.int .i64 x.Style.Display,.int .i64 x.Style.Position,.int .i64 x.Style.Left.Kind,.int .i64 x.Style.Left.Value,.int .i64 x.Style.Top.Kind,.int .i64 x.Style.Top.Value,.int .i64 x.Style.Width.Kind,.int .i64 x.Style.Width.Value,.int .i64 x.Style.Height.Kind,.int .i64 x.Style.Height.Value,.int .i64 x.Style.MinWidth.Kind,.int .i64 x.Style.MinWidth.Value,.int .i64 x.Style.MaxWidth.Kind,.int .i64 x.Style.MaxWidth.Value,.int .i64 x.Style.Margin.a0.Kind,.int .i64 x.Style.Margin.a0.Value,.int .i64 x.Style.Margin.a1.Kind,.int .i64 x.Style.Margin.a1.Value,.int .i64 x.Style.Margin.a2.Kind,.int .i64 x.Style.Margin.a2.Value,.int .i64 x.Style.Margin.a3.Kind,.int .i64 x.Style.Margin.a3.Value,.int .i64 x.Style.Padding.a0.Kind,.int .i64 x.Style.Padding.a0.Value,.int .i64 x.Style.Padding.a1.Kind,.int .i64 x.Style.Padding.a1.Value,.int .i64 x.Style.Padding.a2.Kind,.int .i64 x.Style.Padding.a2.Value,.int .i64 x.Style.Padding.a3.Kind,.int .i64 x.Style.Padding.a3.Value,.int .i64 x.Style.Border.a0,.int .i64 x.Style.Border.a1,.int .i64 x.Style.Border.a2,.int .i64 x.Style.Border.a3,.str x.Style.BorderColor,.str x.Style.Color,.str x.Style.Background,.int .i64 x.Style.FontSize,.int .i64 x.Style.LineHeight,.int .i64 x.Style.TextAlign,.int .i64 x.Style.WhiteSpace,.int .i64 x.Style.VAlign,.int .i64 x.Style.Direction,.bool x.Style.Wrap,.int .i64 x.Style.Grow,.int .i64 x.Style.Shrink,.int .i64 x.Style.Basis.Kind,.int .i64 x.Style.Basis.Value,.int .i64 x.Style.Order,.int .i64 x.Style.Z,.bool x.Style.ZAuto,.int .i64 x.Style.Overflow,.int .i64 x.Style.Visibility,.int .i64 x.Width,.int .i64 x.Space,.int .i64 x.Above,.int .i64 x.Below,.bool x.Glued,.bool x.Forced,.sl (List.map aN x.Box)]
theorem km(x:aQ):(bp x).length=62:=rfl
structure bG where
 az:Int
 Grow:Int
 Shrink:Int
 Min:Int
 Max:Int
def kB:bG:=⟨0,0,0,0,0⟩
instance:Inhabited bG:=⟨kB⟩
def co(x:bG):b6:=[.int .i64 x.az,.int .i64 x.Grow,.int .i64 x.Shrink,.int .i64 x.Min,.int .i64 x.Max]
theorem HB(x:bG):(co x).length=5:=rfl
structure aS where
 Kind:Int
 Of:Int
 Char:Int
 Soft:Bool
 Box:ag
def aaZ:aS:=⟨0,0,0,false,dk⟩
instance:Inhabited aS:=⟨aaZ⟩
def aX(x:aS):b6:=[.int .i64 x.Kind,.int .i64 x.Of,.int .i32 x.Char,.bool x.Soft,.cptr (aD x.Box)]
theorem ft(x:aS):(aX x).length=5:=rfl
structure bd where
 Item:bG
 factor:Int
 weight:Int
 size:Int
 fixed:Bool
def i9:bd:=⟨⟨0,0,0,0,0⟩,0,0,0,false⟩
instance:Inhabited bd:=⟨i9⟩
def bz(x:bd):b6:=[.int .i64 x.Item.az,.int .i64 x.Item.Grow,.int .i64 x.Item.Shrink,.int .i64 x.Item.Min,.int .i64 x.Item.Max,.int .i64 x.factor,.int .i64 x.weight,.int .i64 x.size,.bool x.fixed]
inductive Fv where
 | fn (id:Nat)
 | c39 (a0:ay)
 | c43 (a0:Bool) (a1_0:Fv) (a1_1:Fv) (a1_2:Fv) (a1_3:Fv) (a2:Bool)
 | c48 (a0_0:Fv) (a0_1:Fv) (a0_2:Fv) (a0_3:Fv)
 | c52 (a0_0:Fv) (a0_1:Fv) (a0_2:Fv) (a0_3:Fv)
 | c54 (a0_0:Fv) (a0_1:Fv) (a0_2:Fv) (a0_3:Fv)
 | c65 (a0:ag)
 | c103 (a0:aO)
 | c147 (a0:Int) (a1_0:Fv) (a1_1:Fv) (a1_2:Fv) (a1_3:Fv)
 | c165 (a0:b5)
 | c172 (a0:(List ag))
 | bot (id k:Nat)
instance:Inhabited Fv:=⟨.fn 0⟩
def Fv.id:Fv→Nat
 | .fn i=>i
 | .bot i _=>i
 | .c39 _=>39
 | .c43 _ _ _ _ _ _=>43
 | .c48 _ _ _ _=>48
 | .c52 _ _ _ _=>52
 | .c54 _ _ _ _=>54
 | .c65 _=>65
 | .c103 _=>103
 | .c147 _ _ _ _ _=>147
 | .c165 _=>165
 | .c172 _=>172
def Fv.aV[GS]:Fv→b6
 | .fn _=>[]
 | .bot _ k=>List.replicate k .any
 | .c39 a=>[.cptr (ba a)]
 | .c43 a a1_0 a1_1 a1_2 a1_3 b=>[.cptr [eQ 36 a],.cptr [.fn a1_0.id a1_0.aV,.fn a1_1.id a1_1.aV,.fn a1_2.id a1_2.aV,.fn a1_3.id a1_3.aV],.cptr [eQ 37 b]]
 | .c48 a0_0 a0_1 a0_2 a0_3=>[.cptr [.fn a0_0.id a0_0.aV,.fn a0_1.id a0_1.aV,.fn a0_2.id a0_2.aV,.fn a0_3.id a0_3.aV]]
 | .c52 a0_0 a0_1 a0_2 a0_3=>[.cptr [.fn a0_0.id a0_0.aV,.fn a0_1.id a0_1.aV,.fn a0_2.id a0_2.aV,.fn a0_3.id a0_3.aV]]
 | .c54 a0_0 a0_1 a0_2 a0_3=>[.cptr [.fn a0_0.id a0_0.aV,.fn a0_1.id a0_1.aV,.fn a0_2.id a0_2.aV,.fn a0_3.id a0_3.aV]]
 | .c65 a=>[.cptr (aD a)]
 | .c103 a=>[.cptr (aG a)]
 | .c147 a a1_0 a1_1 a1_2 a1_3=>[.cptr [.int .i64 a],.cptr [.fn a1_0.id a1_0.aV,.fn a1_1.id a1_1.aV,.fn a1_2.id a1_2.aV,.fn a1_3.id a1_3.aV]]
 | .c165 a=>[.cptr [.sl (List.map (ak .i64) a)]]
 | .c172 a=>[.cptr [.sl (List.map aP a)]]
def Fv.eu:Fv→Bool
 | .fn _=>true
 | .bot _ _=>true
 | .c39 _=>true
 | .c43 a a1_0 a1_1 a1_2 a1_3 b=>(!a)&&a1_0.eu&&a1_1.eu&&a1_2.eu&&a1_3.eu&&(!b)
 | .c48 a0_0 a0_1 a0_2 a0_3=>a0_0.eu&&a0_1.eu&&a0_2.eu&&a0_3.eu
 | .c52 a0_0 a0_1 a0_2 a0_3=>a0_0.eu&&a0_1.eu&&a0_2.eu&&a0_3.eu
 | .c54 a0_0 a0_1 a0_2 a0_3=>a0_0.eu&&a0_1.eu&&a0_2.eu&&a0_3.eu
 | .c65 _=>true
 | .c103 _=>true
 | .c147 _ a1_0 a1_1 a1_2 a1_3=>a1_0.eu&&a1_1.eu&&a1_2.eu&&a1_3.eu
 | .c165 _=>true
 | .c172 _=>true
instance gs0:GS:=⟨0,true⟩
class PF [GS] (f:Fv):Prop where
 h:GS.p=true→f.eu=true
class LK [GS] (b:Bool):Prop where
 h:GS.p=true→b=false
theorem PF.of[GS]{f:Fv}(h:f.eu=true):PF f:=⟨fun _=>h⟩
instance[GS][RG](f:Fv):PF f:=⟨fun h=>by rw[RG.r]at h;cases h⟩
theorem LK.rg[GS]{b:Bool}[LK b](h:b=true):RG:=⟨by
 cases a:GS.p with
 | false=>rfl
 | true=>rw[(LK.h a:b=false)]at h;cases h⟩
structure bN where
 Layout:Fv
 Widths:Fv
 Lines:Fv
 Spread:Fv
def ae2:bN:=⟨(Fv.fn 0),(Fv.fn 0),(Fv.fn 0),(Fv.fn 0)⟩
instance:Inhabited bN:=⟨ae2⟩
def ce[GS](x:bN):b6:=[.fn x.Layout.id x.Layout.aV,.fn x.Widths.id x.Widths.aV,.fn x.Lines.id x.Lines.aV,.fn x.Spread.id x.Spread.aV]
structure iy where
 f:Unit
 env:bN
def QB:iy:=⟨(),⟨(Fv.fn 0),(Fv.fn 0),(Fv.fn 0),(Fv.fn 0)⟩⟩
instance:Inhabited iy:=⟨QB⟩
def qi[GS](x:iy):b6:=[.any,.fn x.env.Layout.id x.env.Layout.aV,.fn x.env.Widths.id x.env.Widths.aV,.fn x.env.Lines.id x.env.Lines.aV,.fn x.env.Spread.id x.env.Spread.aV]
structure Kn where
 Ca:ag→ag→Option Bool
 Al:ab→Option ab
 k7:(List aK)→Int→Option (ag×Int)
 Ti:ag→(List aK)→Option ag
 xH:ab→Option ab
 uL:iy→ag→b5→Option Unit
 BB:(List ag)→Int→(List aS)→Option (Int×(List aS))
 ta:Fv→Int→Int→Option Int
 wH:Fv→(List ag)→aO→Int→Option ((List ab)×Int)
 xX:Fv→(List ag)→aO→Option eb
 dE:Fv→ag→Int→Int→Int→(List ay)→Option (ab×Int×Int×(List ay))
 sk:Fv→ag→ag→Option Bool
 mh:Fv→ag→Option Bool
 jD:Fv→ag→Option eb
 sQ:Fv→ay→Option Bool
end Go.Proofs.YtocgkfoifehcbaaGreat

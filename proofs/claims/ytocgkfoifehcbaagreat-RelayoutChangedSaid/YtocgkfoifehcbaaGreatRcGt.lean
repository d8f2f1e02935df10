/- Types of layer 22z's program as Lean types, with their cells. Made by a program. -/
import Derived.Test.YtocgkfoifehcbaaGreatRcVz
import Derived.Test.YtocgkfoifehcbaaGreatRcVdz
import Derived.MapKept
import Derived.Test.YtocgkfoifehcbaaGreatRcVv
import Derived.Test.YtocgkfoifehcbaaGreatRcVg
import Derived.Test.YtocgkfoifehcbaaGreatRcVdt
import Derived.Test.YtocgkfoifehcbaaGreatRcVn
import Derived.Test.YtocgkfoifehcbaaGreatRcDp
import Derived.Test.YtocgkfoifehcbaaGreatRcCu
namespace Go.Proofs.YtocgkfoifehcbaaGreat
open Go.RowKit
set_option maxRecDepth 20000
set_option linter.all false
set_option linter.unusedVariables false
set_option linter.unusedSimpArgs false
structure cE where
 Kind:Int
 Value:Int
def cz:cE:=⟨0,0⟩
instance:Inhabited cE:=⟨cz⟩
def eK(x y:cE):Bool:=((x.Kind == y.Kind)&&((x.Value == y.Value)&&true))
def eh(x:cE):List AV:=[.int .i64 x.Kind,.int .i64 x.Value]
structure aX where
 Display:Int
 Position:Int
 Left:cE
 Top:cE
 Width:cE
 Height:cE
 MinWidth:cE
 MaxWidth:cE
 Margin:(V4 cE)
 Padding:(V4 cE)
 Border:(V4 Int)
 BorderColor:ByteArray
 Color:ByteArray
 Background:ByteArray
 FontSize:Int
 LineHeight:Int
 TextAlign:Int
 WhiteSpace:Int
 VAlign:Int
 Direction:Int
 Wrap:Bool
 Grow:Int
 Shrink:Int
 Basis:cE
 Order:Int
 Z:Int
 ZAuto:Bool
 Overflow:Int
 Visibility:Int
def cg:aX:=⟨0,0,⟨0,0⟩,⟨0,0⟩,⟨0,0⟩,⟨0,0⟩,⟨0,0⟩,⟨0,0⟩,⟨⟨0,0⟩,⟨0,0⟩,⟨0,0⟩,⟨0,0⟩⟩,⟨⟨0,0⟩,⟨0,0⟩,⟨0,0⟩,⟨0,0⟩⟩,⟨0,0,0,0⟩,⟨#[]⟩,⟨#[]⟩,⟨#[]⟩,0,0,0,0,0,0,false,0,0,⟨0,0⟩,0,0,false,0,0⟩
instance:Inhabited aX:=⟨cg⟩
def kx(x y:aX):Bool:=((x.Display == y.Display)&&((x.Position == y.Position)&&((eK x.Left y.Left)&&((eK x.Top y.Top)&&((eK x.Width y.Width)&&((eK x.Height y.Height)&&((eK x.MinWidth y.MinWidth)&&((eK x.MaxWidth y.MaxWidth)&&(((eK x.Margin.a0 y.Margin.a0)&&((eK x.Margin.a1 y.Margin.a1)&&((eK x.Margin.a2 y.Margin.a2)&&((eK x.Margin.a3 y.Margin.a3)&&true))))&&(((eK x.Padding.a0 y.Padding.a0)&&((eK x.Padding.a1 y.Padding.a1)&&((eK x.Padding.a2 y.Padding.a2)&&((eK x.Padding.a3 y.Padding.a3)&&true))))&&(((x.Border.a0 == y.Border.a0)&&((x.Border.a1 == y.Border.a1)&&((x.Border.a2 == y.Border.a2)&&((x.Border.a3 == y.Border.a3)&&true))))&&((x.BorderColor.toList == y.BorderColor.toList)&&((x.Color.toList == y.Color.toList)&&((x.Background.toList == y.Background.toList)&&((x.FontSize == y.FontSize)&&((x.LineHeight == y.LineHeight)&&((x.TextAlign == y.TextAlign)&&((x.WhiteSpace == y.WhiteSpace)&&((x.VAlign == y.VAlign)&&((x.Direction == y.Direction)&&((x.Wrap == y.Wrap)&&((x.Grow == y.Grow)&&((x.Shrink == y.Shrink)&&((eK x.Basis y.Basis)&&((x.Order == y.Order)&&((x.Z == y.Z)&&((x.ZAuto == y.ZAuto)&&((x.Overflow == y.Overflow)&&((x.Visibility == y.Visibility)&&true)))))))))))))))))))))))))))))
def aE(x:aX):List AV:=[.int .i64 x.Display,.int .i64 x.Position,.int .i64 x.Left.Kind,.int .i64 x.Left.Value,.int .i64 x.Top.Kind,.int .i64 x.Top.Value,.int .i64 x.Width.Kind,.int .i64 x.Width.Value,.int .i64 x.Height.Kind,.int .i64 x.Height.Value,.int .i64 x.MinWidth.Kind,.int .i64 x.MinWidth.Value,.int .i64 x.MaxWidth.Kind,.int .i64 x.MaxWidth.Value,.int .i64 x.Margin.a0.Kind,.int .i64 x.Margin.a0.Value,.int .i64 x.Margin.a1.Kind,.int .i64 x.Margin.a1.Value,.int .i64 x.Margin.a2.Kind,.int .i64 x.Margin.a2.Value,.int .i64 x.Margin.a3.Kind,.int .i64 x.Margin.a3.Value,.int .i64 x.Padding.a0.Kind,.int .i64 x.Padding.a0.Value,.int .i64 x.Padding.a1.Kind,.int .i64 x.Padding.a1.Value,.int .i64 x.Padding.a2.Kind,.int .i64 x.Padding.a2.Value,.int .i64 x.Padding.a3.Kind,.int .i64 x.Padding.a3.Value,.int .i64 x.Border.a0,.int .i64 x.Border.a1,.int .i64 x.Border.a2,.int .i64 x.Border.a3,.str x.BorderColor,.str x.Color,.str x.Background,.int .i64 x.FontSize,.int .i64 x.LineHeight,.int .i64 x.TextAlign,.int .i64 x.WhiteSpace,.int .i64 x.VAlign,.int .i64 x.Direction,.bool x.Wrap,.int .i64 x.Grow,.int .i64 x.Shrink,.int .i64 x.Basis.Kind,.int .i64 x.Basis.Value,.int .i64 x.Order,.int .i64 x.Z,.bool x.ZAuto,.int .i64 x.Overflow,.int .i64 x.Visibility]
structure aM where
 Depth:Int
 Kind:Int
 Text:ByteArray
 Rows:Int
 Cols:Int
 Style:aX
def mY:aM:=⟨0,0,⟨#[]⟩,0,0,⟨0,0,⟨0,0⟩,⟨0,0⟩,⟨0,0⟩,⟨0,0⟩,⟨0,0⟩,⟨0,0⟩,⟨⟨0,0⟩,⟨0,0⟩,⟨0,0⟩,⟨0,0⟩⟩,⟨⟨0,0⟩,⟨0,0⟩,⟨0,0⟩,⟨0,0⟩⟩,⟨0,0,0,0⟩,⟨#[]⟩,⟨#[]⟩,⟨#[]⟩,0,0,0,0,0,0,false,0,0,⟨0,0⟩,0,0,false,0,0⟩⟩
instance:Inhabited aM:=⟨mY⟩
def aH(x:aM):List AV:=[.int .u8 x.Depth,.int .u8 x.Kind,.str x.Text,.int .u8 x.Rows,.int .u8 x.Cols,.int .i64 x.Style.Display,.int .i64 x.Style.Position,.int .i64 x.Style.Left.Kind,.int .i64 x.Style.Left.Value,.int .i64 x.Style.Top.Kind,.int .i64 x.Style.Top.Value,.int .i64 x.Style.Width.Kind,.int .i64 x.Style.Width.Value,.int .i64 x.Style.Height.Kind,.int .i64 x.Style.Height.Value,.int .i64 x.Style.MinWidth.Kind,.int .i64 x.Style.MinWidth.Value,.int .i64 x.Style.MaxWidth.Kind,.int .i64 x.Style.MaxWidth.Value,.int .i64 x.Style.Margin.a0.Kind,.int .i64 x.Style.Margin.a0.Value,.int .i64 x.Style.Margin.a1.Kind,.int .i64 x.Style.Margin.a1.Value,.int .i64 x.Style.Margin.a2.Kind,.int .i64 x.Style.Margin.a2.Value,.int .i64 x.Style.Margin.a3.Kind,.int .i64 x.Style.Margin.a3.Value,.int .i64 x.Style.Padding.a0.Kind,.int .i64 x.Style.Padding.a0.Value,.int .i64 x.Style.Padding.a1.Kind,.int .i64 x.Style.Padding.a1.Value,.int .i64 x.Style.Padding.a2.Kind,.int .i64 x.Style.Padding.a2.Value,.int .i64 x.Style.Padding.a3.Kind,.int .i64 x.Style.Padding.a3.Value,.int .i64 x.Style.Border.a0,.int .i64 x.Style.Border.a1,.int .i64 x.Style.Border.a2,.int .i64 x.Style.Border.a3,.str x.Style.BorderColor,.str x.Style.Color,.str x.Style.Background,.int .i64 x.Style.FontSize,.int .i64 x.Style.LineHeight,.int .i64 x.Style.TextAlign,.int .i64 x.Style.WhiteSpace,.int .i64 x.Style.VAlign,.int .i64 x.Style.Direction,.bool x.Style.Wrap,.int .i64 x.Style.Grow,.int .i64 x.Style.Shrink,.int .i64 x.Style.Basis.Kind,.int .i64 x.Style.Basis.Value,.int .i64 x.Style.Order,.int .i64 x.Style.Z,.bool x.Style.ZAuto,.int .i64 x.Style.Overflow,.int .i64 x.Style.Visibility]
theorem cR(x:aM):(aH x).length=58:=rfl
structure eo where
 At:Int
 Kind:Int
 Spec:aM
def ZS:eo:=⟨0,0,⟨0,0,⟨#[]⟩,0,0,⟨0,0,⟨0,0⟩,⟨0,0⟩,⟨0,0⟩,⟨0,0⟩,⟨0,0⟩,⟨0,0⟩,⟨⟨0,0⟩,⟨0,0⟩,⟨0,0⟩,⟨0,0⟩⟩,⟨⟨0,0⟩,⟨0,0⟩,⟨0,0⟩,⟨0,0⟩⟩,⟨0,0,0,0⟩,⟨#[]⟩,⟨#[]⟩,⟨#[]⟩,0,0,0,0,0,0,false,0,0,⟨0,0⟩,0,0,false,0,0⟩⟩⟩
instance:Inhabited eo:=⟨ZS⟩
def dP(x:eo):List AV:=[.int .u8 x.At,.int .u8 x.Kind,.int .u8 x.Spec.Depth,.int .u8 x.Spec.Kind,.str x.Spec.Text,.int .u8 x.Spec.Rows,.int .u8 x.Spec.Cols,.int .i64 x.Spec.Style.Display,.int .i64 x.Spec.Style.Position,.int .i64 x.Spec.Style.Left.Kind,.int .i64 x.Spec.Style.Left.Value,.int .i64 x.Spec.Style.Top.Kind,.int .i64 x.Spec.Style.Top.Value,.int .i64 x.Spec.Style.Width.Kind,.int .i64 x.Spec.Style.Width.Value,.int .i64 x.Spec.Style.Height.Kind,.int .i64 x.Spec.Style.Height.Value,.int .i64 x.Spec.Style.MinWidth.Kind,.int .i64 x.Spec.Style.MinWidth.Value,.int .i64 x.Spec.Style.MaxWidth.Kind,.int .i64 x.Spec.Style.MaxWidth.Value,.int .i64 x.Spec.Style.Margin.a0.Kind,.int .i64 x.Spec.Style.Margin.a0.Value,.int .i64 x.Spec.Style.Margin.a1.Kind,.int .i64 x.Spec.Style.Margin.a1.Value,.int .i64 x.Spec.Style.Margin.a2.Kind,.int .i64 x.Spec.Style.Margin.a2.Value,.int .i64 x.Spec.Style.Margin.a3.Kind,.int .i64 x.Spec.Style.Margin.a3.Value,.int .i64 x.Spec.Style.Padding.a0.Kind,.int .i64 x.Spec.Style.Padding.a0.Value,.int .i64 x.Spec.Style.Padding.a1.Kind,.int .i64 x.Spec.Style.Padding.a1.Value,.int .i64 x.Spec.Style.Padding.a2.Kind,.int .i64 x.Spec.Style.Padding.a2.Value,.int .i64 x.Spec.Style.Padding.a3.Kind,.int .i64 x.Spec.Style.Padding.a3.Value,.int .i64 x.Spec.Style.Border.a0,.int .i64 x.Spec.Style.Border.a1,.int .i64 x.Spec.Style.Border.a2,.int .i64 x.Spec.Style.Border.a3,.str x.Spec.Style.BorderColor,.str x.Spec.Style.Color,.str x.Spec.Style.Background,.int .i64 x.Spec.Style.FontSize,.int .i64 x.Spec.Style.LineHeight,.int .i64 x.Spec.Style.TextAlign,.int .i64 x.Spec.Style.WhiteSpace,.int .i64 x.Spec.Style.VAlign,.int .i64 x.Spec.Style.Direction,.bool x.Spec.Style.Wrap,.int .i64 x.Spec.Style.Grow,.int .i64 x.Spec.Style.Shrink,.int .i64 x.Spec.Style.Basis.Kind,.int .i64 x.Spec.Style.Basis.Value,.int .i64 x.Spec.Style.Order,.int .i64 x.Spec.Style.Z,.bool x.Spec.Style.ZAuto,.int .i64 x.Spec.Style.Overflow,.int .i64 x.Spec.Style.Visibility]
theorem Qh(x:eo):(dP x).length=60:=rfl
structure ah where
 Kind:Int
 Node:Int
 Style:aX
 Text:ByteArray
 Rows:Int
 Cols:Int
 Kids:(List ah)
def cA:ah:=⟨0,0,⟨0,0,⟨0,0⟩,⟨0,0⟩,⟨0,0⟩,⟨0,0⟩,⟨0,0⟩,⟨0,0⟩,⟨⟨0,0⟩,⟨0,0⟩,⟨0,0⟩,⟨0,0⟩⟩,⟨⟨0,0⟩,⟨0,0⟩,⟨0,0⟩,⟨0,0⟩⟩,⟨0,0,0,0⟩,⟨#[]⟩,⟨#[]⟩,⟨#[]⟩,0,0,0,0,0,0,false,0,0,⟨0,0⟩,0,0,false,0,0⟩,⟨#[]⟩,0,0,[]⟩
instance:Inhabited ah:=⟨cA⟩
mutual
def aF:ah→List AV
 | ⟨Kind,Node,Style,Text,Rows,Cols,Kids⟩=>[.int .i64 Kind,.int .i64 Node,.int .i64 Style.Display,.int .i64 Style.Position,.int .i64 Style.Left.Kind,.int .i64 Style.Left.Value,.int .i64 Style.Top.Kind,.int .i64 Style.Top.Value,.int .i64 Style.Width.Kind,.int .i64 Style.Width.Value,.int .i64 Style.Height.Kind,.int .i64 Style.Height.Value,.int .i64 Style.MinWidth.Kind,.int .i64 Style.MinWidth.Value,.int .i64 Style.MaxWidth.Kind,.int .i64 Style.MaxWidth.Value,.int .i64 Style.Margin.a0.Kind,.int .i64 Style.Margin.a0.Value,.int .i64 Style.Margin.a1.Kind,.int .i64 Style.Margin.a1.Value,.int .i64 Style.Margin.a2.Kind,.int .i64 Style.Margin.a2.Value,.int .i64 Style.Margin.a3.Kind,.int .i64 Style.Margin.a3.Value,.int .i64 Style.Padding.a0.Kind,.int .i64 Style.Padding.a0.Value,.int .i64 Style.Padding.a1.Kind,.int .i64 Style.Padding.a1.Value,.int .i64 Style.Padding.a2.Kind,.int .i64 Style.Padding.a2.Value,.int .i64 Style.Padding.a3.Kind,.int .i64 Style.Padding.a3.Value,.int .i64 Style.Border.a0,.int .i64 Style.Border.a1,.int .i64 Style.Border.a2,.int .i64 Style.Border.a3,.str Style.BorderColor,.str Style.Color,.str Style.Background,.int .i64 Style.FontSize,.int .i64 Style.LineHeight,.int .i64 Style.TextAlign,.int .i64 Style.WhiteSpace,.int .i64 Style.VAlign,.int .i64 Style.Direction,.bool Style.Wrap,.int .i64 Style.Grow,.int .i64 Style.Shrink,.int .i64 Style.Basis.Kind,.int .i64 Style.Basis.Value,.int .i64 Style.Order,.int .i64 Style.Z,.bool Style.ZAuto,.int .i64 Style.Overflow,.int .i64 Style.Visibility,.str Text,.int .i64 Rows,.int .i64 Cols,.sl (pr Kids)]
def pr:List ah→List (List AV)
 | []=>[]
 | x::r=>aF x::pr r
end
theorem LF:∀l:List ah,pr l=l.map aF
 | []=>by simp[pr]
 | x::r=>by simp[pr,LF r]
def ap(x:ah):List AV:=[.int .i64 x.Kind,.int .i64 x.Node,.int .i64 x.Style.Display,.int .i64 x.Style.Position,.int .i64 x.Style.Left.Kind,.int .i64 x.Style.Left.Value,.int .i64 x.Style.Top.Kind,.int .i64 x.Style.Top.Value,.int .i64 x.Style.Width.Kind,.int .i64 x.Style.Width.Value,.int .i64 x.Style.Height.Kind,.int .i64 x.Style.Height.Value,.int .i64 x.Style.MinWidth.Kind,.int .i64 x.Style.MinWidth.Value,.int .i64 x.Style.MaxWidth.Kind,.int .i64 x.Style.MaxWidth.Value,.int .i64 x.Style.Margin.a0.Kind,.int .i64 x.Style.Margin.a0.Value,.int .i64 x.Style.Margin.a1.Kind,.int .i64 x.Style.Margin.a1.Value,.int .i64 x.Style.Margin.a2.Kind,.int .i64 x.Style.Margin.a2.Value,.int .i64 x.Style.Margin.a3.Kind,.int .i64 x.Style.Margin.a3.Value,.int .i64 x.Style.Padding.a0.Kind,.int .i64 x.Style.Padding.a0.Value,.int .i64 x.Style.Padding.a1.Kind,.int .i64 x.Style.Padding.a1.Value,.int .i64 x.Style.Padding.a2.Kind,.int .i64 x.Style.Padding.a2.Value,.int .i64 x.Style.Padding.a3.Kind,.int .i64 x.Style.Padding.a3.Value,.int .i64 x.Style.Border.a0,.int .i64 x.Style.Border.a1,.int .i64 x.Style.Border.a2,.int .i64 x.Style.Border.a3,.str x.Style.BorderColor,.str x.Style.Color,.str x.Style.Background,.int .i64 x.Style.FontSize,.int .i64 x.Style.LineHeight,.int .i64 x.Style.TextAlign,.int .i64 x.Style.WhiteSpace,.int .i64 x.Style.VAlign,.int .i64 x.Style.Direction,.bool x.Style.Wrap,.int .i64 x.Style.Grow,.int .i64 x.Style.Shrink,.int .i64 x.Style.Basis.Kind,.int .i64 x.Style.Basis.Value,.int .i64 x.Style.Order,.int .i64 x.Style.Z,.bool x.Style.ZAuto,.int .i64 x.Style.Overflow,.int .i64 x.Style.Visibility,.str x.Text,.int .i64 x.Rows,.int .i64 x.Cols,.sl (List.map aF x.Kids)]
theorem cX(x:ah):aF x=ap x:=by
 cases x;simp only[aF,ap,LF]
theorem dE(x:ah):(aF x).length=59:=by rw[cX];rfl
structure bn where
 Pos:Int
 Neg:Int
def dg:bn:=⟨0,0⟩
instance:Inhabited bn:=⟨dg⟩
def cC(x:bn):List AV:=[.int .i64 x.Pos,.int .i64 x.Neg]
structure aj where
 Kind:Int
 Node:Int
 X:Int
 Y:Int
 W:Int
 H:Int
 aB:Int
 Text:ByteArray
 Style:aX
 Before:bn
 After:bn
 Empty:Bool
 Kids:(List aj)
def bQ:aj:=⟨0,0,0,0,0,0,0,⟨#[]⟩,⟨0,0,⟨0,0⟩,⟨0,0⟩,⟨0,0⟩,⟨0,0⟩,⟨0,0⟩,⟨0,0⟩,⟨⟨0,0⟩,⟨0,0⟩,⟨0,0⟩,⟨0,0⟩⟩,⟨⟨0,0⟩,⟨0,0⟩,⟨0,0⟩,⟨0,0⟩⟩,⟨0,0,0,0⟩,⟨#[]⟩,⟨#[]⟩,⟨#[]⟩,0,0,0,0,0,0,false,0,0,⟨0,0⟩,0,0,false,0,0⟩,⟨0,0⟩,⟨0,0⟩,false,[]⟩
instance:Inhabited aj:=⟨bQ⟩
mutual
def aL:aj→List AV
 | ⟨Kind,Node,X,Y,W,H,aB,Text,Style,Before,After,Empty,Kids⟩=>[.int .i64 Kind,.int .i64 Node,.int .i64 X,.int .i64 Y,.int .i64 W,.int .i64 H,.int .i64 aB,.str Text,.int .i64 Style.Display,.int .i64 Style.Position,.int .i64 Style.Left.Kind,.int .i64 Style.Left.Value,.int .i64 Style.Top.Kind,.int .i64 Style.Top.Value,.int .i64 Style.Width.Kind,.int .i64 Style.Width.Value,.int .i64 Style.Height.Kind,.int .i64 Style.Height.Value,.int .i64 Style.MinWidth.Kind,.int .i64 Style.MinWidth.Value,.int .i64 Style.MaxWidth.Kind,.int .i64 Style.MaxWidth.Value,.int .i64 Style.Margin.a0.Kind,.int .i64 Style.Margin.a0.Value,.int .i64 Style.Margin.a1.Kind,.int .i64 Style.Margin.a1.Value,.int .i64 Style.Margin.a2.Kind,.int .i64 Style.Margin.a2.Value,.int .i64 Style.Margin.a3.Kind,.int .i64 Style.Margin.a3.Value,.int .i64 Style.Padding.a0.Kind,.int .i64 Style.Padding.a0.Value,.int .i64 Style.Padding.a1.Kind,.int .i64 Style.Padding.a1.Value,.int .i64 Style.Padding.a2.Kind,.int .i64 Style.Padding.a2.Value,.int .i64 Style.Padding.a3.Kind,.int .i64 Style.Padding.a3.Value,.int .i64 Style.Border.a0,.int .i64 Style.Border.a1,.int .i64 Style.Border.a2,.int .i64 Style.Border.a3,.str Style.BorderColor,.str Style.Color,.str Style.Background,.int .i64 Style.FontSize,.int .i64 Style.LineHeight,.int .i64 Style.TextAlign,.int .i64 Style.WhiteSpace,.int .i64 Style.VAlign,.int .i64 Style.Direction,.bool Style.Wrap,.int .i64 Style.Grow,.int .i64 Style.Shrink,.int .i64 Style.Basis.Kind,.int .i64 Style.Basis.Value,.int .i64 Style.Order,.int .i64 Style.Z,.bool Style.ZAuto,.int .i64 Style.Overflow,.int .i64 Style.Visibility,.int .i64 Before.Pos,.int .i64 Before.Neg,.int .i64 After.Pos,.int .i64 After.Neg,.bool Empty,.sl (oQ Kids)]
def oQ:List aj→List (List AV)
 | []=>[]
 | x::r=>aL x::oQ r
end
theorem G5:∀l:List aj,oQ l=l.map aL
 | []=>by simp[oQ]
 | x::r=>by simp[oQ,G5 r]
def aI(x:aj):List AV:=[.int .i64 x.Kind,.int .i64 x.Node,.int .i64 x.X,.int .i64 x.Y,.int .i64 x.W,.int .i64 x.H,.int .i64 x.aB,.str x.Text,.int .i64 x.Style.Display,.int .i64 x.Style.Position,.int .i64 x.Style.Left.Kind,.int .i64 x.Style.Left.Value,.int .i64 x.Style.Top.Kind,.int .i64 x.Style.Top.Value,.int .i64 x.Style.Width.Kind,.int .i64 x.Style.Width.Value,.int .i64 x.Style.Height.Kind,.int .i64 x.Style.Height.Value,.int .i64 x.Style.MinWidth.Kind,.int .i64 x.Style.MinWidth.Value,.int .i64 x.Style.MaxWidth.Kind,.int .i64 x.Style.MaxWidth.Value,.int .i64 x.Style.Margin.a0.Kind,.int .i64 x.Style.Margin.a0.Value,.int .i64 x.Style.Margin.a1.Kind,.int .i64 x.Style.Margin.a1.Value,.int .i64 x.Style.Margin.a2.Kind,.int .i64 x.Style.Margin.a2.Value,.int .i64 x.Style.Margin.a3.Kind,.int .i64 x.Style.Margin.a3.Value,.int .i64 x.Style.Padding.a0.Kind,.int .i64 x.Style.Padding.a0.Value,.int .i64 x.Style.Padding.a1.Kind,.int .i64 x.Style.Padding.a1.Value,.int .i64 x.Style.Padding.a2.Kind,.int .i64 x.Style.Padding.a2.Value,.int .i64 x.Style.Padding.a3.Kind,.int .i64 x.Style.Padding.a3.Value,.int .i64 x.Style.Border.a0,.int .i64 x.Style.Border.a1,.int .i64 x.Style.Border.a2,.int .i64 x.Style.Border.a3,.str x.Style.BorderColor,.str x.Style.Color,.str x.Style.Background,.int .i64 x.Style.FontSize,.int .i64 x.Style.LineHeight,.int .i64 x.Style.TextAlign,.int .i64 x.Style.WhiteSpace,.int .i64 x.Style.VAlign,.int .i64 x.Style.Direction,.bool x.Style.Wrap,.int .i64 x.Style.Grow,.int .i64 x.Style.Shrink,.int .i64 x.Style.Basis.Kind,.int .i64 x.Style.Basis.Value,.int .i64 x.Style.Order,.int .i64 x.Style.Z,.bool x.Style.ZAuto,.int .i64 x.Style.Overflow,.int .i64 x.Style.Visibility,.int .i64 x.Before.Pos,.int .i64 x.Before.Neg,.int .i64 x.After.Pos,.int .i64 x.After.Neg,.bool x.Empty,.sl (List.map aL x.Kids)]
theorem c9(x:aj):aL x=aI x:=by
 cases x;simp only[aL,aI,G5]
theorem hZ(x:aj):(aL x).length=67:=by rw[c9];rfl
structure aA where
 Box:ah
 Width:Int
 Fragment:aj
def Zf:aA:=⟨⟨0,0,⟨0,0,⟨0,0⟩,⟨0,0⟩,⟨0,0⟩,⟨0,0⟩,⟨0,0⟩,⟨0,0⟩,⟨⟨0,0⟩,⟨0,0⟩,⟨0,0⟩,⟨0,0⟩⟩,⟨⟨0,0⟩,⟨0,0⟩,⟨0,0⟩,⟨0,0⟩⟩,⟨0,0,0,0⟩,⟨#[]⟩,⟨#[]⟩,⟨#[]⟩,0,0,0,0,0,0,false,0,0,⟨0,0⟩,0,0,false,0,0⟩,⟨#[]⟩,0,0,[]⟩,0,⟨0,0,0,0,0,0,0,⟨#[]⟩,⟨0,0,⟨0,0⟩,⟨0,0⟩,⟨0,0⟩,⟨0,0⟩,⟨0,0⟩,⟨0,0⟩,⟨⟨0,0⟩,⟨0,0⟩,⟨0,0⟩,⟨0,0⟩⟩,⟨⟨0,0⟩,⟨0,0⟩,⟨0,0⟩,⟨0,0⟩⟩,⟨0,0,0,0⟩,⟨#[]⟩,⟨#[]⟩,⟨#[]⟩,0,0,0,0,0,0,false,0,0,⟨0,0⟩,0,0,false,0,0⟩,⟨0,0⟩,⟨0,0⟩,false,[]⟩⟩
instance:Inhabited aA:=⟨Zf⟩
def aY(x:aA):List AV:=[.int .i64 x.Box.Kind,.int .i64 x.Box.Node,.int .i64 x.Box.Style.Display,.int .i64 x.Box.Style.Position,.int .i64 x.Box.Style.Left.Kind,.int .i64 x.Box.Style.Left.Value,.int .i64 x.Box.Style.Top.Kind,.int .i64 x.Box.Style.Top.Value,.int .i64 x.Box.Style.Width.Kind,.int .i64 x.Box.Style.Width.Value,.int .i64 x.Box.Style.Height.Kind,.int .i64 x.Box.Style.Height.Value,.int .i64 x.Box.Style.MinWidth.Kind,.int .i64 x.Box.Style.MinWidth.Value,.int .i64 x.Box.Style.MaxWidth.Kind,.int .i64 x.Box.Style.MaxWidth.Value,.int .i64 x.Box.Style.Margin.a0.Kind,.int .i64 x.Box.Style.Margin.a0.Value,.int .i64 x.Box.Style.Margin.a1.Kind,.int .i64 x.Box.Style.Margin.a1.Value,.int .i64 x.Box.Style.Margin.a2.Kind,.int .i64 x.Box.Style.Margin.a2.Value,.int .i64 x.Box.Style.Margin.a3.Kind,.int .i64 x.Box.Style.Margin.a3.Value,.int .i64 x.Box.Style.Padding.a0.Kind,.int .i64 x.Box.Style.Padding.a0.Value,.int .i64 x.Box.Style.Padding.a1.Kind,.int .i64 x.Box.Style.Padding.a1.Value,.int .i64 x.Box.Style.Padding.a2.Kind,.int .i64 x.Box.Style.Padding.a2.Value,.int .i64 x.Box.Style.Padding.a3.Kind,.int .i64 x.Box.Style.Padding.a3.Value,.int .i64 x.Box.Style.Border.a0,.int .i64 x.Box.Style.Border.a1,.int .i64 x.Box.Style.Border.a2,.int .i64 x.Box.Style.Border.a3,.str x.Box.Style.BorderColor,.str x.Box.Style.Color,.str x.Box.Style.Background,.int .i64 x.Box.Style.FontSize,.int .i64 x.Box.Style.LineHeight,.int .i64 x.Box.Style.TextAlign,.int .i64 x.Box.Style.WhiteSpace,.int .i64 x.Box.Style.VAlign,.int .i64 x.Box.Style.Direction,.bool x.Box.Style.Wrap,.int .i64 x.Box.Style.Grow,.int .i64 x.Box.Style.Shrink,.int .i64 x.Box.Style.Basis.Kind,.int .i64 x.Box.Style.Basis.Value,.int .i64 x.Box.Style.Order,.int .i64 x.Box.Style.Z,.bool x.Box.Style.ZAuto,.int .i64 x.Box.Style.Overflow,.int .i64 x.Box.Style.Visibility,.str x.Box.Text,.int .i64 x.Box.Rows,.int .i64 x.Box.Cols,.sl (List.map aF x.Box.Kids),.int .i64 x.Width,.int .i64 x.Fragment.Kind,.int .i64 x.Fragment.Node,.int .i64 x.Fragment.X,.int .i64 x.Fragment.Y,.int .i64 x.Fragment.W,.int .i64 x.Fragment.H,.int .i64 x.Fragment.aB,.str x.Fragment.Text,.int .i64 x.Fragment.Style.Display,.int .i64 x.Fragment.Style.Position,.int .i64 x.Fragment.Style.Left.Kind,.int .i64 x.Fragment.Style.Left.Value,.int .i64 x.Fragment.Style.Top.Kind,.int .i64 x.Fragment.Style.Top.Value,.int .i64 x.Fragment.Style.Width.Kind,.int .i64 x.Fragment.Style.Width.Value,.int .i64 x.Fragment.Style.Height.Kind,.int .i64 x.Fragment.Style.Height.Value,.int .i64 x.Fragment.Style.MinWidth.Kind,.int .i64 x.Fragment.Style.MinWidth.Value,.int .i64 x.Fragment.Style.MaxWidth.Kind,.int .i64 x.Fragment.Style.MaxWidth.Value,.int .i64 x.Fragment.Style.Margin.a0.Kind,.int .i64 x.Fragment.Style.Margin.a0.Value,.int .i64 x.Fragment.Style.Margin.a1.Kind,.int .i64 x.Fragment.Style.Margin.a1.Value,.int .i64 x.Fragment.Style.Margin.a2.Kind,.int .i64 x.Fragment.Style.Margin.a2.Value,.int .i64 x.Fragment.Style.Margin.a3.Kind,.int .i64 x.Fragment.Style.Margin.a3.Value,.int .i64 x.Fragment.Style.Padding.a0.Kind,.int .i64 x.Fragment.Style.Padding.a0.Value,.int .i64 x.Fragment.Style.Padding.a1.Kind,.int .i64 x.Fragment.Style.Padding.a1.Value,.int .i64 x.Fragment.Style.Padding.a2.Kind,.int .i64 x.Fragment.Style.Padding.a2.Value,.int .i64 x.Fragment.Style.Padding.a3.Kind,.int .i64 x.Fragment.Style.Padding.a3.Value,.int .i64 x.Fragment.Style.Border.a0,.int .i64 x.Fragment.Style.Border.a1,.int .i64 x.Fragment.Style.Border.a2,.int .i64 x.Fragment.Style.Border.a3,.str x.Fragment.Style.BorderColor,.str x.Fragment.Style.Color,.str x.Fragment.Style.Background,.int .i64 x.Fragment.Style.FontSize,.int .i64 x.Fragment.Style.LineHeight,.int .i64 x.Fragment.Style.TextAlign,.int .i64 x.Fragment.Style.WhiteSpace,.int .i64 x.Fragment.Style.VAlign,.int .i64 x.Fragment.Style.Direction,.bool x.Fragment.Style.Wrap,.int .i64 x.Fragment.Style.Grow,.int .i64 x.Fragment.Style.Shrink,.int .i64 x.Fragment.Style.Basis.Kind,.int .i64 x.Fragment.Style.Basis.Value,.int .i64 x.Fragment.Style.Order,.int .i64 x.Fragment.Style.Z,.bool x.Fragment.Style.ZAuto,.int .i64 x.Fragment.Style.Overflow,.int .i64 x.Fragment.Style.Visibility,.int .i64 x.Fragment.Before.Pos,.int .i64 x.Fragment.Before.Neg,.int .i64 x.Fragment.After.Pos,.int .i64 x.Fragment.After.Neg,.bool x.Fragment.Empty,.sl (List.map aL x.Fragment.Kids)]
theorem BD(x:aA):(aY x).length=127:=rfl
structure bq where
 List:(List aA)
 Fresh:Int
 Used:Int
def XS:bq:=⟨[],0,0⟩
instance:Inhabited bq:=⟨XS⟩
def bt(x:bq):List AV:=[.sl (List.map aY x.List),.int .i64 x.Fresh,.int .i64 x.Used]
structure cj where
 Margin:(V4 Int)
 Border:(V4 Int)
 Padding:(V4 Int)
 Content:Int
def ge:cj:=⟨⟨0,0,0,0⟩,⟨0,0,0,0⟩,⟨0,0,0,0⟩,0⟩
instance:Inhabited cj:=⟨ge⟩
def cb(x:cj):List AV:=[.int .i64 x.Margin.a0,.int .i64 x.Margin.a1,.int .i64 x.Margin.a2,.int .i64 x.Margin.a3,.int .i64 x.Border.a0,.int .i64 x.Border.a1,.int .i64 x.Border.a2,.int .i64 x.Border.a3,.int .i64 x.Padding.a0,.int .i64 x.Padding.a1,.int .i64 x.Padding.a2,.int .i64 x.Padding.a3,.int .i64 x.Content]
structure aD where
 Node:Int
 Text:ByteArray
 Style:aX
 Width:Int
 Space:Int
 Above:Int
 Below:Int
 Glued:Bool
 Forced:Bool
 Box:(List aj)
def cQ:aD:=⟨0,⟨#[]⟩,⟨0,0,⟨0,0⟩,⟨0,0⟩,⟨0,0⟩,⟨0,0⟩,⟨0,0⟩,⟨0,0⟩,⟨⟨0,0⟩,⟨0,0⟩,⟨0,0⟩,⟨0,0⟩⟩,⟨⟨0,0⟩,⟨0,0⟩,⟨0,0⟩,⟨0,0⟩⟩,⟨0,0,0,0⟩,⟨#[]⟩,⟨#[]⟩,⟨#[]⟩,0,0,0,0,0,0,false,0,0,⟨0,0⟩,0,0,false,0,0⟩,0,0,0,0,false,false,[]⟩
instance:Inhabited aD:=⟨cQ⟩
def aS(x:aD):List AV:=[.int .i64 x.Node,.str x.Text,.int .i64 x.Style.Display,.int .i64 x.Style.Position,.int .i64 x.Style.Left.Kind,.int .i64 x.Style.Left.Value,.int .i64 x.Style.Top.Kind,.int .i64 x.Style.Top.Value,.int .i64 x.Style.Width.Kind,.int .i64 x.Style.Width.Value,.int .i64 x.Style.Height.Kind,.int .i64 x.Style.Height.Value,.int .i64 x.Style.MinWidth.Kind,.int .i64 x.Style.MinWidth.Value,.int .i64 x.Style.MaxWidth.Kind,.int .i64 x.Style.MaxWidth.Value,.int .i64 x.Style.Margin.a0.Kind,.int .i64 x.Style.Margin.a0.Value,.int .i64 x.Style.Margin.a1.Kind,.int .i64 x.Style.Margin.a1.Value,.int .i64 x.Style.Margin.a2.Kind,.int .i64 x.Style.Margin.a2.Value,.int .i64 x.Style.Margin.a3.Kind,.int .i64 x.Style.Margin.a3.Value,.int .i64 x.Style.Padding.a0.Kind,.int .i64 x.Style.Padding.a0.Value,.int .i64 x.Style.Padding.a1.Kind,.int .i64 x.Style.Padding.a1.Value,.int .i64 x.Style.Padding.a2.Kind,.int .i64 x.Style.Padding.a2.Value,.int .i64 x.Style.Padding.a3.Kind,.int .i64 x.Style.Padding.a3.Value,.int .i64 x.Style.Border.a0,.int .i64 x.Style.Border.a1,.int .i64 x.Style.Border.a2,.int .i64 x.Style.Border.a3,.str x.Style.BorderColor,.str x.Style.Color,.str x.Style.Background,.int .i64 x.Style.FontSize,.int .i64 x.Style.LineHeight,.int .i64 x.Style.TextAlign,.int .i64 x.Style.WhiteSpace,.int .i64 x.Style.VAlign,.int .i64 x.Style.Direction,.bool x.Style.Wrap,.int .i64 x.Style.Grow,.int .i64 x.Style.Shrink,.int .i64 x.Style.Basis.Kind,.int .i64 x.Style.Basis.Value,.int .i64 x.Style.Order,.int .i64 x.Style.Z,.bool x.Style.ZAuto,.int .i64 x.Style.Overflow,.int .i64 x.Style.Visibility,.int .i64 x.Width,.int .i64 x.Space,.int .i64 x.Above,.int .i64 x.Below,.bool x.Glued,.bool x.Forced,.sl (List.map aL x.Box)]
theorem fj(x:aD):(aS x).length=62:=rfl
structure bZ where
 aB:Int
 Grow:Int
 Shrink:Int
 Min:Int
 Max:Int
def mK:bZ:=⟨0,0,0,0,0⟩
instance:Inhabited bZ:=⟨mK⟩
def bV(x:bZ):List AV:=[.int .i64 x.aB,.int .i64 x.Grow,.int .i64 x.Shrink,.int .i64 x.Min,.int .i64 x.Max]
theorem DQ(x:bZ):(bV x).length=5:=rfl
structure bh where
 Kind:Int
 Of:Int
 Char:Int
 Soft:Bool
 Box:ah
def Rv:bh:=⟨0,0,0,false,cA⟩
instance:Inhabited bh:=⟨Rv⟩
def aw(x:bh):List AV:=[.int .i64 x.Kind,.int .i64 x.Of,.int .i32 x.Char,.bool x.Soft,.cptr (ap x.Box)]
theorem cB(x:bh):(aw x).length=5:=rfl
structure bi where
 Item:bZ
 factor:Int
 weight:Int
 size:Int
 fixed:Bool
def js:bi:=⟨⟨0,0,0,0,0⟩,0,0,0,false⟩
instance:Inhabited bi:=⟨js⟩
def bv(x:bi):List AV:=[.int .i64 x.Item.aB,.int .i64 x.Item.Grow,.int .i64 x.Item.Shrink,.int .i64 x.Item.Min,.int .i64 x.Item.Max,.int .i64 x.factor,.int .i64 x.weight,.int .i64 x.size,.bool x.fixed]
inductive Fv where
 | fn (id:Nat)
 | c39 (a0:aA)
 | c43 (a0:Bool) (a1_0:Fv) (a1_1:Fv) (a1_2:Fv) (a1_3:Fv) (a2:Bool)
 | c48 (a0_0:Fv) (a0_1:Fv) (a0_2:Fv) (a0_3:Fv)
 | c52 (a0_0:Fv) (a0_1:Fv) (a0_2:Fv) (a0_3:Fv)
 | c54 (a0_0:Fv) (a0_1:Fv) (a0_2:Fv) (a0_3:Fv)
 | c65 (a0:ah)
 | c103 (a0:aX)
 | c147 (a0:Int) (a1_0:Fv) (a1_1:Fv) (a1_2:Fv) (a1_3:Fv)
 | c165 (a0:(List Int))
 | c172 (a0:(List ah))
 | bot (id k:Nat)
instance:Inhabited Fv:=⟨.fn 0⟩
def Fv.id:Fv→Nat
 | .fn i=>i
 | .bot i _=>i
 | .c39 _=>39
 | .c43 _ _ _ _ _ _=>43
 | .c48 _ _ _ _=>48
 | .c52 _ _ _ _=>52
 | .c54 _ _ _ _=>54
 | .c65 _=>65
 | .c103 _=>103
 | .c147 _ _ _ _ _=>147
 | .c165 _=>165
 | .c172 _=>172
def Fv.aK[GS]:Fv→List AV
 | .fn _=>[]
 | .bot _ k=>List.replicate k .any
 | .c39 a0=>[.cptr (aY a0)]
 | .c43 a0 a1_0 a1_1 a1_2 a1_3 a2=>[.cptr [dj 36 a0],.cptr [.fn a1_0.id a1_0.aK,.fn a1_1.id a1_1.aK,.fn a1_2.id a1_2.aK,.fn a1_3.id a1_3.aK],.cptr [dj 37 a2]]
 | .c48 a0_0 a0_1 a0_2 a0_3=>[.cptr [.fn a0_0.id a0_0.aK,.fn a0_1.id a0_1.aK,.fn a0_2.id a0_2.aK,.fn a0_3.id a0_3.aK]]
 | .c52 a0_0 a0_1 a0_2 a0_3=>[.cptr [.fn a0_0.id a0_0.aK,.fn a0_1.id a0_1.aK,.fn a0_2.id a0_2.aK,.fn a0_3.id a0_3.aK]]
 | .c54 a0_0 a0_1 a0_2 a0_3=>[.cptr [.fn a0_0.id a0_0.aK,.fn a0_1.id a0_1.aK,.fn a0_2.id a0_2.aK,.fn a0_3.id a0_3.aK]]
 | .c65 a0=>[.cptr (ap a0)]
 | .c103 a0=>[.cptr (aE a0)]
 | .c147 a0 a1_0 a1_1 a1_2 a1_3=>[.cptr [.int .i64 a0],.cptr [.fn a1_0.id a1_0.aK,.fn a1_1.id a1_1.aK,.fn a1_2.id a1_2.aK,.fn a1_3.id a1_3.aK]]
 | .c165 a0=>[.cptr [.sl (List.map (af .i64) a0)]]
 | .c172 a0=>[.cptr [.sl (List.map aF a0)]]
structure bH where
 Layout:Fv
 Widths:Fv
 Lines:Fv
 Spread:Fv
def SI:bH:=⟨(Fv.fn 0),(Fv.fn 0),(Fv.fn 0),(Fv.fn 0)⟩
instance:Inhabited bH:=⟨SI⟩
def bG[GS](x:bH):List AV:=[.fn x.Layout.id x.Layout.aK,.fn x.Widths.id x.Widths.aK,.fn x.Lines.id x.Lines.aK,.fn x.Spread.id x.Spread.aK]
structure fP where
 f:Unit
 env:bH
def HL:fP:=⟨(),⟨(Fv.fn 0),(Fv.fn 0),(Fv.fn 0),(Fv.fn 0)⟩⟩
instance:Inhabited fP:=⟨HL⟩
def kw[GS](x:fP):List AV:=[.any,.fn x.env.Layout.id x.env.Layout.aK,.fn x.env.Widths.id x.env.Widths.aK,.fn x.env.Lines.id x.env.Lines.aK,.fn x.env.Spread.id x.env.Spread.aK]
structure Kn where
 nj:ah→ah→Option Bool
 mQ:ah→ah→Option Bool
 lP:ah→ah→(List Int)→Option (List Int)
 tx:ah→ah→Option Bool
 um:aj→Option aj
 gQ:(List aM)→Int→Option (ah×Int)
 Hb:ah→(List aM)→Option ah
 l8:ah→ah→(List Int)→Option (ah×(List Int))
 s5:aj→Option aj
 yT:fP→ah→(List Int)→Option Unit
 tZ:(List ah)→Int→(List bh)→Option (Int×(List bh))
 l9:(List Int)→Int→Int→Int→Fv→Option (List Int)
 fA:Fv→Int→Int→Option Int
 yv:Fv→(List ah)→aX→Int→Option ((List aj)×Int)
 xg:Fv→(List ah)→aX→Option (Int×Int)
 gR:Fv→ah→Int→Int→Int→(List aA)→Option (aj×Int×Int×(List aA))
 j6:Fv→ah→ah→Option Bool
 mF:Fv→ah→Option Bool
 ii:Fv→ah→Option (Int×Int)
 vE:Fv→ah→Option aD
 xe:Fv→aA→Option Bool
end Go.Proofs.YtocgkfoifehcbaaGreat

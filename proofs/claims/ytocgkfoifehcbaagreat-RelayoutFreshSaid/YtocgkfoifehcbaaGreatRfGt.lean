/- Types of layer 22z's program as Lean types, with their cells. Made by a program. -/
import Derived.Test.YtocgkfoifehcbaaGreatRfVz
import Derived.Test.YtocgkfoifehcbaaGreatRfVdz
import Derived.MapKept
import Derived.Test.YtocgkfoifehcbaaGreatRfVv
import Derived.Test.YtocgkfoifehcbaaGreatRfVg
import Derived.Test.YtocgkfoifehcbaaGreatRfVdt
import Derived.Test.YtocgkfoifehcbaaGreatRfVn
import Derived.Test.YtocgkfoifehcbaaGreatRfDp
import Derived.Test.YtocgkfoifehcbaaGreatRfCu
namespace Go.Proofs.YtocgkfoifehcbaaGreat
open Go.RowKit
set_option maxRecDepth 20000
set_option linter.all false
set_option linter.unusedVariables false
set_option linter.unusedSimpArgs false
structure dg where
 Kind:Int
 Value:Int
def bp:dg:=⟨0,0⟩
instance:Inhabited dg:=⟨bp⟩
def d7(x y:dg):Bool:=((x.Kind == y.Kind)&&((x.Value == y.Value)&&true))
def pH(x:dg):List AV:=[.int .i64 x.Kind,.int .i64 x.Value]
structure aJ where
 Display:Int
 Position:Int
 Left:dg
 Top:dg
 Width:dg
 Height:dg
 MinWidth:dg
 MaxWidth:dg
 Margin:(V4 dg)
 Padding:(V4 dg)
 Border:(V4 Int)
 BorderColor:ByteArray
 Color:ByteArray
 Background:ByteArray
 FontSize:Int
 LineHeight:Int
 TextAlign:Int
 WhiteSpace:Int
 VAlign:Int
 Direction:Int
 Wrap:Bool
 Grow:Int
 Shrink:Int
 Basis:dg
 Order:Int
 Z:Int
 ZAuto:Bool
 Overflow:Int
 Visibility:Int
def cT:aJ:=⟨0,0,⟨0,0⟩,⟨0,0⟩,⟨0,0⟩,⟨0,0⟩,⟨0,0⟩,⟨0,0⟩,⟨⟨0,0⟩,⟨0,0⟩,⟨0,0⟩,⟨0,0⟩⟩,⟨⟨0,0⟩,⟨0,0⟩,⟨0,0⟩,⟨0,0⟩⟩,⟨0,0,0,0⟩,⟨#[]⟩,⟨#[]⟩,⟨#[]⟩,0,0,0,0,0,0,false,0,0,⟨0,0⟩,0,0,false,0,0⟩
instance:Inhabited aJ:=⟨cT⟩
def kJ(x y:aJ):Bool:=((x.Display == y.Display)&&((x.Position == y.Position)&&((d7 x.Left y.Left)&&((d7 x.Top y.Top)&&((d7 x.Width y.Width)&&((d7 x.Height y.Height)&&((d7 x.MinWidth y.MinWidth)&&((d7 x.MaxWidth y.MaxWidth)&&(((d7 x.Margin.a0 y.Margin.a0)&&((d7 x.Margin.a1 y.Margin.a1)&&((d7 x.Margin.a2 y.Margin.a2)&&((d7 x.Margin.a3 y.Margin.a3)&&true))))&&(((d7 x.Padding.a0 y.Padding.a0)&&((d7 x.Padding.a1 y.Padding.a1)&&((d7 x.Padding.a2 y.Padding.a2)&&((d7 x.Padding.a3 y.Padding.a3)&&true))))&&(((x.Border.a0 == y.Border.a0)&&((x.Border.a1 == y.Border.a1)&&((x.Border.a2 == y.Border.a2)&&((x.Border.a3 == y.Border.a3)&&true))))&&((x.BorderColor.toList == y.BorderColor.toList)&&((x.Color.toList == y.Color.toList)&&((x.Background.toList == y.Background.toList)&&((x.FontSize == y.FontSize)&&((x.LineHeight == y.LineHeight)&&((x.TextAlign == y.TextAlign)&&((x.WhiteSpace == y.WhiteSpace)&&((x.VAlign == y.VAlign)&&((x.Direction == y.Direction)&&((x.Wrap == y.Wrap)&&((x.Grow == y.Grow)&&((x.Shrink == y.Shrink)&&((d7 x.Basis y.Basis)&&((x.Order == y.Order)&&((x.Z == y.Z)&&((x.ZAuto == y.ZAuto)&&((x.Overflow == y.Overflow)&&((x.Visibility == y.Visibility)&&true)))))))))))))))))))))))))))))
def aV(x:aJ):List AV:=[.int .i64 x.Display,.int .i64 x.Position,.int .i64 x.Left.Kind,.int .i64 x.Left.Value,.int .i64 x.Top.Kind,.int .i64 x.Top.Value,.int .i64 x.Width.Kind,.int .i64 x.Width.Value,.int .i64 x.Height.Kind,.int .i64 x.Height.Value,.int .i64 x.MinWidth.Kind,.int .i64 x.MinWidth.Value,.int .i64 x.MaxWidth.Kind,.int .i64 x.MaxWidth.Value,.int .i64 x.Margin.a0.Kind,.int .i64 x.Margin.a0.Value,.int .i64 x.Margin.a1.Kind,.int .i64 x.Margin.a1.Value,.int .i64 x.Margin.a2.Kind,.int .i64 x.Margin.a2.Value,.int .i64 x.Margin.a3.Kind,.int .i64 x.Margin.a3.Value,.int .i64 x.Padding.a0.Kind,.int .i64 x.Padding.a0.Value,.int .i64 x.Padding.a1.Kind,.int .i64 x.Padding.a1.Value,.int .i64 x.Padding.a2.Kind,.int .i64 x.Padding.a2.Value,.int .i64 x.Padding.a3.Kind,.int .i64 x.Padding.a3.Value,.int .i64 x.Border.a0,.int .i64 x.Border.a1,.int .i64 x.Border.a2,.int .i64 x.Border.a3,.str x.BorderColor,.str x.Color,.str x.Background,.int .i64 x.FontSize,.int .i64 x.LineHeight,.int .i64 x.TextAlign,.int .i64 x.WhiteSpace,.int .i64 x.VAlign,.int .i64 x.Direction,.bool x.Wrap,.int .i64 x.Grow,.int .i64 x.Shrink,.int .i64 x.Basis.Kind,.int .i64 x.Basis.Value,.int .i64 x.Order,.int .i64 x.Z,.bool x.ZAuto,.int .i64 x.Overflow,.int .i64 x.Visibility]
structure aw where
 Depth:Int
 Kind:Int
 Text:ByteArray
 Rows:Int
 Cols:Int
 Style:aJ
def nD:aw:=⟨0,0,⟨#[]⟩,0,0,⟨0,0,⟨0,0⟩,⟨0,0⟩,⟨0,0⟩,⟨0,0⟩,⟨0,0⟩,⟨0,0⟩,⟨⟨0,0⟩,⟨0,0⟩,⟨0,0⟩,⟨0,0⟩⟩,⟨⟨0,0⟩,⟨0,0⟩,⟨0,0⟩,⟨0,0⟩⟩,⟨0,0,0,0⟩,⟨#[]⟩,⟨#[]⟩,⟨#[]⟩,0,0,0,0,0,0,false,0,0,⟨0,0⟩,0,0,false,0,0⟩⟩
instance:Inhabited aw:=⟨nD⟩
def aA(x:aw):List AV:=[.int .u8 x.Depth,.int .u8 x.Kind,.str x.Text,.int .u8 x.Rows,.int .u8 x.Cols,.int .i64 x.Style.Display,.int .i64 x.Style.Position,.int .i64 x.Style.Left.Kind,.int .i64 x.Style.Left.Value,.int .i64 x.Style.Top.Kind,.int .i64 x.Style.Top.Value,.int .i64 x.Style.Width.Kind,.int .i64 x.Style.Width.Value,.int .i64 x.Style.Height.Kind,.int .i64 x.Style.Height.Value,.int .i64 x.Style.MinWidth.Kind,.int .i64 x.Style.MinWidth.Value,.int .i64 x.Style.MaxWidth.Kind,.int .i64 x.Style.MaxWidth.Value,.int .i64 x.Style.Margin.a0.Kind,.int .i64 x.Style.Margin.a0.Value,.int .i64 x.Style.Margin.a1.Kind,.int .i64 x.Style.Margin.a1.Value,.int .i64 x.Style.Margin.a2.Kind,.int .i64 x.Style.Margin.a2.Value,.int .i64 x.Style.Margin.a3.Kind,.int .i64 x.Style.Margin.a3.Value,.int .i64 x.Style.Padding.a0.Kind,.int .i64 x.Style.Padding.a0.Value,.int .i64 x.Style.Padding.a1.Kind,.int .i64 x.Style.Padding.a1.Value,.int .i64 x.Style.Padding.a2.Kind,.int .i64 x.Style.Padding.a2.Value,.int .i64 x.Style.Padding.a3.Kind,.int .i64 x.Style.Padding.a3.Value,.int .i64 x.Style.Border.a0,.int .i64 x.Style.Border.a1,.int .i64 x.Style.Border.a2,.int .i64 x.Style.Border.a3,.str x.Style.BorderColor,.str x.Style.Color,.str x.Style.Background,.int .i64 x.Style.FontSize,.int .i64 x.Style.LineHeight,.int .i64 x.Style.TextAlign,.int .i64 x.Style.WhiteSpace,.int .i64 x.Style.VAlign,.int .i64 x.Style.Direction,.bool x.Style.Wrap,.int .i64 x.Style.Grow,.int .i64 x.Style.Shrink,.int .i64 x.Style.Basis.Kind,.int .i64 x.Style.Basis.Value,.int .i64 x.Style.Order,.int .i64 x.Style.Z,.bool x.Style.ZAuto,.int .i64 x.Style.Overflow,.int .i64 x.Style.Visibility]
theorem cJ(x:aw):(aA x).length=58:=rfl
structure di where
 At:Int
 Kind:Int
 Spec:aw
def Sy:di:=⟨0,0,⟨0,0,⟨#[]⟩,0,0,⟨0,0,⟨0,0⟩,⟨0,0⟩,⟨0,0⟩,⟨0,0⟩,⟨0,0⟩,⟨0,0⟩,⟨⟨0,0⟩,⟨0,0⟩,⟨0,0⟩,⟨0,0⟩⟩,⟨⟨0,0⟩,⟨0,0⟩,⟨0,0⟩,⟨0,0⟩⟩,⟨0,0,0,0⟩,⟨#[]⟩,⟨#[]⟩,⟨#[]⟩,0,0,0,0,0,0,false,0,0,⟨0,0⟩,0,0,false,0,0⟩⟩⟩
instance:Inhabited di:=⟨Sy⟩
def dw(x:di):List AV:=[.int .u8 x.At,.int .u8 x.Kind,.int .u8 x.Spec.Depth,.int .u8 x.Spec.Kind,.str x.Spec.Text,.int .u8 x.Spec.Rows,.int .u8 x.Spec.Cols,.int .i64 x.Spec.Style.Display,.int .i64 x.Spec.Style.Position,.int .i64 x.Spec.Style.Left.Kind,.int .i64 x.Spec.Style.Left.Value,.int .i64 x.Spec.Style.Top.Kind,.int .i64 x.Spec.Style.Top.Value,.int .i64 x.Spec.Style.Width.Kind,.int .i64 x.Spec.Style.Width.Value,.int .i64 x.Spec.Style.Height.Kind,.int .i64 x.Spec.Style.Height.Value,.int .i64 x.Spec.Style.MinWidth.Kind,.int .i64 x.Spec.Style.MinWidth.Value,.int .i64 x.Spec.Style.MaxWidth.Kind,.int .i64 x.Spec.Style.MaxWidth.Value,.int .i64 x.Spec.Style.Margin.a0.Kind,.int .i64 x.Spec.Style.Margin.a0.Value,.int .i64 x.Spec.Style.Margin.a1.Kind,.int .i64 x.Spec.Style.Margin.a1.Value,.int .i64 x.Spec.Style.Margin.a2.Kind,.int .i64 x.Spec.Style.Margin.a2.Value,.int .i64 x.Spec.Style.Margin.a3.Kind,.int .i64 x.Spec.Style.Margin.a3.Value,.int .i64 x.Spec.Style.Padding.a0.Kind,.int .i64 x.Spec.Style.Padding.a0.Value,.int .i64 x.Spec.Style.Padding.a1.Kind,.int .i64 x.Spec.Style.Padding.a1.Value,.int .i64 x.Spec.Style.Padding.a2.Kind,.int .i64 x.Spec.Style.Padding.a2.Value,.int .i64 x.Spec.Style.Padding.a3.Kind,.int .i64 x.Spec.Style.Padding.a3.Value,.int .i64 x.Spec.Style.Border.a0,.int .i64 x.Spec.Style.Border.a1,.int .i64 x.Spec.Style.Border.a2,.int .i64 x.Spec.Style.Border.a3,.str x.Spec.Style.BorderColor,.str x.Spec.Style.Color,.str x.Spec.Style.Background,.int .i64 x.Spec.Style.FontSize,.int .i64 x.Spec.Style.LineHeight,.int .i64 x.Spec.Style.TextAlign,.int .i64 x.Spec.Style.WhiteSpace,.int .i64 x.Spec.Style.VAlign,.int .i64 x.Spec.Style.Direction,.bool x.Spec.Style.Wrap,.int .i64 x.Spec.Style.Grow,.int .i64 x.Spec.Style.Shrink,.int .i64 x.Spec.Style.Basis.Kind,.int .i64 x.Spec.Style.Basis.Value,.int .i64 x.Spec.Style.Order,.int .i64 x.Spec.Style.Z,.bool x.Spec.Style.ZAuto,.int .i64 x.Spec.Style.Overflow,.int .i64 x.Spec.Style.Visibility]
theorem Nd(x:di):(dw x).length=60:=rfl
structure aa where
 Kind:Int
 Node:Int
 Style:aJ
 Text:ByteArray
 Rows:Int
 Cols:Int
 Kids:(List aa)
def cF:aa:=⟨0,0,⟨0,0,⟨0,0⟩,⟨0,0⟩,⟨0,0⟩,⟨0,0⟩,⟨0,0⟩,⟨0,0⟩,⟨⟨0,0⟩,⟨0,0⟩,⟨0,0⟩,⟨0,0⟩⟩,⟨⟨0,0⟩,⟨0,0⟩,⟨0,0⟩,⟨0,0⟩⟩,⟨0,0,0,0⟩,⟨#[]⟩,⟨#[]⟩,⟨#[]⟩,0,0,0,0,0,0,false,0,0,⟨0,0⟩,0,0,false,0,0⟩,⟨#[]⟩,0,0,[]⟩
instance:Inhabited aa:=⟨cF⟩
mutual
def aR:aa→List AV
 | ⟨Kind,Node,Style,Text,Rows,Cols,Kids⟩=>[.int .i64 Kind,.int .i64 Node,.int .i64 Style.Display,.int .i64 Style.Position,.int .i64 Style.Left.Kind,.int .i64 Style.Left.Value,.int .i64 Style.Top.Kind,.int .i64 Style.Top.Value,.int .i64 Style.Width.Kind,.int .i64 Style.Width.Value,.int .i64 Style.Height.Kind,.int .i64 Style.Height.Value,.int .i64 Style.MinWidth.Kind,.int .i64 Style.MinWidth.Value,.int .i64 Style.MaxWidth.Kind,.int .i64 Style.MaxWidth.Value,.int .i64 Style.Margin.a0.Kind,.int .i64 Style.Margin.a0.Value,.int .i64 Style.Margin.a1.Kind,.int .i64 Style.Margin.a1.Value,.int .i64 Style.Margin.a2.Kind,.int .i64 Style.Margin.a2.Value,.int .i64 Style.Margin.a3.Kind,.int .i64 Style.Margin.a3.Value,.int .i64 Style.Padding.a0.Kind,.int .i64 Style.Padding.a0.Value,.int .i64 Style.Padding.a1.Kind,.int .i64 Style.Padding.a1.Value,.int .i64 Style.Padding.a2.Kind,.int .i64 Style.Padding.a2.Value,.int .i64 Style.Padding.a3.Kind,.int .i64 Style.Padding.a3.Value,.int .i64 Style.Border.a0,.int .i64 Style.Border.a1,.int .i64 Style.Border.a2,.int .i64 Style.Border.a3,.str Style.BorderColor,.str Style.Color,.str Style.Background,.int .i64 Style.FontSize,.int .i64 Style.LineHeight,.int .i64 Style.TextAlign,.int .i64 Style.WhiteSpace,.int .i64 Style.VAlign,.int .i64 Style.Direction,.bool Style.Wrap,.int .i64 Style.Grow,.int .i64 Style.Shrink,.int .i64 Style.Basis.Kind,.int .i64 Style.Basis.Value,.int .i64 Style.Order,.int .i64 Style.Z,.bool Style.ZAuto,.int .i64 Style.Overflow,.int .i64 Style.Visibility,.str Text,.int .i64 Rows,.int .i64 Cols,.sl (sF Kids)]
def sF:List aa→List (List AV)
 | []=>[]
 | x::r=>aR x::sF r
end
theorem DZ:∀l:List aa,sF l=l.map aR
 | []=>by simp[sF]
 | x::r=>by simp[sF,DZ r]
def av(x:aa):List AV:=[.int .i64 x.Kind,.int .i64 x.Node,.int .i64 x.Style.Display,.int .i64 x.Style.Position,.int .i64 x.Style.Left.Kind,.int .i64 x.Style.Left.Value,.int .i64 x.Style.Top.Kind,.int .i64 x.Style.Top.Value,.int .i64 x.Style.Width.Kind,.int .i64 x.Style.Width.Value,.int .i64 x.Style.Height.Kind,.int .i64 x.Style.Height.Value,.int .i64 x.Style.MinWidth.Kind,.int .i64 x.Style.MinWidth.Value,.int .i64 x.Style.MaxWidth.Kind,.int .i64 x.Style.MaxWidth.Value,.int .i64 x.Style.Margin.a0.Kind,.int .i64 x.Style.Margin.a0.Value,.int .i64 x.Style.Margin.a1.Kind,.int .i64 x.Style.Margin.a1.Value,.int .i64 x.Style.Margin.a2.Kind,.int .i64 x.Style.Margin.a2.Value,.int .i64 x.Style.Margin.a3.Kind,.int .i64 x.Style.Margin.a3.Value,.int .i64 x.Style.Padding.a0.Kind,.int .i64 x.Style.Padding.a0.Value,.int .i64 x.Style.Padding.a1.Kind,.int .i64 x.Style.Padding.a1.Value,.int .i64 x.Style.Padding.a2.Kind,.int .i64 x.Style.Padding.a2.Value,.int .i64 x.Style.Padding.a3.Kind,.int .i64 x.Style.Padding.a3.Value,.int .i64 x.Style.Border.a0,.int .i64 x.Style.Border.a1,.int .i64 x.Style.Border.a2,.int .i64 x.Style.Border.a3,.str x.Style.BorderColor,.str x.Style.Color,.str x.Style.Background,.int .i64 x.Style.FontSize,.int .i64 x.Style.LineHeight,.int .i64 x.Style.TextAlign,.int .i64 x.Style.WhiteSpace,.int .i64 x.Style.VAlign,.int .i64 x.Style.Direction,.bool x.Style.Wrap,.int .i64 x.Style.Grow,.int .i64 x.Style.Shrink,.int .i64 x.Style.Basis.Kind,.int .i64 x.Style.Basis.Value,.int .i64 x.Style.Order,.int .i64 x.Style.Z,.bool x.Style.ZAuto,.int .i64 x.Style.Overflow,.int .i64 x.Style.Visibility,.str x.Text,.int .i64 x.Rows,.int .i64 x.Cols,.sl (List.map aR x.Kids)]
theorem dp(x:aa):aR x=av x:=by
 cases x;simp only[aR,av,DZ]
theorem dY(x:aa):(aR x).length=59:=by rw[dp];rfl
structure aW where
 Pos:Int
 Neg:Int
def cO:aW:=⟨0,0⟩
instance:Inhabited aW:=⟨cO⟩
def cA(x:aW):List AV:=[.int .i64 x.Pos,.int .i64 x.Neg]
structure ai where
 Kind:Int
 Node:Int
 X:Int
 Y:Int
 W:Int
 H:Int
 aE:Int
 Text:ByteArray
 Style:aJ
 Before:aW
 After:aW
 Empty:Bool
 Kids:(List ai)
def bG:ai:=⟨0,0,0,0,0,0,0,⟨#[]⟩,⟨0,0,⟨0,0⟩,⟨0,0⟩,⟨0,0⟩,⟨0,0⟩,⟨0,0⟩,⟨0,0⟩,⟨⟨0,0⟩,⟨0,0⟩,⟨0,0⟩,⟨0,0⟩⟩,⟨⟨0,0⟩,⟨0,0⟩,⟨0,0⟩,⟨0,0⟩⟩,⟨0,0,0,0⟩,⟨#[]⟩,⟨#[]⟩,⟨#[]⟩,0,0,0,0,0,0,false,0,0,⟨0,0⟩,0,0,false,0,0⟩,⟨0,0⟩,⟨0,0⟩,false,[]⟩
instance:Inhabited ai:=⟨bG⟩
mutual
def aY:ai→List AV
 | ⟨Kind,Node,X,Y,W,H,aE,Text,Style,Before,After,Empty,Kids⟩=>[.int .i64 Kind,.int .i64 Node,.int .i64 X,.int .i64 Y,.int .i64 W,.int .i64 H,.int .i64 aE,.str Text,.int .i64 Style.Display,.int .i64 Style.Position,.int .i64 Style.Left.Kind,.int .i64 Style.Left.Value,.int .i64 Style.Top.Kind,.int .i64 Style.Top.Value,.int .i64 Style.Width.Kind,.int .i64 Style.Width.Value,.int .i64 Style.Height.Kind,.int .i64 Style.Height.Value,.int .i64 Style.MinWidth.Kind,.int .i64 Style.MinWidth.Value,.int .i64 Style.MaxWidth.Kind,.int .i64 Style.MaxWidth.Value,.int .i64 Style.Margin.a0.Kind,.int .i64 Style.Margin.a0.Value,.int .i64 Style.Margin.a1.Kind,.int .i64 Style.Margin.a1.Value,.int .i64 Style.Margin.a2.Kind,.int .i64 Style.Margin.a2.Value,.int .i64 Style.Margin.a3.Kind,.int .i64 Style.Margin.a3.Value,.int .i64 Style.Padding.a0.Kind,.int .i64 Style.Padding.a0.Value,.int .i64 Style.Padding.a1.Kind,.int .i64 Style.Padding.a1.Value,.int .i64 Style.Padding.a2.Kind,.int .i64 Style.Padding.a2.Value,.int .i64 Style.Padding.a3.Kind,.int .i64 Style.Padding.a3.Value,.int .i64 Style.Border.a0,.int .i64 Style.Border.a1,.int .i64 Style.Border.a2,.int .i64 Style.Border.a3,.str Style.BorderColor,.str Style.Color,.str Style.Background,.int .i64 Style.FontSize,.int .i64 Style.LineHeight,.int .i64 Style.TextAlign,.int .i64 Style.WhiteSpace,.int .i64 Style.VAlign,.int .i64 Style.Direction,.bool Style.Wrap,.int .i64 Style.Grow,.int .i64 Style.Shrink,.int .i64 Style.Basis.Kind,.int .i64 Style.Basis.Value,.int .i64 Style.Order,.int .i64 Style.Z,.bool Style.ZAuto,.int .i64 Style.Overflow,.int .i64 Style.Visibility,.int .i64 Before.Pos,.int .i64 Before.Neg,.int .i64 After.Pos,.int .i64 After.Neg,.bool Empty,.sl (sM Kids)]
def sM:List ai→List (List AV)
 | []=>[]
 | x::r=>aY x::sM r
end
theorem IZ:∀l:List ai,sM l=l.map aY
 | []=>by simp[sM]
 | x::r=>by simp[sM,IZ r]
def aO(x:ai):List AV:=[.int .i64 x.Kind,.int .i64 x.Node,.int .i64 x.X,.int .i64 x.Y,.int .i64 x.W,.int .i64 x.H,.int .i64 x.aE,.str x.Text,.int .i64 x.Style.Display,.int .i64 x.Style.Position,.int .i64 x.Style.Left.Kind,.int .i64 x.Style.Left.Value,.int .i64 x.Style.Top.Kind,.int .i64 x.Style.Top.Value,.int .i64 x.Style.Width.Kind,.int .i64 x.Style.Width.Value,.int .i64 x.Style.Height.Kind,.int .i64 x.Style.Height.Value,.int .i64 x.Style.MinWidth.Kind,.int .i64 x.Style.MinWidth.Value,.int .i64 x.Style.MaxWidth.Kind,.int .i64 x.Style.MaxWidth.Value,.int .i64 x.Style.Margin.a0.Kind,.int .i64 x.Style.Margin.a0.Value,.int .i64 x.Style.Margin.a1.Kind,.int .i64 x.Style.Margin.a1.Value,.int .i64 x.Style.Margin.a2.Kind,.int .i64 x.Style.Margin.a2.Value,.int .i64 x.Style.Margin.a3.Kind,.int .i64 x.Style.Margin.a3.Value,.int .i64 x.Style.Padding.a0.Kind,.int .i64 x.Style.Padding.a0.Value,.int .i64 x.Style.Padding.a1.Kind,.int .i64 x.Style.Padding.a1.Value,.int .i64 x.Style.Padding.a2.Kind,.int .i64 x.Style.Padding.a2.Value,.int .i64 x.Style.Padding.a3.Kind,.int .i64 x.Style.Padding.a3.Value,.int .i64 x.Style.Border.a0,.int .i64 x.Style.Border.a1,.int .i64 x.Style.Border.a2,.int .i64 x.Style.Border.a3,.str x.Style.BorderColor,.str x.Style.Color,.str x.Style.Background,.int .i64 x.Style.FontSize,.int .i64 x.Style.LineHeight,.int .i64 x.Style.TextAlign,.int .i64 x.Style.WhiteSpace,.int .i64 x.Style.VAlign,.int .i64 x.Style.Direction,.bool x.Style.Wrap,.int .i64 x.Style.Grow,.int .i64 x.Style.Shrink,.int .i64 x.Style.Basis.Kind,.int .i64 x.Style.Basis.Value,.int .i64 x.Style.Order,.int .i64 x.Style.Z,.bool x.Style.ZAuto,.int .i64 x.Style.Overflow,.int .i64 x.Style.Visibility,.int .i64 x.Before.Pos,.int .i64 x.Before.Neg,.int .i64 x.After.Pos,.int .i64 x.After.Neg,.bool x.Empty,.sl (List.map aY x.Kids)]
theorem ey(x:ai):aY x=aO x:=by
 cases x;simp only[aY,aO,IZ]
theorem ky(x:ai):(aY x).length=67:=by rw[ey];rfl
structure aG where
 Box:aa
 Width:Int
 Fragment:ai
def M9:aG:=⟨⟨0,0,⟨0,0,⟨0,0⟩,⟨0,0⟩,⟨0,0⟩,⟨0,0⟩,⟨0,0⟩,⟨0,0⟩,⟨⟨0,0⟩,⟨0,0⟩,⟨0,0⟩,⟨0,0⟩⟩,⟨⟨0,0⟩,⟨0,0⟩,⟨0,0⟩,⟨0,0⟩⟩,⟨0,0,0,0⟩,⟨#[]⟩,⟨#[]⟩,⟨#[]⟩,0,0,0,0,0,0,false,0,0,⟨0,0⟩,0,0,false,0,0⟩,⟨#[]⟩,0,0,[]⟩,0,⟨0,0,0,0,0,0,0,⟨#[]⟩,⟨0,0,⟨0,0⟩,⟨0,0⟩,⟨0,0⟩,⟨0,0⟩,⟨0,0⟩,⟨0,0⟩,⟨⟨0,0⟩,⟨0,0⟩,⟨0,0⟩,⟨0,0⟩⟩,⟨⟨0,0⟩,⟨0,0⟩,⟨0,0⟩,⟨0,0⟩⟩,⟨0,0,0,0⟩,⟨#[]⟩,⟨#[]⟩,⟨#[]⟩,0,0,0,0,0,0,false,0,0,⟨0,0⟩,0,0,false,0,0⟩,⟨0,0⟩,⟨0,0⟩,false,[]⟩⟩
instance:Inhabited aG:=⟨M9⟩
def bc(x:aG):List AV:=[.int .i64 x.Box.Kind,.int .i64 x.Box.Node,.int .i64 x.Box.Style.Display,.int .i64 x.Box.Style.Position,.int .i64 x.Box.Style.Left.Kind,.int .i64 x.Box.Style.Left.Value,.int .i64 x.Box.Style.Top.Kind,.int .i64 x.Box.Style.Top.Value,.int .i64 x.Box.Style.Width.Kind,.int .i64 x.Box.Style.Width.Value,.int .i64 x.Box.Style.Height.Kind,.int .i64 x.Box.Style.Height.Value,.int .i64 x.Box.Style.MinWidth.Kind,.int .i64 x.Box.Style.MinWidth.Value,.int .i64 x.Box.Style.MaxWidth.Kind,.int .i64 x.Box.Style.MaxWidth.Value,.int .i64 x.Box.Style.Margin.a0.Kind,.int .i64 x.Box.Style.Margin.a0.Value,.int .i64 x.Box.Style.Margin.a1.Kind,.int .i64 x.Box.Style.Margin.a1.Value,.int .i64 x.Box.Style.Margin.a2.Kind,.int .i64 x.Box.Style.Margin.a2.Value,.int .i64 x.Box.Style.Margin.a3.Kind,.int .i64 x.Box.Style.Margin.a3.Value,.int .i64 x.Box.Style.Padding.a0.Kind,.int .i64 x.Box.Style.Padding.a0.Value,.int .i64 x.Box.Style.Padding.a1.Kind,.int .i64 x.Box.Style.Padding.a1.Value,.int .i64 x.Box.Style.Padding.a2.Kind,.int .i64 x.Box.Style.Padding.a2.Value,.int .i64 x.Box.Style.Padding.a3.Kind,.int .i64 x.Box.Style.Padding.a3.Value,.int .i64 x.Box.Style.Border.a0,.int .i64 x.Box.Style.Border.a1,.int .i64 x.Box.Style.Border.a2,.int .i64 x.Box.Style.Border.a3,.str x.Box.Style.BorderColor,.str x.Box.Style.Color,.str x.Box.Style.Background,.int .i64 x.Box.Style.FontSize,.int .i64 x.Box.Style.LineHeight,.int .i64 x.Box.Style.TextAlign,.int .i64 x.Box.Style.WhiteSpace,.int .i64 x.Box.Style.VAlign,.int .i64 x.Box.Style.Direction,.bool x.Box.Style.Wrap,.int .i64 x.Box.Style.Grow,.int .i64 x.Box.Style.Shrink,.int .i64 x.Box.Style.Basis.Kind,.int .i64 x.Box.Style.Basis.Value,.int .i64 x.Box.Style.Order,.int .i64 x.Box.Style.Z,.bool x.Box.Style.ZAuto,.int .i64 x.Box.Style.Overflow,.int .i64 x.Box.Style.Visibility,.str x.Box.Text,.int .i64 x.Box.Rows,.int .i64 x.Box.Cols,.sl (List.map aR x.Box.Kids),.int .i64 x.Width,.int .i64 x.Fragment.Kind,.int .i64 x.Fragment.Node,.int .i64 x.Fragment.X,.int .i64 x.Fragment.Y,.int .i64 x.Fragment.W,.int .i64 x.Fragment.H,.int .i64 x.Fragment.aE,.str x.Fragment.Text,.int .i64 x.Fragment.Style.Display,.int .i64 x.Fragment.Style.Position,.int .i64 x.Fragment.Style.Left.Kind,.int .i64 x.Fragment.Style.Left.Value,.int .i64 x.Fragment.Style.Top.Kind,.int .i64 x.Fragment.Style.Top.Value,.int .i64 x.Fragment.Style.Width.Kind,.int .i64 x.Fragment.Style.Width.Value,.int .i64 x.Fragment.Style.Height.Kind,.int .i64 x.Fragment.Style.Height.Value,.int .i64 x.Fragment.Style.MinWidth.Kind,.int .i64 x.Fragment.Style.MinWidth.Value,.int .i64 x.Fragment.Style.MaxWidth.Kind,.int .i64 x.Fragment.Style.MaxWidth.Value,.int .i64 x.Fragment.Style.Margin.a0.Kind,.int .i64 x.Fragment.Style.Margin.a0.Value,.int .i64 x.Fragment.Style.Margin.a1.Kind,.int .i64 x.Fragment.Style.Margin.a1.Value,.int .i64 x.Fragment.Style.Margin.a2.Kind,.int .i64 x.Fragment.Style.Margin.a2.Value,.int .i64 x.Fragment.Style.Margin.a3.Kind,.int .i64 x.Fragment.Style.Margin.a3.Value,.int .i64 x.Fragment.Style.Padding.a0.Kind,.int .i64 x.Fragment.Style.Padding.a0.Value,.int .i64 x.Fragment.Style.Padding.a1.Kind,.int .i64 x.Fragment.Style.Padding.a1.Value,.int .i64 x.Fragment.Style.Padding.a2.Kind,.int .i64 x.Fragment.Style.Padding.a2.Value,.int .i64 x.Fragment.Style.Padding.a3.Kind,.int .i64 x.Fragment.Style.Padding.a3.Value,.int .i64 x.Fragment.Style.Border.a0,.int .i64 x.Fragment.Style.Border.a1,.int .i64 x.Fragment.Style.Border.a2,.int .i64 x.Fragment.Style.Border.a3,.str x.Fragment.Style.BorderColor,.str x.Fragment.Style.Color,.str x.Fragment.Style.Background,.int .i64 x.Fragment.Style.FontSize,.int .i64 x.Fragment.Style.LineHeight,.int .i64 x.Fragment.Style.TextAlign,.int .i64 x.Fragment.Style.WhiteSpace,.int .i64 x.Fragment.Style.VAlign,.int .i64 x.Fragment.Style.Direction,.bool x.Fragment.Style.Wrap,.int .i64 x.Fragment.Style.Grow,.int .i64 x.Fragment.Style.Shrink,.int .i64 x.Fragment.Style.Basis.Kind,.int .i64 x.Fragment.Style.Basis.Value,.int .i64 x.Fragment.Style.Order,.int .i64 x.Fragment.Style.Z,.bool x.Fragment.Style.ZAuto,.int .i64 x.Fragment.Style.Overflow,.int .i64 x.Fragment.Style.Visibility,.int .i64 x.Fragment.Before.Pos,.int .i64 x.Fragment.Before.Neg,.int .i64 x.Fragment.After.Pos,.int .i64 x.Fragment.After.Neg,.bool x.Fragment.Empty,.sl (List.map aY x.Fragment.Kids)]
theorem yo(x:aG):(bc x).length=127:=rfl
structure bH where
 List:(List aG)
 Fresh:Int
 Used:Int
def OA:bH:=⟨[],0,0⟩
instance:Inhabited bH:=⟨OA⟩
def bL(x:bH):List AV:=[.sl (List.map bc x.List),.int .i64 x.Fresh,.int .i64 x.Used]
structure bO where
 Margin:(V4 Int)
 Border:(V4 Int)
 Padding:(V4 Int)
 Content:Int
def gl:bO:=⟨⟨0,0,0,0⟩,⟨0,0,0,0⟩,⟨0,0,0,0⟩,0⟩
instance:Inhabited bO:=⟨gl⟩
def cb(x:bO):List AV:=[.int .i64 x.Margin.a0,.int .i64 x.Margin.a1,.int .i64 x.Margin.a2,.int .i64 x.Margin.a3,.int .i64 x.Border.a0,.int .i64 x.Border.a1,.int .i64 x.Border.a2,.int .i64 x.Border.a3,.int .i64 x.Padding.a0,.int .i64 x.Padding.a1,.int .i64 x.Padding.a2,.int .i64 x.Padding.a3,.int .i64 x.Content]
structure au where
 Node:Int
 Text:ByteArray
 Style:aJ
 Width:Int
 Space:Int
 Above:Int
 Below:Int
 Glued:Bool
 Forced:Bool
 Box:(List ai)
def cv:au:=⟨0,⟨#[]⟩,⟨0,0,⟨0,0⟩,⟨0,0⟩,⟨0,0⟩,⟨0,0⟩,⟨0,0⟩,⟨0,0⟩,⟨⟨0,0⟩,⟨0,0⟩,⟨0,0⟩,⟨0,0⟩⟩,⟨⟨0,0⟩,⟨0,0⟩,⟨0,0⟩,⟨0,0⟩⟩,⟨0,0,0,0⟩,⟨#[]⟩,⟨#[]⟩,⟨#[]⟩,0,0,0,0,0,0,false,0,0,⟨0,0⟩,0,0,false,0,0⟩,0,0,0,0,false,false,[]⟩
instance:Inhabited au:=⟨cv⟩
def aI(x:au):List AV:=[.int .i64 x.Node,.str x.Text,.int .i64 x.Style.Display,.int .i64 x.Style.Position,.int .i64 x.Style.Left.Kind,.int .i64 x.Style.Left.Value,.int .i64 x.Style.Top.Kind,.int .i64 x.Style.Top.Value,.int .i64 x.Style.Width.Kind,.int .i64 x.Style.Width.Value,.int .i64 x.Style.Height.Kind,.int .i64 x.Style.Height.Value,.int .i64 x.Style.MinWidth.Kind,.int .i64 x.Style.MinWidth.Value,.int .i64 x.Style.MaxWidth.Kind,.int .i64 x.Style.MaxWidth.Value,.int .i64 x.Style.Margin.a0.Kind,.int .i64 x.Style.Margin.a0.Value,.int .i64 x.Style.Margin.a1.Kind,.int .i64 x.Style.Margin.a1.Value,.int .i64 x.Style.Margin.a2.Kind,.int .i64 x.Style.Margin.a2.Value,.int .i64 x.Style.Margin.a3.Kind,.int .i64 x.Style.Margin.a3.Value,.int .i64 x.Style.Padding.a0.Kind,.int .i64 x.Style.Padding.a0.Value,.int .i64 x.Style.Padding.a1.Kind,.int .i64 x.Style.Padding.a1.Value,.int .i64 x.Style.Padding.a2.Kind,.int .i64 x.Style.Padding.a2.Value,.int .i64 x.Style.Padding.a3.Kind,.int .i64 x.Style.Padding.a3.Value,.int .i64 x.Style.Border.a0,.int .i64 x.Style.Border.a1,.int .i64 x.Style.Border.a2,.int .i64 x.Style.Border.a3,.str x.Style.BorderColor,.str x.Style.Color,.str x.Style.Background,.int .i64 x.Style.FontSize,.int .i64 x.Style.LineHeight,.int .i64 x.Style.TextAlign,.int .i64 x.Style.WhiteSpace,.int .i64 x.Style.VAlign,.int .i64 x.Style.Direction,.bool x.Style.Wrap,.int .i64 x.Style.Grow,.int .i64 x.Style.Shrink,.int .i64 x.Style.Basis.Kind,.int .i64 x.Style.Basis.Value,.int .i64 x.Style.Order,.int .i64 x.Style.Z,.bool x.Style.ZAuto,.int .i64 x.Style.Overflow,.int .i64 x.Style.Visibility,.int .i64 x.Width,.int .i64 x.Space,.int .i64 x.Above,.int .i64 x.Below,.bool x.Glued,.bool x.Forced,.sl (List.map aY x.Box)]
theorem fu(x:au):(aI x).length=62:=rfl
structure aD where
 Kind:Int
 Of:Int
 Char:Int
 Soft:Bool
 Box:aa
def NZ:aD:=⟨0,0,0,false,cF⟩
instance:Inhabited aD:=⟨NZ⟩
def am(x:aD):List AV:=[.int .i64 x.Kind,.int .i64 x.Of,.int .i32 x.Char,.bool x.Soft,.cptr (av x.Box)]
theorem cn(x:aD):(am x).length=5:=rfl
inductive Fv where
 | fn (id:Nat)
 | c39 (a0:aG)
 | c43 (a0:Bool) (a1_0:Fv) (a1_1:Fv) (a1_2:Fv) (a1_3:Fv) (a2:Bool)
 | c48 (a0_0:Fv) (a0_1:Fv) (a0_2:Fv) (a0_3:Fv)
 | c52 (a0_0:Fv) (a0_1:Fv) (a0_2:Fv) (a0_3:Fv)
 | c54 (a0_0:Fv) (a0_1:Fv) (a0_2:Fv) (a0_3:Fv)
 | c65 (a0:aa)
 | c147 (a0:Int) (a1_0:Fv) (a1_1:Fv) (a1_2:Fv) (a1_3:Fv)
 | bot (id k:Nat)
instance:Inhabited Fv:=⟨.fn 0⟩
def Fv.id:Fv→Nat
 | .fn i=>i
 | .bot i _=>i
 | .c39 _=>39
 | .c43 _ _ _ _ _ _=>43
 | .c48 _ _ _ _=>48
 | .c52 _ _ _ _=>52
 | .c54 _ _ _ _=>54
 | .c65 _=>65
 | .c147 _ _ _ _ _=>147
def Fv.aP[GS]:Fv→List AV
 | .fn _=>[]
 | .bot _ k=>List.replicate k .any
 | .c39 a0=>[.cptr (bc a0)]
 | .c43 a0 a1_0 a1_1 a1_2 a1_3 a2=>[.cptr [dq 36 a0],.cptr [.fn a1_0.id a1_0.aP,.fn a1_1.id a1_1.aP,.fn a1_2.id a1_2.aP,.fn a1_3.id a1_3.aP],.cptr [dq 37 a2]]
 | .c48 a0_0 a0_1 a0_2 a0_3=>[.cptr [.fn a0_0.id a0_0.aP,.fn a0_1.id a0_1.aP,.fn a0_2.id a0_2.aP,.fn a0_3.id a0_3.aP]]
 | .c52 a0_0 a0_1 a0_2 a0_3=>[.cptr [.fn a0_0.id a0_0.aP,.fn a0_1.id a0_1.aP,.fn a0_2.id a0_2.aP,.fn a0_3.id a0_3.aP]]
 | .c54 a0_0 a0_1 a0_2 a0_3=>[.cptr [.fn a0_0.id a0_0.aP,.fn a0_1.id a0_1.aP,.fn a0_2.id a0_2.aP,.fn a0_3.id a0_3.aP]]
 | .c65 a0=>[.cptr (av a0)]
 | .c147 a0 a1_0 a1_1 a1_2 a1_3=>[.cptr [.int .i64 a0],.cptr [.fn a1_0.id a1_0.aP,.fn a1_1.id a1_1.aP,.fn a1_2.id a1_2.aP,.fn a1_3.id a1_3.aP]]
structure bF where
 Layout:Fv
 Widths:Fv
 Lines:Fv
 Spread:Fv
def MG:bF:=⟨(Fv.fn 0),(Fv.fn 0),(Fv.fn 0),(Fv.fn 0)⟩
instance:Inhabited bF:=⟨MG⟩
def bW[GS](x:bF):List AV:=[.fn x.Layout.id x.Layout.aP,.fn x.Widths.id x.Widths.aP,.fn x.Lines.id x.Lines.aP,.fn x.Spread.id x.Spread.aP]
structure eU where
 f:Unit
 env:bF
def Jt:eU:=⟨(),⟨(Fv.fn 0),(Fv.fn 0),(Fv.fn 0),(Fv.fn 0)⟩⟩
instance:Inhabited eU:=⟨Jt⟩
def mh[GS](x:eU):List AV:=[.any,.fn x.env.Layout.id x.env.Layout.aP,.fn x.env.Widths.id x.env.Widths.aP,.fn x.env.Lines.id x.env.Lines.aP,.fn x.env.Spread.id x.env.Spread.aP]
structure Kn where
 sG:aa→Option Int
 qt:aa→aa→Option Int
 pE:aa→aa→Option Bool
 oJ:aa→aa→Option Bool
 vT:aa→aa→Option Bool
 td:ai→Option ai
 gY:(List aw)→Int→Option (aa×Int)
 JT:aa→(List aw)→Option aa
 qZ:ai→Option ai
 px:eU→aa→(List Int)→Option Unit
 tY:(List aa)→Int→(List aD)→Option (Int×(List aD))
 pS:Fv→(List aa)→aJ→Int→Option ((List ai)×Int)
 uU:Fv→(List aa)→aJ→Option (Int×Int)
 gB:Fv→aa→Int→Int→Int→(List aG)→Option (ai×Int×Int×(List aG))
 l3:Fv→aa→aa→Option Bool
 iq:Fv→aa→Option Bool
 oC:Fv→aa→Option (Int×Int)
 nG:Fv→aa→Option au
 oK:Fv→aG→Option Bool
end Go.Proofs.YtocgkfoifehcbaaGreat

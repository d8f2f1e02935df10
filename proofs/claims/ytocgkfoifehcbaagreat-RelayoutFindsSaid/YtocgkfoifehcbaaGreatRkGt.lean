/- Types of layer 22z's program as Lean types, with their cells. Made by a program. -/
import Derived.Test.YtocgkfoifehcbaaGreatRkDp
namespace Go.Proofs.YtocgkfoifehcbaaGreat
open Go.RowKit
set_option maxRecDepth 20000
set_option linter.all false
def amo:=@and_assoc
structure cw where
 Kind:Int
 Value:Int
def cj:cw:=⟨0,0⟩
instance:Inhabited cw:=⟨cj⟩
def fH(x y:cw):Bool:=((x.Kind == y.Kind)&&((x.Value == y.Value)&&true))
def fh(x:cw):c6:=[.int .i64 x.Kind,.int .i64 x.Value]
structure aI where
 Display:Int
 Position:Int
 Left:cw
 Top:cw
 Width:cw
 Height:cw
 MinWidth:cw
 MaxWidth:cw
 Margin:(V4 cw)
 Padding:(V4 cw)
 Border:(V4 Int)
 BorderColor:ByteArray
 Color:ByteArray
 Background:ByteArray
 FontSize:Int
 LineHeight:Int
 TextAlign:Int
 WhiteSpace:Int
 VAlign:Int
 Direction:Int
 Wrap:Bool
 Grow:Int
 Shrink:Int
 Basis:cw
 Order:Int
 Z:Int
 ZAuto:Bool
 Overflow:Int
 Visibility:Int
def cr:aI:=⟨0,0,⟨0,0⟩,⟨0,0⟩,⟨0,0⟩,⟨0,0⟩,⟨0,0⟩,⟨0,0⟩,⟨⟨0,0⟩,⟨0,0⟩,⟨0,0⟩,⟨0,0⟩⟩,⟨⟨0,0⟩,⟨0,0⟩,⟨0,0⟩,⟨0,0⟩⟩,⟨0,0,0,0⟩,⟨#[]⟩,⟨#[]⟩,⟨#[]⟩,0,0,0,0,0,0,false,0,0,⟨0,0⟩,0,0,false,0,0⟩
instance:Inhabited aI:=⟨cr⟩
def ly(x y:aI):Bool:=((x.Display == y.Display)&&((x.Position == y.Position)&&((fH x.Left y.Left)&&((fH x.Top y.Top)&&((fH x.Width y.Width)&&((fH x.Height y.Height)&&((fH x.MinWidth y.MinWidth)&&((fH x.MaxWidth y.MaxWidth)&&(((fH x.Margin.a0 y.Margin.a0)&&((fH x.Margin.a1 y.Margin.a1)&&((fH x.Margin.a2 y.Margin.a2)&&((fH x.Margin.a3 y.Margin.a3)&&true))))&&(((fH x.Padding.a0 y.Padding.a0)&&((fH x.Padding.a1 y.Padding.a1)&&((fH x.Padding.a2 y.Padding.a2)&&((fH x.Padding.a3 y.Padding.a3)&&true))))&&(((x.Border.a0 == y.Border.a0)&&((x.Border.a1 == y.Border.a1)&&((x.Border.a2 == y.Border.a2)&&((x.Border.a3 == y.Border.a3)&&true))))&&((x.BorderColor.toList == y.BorderColor.toList)&&((x.Color.toList == y.Color.toList)&&((x.Background.toList == y.Background.toList)&&((x.FontSize == y.FontSize)&&((x.LineHeight == y.LineHeight)&&((x.TextAlign == y.TextAlign)&&((x.WhiteSpace == y.WhiteSpace)&&((x.VAlign == y.VAlign)&&((x.Direction == y.Direction)&&((x.Wrap == y.Wrap)&&((x.Grow == y.Grow)&&((x.Shrink == y.Shrink)&&((fH x.Basis y.Basis)&&((x.Order == y.Order)&&((x.Z == y.Z)&&((x.ZAuto == y.ZAuto)&&((x.Overflow == y.Overflow)&&((x.Visibility == y.Visibility)&&true)))))))))))))))))))))))))))))
def aH(x:aI):c6:=[.int .i64 x.Display,.int .i64 x.Position,.int .i64 x.Left.Kind,.int .i64 x.Left.Value,.int .i64 x.Top.Kind,.int .i64 x.Top.Value,.int .i64 x.Width.Kind,.int .i64 x.Width.Value,.int .i64 x.Height.Kind,.int .i64 x.Height.Value,.int .i64 x.MinWidth.Kind,.int .i64 x.MinWidth.Value,.int .i64 x.MaxWidth.Kind,.int .i64 x.MaxWidth.Value,.int .i64 x.Margin.a0.Kind,.int .i64 x.Margin.a0.Value,.int .i64 x.Margin.a1.Kind,.int .i64 x.Margin.a1.Value,.int .i64 x.Margin.a2.Kind,.int .i64 x.Margin.a2.Value,.int .i64 x.Margin.a3.Kind,.int .i64 x.Margin.a3.Value,.int .i64 x.Padding.a0.Kind,.int .i64 x.Padding.a0.Value,.int .i64 x.Padding.a1.Kind,.int .i64 x.Padding.a1.Value,.int .i64 x.Padding.a2.Kind,.int .i64 x.Padding.a2.Value,.int .i64 x.Padding.a3.Kind,.int .i64 x.Padding.a3.Value,.int .i64 x.Border.a0,.int .i64 x.Border.a1,.int .i64 x.Border.a2,.int .i64 x.Border.a3,.str x.BorderColor,.str x.Color,.str x.Background,.int .i64 x.FontSize,.int .i64 x.LineHeight,.int .i64 x.TextAlign,.int .i64 x.WhiteSpace,.int .i64 x.VAlign,.int .i64 x.Direction,.bool x.Wrap,.int .i64 x.Grow,.int .i64 x.Shrink,.int .i64 x.Basis.Kind,.int .i64 x.Basis.Value,.int .i64 x.Order,.int .i64 x.Z,.bool x.ZAuto,.int .i64 x.Overflow,.int .i64 x.Visibility]
structure cg where
 Depth:Int
 Kind:Int
 Text:ByteArray
 Rows:Int
 Cols:Int
 Style:aI
def V3:cg:=⟨0,0,⟨#[]⟩,0,0,⟨0,0,⟨0,0⟩,⟨0,0⟩,⟨0,0⟩,⟨0,0⟩,⟨0,0⟩,⟨0,0⟩,⟨⟨0,0⟩,⟨0,0⟩,⟨0,0⟩,⟨0,0⟩⟩,⟨⟨0,0⟩,⟨0,0⟩,⟨0,0⟩,⟨0,0⟩⟩,⟨0,0,0,0⟩,⟨#[]⟩,⟨#[]⟩,⟨#[]⟩,0,0,0,0,0,0,false,0,0,⟨0,0⟩,0,0,false,0,0⟩⟩
instance:Inhabited cg:=⟨V3⟩
def bp(x:cg):c6:=[.int .u8 x.Depth,.int .u8 x.Kind,.str x.Text,.int .u8 x.Rows,.int .u8 x.Cols,.int .i64 x.Style.Display,.int .i64 x.Style.Position,.int .i64 x.Style.Left.Kind,.int .i64 x.Style.Left.Value,.int .i64 x.Style.Top.Kind,.int .i64 x.Style.Top.Value,.int .i64 x.Style.Width.Kind,.int .i64 x.Style.Width.Value,.int .i64 x.Style.Height.Kind,.int .i64 x.Style.Height.Value,.int .i64 x.Style.MinWidth.Kind,.int .i64 x.Style.MinWidth.Value,.int .i64 x.Style.MaxWidth.Kind,.int .i64 x.Style.MaxWidth.Value,.int .i64 x.Style.Margin.a0.Kind,.int .i64 x.Style.Margin.a0.Value,.int .i64 x.Style.Margin.a1.Kind,.int .i64 x.Style.Margin.a1.Value,.int .i64 x.Style.Margin.a2.Kind,.int .i64 x.Style.Margin.a2.Value,.int .i64 x.Style.Margin.a3.Kind,.int .i64 x.Style.Margin.a3.Value,.int .i64 x.Style.Padding.a0.Kind,.int .i64 x.Style.Padding.a0.Value,.int .i64 x.Style.Padding.a1.Kind,.int .i64 x.Style.Padding.a1.Value,.int .i64 x.Style.Padding.a2.Kind,.int .i64 x.Style.Padding.a2.Value,.int .i64 x.Style.Padding.a3.Kind,.int .i64 x.Style.Padding.a3.Value,.int .i64 x.Style.Border.a0,.int .i64 x.Style.Border.a1,.int .i64 x.Style.Border.a2,.int .i64 x.Style.Border.a3,.str x.Style.BorderColor,.str x.Style.Color,.str x.Style.Background,.int .i64 x.Style.FontSize,.int .i64 x.Style.LineHeight,.int .i64 x.Style.TextAlign,.int .i64 x.Style.WhiteSpace,.int .i64 x.Style.VAlign,.int .i64 x.Style.Direction,.bool x.Style.Wrap,.int .i64 x.Style.Grow,.int .i64 x.Style.Shrink,.int .i64 x.Style.Basis.Kind,.int .i64 x.Style.Basis.Value,.int .i64 x.Style.Order,.int .i64 x.Style.Z,.bool x.Style.ZAuto,.int .i64 x.Style.Overflow,.int .i64 x.Style.Visibility]
theorem eH(x:cg):(bp x).length=58:=rfl
structure iX where
 At:Int
 Kind:Int
 Spec:cg
def W8:iX:=⟨0,0,⟨0,0,⟨#[]⟩,0,0,⟨0,0,⟨0,0⟩,⟨0,0⟩,⟨0,0⟩,⟨0,0⟩,⟨0,0⟩,⟨0,0⟩,⟨⟨0,0⟩,⟨0,0⟩,⟨0,0⟩,⟨0,0⟩⟩,⟨⟨0,0⟩,⟨0,0⟩,⟨0,0⟩,⟨0,0⟩⟩,⟨0,0,0,0⟩,⟨#[]⟩,⟨#[]⟩,⟨#[]⟩,0,0,0,0,0,0,false,0,0,⟨0,0⟩,0,0,false,0,0⟩⟩⟩
instance:Inhabited iX:=⟨W8⟩
def jA(x:iX):c6:=[.int .u8 x.At,.int .u8 x.Kind,.int .u8 x.Spec.Depth,.int .u8 x.Spec.Kind,.str x.Spec.Text,.int .u8 x.Spec.Rows,.int .u8 x.Spec.Cols,.int .i64 x.Spec.Style.Display,.int .i64 x.Spec.Style.Position,.int .i64 x.Spec.Style.Left.Kind,.int .i64 x.Spec.Style.Left.Value,.int .i64 x.Spec.Style.Top.Kind,.int .i64 x.Spec.Style.Top.Value,.int .i64 x.Spec.Style.Width.Kind,.int .i64 x.Spec.Style.Width.Value,.int .i64 x.Spec.Style.Height.Kind,.int .i64 x.Spec.Style.Height.Value,.int .i64 x.Spec.Style.MinWidth.Kind,.int .i64 x.Spec.Style.MinWidth.Value,.int .i64 x.Spec.Style.MaxWidth.Kind,.int .i64 x.Spec.Style.MaxWidth.Value,.int .i64 x.Spec.Style.Margin.a0.Kind,.int .i64 x.Spec.Style.Margin.a0.Value,.int .i64 x.Spec.Style.Margin.a1.Kind,.int .i64 x.Spec.Style.Margin.a1.Value,.int .i64 x.Spec.Style.Margin.a2.Kind,.int .i64 x.Spec.Style.Margin.a2.Value,.int .i64 x.Spec.Style.Margin.a3.Kind,.int .i64 x.Spec.Style.Margin.a3.Value,.int .i64 x.Spec.Style.Padding.a0.Kind,.int .i64 x.Spec.Style.Padding.a0.Value,.int .i64 x.Spec.Style.Padding.a1.Kind,.int .i64 x.Spec.Style.Padding.a1.Value,.int .i64 x.Spec.Style.Padding.a2.Kind,.int .i64 x.Spec.Style.Padding.a2.Value,.int .i64 x.Spec.Style.Padding.a3.Kind,.int .i64 x.Spec.Style.Padding.a3.Value,.int .i64 x.Spec.Style.Border.a0,.int .i64 x.Spec.Style.Border.a1,.int .i64 x.Spec.Style.Border.a2,.int .i64 x.Spec.Style.Border.a3,.str x.Spec.Style.BorderColor,.str x.Spec.Style.Color,.str x.Spec.Style.Background,.int .i64 x.Spec.Style.FontSize,.int .i64 x.Spec.Style.LineHeight,.int .i64 x.Spec.Style.TextAlign,.int .i64 x.Spec.Style.WhiteSpace,.int .i64 x.Spec.Style.VAlign,.int .i64 x.Spec.Style.Direction,.bool x.Spec.Style.Wrap,.int .i64 x.Spec.Style.Grow,.int .i64 x.Spec.Style.Shrink,.int .i64 x.Spec.Style.Basis.Kind,.int .i64 x.Spec.Style.Basis.Value,.int .i64 x.Spec.Style.Order,.int .i64 x.Spec.Style.Z,.bool x.Spec.Style.ZAuto,.int .i64 x.Spec.Style.Overflow,.int .i64 x.Spec.Style.Visibility]
theorem af5(x:iX):(jA x).length=60:=rfl
structure ab where
 Kind:Int
 Node:Int
 Style:aI
 Text:ByteArray
 Rows:Int
 Cols:Int
 Kids:(List ab)
def c9:ab:=⟨0,0,⟨0,0,⟨0,0⟩,⟨0,0⟩,⟨0,0⟩,⟨0,0⟩,⟨0,0⟩,⟨0,0⟩,⟨⟨0,0⟩,⟨0,0⟩,⟨0,0⟩,⟨0,0⟩⟩,⟨⟨0,0⟩,⟨0,0⟩,⟨0,0⟩,⟨0,0⟩⟩,⟨0,0,0,0⟩,⟨#[]⟩,⟨#[]⟩,⟨#[]⟩,0,0,0,0,0,0,false,0,0,⟨0,0⟩,0,0,false,0,0⟩,⟨#[]⟩,0,0,[]⟩
instance:Inhabited ab:=⟨c9⟩
mutual
def aM:ab→c6
 | ⟨Kind,Node,Style,Text,Rows,a,Kids⟩=>[.int .i64 Kind,.int .i64 Node,.int .i64 Style.Display,.int .i64 Style.Position,.int .i64 Style.Left.Kind,.int .i64 Style.Left.Value,.int .i64 Style.Top.Kind,.int .i64 Style.Top.Value,.int .i64 Style.Width.Kind,.int .i64 Style.Width.Value,.int .i64 Style.Height.Kind,.int .i64 Style.Height.Value,.int .i64 Style.MinWidth.Kind,.int .i64 Style.MinWidth.Value,.int .i64 Style.MaxWidth.Kind,.int .i64 Style.MaxWidth.Value,.int .i64 Style.Margin.a0.Kind,.int .i64 Style.Margin.a0.Value,.int .i64 Style.Margin.a1.Kind,.int .i64 Style.Margin.a1.Value,.int .i64 Style.Margin.a2.Kind,.int .i64 Style.Margin.a2.Value,.int .i64 Style.Margin.a3.Kind,.int .i64 Style.Margin.a3.Value,.int .i64 Style.Padding.a0.Kind,.int .i64 Style.Padding.a0.Value,.int .i64 Style.Padding.a1.Kind,.int .i64 Style.Padding.a1.Value,.int .i64 Style.Padding.a2.Kind,.int .i64 Style.Padding.a2.Value,.int .i64 Style.Padding.a3.Kind,.int .i64 Style.Padding.a3.Value,.int .i64 Style.Border.a0,.int .i64 Style.Border.a1,.int .i64 Style.Border.a2,.int .i64 Style.Border.a3,.str Style.BorderColor,.str Style.Color,.str Style.Background,.int .i64 Style.FontSize,.int .i64 Style.LineHeight,.int .i64 Style.TextAlign,.int .i64 Style.WhiteSpace,.int .i64 Style.VAlign,.int .i64 Style.Direction,.bool Style.Wrap,.int .i64 Style.Grow,.int .i64 Style.Shrink,.int .i64 Style.Basis.Kind,.int .i64 Style.Basis.Value,.int .i64 Style.Order,.int .i64 Style.Z,.bool Style.ZAuto,.int .i64 Style.Overflow,.int .i64 Style.Visibility,.str Text,.int .i64 Rows,.int .i64 a,.sl (za Kids)]
def za:List ab→hZ
 | []=>[]
 | x::r=>aM x::za r
end
theorem Rp:∀l:List ab,za l=l.map aM
 | []=>by simp[za]
 | x::r=>by simp[za,Rp r]
def aB(x:ab):c6:=[.int .i64 x.Kind,.int .i64 x.Node,.int .i64 x.Style.Display,.int .i64 x.Style.Position,.int .i64 x.Style.Left.Kind,.int .i64 x.Style.Left.Value,.int .i64 x.Style.Top.Kind,.int .i64 x.Style.Top.Value,.int .i64 x.Style.Width.Kind,.int .i64 x.Style.Width.Value,.int .i64 x.Style.Height.Kind,.int .i64 x.Style.Height.Value,.int .i64 x.Style.MinWidth.Kind,.int .i64 x.Style.MinWidth.Value,.int .i64 x.Style.MaxWidth.Kind,.int .i64 x.Style.MaxWidth.Value,.int .i64 x.Style.Margin.a0.Kind,.int .i64 x.Style.Margin.a0.Value,.int .i64 x.Style.Margin.a1.Kind,.int .i64 x.Style.Margin.a1.Value,.int .i64 x.Style.Margin.a2.Kind,.int .i64 x.Style.Margin.a2.Value,.int .i64 x.Style.Margin.a3.Kind,.int .i64 x.Style.Margin.a3.Value,.int .i64 x.Style.Padding.a0.Kind,.int .i64 x.Style.Padding.a0.Value,.int .i64 x.Style.Padding.a1.Kind,.int .i64 x.Style.Padding.a1.Value,.int .i64 x.Style.Padding.a2.Kind,.int .i64 x.Style.Padding.a2.Value,.int .i64 x.Style.Padding.a3.Kind,.int .i64 x.Style.Padding.a3.Value,.int .i64 x.Style.Border.a0,.int .i64 x.Style.Border.a1,.int .i64 x.Style.Border.a2,.int .i64 x.Style.Border.a3,.str x.Style.BorderColor,.str x.Style.Color,.str x.Style.Background,.int .i64 x.Style.FontSize,.int .i64 x.Style.LineHeight,.int .i64 x.Style.TextAlign,.int .i64 x.Style.WhiteSpace,.int .i64 x.Style.VAlign,.int .i64 x.Style.Direction,.bool x.Style.Wrap,.int .i64 x.Style.Grow,.int .i64 x.Style.Shrink,.int .i64 x.Style.Basis.Kind,.int .i64 x.Style.Basis.Value,.int .i64 x.Style.Order,.int .i64 x.Style.Z,.bool x.Style.ZAuto,.int .i64 x.Style.Overflow,.int .i64 x.Style.Visibility,.str x.Text,.int .i64 x.Rows,.int .i64 x.Cols,.sl (List.map aM x.Kids)]
theorem d7(x:ab):aM x=aB x:=by
 cases x;simp only[aM,aB,Rp]
theorem fV(x:ab):(aM x).length=59:=by rw[d7];rfl
structure bc where
 Pos:Int
 Neg:Int
def dA:bc:=⟨0,0⟩
instance:Inhabited bc:=⟨dA⟩
def BC(x y:bc):Bool:=((x.Pos == y.Pos)&&((x.Neg == y.Neg)&&true))
def cT(x:bc):c6:=[.int .i64 x.Pos,.int .i64 x.Neg]
structure ae where
 Kind:Int
 Node:Int
 X:Int
 Y:Int
 W:Int
 H:Int
 aA:Int
 Text:ByteArray
 Style:aI
 Before:bc
 After:bc
 Empty:Bool
 Kids:(List ae)
def bT:ae:=⟨0,0,0,0,0,0,0,⟨#[]⟩,⟨0,0,⟨0,0⟩,⟨0,0⟩,⟨0,0⟩,⟨0,0⟩,⟨0,0⟩,⟨0,0⟩,⟨⟨0,0⟩,⟨0,0⟩,⟨0,0⟩,⟨0,0⟩⟩,⟨⟨0,0⟩,⟨0,0⟩,⟨0,0⟩,⟨0,0⟩⟩,⟨0,0,0,0⟩,⟨#[]⟩,⟨#[]⟩,⟨#[]⟩,0,0,0,0,0,0,false,0,0,⟨0,0⟩,0,0,false,0,0⟩,⟨0,0⟩,⟨0,0⟩,false,[]⟩
instance:Inhabited ae:=⟨bT⟩
mutual
def aN:ae→c6
 | ⟨Kind,Node,X,Y,W,H,aA,Text,Style,Before,After,Empty,Kids⟩=>[.int .i64 Kind,.int .i64 Node,.int .i64 X,.int .i64 Y,.int .i64 W,.int .i64 H,.int .i64 aA,.str Text,.int .i64 Style.Display,.int .i64 Style.Position,.int .i64 Style.Left.Kind,.int .i64 Style.Left.Value,.int .i64 Style.Top.Kind,.int .i64 Style.Top.Value,.int .i64 Style.Width.Kind,.int .i64 Style.Width.Value,.int .i64 Style.Height.Kind,.int .i64 Style.Height.Value,.int .i64 Style.MinWidth.Kind,.int .i64 Style.MinWidth.Value,.int .i64 Style.MaxWidth.Kind,.int .i64 Style.MaxWidth.Value,.int .i64 Style.Margin.a0.Kind,.int .i64 Style.Margin.a0.Value,.int .i64 Style.Margin.a1.Kind,.int .i64 Style.Margin.a1.Value,.int .i64 Style.Margin.a2.Kind,.int .i64 Style.Margin.a2.Value,.int .i64 Style.Margin.a3.Kind,.int .i64 Style.Margin.a3.Value,.int .i64 Style.Padding.a0.Kind,.int .i64 Style.Padding.a0.Value,.int .i64 Style.Padding.a1.Kind,.int .i64 Style.Padding.a1.Value,.int .i64 Style.Padding.a2.Kind,.int .i64 Style.Padding.a2.Value,.int .i64 Style.Padding.a3.Kind,.int .i64 Style.Padding.a3.Value,.int .i64 Style.Border.a0,.int .i64 Style.Border.a1,.int .i64 Style.Border.a2,.int .i64 Style.Border.a3,.str Style.BorderColor,.str Style.Color,.str Style.Background,.int .i64 Style.FontSize,.int .i64 Style.LineHeight,.int .i64 Style.TextAlign,.int .i64 Style.WhiteSpace,.int .i64 Style.VAlign,.int .i64 Style.Direction,.bool Style.Wrap,.int .i64 Style.Grow,.int .i64 Style.Shrink,.int .i64 Style.Basis.Kind,.int .i64 Style.Basis.Value,.int .i64 Style.Order,.int .i64 Style.Z,.bool Style.ZAuto,.int .i64 Style.Overflow,.int .i64 Style.Visibility,.int .i64 Before.Pos,.int .i64 Before.Neg,.int .i64 After.Pos,.int .i64 After.Neg,.bool Empty,.sl (yX Kids)]
def yX:List ae→hZ
 | []=>[]
 | x::r=>aN x::yX r
end
theorem SM:∀l:List ae,yX l=l.map aN
 | []=>by simp[yX]
 | x::r=>by simp[yX,SM r]
def aG(x:ae):c6:=[.int .i64 x.Kind,.int .i64 x.Node,.int .i64 x.X,.int .i64 x.Y,.int .i64 x.W,.int .i64 x.H,.int .i64 x.aA,.str x.Text,.int .i64 x.Style.Display,.int .i64 x.Style.Position,.int .i64 x.Style.Left.Kind,.int .i64 x.Style.Left.Value,.int .i64 x.Style.Top.Kind,.int .i64 x.Style.Top.Value,.int .i64 x.Style.Width.Kind,.int .i64 x.Style.Width.Value,.int .i64 x.Style.Height.Kind,.int .i64 x.Style.Height.Value,.int .i64 x.Style.MinWidth.Kind,.int .i64 x.Style.MinWidth.Value,.int .i64 x.Style.MaxWidth.Kind,.int .i64 x.Style.MaxWidth.Value,.int .i64 x.Style.Margin.a0.Kind,.int .i64 x.Style.Margin.a0.Value,.int .i64 x.Style.Margin.a1.Kind,.int .i64 x.Style.Margin.a1.Value,.int .i64 x.Style.Margin.a2.Kind,.int .i64 x.Style.Margin.a2.Value,.int .i64 x.Style.Margin.a3.Kind,.int .i64 x.Style.Margin.a3.Value,.int .i64 x.Style.Padding.a0.Kind,.int .i64 x.Style.Padding.a0.Value,.int .i64 x.Style.Padding.a1.Kind,.int .i64 x.Style.Padding.a1.Value,.int .i64 x.Style.Padding.a2.Kind,.int .i64 x.Style.Padding.a2.Value,.int .i64 x.Style.Padding.a3.Kind,.int .i64 x.Style.Padding.a3.Value,.int .i64 x.Style.Border.a0,.int .i64 x.Style.Border.a1,.int .i64 x.Style.Border.a2,.int .i64 x.Style.Border.a3,.str x.Style.BorderColor,.str x.Style.Color,.str x.Style.Background,.int .i64 x.Style.FontSize,.int .i64 x.Style.LineHeight,.int .i64 x.Style.TextAlign,.int .i64 x.Style.WhiteSpace,.int .i64 x.Style.VAlign,.int .i64 x.Style.Direction,.bool x.Style.Wrap,.int .i64 x.Style.Grow,.int .i64 x.Style.Shrink,.int .i64 x.Style.Basis.Kind,.int .i64 x.Style.Basis.Value,.int .i64 x.Style.Order,.int .i64 x.Style.Z,.bool x.Style.ZAuto,.int .i64 x.Style.Overflow,.int .i64 x.Style.Visibility,.int .i64 x.Before.Pos,.int .i64 x.Before.Neg,.int .i64 x.After.Pos,.int .i64 x.After.Neg,.bool x.Empty,.sl (List.map aN x.Kids)]
theorem dM(x:ae):aN x=aG x:=by
 cases x;simp only[aN,aG,SM]
theorem jY(x:ae):(aN x).length=67:=by rw[dM];rfl
structure ay where
 Box:ab
 Width:Int
 Fragment:ae
def acK:ay:=⟨⟨0,0,⟨0,0,⟨0,0⟩,⟨0,0⟩,⟨0,0⟩,⟨0,0⟩,⟨0,0⟩,⟨0,0⟩,⟨⟨0,0⟩,⟨0,0⟩,⟨0,0⟩,⟨0,0⟩⟩,⟨⟨0,0⟩,⟨0,0⟩,⟨0,0⟩,⟨0,0⟩⟩,⟨0,0,0,0⟩,⟨#[]⟩,⟨#[]⟩,⟨#[]⟩,0,0,0,0,0,0,false,0,0,⟨0,0⟩,0,0,false,0,0⟩,⟨#[]⟩,0,0,[]⟩,0,⟨0,0,0,0,0,0,0,⟨#[]⟩,⟨0,0,⟨0,0⟩,⟨0,0⟩,⟨0,0⟩,⟨0,0⟩,⟨0,0⟩,⟨0,0⟩,⟨⟨0,0⟩,⟨0,0⟩,⟨0,0⟩,⟨0,0⟩⟩,⟨⟨0,0⟩,⟨0,0⟩,⟨0,0⟩,⟨0,0⟩⟩,⟨0,0,0,0⟩,⟨#[]⟩,⟨#[]⟩,⟨#[]⟩,0,0,0,0,0,0,false,0,0,⟨0,0⟩,0,0,false,0,0⟩,⟨0,0⟩,⟨0,0⟩,false,[]⟩⟩
instance:Inhabited ay:=⟨acK⟩
def aR(x:ay):c6:=[.int .i64 x.Box.Kind,.int .i64 x.Box.Node,.int .i64 x.Box.Style.Display,.int .i64 x.Box.Style.Position,.int .i64 x.Box.Style.Left.Kind,.int .i64 x.Box.Style.Left.Value,.int .i64 x.Box.Style.Top.Kind,.int .i64 x.Box.Style.Top.Value,.int .i64 x.Box.Style.Width.Kind,.int .i64 x.Box.Style.Width.Value,.int .i64 x.Box.Style.Height.Kind,.int .i64 x.Box.Style.Height.Value,.int .i64 x.Box.Style.MinWidth.Kind,.int .i64 x.Box.Style.MinWidth.Value,.int .i64 x.Box.Style.MaxWidth.Kind,.int .i64 x.Box.Style.MaxWidth.Value,.int .i64 x.Box.Style.Margin.a0.Kind,.int .i64 x.Box.Style.Margin.a0.Value,.int .i64 x.Box.Style.Margin.a1.Kind,.int .i64 x.Box.Style.Margin.a1.Value,.int .i64 x.Box.Style.Margin.a2.Kind,.int .i64 x.Box.Style.Margin.a2.Value,.int .i64 x.Box.Style.Margin.a3.Kind,.int .i64 x.Box.Style.Margin.a3.Value,.int .i64 x.Box.Style.Padding.a0.Kind,.int .i64 x.Box.Style.Padding.a0.Value,.int .i64 x.Box.Style.Padding.a1.Kind,.int .i64 x.Box.Style.Padding.a1.Value,.int .i64 x.Box.Style.Padding.a2.Kind,.int .i64 x.Box.Style.Padding.a2.Value,.int .i64 x.Box.Style.Padding.a3.Kind,.int .i64 x.Box.Style.Padding.a3.Value,.int .i64 x.Box.Style.Border.a0,.int .i64 x.Box.Style.Border.a1,.int .i64 x.Box.Style.Border.a2,.int .i64 x.Box.Style.Border.a3,.str x.Box.Style.BorderColor,.str x.Box.Style.Color,.str x.Box.Style.Background,.int .i64 x.Box.Style.FontSize,.int .i64 x.Box.Style.LineHeight,.int .i64 x.Box.Style.TextAlign,.int .i64 x.Box.Style.WhiteSpace,.int .i64 x.Box.Style.VAlign,.int .i64 x.Box.Style.Direction,.bool x.Box.Style.Wrap,.int .i64 x.Box.Style.Grow,.int .i64 x.Box.Style.Shrink,.int .i64 x.Box.Style.Basis.Kind,.int .i64 x.Box.Style.Basis.Value,.int .i64 x.Box.Style.Order,.int .i64 x.Box.Style.Z,.bool x.Box.Style.ZAuto,.int .i64 x.Box.Style.Overflow,.int .i64 x.Box.Style.Visibility,.str x.Box.Text,.int .i64 x.Box.Rows,.int .i64 x.Box.Cols,.sl (List.map aM x.Box.Kids),.int .i64 x.Width,.int .i64 x.Fragment.Kind,.int .i64 x.Fragment.Node,.int .i64 x.Fragment.X,.int .i64 x.Fragment.Y,.int .i64 x.Fragment.W,.int .i64 x.Fragment.H,.int .i64 x.Fragment.aA,.str x.Fragment.Text,.int .i64 x.Fragment.Style.Display,.int .i64 x.Fragment.Style.Position,.int .i64 x.Fragment.Style.Left.Kind,.int .i64 x.Fragment.Style.Left.Value,.int .i64 x.Fragment.Style.Top.Kind,.int .i64 x.Fragment.Style.Top.Value,.int .i64 x.Fragment.Style.Width.Kind,.int .i64 x.Fragment.Style.Width.Value,.int .i64 x.Fragment.Style.Height.Kind,.int .i64 x.Fragment.Style.Height.Value,.int .i64 x.Fragment.Style.MinWidth.Kind,.int .i64 x.Fragment.Style.MinWidth.Value,.int .i64 x.Fragment.Style.MaxWidth.Kind,.int .i64 x.Fragment.Style.MaxWidth.Value,.int .i64 x.Fragment.Style.Margin.a0.Kind,.int .i64 x.Fragment.Style.Margin.a0.Value,.int .i64 x.Fragment.Style.Margin.a1.Kind,.int .i64 x.Fragment.Style.Margin.a1.Value,.int .i64 x.Fragment.Style.Margin.a2.Kind,.int .i64 x.Fragment.Style.Margin.a2.Value,.int .i64 x.Fragment.Style.Margin.a3.Kind,.int .i64 x.Fragment.Style.Margin.a3.Value,.int .i64 x.Fragment.Style.Padding.a0.Kind,.int .i64 x.Fragment.Style.Padding.a0.Value,.int .i64 x.Fragment.Style.Padding.a1.Kind,.int .i64 x.Fragment.Style.Padding.a1.Value,.int .i64 x.Fragment.Style.Padding.a2.Kind,.int .i64 x.Fragment.Style.Padding.a2.Value,.int .i64 x.Fragment.Style.Padding.a3.Kind,.int .i64 x.Fragment.Style.Padding.a3.Value,.int .i64 x.Fragment.Style.Border.a0,.int .i64 x.Fragment.Style.Border.a1,.int .i64 x.Fragment.Style.Border.a2,.int .i64 x.Fragment.Style.Border.a3,.str x.Fragment.Style.BorderColor,.str x.Fragment.Style.Color,.str x.Fragment.Style.Background,.int .i64 x.Fragment.Style.FontSize,.int .i64 x.Fragment.Style.LineHeight,.int .i64 x.Fragment.Style.TextAlign,.int .i64 x.Fragment.Style.WhiteSpace,.int .i64 x.Fragment.Style.VAlign,.int .i64 x.Fragment.Style.Direction,.bool x.Fragment.Style.Wrap,.int .i64 x.Fragment.Style.Grow,.int .i64 x.Fragment.Style.Shrink,.int .i64 x.Fragment.Style.Basis.Kind,.int .i64 x.Fragment.Style.Basis.Value,.int .i64 x.Fragment.Style.Order,.int .i64 x.Fragment.Style.Z,.bool x.Fragment.Style.ZAuto,.int .i64 x.Fragment.Style.Overflow,.int .i64 x.Fragment.Style.Visibility,.int .i64 x.Fragment.Before.Pos,.int .i64 x.Fragment.Before.Neg,.int .i64 x.Fragment.After.Pos,.int .i64 x.Fragment.After.Neg,.bool x.Fragment.Empty,.sl (List.map aN x.Fragment.Kids)]
theorem J2(x:ay):(aR x).length=127:=rfl
structure bq where
 List:(List ay)
 Fresh:Int
 Used:Int
def ahk:bq:=⟨[],0,0⟩
instance:Inhabited bq:=⟨ahk⟩
def br(x:bq):c6:=[.sl (List.map aR x.List),.int .i64 x.Fresh,.int .i64 x.Used]
structure bD where
 Margin:(V4 Int)
 Border:(V4 Int)
 Padding:(V4 Int)
 Content:Int
def fy:bD:=⟨⟨0,0,0,0⟩,⟨0,0,0,0⟩,⟨0,0,0,0⟩,0⟩
instance:Inhabited bD:=⟨fy⟩
def bV(x:bD):c6:=[.int .i64 x.Margin.a0,.int .i64 x.Margin.a1,.int .i64 x.Margin.a2,.int .i64 x.Margin.a3,.int .i64 x.Border.a0,.int .i64 x.Border.a1,.int .i64 x.Border.a2,.int .i64 x.Border.a3,.int .i64 x.Padding.a0,.int .i64 x.Padding.a1,.int .i64 x.Padding.a2,.int .i64 x.Padding.a3,.int .i64 x.Content]
structure az where
 Node:Int
 Text:ByteArray
 Style:aI
 Width:Int
 Space:Int
 Above:Int
 Below:Int
 Glued:Bool
 Forced:Bool
 Box:(List ae)
def cR:az:=⟨0,⟨#[]⟩,⟨0,0,⟨0,0⟩,⟨0,0⟩,⟨0,0⟩,⟨0,0⟩,⟨0,0⟩,⟨0,0⟩,⟨⟨0,0⟩,⟨0,0⟩,⟨0,0⟩,⟨0,0⟩⟩,⟨⟨0,0⟩,⟨0,0⟩,⟨0,0⟩,⟨0,0⟩⟩,⟨0,0,0,0⟩,⟨#[]⟩,⟨#[]⟩,⟨#[]⟩,0,0,0,0,0,0,false,0,0,⟨0,0⟩,0,0,false,0,0⟩,0,0,0,0,false,false,[]⟩
instance:Inhabited az:=⟨cR⟩
def aS(x:az):c6:=[.int .i64 x.Node,.str x.Text,.int .i64 x.Style.Display,.int .i64 x.Style.Position,.int .i64 x.Style.Left.Kind,.int .i64 x.Style.Left.Value,.int .i64 x.Style.Top.Kind,.int .i64 x.Style.Top.Value,.int .i64 x.Style.Width.Kind,.int .i64 x.Style.Width.Value,.int .i64 x.Style.Height.Kind,.int .i64 x.Style.Height.Value,.int .i64 x.Style.MinWidth.Kind,.int .i64 x.Style.MinWidth.Value,.int .i64 x.Style.MaxWidth.Kind,.int .i64 x.Style.MaxWidth.Value,.int .i64 x.Style.Margin.a0.Kind,.int .i64 x.Style.Margin.a0.Value,.int .i64 x.Style.Margin.a1.Kind,.int .i64 x.Style.Margin.a1.Value,.int .i64 x.Style.Margin.a2.Kind,.int .i64 x.Style.Margin.a2.Value,.int .i64 x.Style.Margin.a3.Kind,.int .i64 x.Style.Margin.a3.Value,.int .i64 x.Style.Padding.a0.Kind,.int .i64 x.Style.Padding.a0.Value,.int .i64 x.Style.Padding.a1.Kind,.int .i64 x.Style.Padding.a1.Value,.int .i64 x.Style.Padding.a2.Kind,.int .i64 x.Style.Padding.a2.Value,.int .i64 x.Style.Padding.a3.Kind,.int .i64 x.Style.Padding.a3.Value,.int .i64 x.Style.Border.a0,.int .i64 x.Style.Border.a1,.int .i64 x.Style.Border.a2,.int .i64 x.Style.Border.a3,.str x.Style.BorderColor,.str x.Style.Color,.str x.Style.Background,.int .i64 x.Style.FontSize,.int .i64 x.Style.LineHeight,.int .i64 x.Style.TextAlign,.int .i64 x.Style.WhiteSpace,.int .i64 x.Style.VAlign,.int .i64 x.Style.Direction,.bool x.Style.Wrap,.int .i64 x.Style.Grow,.int .i64 x.Style.Shrink,.int .i64 x.Style.Basis.Kind,.int .i64 x.Style.Basis.Value,.int .i64 x.Style.Order,.int .i64 x.Style.Z,.bool x.Style.ZAuto,.int .i64 x.Style.Overflow,.int .i64 x.Style.Visibility,.int .i64 x.Width,.int .i64 x.Space,.int .i64 x.Above,.int .i64 x.Below,.bool x.Glued,.bool x.Forced,.sl (List.map aN x.Box)]
theorem iW(x:az):(aS x).length=62:=rfl
structure bC where
 aA:Int
 Grow:Int
 Shrink:Int
 Min:Int
 Max:Int
def ki:bC:=⟨0,0,0,0,0⟩
instance:Inhabited bC:=⟨ki⟩
def cn(x:bC):c6:=[.int .i64 x.aA,.int .i64 x.Grow,.int .i64 x.Shrink,.int .i64 x.Min,.int .i64 x.Max]
theorem Gj(x:bC):(cn x).length=5:=rfl
structure aJ where
 Kind:Int
 Of:Int
 Char:Int
 Soft:Bool
 Box:ab
def agD:aJ:=⟨0,0,0,false,c9⟩
instance:Inhabited aJ:=⟨agD⟩
def aw(x:aJ):c6:=[.int .i64 x.Kind,.int .i64 x.Of,.int .i32 x.Char,.bool x.Soft,.cptr (aB x.Box)]
theorem cU(x:aJ):(aw x).length=5:=rfl
structure aZ where
 Item:bC
 factor:Int
 weight:Int
 size:Int
 fixed:Bool
def iV:aZ:=⟨⟨0,0,0,0,0⟩,0,0,0,false⟩
instance:Inhabited aZ:=⟨iV⟩
def bB(x:aZ):c6:=[.int .i64 x.Item.aA,.int .i64 x.Item.Grow,.int .i64 x.Item.Shrink,.int .i64 x.Item.Min,.int .i64 x.Item.Max,.int .i64 x.factor,.int .i64 x.weight,.int .i64 x.size,.bool x.fixed]
inductive Fv where
 | fn (id:Nat)
 | c39 (a0:ay)
 | c43 (a0:Bool) (a1_0:Fv) (a1_1:Fv) (a1_2:Fv) (a1_3:Fv) (a2:Bool)
 | c48 (a0_0:Fv) (a0_1:Fv) (a0_2:Fv) (a0_3:Fv)
 | c52 (a0_0:Fv) (a0_1:Fv) (a0_2:Fv) (a0_3:Fv)
 | c54 (a0_0:Fv) (a0_1:Fv) (a0_2:Fv) (a0_3:Fv)
 | c65 (a0:ab)
 | c103 (a0:aI)
 | c147 (a0:Int) (a1_0:Fv) (a1_1:Fv) (a1_2:Fv) (a1_3:Fv)
 | c165 (a0:ck)
 | c172 (a0:(List ab))
 | bot (id k:Nat)
instance:Inhabited Fv:=⟨.fn 0⟩
def Fv.id:Fv→Nat
 | .fn i=>i
 | .bot i _=>i
 | .c39 _=>39
 | .c43 _ _ _ _ _ _=>43
 | .c48 _ _ _ _=>48
 | .c52 _ _ _ _=>52
 | .c54 _ _ _ _=>54
 | .c65 _=>65
 | .c103 _=>103
 | .c147 _ _ _ _ _=>147
 | .c165 _=>165
 | .c172 _=>172
def Fv.aO[GS]:Fv→c6
 | .fn _=>[]
 | .bot _ k=>List.replicate k .any
 | .c39 a=>[.cptr (aR a)]
 | .c43 a a1_0 a1_1 a1_2 a1_3 b=>[.cptr [ex 36 a],.cptr [.fn a1_0.id a1_0.aO,.fn a1_1.id a1_1.aO,.fn a1_2.id a1_2.aO,.fn a1_3.id a1_3.aO],.cptr [ex 37 b]]
 | .c48 a0_0 a0_1 a0_2 a0_3=>[.cptr [.fn a0_0.id a0_0.aO,.fn a0_1.id a0_1.aO,.fn a0_2.id a0_2.aO,.fn a0_3.id a0_3.aO]]
 | .c52 a0_0 a0_1 a0_2 a0_3=>[.cptr [.fn a0_0.id a0_0.aO,.fn a0_1.id a0_1.aO,.fn a0_2.id a0_2.aO,.fn a0_3.id a0_3.aO]]
 | .c54 a0_0 a0_1 a0_2 a0_3=>[.cptr [.fn a0_0.id a0_0.aO,.fn a0_1.id a0_1.aO,.fn a0_2.id a0_2.aO,.fn a0_3.id a0_3.aO]]
 | .c65 a=>[.cptr (aB a)]
 | .c103 a=>[.cptr (aH a)]
 | .c147 a a1_0 a1_1 a1_2 a1_3=>[.cptr [.int .i64 a],.cptr [.fn a1_0.id a1_0.aO,.fn a1_1.id a1_1.aO,.fn a1_2.id a1_2.aO,.fn a1_3.id a1_3.aO]]
 | .c165 a=>[.cptr [.sl (List.map (ak .i64) a)]]
 | .c172 a=>[.cptr [.sl (List.map aM a)]]
def Fv.dB:Fv→Bool
 | .fn _=>true
 | .bot _ _=>true
 | .c39 _=>true
 | .c43 a a1_0 a1_1 a1_2 a1_3 b=>(!a)&&a1_0.dB&&a1_1.dB&&a1_2.dB&&a1_3.dB&&(!b)
 | .c48 a0_0 a0_1 a0_2 a0_3=>a0_0.dB&&a0_1.dB&&a0_2.dB&&a0_3.dB
 | .c52 a0_0 a0_1 a0_2 a0_3=>a0_0.dB&&a0_1.dB&&a0_2.dB&&a0_3.dB
 | .c54 a0_0 a0_1 a0_2 a0_3=>a0_0.dB&&a0_1.dB&&a0_2.dB&&a0_3.dB
 | .c65 _=>true
 | .c103 _=>true
 | .c147 _ a1_0 a1_1 a1_2 a1_3=>a1_0.dB&&a1_1.dB&&a1_2.dB&&a1_3.dB
 | .c165 _=>true
 | .c172 _=>true
theorem Fv.fp(g a:GS):∀f:Fv,f.dB=true→@Fv.aO g f=@Fv.aO a f
 | .fn _,_=>rfl
 | .bot _ _,_=>rfl
 | .c39 _,_=>rfl
 | .c43 i a1_0 a1_1 a1_2 a1_3 l,h=>by
  simp only[Fv.dB,iN,By,amo]at h;obtain⟨b,c,d,e,j,k⟩:=h;subst b;subst k;simp only[Fv.aO,Fv.fp g a a1_0 c,Fv.fp g a a1_1 d,Fv.fp g a a1_2 e,Fv.fp g a a1_3 j]<;>rfl
 | .c48 a0_0 a0_1 a0_2 a0_3,h=>by
  simp only[Fv.dB,iN,By,amo]at h;obtain⟨b,c,d,e⟩:=h;simp only[Fv.aO,Fv.fp g a a0_0 b,Fv.fp g a a0_1 c,Fv.fp g a a0_2 d,Fv.fp g a a0_3 e]<;>rfl
 | .c52 a0_0 a0_1 a0_2 a0_3,h=>by
  simp only[Fv.dB,iN,By,amo]at h;obtain⟨b,c,d,e⟩:=h;simp only[Fv.aO,Fv.fp g a a0_0 b,Fv.fp g a a0_1 c,Fv.fp g a a0_2 d,Fv.fp g a a0_3 e]<;>rfl
 | .c54 a0_0 a0_1 a0_2 a0_3,h=>by
  simp only[Fv.dB,iN,By,amo]at h;obtain⟨b,c,d,e⟩:=h;simp only[Fv.aO,Fv.fp g a a0_0 b,Fv.fp g a a0_1 c,Fv.fp g a a0_2 d,Fv.fp g a a0_3 e]<;>rfl
 | .c65 _,_=>rfl
 | .c103 _,_=>rfl
 | .c147 i a1_0 a1_1 a1_2 a1_3,h=>by
  simp only[Fv.dB,iN,By,amo]at h;obtain⟨b,c,d,e⟩:=h;simp only[Fv.aO,Fv.fp g a a1_0 b,Fv.fp g a a1_1 c,Fv.fp g a a1_2 d,Fv.fp g a a1_3 e]<;>rfl
 | .c165 _,_=>rfl
 | .c172 _,_=>rfl
instance gs0:GS:=⟨0⟩
theorem afQ{G:GS}{f:Fv}{P:Program}{a:c6}{O:io}{ar:co}{Q:AV→AS→Prop}(b:f.dB=true)(h : @eo G P f.id (a ++ @Fv.aO G f) O ar Q): @eo G P f.id (a ++ @Fv.aO gs0 f) O ar Q:=by
 rw[←Fv.fp G gs0 f b];exact h
structure bu where
 Layout:Fv
 Widths:Fv
 Lines:Fv
 Spread:Fv
def XW:bu:=⟨(Fv.fn 0),(Fv.fn 0),(Fv.fn 0),(Fv.fn 0)⟩
instance:Inhabited bu:=⟨XW⟩
def bI[GS](x:bu):c6:=[.fn x.Layout.id x.Layout.aO,.fn x.Widths.id x.Widths.aO,.fn x.Lines.id x.Lines.aO,.fn x.Spread.id x.Spread.aO]
structure im where
 f:Unit
 env:bu
def R8:im:=⟨(),⟨(Fv.fn 0),(Fv.fn 0),(Fv.fn 0),(Fv.fn 0)⟩⟩
instance:Inhabited im:=⟨R8⟩
def rb[GS](x:im):c6:=[.any,.fn x.env.Layout.id x.env.Layout.aO,.fn x.env.Widths.id x.env.Widths.aO,.fn x.env.Lines.id x.env.Lines.aO,.fn x.env.Spread.id x.env.Spread.aO]
structure Kn where
 yg:ae→ae→Option Bool
 Bx:ab→ab→Option Bool
 w4:ae→Option ae
 kW:(List cg)→Int→Option (ab×Int)
 RE:ab→(List cg)→Option ab
 xr:ae→Option ae
 vn:im→ab→ck→Option Unit
 DY:(List ab)→Int→(List aJ)→Option (Int×(List aJ))
 sF:Fv→Int→Int→Option Int
 A9:Fv→(List ab)→aI→Int→Option ((List ae)×Int)
 y7:Fv→(List ab)→aI→Option em
 de:Fv→ab→Int→Int→Int→(List ay)→Option (ae×Int×Int×(List ay))
 pb:Fv→ab→ab→Option Bool
 k9:Fv→ab→Option Bool
 gm:Fv→ab→Option em
 uD:Fv→ab→Option az
 tx:Fv→ay→Option Bool
end Go.Proofs.YtocgkfoifehcbaaGreat

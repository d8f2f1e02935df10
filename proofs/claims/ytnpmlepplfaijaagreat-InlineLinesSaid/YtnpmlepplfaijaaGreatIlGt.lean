/- Types of layer 18z's program as Lean types, with their cells. Made by a program. -/
import Derived.Test.YtnpmlepplfaijaaGreatIlVp
import Derived.Test.YtnpmlepplfaijaaGreatIlVr
import Derived.Test.YtnpmlepplfaijaaGreatIlVv
namespace Go.Proofs.YtnpmlepplfaijaaGreat
open Go.RowKit
set_option maxRecDepth 20000
set_option linter.all false
set_option linter.unusedVariables false
set_option linter.unusedSimpArgs false
structure cu where
 Kind:Int
 Value:Int
def fA:cu:=⟨0,0⟩
instance:Inhabited cu:=⟨fA⟩
def ff(x y:cu):Bool:=((x.Kind == y.Kind)&&((x.Value == y.Value)&&true))
def gC(x:cu):List AV:=[.int .i64 x.Kind,.int .i64 x.Value]
structure aF where
 Display:Int
 Position:Int
 Left:cu
 Top:cu
 Width:cu
 Height:cu
 MinWidth:cu
 MaxWidth:cu
 Margin:(V4 cu)
 Padding:(V4 cu)
 Border:(V4 Int)
 BorderColor:ByteArray
 Color:ByteArray
 Background:ByteArray
 FontSize:Int
 LineHeight:Int
 TextAlign:Int
 WhiteSpace:Int
 VAlign:Int
 Direction:Int
 Wrap:Bool
 Grow:Int
 Shrink:Int
 Basis:cu
 Order:Int
 Z:Int
 ZAuto:Bool
 Overflow:Int
 Visibility:Int
def cj:aF:=⟨0,0,⟨0,0⟩,⟨0,0⟩,⟨0,0⟩,⟨0,0⟩,⟨0,0⟩,⟨0,0⟩,⟨⟨0,0⟩,⟨0,0⟩,⟨0,0⟩,⟨0,0⟩⟩,⟨⟨0,0⟩,⟨0,0⟩,⟨0,0⟩,⟨0,0⟩⟩,⟨0,0,0,0⟩,⟨#[]⟩,⟨#[]⟩,⟨#[]⟩,0,0,0,0,0,0,false,0,0,⟨0,0⟩,0,0,false,0,0⟩
instance:Inhabited aF:=⟨cj⟩
def B4(x y:aF):Bool:=((x.Display == y.Display)&&((x.Position == y.Position)&&((ff x.Left y.Left)&&((ff x.Top y.Top)&&((ff x.Width y.Width)&&((ff x.Height y.Height)&&((ff x.MinWidth y.MinWidth)&&((ff x.MaxWidth y.MaxWidth)&&(((ff x.Margin.a0 y.Margin.a0)&&((ff x.Margin.a1 y.Margin.a1)&&((ff x.Margin.a2 y.Margin.a2)&&((ff x.Margin.a3 y.Margin.a3)&&true))))&&(((ff x.Padding.a0 y.Padding.a0)&&((ff x.Padding.a1 y.Padding.a1)&&((ff x.Padding.a2 y.Padding.a2)&&((ff x.Padding.a3 y.Padding.a3)&&true))))&&(((x.Border.a0 == y.Border.a0)&&((x.Border.a1 == y.Border.a1)&&((x.Border.a2 == y.Border.a2)&&((x.Border.a3 == y.Border.a3)&&true))))&&((x.BorderColor.toList == y.BorderColor.toList)&&((x.Color.toList == y.Color.toList)&&((x.Background.toList == y.Background.toList)&&((x.FontSize == y.FontSize)&&((x.LineHeight == y.LineHeight)&&((x.TextAlign == y.TextAlign)&&((x.WhiteSpace == y.WhiteSpace)&&((x.VAlign == y.VAlign)&&((x.Direction == y.Direction)&&((x.Wrap == y.Wrap)&&((x.Grow == y.Grow)&&((x.Shrink == y.Shrink)&&((ff x.Basis y.Basis)&&((x.Order == y.Order)&&((x.Z == y.Z)&&((x.ZAuto == y.ZAuto)&&((x.Overflow == y.Overflow)&&((x.Visibility == y.Visibility)&&true)))))))))))))))))))))))))))))
def aI(x:aF):List AV:=[.int .i64 x.Display,.int .i64 x.Position,.int .i64 x.Left.Kind,.int .i64 x.Left.Value,.int .i64 x.Top.Kind,.int .i64 x.Top.Value,.int .i64 x.Width.Kind,.int .i64 x.Width.Value,.int .i64 x.Height.Kind,.int .i64 x.Height.Value,.int .i64 x.MinWidth.Kind,.int .i64 x.MinWidth.Value,.int .i64 x.MaxWidth.Kind,.int .i64 x.MaxWidth.Value,.int .i64 x.Margin.a0.Kind,.int .i64 x.Margin.a0.Value,.int .i64 x.Margin.a1.Kind,.int .i64 x.Margin.a1.Value,.int .i64 x.Margin.a2.Kind,.int .i64 x.Margin.a2.Value,.int .i64 x.Margin.a3.Kind,.int .i64 x.Margin.a3.Value,.int .i64 x.Padding.a0.Kind,.int .i64 x.Padding.a0.Value,.int .i64 x.Padding.a1.Kind,.int .i64 x.Padding.a1.Value,.int .i64 x.Padding.a2.Kind,.int .i64 x.Padding.a2.Value,.int .i64 x.Padding.a3.Kind,.int .i64 x.Padding.a3.Value,.int .i64 x.Border.a0,.int .i64 x.Border.a1,.int .i64 x.Border.a2,.int .i64 x.Border.a3,.str x.BorderColor,.str x.Color,.str x.Background,.int .i64 x.FontSize,.int .i64 x.LineHeight,.int .i64 x.TextAlign,.int .i64 x.WhiteSpace,.int .i64 x.VAlign,.int .i64 x.Direction,.bool x.Wrap,.int .i64 x.Grow,.int .i64 x.Shrink,.int .i64 x.Basis.Kind,.int .i64 x.Basis.Value,.int .i64 x.Order,.int .i64 x.Z,.bool x.ZAuto,.int .i64 x.Overflow,.int .i64 x.Visibility]
structure cc where
 Depth:Int
 Kind:Int
 Text:ByteArray
 Rows:Int
 Cols:Int
 Style:aF
def PS:cc:=⟨0,0,⟨#[]⟩,0,0,⟨0,0,⟨0,0⟩,⟨0,0⟩,⟨0,0⟩,⟨0,0⟩,⟨0,0⟩,⟨0,0⟩,⟨⟨0,0⟩,⟨0,0⟩,⟨0,0⟩,⟨0,0⟩⟩,⟨⟨0,0⟩,⟨0,0⟩,⟨0,0⟩,⟨0,0⟩⟩,⟨0,0,0,0⟩,⟨#[]⟩,⟨#[]⟩,⟨#[]⟩,0,0,0,0,0,0,false,0,0,⟨0,0⟩,0,0,false,0,0⟩⟩
instance:Inhabited cc:=⟨PS⟩
def ce(x:cc):List AV:=[.int .u8 x.Depth,.int .u8 x.Kind,.str x.Text,.int .u8 x.Rows,.int .u8 x.Cols,.int .i64 x.Style.Display,.int .i64 x.Style.Position,.int .i64 x.Style.Left.Kind,.int .i64 x.Style.Left.Value,.int .i64 x.Style.Top.Kind,.int .i64 x.Style.Top.Value,.int .i64 x.Style.Width.Kind,.int .i64 x.Style.Width.Value,.int .i64 x.Style.Height.Kind,.int .i64 x.Style.Height.Value,.int .i64 x.Style.MinWidth.Kind,.int .i64 x.Style.MinWidth.Value,.int .i64 x.Style.MaxWidth.Kind,.int .i64 x.Style.MaxWidth.Value,.int .i64 x.Style.Margin.a0.Kind,.int .i64 x.Style.Margin.a0.Value,.int .i64 x.Style.Margin.a1.Kind,.int .i64 x.Style.Margin.a1.Value,.int .i64 x.Style.Margin.a2.Kind,.int .i64 x.Style.Margin.a2.Value,.int .i64 x.Style.Margin.a3.Kind,.int .i64 x.Style.Margin.a3.Value,.int .i64 x.Style.Padding.a0.Kind,.int .i64 x.Style.Padding.a0.Value,.int .i64 x.Style.Padding.a1.Kind,.int .i64 x.Style.Padding.a1.Value,.int .i64 x.Style.Padding.a2.Kind,.int .i64 x.Style.Padding.a2.Value,.int .i64 x.Style.Padding.a3.Kind,.int .i64 x.Style.Padding.a3.Value,.int .i64 x.Style.Border.a0,.int .i64 x.Style.Border.a1,.int .i64 x.Style.Border.a2,.int .i64 x.Style.Border.a3,.str x.Style.BorderColor,.str x.Style.Color,.str x.Style.Background,.int .i64 x.Style.FontSize,.int .i64 x.Style.LineHeight,.int .i64 x.Style.TextAlign,.int .i64 x.Style.WhiteSpace,.int .i64 x.Style.VAlign,.int .i64 x.Style.Direction,.bool x.Style.Wrap,.int .i64 x.Style.Grow,.int .i64 x.Style.Shrink,.int .i64 x.Style.Basis.Kind,.int .i64 x.Style.Basis.Value,.int .i64 x.Style.Order,.int .i64 x.Style.Z,.bool x.Style.ZAuto,.int .i64 x.Style.Overflow,.int .i64 x.Style.Visibility]
theorem uN(x:cc):(ce x).length=58:=rfl
structure aq where
 Pos:Int
 Neg:Int
def bX:aq:=⟨0,0⟩
instance:Inhabited aq:=⟨bX⟩
def xY(x y:aq):Bool:=((x.Pos == y.Pos)&&((x.Neg == y.Neg)&&true))
def bJ(x:aq):List AV:=[.int .i64 x.Pos,.int .i64 x.Neg]
structure ab where
 Kind:Int
 Node:Int
 X:Int
 Y:Int
 W:Int
 H:Int
 aE:Int
 Text:ByteArray
 Style:aF
 Before:aq
 After:aq
 Empty:Bool
 Kids:(List ab)
def bb:ab:=⟨0,0,0,0,0,0,0,⟨#[]⟩,⟨0,0,⟨0,0⟩,⟨0,0⟩,⟨0,0⟩,⟨0,0⟩,⟨0,0⟩,⟨0,0⟩,⟨⟨0,0⟩,⟨0,0⟩,⟨0,0⟩,⟨0,0⟩⟩,⟨⟨0,0⟩,⟨0,0⟩,⟨0,0⟩,⟨0,0⟩⟩,⟨0,0,0,0⟩,⟨#[]⟩,⟨#[]⟩,⟨#[]⟩,0,0,0,0,0,0,false,0,0,⟨0,0⟩,0,0,false,0,0⟩,⟨0,0⟩,⟨0,0⟩,false,[]⟩
instance:Inhabited ab:=⟨bb⟩
mutual
def aB:ab→List AV
 | ⟨Kind,Node,X,Y,W,H,aE,Text,Style,Before,After,Empty,Kids⟩=>[.int .i64 Kind,.int .i64 Node,.int .i64 X,.int .i64 Y,.int .i64 W,.int .i64 H,.int .i64 aE,.str Text,.int .i64 Style.Display,.int .i64 Style.Position,.int .i64 Style.Left.Kind,.int .i64 Style.Left.Value,.int .i64 Style.Top.Kind,.int .i64 Style.Top.Value,.int .i64 Style.Width.Kind,.int .i64 Style.Width.Value,.int .i64 Style.Height.Kind,.int .i64 Style.Height.Value,.int .i64 Style.MinWidth.Kind,.int .i64 Style.MinWidth.Value,.int .i64 Style.MaxWidth.Kind,.int .i64 Style.MaxWidth.Value,.int .i64 Style.Margin.a0.Kind,.int .i64 Style.Margin.a0.Value,.int .i64 Style.Margin.a1.Kind,.int .i64 Style.Margin.a1.Value,.int .i64 Style.Margin.a2.Kind,.int .i64 Style.Margin.a2.Value,.int .i64 Style.Margin.a3.Kind,.int .i64 Style.Margin.a3.Value,.int .i64 Style.Padding.a0.Kind,.int .i64 Style.Padding.a0.Value,.int .i64 Style.Padding.a1.Kind,.int .i64 Style.Padding.a1.Value,.int .i64 Style.Padding.a2.Kind,.int .i64 Style.Padding.a2.Value,.int .i64 Style.Padding.a3.Kind,.int .i64 Style.Padding.a3.Value,.int .i64 Style.Border.a0,.int .i64 Style.Border.a1,.int .i64 Style.Border.a2,.int .i64 Style.Border.a3,.str Style.BorderColor,.str Style.Color,.str Style.Background,.int .i64 Style.FontSize,.int .i64 Style.LineHeight,.int .i64 Style.TextAlign,.int .i64 Style.WhiteSpace,.int .i64 Style.VAlign,.int .i64 Style.Direction,.bool Style.Wrap,.int .i64 Style.Grow,.int .i64 Style.Shrink,.int .i64 Style.Basis.Kind,.int .i64 Style.Basis.Value,.int .i64 Style.Order,.int .i64 Style.Z,.bool Style.ZAuto,.int .i64 Style.Overflow,.int .i64 Style.Visibility,.int .i64 Before.Pos,.int .i64 Before.Neg,.int .i64 After.Pos,.int .i64 After.Neg,.bool Empty,.sl (tL Kids)]
def tL:List ab→List (List AV)
 | []=>[]
 | x::r=>aB x::tL r
end
theorem Jy:∀l:List ab,tL l=l.map aB
 | []=>by simp[tL]
 | x::r=>by simp[tL,Jy r]
def aC(x:ab):List AV:=[.int .i64 x.Kind,.int .i64 x.Node,.int .i64 x.X,.int .i64 x.Y,.int .i64 x.W,.int .i64 x.H,.int .i64 x.aE,.str x.Text,.int .i64 x.Style.Display,.int .i64 x.Style.Position,.int .i64 x.Style.Left.Kind,.int .i64 x.Style.Left.Value,.int .i64 x.Style.Top.Kind,.int .i64 x.Style.Top.Value,.int .i64 x.Style.Width.Kind,.int .i64 x.Style.Width.Value,.int .i64 x.Style.Height.Kind,.int .i64 x.Style.Height.Value,.int .i64 x.Style.MinWidth.Kind,.int .i64 x.Style.MinWidth.Value,.int .i64 x.Style.MaxWidth.Kind,.int .i64 x.Style.MaxWidth.Value,.int .i64 x.Style.Margin.a0.Kind,.int .i64 x.Style.Margin.a0.Value,.int .i64 x.Style.Margin.a1.Kind,.int .i64 x.Style.Margin.a1.Value,.int .i64 x.Style.Margin.a2.Kind,.int .i64 x.Style.Margin.a2.Value,.int .i64 x.Style.Margin.a3.Kind,.int .i64 x.Style.Margin.a3.Value,.int .i64 x.Style.Padding.a0.Kind,.int .i64 x.Style.Padding.a0.Value,.int .i64 x.Style.Padding.a1.Kind,.int .i64 x.Style.Padding.a1.Value,.int .i64 x.Style.Padding.a2.Kind,.int .i64 x.Style.Padding.a2.Value,.int .i64 x.Style.Padding.a3.Kind,.int .i64 x.Style.Padding.a3.Value,.int .i64 x.Style.Border.a0,.int .i64 x.Style.Border.a1,.int .i64 x.Style.Border.a2,.int .i64 x.Style.Border.a3,.str x.Style.BorderColor,.str x.Style.Color,.str x.Style.Background,.int .i64 x.Style.FontSize,.int .i64 x.Style.LineHeight,.int .i64 x.Style.TextAlign,.int .i64 x.Style.WhiteSpace,.int .i64 x.Style.VAlign,.int .i64 x.Style.Direction,.bool x.Style.Wrap,.int .i64 x.Style.Grow,.int .i64 x.Style.Shrink,.int .i64 x.Style.Basis.Kind,.int .i64 x.Style.Basis.Value,.int .i64 x.Style.Order,.int .i64 x.Style.Z,.bool x.Style.ZAuto,.int .i64 x.Style.Overflow,.int .i64 x.Style.Visibility,.int .i64 x.Before.Pos,.int .i64 x.Before.Neg,.int .i64 x.After.Pos,.int .i64 x.After.Neg,.bool x.Empty,.sl (List.map aB x.Kids)]
theorem cH(x:ab):aB x=aC x:=by
 cases x;simp only[aB,aC,Jy]
theorem dF(x:ab):(aB x).length=67:=by rw[cH];rfl
structure aH where
 Node:Int
 Text:ByteArray
 Style:aF
 Width:Int
 Space:Int
 Above:Int
 Below:Int
 Glued:Bool
 Forced:Bool
 Box:(List ab)
def cJ:aH:=⟨0,⟨#[]⟩,⟨0,0,⟨0,0⟩,⟨0,0⟩,⟨0,0⟩,⟨0,0⟩,⟨0,0⟩,⟨0,0⟩,⟨⟨0,0⟩,⟨0,0⟩,⟨0,0⟩,⟨0,0⟩⟩,⟨⟨0,0⟩,⟨0,0⟩,⟨0,0⟩,⟨0,0⟩⟩,⟨0,0,0,0⟩,⟨#[]⟩,⟨#[]⟩,⟨#[]⟩,0,0,0,0,0,0,false,0,0,⟨0,0⟩,0,0,false,0,0⟩,0,0,0,0,false,false,[]⟩
instance:Inhabited aH:=⟨cJ⟩
def bg(x:aH):List AV:=[.int .i64 x.Node,.str x.Text,.int .i64 x.Style.Display,.int .i64 x.Style.Position,.int .i64 x.Style.Left.Kind,.int .i64 x.Style.Left.Value,.int .i64 x.Style.Top.Kind,.int .i64 x.Style.Top.Value,.int .i64 x.Style.Width.Kind,.int .i64 x.Style.Width.Value,.int .i64 x.Style.Height.Kind,.int .i64 x.Style.Height.Value,.int .i64 x.Style.MinWidth.Kind,.int .i64 x.Style.MinWidth.Value,.int .i64 x.Style.MaxWidth.Kind,.int .i64 x.Style.MaxWidth.Value,.int .i64 x.Style.Margin.a0.Kind,.int .i64 x.Style.Margin.a0.Value,.int .i64 x.Style.Margin.a1.Kind,.int .i64 x.Style.Margin.a1.Value,.int .i64 x.Style.Margin.a2.Kind,.int .i64 x.Style.Margin.a2.Value,.int .i64 x.Style.Margin.a3.Kind,.int .i64 x.Style.Margin.a3.Value,.int .i64 x.Style.Padding.a0.Kind,.int .i64 x.Style.Padding.a0.Value,.int .i64 x.Style.Padding.a1.Kind,.int .i64 x.Style.Padding.a1.Value,.int .i64 x.Style.Padding.a2.Kind,.int .i64 x.Style.Padding.a2.Value,.int .i64 x.Style.Padding.a3.Kind,.int .i64 x.Style.Padding.a3.Value,.int .i64 x.Style.Border.a0,.int .i64 x.Style.Border.a1,.int .i64 x.Style.Border.a2,.int .i64 x.Style.Border.a3,.str x.Style.BorderColor,.str x.Style.Color,.str x.Style.Background,.int .i64 x.Style.FontSize,.int .i64 x.Style.LineHeight,.int .i64 x.Style.TextAlign,.int .i64 x.Style.WhiteSpace,.int .i64 x.Style.VAlign,.int .i64 x.Style.Direction,.bool x.Style.Wrap,.int .i64 x.Style.Grow,.int .i64 x.Style.Shrink,.int .i64 x.Style.Basis.Kind,.int .i64 x.Style.Basis.Value,.int .i64 x.Style.Order,.int .i64 x.Style.Z,.bool x.Style.ZAuto,.int .i64 x.Style.Overflow,.int .i64 x.Style.Visibility,.int .i64 x.Width,.int .i64 x.Space,.int .i64 x.Above,.int .i64 x.Below,.bool x.Glued,.bool x.Forced,.sl (List.map aB x.Box)]
theorem jx(x:aH):(bg x).length=62:=rfl
structure ah where
 Kind:Int
 Node:Int
 Style:aF
 Text:ByteArray
 Rows:Int
 Cols:Int
 Kids:(List ah)
def fT:ah:=⟨0,0,⟨0,0,⟨0,0⟩,⟨0,0⟩,⟨0,0⟩,⟨0,0⟩,⟨0,0⟩,⟨0,0⟩,⟨⟨0,0⟩,⟨0,0⟩,⟨0,0⟩,⟨0,0⟩⟩,⟨⟨0,0⟩,⟨0,0⟩,⟨0,0⟩,⟨0,0⟩⟩,⟨0,0,0,0⟩,⟨#[]⟩,⟨#[]⟩,⟨#[]⟩,0,0,0,0,0,0,false,0,0,⟨0,0⟩,0,0,false,0,0⟩,⟨#[]⟩,0,0,[]⟩
instance:Inhabited ah:=⟨fT⟩
mutual
def aP:ah→List AV
 | ⟨Kind,Node,Style,Text,Rows,Cols,Kids⟩=>[.int .i64 Kind,.int .i64 Node,.int .i64 Style.Display,.int .i64 Style.Position,.int .i64 Style.Left.Kind,.int .i64 Style.Left.Value,.int .i64 Style.Top.Kind,.int .i64 Style.Top.Value,.int .i64 Style.Width.Kind,.int .i64 Style.Width.Value,.int .i64 Style.Height.Kind,.int .i64 Style.Height.Value,.int .i64 Style.MinWidth.Kind,.int .i64 Style.MinWidth.Value,.int .i64 Style.MaxWidth.Kind,.int .i64 Style.MaxWidth.Value,.int .i64 Style.Margin.a0.Kind,.int .i64 Style.Margin.a0.Value,.int .i64 Style.Margin.a1.Kind,.int .i64 Style.Margin.a1.Value,.int .i64 Style.Margin.a2.Kind,.int .i64 Style.Margin.a2.Value,.int .i64 Style.Margin.a3.Kind,.int .i64 Style.Margin.a3.Value,.int .i64 Style.Padding.a0.Kind,.int .i64 Style.Padding.a0.Value,.int .i64 Style.Padding.a1.Kind,.int .i64 Style.Padding.a1.Value,.int .i64 Style.Padding.a2.Kind,.int .i64 Style.Padding.a2.Value,.int .i64 Style.Padding.a3.Kind,.int .i64 Style.Padding.a3.Value,.int .i64 Style.Border.a0,.int .i64 Style.Border.a1,.int .i64 Style.Border.a2,.int .i64 Style.Border.a3,.str Style.BorderColor,.str Style.Color,.str Style.Background,.int .i64 Style.FontSize,.int .i64 Style.LineHeight,.int .i64 Style.TextAlign,.int .i64 Style.WhiteSpace,.int .i64 Style.VAlign,.int .i64 Style.Direction,.bool Style.Wrap,.int .i64 Style.Grow,.int .i64 Style.Shrink,.int .i64 Style.Basis.Kind,.int .i64 Style.Basis.Value,.int .i64 Style.Order,.int .i64 Style.Z,.bool Style.ZAuto,.int .i64 Style.Overflow,.int .i64 Style.Visibility,.str Text,.int .i64 Rows,.int .i64 Cols,.sl (s6 Kids)]
def s6:List ah→List (List AV)
 | []=>[]
 | x::r=>aP x::s6 r
end
theorem Il:∀l:List ah,s6 l=l.map aP
 | []=>by simp[s6]
 | x::r=>by simp[s6,Il r]
def aX(x:ah):List AV:=[.int .i64 x.Kind,.int .i64 x.Node,.int .i64 x.Style.Display,.int .i64 x.Style.Position,.int .i64 x.Style.Left.Kind,.int .i64 x.Style.Left.Value,.int .i64 x.Style.Top.Kind,.int .i64 x.Style.Top.Value,.int .i64 x.Style.Width.Kind,.int .i64 x.Style.Width.Value,.int .i64 x.Style.Height.Kind,.int .i64 x.Style.Height.Value,.int .i64 x.Style.MinWidth.Kind,.int .i64 x.Style.MinWidth.Value,.int .i64 x.Style.MaxWidth.Kind,.int .i64 x.Style.MaxWidth.Value,.int .i64 x.Style.Margin.a0.Kind,.int .i64 x.Style.Margin.a0.Value,.int .i64 x.Style.Margin.a1.Kind,.int .i64 x.Style.Margin.a1.Value,.int .i64 x.Style.Margin.a2.Kind,.int .i64 x.Style.Margin.a2.Value,.int .i64 x.Style.Margin.a3.Kind,.int .i64 x.Style.Margin.a3.Value,.int .i64 x.Style.Padding.a0.Kind,.int .i64 x.Style.Padding.a0.Value,.int .i64 x.Style.Padding.a1.Kind,.int .i64 x.Style.Padding.a1.Value,.int .i64 x.Style.Padding.a2.Kind,.int .i64 x.Style.Padding.a2.Value,.int .i64 x.Style.Padding.a3.Kind,.int .i64 x.Style.Padding.a3.Value,.int .i64 x.Style.Border.a0,.int .i64 x.Style.Border.a1,.int .i64 x.Style.Border.a2,.int .i64 x.Style.Border.a3,.str x.Style.BorderColor,.str x.Style.Color,.str x.Style.Background,.int .i64 x.Style.FontSize,.int .i64 x.Style.LineHeight,.int .i64 x.Style.TextAlign,.int .i64 x.Style.WhiteSpace,.int .i64 x.Style.VAlign,.int .i64 x.Style.Direction,.bool x.Style.Wrap,.int .i64 x.Style.Grow,.int .i64 x.Style.Shrink,.int .i64 x.Style.Basis.Kind,.int .i64 x.Style.Basis.Value,.int .i64 x.Style.Order,.int .i64 x.Style.Z,.bool x.Style.ZAuto,.int .i64 x.Style.Overflow,.int .i64 x.Style.Visibility,.str x.Text,.int .i64 x.Rows,.int .i64 x.Cols,.sl (List.map aP x.Kids)]
theorem dC(x:ah):aP x=aX x:=by
 cases x;simp only[aP,aX,Il]
theorem eW(x:ah):(aP x).length=59:=by rw[dC];rfl
structure aK where
 Box:ah
 Number:Int
 Char:Int
 Soft:Bool
 Forced:Bool
 Block:Bool
def mq:aK:=⟨⟨0,0,⟨0,0,⟨0,0⟩,⟨0,0⟩,⟨0,0⟩,⟨0,0⟩,⟨0,0⟩,⟨0,0⟩,⟨⟨0,0⟩,⟨0,0⟩,⟨0,0⟩,⟨0,0⟩⟩,⟨⟨0,0⟩,⟨0,0⟩,⟨0,0⟩,⟨0,0⟩⟩,⟨0,0,0,0⟩,⟨#[]⟩,⟨#[]⟩,⟨#[]⟩,0,0,0,0,0,0,false,0,0,⟨0,0⟩,0,0,false,0,0⟩,⟨#[]⟩,0,0,[]⟩,0,0,false,false,false⟩
instance:Inhabited aK:=⟨mq⟩
def aQ(x:aK):List AV:=[.int .i64 x.Box.Kind,.int .i64 x.Box.Node,.int .i64 x.Box.Style.Display,.int .i64 x.Box.Style.Position,.int .i64 x.Box.Style.Left.Kind,.int .i64 x.Box.Style.Left.Value,.int .i64 x.Box.Style.Top.Kind,.int .i64 x.Box.Style.Top.Value,.int .i64 x.Box.Style.Width.Kind,.int .i64 x.Box.Style.Width.Value,.int .i64 x.Box.Style.Height.Kind,.int .i64 x.Box.Style.Height.Value,.int .i64 x.Box.Style.MinWidth.Kind,.int .i64 x.Box.Style.MinWidth.Value,.int .i64 x.Box.Style.MaxWidth.Kind,.int .i64 x.Box.Style.MaxWidth.Value,.int .i64 x.Box.Style.Margin.a0.Kind,.int .i64 x.Box.Style.Margin.a0.Value,.int .i64 x.Box.Style.Margin.a1.Kind,.int .i64 x.Box.Style.Margin.a1.Value,.int .i64 x.Box.Style.Margin.a2.Kind,.int .i64 x.Box.Style.Margin.a2.Value,.int .i64 x.Box.Style.Margin.a3.Kind,.int .i64 x.Box.Style.Margin.a3.Value,.int .i64 x.Box.Style.Padding.a0.Kind,.int .i64 x.Box.Style.Padding.a0.Value,.int .i64 x.Box.Style.Padding.a1.Kind,.int .i64 x.Box.Style.Padding.a1.Value,.int .i64 x.Box.Style.Padding.a2.Kind,.int .i64 x.Box.Style.Padding.a2.Value,.int .i64 x.Box.Style.Padding.a3.Kind,.int .i64 x.Box.Style.Padding.a3.Value,.int .i64 x.Box.Style.Border.a0,.int .i64 x.Box.Style.Border.a1,.int .i64 x.Box.Style.Border.a2,.int .i64 x.Box.Style.Border.a3,.str x.Box.Style.BorderColor,.str x.Box.Style.Color,.str x.Box.Style.Background,.int .i64 x.Box.Style.FontSize,.int .i64 x.Box.Style.LineHeight,.int .i64 x.Box.Style.TextAlign,.int .i64 x.Box.Style.WhiteSpace,.int .i64 x.Box.Style.VAlign,.int .i64 x.Box.Style.Direction,.bool x.Box.Style.Wrap,.int .i64 x.Box.Style.Grow,.int .i64 x.Box.Style.Shrink,.int .i64 x.Box.Style.Basis.Kind,.int .i64 x.Box.Style.Basis.Value,.int .i64 x.Box.Style.Order,.int .i64 x.Box.Style.Z,.bool x.Box.Style.ZAuto,.int .i64 x.Box.Style.Overflow,.int .i64 x.Box.Style.Visibility,.str x.Box.Text,.int .i64 x.Box.Rows,.int .i64 x.Box.Cols,.sl (List.map aP x.Box.Kids),.int .i64 x.Number,.int .i32 x.Char,.bool x.Soft,.bool x.Forced,.bool x.Block]
theorem jn(x:aK):(aQ x).length=64:=rfl
structure aO where
 Things:(List aK)
 Text:ByteArray
 Width:Int
 Space:Int
 Above:Int
 Below:Int
 Glued:Bool
 Forced:Bool
 Box:(List ab)
def dE:aO:=⟨[],⟨#[]⟩,0,0,0,0,false,false,[]⟩
instance:Inhabited aO:=⟨dE⟩
def bj(x:aO):List AV:=[.sl (List.map aQ x.Things),.str x.Text,.int .i64 x.Width,.int .i64 x.Space,.int .i64 x.Above,.int .i64 x.Below,.bool x.Glued,.bool x.Forced,.sl (List.map aB x.Box)]
theorem gj(x:aO):(bj x).length=9:=rfl
def bQ(x:aO):List AV:=[.sl (List.map aQ x.Things),.str x.Text,.int .i64 x.Width,.int .i64 x.Space,.int .i64 x.Above,.int .i64 x.Below,.bool x.Glued,.bool x.Forced,oV aB x.Box]
theorem wy(x:aO):(bQ x).length=9:=rfl
theorem Q7(x:aO):(bQ x).map eu=bj x:=by simp only[bQ,List.map_cons,List.map_nil,WF];rfl
theorem Q8(x:aO)(h:List.isEmpty x.Box=true):bQ x=List.set (bQ x) 8 .nils:=by unfold bQ;rw[Vp h];rfl
theorem W1(x:aO):cS [] (bQ x)=true:=by simp only[AV.cC,bQ,cS,Gq,Bool.and_true]
theorem I7(x:aO):AV.cC [] (.agg (bQ x))=true:=by simp only[AV.cC,bQ,cS,Gq,Bool.and_true]
theorem RW(x:aO)(l:List aK):(bQ x).set 0 (.sl (l.map aQ))=bQ ({ x with Things:=l }:aO):=rfl
theorem aay(x:aO):(bQ x).map AV.j8=bQ x:=by simp only[bQ,List.map_cons,List.map_nil,Mp];rfl
theorem RD(x:aO):(bQ x).all AV.nV=true:=by simp only[bQ,List.all_cons,List.all_nil,WC];rfl
def de(p:aO×Option (List aK)):aO:={ p.1 with Things:=p.2.getD [] }
def WP(x:aO)(l:List aK):aO:={ x with Things:=l }
structure aR where
 Margin:(V4 Int)
 Border:(V4 Int)
 Padding:(V4 Int)
 Content:Int
def dv:aR:=⟨⟨0,0,0,0⟩,⟨0,0,0,0⟩,⟨0,0,0,0⟩,0⟩
instance:Inhabited aR:=⟨dv⟩
def bi(x:aR):List AV:=[.int .i64 x.Margin.a0,.int .i64 x.Margin.a1,.int .i64 x.Margin.a2,.int .i64 x.Margin.a3,.int .i64 x.Border.a0,.int .i64 x.Border.a1,.int .i64 x.Border.a2,.int .i64 x.Border.a3,.int .i64 x.Padding.a0,.int .i64 x.Padding.a1,.int .i64 x.Padding.a2,.int .i64 x.Padding.a3,.int .i64 x.Content]
structure au where
 Kind:Int
 Of:Int
 Char:Int
 Soft:Bool
 Box:ah
def MO:au:=⟨0,0,0,false,fT⟩
instance:Inhabited au:=⟨MO⟩
def aM(x:au):List AV:=[.int .i64 x.Kind,.int .i64 x.Of,.int .i32 x.Char,.bool x.Soft,.cptr (aX x.Box)]
theorem dH(x:au):(aM x).length=5:=rfl
structure ct where
 List:(List ab)
 Height:Int
 Before:aq
 After:aq
 Through:Bool
def nK:ct:=⟨[],0,⟨0,0⟩,⟨0,0⟩,false⟩
instance:Inhabited ct:=⟨nK⟩
def df(x:ct):List AV:=[.sl (List.map aB x.List),.int .i64 x.Height,.int .i64 x.Before.Pos,.int .i64 x.Before.Neg,.int .i64 x.After.Pos,.int .i64 x.After.Neg,.bool x.Through]
inductive Fv where
 | fn (id:Nat)
 | c23 (a0:Int) (a1_0:Fv) (a1_1:Fv) (a1_2:Fv) (a1_3:Fv)
instance:Inhabited Fv:=⟨.fn 0⟩
def Fv.id:Fv→Nat
 | .fn i=>i
 | .c23 _ _ _ _ _=>23
def Fv.ba:Fv→List AV
 | .fn _=>[]
 | .c23 a0 a1_0 a1_1 a1_2 a1_3=>[.cptr [.int .i64 a0],.cptr [.fn a1_0.id a1_0.ba,.fn a1_1.id a1_1.ba,.fn a1_2.id a1_2.ba,.fn a1_3.id a1_3.ba]]
structure cD where
 Layout:Fv
 Widths:Fv
 Lines:Fv
 Spread:Fv
def Yu:cD:=⟨(Fv.fn 0),(Fv.fn 0),(Fv.fn 0),(Fv.fn 0)⟩
instance:Inhabited cD:=⟨Yu⟩
def cW(x:cD):List AV:=[.fn x.Layout.id x.Layout.ba,.fn x.Widths.id x.Widths.ba,.fn x.Lines.id x.Lines.ba,.fn x.Spread.id x.Spread.ba]
structure Kn where
 qJ:ab→ab→Option Bool
 y7:(List cc)→Int→Int→Option ((List ah)×Int)
 yL:(List ah)→(List aK)→Option (List aK)
 lI:ah→Option (Int×Int)
 xf:(List ah)→Int→(List au)→Option (Int×(List au))
 lN:ah→aR→Bool→Option ab
 sh:Fv→(List ah)→aF→Int→Option ((List ab)×Int)
 sZ:Fv→(List ah)→aF→Option (Int×Int)
 n8:Fv→ah→Int→Option ab
 jz:Fv→ah→Option Bool
 ye:Fv→ah→Option (Int×Int)
 pC:Fv→ah→Option aH
end Go.Proofs.YtnpmlepplfaijaaGreat

/- Types of layer 18z's program as Lean types, with their cells. Made by a program. -/
import Derived.Test.YtnpmlepplfaijaaGreatIrVp
import Derived.Test.YtnpmlepplfaijaaGreatIrVr
import Derived.Test.YtnpmlepplfaijaaGreatIrVv
namespace Go.Proofs.YtnpmlepplfaijaaGreat
open Go.RowKit
set_option maxRecDepth 20000
set_option linter.all false
set_option linter.unusedVariables false
set_option linter.unusedSimpArgs false
structure cj where
 Kind:Int
 Value:Int
def ff:cj:=⟨0,0⟩
instance:Inhabited cj:=⟨ff⟩
def eU(x y:cj):Bool:=((x.Kind == y.Kind)&&((x.Value == y.Value)&&true))
def fX(x:cj):List AV:=[.int .i64 x.Kind,.int .i64 x.Value]
structure aJ where
 Display:Int
 Position:Int
 Left:cj
 Top:cj
 Width:cj
 Height:cj
 MinWidth:cj
 MaxWidth:cj
 Margin:(V4 cj)
 Padding:(V4 cj)
 Border:(V4 Int)
 BorderColor:ByteArray
 Color:ByteArray
 Background:ByteArray
 FontSize:Int
 LineHeight:Int
 TextAlign:Int
 WhiteSpace:Int
 VAlign:Int
 Direction:Int
 Wrap:Bool
 Grow:Int
 Shrink:Int
 Basis:cj
 Order:Int
 Z:Int
 ZAuto:Bool
 Overflow:Int
 Visibility:Int
def ce:aJ:=⟨0,0,⟨0,0⟩,⟨0,0⟩,⟨0,0⟩,⟨0,0⟩,⟨0,0⟩,⟨0,0⟩,⟨⟨0,0⟩,⟨0,0⟩,⟨0,0⟩,⟨0,0⟩⟩,⟨⟨0,0⟩,⟨0,0⟩,⟨0,0⟩,⟨0,0⟩⟩,⟨0,0,0,0⟩,⟨#[]⟩,⟨#[]⟩,⟨#[]⟩,0,0,0,0,0,0,false,0,0,⟨0,0⟩,0,0,false,0,0⟩
instance:Inhabited aJ:=⟨ce⟩
def cY(x y:aJ):Bool:=((x.Display == y.Display)&&((x.Position == y.Position)&&((eU x.Left y.Left)&&((eU x.Top y.Top)&&((eU x.Width y.Width)&&((eU x.Height y.Height)&&((eU x.MinWidth y.MinWidth)&&((eU x.MaxWidth y.MaxWidth)&&(((eU x.Margin.a0 y.Margin.a0)&&((eU x.Margin.a1 y.Margin.a1)&&((eU x.Margin.a2 y.Margin.a2)&&((eU x.Margin.a3 y.Margin.a3)&&true))))&&(((eU x.Padding.a0 y.Padding.a0)&&((eU x.Padding.a1 y.Padding.a1)&&((eU x.Padding.a2 y.Padding.a2)&&((eU x.Padding.a3 y.Padding.a3)&&true))))&&(((x.Border.a0 == y.Border.a0)&&((x.Border.a1 == y.Border.a1)&&((x.Border.a2 == y.Border.a2)&&((x.Border.a3 == y.Border.a3)&&true))))&&((x.BorderColor.toList == y.BorderColor.toList)&&((x.Color.toList == y.Color.toList)&&((x.Background.toList == y.Background.toList)&&((x.FontSize == y.FontSize)&&((x.LineHeight == y.LineHeight)&&((x.TextAlign == y.TextAlign)&&((x.WhiteSpace == y.WhiteSpace)&&((x.VAlign == y.VAlign)&&((x.Direction == y.Direction)&&((x.Wrap == y.Wrap)&&((x.Grow == y.Grow)&&((x.Shrink == y.Shrink)&&((eU x.Basis y.Basis)&&((x.Order == y.Order)&&((x.Z == y.Z)&&((x.ZAuto == y.ZAuto)&&((x.Overflow == y.Overflow)&&((x.Visibility == y.Visibility)&&true)))))))))))))))))))))))))))))
def aE(x:aJ):List AV:=[.int .i64 x.Display,.int .i64 x.Position,.int .i64 x.Left.Kind,.int .i64 x.Left.Value,.int .i64 x.Top.Kind,.int .i64 x.Top.Value,.int .i64 x.Width.Kind,.int .i64 x.Width.Value,.int .i64 x.Height.Kind,.int .i64 x.Height.Value,.int .i64 x.MinWidth.Kind,.int .i64 x.MinWidth.Value,.int .i64 x.MaxWidth.Kind,.int .i64 x.MaxWidth.Value,.int .i64 x.Margin.a0.Kind,.int .i64 x.Margin.a0.Value,.int .i64 x.Margin.a1.Kind,.int .i64 x.Margin.a1.Value,.int .i64 x.Margin.a2.Kind,.int .i64 x.Margin.a2.Value,.int .i64 x.Margin.a3.Kind,.int .i64 x.Margin.a3.Value,.int .i64 x.Padding.a0.Kind,.int .i64 x.Padding.a0.Value,.int .i64 x.Padding.a1.Kind,.int .i64 x.Padding.a1.Value,.int .i64 x.Padding.a2.Kind,.int .i64 x.Padding.a2.Value,.int .i64 x.Padding.a3.Kind,.int .i64 x.Padding.a3.Value,.int .i64 x.Border.a0,.int .i64 x.Border.a1,.int .i64 x.Border.a2,.int .i64 x.Border.a3,.str x.BorderColor,.str x.Color,.str x.Background,.int .i64 x.FontSize,.int .i64 x.LineHeight,.int .i64 x.TextAlign,.int .i64 x.WhiteSpace,.int .i64 x.VAlign,.int .i64 x.Direction,.bool x.Wrap,.int .i64 x.Grow,.int .i64 x.Shrink,.int .i64 x.Basis.Kind,.int .i64 x.Basis.Value,.int .i64 x.Order,.int .i64 x.Z,.bool x.ZAuto,.int .i64 x.Overflow,.int .i64 x.Visibility]
structure b9 where
 Depth:Int
 Kind:Int
 Text:ByteArray
 Rows:Int
 Cols:Int
 Style:aJ
def JW:b9:=⟨0,0,⟨#[]⟩,0,0,⟨0,0,⟨0,0⟩,⟨0,0⟩,⟨0,0⟩,⟨0,0⟩,⟨0,0⟩,⟨0,0⟩,⟨⟨0,0⟩,⟨0,0⟩,⟨0,0⟩,⟨0,0⟩⟩,⟨⟨0,0⟩,⟨0,0⟩,⟨0,0⟩,⟨0,0⟩⟩,⟨0,0,0,0⟩,⟨#[]⟩,⟨#[]⟩,⟨#[]⟩,0,0,0,0,0,0,false,0,0,⟨0,0⟩,0,0,false,0,0⟩⟩
instance:Inhabited b9:=⟨JW⟩
def cd(x:b9):List AV:=[.int .u8 x.Depth,.int .u8 x.Kind,.str x.Text,.int .u8 x.Rows,.int .u8 x.Cols,.int .i64 x.Style.Display,.int .i64 x.Style.Position,.int .i64 x.Style.Left.Kind,.int .i64 x.Style.Left.Value,.int .i64 x.Style.Top.Kind,.int .i64 x.Style.Top.Value,.int .i64 x.Style.Width.Kind,.int .i64 x.Style.Width.Value,.int .i64 x.Style.Height.Kind,.int .i64 x.Style.Height.Value,.int .i64 x.Style.MinWidth.Kind,.int .i64 x.Style.MinWidth.Value,.int .i64 x.Style.MaxWidth.Kind,.int .i64 x.Style.MaxWidth.Value,.int .i64 x.Style.Margin.a0.Kind,.int .i64 x.Style.Margin.a0.Value,.int .i64 x.Style.Margin.a1.Kind,.int .i64 x.Style.Margin.a1.Value,.int .i64 x.Style.Margin.a2.Kind,.int .i64 x.Style.Margin.a2.Value,.int .i64 x.Style.Margin.a3.Kind,.int .i64 x.Style.Margin.a3.Value,.int .i64 x.Style.Padding.a0.Kind,.int .i64 x.Style.Padding.a0.Value,.int .i64 x.Style.Padding.a1.Kind,.int .i64 x.Style.Padding.a1.Value,.int .i64 x.Style.Padding.a2.Kind,.int .i64 x.Style.Padding.a2.Value,.int .i64 x.Style.Padding.a3.Kind,.int .i64 x.Style.Padding.a3.Value,.int .i64 x.Style.Border.a0,.int .i64 x.Style.Border.a1,.int .i64 x.Style.Border.a2,.int .i64 x.Style.Border.a3,.str x.Style.BorderColor,.str x.Style.Color,.str x.Style.Background,.int .i64 x.Style.FontSize,.int .i64 x.Style.LineHeight,.int .i64 x.Style.TextAlign,.int .i64 x.Style.WhiteSpace,.int .i64 x.Style.VAlign,.int .i64 x.Style.Direction,.bool x.Style.Wrap,.int .i64 x.Style.Grow,.int .i64 x.Style.Shrink,.int .i64 x.Style.Basis.Kind,.int .i64 x.Style.Basis.Value,.int .i64 x.Style.Order,.int .i64 x.Style.Z,.bool x.Style.ZAuto,.int .i64 x.Style.Overflow,.int .i64 x.Style.Visibility]
theorem xl(x:b9):(cd x).length=58:=rfl
structure au where
 Pos:Int
 Neg:Int
def cp:au:=⟨0,0⟩
instance:Inhabited au:=⟨cp⟩
def xq(x y:au):Bool:=((x.Pos == y.Pos)&&((x.Neg == y.Neg)&&true))
def bI(x:au):List AV:=[.int .i64 x.Pos,.int .i64 x.Neg]
structure ae where
 Kind:Int
 Node:Int
 X:Int
 Y:Int
 W:Int
 H:Int
 aH:Int
 Text:ByteArray
 Style:aJ
 Before:au
 After:au
 Empty:Bool
 Kids:(List ae)
def bp:ae:=⟨0,0,0,0,0,0,0,⟨#[]⟩,⟨0,0,⟨0,0⟩,⟨0,0⟩,⟨0,0⟩,⟨0,0⟩,⟨0,0⟩,⟨0,0⟩,⟨⟨0,0⟩,⟨0,0⟩,⟨0,0⟩,⟨0,0⟩⟩,⟨⟨0,0⟩,⟨0,0⟩,⟨0,0⟩,⟨0,0⟩⟩,⟨0,0,0,0⟩,⟨#[]⟩,⟨#[]⟩,⟨#[]⟩,0,0,0,0,0,0,false,0,0,⟨0,0⟩,0,0,false,0,0⟩,⟨0,0⟩,⟨0,0⟩,false,[]⟩
instance:Inhabited ae:=⟨bp⟩
mutual
def aC:ae→List AV
 | ⟨Kind,Node,X,Y,W,H,aH,Text,Style,Before,After,Empty,Kids⟩=>[.int .i64 Kind,.int .i64 Node,.int .i64 X,.int .i64 Y,.int .i64 W,.int .i64 H,.int .i64 aH,.str Text,.int .i64 Style.Display,.int .i64 Style.Position,.int .i64 Style.Left.Kind,.int .i64 Style.Left.Value,.int .i64 Style.Top.Kind,.int .i64 Style.Top.Value,.int .i64 Style.Width.Kind,.int .i64 Style.Width.Value,.int .i64 Style.Height.Kind,.int .i64 Style.Height.Value,.int .i64 Style.MinWidth.Kind,.int .i64 Style.MinWidth.Value,.int .i64 Style.MaxWidth.Kind,.int .i64 Style.MaxWidth.Value,.int .i64 Style.Margin.a0.Kind,.int .i64 Style.Margin.a0.Value,.int .i64 Style.Margin.a1.Kind,.int .i64 Style.Margin.a1.Value,.int .i64 Style.Margin.a2.Kind,.int .i64 Style.Margin.a2.Value,.int .i64 Style.Margin.a3.Kind,.int .i64 Style.Margin.a3.Value,.int .i64 Style.Padding.a0.Kind,.int .i64 Style.Padding.a0.Value,.int .i64 Style.Padding.a1.Kind,.int .i64 Style.Padding.a1.Value,.int .i64 Style.Padding.a2.Kind,.int .i64 Style.Padding.a2.Value,.int .i64 Style.Padding.a3.Kind,.int .i64 Style.Padding.a3.Value,.int .i64 Style.Border.a0,.int .i64 Style.Border.a1,.int .i64 Style.Border.a2,.int .i64 Style.Border.a3,.str Style.BorderColor,.str Style.Color,.str Style.Background,.int .i64 Style.FontSize,.int .i64 Style.LineHeight,.int .i64 Style.TextAlign,.int .i64 Style.WhiteSpace,.int .i64 Style.VAlign,.int .i64 Style.Direction,.bool Style.Wrap,.int .i64 Style.Grow,.int .i64 Style.Shrink,.int .i64 Style.Basis.Kind,.int .i64 Style.Basis.Value,.int .i64 Style.Order,.int .i64 Style.Z,.bool Style.ZAuto,.int .i64 Style.Overflow,.int .i64 Style.Visibility,.int .i64 Before.Pos,.int .i64 Before.Neg,.int .i64 After.Pos,.int .i64 After.Neg,.bool Empty,.sl (sI Kids)]
def sI:List ae→List (List AV)
 | []=>[]
 | x::r=>aC x::sI r
end
theorem DL:∀l:List ae,sI l=l.map aC
 | []=>by simp[sI]
 | x::r=>by simp[sI,DL r]
def aF(x:ae):List AV:=[.int .i64 x.Kind,.int .i64 x.Node,.int .i64 x.X,.int .i64 x.Y,.int .i64 x.W,.int .i64 x.H,.int .i64 x.aH,.str x.Text,.int .i64 x.Style.Display,.int .i64 x.Style.Position,.int .i64 x.Style.Left.Kind,.int .i64 x.Style.Left.Value,.int .i64 x.Style.Top.Kind,.int .i64 x.Style.Top.Value,.int .i64 x.Style.Width.Kind,.int .i64 x.Style.Width.Value,.int .i64 x.Style.Height.Kind,.int .i64 x.Style.Height.Value,.int .i64 x.Style.MinWidth.Kind,.int .i64 x.Style.MinWidth.Value,.int .i64 x.Style.MaxWidth.Kind,.int .i64 x.Style.MaxWidth.Value,.int .i64 x.Style.Margin.a0.Kind,.int .i64 x.Style.Margin.a0.Value,.int .i64 x.Style.Margin.a1.Kind,.int .i64 x.Style.Margin.a1.Value,.int .i64 x.Style.Margin.a2.Kind,.int .i64 x.Style.Margin.a2.Value,.int .i64 x.Style.Margin.a3.Kind,.int .i64 x.Style.Margin.a3.Value,.int .i64 x.Style.Padding.a0.Kind,.int .i64 x.Style.Padding.a0.Value,.int .i64 x.Style.Padding.a1.Kind,.int .i64 x.Style.Padding.a1.Value,.int .i64 x.Style.Padding.a2.Kind,.int .i64 x.Style.Padding.a2.Value,.int .i64 x.Style.Padding.a3.Kind,.int .i64 x.Style.Padding.a3.Value,.int .i64 x.Style.Border.a0,.int .i64 x.Style.Border.a1,.int .i64 x.Style.Border.a2,.int .i64 x.Style.Border.a3,.str x.Style.BorderColor,.str x.Style.Color,.str x.Style.Background,.int .i64 x.Style.FontSize,.int .i64 x.Style.LineHeight,.int .i64 x.Style.TextAlign,.int .i64 x.Style.WhiteSpace,.int .i64 x.Style.VAlign,.int .i64 x.Style.Direction,.bool x.Style.Wrap,.int .i64 x.Style.Grow,.int .i64 x.Style.Shrink,.int .i64 x.Style.Basis.Kind,.int .i64 x.Style.Basis.Value,.int .i64 x.Style.Order,.int .i64 x.Style.Z,.bool x.Style.ZAuto,.int .i64 x.Style.Overflow,.int .i64 x.Style.Visibility,.int .i64 x.Before.Pos,.int .i64 x.Before.Neg,.int .i64 x.After.Pos,.int .i64 x.After.Neg,.bool x.Empty,.sl (List.map aC x.Kids)]
theorem cQ(x:ae):aC x=aF x:=by
 cases x;simp only[aC,aF,DL]
theorem dP(x:ae):(aC x).length=67:=by rw[cQ];rfl
structure aM where
 Node:Int
 Text:ByteArray
 Style:aJ
 Width:Int
 Space:Int
 Above:Int
 Below:Int
 Glued:Bool
 Forced:Bool
 Box:(List ae)
def cO:aM:=⟨0,⟨#[]⟩,⟨0,0,⟨0,0⟩,⟨0,0⟩,⟨0,0⟩,⟨0,0⟩,⟨0,0⟩,⟨0,0⟩,⟨⟨0,0⟩,⟨0,0⟩,⟨0,0⟩,⟨0,0⟩⟩,⟨⟨0,0⟩,⟨0,0⟩,⟨0,0⟩,⟨0,0⟩⟩,⟨0,0,0,0⟩,⟨#[]⟩,⟨#[]⟩,⟨#[]⟩,0,0,0,0,0,0,false,0,0,⟨0,0⟩,0,0,false,0,0⟩,0,0,0,0,false,false,[]⟩
instance:Inhabited aM:=⟨cO⟩
def aY(x:aM):List AV:=[.int .i64 x.Node,.str x.Text,.int .i64 x.Style.Display,.int .i64 x.Style.Position,.int .i64 x.Style.Left.Kind,.int .i64 x.Style.Left.Value,.int .i64 x.Style.Top.Kind,.int .i64 x.Style.Top.Value,.int .i64 x.Style.Width.Kind,.int .i64 x.Style.Width.Value,.int .i64 x.Style.Height.Kind,.int .i64 x.Style.Height.Value,.int .i64 x.Style.MinWidth.Kind,.int .i64 x.Style.MinWidth.Value,.int .i64 x.Style.MaxWidth.Kind,.int .i64 x.Style.MaxWidth.Value,.int .i64 x.Style.Margin.a0.Kind,.int .i64 x.Style.Margin.a0.Value,.int .i64 x.Style.Margin.a1.Kind,.int .i64 x.Style.Margin.a1.Value,.int .i64 x.Style.Margin.a2.Kind,.int .i64 x.Style.Margin.a2.Value,.int .i64 x.Style.Margin.a3.Kind,.int .i64 x.Style.Margin.a3.Value,.int .i64 x.Style.Padding.a0.Kind,.int .i64 x.Style.Padding.a0.Value,.int .i64 x.Style.Padding.a1.Kind,.int .i64 x.Style.Padding.a1.Value,.int .i64 x.Style.Padding.a2.Kind,.int .i64 x.Style.Padding.a2.Value,.int .i64 x.Style.Padding.a3.Kind,.int .i64 x.Style.Padding.a3.Value,.int .i64 x.Style.Border.a0,.int .i64 x.Style.Border.a1,.int .i64 x.Style.Border.a2,.int .i64 x.Style.Border.a3,.str x.Style.BorderColor,.str x.Style.Color,.str x.Style.Background,.int .i64 x.Style.FontSize,.int .i64 x.Style.LineHeight,.int .i64 x.Style.TextAlign,.int .i64 x.Style.WhiteSpace,.int .i64 x.Style.VAlign,.int .i64 x.Style.Direction,.bool x.Style.Wrap,.int .i64 x.Style.Grow,.int .i64 x.Style.Shrink,.int .i64 x.Style.Basis.Kind,.int .i64 x.Style.Basis.Value,.int .i64 x.Style.Order,.int .i64 x.Style.Z,.bool x.Style.ZAuto,.int .i64 x.Style.Overflow,.int .i64 x.Style.Visibility,.int .i64 x.Width,.int .i64 x.Space,.int .i64 x.Above,.int .i64 x.Below,.bool x.Glued,.bool x.Forced,.sl (List.map aC x.Box)]
theorem iz(x:aM):(aY x).length=62:=rfl
structure aj where
 Kind:Int
 Node:Int
 Style:aJ
 Text:ByteArray
 Rows:Int
 Cols:Int
 Kids:(List aj)
def fJ:aj:=⟨0,0,⟨0,0,⟨0,0⟩,⟨0,0⟩,⟨0,0⟩,⟨0,0⟩,⟨0,0⟩,⟨0,0⟩,⟨⟨0,0⟩,⟨0,0⟩,⟨0,0⟩,⟨0,0⟩⟩,⟨⟨0,0⟩,⟨0,0⟩,⟨0,0⟩,⟨0,0⟩⟩,⟨0,0,0,0⟩,⟨#[]⟩,⟨#[]⟩,⟨#[]⟩,0,0,0,0,0,0,false,0,0,⟨0,0⟩,0,0,false,0,0⟩,⟨#[]⟩,0,0,[]⟩
instance:Inhabited aj:=⟨fJ⟩
mutual
def aO:aj→List AV
 | ⟨Kind,Node,Style,Text,Rows,Cols,Kids⟩=>[.int .i64 Kind,.int .i64 Node,.int .i64 Style.Display,.int .i64 Style.Position,.int .i64 Style.Left.Kind,.int .i64 Style.Left.Value,.int .i64 Style.Top.Kind,.int .i64 Style.Top.Value,.int .i64 Style.Width.Kind,.int .i64 Style.Width.Value,.int .i64 Style.Height.Kind,.int .i64 Style.Height.Value,.int .i64 Style.MinWidth.Kind,.int .i64 Style.MinWidth.Value,.int .i64 Style.MaxWidth.Kind,.int .i64 Style.MaxWidth.Value,.int .i64 Style.Margin.a0.Kind,.int .i64 Style.Margin.a0.Value,.int .i64 Style.Margin.a1.Kind,.int .i64 Style.Margin.a1.Value,.int .i64 Style.Margin.a2.Kind,.int .i64 Style.Margin.a2.Value,.int .i64 Style.Margin.a3.Kind,.int .i64 Style.Margin.a3.Value,.int .i64 Style.Padding.a0.Kind,.int .i64 Style.Padding.a0.Value,.int .i64 Style.Padding.a1.Kind,.int .i64 Style.Padding.a1.Value,.int .i64 Style.Padding.a2.Kind,.int .i64 Style.Padding.a2.Value,.int .i64 Style.Padding.a3.Kind,.int .i64 Style.Padding.a3.Value,.int .i64 Style.Border.a0,.int .i64 Style.Border.a1,.int .i64 Style.Border.a2,.int .i64 Style.Border.a3,.str Style.BorderColor,.str Style.Color,.str Style.Background,.int .i64 Style.FontSize,.int .i64 Style.LineHeight,.int .i64 Style.TextAlign,.int .i64 Style.WhiteSpace,.int .i64 Style.VAlign,.int .i64 Style.Direction,.bool Style.Wrap,.int .i64 Style.Grow,.int .i64 Style.Shrink,.int .i64 Style.Basis.Kind,.int .i64 Style.Basis.Value,.int .i64 Style.Order,.int .i64 Style.Z,.bool Style.ZAuto,.int .i64 Style.Overflow,.int .i64 Style.Visibility,.str Text,.int .i64 Rows,.int .i64 Cols,.sl (tV Kids)]
def tV:List aj→List (List AV)
 | []=>[]
 | x::r=>aO x::tV r
end
theorem FK:∀l:List aj,tV l=l.map aO
 | []=>by simp[tV]
 | x::r=>by simp[tV,FK r]
def aV(x:aj):List AV:=[.int .i64 x.Kind,.int .i64 x.Node,.int .i64 x.Style.Display,.int .i64 x.Style.Position,.int .i64 x.Style.Left.Kind,.int .i64 x.Style.Left.Value,.int .i64 x.Style.Top.Kind,.int .i64 x.Style.Top.Value,.int .i64 x.Style.Width.Kind,.int .i64 x.Style.Width.Value,.int .i64 x.Style.Height.Kind,.int .i64 x.Style.Height.Value,.int .i64 x.Style.MinWidth.Kind,.int .i64 x.Style.MinWidth.Value,.int .i64 x.Style.MaxWidth.Kind,.int .i64 x.Style.MaxWidth.Value,.int .i64 x.Style.Margin.a0.Kind,.int .i64 x.Style.Margin.a0.Value,.int .i64 x.Style.Margin.a1.Kind,.int .i64 x.Style.Margin.a1.Value,.int .i64 x.Style.Margin.a2.Kind,.int .i64 x.Style.Margin.a2.Value,.int .i64 x.Style.Margin.a3.Kind,.int .i64 x.Style.Margin.a3.Value,.int .i64 x.Style.Padding.a0.Kind,.int .i64 x.Style.Padding.a0.Value,.int .i64 x.Style.Padding.a1.Kind,.int .i64 x.Style.Padding.a1.Value,.int .i64 x.Style.Padding.a2.Kind,.int .i64 x.Style.Padding.a2.Value,.int .i64 x.Style.Padding.a3.Kind,.int .i64 x.Style.Padding.a3.Value,.int .i64 x.Style.Border.a0,.int .i64 x.Style.Border.a1,.int .i64 x.Style.Border.a2,.int .i64 x.Style.Border.a3,.str x.Style.BorderColor,.str x.Style.Color,.str x.Style.Background,.int .i64 x.Style.FontSize,.int .i64 x.Style.LineHeight,.int .i64 x.Style.TextAlign,.int .i64 x.Style.WhiteSpace,.int .i64 x.Style.VAlign,.int .i64 x.Style.Direction,.bool x.Style.Wrap,.int .i64 x.Style.Grow,.int .i64 x.Style.Shrink,.int .i64 x.Style.Basis.Kind,.int .i64 x.Style.Basis.Value,.int .i64 x.Style.Order,.int .i64 x.Style.Z,.bool x.Style.ZAuto,.int .i64 x.Style.Overflow,.int .i64 x.Style.Visibility,.str x.Text,.int .i64 x.Rows,.int .i64 x.Cols,.sl (List.map aO x.Kids)]
theorem dp(x:aj):aO x=aV x:=by
 cases x;simp only[aO,aV,FK]
theorem eC(x:aj):(aO x).length=59:=by rw[dp];rfl
structure aI where
 Box:aj
 Number:Int
 Char:Int
 Soft:Bool
 Forced:Bool
 Block:Bool
def ln:aI:=⟨⟨0,0,⟨0,0,⟨0,0⟩,⟨0,0⟩,⟨0,0⟩,⟨0,0⟩,⟨0,0⟩,⟨0,0⟩,⟨⟨0,0⟩,⟨0,0⟩,⟨0,0⟩,⟨0,0⟩⟩,⟨⟨0,0⟩,⟨0,0⟩,⟨0,0⟩,⟨0,0⟩⟩,⟨0,0,0,0⟩,⟨#[]⟩,⟨#[]⟩,⟨#[]⟩,0,0,0,0,0,0,false,0,0,⟨0,0⟩,0,0,false,0,0⟩,⟨#[]⟩,0,0,[]⟩,0,0,false,false,false⟩
instance:Inhabited aI:=⟨ln⟩
def aD(x:aI):List AV:=[.int .i64 x.Box.Kind,.int .i64 x.Box.Node,.int .i64 x.Box.Style.Display,.int .i64 x.Box.Style.Position,.int .i64 x.Box.Style.Left.Kind,.int .i64 x.Box.Style.Left.Value,.int .i64 x.Box.Style.Top.Kind,.int .i64 x.Box.Style.Top.Value,.int .i64 x.Box.Style.Width.Kind,.int .i64 x.Box.Style.Width.Value,.int .i64 x.Box.Style.Height.Kind,.int .i64 x.Box.Style.Height.Value,.int .i64 x.Box.Style.MinWidth.Kind,.int .i64 x.Box.Style.MinWidth.Value,.int .i64 x.Box.Style.MaxWidth.Kind,.int .i64 x.Box.Style.MaxWidth.Value,.int .i64 x.Box.Style.Margin.a0.Kind,.int .i64 x.Box.Style.Margin.a0.Value,.int .i64 x.Box.Style.Margin.a1.Kind,.int .i64 x.Box.Style.Margin.a1.Value,.int .i64 x.Box.Style.Margin.a2.Kind,.int .i64 x.Box.Style.Margin.a2.Value,.int .i64 x.Box.Style.Margin.a3.Kind,.int .i64 x.Box.Style.Margin.a3.Value,.int .i64 x.Box.Style.Padding.a0.Kind,.int .i64 x.Box.Style.Padding.a0.Value,.int .i64 x.Box.Style.Padding.a1.Kind,.int .i64 x.Box.Style.Padding.a1.Value,.int .i64 x.Box.Style.Padding.a2.Kind,.int .i64 x.Box.Style.Padding.a2.Value,.int .i64 x.Box.Style.Padding.a3.Kind,.int .i64 x.Box.Style.Padding.a3.Value,.int .i64 x.Box.Style.Border.a0,.int .i64 x.Box.Style.Border.a1,.int .i64 x.Box.Style.Border.a2,.int .i64 x.Box.Style.Border.a3,.str x.Box.Style.BorderColor,.str x.Box.Style.Color,.str x.Box.Style.Background,.int .i64 x.Box.Style.FontSize,.int .i64 x.Box.Style.LineHeight,.int .i64 x.Box.Style.TextAlign,.int .i64 x.Box.Style.WhiteSpace,.int .i64 x.Box.Style.VAlign,.int .i64 x.Box.Style.Direction,.bool x.Box.Style.Wrap,.int .i64 x.Box.Style.Grow,.int .i64 x.Box.Style.Shrink,.int .i64 x.Box.Style.Basis.Kind,.int .i64 x.Box.Style.Basis.Value,.int .i64 x.Box.Style.Order,.int .i64 x.Box.Style.Z,.bool x.Box.Style.ZAuto,.int .i64 x.Box.Style.Overflow,.int .i64 x.Box.Style.Visibility,.str x.Box.Text,.int .i64 x.Box.Rows,.int .i64 x.Box.Cols,.sl (List.map aO x.Box.Kids),.int .i64 x.Number,.int .i32 x.Char,.bool x.Soft,.bool x.Forced,.bool x.Block]
theorem eE(x:aI):(aD x).length=64:=rfl
structure ba where
 Things:(List aI)
 Text:ByteArray
 Width:Int
 Space:Int
 Above:Int
 Below:Int
 Glued:Bool
 Forced:Bool
 Box:(List ae)
def dC:ba:=⟨[],⟨#[]⟩,0,0,0,0,false,false,[]⟩
instance:Inhabited ba:=⟨dC⟩
def co(x:ba):List AV:=[.sl (List.map aD x.Things),.str x.Text,.int .i64 x.Width,.int .i64 x.Space,.int .i64 x.Above,.int .i64 x.Below,.bool x.Glued,.bool x.Forced,.sl (List.map aC x.Box)]
theorem OK(x:ba):(co x).length=9:=rfl
def bN(x:ba):List AV:=[.sl (List.map aD x.Things),.str x.Text,.int .i64 x.Width,.int .i64 x.Space,.int .i64 x.Above,.int .i64 x.Below,.bool x.Glued,.bool x.Forced,nq aC x.Box]
theorem vZ(x:ba):(bN x).length=9:=rfl
theorem K0(x:ba):(bN x).map d4=co x:=by simp only[bN,List.map_cons,List.map_nil,Sg];rfl
theorem OD(x:ba)(h:List.isEmpty x.Box=true):bN x=List.set (bN x) 8 .nils:=by unfold bN;rw[Ti h];rfl
theorem QR(x:ba):cJ [] (bN x)=true:=by simp only[AV.cu,bN,cJ,Gr,Bool.and_true]
theorem DR(x:ba):AV.cu [] (.agg (bN x))=true:=by simp only[AV.cu,bN,cJ,Gr,Bool.and_true]
theorem Ju(x:ba)(l:List aI):(bN x).set 0 (.sl (l.map aD))=bN ({ x with Things:=l }:ba):=rfl
theorem Ki(x:ba):(bN x).map AV.jr=bN x:=by simp only[bN,List.map_cons,List.map_nil,Qd];rfl
theorem TH(x:ba):(bN x).all AV.ny=true:=by simp only[bN,List.all_cons,List.all_nil,Vm];rfl
def db(p:ba×Option (List aI)):ba:={ p.1 with Things:=p.2.getD [] }
def PH(x:ba)(l:List aI):ba:={ x with Things:=l }
structure aP where
 Margin:(V4 Int)
 Border:(V4 Int)
 Padding:(V4 Int)
 Content:Int
def dr:aP:=⟨⟨0,0,0,0⟩,⟨0,0,0,0⟩,⟨0,0,0,0⟩,0⟩
instance:Inhabited aP:=⟨dr⟩
def bg(x:aP):List AV:=[.int .i64 x.Margin.a0,.int .i64 x.Margin.a1,.int .i64 x.Margin.a2,.int .i64 x.Margin.a3,.int .i64 x.Border.a0,.int .i64 x.Border.a1,.int .i64 x.Border.a2,.int .i64 x.Border.a3,.int .i64 x.Padding.a0,.int .i64 x.Padding.a1,.int .i64 x.Padding.a2,.int .i64 x.Padding.a3,.int .i64 x.Content]
structure ax where
 Kind:Int
 Of:Int
 Char:Int
 Soft:Bool
 Box:aj
def Q8:ax:=⟨0,0,0,false,fJ⟩
instance:Inhabited ax:=⟨Q8⟩
def aK(x:ax):List AV:=[.int .i64 x.Kind,.int .i64 x.Of,.int .i32 x.Char,.bool x.Soft,.cptr (aV x.Box)]
theorem dF(x:ax):(aK x).length=5:=rfl
structure cg where
 List:(List ae)
 Height:Int
 Before:au
 After:au
 Through:Bool
def nQ:cg:=⟨[],0,⟨0,0⟩,⟨0,0⟩,false⟩
instance:Inhabited cg:=⟨nQ⟩
def dc(x:cg):List AV:=[.sl (List.map aC x.List),.int .i64 x.Height,.int .i64 x.Before.Pos,.int .i64 x.Before.Neg,.int .i64 x.After.Pos,.int .i64 x.After.Neg,.bool x.Through]
inductive Fv where
 | fn (id:Nat)
 | c23 (a0:Int) (a1_0:Fv) (a1_1:Fv) (a1_2:Fv) (a1_3:Fv)
instance:Inhabited Fv:=⟨.fn 0⟩
def Fv.id:Fv→Nat
 | .fn i=>i
 | .c23 _ _ _ _ _=>23
def Fv.aX:Fv→List AV
 | .fn _=>[]
 | .c23 a0 a1_0 a1_1 a1_2 a1_3=>[.cptr [.int .i64 a0],.cptr [.fn a1_0.id a1_0.aX,.fn a1_1.id a1_1.aX,.fn a1_2.id a1_2.aX,.fn a1_3.id a1_3.aX]]
structure cA where
 Layout:Fv
 Widths:Fv
 Lines:Fv
 Spread:Fv
def Ud:cA:=⟨(Fv.fn 0),(Fv.fn 0),(Fv.fn 0),(Fv.fn 0)⟩
instance:Inhabited cA:=⟨Ud⟩
def cR(x:cA):List AV:=[.fn x.Layout.id x.Layout.aX,.fn x.Widths.id x.Widths.aX,.fn x.Lines.id x.Lines.aX,.fn x.Spread.id x.Spread.aX]
structure Kn where
 re:ae→ae→Option Bool
 wj:(List b9)→Int→Int→Option ((List aj)×Int)
 tZ:(List aj)→(List aI)→Option (List aI)
 lr:aj→Option (Int×Int)
 wz:(List aj)→Int→(List ax)→Option (Int×(List ax))
 lv:aj→aP→Bool→Option ae
 pL:Fv→(List aj)→aJ→Int→Option ((List ae)×Int)
 tS:Fv→(List aj)→aJ→Option (Int×Int)
 mM:Fv→aj→Int→Option ae
 jn:Fv→aj→Option Bool
 ub:Fv→aj→Option (Int×Int)
 qg:Fv→aj→Option aM
end Go.Proofs.YtnpmlepplfaijaaGreat

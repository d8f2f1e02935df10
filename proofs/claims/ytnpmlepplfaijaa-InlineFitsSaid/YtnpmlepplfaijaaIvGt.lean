/- Types of layer 18's program as Lean types, with their cells. Made by a program. -/
import Derived.Test.YtnpmlepplfaijaaIvVz
import Derived.Test.YtnpmlepplfaijaaIvVdz
import Derived.MapKept
import Derived.Test.YtnpmlepplfaijaaIvVv
namespace Go.Proofs.Ytnpmlepplfaijaa
open Go.RowKit
set_option maxRecDepth 20000
set_option linter.all false
set_option linter.unusedVariables false
set_option linter.unusedSimpArgs false
structure cL where
 Kind:Int
 Value:Int
def eA:cL:=⟨0,0⟩
instance:Inhabited cL:=⟨eA⟩
def jF(x:cL):List AV:=[.int .i64 x.Kind,.int .i64 x.Value]
structure aF where
 Display:Int
 Position:Int
 Left:cL
 Top:cL
 Width:cL
 Height:cL
 MinWidth:cL
 MaxWidth:cL
 Margin:(V4 cL)
 Padding:(V4 cL)
 Border:(V4 Int)
 BorderColor:ByteArray
 Color:ByteArray
 Background:ByteArray
 FontSize:Int
 LineHeight:Int
 TextAlign:Int
 WhiteSpace:Int
 VAlign:Int
 Direction:Int
 Wrap:Bool
 Grow:Int
 Shrink:Int
 Basis:cL
 Order:Int
 Z:Int
 ZAuto:Bool
 Overflow:Int
 Visibility:Int
def bQ:aF:=⟨0,0,⟨0,0⟩,⟨0,0⟩,⟨0,0⟩,⟨0,0⟩,⟨0,0⟩,⟨0,0⟩,⟨⟨0,0⟩,⟨0,0⟩,⟨0,0⟩,⟨0,0⟩⟩,⟨⟨0,0⟩,⟨0,0⟩,⟨0,0⟩,⟨0,0⟩⟩,⟨0,0,0,0⟩,⟨#[]⟩,⟨#[]⟩,⟨#[]⟩,0,0,0,0,0,0,false,0,0,⟨0,0⟩,0,0,false,0,0⟩
instance:Inhabited aF:=⟨bQ⟩
def aA(x:aF):List AV:=[.int .i64 x.Display,.int .i64 x.Position,.int .i64 x.Left.Kind,.int .i64 x.Left.Value,.int .i64 x.Top.Kind,.int .i64 x.Top.Value,.int .i64 x.Width.Kind,.int .i64 x.Width.Value,.int .i64 x.Height.Kind,.int .i64 x.Height.Value,.int .i64 x.MinWidth.Kind,.int .i64 x.MinWidth.Value,.int .i64 x.MaxWidth.Kind,.int .i64 x.MaxWidth.Value,.int .i64 x.Margin.a0.Kind,.int .i64 x.Margin.a0.Value,.int .i64 x.Margin.a1.Kind,.int .i64 x.Margin.a1.Value,.int .i64 x.Margin.a2.Kind,.int .i64 x.Margin.a2.Value,.int .i64 x.Margin.a3.Kind,.int .i64 x.Margin.a3.Value,.int .i64 x.Padding.a0.Kind,.int .i64 x.Padding.a0.Value,.int .i64 x.Padding.a1.Kind,.int .i64 x.Padding.a1.Value,.int .i64 x.Padding.a2.Kind,.int .i64 x.Padding.a2.Value,.int .i64 x.Padding.a3.Kind,.int .i64 x.Padding.a3.Value,.int .i64 x.Border.a0,.int .i64 x.Border.a1,.int .i64 x.Border.a2,.int .i64 x.Border.a3,.str x.BorderColor,.str x.Color,.str x.Background,.int .i64 x.FontSize,.int .i64 x.LineHeight,.int .i64 x.TextAlign,.int .i64 x.WhiteSpace,.int .i64 x.VAlign,.int .i64 x.Direction,.bool x.Wrap,.int .i64 x.Grow,.int .i64 x.Shrink,.int .i64 x.Basis.Kind,.int .i64 x.Basis.Value,.int .i64 x.Order,.int .i64 x.Z,.bool x.ZAuto,.int .i64 x.Overflow,.int .i64 x.Visibility]
structure bG where
 Depth:Int
 Kind:Int
 Text:ByteArray
 Rows:Int
 Cols:Int
 Style:aF
def Iw:bG:=⟨0,0,⟨#[]⟩,0,0,⟨0,0,⟨0,0⟩,⟨0,0⟩,⟨0,0⟩,⟨0,0⟩,⟨0,0⟩,⟨0,0⟩,⟨⟨0,0⟩,⟨0,0⟩,⟨0,0⟩,⟨0,0⟩⟩,⟨⟨0,0⟩,⟨0,0⟩,⟨0,0⟩,⟨0,0⟩⟩,⟨0,0,0,0⟩,⟨#[]⟩,⟨#[]⟩,⟨#[]⟩,0,0,0,0,0,0,false,0,0,⟨0,0⟩,0,0,false,0,0⟩⟩
instance:Inhabited bG:=⟨Iw⟩
def bC(x:bG):List AV:=[.int .u8 x.Depth,.int .u8 x.Kind,.str x.Text,.int .u8 x.Rows,.int .u8 x.Cols,.int .i64 x.Style.Display,.int .i64 x.Style.Position,.int .i64 x.Style.Left.Kind,.int .i64 x.Style.Left.Value,.int .i64 x.Style.Top.Kind,.int .i64 x.Style.Top.Value,.int .i64 x.Style.Width.Kind,.int .i64 x.Style.Width.Value,.int .i64 x.Style.Height.Kind,.int .i64 x.Style.Height.Value,.int .i64 x.Style.MinWidth.Kind,.int .i64 x.Style.MinWidth.Value,.int .i64 x.Style.MaxWidth.Kind,.int .i64 x.Style.MaxWidth.Value,.int .i64 x.Style.Margin.a0.Kind,.int .i64 x.Style.Margin.a0.Value,.int .i64 x.Style.Margin.a1.Kind,.int .i64 x.Style.Margin.a1.Value,.int .i64 x.Style.Margin.a2.Kind,.int .i64 x.Style.Margin.a2.Value,.int .i64 x.Style.Margin.a3.Kind,.int .i64 x.Style.Margin.a3.Value,.int .i64 x.Style.Padding.a0.Kind,.int .i64 x.Style.Padding.a0.Value,.int .i64 x.Style.Padding.a1.Kind,.int .i64 x.Style.Padding.a1.Value,.int .i64 x.Style.Padding.a2.Kind,.int .i64 x.Style.Padding.a2.Value,.int .i64 x.Style.Padding.a3.Kind,.int .i64 x.Style.Padding.a3.Value,.int .i64 x.Style.Border.a0,.int .i64 x.Style.Border.a1,.int .i64 x.Style.Border.a2,.int .i64 x.Style.Border.a3,.str x.Style.BorderColor,.str x.Style.Color,.str x.Style.Background,.int .i64 x.Style.FontSize,.int .i64 x.Style.LineHeight,.int .i64 x.Style.TextAlign,.int .i64 x.Style.WhiteSpace,.int .i64 x.Style.VAlign,.int .i64 x.Style.Direction,.bool x.Style.Wrap,.int .i64 x.Style.Grow,.int .i64 x.Style.Shrink,.int .i64 x.Style.Basis.Kind,.int .i64 x.Style.Basis.Value,.int .i64 x.Style.Order,.int .i64 x.Style.Z,.bool x.Style.ZAuto,.int .i64 x.Style.Overflow,.int .i64 x.Style.Visibility]
theorem qZ(x:bG):(bC x).length=58:=rfl
structure aJ where
 Pos:Int
 Neg:Int
def cr:aJ:=⟨0,0⟩
instance:Inhabited aJ:=⟨cr⟩
def bA(x:aJ):List AV:=[.int .i64 x.Pos,.int .i64 x.Neg]
structure af where
 Kind:Int
 Node:Int
 X:Int
 Y:Int
 W:Int
 H:Int
 az:Int
 Text:ByteArray
 Style:aF
 Before:aJ
 After:aJ
 Empty:Bool
 Kids:(List af)
def bl:af:=⟨0,0,0,0,0,0,0,⟨#[]⟩,⟨0,0,⟨0,0⟩,⟨0,0⟩,⟨0,0⟩,⟨0,0⟩,⟨0,0⟩,⟨0,0⟩,⟨⟨0,0⟩,⟨0,0⟩,⟨0,0⟩,⟨0,0⟩⟩,⟨⟨0,0⟩,⟨0,0⟩,⟨0,0⟩,⟨0,0⟩⟩,⟨0,0,0,0⟩,⟨#[]⟩,⟨#[]⟩,⟨#[]⟩,0,0,0,0,0,0,false,0,0,⟨0,0⟩,0,0,false,0,0⟩,⟨0,0⟩,⟨0,0⟩,false,[]⟩
instance:Inhabited af:=⟨bl⟩
mutual
def aB:af→List AV
 | ⟨Kind,Node,X,Y,W,H,az,Text,Style,Before,After,Empty,Kids⟩=>[.int .i64 Kind,.int .i64 Node,.int .i64 X,.int .i64 Y,.int .i64 W,.int .i64 H,.int .i64 az,.str Text,.int .i64 Style.Display,.int .i64 Style.Position,.int .i64 Style.Left.Kind,.int .i64 Style.Left.Value,.int .i64 Style.Top.Kind,.int .i64 Style.Top.Value,.int .i64 Style.Width.Kind,.int .i64 Style.Width.Value,.int .i64 Style.Height.Kind,.int .i64 Style.Height.Value,.int .i64 Style.MinWidth.Kind,.int .i64 Style.MinWidth.Value,.int .i64 Style.MaxWidth.Kind,.int .i64 Style.MaxWidth.Value,.int .i64 Style.Margin.a0.Kind,.int .i64 Style.Margin.a0.Value,.int .i64 Style.Margin.a1.Kind,.int .i64 Style.Margin.a1.Value,.int .i64 Style.Margin.a2.Kind,.int .i64 Style.Margin.a2.Value,.int .i64 Style.Margin.a3.Kind,.int .i64 Style.Margin.a3.Value,.int .i64 Style.Padding.a0.Kind,.int .i64 Style.Padding.a0.Value,.int .i64 Style.Padding.a1.Kind,.int .i64 Style.Padding.a1.Value,.int .i64 Style.Padding.a2.Kind,.int .i64 Style.Padding.a2.Value,.int .i64 Style.Padding.a3.Kind,.int .i64 Style.Padding.a3.Value,.int .i64 Style.Border.a0,.int .i64 Style.Border.a1,.int .i64 Style.Border.a2,.int .i64 Style.Border.a3,.str Style.BorderColor,.str Style.Color,.str Style.Background,.int .i64 Style.FontSize,.int .i64 Style.LineHeight,.int .i64 Style.TextAlign,.int .i64 Style.WhiteSpace,.int .i64 Style.VAlign,.int .i64 Style.Direction,.bool Style.Wrap,.int .i64 Style.Grow,.int .i64 Style.Shrink,.int .i64 Style.Basis.Kind,.int .i64 Style.Basis.Value,.int .i64 Style.Order,.int .i64 Style.Z,.bool Style.ZAuto,.int .i64 Style.Overflow,.int .i64 Style.Visibility,.int .i64 Before.Pos,.int .i64 Before.Neg,.int .i64 After.Pos,.int .i64 After.Neg,.bool Empty,.sl (ot Kids)]
def ot:List af→List (List AV)
 | []=>[]
 | x::r=>aB x::ot r
end
theorem AG:∀l:List af,ot l=l.map aB
 | []=>by simp[ot]
 | x::r=>by simp[ot,AG r]
def aK(x:af):List AV:=[.int .i64 x.Kind,.int .i64 x.Node,.int .i64 x.X,.int .i64 x.Y,.int .i64 x.W,.int .i64 x.H,.int .i64 x.az,.str x.Text,.int .i64 x.Style.Display,.int .i64 x.Style.Position,.int .i64 x.Style.Left.Kind,.int .i64 x.Style.Left.Value,.int .i64 x.Style.Top.Kind,.int .i64 x.Style.Top.Value,.int .i64 x.Style.Width.Kind,.int .i64 x.Style.Width.Value,.int .i64 x.Style.Height.Kind,.int .i64 x.Style.Height.Value,.int .i64 x.Style.MinWidth.Kind,.int .i64 x.Style.MinWidth.Value,.int .i64 x.Style.MaxWidth.Kind,.int .i64 x.Style.MaxWidth.Value,.int .i64 x.Style.Margin.a0.Kind,.int .i64 x.Style.Margin.a0.Value,.int .i64 x.Style.Margin.a1.Kind,.int .i64 x.Style.Margin.a1.Value,.int .i64 x.Style.Margin.a2.Kind,.int .i64 x.Style.Margin.a2.Value,.int .i64 x.Style.Margin.a3.Kind,.int .i64 x.Style.Margin.a3.Value,.int .i64 x.Style.Padding.a0.Kind,.int .i64 x.Style.Padding.a0.Value,.int .i64 x.Style.Padding.a1.Kind,.int .i64 x.Style.Padding.a1.Value,.int .i64 x.Style.Padding.a2.Kind,.int .i64 x.Style.Padding.a2.Value,.int .i64 x.Style.Padding.a3.Kind,.int .i64 x.Style.Padding.a3.Value,.int .i64 x.Style.Border.a0,.int .i64 x.Style.Border.a1,.int .i64 x.Style.Border.a2,.int .i64 x.Style.Border.a3,.str x.Style.BorderColor,.str x.Style.Color,.str x.Style.Background,.int .i64 x.Style.FontSize,.int .i64 x.Style.LineHeight,.int .i64 x.Style.TextAlign,.int .i64 x.Style.WhiteSpace,.int .i64 x.Style.VAlign,.int .i64 x.Style.Direction,.bool x.Style.Wrap,.int .i64 x.Style.Grow,.int .i64 x.Style.Shrink,.int .i64 x.Style.Basis.Kind,.int .i64 x.Style.Basis.Value,.int .i64 x.Style.Order,.int .i64 x.Style.Z,.bool x.Style.ZAuto,.int .i64 x.Style.Overflow,.int .i64 x.Style.Visibility,.int .i64 x.Before.Pos,.int .i64 x.Before.Neg,.int .i64 x.After.Pos,.int .i64 x.After.Neg,.bool x.Empty,.sl (List.map aB x.Kids)]
theorem cT(x:af):aB x=aK x:=by
 cases x;simp only[aB,aK,AG]
theorem eY(x:af):(aB x).length=67:=by rw[cT];rfl
structure aq where
 Node:Int
 Text:ByteArray
 Style:aF
 Width:Int
 Space:Int
 Above:Int
 Below:Int
 Glued:Bool
 Forced:Bool
 Box:(List af)
def cm:aq:=⟨0,⟨#[]⟩,⟨0,0,⟨0,0⟩,⟨0,0⟩,⟨0,0⟩,⟨0,0⟩,⟨0,0⟩,⟨0,0⟩,⟨⟨0,0⟩,⟨0,0⟩,⟨0,0⟩,⟨0,0⟩⟩,⟨⟨0,0⟩,⟨0,0⟩,⟨0,0⟩,⟨0,0⟩⟩,⟨0,0,0,0⟩,⟨#[]⟩,⟨#[]⟩,⟨#[]⟩,0,0,0,0,0,0,false,0,0,⟨0,0⟩,0,0,false,0,0⟩,0,0,0,0,false,false,[]⟩
instance:Inhabited aq:=⟨cm⟩
def ay(x:aq):List AV:=[.int .i64 x.Node,.str x.Text,.int .i64 x.Style.Display,.int .i64 x.Style.Position,.int .i64 x.Style.Left.Kind,.int .i64 x.Style.Left.Value,.int .i64 x.Style.Top.Kind,.int .i64 x.Style.Top.Value,.int .i64 x.Style.Width.Kind,.int .i64 x.Style.Width.Value,.int .i64 x.Style.Height.Kind,.int .i64 x.Style.Height.Value,.int .i64 x.Style.MinWidth.Kind,.int .i64 x.Style.MinWidth.Value,.int .i64 x.Style.MaxWidth.Kind,.int .i64 x.Style.MaxWidth.Value,.int .i64 x.Style.Margin.a0.Kind,.int .i64 x.Style.Margin.a0.Value,.int .i64 x.Style.Margin.a1.Kind,.int .i64 x.Style.Margin.a1.Value,.int .i64 x.Style.Margin.a2.Kind,.int .i64 x.Style.Margin.a2.Value,.int .i64 x.Style.Margin.a3.Kind,.int .i64 x.Style.Margin.a3.Value,.int .i64 x.Style.Padding.a0.Kind,.int .i64 x.Style.Padding.a0.Value,.int .i64 x.Style.Padding.a1.Kind,.int .i64 x.Style.Padding.a1.Value,.int .i64 x.Style.Padding.a2.Kind,.int .i64 x.Style.Padding.a2.Value,.int .i64 x.Style.Padding.a3.Kind,.int .i64 x.Style.Padding.a3.Value,.int .i64 x.Style.Border.a0,.int .i64 x.Style.Border.a1,.int .i64 x.Style.Border.a2,.int .i64 x.Style.Border.a3,.str x.Style.BorderColor,.str x.Style.Color,.str x.Style.Background,.int .i64 x.Style.FontSize,.int .i64 x.Style.LineHeight,.int .i64 x.Style.TextAlign,.int .i64 x.Style.WhiteSpace,.int .i64 x.Style.VAlign,.int .i64 x.Style.Direction,.bool x.Style.Wrap,.int .i64 x.Style.Grow,.int .i64 x.Style.Shrink,.int .i64 x.Style.Basis.Kind,.int .i64 x.Style.Basis.Value,.int .i64 x.Style.Order,.int .i64 x.Style.Z,.bool x.Style.ZAuto,.int .i64 x.Style.Overflow,.int .i64 x.Style.Visibility,.int .i64 x.Width,.int .i64 x.Space,.int .i64 x.Above,.int .i64 x.Below,.bool x.Glued,.bool x.Forced,.sl (List.map aB x.Box)]
theorem dj(x:aq):(ay x).length=62:=rfl
structure ai where
 Kind:Int
 Node:Int
 Style:aF
 Text:ByteArray
 Rows:Int
 Cols:Int
 Kids:(List ai)
def dX:ai:=⟨0,0,⟨0,0,⟨0,0⟩,⟨0,0⟩,⟨0,0⟩,⟨0,0⟩,⟨0,0⟩,⟨0,0⟩,⟨⟨0,0⟩,⟨0,0⟩,⟨0,0⟩,⟨0,0⟩⟩,⟨⟨0,0⟩,⟨0,0⟩,⟨0,0⟩,⟨0,0⟩⟩,⟨0,0,0,0⟩,⟨#[]⟩,⟨#[]⟩,⟨#[]⟩,0,0,0,0,0,0,false,0,0,⟨0,0⟩,0,0,false,0,0⟩,⟨#[]⟩,0,0,[]⟩
instance:Inhabited ai:=⟨dX⟩
mutual
def aP:ai→List AV
 | ⟨Kind,Node,Style,Text,Rows,Cols,Kids⟩=>[.int .i64 Kind,.int .i64 Node,.int .i64 Style.Display,.int .i64 Style.Position,.int .i64 Style.Left.Kind,.int .i64 Style.Left.Value,.int .i64 Style.Top.Kind,.int .i64 Style.Top.Value,.int .i64 Style.Width.Kind,.int .i64 Style.Width.Value,.int .i64 Style.Height.Kind,.int .i64 Style.Height.Value,.int .i64 Style.MinWidth.Kind,.int .i64 Style.MinWidth.Value,.int .i64 Style.MaxWidth.Kind,.int .i64 Style.MaxWidth.Value,.int .i64 Style.Margin.a0.Kind,.int .i64 Style.Margin.a0.Value,.int .i64 Style.Margin.a1.Kind,.int .i64 Style.Margin.a1.Value,.int .i64 Style.Margin.a2.Kind,.int .i64 Style.Margin.a2.Value,.int .i64 Style.Margin.a3.Kind,.int .i64 Style.Margin.a3.Value,.int .i64 Style.Padding.a0.Kind,.int .i64 Style.Padding.a0.Value,.int .i64 Style.Padding.a1.Kind,.int .i64 Style.Padding.a1.Value,.int .i64 Style.Padding.a2.Kind,.int .i64 Style.Padding.a2.Value,.int .i64 Style.Padding.a3.Kind,.int .i64 Style.Padding.a3.Value,.int .i64 Style.Border.a0,.int .i64 Style.Border.a1,.int .i64 Style.Border.a2,.int .i64 Style.Border.a3,.str Style.BorderColor,.str Style.Color,.str Style.Background,.int .i64 Style.FontSize,.int .i64 Style.LineHeight,.int .i64 Style.TextAlign,.int .i64 Style.WhiteSpace,.int .i64 Style.VAlign,.int .i64 Style.Direction,.bool Style.Wrap,.int .i64 Style.Grow,.int .i64 Style.Shrink,.int .i64 Style.Basis.Kind,.int .i64 Style.Basis.Value,.int .i64 Style.Order,.int .i64 Style.Z,.bool Style.ZAuto,.int .i64 Style.Overflow,.int .i64 Style.Visibility,.str Text,.int .i64 Rows,.int .i64 Cols,.sl (l4 Kids)]
def l4:List ai→List (List AV)
 | []=>[]
 | x::r=>aP x::l4 r
end
theorem xy:∀l:List ai,l4 l=l.map aP
 | []=>by simp[l4]
 | x::r=>by simp[l4,xy r]
def aV(x:ai):List AV:=[.int .i64 x.Kind,.int .i64 x.Node,.int .i64 x.Style.Display,.int .i64 x.Style.Position,.int .i64 x.Style.Left.Kind,.int .i64 x.Style.Left.Value,.int .i64 x.Style.Top.Kind,.int .i64 x.Style.Top.Value,.int .i64 x.Style.Width.Kind,.int .i64 x.Style.Width.Value,.int .i64 x.Style.Height.Kind,.int .i64 x.Style.Height.Value,.int .i64 x.Style.MinWidth.Kind,.int .i64 x.Style.MinWidth.Value,.int .i64 x.Style.MaxWidth.Kind,.int .i64 x.Style.MaxWidth.Value,.int .i64 x.Style.Margin.a0.Kind,.int .i64 x.Style.Margin.a0.Value,.int .i64 x.Style.Margin.a1.Kind,.int .i64 x.Style.Margin.a1.Value,.int .i64 x.Style.Margin.a2.Kind,.int .i64 x.Style.Margin.a2.Value,.int .i64 x.Style.Margin.a3.Kind,.int .i64 x.Style.Margin.a3.Value,.int .i64 x.Style.Padding.a0.Kind,.int .i64 x.Style.Padding.a0.Value,.int .i64 x.Style.Padding.a1.Kind,.int .i64 x.Style.Padding.a1.Value,.int .i64 x.Style.Padding.a2.Kind,.int .i64 x.Style.Padding.a2.Value,.int .i64 x.Style.Padding.a3.Kind,.int .i64 x.Style.Padding.a3.Value,.int .i64 x.Style.Border.a0,.int .i64 x.Style.Border.a1,.int .i64 x.Style.Border.a2,.int .i64 x.Style.Border.a3,.str x.Style.BorderColor,.str x.Style.Color,.str x.Style.Background,.int .i64 x.Style.FontSize,.int .i64 x.Style.LineHeight,.int .i64 x.Style.TextAlign,.int .i64 x.Style.WhiteSpace,.int .i64 x.Style.VAlign,.int .i64 x.Style.Direction,.bool x.Style.Wrap,.int .i64 x.Style.Grow,.int .i64 x.Style.Shrink,.int .i64 x.Style.Basis.Kind,.int .i64 x.Style.Basis.Value,.int .i64 x.Style.Order,.int .i64 x.Style.Z,.bool x.Style.ZAuto,.int .i64 x.Style.Overflow,.int .i64 x.Style.Visibility,.str x.Text,.int .i64 x.Rows,.int .i64 x.Cols,.sl (List.map aP x.Kids)]
theorem dM(x:ai):aP x=aV x:=by
 cases x;simp only[aP,aV,xy]
theorem ey(x:ai):(aP x).length=59:=by rw[dM];rfl
structure bn where
 Margin:(V4 Int)
 Border:(V4 Int)
 Padding:(V4 Int)
 Content:Int
def eD:bn:=⟨⟨0,0,0,0⟩,⟨0,0,0,0⟩,⟨0,0,0,0⟩,0⟩
instance:Inhabited bn:=⟨eD⟩
def bq(x:bn):List AV:=[.int .i64 x.Margin.a0,.int .i64 x.Margin.a1,.int .i64 x.Margin.a2,.int .i64 x.Margin.a3,.int .i64 x.Border.a0,.int .i64 x.Border.a1,.int .i64 x.Border.a2,.int .i64 x.Border.a3,.int .i64 x.Padding.a0,.int .i64 x.Padding.a1,.int .i64 x.Padding.a2,.int .i64 x.Padding.a3,.int .i64 x.Content]
structure ao where
 Kind:Int
 Of:Int
 Char:Int
 Soft:Bool
 Box:ai
def BS:ao:=⟨0,0,0,false,dX⟩
instance:Inhabited ao:=⟨BS⟩
def av(x:ao):List AV:=[.int .i64 x.Kind,.int .i64 x.Of,.int .i32 x.Char,.bool x.Soft,.cptr (aV x.Box)]
theorem cN(x:ao):(av x).length=5:=rfl
inductive Fv where
 | fn (id:Nat)
 | c42 (a0:Int) (a1_0:Fv) (a1_1:Fv) (a1_2:Fv) (a1_3:Fv)
instance:Inhabited Fv:=⟨.fn 0⟩
def Fv.id:Fv→Nat
 | .fn i=>i
 | .c42 _ _ _ _ _=>42
def Fv.aM:Fv→List AV
 | .fn _=>[]
 | .c42 a0 a1_0 a1_1 a1_2 a1_3=>[.cptr [.int .i64 a0],.cptr [.fn a1_0.id a1_0.aM,.fn a1_1.id a1_1.aM,.fn a1_2.id a1_2.aM,.fn a1_3.id a1_3.aM]]
structure bW where
 Layout:Fv
 Widths:Fv
 Lines:Fv
 Spread:Fv
def FE:bW:=⟨(Fv.fn 0),(Fv.fn 0),(Fv.fn 0),(Fv.fn 0)⟩
instance:Inhabited bW:=⟨FE⟩
def cg(x:bW):List AV:=[.fn x.Layout.id x.Layout.aM,.fn x.Widths.id x.Widths.aM,.fn x.Lines.id x.Lines.aM,.fn x.Spread.id x.Spread.aM]
structure Kn where
 qE:(List bG)→Int→Int→Option ((List ai)×Int)
 o9:(List ai)→Int→(List ao)→Option (Int×(List ao))
 lY:Fv→(List ai)→aF→Int→Option ((List af)×Int)
 qL:Fv→(List ai)→aF→Option (Int×Int)
 oH:Fv→ai→Int→Option af
 nD:Fv→ai→Option Bool
 o8:Fv→ai→Option (Int×Int)
 jL:Fv→ai→Option aq
end Go.Proofs.Ytnpmlepplfaijaa

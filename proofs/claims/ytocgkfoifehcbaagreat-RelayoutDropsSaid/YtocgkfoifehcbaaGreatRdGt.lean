/- Types of layer 22z's program as Lean types, with their cells. Made by a program. -/
import Derived.Test.YtocgkfoifehcbaaGreatRdDp
import Derived.Test.YtocgkfoifehcbaaGreatRdCe
namespace Go.Proofs.YtocgkfoifehcbaaGreat
open Go.RowKit
set_option maxRecDepth 20000
set_option linter.all false
structure cB where
 Kind:Int
 Value:Int
def ci:cB:=⟨0,0⟩
instance:Inhabited cB:=⟨ci⟩
def fF(x y:cB):Bool:=((x.Kind == y.Kind)&&((x.Value == y.Value)&&true))
def fW(x:cB):c6:=[.int .i64 x.Kind,.int .i64 x.Value]
structure aN where
 Display:Int
 Position:Int
 Left:cB
 Top:cB
 Width:cB
 Height:cB
 MinWidth:cB
 MaxWidth:cB
 Margin:(V4 cB)
 Padding:(V4 cB)
 Border:(V4 Int)
 BorderColor:ByteArray
 Color:ByteArray
 Background:ByteArray
 FontSize:Int
 LineHeight:Int
 TextAlign:Int
 WhiteSpace:Int
 VAlign:Int
 Direction:Int
 Wrap:Bool
 Grow:Int
 Shrink:Int
 Basis:cB
 Order:Int
 Z:Int
 ZAuto:Bool
 Overflow:Int
 Visibility:Int
def cw:aN:=⟨0,0,⟨0,0⟩,⟨0,0⟩,⟨0,0⟩,⟨0,0⟩,⟨0,0⟩,⟨0,0⟩,⟨⟨0,0⟩,⟨0,0⟩,⟨0,0⟩,⟨0,0⟩⟩,⟨⟨0,0⟩,⟨0,0⟩,⟨0,0⟩,⟨0,0⟩⟩,⟨0,0,0,0⟩,⟨#[]⟩,⟨#[]⟩,⟨#[]⟩,0,0,0,0,0,0,false,0,0,⟨0,0⟩,0,0,false,0,0⟩
instance:Inhabited aN:=⟨cw⟩
def lO(x y:aN):Bool:=((x.Display == y.Display)&&((x.Position == y.Position)&&((fF x.Left y.Left)&&((fF x.Top y.Top)&&((fF x.Width y.Width)&&((fF x.Height y.Height)&&((fF x.MinWidth y.MinWidth)&&((fF x.MaxWidth y.MaxWidth)&&(((fF x.Margin.a0 y.Margin.a0)&&((fF x.Margin.a1 y.Margin.a1)&&((fF x.Margin.a2 y.Margin.a2)&&((fF x.Margin.a3 y.Margin.a3)&&true))))&&(((fF x.Padding.a0 y.Padding.a0)&&((fF x.Padding.a1 y.Padding.a1)&&((fF x.Padding.a2 y.Padding.a2)&&((fF x.Padding.a3 y.Padding.a3)&&true))))&&(((x.Border.a0 == y.Border.a0)&&((x.Border.a1 == y.Border.a1)&&((x.Border.a2 == y.Border.a2)&&((x.Border.a3 == y.Border.a3)&&true))))&&((x.BorderColor.toList == y.BorderColor.toList)&&((x.Color.toList == y.Color.toList)&&((x.Background.toList == y.Background.toList)&&((x.FontSize == y.FontSize)&&((x.LineHeight == y.LineHeight)&&((x.TextAlign == y.TextAlign)&&((x.WhiteSpace == y.WhiteSpace)&&((x.VAlign == y.VAlign)&&((x.Direction == y.Direction)&&((x.Wrap == y.Wrap)&&((x.Grow == y.Grow)&&((x.Shrink == y.Shrink)&&((fF x.Basis y.Basis)&&((x.Order == y.Order)&&((x.Z == y.Z)&&((x.ZAuto == y.ZAuto)&&((x.Overflow == y.Overflow)&&((x.Visibility == y.Visibility)&&true)))))))))))))))))))))))))))))
def aH(x:aN):c6:=[.int .i64 x.Display,.int .i64 x.Position,.int .i64 x.Left.Kind,.int .i64 x.Left.Value,.int .i64 x.Top.Kind,.int .i64 x.Top.Value,.int .i64 x.Width.Kind,.int .i64 x.Width.Value,.int .i64 x.Height.Kind,.int .i64 x.Height.Value,.int .i64 x.MinWidth.Kind,.int .i64 x.MinWidth.Value,.int .i64 x.MaxWidth.Kind,.int .i64 x.MaxWidth.Value,.int .i64 x.Margin.a0.Kind,.int .i64 x.Margin.a0.Value,.int .i64 x.Margin.a1.Kind,.int .i64 x.Margin.a1.Value,.int .i64 x.Margin.a2.Kind,.int .i64 x.Margin.a2.Value,.int .i64 x.Margin.a3.Kind,.int .i64 x.Margin.a3.Value,.int .i64 x.Padding.a0.Kind,.int .i64 x.Padding.a0.Value,.int .i64 x.Padding.a1.Kind,.int .i64 x.Padding.a1.Value,.int .i64 x.Padding.a2.Kind,.int .i64 x.Padding.a2.Value,.int .i64 x.Padding.a3.Kind,.int .i64 x.Padding.a3.Value,.int .i64 x.Border.a0,.int .i64 x.Border.a1,.int .i64 x.Border.a2,.int .i64 x.Border.a3,.str x.BorderColor,.str x.Color,.str x.Background,.int .i64 x.FontSize,.int .i64 x.LineHeight,.int .i64 x.TextAlign,.int .i64 x.WhiteSpace,.int .i64 x.VAlign,.int .i64 x.Direction,.bool x.Wrap,.int .i64 x.Grow,.int .i64 x.Shrink,.int .i64 x.Basis.Kind,.int .i64 x.Basis.Value,.int .i64 x.Order,.int .i64 x.Z,.bool x.ZAuto,.int .i64 x.Overflow,.int .i64 x.Visibility]
structure ce where
 Depth:Int
 Kind:Int
 Text:ByteArray
 Rows:Int
 Cols:Int
 Style:aN
def W9:ce:=⟨0,0,⟨#[]⟩,0,0,⟨0,0,⟨0,0⟩,⟨0,0⟩,⟨0,0⟩,⟨0,0⟩,⟨0,0⟩,⟨0,0⟩,⟨⟨0,0⟩,⟨0,0⟩,⟨0,0⟩,⟨0,0⟩⟩,⟨⟨0,0⟩,⟨0,0⟩,⟨0,0⟩,⟨0,0⟩⟩,⟨0,0,0,0⟩,⟨#[]⟩,⟨#[]⟩,⟨#[]⟩,0,0,0,0,0,0,false,0,0,⟨0,0⟩,0,0,false,0,0⟩⟩
instance:Inhabited ce:=⟨W9⟩
def bp(x:ce):c6:=[.int .u8 x.Depth,.int .u8 x.Kind,.str x.Text,.int .u8 x.Rows,.int .u8 x.Cols,.int .i64 x.Style.Display,.int .i64 x.Style.Position,.int .i64 x.Style.Left.Kind,.int .i64 x.Style.Left.Value,.int .i64 x.Style.Top.Kind,.int .i64 x.Style.Top.Value,.int .i64 x.Style.Width.Kind,.int .i64 x.Style.Width.Value,.int .i64 x.Style.Height.Kind,.int .i64 x.Style.Height.Value,.int .i64 x.Style.MinWidth.Kind,.int .i64 x.Style.MinWidth.Value,.int .i64 x.Style.MaxWidth.Kind,.int .i64 x.Style.MaxWidth.Value,.int .i64 x.Style.Margin.a0.Kind,.int .i64 x.Style.Margin.a0.Value,.int .i64 x.Style.Margin.a1.Kind,.int .i64 x.Style.Margin.a1.Value,.int .i64 x.Style.Margin.a2.Kind,.int .i64 x.Style.Margin.a2.Value,.int .i64 x.Style.Margin.a3.Kind,.int .i64 x.Style.Margin.a3.Value,.int .i64 x.Style.Padding.a0.Kind,.int .i64 x.Style.Padding.a0.Value,.int .i64 x.Style.Padding.a1.Kind,.int .i64 x.Style.Padding.a1.Value,.int .i64 x.Style.Padding.a2.Kind,.int .i64 x.Style.Padding.a2.Value,.int .i64 x.Style.Padding.a3.Kind,.int .i64 x.Style.Padding.a3.Value,.int .i64 x.Style.Border.a0,.int .i64 x.Style.Border.a1,.int .i64 x.Style.Border.a2,.int .i64 x.Style.Border.a3,.str x.Style.BorderColor,.str x.Style.Color,.str x.Style.Background,.int .i64 x.Style.FontSize,.int .i64 x.Style.LineHeight,.int .i64 x.Style.TextAlign,.int .i64 x.Style.WhiteSpace,.int .i64 x.Style.VAlign,.int .i64 x.Style.Direction,.bool x.Style.Wrap,.int .i64 x.Style.Grow,.int .i64 x.Style.Shrink,.int .i64 x.Style.Basis.Kind,.int .i64 x.Style.Basis.Value,.int .i64 x.Style.Order,.int .i64 x.Style.Z,.bool x.Style.ZAuto,.int .i64 x.Style.Overflow,.int .i64 x.Style.Visibility]
theorem eK(x:ce):(bp x).length=58:=rfl
structure me where
 At:Int
 Kind:Int
 Spec:ce
def ajm:me:=⟨0,0,⟨0,0,⟨#[]⟩,0,0,⟨0,0,⟨0,0⟩,⟨0,0⟩,⟨0,0⟩,⟨0,0⟩,⟨0,0⟩,⟨0,0⟩,⟨⟨0,0⟩,⟨0,0⟩,⟨0,0⟩,⟨0,0⟩⟩,⟨⟨0,0⟩,⟨0,0⟩,⟨0,0⟩,⟨0,0⟩⟩,⟨0,0,0,0⟩,⟨#[]⟩,⟨#[]⟩,⟨#[]⟩,0,0,0,0,0,0,false,0,0,⟨0,0⟩,0,0,false,0,0⟩⟩⟩
instance:Inhabited me:=⟨ajm⟩
def mI(x:me):c6:=[.int .u8 x.At,.int .u8 x.Kind,.int .u8 x.Spec.Depth,.int .u8 x.Spec.Kind,.str x.Spec.Text,.int .u8 x.Spec.Rows,.int .u8 x.Spec.Cols,.int .i64 x.Spec.Style.Display,.int .i64 x.Spec.Style.Position,.int .i64 x.Spec.Style.Left.Kind,.int .i64 x.Spec.Style.Left.Value,.int .i64 x.Spec.Style.Top.Kind,.int .i64 x.Spec.Style.Top.Value,.int .i64 x.Spec.Style.Width.Kind,.int .i64 x.Spec.Style.Width.Value,.int .i64 x.Spec.Style.Height.Kind,.int .i64 x.Spec.Style.Height.Value,.int .i64 x.Spec.Style.MinWidth.Kind,.int .i64 x.Spec.Style.MinWidth.Value,.int .i64 x.Spec.Style.MaxWidth.Kind,.int .i64 x.Spec.Style.MaxWidth.Value,.int .i64 x.Spec.Style.Margin.a0.Kind,.int .i64 x.Spec.Style.Margin.a0.Value,.int .i64 x.Spec.Style.Margin.a1.Kind,.int .i64 x.Spec.Style.Margin.a1.Value,.int .i64 x.Spec.Style.Margin.a2.Kind,.int .i64 x.Spec.Style.Margin.a2.Value,.int .i64 x.Spec.Style.Margin.a3.Kind,.int .i64 x.Spec.Style.Margin.a3.Value,.int .i64 x.Spec.Style.Padding.a0.Kind,.int .i64 x.Spec.Style.Padding.a0.Value,.int .i64 x.Spec.Style.Padding.a1.Kind,.int .i64 x.Spec.Style.Padding.a1.Value,.int .i64 x.Spec.Style.Padding.a2.Kind,.int .i64 x.Spec.Style.Padding.a2.Value,.int .i64 x.Spec.Style.Padding.a3.Kind,.int .i64 x.Spec.Style.Padding.a3.Value,.int .i64 x.Spec.Style.Border.a0,.int .i64 x.Spec.Style.Border.a1,.int .i64 x.Spec.Style.Border.a2,.int .i64 x.Spec.Style.Border.a3,.str x.Spec.Style.BorderColor,.str x.Spec.Style.Color,.str x.Spec.Style.Background,.int .i64 x.Spec.Style.FontSize,.int .i64 x.Spec.Style.LineHeight,.int .i64 x.Spec.Style.TextAlign,.int .i64 x.Spec.Style.WhiteSpace,.int .i64 x.Spec.Style.VAlign,.int .i64 x.Spec.Style.Direction,.bool x.Spec.Style.Wrap,.int .i64 x.Spec.Style.Grow,.int .i64 x.Spec.Style.Shrink,.int .i64 x.Spec.Style.Basis.Kind,.int .i64 x.Spec.Style.Basis.Value,.int .i64 x.Spec.Style.Order,.int .i64 x.Spec.Style.Z,.bool x.Spec.Style.ZAuto,.int .i64 x.Spec.Style.Overflow,.int .i64 x.Spec.Style.Visibility]
theorem WT(x:me):(mI x).length=60:=rfl
structure ab where
 Kind:Int
 Node:Int
 Style:aN
 Text:ByteArray
 Rows:Int
 Cols:Int
 Kids:(List ab)
def c7:ab:=⟨0,0,⟨0,0,⟨0,0⟩,⟨0,0⟩,⟨0,0⟩,⟨0,0⟩,⟨0,0⟩,⟨0,0⟩,⟨⟨0,0⟩,⟨0,0⟩,⟨0,0⟩,⟨0,0⟩⟩,⟨⟨0,0⟩,⟨0,0⟩,⟨0,0⟩,⟨0,0⟩⟩,⟨0,0,0,0⟩,⟨#[]⟩,⟨#[]⟩,⟨#[]⟩,0,0,0,0,0,0,false,0,0,⟨0,0⟩,0,0,false,0,0⟩,⟨#[]⟩,0,0,[]⟩
instance:Inhabited ab:=⟨c7⟩
mutual
def aL:ab→c6
 | ⟨Kind,Node,Style,Text,Rows,a,Kids⟩=>[.int .i64 Kind,.int .i64 Node,.int .i64 Style.Display,.int .i64 Style.Position,.int .i64 Style.Left.Kind,.int .i64 Style.Left.Value,.int .i64 Style.Top.Kind,.int .i64 Style.Top.Value,.int .i64 Style.Width.Kind,.int .i64 Style.Width.Value,.int .i64 Style.Height.Kind,.int .i64 Style.Height.Value,.int .i64 Style.MinWidth.Kind,.int .i64 Style.MinWidth.Value,.int .i64 Style.MaxWidth.Kind,.int .i64 Style.MaxWidth.Value,.int .i64 Style.Margin.a0.Kind,.int .i64 Style.Margin.a0.Value,.int .i64 Style.Margin.a1.Kind,.int .i64 Style.Margin.a1.Value,.int .i64 Style.Margin.a2.Kind,.int .i64 Style.Margin.a2.Value,.int .i64 Style.Margin.a3.Kind,.int .i64 Style.Margin.a3.Value,.int .i64 Style.Padding.a0.Kind,.int .i64 Style.Padding.a0.Value,.int .i64 Style.Padding.a1.Kind,.int .i64 Style.Padding.a1.Value,.int .i64 Style.Padding.a2.Kind,.int .i64 Style.Padding.a2.Value,.int .i64 Style.Padding.a3.Kind,.int .i64 Style.Padding.a3.Value,.int .i64 Style.Border.a0,.int .i64 Style.Border.a1,.int .i64 Style.Border.a2,.int .i64 Style.Border.a3,.str Style.BorderColor,.str Style.Color,.str Style.Background,.int .i64 Style.FontSize,.int .i64 Style.LineHeight,.int .i64 Style.TextAlign,.int .i64 Style.WhiteSpace,.int .i64 Style.VAlign,.int .i64 Style.Direction,.bool Style.Wrap,.int .i64 Style.Grow,.int .i64 Style.Shrink,.int .i64 Style.Basis.Kind,.int .i64 Style.Basis.Value,.int .i64 Style.Order,.int .i64 Style.Z,.bool Style.ZAuto,.int .i64 Style.Overflow,.int .i64 Style.Visibility,.str Text,.int .i64 Rows,.int .i64 a,.sl (AE Kids)]
def AE:List ab→h6
 | []=>[]
 | x::r=>aL x::AE r
end
theorem VY:∀l:List ab,AE l=l.map aL
 | []=>by simp[AE]
 | x::r=>by simp[AE,VY r]
def aA(x:ab):c6:=[.int .i64 x.Kind,.int .i64 x.Node,.int .i64 x.Style.Display,.int .i64 x.Style.Position,.int .i64 x.Style.Left.Kind,.int .i64 x.Style.Left.Value,.int .i64 x.Style.Top.Kind,.int .i64 x.Style.Top.Value,.int .i64 x.Style.Width.Kind,.int .i64 x.Style.Width.Value,.int .i64 x.Style.Height.Kind,.int .i64 x.Style.Height.Value,.int .i64 x.Style.MinWidth.Kind,.int .i64 x.Style.MinWidth.Value,.int .i64 x.Style.MaxWidth.Kind,.int .i64 x.Style.MaxWidth.Value,.int .i64 x.Style.Margin.a0.Kind,.int .i64 x.Style.Margin.a0.Value,.int .i64 x.Style.Margin.a1.Kind,.int .i64 x.Style.Margin.a1.Value,.int .i64 x.Style.Margin.a2.Kind,.int .i64 x.Style.Margin.a2.Value,.int .i64 x.Style.Margin.a3.Kind,.int .i64 x.Style.Margin.a3.Value,.int .i64 x.Style.Padding.a0.Kind,.int .i64 x.Style.Padding.a0.Value,.int .i64 x.Style.Padding.a1.Kind,.int .i64 x.Style.Padding.a1.Value,.int .i64 x.Style.Padding.a2.Kind,.int .i64 x.Style.Padding.a2.Value,.int .i64 x.Style.Padding.a3.Kind,.int .i64 x.Style.Padding.a3.Value,.int .i64 x.Style.Border.a0,.int .i64 x.Style.Border.a1,.int .i64 x.Style.Border.a2,.int .i64 x.Style.Border.a3,.str x.Style.BorderColor,.str x.Style.Color,.str x.Style.Background,.int .i64 x.Style.FontSize,.int .i64 x.Style.LineHeight,.int .i64 x.Style.TextAlign,.int .i64 x.Style.WhiteSpace,.int .i64 x.Style.VAlign,.int .i64 x.Style.Direction,.bool x.Style.Wrap,.int .i64 x.Style.Grow,.int .i64 x.Style.Shrink,.int .i64 x.Style.Basis.Kind,.int .i64 x.Style.Basis.Value,.int .i64 x.Style.Order,.int .i64 x.Style.Z,.bool x.Style.ZAuto,.int .i64 x.Style.Overflow,.int .i64 x.Style.Visibility,.str x.Text,.int .i64 x.Rows,.int .i64 x.Cols,.sl (List.map aL x.Kids)]
theorem dW(x:ab):aL x=aA x:=by
 cases x;simp only[aL,aA,VY]
theorem fV(x:ab):(aL x).length=59:=by rw[dW];rfl
structure bc where
 Pos:Int
 Neg:Int
def dB:bc:=⟨0,0⟩
instance:Inhabited bc:=⟨dB⟩
def Eg(x y:bc):Bool:=((x.Pos == y.Pos)&&((x.Neg == y.Neg)&&true))
def cS(x:bc):c6:=[.int .i64 x.Pos,.int .i64 x.Neg]
structure ae where
 Kind:Int
 Node:Int
 X:Int
 Y:Int
 W:Int
 H:Int
 aB:Int
 Text:ByteArray
 Style:aN
 Before:bc
 After:bc
 Empty:Bool
 Kids:(List ae)
def bT:ae:=⟨0,0,0,0,0,0,0,⟨#[]⟩,⟨0,0,⟨0,0⟩,⟨0,0⟩,⟨0,0⟩,⟨0,0⟩,⟨0,0⟩,⟨0,0⟩,⟨⟨0,0⟩,⟨0,0⟩,⟨0,0⟩,⟨0,0⟩⟩,⟨⟨0,0⟩,⟨0,0⟩,⟨0,0⟩,⟨0,0⟩⟩,⟨0,0,0,0⟩,⟨#[]⟩,⟨#[]⟩,⟨#[]⟩,0,0,0,0,0,0,false,0,0,⟨0,0⟩,0,0,false,0,0⟩,⟨0,0⟩,⟨0,0⟩,false,[]⟩
instance:Inhabited ae:=⟨bT⟩
mutual
def aM:ae→c6
 | ⟨Kind,Node,X,Y,W,H,aB,Text,Style,Before,After,Empty,Kids⟩=>[.int .i64 Kind,.int .i64 Node,.int .i64 X,.int .i64 Y,.int .i64 W,.int .i64 H,.int .i64 aB,.str Text,.int .i64 Style.Display,.int .i64 Style.Position,.int .i64 Style.Left.Kind,.int .i64 Style.Left.Value,.int .i64 Style.Top.Kind,.int .i64 Style.Top.Value,.int .i64 Style.Width.Kind,.int .i64 Style.Width.Value,.int .i64 Style.Height.Kind,.int .i64 Style.Height.Value,.int .i64 Style.MinWidth.Kind,.int .i64 Style.MinWidth.Value,.int .i64 Style.MaxWidth.Kind,.int .i64 Style.MaxWidth.Value,.int .i64 Style.Margin.a0.Kind,.int .i64 Style.Margin.a0.Value,.int .i64 Style.Margin.a1.Kind,.int .i64 Style.Margin.a1.Value,.int .i64 Style.Margin.a2.Kind,.int .i64 Style.Margin.a2.Value,.int .i64 Style.Margin.a3.Kind,.int .i64 Style.Margin.a3.Value,.int .i64 Style.Padding.a0.Kind,.int .i64 Style.Padding.a0.Value,.int .i64 Style.Padding.a1.Kind,.int .i64 Style.Padding.a1.Value,.int .i64 Style.Padding.a2.Kind,.int .i64 Style.Padding.a2.Value,.int .i64 Style.Padding.a3.Kind,.int .i64 Style.Padding.a3.Value,.int .i64 Style.Border.a0,.int .i64 Style.Border.a1,.int .i64 Style.Border.a2,.int .i64 Style.Border.a3,.str Style.BorderColor,.str Style.Color,.str Style.Background,.int .i64 Style.FontSize,.int .i64 Style.LineHeight,.int .i64 Style.TextAlign,.int .i64 Style.WhiteSpace,.int .i64 Style.VAlign,.int .i64 Style.Direction,.bool Style.Wrap,.int .i64 Style.Grow,.int .i64 Style.Shrink,.int .i64 Style.Basis.Kind,.int .i64 Style.Basis.Value,.int .i64 Style.Order,.int .i64 Style.Z,.bool Style.ZAuto,.int .i64 Style.Overflow,.int .i64 Style.Visibility,.int .i64 Before.Pos,.int .i64 Before.Neg,.int .i64 After.Pos,.int .i64 After.Neg,.bool Empty,.sl (Af Kids)]
def Af:List ae→h6
 | []=>[]
 | x::r=>aM x::Af r
end
theorem Vh:∀l:List ae,Af l=l.map aM
 | []=>by simp[Af]
 | x::r=>by simp[Af,Vh r]
def aG(x:ae):c6:=[.int .i64 x.Kind,.int .i64 x.Node,.int .i64 x.X,.int .i64 x.Y,.int .i64 x.W,.int .i64 x.H,.int .i64 x.aB,.str x.Text,.int .i64 x.Style.Display,.int .i64 x.Style.Position,.int .i64 x.Style.Left.Kind,.int .i64 x.Style.Left.Value,.int .i64 x.Style.Top.Kind,.int .i64 x.Style.Top.Value,.int .i64 x.Style.Width.Kind,.int .i64 x.Style.Width.Value,.int .i64 x.Style.Height.Kind,.int .i64 x.Style.Height.Value,.int .i64 x.Style.MinWidth.Kind,.int .i64 x.Style.MinWidth.Value,.int .i64 x.Style.MaxWidth.Kind,.int .i64 x.Style.MaxWidth.Value,.int .i64 x.Style.Margin.a0.Kind,.int .i64 x.Style.Margin.a0.Value,.int .i64 x.Style.Margin.a1.Kind,.int .i64 x.Style.Margin.a1.Value,.int .i64 x.Style.Margin.a2.Kind,.int .i64 x.Style.Margin.a2.Value,.int .i64 x.Style.Margin.a3.Kind,.int .i64 x.Style.Margin.a3.Value,.int .i64 x.Style.Padding.a0.Kind,.int .i64 x.Style.Padding.a0.Value,.int .i64 x.Style.Padding.a1.Kind,.int .i64 x.Style.Padding.a1.Value,.int .i64 x.Style.Padding.a2.Kind,.int .i64 x.Style.Padding.a2.Value,.int .i64 x.Style.Padding.a3.Kind,.int .i64 x.Style.Padding.a3.Value,.int .i64 x.Style.Border.a0,.int .i64 x.Style.Border.a1,.int .i64 x.Style.Border.a2,.int .i64 x.Style.Border.a3,.str x.Style.BorderColor,.str x.Style.Color,.str x.Style.Background,.int .i64 x.Style.FontSize,.int .i64 x.Style.LineHeight,.int .i64 x.Style.TextAlign,.int .i64 x.Style.WhiteSpace,.int .i64 x.Style.VAlign,.int .i64 x.Style.Direction,.bool x.Style.Wrap,.int .i64 x.Style.Grow,.int .i64 x.Style.Shrink,.int .i64 x.Style.Basis.Kind,.int .i64 x.Style.Basis.Value,.int .i64 x.Style.Order,.int .i64 x.Style.Z,.bool x.Style.ZAuto,.int .i64 x.Style.Overflow,.int .i64 x.Style.Visibility,.int .i64 x.Before.Pos,.int .i64 x.Before.Neg,.int .i64 x.After.Pos,.int .i64 x.After.Neg,.bool x.Empty,.sl (List.map aM x.Kids)]
theorem dH(x:ae):aM x=aG x:=by
 cases x;simp only[aM,aG,Vh]
theorem ku(x:ae):(aM x).length=67:=by rw[dH];rfl
structure aw where
 Box:ab
 Width:Int
 Fragment:ae
def Am:aw:=⟨⟨0,0,⟨0,0,⟨0,0⟩,⟨0,0⟩,⟨0,0⟩,⟨0,0⟩,⟨0,0⟩,⟨0,0⟩,⟨⟨0,0⟩,⟨0,0⟩,⟨0,0⟩,⟨0,0⟩⟩,⟨⟨0,0⟩,⟨0,0⟩,⟨0,0⟩,⟨0,0⟩⟩,⟨0,0,0,0⟩,⟨#[]⟩,⟨#[]⟩,⟨#[]⟩,0,0,0,0,0,0,false,0,0,⟨0,0⟩,0,0,false,0,0⟩,⟨#[]⟩,0,0,[]⟩,0,⟨0,0,0,0,0,0,0,⟨#[]⟩,⟨0,0,⟨0,0⟩,⟨0,0⟩,⟨0,0⟩,⟨0,0⟩,⟨0,0⟩,⟨0,0⟩,⟨⟨0,0⟩,⟨0,0⟩,⟨0,0⟩,⟨0,0⟩⟩,⟨⟨0,0⟩,⟨0,0⟩,⟨0,0⟩,⟨0,0⟩⟩,⟨0,0,0,0⟩,⟨#[]⟩,⟨#[]⟩,⟨#[]⟩,0,0,0,0,0,0,false,0,0,⟨0,0⟩,0,0,false,0,0⟩,⟨0,0⟩,⟨0,0⟩,false,[]⟩⟩
instance:Inhabited aw:=⟨Am⟩
def aK(x:aw):c6:=[.int .i64 x.Box.Kind,.int .i64 x.Box.Node,.int .i64 x.Box.Style.Display,.int .i64 x.Box.Style.Position,.int .i64 x.Box.Style.Left.Kind,.int .i64 x.Box.Style.Left.Value,.int .i64 x.Box.Style.Top.Kind,.int .i64 x.Box.Style.Top.Value,.int .i64 x.Box.Style.Width.Kind,.int .i64 x.Box.Style.Width.Value,.int .i64 x.Box.Style.Height.Kind,.int .i64 x.Box.Style.Height.Value,.int .i64 x.Box.Style.MinWidth.Kind,.int .i64 x.Box.Style.MinWidth.Value,.int .i64 x.Box.Style.MaxWidth.Kind,.int .i64 x.Box.Style.MaxWidth.Value,.int .i64 x.Box.Style.Margin.a0.Kind,.int .i64 x.Box.Style.Margin.a0.Value,.int .i64 x.Box.Style.Margin.a1.Kind,.int .i64 x.Box.Style.Margin.a1.Value,.int .i64 x.Box.Style.Margin.a2.Kind,.int .i64 x.Box.Style.Margin.a2.Value,.int .i64 x.Box.Style.Margin.a3.Kind,.int .i64 x.Box.Style.Margin.a3.Value,.int .i64 x.Box.Style.Padding.a0.Kind,.int .i64 x.Box.Style.Padding.a0.Value,.int .i64 x.Box.Style.Padding.a1.Kind,.int .i64 x.Box.Style.Padding.a1.Value,.int .i64 x.Box.Style.Padding.a2.Kind,.int .i64 x.Box.Style.Padding.a2.Value,.int .i64 x.Box.Style.Padding.a3.Kind,.int .i64 x.Box.Style.Padding.a3.Value,.int .i64 x.Box.Style.Border.a0,.int .i64 x.Box.Style.Border.a1,.int .i64 x.Box.Style.Border.a2,.int .i64 x.Box.Style.Border.a3,.str x.Box.Style.BorderColor,.str x.Box.Style.Color,.str x.Box.Style.Background,.int .i64 x.Box.Style.FontSize,.int .i64 x.Box.Style.LineHeight,.int .i64 x.Box.Style.TextAlign,.int .i64 x.Box.Style.WhiteSpace,.int .i64 x.Box.Style.VAlign,.int .i64 x.Box.Style.Direction,.bool x.Box.Style.Wrap,.int .i64 x.Box.Style.Grow,.int .i64 x.Box.Style.Shrink,.int .i64 x.Box.Style.Basis.Kind,.int .i64 x.Box.Style.Basis.Value,.int .i64 x.Box.Style.Order,.int .i64 x.Box.Style.Z,.bool x.Box.Style.ZAuto,.int .i64 x.Box.Style.Overflow,.int .i64 x.Box.Style.Visibility,.str x.Box.Text,.int .i64 x.Box.Rows,.int .i64 x.Box.Cols,.sl (List.map aL x.Box.Kids),.int .i64 x.Width,.int .i64 x.Fragment.Kind,.int .i64 x.Fragment.Node,.int .i64 x.Fragment.X,.int .i64 x.Fragment.Y,.int .i64 x.Fragment.W,.int .i64 x.Fragment.H,.int .i64 x.Fragment.aB,.str x.Fragment.Text,.int .i64 x.Fragment.Style.Display,.int .i64 x.Fragment.Style.Position,.int .i64 x.Fragment.Style.Left.Kind,.int .i64 x.Fragment.Style.Left.Value,.int .i64 x.Fragment.Style.Top.Kind,.int .i64 x.Fragment.Style.Top.Value,.int .i64 x.Fragment.Style.Width.Kind,.int .i64 x.Fragment.Style.Width.Value,.int .i64 x.Fragment.Style.Height.Kind,.int .i64 x.Fragment.Style.Height.Value,.int .i64 x.Fragment.Style.MinWidth.Kind,.int .i64 x.Fragment.Style.MinWidth.Value,.int .i64 x.Fragment.Style.MaxWidth.Kind,.int .i64 x.Fragment.Style.MaxWidth.Value,.int .i64 x.Fragment.Style.Margin.a0.Kind,.int .i64 x.Fragment.Style.Margin.a0.Value,.int .i64 x.Fragment.Style.Margin.a1.Kind,.int .i64 x.Fragment.Style.Margin.a1.Value,.int .i64 x.Fragment.Style.Margin.a2.Kind,.int .i64 x.Fragment.Style.Margin.a2.Value,.int .i64 x.Fragment.Style.Margin.a3.Kind,.int .i64 x.Fragment.Style.Margin.a3.Value,.int .i64 x.Fragment.Style.Padding.a0.Kind,.int .i64 x.Fragment.Style.Padding.a0.Value,.int .i64 x.Fragment.Style.Padding.a1.Kind,.int .i64 x.Fragment.Style.Padding.a1.Value,.int .i64 x.Fragment.Style.Padding.a2.Kind,.int .i64 x.Fragment.Style.Padding.a2.Value,.int .i64 x.Fragment.Style.Padding.a3.Kind,.int .i64 x.Fragment.Style.Padding.a3.Value,.int .i64 x.Fragment.Style.Border.a0,.int .i64 x.Fragment.Style.Border.a1,.int .i64 x.Fragment.Style.Border.a2,.int .i64 x.Fragment.Style.Border.a3,.str x.Fragment.Style.BorderColor,.str x.Fragment.Style.Color,.str x.Fragment.Style.Background,.int .i64 x.Fragment.Style.FontSize,.int .i64 x.Fragment.Style.LineHeight,.int .i64 x.Fragment.Style.TextAlign,.int .i64 x.Fragment.Style.WhiteSpace,.int .i64 x.Fragment.Style.VAlign,.int .i64 x.Fragment.Style.Direction,.bool x.Fragment.Style.Wrap,.int .i64 x.Fragment.Style.Grow,.int .i64 x.Fragment.Style.Shrink,.int .i64 x.Fragment.Style.Basis.Kind,.int .i64 x.Fragment.Style.Basis.Value,.int .i64 x.Fragment.Style.Order,.int .i64 x.Fragment.Style.Z,.bool x.Fragment.Style.ZAuto,.int .i64 x.Fragment.Style.Overflow,.int .i64 x.Fragment.Style.Visibility,.int .i64 x.Fragment.Before.Pos,.int .i64 x.Fragment.Before.Neg,.int .i64 x.Fragment.After.Pos,.int .i64 x.Fragment.After.Neg,.bool x.Fragment.Empty,.sl (List.map aM x.Fragment.Kids)]
theorem Gs(x:aw):(aK x).length=127:=rfl
structure bm where
 List:(List aw)
 Fresh:Int
 Used:Int
def agz:bm:=⟨[],0,0⟩
instance:Inhabited bm:=⟨agz⟩
def bq(x:bm):c6:=[.sl (List.map aK x.List),.int .i64 x.Fresh,.int .i64 x.Used]
structure bW where
 Margin:(V4 Int)
 Border:(V4 Int)
 Padding:(V4 Int)
 Content:Int
def ki:bW:=⟨⟨0,0,0,0⟩,⟨0,0,0,0⟩,⟨0,0,0,0⟩,0⟩
instance:Inhabited bW:=⟨ki⟩
def ct(x:bW):c6:=[.int .i64 x.Margin.a0,.int .i64 x.Margin.a1,.int .i64 x.Margin.a2,.int .i64 x.Margin.a3,.int .i64 x.Border.a0,.int .i64 x.Border.a1,.int .i64 x.Border.a2,.int .i64 x.Border.a3,.int .i64 x.Padding.a0,.int .i64 x.Padding.a1,.int .i64 x.Padding.a2,.int .i64 x.Padding.a3,.int .i64 x.Content]
structure az where
 Node:Int
 Text:ByteArray
 Style:aN
 Width:Int
 Space:Int
 Above:Int
 Below:Int
 Glued:Bool
 Forced:Bool
 Box:(List ae)
def cR:az:=⟨0,⟨#[]⟩,⟨0,0,⟨0,0⟩,⟨0,0⟩,⟨0,0⟩,⟨0,0⟩,⟨0,0⟩,⟨0,0⟩,⟨⟨0,0⟩,⟨0,0⟩,⟨0,0⟩,⟨0,0⟩⟩,⟨⟨0,0⟩,⟨0,0⟩,⟨0,0⟩,⟨0,0⟩⟩,⟨0,0,0,0⟩,⟨#[]⟩,⟨#[]⟩,⟨#[]⟩,0,0,0,0,0,0,false,0,0,⟨0,0⟩,0,0,false,0,0⟩,0,0,0,0,false,false,[]⟩
instance:Inhabited az:=⟨cR⟩
def aW(x:az):c6:=[.int .i64 x.Node,.str x.Text,.int .i64 x.Style.Display,.int .i64 x.Style.Position,.int .i64 x.Style.Left.Kind,.int .i64 x.Style.Left.Value,.int .i64 x.Style.Top.Kind,.int .i64 x.Style.Top.Value,.int .i64 x.Style.Width.Kind,.int .i64 x.Style.Width.Value,.int .i64 x.Style.Height.Kind,.int .i64 x.Style.Height.Value,.int .i64 x.Style.MinWidth.Kind,.int .i64 x.Style.MinWidth.Value,.int .i64 x.Style.MaxWidth.Kind,.int .i64 x.Style.MaxWidth.Value,.int .i64 x.Style.Margin.a0.Kind,.int .i64 x.Style.Margin.a0.Value,.int .i64 x.Style.Margin.a1.Kind,.int .i64 x.Style.Margin.a1.Value,.int .i64 x.Style.Margin.a2.Kind,.int .i64 x.Style.Margin.a2.Value,.int .i64 x.Style.Margin.a3.Kind,.int .i64 x.Style.Margin.a3.Value,.int .i64 x.Style.Padding.a0.Kind,.int .i64 x.Style.Padding.a0.Value,.int .i64 x.Style.Padding.a1.Kind,.int .i64 x.Style.Padding.a1.Value,.int .i64 x.Style.Padding.a2.Kind,.int .i64 x.Style.Padding.a2.Value,.int .i64 x.Style.Padding.a3.Kind,.int .i64 x.Style.Padding.a3.Value,.int .i64 x.Style.Border.a0,.int .i64 x.Style.Border.a1,.int .i64 x.Style.Border.a2,.int .i64 x.Style.Border.a3,.str x.Style.BorderColor,.str x.Style.Color,.str x.Style.Background,.int .i64 x.Style.FontSize,.int .i64 x.Style.LineHeight,.int .i64 x.Style.TextAlign,.int .i64 x.Style.WhiteSpace,.int .i64 x.Style.VAlign,.int .i64 x.Style.Direction,.bool x.Style.Wrap,.int .i64 x.Style.Grow,.int .i64 x.Style.Shrink,.int .i64 x.Style.Basis.Kind,.int .i64 x.Style.Basis.Value,.int .i64 x.Style.Order,.int .i64 x.Style.Z,.bool x.Style.ZAuto,.int .i64 x.Style.Overflow,.int .i64 x.Style.Visibility,.int .i64 x.Width,.int .i64 x.Space,.int .i64 x.Above,.int .i64 x.Below,.bool x.Glued,.bool x.Forced,.sl (List.map aM x.Box)]
theorem iR(x:az):(aW x).length=62:=rfl
structure bC where
 aB:Int
 Grow:Int
 Shrink:Int
 Min:Int
 Max:Int
def jP:bC:=⟨0,0,0,0,0⟩
instance:Inhabited bC:=⟨jP⟩
def cm(x:bC):c6:=[.int .i64 x.aB,.int .i64 x.Grow,.int .i64 x.Shrink,.int .i64 x.Min,.int .i64 x.Max]
theorem Ju(x:bC):(cm x).length=5:=rfl
structure aI where
 Kind:Int
 Of:Int
 Char:Int
 Soft:Bool
 Box:ab
def aaA:aI:=⟨0,0,0,false,c7⟩
instance:Inhabited aI:=⟨aaA⟩
def av(x:aI):c6:=[.int .i64 x.Kind,.int .i64 x.Of,.int .i32 x.Char,.bool x.Soft,.cptr (aA x.Box)]
theorem cQ(x:aI):(av x).length=5:=rfl
structure aZ where
 Item:bC
 factor:Int
 weight:Int
 size:Int
 fixed:Bool
def iL:aZ:=⟨⟨0,0,0,0,0⟩,0,0,0,false⟩
instance:Inhabited aZ:=⟨iL⟩
def bB(x:aZ):c6:=[.int .i64 x.Item.aB,.int .i64 x.Item.Grow,.int .i64 x.Item.Shrink,.int .i64 x.Item.Min,.int .i64 x.Item.Max,.int .i64 x.factor,.int .i64 x.weight,.int .i64 x.size,.bool x.fixed]
inductive Fv where
 | fn (id:Nat)
 | c39 (a0:aw)
 | c43 (a0:Bool) (a1_0:Fv) (a1_1:Fv) (a1_2:Fv) (a1_3:Fv) (a2:Bool)
 | c48 (a0_0:Fv) (a0_1:Fv) (a0_2:Fv) (a0_3:Fv)
 | c52 (a0_0:Fv) (a0_1:Fv) (a0_2:Fv) (a0_3:Fv)
 | c54 (a0_0:Fv) (a0_1:Fv) (a0_2:Fv) (a0_3:Fv)
 | c65 (a0:ab)
 | c67 (a0:Int)
 | c103 (a0:aN)
 | c120 (a0:Int)
 | c147 (a0:Int) (a1_0:Fv) (a1_1:Fv) (a1_2:Fv) (a1_3:Fv)
 | c165 (a0:ck)
 | c172 (a0:(List ab))
 | bot (id k:Nat)
instance:Inhabited Fv:=⟨.fn 0⟩
def Fv.id:Fv→Nat
 | .fn i=>i
 | .bot i _=>i
 | .c39 _=>39
 | .c43 _ _ _ _ _ _=>43
 | .c48 _ _ _ _=>48
 | .c52 _ _ _ _=>52
 | .c54 _ _ _ _=>54
 | .c65 _=>65
 | .c67 _=>67
 | .c103 _=>103
 | .c120 _=>120
 | .c147 _ _ _ _ _=>147
 | .c165 _=>165
 | .c172 _=>172
def Fv.aR[GS]:Fv→c6
 | .fn _=>[]
 | .bot _ k=>List.replicate k .any
 | .c39 a=>[.cptr (aK a)]
 | .c43 a a1_0 a1_1 a1_2 a1_3 b=>[.cptr [eE 36 a],.cptr [.fn a1_0.id a1_0.aR,.fn a1_1.id a1_1.aR,.fn a1_2.id a1_2.aR,.fn a1_3.id a1_3.aR],.cptr [eE 37 b]]
 | .c48 a0_0 a0_1 a0_2 a0_3=>[.cptr [.fn a0_0.id a0_0.aR,.fn a0_1.id a0_1.aR,.fn a0_2.id a0_2.aR,.fn a0_3.id a0_3.aR]]
 | .c52 a0_0 a0_1 a0_2 a0_3=>[.cptr [.fn a0_0.id a0_0.aR,.fn a0_1.id a0_1.aR,.fn a0_2.id a0_2.aR,.fn a0_3.id a0_3.aR]]
 | .c54 a0_0 a0_1 a0_2 a0_3=>[.cptr [.fn a0_0.id a0_0.aR,.fn a0_1.id a0_1.aR,.fn a0_2.id a0_2.aR,.fn a0_3.id a0_3.aR]]
 | .c65 a=>[.cptr (aA a)]
 | .c67 a=>[.cptr [.int .i64 a]]
 | .c103 a=>[.cptr (aH a)]
 | .c120 a=>[.cptr [.int .i64 a]]
 | .c147 a a1_0 a1_1 a1_2 a1_3=>[.cptr [.int .i64 a],.cptr [.fn a1_0.id a1_0.aR,.fn a1_1.id a1_1.aR,.fn a1_2.id a1_2.aR,.fn a1_3.id a1_3.aR]]
 | .c165 a=>[.cptr [.sl (List.map (ak .i64) a)]]
 | .c172 a=>[.cptr [.sl (List.map aL a)]]
instance gs0:GS:=⟨0⟩
structure bz where
 Layout:Fv
 Widths:Fv
 Lines:Fv
 Spread:Fv
def afM:bz:=⟨(Fv.fn 0),(Fv.fn 0),(Fv.fn 0),(Fv.fn 0)⟩
instance:Inhabited bz:=⟨afM⟩
def bL[GS](x:bz):c6:=[.fn x.Layout.id x.Layout.aR,.fn x.Widths.id x.Widths.aR,.fn x.Lines.id x.Lines.aR,.fn x.Spread.id x.Spread.aR]
structure ib where
 f:Unit
 env:bz
def RQ:ib:=⟨(),⟨(Fv.fn 0),(Fv.fn 0),(Fv.fn 0),(Fv.fn 0)⟩⟩
instance:Inhabited ib:=⟨RQ⟩
def pm[GS](x:ib):c6:=[.any,.fn x.env.Layout.id x.env.Layout.aR,.fn x.env.Widths.id x.env.Widths.aR,.fn x.env.Lines.id x.env.Lines.aR,.fn x.env.Spread.id x.env.Spread.aR]
structure Kn where
 yD:ae→ae→Option Bool
 BN:ab→ab→Option Bool
 za:ab→Int→Option Bool
 xC:ae→Option ae
 kI:(List ce)→Int→Option (ab×Int)
 PR:ab→(List ce)→Option ab
 Ch:ab→Int→Option Bool
 yP:ae→Option ae
 tL:ib→ab→ck→Option Unit
 D9:(List ab)→Int→(List aI)→Option (Int×(List aI))
 rX:Fv→Int→Int→Option Int
 yK:Fv→(List ab)→aN→Int→Option ((List ae)×Int)
 Ag:Fv→(List ab)→aN→Option eq
 dr:Fv→ab→Int→Int→Int→(List aw)→Option (ae×Int×Int×(List aw))
 pP:Fv→ab→ab→Option Bool
 kR:Fv→ab→Option Bool
 gy:Fv→ab→Option eq
 uE:Fv→ab→Option az
 mw:Fv→aw→Option Bool
end Go.Proofs.YtocgkfoifehcbaaGreat

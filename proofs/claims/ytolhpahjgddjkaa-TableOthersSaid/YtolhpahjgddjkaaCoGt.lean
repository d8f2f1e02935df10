/- Types of layer 20's program as Lean types, with their cells. Made by a program. -/
import Derived.Test.YtolhpahjgddjkaaCoVq
import Derived.Test.YtolhpahjgddjkaaCoVo
namespace Go.Proofs.Ytolhpahjgddjkaa
open Go.RowKit
set_option maxRecDepth 20000
set_option linter.all false
set_option linter.unusedVariables false
set_option linter.unusedSimpArgs false
structure ae where
  Row:Int
  Col:Int
  Rows:Int
  Cols:Int
def ng:ae:=⟨0,0,0,0⟩
instance:Inhabited ae:=⟨ng⟩
def qTTablePlace (x y:ae):Bool:=((x.Row == y.Row) && ((x.Col == y.Col) && ((x.Rows == y.Rows) && ((x.Cols == y.Cols) && true))))
def aB (x:ae):List AV:=[.int .i64 x.Row,.int .i64 x.Col,.int .i64 x.Rows,.int .i64 x.Cols]
theorem fz (x:ae):(aB x).length=4:=rfl
structure ak where
  Least:Int
  Most:Int
def iv:ak:=⟨0,0⟩
instance:Inhabited ak:=⟨iv⟩
def aL (x:ak):List AV:=[.int .i64 x.Least,.int .i64 x.Most]
theorem jy (x:ak):(aL x).length=2:=rfl
structure ci where
  Kind:Int
  Value:Int
def bK:ci:=⟨0,0⟩
instance:Inhabited ci:=⟨bK⟩
def dI (x y:ci):Bool:=((x.Kind == y.Kind) && ((x.Value == y.Value) && true))
def gT (x:ci):List AV:=[.int .i64 x.Kind,.int .i64 x.Value]
structure aG where
  Display:Int
  Position:Int
  Left:ci
  Top:ci
  Width:ci
  Height:ci
  MinWidth:ci
  MaxWidth:ci
  Margin:(V4 ci)
  Padding:(V4 ci)
  Border:(V4 Int)
  BorderColor:ByteArray
  Color:ByteArray
  Background:ByteArray
  FontSize:Int
  LineHeight:Int
  TextAlign:Int
  WhiteSpace:Int
  VAlign:Int
  Direction:Int
  Wrap:Bool
  Grow:Int
  Shrink:Int
  Basis:ci
  Order:Int
  Z:Int
  ZAuto:Bool
  Overflow:Int
  Visibility:Int
def cu:aG:=⟨0,0,⟨0,0⟩,⟨0,0⟩,⟨0,0⟩,⟨0,0⟩,⟨0,0⟩,⟨0,0⟩,⟨⟨0,0⟩,⟨0,0⟩,⟨0,0⟩,⟨0,0⟩⟩,⟨⟨0,0⟩,⟨0,0⟩,⟨0,0⟩,⟨0,0⟩⟩,⟨0,0,0,0⟩,⟨#[]⟩,⟨#[]⟩,⟨#[]⟩,0,0,0,0,0,0,false,0,0,⟨0,0⟩,0,0,false,0,0⟩
instance:Inhabited aG:=⟨cu⟩
def rL (x y:aG):Bool:=((x.Display == y.Display) && ((x.Position == y.Position) && ((dI x.Left y.Left) && ((dI x.Top y.Top) && ((dI x.Width y.Width) && ((dI x.Height y.Height) && ((dI x.MinWidth y.MinWidth) && ((dI x.MaxWidth y.MaxWidth) && (((dI x.Margin.a0 y.Margin.a0) && ((dI x.Margin.a1 y.Margin.a1) && ((dI x.Margin.a2 y.Margin.a2) && ((dI x.Margin.a3 y.Margin.a3) && true)))) && (((dI x.Padding.a0 y.Padding.a0) && ((dI x.Padding.a1 y.Padding.a1) && ((dI x.Padding.a2 y.Padding.a2) && ((dI x.Padding.a3 y.Padding.a3) && true)))) && (((x.Border.a0 == y.Border.a0) && ((x.Border.a1 == y.Border.a1) && ((x.Border.a2 == y.Border.a2) && ((x.Border.a3 == y.Border.a3) && true)))) && ((x.BorderColor.toList == y.BorderColor.toList) && ((x.Color.toList == y.Color.toList) && ((x.Background.toList == y.Background.toList) && ((x.FontSize == y.FontSize) && ((x.LineHeight == y.LineHeight) && ((x.TextAlign == y.TextAlign) && ((x.WhiteSpace == y.WhiteSpace) && ((x.VAlign == y.VAlign) && ((x.Direction == y.Direction) && ((x.Wrap == y.Wrap) && ((x.Grow == y.Grow) && ((x.Shrink == y.Shrink) && ((dI x.Basis y.Basis) && ((x.Order == y.Order) && ((x.Z == y.Z) && ((x.ZAuto == y.ZAuto) && ((x.Overflow == y.Overflow) && ((x.Visibility == y.Visibility) && true)))))))))))))))))))))))))))))
def aO (x:aG):List AV:=[.int .i64 x.Display,.int .i64 x.Position,.int .i64 x.Left.Kind,.int .i64 x.Left.Value,.int .i64 x.Top.Kind,.int .i64 x.Top.Value,.int .i64 x.Width.Kind,.int .i64 x.Width.Value,.int .i64 x.Height.Kind,.int .i64 x.Height.Value,.int .i64 x.MinWidth.Kind,.int .i64 x.MinWidth.Value,.int .i64 x.MaxWidth.Kind,.int .i64 x.MaxWidth.Value,.int .i64 x.Margin.a0.Kind,.int .i64 x.Margin.a0.Value,.int .i64 x.Margin.a1.Kind,.int .i64 x.Margin.a1.Value,.int .i64 x.Margin.a2.Kind,.int .i64 x.Margin.a2.Value,.int .i64 x.Margin.a3.Kind,.int .i64 x.Margin.a3.Value,.int .i64 x.Padding.a0.Kind,.int .i64 x.Padding.a0.Value,.int .i64 x.Padding.a1.Kind,.int .i64 x.Padding.a1.Value,.int .i64 x.Padding.a2.Kind,.int .i64 x.Padding.a2.Value,.int .i64 x.Padding.a3.Kind,.int .i64 x.Padding.a3.Value,.int .i64 x.Border.a0,.int .i64 x.Border.a1,.int .i64 x.Border.a2,.int .i64 x.Border.a3,.str x.BorderColor,.str x.Color,.str x.Background,.int .i64 x.FontSize,.int .i64 x.LineHeight,.int .i64 x.TextAlign,.int .i64 x.WhiteSpace,.int .i64 x.VAlign,.int .i64 x.Direction,.bool x.Wrap,.int .i64 x.Grow,.int .i64 x.Shrink,.int .i64 x.Basis.Kind,.int .i64 x.Basis.Value,.int .i64 x.Order,.int .i64 x.Z,.bool x.ZAuto,.int .i64 x.Overflow,.int .i64 x.Visibility]
structure bM where
  Depth:Int
  Kind:Int
  Text:ByteArray
  Rows:Int
  Cols:Int
  Style:aG
def vr:bM:=⟨0,0,⟨#[]⟩,0,0,⟨0,0,⟨0,0⟩,⟨0,0⟩,⟨0,0⟩,⟨0,0⟩,⟨0,0⟩,⟨0,0⟩,⟨⟨0,0⟩,⟨0,0⟩,⟨0,0⟩,⟨0,0⟩⟩,⟨⟨0,0⟩,⟨0,0⟩,⟨0,0⟩,⟨0,0⟩⟩,⟨0,0,0,0⟩,⟨#[]⟩,⟨#[]⟩,⟨#[]⟩,0,0,0,0,0,0,false,0,0,⟨0,0⟩,0,0,false,0,0⟩⟩
instance:Inhabited bM:=⟨vr⟩
def bX (x:bM):List AV:=[.int .u8 x.Depth,.int .u8 x.Kind,.str x.Text,.int .u8 x.Rows,.int .u8 x.Cols,.int .i64 x.Style.Display,.int .i64 x.Style.Position,.int .i64 x.Style.Left.Kind,.int .i64 x.Style.Left.Value,.int .i64 x.Style.Top.Kind,.int .i64 x.Style.Top.Value,.int .i64 x.Style.Width.Kind,.int .i64 x.Style.Width.Value,.int .i64 x.Style.Height.Kind,.int .i64 x.Style.Height.Value,.int .i64 x.Style.MinWidth.Kind,.int .i64 x.Style.MinWidth.Value,.int .i64 x.Style.MaxWidth.Kind,.int .i64 x.Style.MaxWidth.Value,.int .i64 x.Style.Margin.a0.Kind,.int .i64 x.Style.Margin.a0.Value,.int .i64 x.Style.Margin.a1.Kind,.int .i64 x.Style.Margin.a1.Value,.int .i64 x.Style.Margin.a2.Kind,.int .i64 x.Style.Margin.a2.Value,.int .i64 x.Style.Margin.a3.Kind,.int .i64 x.Style.Margin.a3.Value,.int .i64 x.Style.Padding.a0.Kind,.int .i64 x.Style.Padding.a0.Value,.int .i64 x.Style.Padding.a1.Kind,.int .i64 x.Style.Padding.a1.Value,.int .i64 x.Style.Padding.a2.Kind,.int .i64 x.Style.Padding.a2.Value,.int .i64 x.Style.Padding.a3.Kind,.int .i64 x.Style.Padding.a3.Value,.int .i64 x.Style.Border.a0,.int .i64 x.Style.Border.a1,.int .i64 x.Style.Border.a2,.int .i64 x.Style.Border.a3,.str x.Style.BorderColor,.str x.Style.Color,.str x.Style.Background,.int .i64 x.Style.FontSize,.int .i64 x.Style.LineHeight,.int .i64 x.Style.TextAlign,.int .i64 x.Style.WhiteSpace,.int .i64 x.Style.VAlign,.int .i64 x.Style.Direction,.bool x.Style.Wrap,.int .i64 x.Style.Grow,.int .i64 x.Style.Shrink,.int .i64 x.Style.Basis.Kind,.int .i64 x.Style.Basis.Value,.int .i64 x.Style.Order,.int .i64 x.Style.Z,.bool x.Style.ZAuto,.int .i64 x.Style.Overflow,.int .i64 x.Style.Visibility]
theorem pL (x:bM):(bX x).length=58:=rfl
structure ab where
  Kind:Int
  Node:Int
  Style:aG
  Text:ByteArray
  Rows:Int
  Cols:Int
  Kids:(List ab)
def bD:ab:=⟨0,0,⟨0,0,⟨0,0⟩,⟨0,0⟩,⟨0,0⟩,⟨0,0⟩,⟨0,0⟩,⟨0,0⟩,⟨⟨0,0⟩,⟨0,0⟩,⟨0,0⟩,⟨0,0⟩⟩,⟨⟨0,0⟩,⟨0,0⟩,⟨0,0⟩,⟨0,0⟩⟩,⟨0,0,0,0⟩,⟨#[]⟩,⟨#[]⟩,⟨#[]⟩,0,0,0,0,0,0,false,0,0,⟨0,0⟩,0,0,false,0,0⟩,⟨#[]⟩,0,0,[]⟩
instance:Inhabited ab:=⟨bD⟩
mutual
def aw:ab→List AV
  | ⟨Kind,Node,Style,Text,Rows,Cols,Kids⟩=>[.int .i64 Kind,.int .i64 Node,.int .i64 Style.Display,.int .i64 Style.Position,.int .i64 Style.Left.Kind,.int .i64 Style.Left.Value,.int .i64 Style.Top.Kind,.int .i64 Style.Top.Value,.int .i64 Style.Width.Kind,.int .i64 Style.Width.Value,.int .i64 Style.Height.Kind,.int .i64 Style.Height.Value,.int .i64 Style.MinWidth.Kind,.int .i64 Style.MinWidth.Value,.int .i64 Style.MaxWidth.Kind,.int .i64 Style.MaxWidth.Value,.int .i64 Style.Margin.a0.Kind,.int .i64 Style.Margin.a0.Value,.int .i64 Style.Margin.a1.Kind,.int .i64 Style.Margin.a1.Value,.int .i64 Style.Margin.a2.Kind,.int .i64 Style.Margin.a2.Value,.int .i64 Style.Margin.a3.Kind,.int .i64 Style.Margin.a3.Value,.int .i64 Style.Padding.a0.Kind,.int .i64 Style.Padding.a0.Value,.int .i64 Style.Padding.a1.Kind,.int .i64 Style.Padding.a1.Value,.int .i64 Style.Padding.a2.Kind,.int .i64 Style.Padding.a2.Value,.int .i64 Style.Padding.a3.Kind,.int .i64 Style.Padding.a3.Value,.int .i64 Style.Border.a0,.int .i64 Style.Border.a1,.int .i64 Style.Border.a2,.int .i64 Style.Border.a3,.str Style.BorderColor,.str Style.Color,.str Style.Background,.int .i64 Style.FontSize,.int .i64 Style.LineHeight,.int .i64 Style.TextAlign,.int .i64 Style.WhiteSpace,.int .i64 Style.VAlign,.int .i64 Style.Direction,.bool Style.Wrap,.int .i64 Style.Grow,.int .i64 Style.Shrink,.int .i64 Style.Basis.Kind,.int .i64 Style.Basis.Value,.int .i64 Style.Order,.int .i64 Style.Z,.bool Style.ZAuto,.int .i64 Style.Overflow,.int .i64 Style.Visibility,.str Text,.int .i64 Rows,.int .i64 Cols,.sl (ph Kids)]
def ph:List ab→List (List AV)
  | []=>[]
  | x::r=>aw x::ph r
end
theorem t8:∀ l:List ab,ph l=l.map aw
  | []=>by simp [ph]
  | x::r=>by simp [ph,t8 r]
def aH (x:ab):List AV:=[.int .i64 x.Kind,.int .i64 x.Node,.int .i64 x.Style.Display,.int .i64 x.Style.Position,.int .i64 x.Style.Left.Kind,.int .i64 x.Style.Left.Value,.int .i64 x.Style.Top.Kind,.int .i64 x.Style.Top.Value,.int .i64 x.Style.Width.Kind,.int .i64 x.Style.Width.Value,.int .i64 x.Style.Height.Kind,.int .i64 x.Style.Height.Value,.int .i64 x.Style.MinWidth.Kind,.int .i64 x.Style.MinWidth.Value,.int .i64 x.Style.MaxWidth.Kind,.int .i64 x.Style.MaxWidth.Value,.int .i64 x.Style.Margin.a0.Kind,.int .i64 x.Style.Margin.a0.Value,.int .i64 x.Style.Margin.a1.Kind,.int .i64 x.Style.Margin.a1.Value,.int .i64 x.Style.Margin.a2.Kind,.int .i64 x.Style.Margin.a2.Value,.int .i64 x.Style.Margin.a3.Kind,.int .i64 x.Style.Margin.a3.Value,.int .i64 x.Style.Padding.a0.Kind,.int .i64 x.Style.Padding.a0.Value,.int .i64 x.Style.Padding.a1.Kind,.int .i64 x.Style.Padding.a1.Value,.int .i64 x.Style.Padding.a2.Kind,.int .i64 x.Style.Padding.a2.Value,.int .i64 x.Style.Padding.a3.Kind,.int .i64 x.Style.Padding.a3.Value,.int .i64 x.Style.Border.a0,.int .i64 x.Style.Border.a1,.int .i64 x.Style.Border.a2,.int .i64 x.Style.Border.a3,.str x.Style.BorderColor,.str x.Style.Color,.str x.Style.Background,.int .i64 x.Style.FontSize,.int .i64 x.Style.LineHeight,.int .i64 x.Style.TextAlign,.int .i64 x.Style.WhiteSpace,.int .i64 x.Style.VAlign,.int .i64 x.Style.Direction,.bool x.Style.Wrap,.int .i64 x.Style.Grow,.int .i64 x.Style.Shrink,.int .i64 x.Style.Basis.Kind,.int .i64 x.Style.Basis.Value,.int .i64 x.Style.Order,.int .i64 x.Style.Z,.bool x.Style.ZAuto,.int .i64 x.Style.Overflow,.int .i64 x.Style.Visibility,.str x.Text,.int .i64 x.Rows,.int .i64 x.Cols,.sl (List.map aw x.Kids)]
theorem b9 (x:ab):aw x=aH x:=by
  cases x; simp only [aw,aH,t8]
theorem ce (x:ab):(aw x).length=59:=by rw [b9]; rfl
def wTBoxtreeBox (p:ab×Option (List ab)):ab:={ p.1 with Kids:=p.2.getD [] }
def uTBoxtreeBox (x:ab) (l:List ab):ab:={ x with Kids:=l }
theorem wH (x:ab) (l:List ab):(aw x).set 58 (.sl (l.map aw))=aw (uTBoxtreeBox x l):=by rw [b9,b9]; rfl
theorem TBoxtreeBox_uos (x:ab):(aw x).map AV.unosl=aw x:=by rw [b9]; rfl
theorem xe (x:ab):(aw x).all AV.flatC=true:=by rw [b9]; rfl
structure aA where
  Pos:Int
  Neg:Int
def eI:aA:=⟨0,0⟩
instance:Inhabited aA:=⟨eI⟩
def qp (x y:aA):Bool:=((x.Pos == y.Pos) && ((x.Neg == y.Neg) && true))
def bS (x:aA):List AV:=[.int .i64 x.Pos,.int .i64 x.Neg]
structure aa where
  Kind:Int
  Node:Int
  X:Int
  Y:Int
  W:Int
  H:Int
  Base:Int
  Text:ByteArray
  Style:aG
  Before:aA
  After:aA
  Empty:Bool
  Kids:(List aa)
def aX:aa:=⟨0,0,0,0,0,0,0,⟨#[]⟩,⟨0,0,⟨0,0⟩,⟨0,0⟩,⟨0,0⟩,⟨0,0⟩,⟨0,0⟩,⟨0,0⟩,⟨⟨0,0⟩,⟨0,0⟩,⟨0,0⟩,⟨0,0⟩⟩,⟨⟨0,0⟩,⟨0,0⟩,⟨0,0⟩,⟨0,0⟩⟩,⟨0,0,0,0⟩,⟨#[]⟩,⟨#[]⟩,⟨#[]⟩,0,0,0,0,0,0,false,0,0,⟨0,0⟩,0,0,false,0,0⟩,⟨0,0⟩,⟨0,0⟩,false,[]⟩
instance:Inhabited aa:=⟨aX⟩
mutual
def am:aa→List AV
  | ⟨Kind,Node,X,Y,W,H,Base,Text,Style,Before,After,Empty,Kids⟩=>[.int .i64 Kind,.int .i64 Node,.int .i64 X,.int .i64 Y,.int .i64 W,.int .i64 H,.int .i64 Base,.str Text,.int .i64 Style.Display,.int .i64 Style.Position,.int .i64 Style.Left.Kind,.int .i64 Style.Left.Value,.int .i64 Style.Top.Kind,.int .i64 Style.Top.Value,.int .i64 Style.Width.Kind,.int .i64 Style.Width.Value,.int .i64 Style.Height.Kind,.int .i64 Style.Height.Value,.int .i64 Style.MinWidth.Kind,.int .i64 Style.MinWidth.Value,.int .i64 Style.MaxWidth.Kind,.int .i64 Style.MaxWidth.Value,.int .i64 Style.Margin.a0.Kind,.int .i64 Style.Margin.a0.Value,.int .i64 Style.Margin.a1.Kind,.int .i64 Style.Margin.a1.Value,.int .i64 Style.Margin.a2.Kind,.int .i64 Style.Margin.a2.Value,.int .i64 Style.Margin.a3.Kind,.int .i64 Style.Margin.a3.Value,.int .i64 Style.Padding.a0.Kind,.int .i64 Style.Padding.a0.Value,.int .i64 Style.Padding.a1.Kind,.int .i64 Style.Padding.a1.Value,.int .i64 Style.Padding.a2.Kind,.int .i64 Style.Padding.a2.Value,.int .i64 Style.Padding.a3.Kind,.int .i64 Style.Padding.a3.Value,.int .i64 Style.Border.a0,.int .i64 Style.Border.a1,.int .i64 Style.Border.a2,.int .i64 Style.Border.a3,.str Style.BorderColor,.str Style.Color,.str Style.Background,.int .i64 Style.FontSize,.int .i64 Style.LineHeight,.int .i64 Style.TextAlign,.int .i64 Style.WhiteSpace,.int .i64 Style.VAlign,.int .i64 Style.Direction,.bool Style.Wrap,.int .i64 Style.Grow,.int .i64 Style.Shrink,.int .i64 Style.Basis.Kind,.int .i64 Style.Basis.Value,.int .i64 Style.Order,.int .i64 Style.Z,.bool Style.ZAuto,.int .i64 Style.Overflow,.int .i64 Style.Visibility,.int .i64 Before.Pos,.int .i64 Before.Neg,.int .i64 After.Pos,.int .i64 After.Neg,.bool Empty,.sl (na Kids)]
def na:List aa→List (List AV)
  | []=>[]
  | x::r=>am x::na r
end
theorem sI:∀ l:List aa,na l=l.map am
  | []=>by simp [na]
  | x::r=>by simp [na,sI r]
def aC (x:aa):List AV:=[.int .i64 x.Kind,.int .i64 x.Node,.int .i64 x.X,.int .i64 x.Y,.int .i64 x.W,.int .i64 x.H,.int .i64 x.Base,.str x.Text,.int .i64 x.Style.Display,.int .i64 x.Style.Position,.int .i64 x.Style.Left.Kind,.int .i64 x.Style.Left.Value,.int .i64 x.Style.Top.Kind,.int .i64 x.Style.Top.Value,.int .i64 x.Style.Width.Kind,.int .i64 x.Style.Width.Value,.int .i64 x.Style.Height.Kind,.int .i64 x.Style.Height.Value,.int .i64 x.Style.MinWidth.Kind,.int .i64 x.Style.MinWidth.Value,.int .i64 x.Style.MaxWidth.Kind,.int .i64 x.Style.MaxWidth.Value,.int .i64 x.Style.Margin.a0.Kind,.int .i64 x.Style.Margin.a0.Value,.int .i64 x.Style.Margin.a1.Kind,.int .i64 x.Style.Margin.a1.Value,.int .i64 x.Style.Margin.a2.Kind,.int .i64 x.Style.Margin.a2.Value,.int .i64 x.Style.Margin.a3.Kind,.int .i64 x.Style.Margin.a3.Value,.int .i64 x.Style.Padding.a0.Kind,.int .i64 x.Style.Padding.a0.Value,.int .i64 x.Style.Padding.a1.Kind,.int .i64 x.Style.Padding.a1.Value,.int .i64 x.Style.Padding.a2.Kind,.int .i64 x.Style.Padding.a2.Value,.int .i64 x.Style.Padding.a3.Kind,.int .i64 x.Style.Padding.a3.Value,.int .i64 x.Style.Border.a0,.int .i64 x.Style.Border.a1,.int .i64 x.Style.Border.a2,.int .i64 x.Style.Border.a3,.str x.Style.BorderColor,.str x.Style.Color,.str x.Style.Background,.int .i64 x.Style.FontSize,.int .i64 x.Style.LineHeight,.int .i64 x.Style.TextAlign,.int .i64 x.Style.WhiteSpace,.int .i64 x.Style.VAlign,.int .i64 x.Style.Direction,.bool x.Style.Wrap,.int .i64 x.Style.Grow,.int .i64 x.Style.Shrink,.int .i64 x.Style.Basis.Kind,.int .i64 x.Style.Basis.Value,.int .i64 x.Style.Order,.int .i64 x.Style.Z,.bool x.Style.ZAuto,.int .i64 x.Style.Overflow,.int .i64 x.Style.Visibility,.int .i64 x.Before.Pos,.int .i64 x.Before.Neg,.int .i64 x.After.Pos,.int .i64 x.After.Neg,.bool x.Empty,.sl (List.map am x.Kids)]
theorem cj (x:aa):am x=aC x:=by
  cases x; simp only [am,aC,sI]
theorem cX (x:aa):(am x).length=67:=by rw [cj]; rfl
def wTBlockFragment (p:aa×Option (List aa)):aa:={ p.1 with Kids:=p.2.getD [] }
def uTBlockFragment (x:aa) (l:List aa):aa:={ x with Kids:=l }
theorem wq (x:aa) (l:List aa):(am x).set 66 (.sl (l.map am))=am (uTBlockFragment x l):=by rw [cj,cj]; rfl
theorem vR (x:aa):(am x).map AV.unosl=am x:=by rw [cj]; rfl
theorem xi (x:aa):(am x).all AV.flatC=true:=by rw [cj]; rfl
structure bj where
  rows:(List ab)
  cells:(List ab)
  places:(List ae)
  columns:(List ak)
def fp:bj:=⟨[],[],[],[]⟩
instance:Inhabited bj:=⟨fp⟩
def dd (x:bj):List AV:=[.sl (List.map aw x.rows),.sl (List.map aw x.cells),.sl (List.map aB x.places),.sl (List.map aL x.columns)]
structure aS where
  Margin:(V4 Int)
  Border:(V4 Int)
  Padding:(V4 Int)
  Content:Int
def fM:aS:=⟨⟨0,0,0,0⟩,⟨0,0,0,0⟩,⟨0,0,0,0⟩,0⟩
instance:Inhabited aS:=⟨fM⟩
def bE (x:aS):List AV:=[.int .i64 x.Margin.a0,.int .i64 x.Margin.a1,.int .i64 x.Margin.a2,.int .i64 x.Margin.a3,.int .i64 x.Border.a0,.int .i64 x.Border.a1,.int .i64 x.Border.a2,.int .i64 x.Border.a3,.int .i64 x.Padding.a0,.int .i64 x.Padding.a1,.int .i64 x.Padding.a2,.int .i64 x.Padding.a3,.int .i64 x.Content]
inductive Fv where
  | fn (id:Nat)
  | c31 (a0:Int)
  | c36 (a0:Int)
  | c59 (a0:(List Int))
  | c65 (a0:Fv) (a1:(List ae))
instance:Inhabited Fv:=⟨.fn 0⟩
def Fv.id:Fv→Nat
  | .fn i=>i
  | .c31 _=>31
  | .c36 _=>36
  | .c59 _=>59
  | .c65 _ _=>65
def Fv.caps:Fv→List AV
  | .fn _=>[]
  | .c31 a0=>[.cptr [.int .i64 a0]]
  | .c36 a0=>[.cptr [.int .i64 a0]]
  | .c59 a0=>[.cptr [.sl (List.map (eInt .i64) a0)]]
  | .c65 a0 a1=>[.cptr [.fn a0.id a0.caps],.cptr [.sl (List.map aB a1)]]
structure bv where
  Layout:Fv
  Widths:Fv
  Lines:Fv
  Spread:Fv
def zTBlockEnv:bv:=⟨(Fv.fn 0),(Fv.fn 0),(Fv.fn 0),(Fv.fn 0)⟩
instance:Inhabited bv:=⟨zTBlockEnv⟩
def cf (x:bv):List AV:=[.fn x.Layout.id x.Layout.caps,.fn x.Widths.id x.Widths.caps,.fn x.Lines.id x.Lines.caps,.fn x.Spread.id x.Spread.caps]
structure Kn where
  nR:aa→aa→Option Bool
  fS:(List Int)→Int→Int→Int→Fv→Option (List Int)
  dS:Fv→Int→Int→Option Int
  pi:Fv→Int→Option Bool
  oa:Fv→(List ab)→aG→Int→Option ((List aa)×Int)
  pk:Fv→(List ab)→aG→Option (Int×Int)
  qO:Fv→ab→Int→Option aa
  gp:Fv→ab→Option Bool
  qr:Fv→ab→Option (Int×Int)
  kn:Fv→ae→Option Bool
  fO:Fv→ae→Option Int
end Go.Proofs.Ytolhpahjgddjkaa

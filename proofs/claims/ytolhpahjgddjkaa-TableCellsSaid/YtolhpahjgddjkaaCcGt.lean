/- Types of layer 20's program as Lean types, with their cells. Made by a program. -/
import Derived.Test.YtolhpahjgddjkaaCcVq
import Derived.Test.YtolhpahjgddjkaaCcVo
namespace Go.Proofs.Ytolhpahjgddjkaa
open Go.RowKit
set_option maxRecDepth 20000
set_option linter.all false
set_option linter.unusedVariables false
set_option linter.unusedSimpArgs false
structure ae where
  Row:Int
  Col:Int
  Rows:Int
  Cols:Int
def o7:ae:=⟨0,0,0,0⟩
instance:Inhabited ae:=⟨o7⟩
def qTTablePlace (x y:ae):Bool:=((x.Row == y.Row) && ((x.Col == y.Col) && ((x.Rows == y.Rows) && ((x.Cols == y.Cols) && true))))
def aC (x:ae):List AV:=[.int .i64 x.Row,.int .i64 x.Col,.int .i64 x.Rows,.int .i64 x.Cols]
theorem fx (x:ae):(aC x).length=4:=rfl
structure am where
  Least:Int
  Most:Int
def ix:am:=⟨0,0⟩
instance:Inhabited am:=⟨ix⟩
def aM (x:am):List AV:=[.int .i64 x.Least,.int .i64 x.Most]
theorem iY (x:am):(aM x).length=2:=rfl
structure cn where
  Kind:Int
  Value:Int
def bH:cn:=⟨0,0⟩
instance:Inhabited cn:=⟨bH⟩
def iG (x:cn):List AV:=[.int .i64 x.Kind,.int .i64 x.Value]
structure aG where
  Display:Int
  Position:Int
  Left:cn
  Top:cn
  Width:cn
  Height:cn
  MinWidth:cn
  MaxWidth:cn
  Margin:(V4 cn)
  Padding:(V4 cn)
  Border:(V4 Int)
  BorderColor:ByteArray
  Color:ByteArray
  Background:ByteArray
  FontSize:Int
  LineHeight:Int
  TextAlign:Int
  WhiteSpace:Int
  VAlign:Int
  Direction:Int
  Wrap:Bool
  Grow:Int
  Shrink:Int
  Basis:cn
  Order:Int
  Z:Int
  ZAuto:Bool
  Overflow:Int
  Visibility:Int
def cy:aG:=⟨0,0,⟨0,0⟩,⟨0,0⟩,⟨0,0⟩,⟨0,0⟩,⟨0,0⟩,⟨0,0⟩,⟨⟨0,0⟩,⟨0,0⟩,⟨0,0⟩,⟨0,0⟩⟩,⟨⟨0,0⟩,⟨0,0⟩,⟨0,0⟩,⟨0,0⟩⟩,⟨0,0,0,0⟩,⟨#[]⟩,⟨#[]⟩,⟨#[]⟩,0,0,0,0,0,0,false,0,0,⟨0,0⟩,0,0,false,0,0⟩
instance:Inhabited aG:=⟨cy⟩
def aO (x:aG):List AV:=[.int .i64 x.Display,.int .i64 x.Position,.int .i64 x.Left.Kind,.int .i64 x.Left.Value,.int .i64 x.Top.Kind,.int .i64 x.Top.Value,.int .i64 x.Width.Kind,.int .i64 x.Width.Value,.int .i64 x.Height.Kind,.int .i64 x.Height.Value,.int .i64 x.MinWidth.Kind,.int .i64 x.MinWidth.Value,.int .i64 x.MaxWidth.Kind,.int .i64 x.MaxWidth.Value,.int .i64 x.Margin.a0.Kind,.int .i64 x.Margin.a0.Value,.int .i64 x.Margin.a1.Kind,.int .i64 x.Margin.a1.Value,.int .i64 x.Margin.a2.Kind,.int .i64 x.Margin.a2.Value,.int .i64 x.Margin.a3.Kind,.int .i64 x.Margin.a3.Value,.int .i64 x.Padding.a0.Kind,.int .i64 x.Padding.a0.Value,.int .i64 x.Padding.a1.Kind,.int .i64 x.Padding.a1.Value,.int .i64 x.Padding.a2.Kind,.int .i64 x.Padding.a2.Value,.int .i64 x.Padding.a3.Kind,.int .i64 x.Padding.a3.Value,.int .i64 x.Border.a0,.int .i64 x.Border.a1,.int .i64 x.Border.a2,.int .i64 x.Border.a3,.str x.BorderColor,.str x.Color,.str x.Background,.int .i64 x.FontSize,.int .i64 x.LineHeight,.int .i64 x.TextAlign,.int .i64 x.WhiteSpace,.int .i64 x.VAlign,.int .i64 x.Direction,.bool x.Wrap,.int .i64 x.Grow,.int .i64 x.Shrink,.int .i64 x.Basis.Kind,.int .i64 x.Basis.Value,.int .i64 x.Order,.int .i64 x.Z,.bool x.ZAuto,.int .i64 x.Overflow,.int .i64 x.Visibility]
structure bN where
  Depth:Int
  Kind:Int
  Text:ByteArray
  Rows:Int
  Cols:Int
  Style:aG
def vM:bN:=⟨0,0,⟨#[]⟩,0,0,⟨0,0,⟨0,0⟩,⟨0,0⟩,⟨0,0⟩,⟨0,0⟩,⟨0,0⟩,⟨0,0⟩,⟨⟨0,0⟩,⟨0,0⟩,⟨0,0⟩,⟨0,0⟩⟩,⟨⟨0,0⟩,⟨0,0⟩,⟨0,0⟩,⟨0,0⟩⟩,⟨0,0,0,0⟩,⟨#[]⟩,⟨#[]⟩,⟨#[]⟩,0,0,0,0,0,0,false,0,0,⟨0,0⟩,0,0,false,0,0⟩⟩
instance:Inhabited bN:=⟨vM⟩
def bV (x:bN):List AV:=[.int .u8 x.Depth,.int .u8 x.Kind,.str x.Text,.int .u8 x.Rows,.int .u8 x.Cols,.int .i64 x.Style.Display,.int .i64 x.Style.Position,.int .i64 x.Style.Left.Kind,.int .i64 x.Style.Left.Value,.int .i64 x.Style.Top.Kind,.int .i64 x.Style.Top.Value,.int .i64 x.Style.Width.Kind,.int .i64 x.Style.Width.Value,.int .i64 x.Style.Height.Kind,.int .i64 x.Style.Height.Value,.int .i64 x.Style.MinWidth.Kind,.int .i64 x.Style.MinWidth.Value,.int .i64 x.Style.MaxWidth.Kind,.int .i64 x.Style.MaxWidth.Value,.int .i64 x.Style.Margin.a0.Kind,.int .i64 x.Style.Margin.a0.Value,.int .i64 x.Style.Margin.a1.Kind,.int .i64 x.Style.Margin.a1.Value,.int .i64 x.Style.Margin.a2.Kind,.int .i64 x.Style.Margin.a2.Value,.int .i64 x.Style.Margin.a3.Kind,.int .i64 x.Style.Margin.a3.Value,.int .i64 x.Style.Padding.a0.Kind,.int .i64 x.Style.Padding.a0.Value,.int .i64 x.Style.Padding.a1.Kind,.int .i64 x.Style.Padding.a1.Value,.int .i64 x.Style.Padding.a2.Kind,.int .i64 x.Style.Padding.a2.Value,.int .i64 x.Style.Padding.a3.Kind,.int .i64 x.Style.Padding.a3.Value,.int .i64 x.Style.Border.a0,.int .i64 x.Style.Border.a1,.int .i64 x.Style.Border.a2,.int .i64 x.Style.Border.a3,.str x.Style.BorderColor,.str x.Style.Color,.str x.Style.Background,.int .i64 x.Style.FontSize,.int .i64 x.Style.LineHeight,.int .i64 x.Style.TextAlign,.int .i64 x.Style.WhiteSpace,.int .i64 x.Style.VAlign,.int .i64 x.Style.Direction,.bool x.Style.Wrap,.int .i64 x.Style.Grow,.int .i64 x.Style.Shrink,.int .i64 x.Style.Basis.Kind,.int .i64 x.Style.Basis.Value,.int .i64 x.Style.Order,.int .i64 x.Style.Z,.bool x.Style.ZAuto,.int .i64 x.Style.Overflow,.int .i64 x.Style.Visibility]
theorem qR (x:bN):(bV x).length=58:=rfl
structure ab where
  Kind:Int
  Node:Int
  Style:aG
  Text:ByteArray
  Rows:Int
  Cols:Int
  Kids:(List ab)
def cf:ab:=⟨0,0,⟨0,0,⟨0,0⟩,⟨0,0⟩,⟨0,0⟩,⟨0,0⟩,⟨0,0⟩,⟨0,0⟩,⟨⟨0,0⟩,⟨0,0⟩,⟨0,0⟩,⟨0,0⟩⟩,⟨⟨0,0⟩,⟨0,0⟩,⟨0,0⟩,⟨0,0⟩⟩,⟨0,0,0,0⟩,⟨#[]⟩,⟨#[]⟩,⟨#[]⟩,0,0,0,0,0,0,false,0,0,⟨0,0⟩,0,0,false,0,0⟩,⟨#[]⟩,0,0,[]⟩
instance:Inhabited ab:=⟨cf⟩
mutual
def ax:ab→List AV
  | ⟨Kind,Node,Style,Text,Rows,Cols,Kids⟩=>[.int .i64 Kind,.int .i64 Node,.int .i64 Style.Display,.int .i64 Style.Position,.int .i64 Style.Left.Kind,.int .i64 Style.Left.Value,.int .i64 Style.Top.Kind,.int .i64 Style.Top.Value,.int .i64 Style.Width.Kind,.int .i64 Style.Width.Value,.int .i64 Style.Height.Kind,.int .i64 Style.Height.Value,.int .i64 Style.MinWidth.Kind,.int .i64 Style.MinWidth.Value,.int .i64 Style.MaxWidth.Kind,.int .i64 Style.MaxWidth.Value,.int .i64 Style.Margin.a0.Kind,.int .i64 Style.Margin.a0.Value,.int .i64 Style.Margin.a1.Kind,.int .i64 Style.Margin.a1.Value,.int .i64 Style.Margin.a2.Kind,.int .i64 Style.Margin.a2.Value,.int .i64 Style.Margin.a3.Kind,.int .i64 Style.Margin.a3.Value,.int .i64 Style.Padding.a0.Kind,.int .i64 Style.Padding.a0.Value,.int .i64 Style.Padding.a1.Kind,.int .i64 Style.Padding.a1.Value,.int .i64 Style.Padding.a2.Kind,.int .i64 Style.Padding.a2.Value,.int .i64 Style.Padding.a3.Kind,.int .i64 Style.Padding.a3.Value,.int .i64 Style.Border.a0,.int .i64 Style.Border.a1,.int .i64 Style.Border.a2,.int .i64 Style.Border.a3,.str Style.BorderColor,.str Style.Color,.str Style.Background,.int .i64 Style.FontSize,.int .i64 Style.LineHeight,.int .i64 Style.TextAlign,.int .i64 Style.WhiteSpace,.int .i64 Style.VAlign,.int .i64 Style.Direction,.bool Style.Wrap,.int .i64 Style.Grow,.int .i64 Style.Shrink,.int .i64 Style.Basis.Kind,.int .i64 Style.Basis.Value,.int .i64 Style.Order,.int .i64 Style.Z,.bool Style.ZAuto,.int .i64 Style.Overflow,.int .i64 Style.Visibility,.str Text,.int .i64 Rows,.int .i64 Cols,.sl (mZ Kids)]
def mZ:List ab→List (List AV)
  | []=>[]
  | x::r=>ax x::mZ r
end
theorem sW:∀ l:List ab,mZ l=l.map ax
  | []=>by simp [mZ]
  | x::r=>by simp [mZ,sW r]
def aF (x:ab):List AV:=[.int .i64 x.Kind,.int .i64 x.Node,.int .i64 x.Style.Display,.int .i64 x.Style.Position,.int .i64 x.Style.Left.Kind,.int .i64 x.Style.Left.Value,.int .i64 x.Style.Top.Kind,.int .i64 x.Style.Top.Value,.int .i64 x.Style.Width.Kind,.int .i64 x.Style.Width.Value,.int .i64 x.Style.Height.Kind,.int .i64 x.Style.Height.Value,.int .i64 x.Style.MinWidth.Kind,.int .i64 x.Style.MinWidth.Value,.int .i64 x.Style.MaxWidth.Kind,.int .i64 x.Style.MaxWidth.Value,.int .i64 x.Style.Margin.a0.Kind,.int .i64 x.Style.Margin.a0.Value,.int .i64 x.Style.Margin.a1.Kind,.int .i64 x.Style.Margin.a1.Value,.int .i64 x.Style.Margin.a2.Kind,.int .i64 x.Style.Margin.a2.Value,.int .i64 x.Style.Margin.a3.Kind,.int .i64 x.Style.Margin.a3.Value,.int .i64 x.Style.Padding.a0.Kind,.int .i64 x.Style.Padding.a0.Value,.int .i64 x.Style.Padding.a1.Kind,.int .i64 x.Style.Padding.a1.Value,.int .i64 x.Style.Padding.a2.Kind,.int .i64 x.Style.Padding.a2.Value,.int .i64 x.Style.Padding.a3.Kind,.int .i64 x.Style.Padding.a3.Value,.int .i64 x.Style.Border.a0,.int .i64 x.Style.Border.a1,.int .i64 x.Style.Border.a2,.int .i64 x.Style.Border.a3,.str x.Style.BorderColor,.str x.Style.Color,.str x.Style.Background,.int .i64 x.Style.FontSize,.int .i64 x.Style.LineHeight,.int .i64 x.Style.TextAlign,.int .i64 x.Style.WhiteSpace,.int .i64 x.Style.VAlign,.int .i64 x.Style.Direction,.bool x.Style.Wrap,.int .i64 x.Style.Grow,.int .i64 x.Style.Shrink,.int .i64 x.Style.Basis.Kind,.int .i64 x.Style.Basis.Value,.int .i64 x.Style.Order,.int .i64 x.Style.Z,.bool x.Style.ZAuto,.int .i64 x.Style.Overflow,.int .i64 x.Style.Visibility,.str x.Text,.int .i64 x.Rows,.int .i64 x.Cols,.sl (List.map ax x.Kids)]
theorem b8 (x:ab):ax x=aF x:=by
  cases x; simp only [ax,aF,sW]
theorem co (x:ab):(ax x).length=59:=by rw [b8]; rfl
def wTBoxtreeBox (p:ab×Option (List ab)):ab:={ p.1 with Kids:=p.2.getD [] }
def uTBoxtreeBox (x:ab) (l:List ab):ab:={ x with Kids:=l }
theorem vU (x:ab) (l:List ab):(ax x).set 58 (.sl (l.map ax))=ax (uTBoxtreeBox x l):=by rw [b8,b8]; rfl
theorem TBoxtreeBox_uos (x:ab):(ax x).map AV.unosl=ax x:=by rw [b8]; rfl
theorem wg (x:ab):(ax x).all AV.flatC=true:=by rw [b8]; rfl
structure aB where
  Pos:Int
  Neg:Int
def eX:aB:=⟨0,0⟩
instance:Inhabited aB:=⟨eX⟩
def bR (x:aB):List AV:=[.int .i64 x.Pos,.int .i64 x.Neg]
structure aa where
  Kind:Int
  Node:Int
  X:Int
  Y:Int
  W:Int
  H:Int
  Base:Int
  Text:ByteArray
  Style:aG
  Before:aB
  After:aB
  Empty:Bool
  Kids:(List aa)
def aX:aa:=⟨0,0,0,0,0,0,0,⟨#[]⟩,⟨0,0,⟨0,0⟩,⟨0,0⟩,⟨0,0⟩,⟨0,0⟩,⟨0,0⟩,⟨0,0⟩,⟨⟨0,0⟩,⟨0,0⟩,⟨0,0⟩,⟨0,0⟩⟩,⟨⟨0,0⟩,⟨0,0⟩,⟨0,0⟩,⟨0,0⟩⟩,⟨0,0,0,0⟩,⟨#[]⟩,⟨#[]⟩,⟨#[]⟩,0,0,0,0,0,0,false,0,0,⟨0,0⟩,0,0,false,0,0⟩,⟨0,0⟩,⟨0,0⟩,false,[]⟩
instance:Inhabited aa:=⟨aX⟩
mutual
def ao:aa→List AV
  | ⟨Kind,Node,X,Y,W,H,Base,Text,Style,Before,After,Empty,Kids⟩=>[.int .i64 Kind,.int .i64 Node,.int .i64 X,.int .i64 Y,.int .i64 W,.int .i64 H,.int .i64 Base,.str Text,.int .i64 Style.Display,.int .i64 Style.Position,.int .i64 Style.Left.Kind,.int .i64 Style.Left.Value,.int .i64 Style.Top.Kind,.int .i64 Style.Top.Value,.int .i64 Style.Width.Kind,.int .i64 Style.Width.Value,.int .i64 Style.Height.Kind,.int .i64 Style.Height.Value,.int .i64 Style.MinWidth.Kind,.int .i64 Style.MinWidth.Value,.int .i64 Style.MaxWidth.Kind,.int .i64 Style.MaxWidth.Value,.int .i64 Style.Margin.a0.Kind,.int .i64 Style.Margin.a0.Value,.int .i64 Style.Margin.a1.Kind,.int .i64 Style.Margin.a1.Value,.int .i64 Style.Margin.a2.Kind,.int .i64 Style.Margin.a2.Value,.int .i64 Style.Margin.a3.Kind,.int .i64 Style.Margin.a3.Value,.int .i64 Style.Padding.a0.Kind,.int .i64 Style.Padding.a0.Value,.int .i64 Style.Padding.a1.Kind,.int .i64 Style.Padding.a1.Value,.int .i64 Style.Padding.a2.Kind,.int .i64 Style.Padding.a2.Value,.int .i64 Style.Padding.a3.Kind,.int .i64 Style.Padding.a3.Value,.int .i64 Style.Border.a0,.int .i64 Style.Border.a1,.int .i64 Style.Border.a2,.int .i64 Style.Border.a3,.str Style.BorderColor,.str Style.Color,.str Style.Background,.int .i64 Style.FontSize,.int .i64 Style.LineHeight,.int .i64 Style.TextAlign,.int .i64 Style.WhiteSpace,.int .i64 Style.VAlign,.int .i64 Style.Direction,.bool Style.Wrap,.int .i64 Style.Grow,.int .i64 Style.Shrink,.int .i64 Style.Basis.Kind,.int .i64 Style.Basis.Value,.int .i64 Style.Order,.int .i64 Style.Z,.bool Style.ZAuto,.int .i64 Style.Overflow,.int .i64 Style.Visibility,.int .i64 Before.Pos,.int .i64 Before.Neg,.int .i64 After.Pos,.int .i64 After.Neg,.bool Empty,.sl (oS Kids)]
def oS:List aa→List (List AV)
  | []=>[]
  | x::r=>ao x::oS r
end
theorem sG:∀ l:List aa,oS l=l.map ao
  | []=>by simp [oS]
  | x::r=>by simp [oS,sG r]
def aD (x:aa):List AV:=[.int .i64 x.Kind,.int .i64 x.Node,.int .i64 x.X,.int .i64 x.Y,.int .i64 x.W,.int .i64 x.H,.int .i64 x.Base,.str x.Text,.int .i64 x.Style.Display,.int .i64 x.Style.Position,.int .i64 x.Style.Left.Kind,.int .i64 x.Style.Left.Value,.int .i64 x.Style.Top.Kind,.int .i64 x.Style.Top.Value,.int .i64 x.Style.Width.Kind,.int .i64 x.Style.Width.Value,.int .i64 x.Style.Height.Kind,.int .i64 x.Style.Height.Value,.int .i64 x.Style.MinWidth.Kind,.int .i64 x.Style.MinWidth.Value,.int .i64 x.Style.MaxWidth.Kind,.int .i64 x.Style.MaxWidth.Value,.int .i64 x.Style.Margin.a0.Kind,.int .i64 x.Style.Margin.a0.Value,.int .i64 x.Style.Margin.a1.Kind,.int .i64 x.Style.Margin.a1.Value,.int .i64 x.Style.Margin.a2.Kind,.int .i64 x.Style.Margin.a2.Value,.int .i64 x.Style.Margin.a3.Kind,.int .i64 x.Style.Margin.a3.Value,.int .i64 x.Style.Padding.a0.Kind,.int .i64 x.Style.Padding.a0.Value,.int .i64 x.Style.Padding.a1.Kind,.int .i64 x.Style.Padding.a1.Value,.int .i64 x.Style.Padding.a2.Kind,.int .i64 x.Style.Padding.a2.Value,.int .i64 x.Style.Padding.a3.Kind,.int .i64 x.Style.Padding.a3.Value,.int .i64 x.Style.Border.a0,.int .i64 x.Style.Border.a1,.int .i64 x.Style.Border.a2,.int .i64 x.Style.Border.a3,.str x.Style.BorderColor,.str x.Style.Color,.str x.Style.Background,.int .i64 x.Style.FontSize,.int .i64 x.Style.LineHeight,.int .i64 x.Style.TextAlign,.int .i64 x.Style.WhiteSpace,.int .i64 x.Style.VAlign,.int .i64 x.Style.Direction,.bool x.Style.Wrap,.int .i64 x.Style.Grow,.int .i64 x.Style.Shrink,.int .i64 x.Style.Basis.Kind,.int .i64 x.Style.Basis.Value,.int .i64 x.Style.Order,.int .i64 x.Style.Z,.bool x.Style.ZAuto,.int .i64 x.Style.Overflow,.int .i64 x.Style.Visibility,.int .i64 x.Before.Pos,.int .i64 x.Before.Neg,.int .i64 x.After.Pos,.int .i64 x.After.Neg,.bool x.Empty,.sl (List.map ao x.Kids)]
theorem cm (x:aa):ao x=aD x:=by
  cases x; simp only [ao,aD,sG]
theorem db (x:aa):(ao x).length=67:=by rw [cm]; rfl
def wTBlockFragment (p:aa×Option (List aa)):aa:={ p.1 with Kids:=p.2.getD [] }
def uTBlockFragment (x:aa) (l:List aa):aa:={ x with Kids:=l }
theorem vj (x:aa) (l:List aa):(ao x).set 66 (.sl (l.map ao))=ao (uTBlockFragment x l):=by rw [cm,cm]; rfl
theorem xq (x:aa):(ao x).map AV.unosl=ao x:=by rw [cm]; rfl
theorem uQ (x:aa):(ao x).all AV.flatC=true:=by rw [cm]; rfl
structure bp where
  rows:(List ab)
  cells:(List ab)
  places:(List ae)
  columns:(List am)
def fd:bp:=⟨[],[],[],[]⟩
instance:Inhabited bp:=⟨fd⟩
def di (x:bp):List AV:=[.sl (List.map ax x.rows),.sl (List.map ax x.cells),.sl (List.map aC x.places),.sl (List.map aM x.columns)]
structure aS where
  Margin:(V4 Int)
  Border:(V4 Int)
  Padding:(V4 Int)
  Content:Int
def fY:aS:=⟨⟨0,0,0,0⟩,⟨0,0,0,0⟩,⟨0,0,0,0⟩,0⟩
instance:Inhabited aS:=⟨fY⟩
def bI (x:aS):List AV:=[.int .i64 x.Margin.a0,.int .i64 x.Margin.a1,.int .i64 x.Margin.a2,.int .i64 x.Margin.a3,.int .i64 x.Border.a0,.int .i64 x.Border.a1,.int .i64 x.Border.a2,.int .i64 x.Border.a3,.int .i64 x.Padding.a0,.int .i64 x.Padding.a1,.int .i64 x.Padding.a2,.int .i64 x.Padding.a3,.int .i64 x.Content]
inductive Fv where
  | fn (id:Nat)
  | c31 (a0:Int)
  | c36 (a0:Int)
  | c59 (a0:(List Int))
  | c65 (a0:Fv) (a1:(List ae))
instance:Inhabited Fv:=⟨.fn 0⟩
def Fv.id:Fv→Nat
  | .fn i=>i
  | .c31 _=>31
  | .c36 _=>36
  | .c59 _=>59
  | .c65 _ _=>65
def Fv.caps:Fv→List AV
  | .fn _=>[]
  | .c31 a0=>[.cptr [.int .i64 a0]]
  | .c36 a0=>[.cptr [.int .i64 a0]]
  | .c59 a0=>[.cptr [.sl (List.map (eInt .i64) a0)]]
  | .c65 a0 a1=>[.cptr [.fn a0.id a0.caps],.cptr [.sl (List.map aC a1)]]
structure bw where
  Layout:Fv
  Widths:Fv
  Lines:Fv
  Spread:Fv
def zTBlockEnv:bw:=⟨(Fv.fn 0),(Fv.fn 0),(Fv.fn 0),(Fv.fn 0)⟩
instance:Inhabited bw:=⟨zTBlockEnv⟩
def cj (x:bw):List AV:=[.fn x.Layout.id x.Layout.caps,.fn x.Widths.id x.Widths.caps,.fn x.Lines.id x.Lines.caps,.fn x.Spread.id x.Spread.caps]
structure Kn where
  fT:(List Int)→Int→Int→Int→Fv→Option (List Int)
  dP:Fv→Int→Int→Option Int
  oA:Fv→Int→Option Bool
  oZ:Fv→(List ab)→aG→Int→Option ((List aa)×Int)
  nz:Fv→(List ab)→aG→Option (Int×Int)
  q6:Fv→ab→Int→Option aa
  gM:Fv→ab→Option Bool
  qc:Fv→ab→Option (Int×Int)
  l4:Fv→ae→Option Bool
  fW:Fv→ae→Option Int
end Go.Proofs.Ytolhpahjgddjkaa
